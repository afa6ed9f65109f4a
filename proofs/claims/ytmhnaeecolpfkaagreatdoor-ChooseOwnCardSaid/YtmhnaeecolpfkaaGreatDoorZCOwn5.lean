/- A part of the proof: Mi, Mj, Mk, Ml, Mm, Mn, Mo, Mp, Mq, Mr, Ms, Mt, Mu, Mv, Mw, Mx, My, Mz, Na, Tk, Om, On, Ja. -/
import Derived.Test.YtmhnaeecolpfkaaGreatDoorZCOwn4
import Derived.Laws.BytesArg
set_option linter.unusedSimpArgs false
set_option linter.unusedVariables false
open Go.Value renaming int->UH,slice->UM,pointer->UN
open Go.IntKind renaming i64->UI,i32->UJ
open Option renaming some->UK,none->UL
open Bool renaming true->UO,false->UP
open Go.Proofs.Tryz renaming prog->UQ
open Go.Proofs
namespace Go.Lft
def MS.BX(m:MS)(b:Nat)(t:cS):MS:={ m with blocks:=m.blocks.set b { nth m.blocks b with term:=t } }
def cmpL:List Int:=[11,12,13]
def js(s:List Int)(to:List Int)(b:Nat)(m:MS):cS × MS:=
 if to.length=0 then
  if aT s m.at_ 8=0 then(⟨5,[],[],⟨IntKind.i32.wrap (aT s (m.at_+1) 200)⟩⟩,m.took.took)
  else if 1<aT s m.at_ 8 then(⟨4,[(aU s m.took b).1],[],⟨0⟩⟩,(aU s m.took b).2)
  else(⟨4,[],[],⟨0⟩⟩,m.took)
 else if to.length=1 then(⟨1,[],to,⟨0⟩⟩,m)
 else if to.length=2 then
  let r:=aU s m b
  if aT s r.2.at_ 2=0 then
   let w:=aU s r.2.took b
   (⟨2,[w.2.next],to,⟨0⟩⟩,w.2.aV.took.add b ⟨nth cmpL (aT s w.2.at_ 3).toNat,w.2.next,0,[r.1,w.1],⟨0⟩⟩)
  else(⟨2,[r.1],to,⟨0⟩⟩,r.2.took)
 else
  let r:=aU s m b
  let m2:=r.2.constant b 7
  (⟨3,[m2.next],to,⟨0⟩⟩,m2.two b 5 r.1 r.2.next)
def rZ(s:List Int)(to:List Int)(b:Nat)(m:MS):MS:=(js s to b m).2.BX b (js s to b m).1
section
variable{s:List Int}{M:Nat}{vs:Value}{W0:View}{h:Heap}{o0:Own}{m:MS}{u:Value}{ds:List Int}
theorem Nz.dW{po:OP}(n:Nz s M vs W0 h o0 m u ds){k:Key}{e:TypeId}{B N i:Nat}{l:List Value}{ty t:TypeId}{us:List (Nat × Value)}{x y:Operand}{v:Value}{K:Value->Heap->Prop}(h3:3<=k.1)(hk:o0 k=bx e B (RawN.mk (n:=N) l))(hi:i<=N)(hsz:cU UQ t=UK 1)(hx:asg us x = UN (UK ⟨B,i,UL⟩))(hy:asg us y=v)(hv:v.oneCell'=UO)
  (hK : ∀h',Nz s M vs W0 h' (o0.upd k (bx e B (RawN.mk (n:=N) (l.set i v)))) m u ds->K undef h'):@Lft.step po UQ (.store t x y) ty us h K:=by
 obtain⟨W,o,g1,w,f,sl⟩:=n;refine w.own.dW (k:=k) (n:=N) (i:=i) (e:=e) (B:=B) (l:=l) ((f k h3).trans hk) hi hsz hx hy hv λh' w' _=>hK h' ?_;obtain⟨vb,vl,lb,bb⟩:=w.box;refine⟨W,_,g1,⟨w',w.src,vb,vl,lb,bb.frame λq hq=>Own.aB (by rintro rfl;omega)⟩,λq hq=>?_,sl⟩;unfold Own.upd;split
 ·rfl
 exact f q hq
theorem Nz.re(n:Nz s M vs W0 h o0 m u ds){o0':Own}(he : ∀k,o0' k=o0 k):Nz s M vs W0 h o0' m u ds:=by obtain⟨W,o,g1,w,f,sl⟩:=n;exact⟨W,o,g1,w,λk hk=>(f k hk).trans (he k).symm,sl⟩
theorem Mk.Lu{po:OP}{W:View}{o:Own}(w:Mk s M vs W h o m){vb vl:Value}{lb:List BlkM}(bb:MkB M vs m o vb vl lb){b:Nat}{t:cS}{v:Value}{ty ty2:TypeId}{us:List (Nat × Value)}{x y:Operand}{K:Value->Heap->Prop}(hb:b<m.blocks.length)(hsz:cU UQ ty2=UK 4)(hx:asg us x = UN (UK (((slA vb).add (b*6)).add 2)))(hy:asg us y=v)(hr:Rd W v t)(hK : ∀h' o',Mk s M vs W h' o' (m.BX b t)->(∀k:Key,3<=k.1->o' k=o k)->K undef h'):@Lft.step po UQ (.store ty2 x y) ty us h K:=by
 have hbl:b<lb.length:=by rw[bb.len];exact hb
 refine w.own.sF (k:=(0,2)) (α:=BlkM) BlkM.lF (v:=vb) (l:=lb) (i:=b) (d:=t) bb.blk hsz hx hy hbl hr λh7 w7 _=>?_;refine hK h7 _ ⟨w7,w.src,vb,vl,_,bb.gY hb (x':={ nth m.blocks b with term:=t }) (y':={ lb[b]with term:=t }) rfl Own.ao ?_ ?_ λq h1 _ _=>Own.aB h1⟩ (pn U3)
 ·rw[Own.aB U2,bb.phis b hb,aC hbl]
 rw[Own.aB U2,bb.ins b hb,aC hbl]
end
theorem HS{H:View}{va vt:Value}{a t:List Int}{kd:Int}{imm:I32}(h3:SlRd H va a)(h4:SlRd H vt t)(h5:I64 kd)(h6:-2147483648<=imm.v/\imm.v<=2147483647):Rd H (.agg #[UH UI kd,va,vt,UH UJ imm.v]) (cS.mk kd a t imm):=
 ⟨_,rfl,[UH UI kd],_,rfl,⟨rfl,h5⟩,[va],_,rfl,⟨va,rfl,h3⟩,[vt],_,rfl,⟨vt,rfl,h4⟩,rfl,h6⟩
theorem Kf: ∀x∈cmpL,I64 x:=by
 intro x hx;have : ∀x∈cmpL,0<=x/\x<=13:=by decide
 have:=this x hx;exact U6
theorem O2{s:List Int}{M:Nat}{vs:Value}{W0:View}{h:Heap}{o0:Own}{m:MS}{vt:Value}{to:List Int}(n:Nx s M vs W0 h o0 m){b c:Nat}(hb:b<m.blocks.length)(hm:m.ok c)(hc:c<=800000)(hfree:o0 (9,1)=UL)(ht:SlRd W0 vt to):
  ay UQ 41 #[ptz M,UH UI b,vt] h (λv h'=>Nx s M vs W0 h' o0 (rZ s to b m)):=by
 refine aq (args:=[ptz M,UH UI b,vt]) follows Tryz.func41 E.jO UC λK hK=>?_;dsimp only[L.jO,lkF,lkG];have hmm:rZ s to b m=_:=rZ.eq_1 s to b m;have htm:js s to b m=_:=js.eq_1 s to b m;obtain⟨Wb,ob,gb,wb,fb⟩:=n;refine aa λz hz=>?_;simp;refine aA (z:=zz9) (places:=zpe) (vs:=[]) (cs:=#[UH UI 0,UM UL 0 0,UM UL 0 0,UH UJ 0]) U0 U0 U2 U0 ?_;refine wb.own.eC (k:=(9,1)) (n:=3) (l:=[UH UI 0,UM UL 0 0,UM UL 0 0,UH UJ 0]) ((fb _ U3).trans hfree) (z:=zz9) U0 rfl U0 rfl U3 U7 U5 U5 λh1 q1 w1=>?_;generalize h.size=B at w1;obtain⟨o1,ho1⟩ : ∃o1,o1=ob.upd (9,1) (bx T.jH B (RawN.mk (n:=3) [UH UI 0,UM UL 0 0,UM UL 0 0,UH UJ 0])):=⟨_,rfl⟩;have k1:o1 (9,1)=bx T.jH B (RawN.mk (n:=3) [UH UI 0,UM UL 0 0,UM UL 0 0,UH UJ 0]):=by rw[ho1,Own.ao]
 have ht:=ht.mono gb;have n:Nz s M vs Wb h1 o1 m (UM UL 0 0) []:=by obtain⟨vb,vl,lb,bb⟩:=wb.box;rw[ho1];exact⟨Wb,_,View.le_refl _,⟨w1,wb.src,vb,vl,lb,bb.frame λq hq=>Own.aB (by rintro rfl;simp at hq)⟩,λ_ _=>rfl,aS⟩
 have back : ∀{h':Heap} {W':View} {o':Own} {m':MS} {i:Option Lft.Item},Wb.le W'->Mk s M vs W' h' o' m'->(∀k:Key,3<=k.1->o' k=o1.upd (9,1) i k)->Nx s M vs W0 h' o0 m':=by
  intro h' W' o' m' i g w f;refine⟨W',o'.upd (9,1) UL,UF gb g,⟨w.own.sub λq j hq=>?_,w.src,?_⟩,λk hk=>?_⟩
  ·unfold Own.upd at hq;split at hq
   ·cases hq
   exact hq
  ·obtain⟨vb,vl,lb,bb⟩:=w.box;exact⟨vb,vl,lb,bb.frame λq hq=>Own.aB (by rintro rfl;simp at hq)⟩
  by_cases e:k=(9,1)
  ·rw[e,Own.ao,hfree]
  rw[Own.aB e,f k hk,Own.aB e,ho1,Own.aB e,fb k hk]
 clear wb w1 q1;subst hz;refine aa λz hz=>?_;have fin : ∀(kd:Int) (va vt':Value) (args to':List Int) (im:Int) (m2:MS) (h':Heap) (ρ:Env),js s to b m=(⟨kd,args,to',⟨im⟩⟩,m2)->I64 kd->(-2147483648<=im/\im<=2147483647)->b<m2.blocks.length->Nz s M vs Wb h' (o1.upd (9,1) (bx T.jH B (RawN.mk (n:=3) [UH UI kd,va,vt',UH UJ im]))) m2 va args->SlRd Wb vt' to'->Lft.look ρ 0=UK (ptz M)->Lft.look ρ 1=UK (UH UI b)->Lft.look ρ 6=UK (ptz B)->LC.wp UQ z (dY [] K) ρ h':=by
  intro kd va vt' args to' im m2 h' ρ e ikd iim hb n ht' r0 r1 r6;subst hz;rw[e]at hmm;obtain⟨W,o,g1,w,f,sl⟩:=n;obtain⟨vb,vl,lb,bb⟩:=w.box;have hk:o (9,1)=bx T.jH B (RawN.mk (n:=3) [UH UI kd,va,vt',UH UJ im]):=(f _ U3).trans Own.ao;have c4:=w.own.BW (k:=(9,1)) (n:=3) hk;have c4:Un.ev (vw h') (.bM 4) (ptz B)=UK (.agg #[UH UI kd,va,vt',UH UJ im]):=c4;have c3:an (vw h') ⟨M,3,UL⟩=UK vb:=bb.cell w.own (i:=3) U3;have hbl:b<lb.length:=by rw[bb.len];exact hb
  have sb:=w.own.now bb.blk;have sbb:=sb.bound;refine aK (vw h') UE ?_;simp(disch:=omega)[r0,r1,r6,c3,c4,sb.idxn (N:=6) rfl];refine w.Lu bb (b:=b) (t:=⟨kd,args,to',⟨im⟩⟩) hb U0 rfl rfl (HS (imm:=⟨im⟩) sl (ht'.mono g1) ikd iim) λh2 o2 w2 f2=>?_;refine hK _ _ ?_;rw[hmm];exact back g1 w2 λk hk=>(f2 k hk).trans (f k hk)
 have hlen : ∀{Q:View},Un.ev Q .len vt=UK (UH UI to.length):=fun{Q}=>ht.len;refine aa λy hy=>?_;simp[hlen];subst hy;simp only[aW];refine aa λy hy=>?_;simp;subst hy;by_cases c0:to.length=0
 ·have c0':to=[]:=Ry c0;rw[if_pos c0]at htm;refine aQ (by simp[c0,c0']) ?_;refine aa λy hy=>?_;simp;refine n.dW (k:=(9,1)) (i:=0) U3 k1 U3 U0 rfl rfl rfl λh2 n=>?_;subst hy;refine aa λy hy=>?_;simp;refine ah U0 (fq n hm U1 (k:=8) U3 U3) ?_;rintro _ h3 ⟨rfl,n⟩;obtain⟨t0,t1⟩:=dv (s:=s) (at_:=m.at_) (n:=8) U3;subst hy;refine aa λy hy=>?_;simp;subst hy;have n:Nz s M vs Wb h3 (o1.upd (9,1) (bx T.jH B (RawN.mk (n:=3) [UH UI 4,UM UL 0 0,UM UL 0 0,UH UJ 0]))) m.took (UM UL 0 0) []:=n;by_cases c1:aT s m.at_ 8=0
  ·rw[if_pos c1]at htm;refine aQ (by simp[c1]) ?_;refine aa λy hy=>?_;simp;refine n.dW (k:=(9,1)) (i:=0) U3 Own.ao U3 U0 rfl rfl rfl λh4 n=>?_;subst hy;simp;refine ah U0 (fq n hm.took U1 (k:=200) U3 U3) ?_;rintro _ h5 ⟨rfl,n⟩;have hx:m.took.at_=m.at_+1:=rfl;rw[hx];simp;refine n.dW (k:=(9,1)) (i:=3) U3 Own.ao U3 U0 rfl rfl rfl λh6 n=>?_;refine fin 5 (UM UL 0 0) (UM UL 0 0) [] [] _ _ h6 _ htm i64c nZ hb ?_ aS ?_ ?_ ?_
   ·exact n.re λk=>by rw[fm,fm];rfl
   all_goals simp
  rw[if_neg c1]at htm;refine bg (by simp[c1]) ?_;refine aa λy hy=>?_;simp;subst hy;by_cases c2:1<aT s m.at_ 8
  ·rw[if_pos c2]at htm;refine aQ (by simp[c2]) ?_;simp;refine ah U0 (jm n (b:=b) hb hm.took U1) ?_;rintro _ h4 ⟨⟨rfl,i4⟩,n⟩;have hb2:b<(aU s m.took b).2.blocks.length:=by rw[eu];exact hb
   generalize aU s m.took b=r at htm i4 n hb2;refine n.lit (ls:=[r.1]) U2 (by simp[i4]) rfl U3 λua un uc h5 _ n=>?_;refine n.dW (k:=(9,1)) (i:=1) U3 Own.ao U3 U0 rfl rfl rfl λh6 n=>?_;refine fin 4 (.slice ua un uc) (UM UL 0 0) [r.1] [] 0 _ h6 _ htm i64c U3 hb2 (n.re λk=>by rw[fm];rfl) aS ?_ ?_ ?_;all_goals simp
  rw[if_neg c2]at htm;refine bg (by simp[c2]) ?_;simp;refine fin 4 (UM UL 0 0) (UM UL 0 0) [] [] 0 _ h3 _ htm i64c U3 hb n aS ?_ ?_ ?_;all_goals simp
 rw[if_neg c0]at htm;have c0':¬to=[]:=λe=>c0 (by rw[e];rfl);have hvt:vt.oneCell'=true:=ht.cells.2;refine bg (by simp[c0']) ?_;refine aa λy hy=>?_;simp;subst hy;by_cases c1:to.length=1
 ·rw[if_pos c1]at htm;refine aQ (by simp[c1]) ?_;refine aa λy hy=>?_;simp;refine n.dW (k:=(9,1)) (i:=0) U3 k1 U3 U0 rfl rfl rfl λh2 n=>?_;subst hy;simp;refine n.dW (k:=(9,1)) (i:=2) U3 Own.ao U3 U0 rfl rfl hvt λh3 n=>?_;refine fin 1 (UM UL 0 0) vt [] to 0 _ h3 _ htm i64c U3 hb (n.re λk=>by rw[fm];rfl) ht ?_ ?_ ?_;all_goals simp
 rw[if_neg c1]at htm;refine bg U9 ?_;refine aa λy hy=>?_;simp;subst hy;by_cases c2:to.length=2
 ·rw[if_pos c2]at htm;refine aQ (by simp[c2]) ?_;refine aa λy hy=>?_;simp;refine n.dW (k:=(9,1)) (i:=0) U3 k1 U3 U0 rfl rfl rfl λh2 n=>?_;subst hy;refine aa λy hy=>?_;simp;refine n.dW (k:=(9,1)) (i:=2) U3 Own.ao U3 U0 rfl rfl hvt λh3 n=>?_;have n:Nz s M vs Wb h3 (o1.upd (9,1) (bx T.jH B (RawN.mk (n:=3) [UH UI 2,UM UL 0 0,vt,UH UJ 0]))) m (UM UL 0 0) []:=n.re λk=>by rw[fm];rfl
  subst hy;refine aa λy hy=>?_;simp;refine ah U0 (jm n (b:=b) hb hm U1) ?_;rintro _ h4 ⟨⟨rfl,i4⟩,n⟩;have q:=hm.aU (s:=s) (b:=b);have hb2:b<(aU s m b).2.blocks.length:=by rw[eu];exact hb
  simp only at htm;generalize aU s m b=r at htm i4 n hb2 q;subst hy;refine aa λy hy=>?_;have fin2 : ∀(v:Int) (m3:MS) (h':Heap) (ρ:Env) (u:Value) (ds:List Int),js s to b m=(⟨2,[v],to,⟨0⟩⟩,m3)->I64 v->b<m3.blocks.length->Nz s M vs Wb h' (o1.upd (9,1) (bx T.jH B (RawN.mk (n:=3) [UH UI 2,UM UL 0 0,vt,UH UJ 0]))) m3 u ds->Lft.look ρ 0=UK (ptz M)->Lft.look ρ 1=UK (UH UI b)->Lft.look ρ 6=UK (ptz B)->Lft.look ρ 8=UK (UH UI v)->LC.wp UQ y (dT 0 (fJ (LC.wp UQ z (dY [] K)) (dY [] K))) ρ h':=by intro v m3 h' ρ u ds e iv hb n r0 r1 r6 r8;subst hy;simp[af,ag,r0,r1,r6,r8];refine n.lit (ls:=[v]) U2 (by simp[iv]) rfl U3 λua un uc h5 _ n=>?_;refine n.dW (k:=(9,1)) (i:=1) U3 Own.ao U3 U0 rfl rfl rfl λh6 n=>?_;refine fin 2 (.slice ua un uc) vt [v] to 0 _ h6 _ e i64c U3 hb (n.re λk=>by rw[fm];rfl) ht ?_ ?_ ?_;all_goals simp[af,ag,r0,r1,r6,r8]
  refine aa λx hx=>?_;simp;refine ah U0 (fq n q U1 (k:=2) U3 U3) ?_;rintro _ h5 ⟨rfl,n⟩;simp;subst hx;by_cases c3:aT s r.2.at_ 2=0
  ·rw[if_pos c3]at htm;refine aQ (by simp[c3]) ?_;refine aa λx hx=>?_;simp;refine aA (z:=zz0) (places:=[(0,1),(1,1),(2,1)]) (vs:=[(0,UH UI 11),(1,UH UI 12),(2,UH UI 13)]) (cs:=#[UH UI 11,UH UI 12,UH UI 13]) U0 U0 U2 U0 ?_;refine fO (v:=.agg #[UH UI 11,UH UI 12,UH UI 13]) (z:=.agg #[UH UI 0,UH UI 0,UH UI 0]) (n:=3) U0 rfl U0 rfl U8 U5 U5 λh6 hle6 hs6 hb6=>?_;have n:Nz s M vs Wb h6 (o1.upd (9,1) (bx T.jH B (RawN.mk (n:=3) [UH UI 2,UM UL 0 0,vt,UH UJ 0]))) r.2.took (UM (UK ⟨h5.size,0,UL⟩) 3 3) cmpL:=by
    obtain⟨W,o,g1,g2,g3,g4⟩:=n;refine⟨_,o,UF g1 (bo g2.own.wle),⟨g2.own.ext hle6,g2.src.mono (bo g2.own.wle),g2.box⟩,g3,?_⟩;have hg:grow W h5 h6 h5.size=UK (.cells (cmpL.map λx=>UH UI x).toArray T.OT (0,0)):=by rw[bY (Q4 _),hb6];rfl
    exact La hg rfl U3 Kf
   generalize h5.size=C at n;subst hx;refine aa λx hx=>?_;simp;refine ah U0 (jm n (b:=b) hb2 q.took U1) ?_;rintro _ h7 ⟨⟨rfl,i7⟩,n⟩;have q:=q.took.aU (s:=s) (b:=b);have hb3:b<(aU s r.2.took b).2.blocks.length:=by rw[eu];exact hb2
   generalize aU s r.2.took b=w at htm i7 n hb3 q;subst hx;refine aa λx hx=>?_;simp;refine ah U0 (iq n q U1) ?_;rintro _ h8 ⟨rfl,n⟩;have iw:=q.kV U1;subst hx;refine aa λx hx=>?_;simp;refine ah U0 (fq n q.aV U1 (k:=3) U3 U3) ?_;rintro _ h9 ⟨rfl,n⟩;have hfx:w.2.aV.at_=w.2.at_:=rfl;rw[hfx];obtain⟨t0,t1⟩:=dv (s:=s) (at_:=w.2.at_) (n:=3) U3;generalize aT s w.2.at_ 3=k at htm t0 t1;obtain⟨kn,rfl⟩ : ∃kn:Nat,k=kn:=⟨k.toNat,by omega⟩;rw[show((kn:Int)).toNat=kn by omega]at htm;obtain⟨iop,hop⟩:I64 (nth cmpL kn)/\an (vw h9) ⟨C,kn,UL⟩=UK (UH UI (nth cmpL kn)):=by obtain⟨W,o,g1,g2,g3,g4⟩:=n;refine⟨g4.range (i:=kn) (by show kn<3;omega),?_⟩;have:=g4.int g2.own.wle (i:=kn) (by show kn<3;omega);simpa[slA]using this
   have hix:Bn.ev (.aidx 3 1) (ptz C) (UH UI kn)=UK (UN (UK ⟨C,kn,UL⟩)):=by simp only[Bn.ev,vP,vI,RD];rw[if_pos U6];simp
   generalize nth cmpL kn=op at htm iop hop;simp[hix,hop];refine n.lit (ls:=[r.1,w.1]) U2 (by simp[i4,i7]) rfl U3 λua un uc h10 _ n=>?_;refine aA (z:=zz5) (places:=zpa) (vs:=[(0,UH UI op),(1,UH UI w.2.next),(3,.slice ua un uc)]) (cs:=#[UH UI op,UH UI w.2.next,UH UI 0,.slice ua un uc,UH UJ 0]) U0 U0 U2 U0 ?_;refine ah U0 (mD n (b:=b) hb3 q.aV.took U1 iop iw i64c U3) ?_;rintro _ h11 n;subst hx;simp;refine fin2 w.2.next _ h11 _ _ _ htm iw (by rw[nX];exact hb3) n.z ?_ ?_ ?_ ?_;all_goals simp
  rw[if_neg c3]at htm;refine bg (by simp[c3]) ?_;simp;refine fin2 r.1 _ h5 _ _ _ htm i4 hb2 n ?_ ?_ ?_ ?_;all_goals simp
 rw[if_neg c2]at htm;refine bg U9 ?_;refine aa λy hy=>?_;simp;refine n.dW (k:=(9,1)) (i:=0) U3 k1 U3 U0 rfl rfl rfl λh2 n=>?_;subst hy;refine aa λy hy=>?_;simp;refine n.dW (k:=(9,1)) (i:=2) U3 Own.ao U3 U0 rfl rfl hvt λh3 n=>?_;have n:Nz s M vs Wb h3 (o1.upd (9,1) (bx T.jH B (RawN.mk (n:=3) [UH UI 3,UM UL 0 0,vt,UH UJ 0]))) m (UM UL 0 0) []:=n.re λk=>by rw[fm];rfl
 subst hy;refine aa λy hy=>?_;simp;refine ah U0 (jm n (b:=b) hb hm U1) ?_;rintro _ h4 ⟨⟨rfl,i4⟩,n⟩;have q:=hm.aU (s:=s) (b:=b);have hb2:b<(aU s m b).2.blocks.length:=by rw[eu];exact hb
 simp only at htm;generalize aU s m b=r at htm i4 n hb2 q;subst hy;refine aa λy hy=>?_;simp;refine ah U0 (gQ n (b:=b) hb2 q U1 (k:=7) U3) ?_;rintro _ h5 ⟨rfl,n⟩;have i5:=q.kV U1;have q5:=q.constant (b:=b) (n:=7);have hb3:b<(r.2.constant b 7).blocks.length:=by rw[dZ];exact hb2
 generalize r.2.constant b 7=m2 at htm n q5 hb3;generalize r.2.next=d at htm i5;subst hy;refine aa λy hy=>?_;simp;refine ah U0 (iq n q5 U1) ?_;rintro _ h6 ⟨rfl,n⟩;have i6:=q5.kV U1;subst hy;refine aa λy hy=>?_;simp;refine n.lit (ls:=[r.1,d]) U2 (by simp[i4,i5]) rfl U3 λua un uc h7 _ n=>?_;refine aA (z:=zz5) (places:=zpa) (vs:=[(0,UH UI 5),(1,UH UI m2.next),(3,.slice ua un uc)]) (cs:=#[UH UI 5,UH UI m2.next,UH UI 0,.slice ua un uc,UH UJ 0]) U0 U0 U2 U0 ?_;refine ah U0 (mD n (b:=b) hb3 q5.aV U1 i64c i6 i64c U3) ?_;rintro _ h8 n;have n:=n.z;subst hy;simp;refine n.lit (ls:=[m2.next]) U2 (by simp[i6]) rfl U3 λua un uc h9 _ n=>?_;refine n.dW (k:=(9,1)) (i:=1) U3 Own.ao U3 U0 rfl rfl rfl λh10 n=>?_;refine fin 3 (.slice ua un uc) vt [m2.next] to 0 _ h10 _ htm i64c U3 (show b<(m2.two b 5 r.1 d).blocks.length by rw[qy];exact hb3) (n.re λk=>by rw[fm];rfl) ht ?_ ?_ ?_;all_goals simp
def wQ(f:ak)(b:Nat)(t:Th):Bool:=decide (t.blk=b)||!nth (eW f t.blk) b
def fe(f:ak)(b:Nat)(out:List Int)(t:Th):List Int:=if wQ f b t then out++t.mks else out
def jv(f:ak)(b:Nat):List Int:=(aD f).foldl (fe f b) (rows (λi=>(i:Int)) f.params.toNat)
def xQ(v:Value)(l:List Int):Own:=λk=>if k=(0,0) then it T.int v l else UL
theorem AA{v v':Value}{l l':List Int}(q:Key):xQ v' l' q=(xQ v l).upd (0,0) (it T.int v' l') q:=by
 unfold xQ Own.upd;repeat' split
 all_goals first | rfl | simp_all
theorem AN{l:List Th}{f:ak}{b c:Nat}(hl : ∀t∈l,t.mks.length<=c): ∀{out:List Int},(l.foldl (fe f b) out).length<=out.length+c*l.length:=by
 induction l with
 | nil=>intro out;simp
 | cons t l ih=>
  intro out;have h1:=ih (λt ht=>hl t (by simp[ht])) (out:=fe f b out t);have h2:(fe f b out t).length<=out.length+c:=by
   unfold fe;have:=hl t U2;split
   ·rw[Rl];omega
   omega
  rw[RG,RZ,TR];omega
theorem Av.PZ{V W:View}{v:Value}(hw:Av W v)(h:V.le W):Av V v:=λb hb=>by
 cases hv:V b with
 | none=>rfl
 | some x=>have:=h b x hv;rw[hw b hb]at this;cases this
theorem EU{W W':View}{h:Heap}{e:TypeId}{v:Value}{l:List Int}(o:OwnT W h e v l):OwnT W' h e v l:=by obtain⟨b,xs,h1,h2⟩:=o;exact⟨b,xs,h1,λi hi=>h2 i hi⟩
theorem Qe{h:Heap}{v:Value}(ha:Av (vw h) v): ∀b,v.ownBlock=UK b->h.size<=b:=λb hb=>by have:h[b]? = none:=ha b hb;rwa [Array.getElem?_eq_none_iff]at this
theorem Dq{f:ak}{b:Nat}{v:Value}{h:Heap}(hv:Rd (vw h) v f)(hsm:SmF f)(hp:0<=f.params/\f.params<=1000)(hb:b<f.blocks.length)(hmk : ∀t∈aD f,t.mks.length<=1000)(hth:(aD f).length<=1000000):
  ay UQ 42 #[v,UH UI b] h (λu h'=>(vw h).le (vw h')/\(∀b,u.ownBlock=UK b->h.size<=b)/\OwnT nothing h' T.int u (jv f b)):=by
 refine aq (args:=[v,UH UI b]) follows Tryz.func42 E.cH UC λK hK=>?_;dsimp only[L.cH,lkF,lkG];refine aa λz hz=>?_;simp;refine fT rfl hv λh1 _ hle1 hs1 hat=>?_;obtain⟨cp,vb,cb⟩:=eU hat;obtain⟨uf,huf,hufr⟩:=hat.bM rfl;have huf:Un.ev (vw h1) (.bM 2) (ptz h.size)=UK uf:=huf;generalize h.size=B at cp cb huf;subst hz;refine aa λz hz=>?_;simp;refine(Owns.start (h:=h1) (View.le_refl (vw h1))).mg (k:=(0,0)) (α:=Int) rfl El.aY λvo h2 hle2 hvo w2 _=>?_;have w2:Owns (vw h1) h2 (xQ vo []):=w2.congr λq=>by unfold xQ Own.upd;split<;>rfl
 subst hz;refine aa λz hz=>?_;simp;obtain⟨n,hn⟩ : ∃n:Nat,n=f.params.toNat:=⟨_,rfl⟩;have hpn:f.params=n:=by omega
 rw[hpn]at cp;refine cL [0,1,2,5,6] (fun(vo:Value) i=>[v,UH UI b,ptz B,vo,UH UI i]) (λvo i h3=>Owns (vw h1) h3 (xQ vo (rows (λi=>(i:Int)) i))) n vo
  rfl U1 rfl w2 (λ_ _=>rfl) (λv k h3 hk m=>by simp[ae m.wle cp]) ?_ ?_
 ·rintro vo i h3 hlt w3 K2 hK2;simp;refine w3.gy (k:=(0,0)) (α:=Int) (v:=vo) (l:=rows (λi=>(i:Int)) i) (d:=(i:Int)) rfl El.aY rfl (bw.2 ⟨rfl,by constructor<;>omega⟩) U9 U9 (λ_=>rfl) (λ_=>rfl) λu v' h4 w4 _=>?_;refine hK2 v' _ _ rfl rfl (w4.congr λq=>?_);rw[fB];exact AA q
 rintro vo h3 w3;simp;subst hz;refine aa λz hz=>?_;have huf3:Un.ev (vw h3) (.bM 2) (ptz B)=UK uf:=by have:=ed (ρ:=λ_=>UL) (e:=.un (.bM 2) (.con (ptz B))) w3.wle (by simpa using huf);simpa using this
 simp[huf3];refine ah U0 (CT hufr w3.wle hsm) ?_;rintro vt h4 ⟨hle4,hst⟩;have w4:=w3.ext hle4;have hW4:=bo (h':=h4) w3.wle;generalize grow (vw h1) h3 h4=W4 at hst w4 hW4;subst hz;refine aa λz hz=>?_;simp;have hsd:jv f b=(aD f).foldl (fe f b) (rows (λi=>(i:Int)) n):=by rw[hn];rfl
 have hlen : ∀i,((List.take i (aD f)).foldl (fe f b) (rows (λi=>(i:Int)) n)).length<=1001001000:=λi=>by
  have h1:=AN (l:=List.take i (aD f)) (f:=f) (b:=b) (c:=1000) (λt ht=>hmk t (List.mem_of_mem_take ht)) (out:=rows (λi=>(i:Int)) n);have h2:(List.take i (aD f)).length<=(aD f).length:=by simp;omega
  rw[pG]at h1;omega
 generalize rows (λi=>(i:Int)) n=base at w4 hsd hlen;have tb:=hst.bound;refine cL [0,1,2,5,7,8] (fun(vo:Value) i=>[v,UH UI b,ptz B,vo,vt,UH UI i]) (λvo i h5=>∃W,W4.le W/\Owns W h5 (xQ vo ((List.take i (aD f)).foldl (fe f b) base))) (aD f).length vo
  rfl U1 rfl ⟨W4,View.le_refl _,w4⟩ (λ_ _=>rfl) (λv k h5 hk ⟨W,q1,q2⟩=>by simp[hst.len]) ?_ ?_
 ·rintro vo i h5 hlt ⟨W5,hW5,w5⟩ K2 hK2;have hst5:=hst.mono hW5;have hl5:=hlen i;have hsucc:(List.take (i+1) (aD f)).foldl (fe f b) base=fe f b ((List.take i (aD f)).foldl (fe f b) base) (nth (aD f) i):=by rw[Rr hlt,Si,aC hlt];rfl
  generalize (List.take i (aD f)).foldl (fe f b) base=out at w5 hsucc hl5;have hat5:=hst5.at hlt;rw[<-aC hlt]at hat5;have hmt:=hmk _ (bF hlt);generalize nth (aD f) i=t at hat5 hsucc hmt;have hblk:an W5 (((slA vt).add (i*4)).add 0)=UK (UH UI t.blk):=(hat5.part Th.Nu).int;obtain⟨vm,hvm⟩:=(hat5.part Th.Qh).sl;have hvm1:an W5 (((slA vt).add (i*4)).add 2)=UK vm:=hvm.1;have hvm2:=hvm.2;have h64:=(hat5.part Th.Nu).rng;simp only[aW];refine aa λy hy=>?_;simp;subst hy;refine aa λy hy=>?_;have fin : ∀(h6:Heap) (ρ:Env) (W6:View),W5.le W6->Owns W6 h6 (xQ vo out)->Lft.look ρ 0=UK v->Lft.look ρ 1=UK (UH UI b)->Lft.look ρ 2=UK (ptz B)->Lft.look ρ 5=UK vo->Lft.look ρ 7=UK vt->Lft.look ρ 8=UK (UH UI i)->Lft.look ρ 9=UK (.bool (wQ f b t))->
    LC.wp UQ y (dT 3 (fJ K2 (dT 2 (fJ (LC.wp UQ z (dY [.tmp 4] K)) (dY [.tmp 4] K))))) ρ h6:=by
   intro h6 ρ W6 hW6 w6 r0 r1 r2 r5 r7 r8 r9;subst hy;refine aa λy hy=>?_;simp[af,ag,r9];subst hy;have hsp:fe f b out t=if wQ f b t then out++t.mks else out:=rfl;rw[hsp]at hsucc;by_cases ca:wQ f b t=UO
   ·rw[if_pos ca]at hsucc;refine aQ (by simp[af,ag,ca]) ?_;have hst6:=hst5.mono (UF hW6 w6.wle);simp(disch:=omega)[af,ag,r0,r1,r2,r5,r7,r8,hst6.idxn (N:=4) rfl,ae (UF hW6 w6.wle) hvm1];refine w6.dA (k:=(0,0)) (α:=Int) (v:=vo) (l:=out) (l2:=t.mks) rfl El.aY rfl rfl ((hvm2.mono hW6).src w6.wle) U1 U1 λv' h7 w7 _=>?_;refine hK2 v' _ _ ?_ ?_ ⟨W6,UF hW5 hW6,w7.congr λq=>?_⟩
    ·simp[af,ag,r8]
    ·simp[aX,af,ag,r0,r1,r2,r5,r7,r8]
    rw[hsucc];exact AA q
   rw[if_neg ca]at hsucc;refine bg (by simp[af,ag,ca]) ?_;simp;refine hK2 vo _ _ ?_ ?_ ⟨W6,UF hW5 hW6,by rw[hsucc];exact w6⟩
   ·simp[af,ag,r8]
   simp[aX,af,ag,r0,r1,r2,r5,r7,r8]
  refine aa λx hx=>?_;simp(disch:=omega)[(hst5.mono w5.wle).idxn (N:=4) rfl,ae w5.wle hblk];subst hx;by_cases cb:t.blk=b
  ·refine bg (by simp[cb]) ?_;simp;refine fin h5 _ W5 UE w5 ?_ ?_ ?_ ?_ ?_ ?_ ?_;all_goals simp[wQ,cb]
  refine aQ (by simp[cb]) ?_;refine aa λx hx=>?_;have hf5:Rd (vw h5) uf f:=hufr.mono (UF hW4 (UF hW5 w5.wle));have huf5:Un.ev (vw h5) (.bM 2) (ptz B)=UK uf:=by have:=ed (ρ:=λ_=>UL) (e:=.un (.bM 2) (.con (ptz B))) (UF hW4 (UF hW5 w5.wle)) (by simpa using huf);simpa using this
  refine aK (vw h5) UE ?_;simp(disch:=omega)[(hst5.mono w5.wle).idxn (N:=4) rfl,ae w5.wle hblk,huf5];refine ah U0 (zp hf5 (by have:=hsm.len;omega)) ?_;rintro ur h6 ⟨hle6,hur⟩;have w6:=w5.ext hle6;have hW6:=bo (h':=h6) w5.wle;have hur6:SlRd (vw h6) ur (eW f t.blk):=hur.mono (mh h5 h6);have hrl:(eW f t.blk).length=f.blocks.length:=uP;subst hx;simp(disch:=omega)[hur6.idx1 rfl,hur6.bool UE];refine fin h6 _ _ hW6 w6 ?_ ?_ ?_ ?_ ?_ ?_ ?_;all_goals simp[wQ,cb]
 rintro vo h5 ⟨W5,hW5,w5⟩;rw[RR,<-hsd]at w5;simp;subst hz;simp;have hX:(vw h).le W5:=UF hle1 (UF hW4 hW5);exact hK _ _ ⟨UF hX w5.wle,Qe (Av.PZ (w5.av (0,0) _ rfl) hX),EU (w5.get (k:=(0,0)) (v:=vo) rfl)⟩
theorem yI{P:Program}{Q:Post}{ρ:Env}{h:Heap}{a i c:Nat}{ks ks2:List Nat}{ce:E}{body:LC}{σ:Type}(kp:List Nat)(vals:σ->Nat->List Value)(J:σ->Nat->Heap->Prop)(n:Nat)(d:Nat)(s0:σ)
  (hok:xr kp ks ks2 c i=UO) (hn:n+d<=9223372036854775806) (h0:aX kp ρ=kp.zip (vals s0 0)) (hj:J s0 0 h)
  (hi : ∀s k,look (kp.zip (vals s k)) i=UK (UH UI ((k+d:Nat):Int)))
  (hb : ∀s k h,k<=n->J s k h->ev (look (kp.zip (vals s k))) (vw h) ce=UK (.bool (decide (k<n))))
  (round : ∀s k h,k<n->J s k h->∀K:Env->Heap->Prop,(∀s' ρ' h',look ρ' i=UK (UH UI ((k+d:Nat):Int))->aX kp (setE ρ' i (UH UI (((k+d:Nat):Int)+1)))=kp.zip (vals s' (k+1))->J s' (k+1) h'->K ρ' h')->body.wp P (fJ K (dT a Q)) (kp.zip (vals s k)) h)
  (done : ∀s h,J s n h->Q .normal (kp.zip (vals s n)) h):LC.wp P (forC a i c ks ks2 ce body) (dT a Q) ρ h:=by
 simp only[xr,RS,Q9,Sr,bne_iff_ne,Sa,beq_iff_eq,ne_eq]at hok;refine ik kp (λm ρ h=>∃s k,k<=n/\ρ=kp.zip (vals s k)/\m=n-k/\J s k h) n ⟨s0,0,by omega,h0,by omega,hj⟩ ?_;rintro m ρ h ⟨s,k,hk,rfl,rfl,hJ⟩ K hK;have hkill:cJ (kp.zip (vals s k)) ks=kp.zip (vals s k):=nE λp hp=>(hok p.1 (zip_fst hp)).1.1;have hne : ∀p∈kp.zip (vals s k),p.1≠c:=λp hp=>(hok p.1 (zip_fst hp)).1.2;have hk2 : ∀v,cJ (setE (kp.zip (vals s k)) c v) [c]=kp.zip (vals s k):=λv=>nu hne;have hlk : ∀v,look (setE (kp.zip (vals s k)) c v) c=UK v:=λv=>by rw[af,if_pos rfl]
 simp only[uV,mX,kJ,iF,ml,n7,hb s k h hk hJ,RD,lh,oe,true_and,dE,hkill,gr,nB,qX,hlk,mU,hk2,uC,uZ,qv,pN,if_true];refine⟨λhlt=>?_,λhge=>?_⟩
 ·have hlt':k<n:=by omega
  rw[oI];refine round s k h hlt' hJ _ λs' ρ' h' hl he hJ'=>?_;simp only[mX,kJ,iF,ml,n7,ni,qX,hl,oe,true_and,RD,CL,RD,BK,lh,dE,gr,true_and];rw[bc U1 U1];refine hK (n-(k+1)) _ _ U1 ⟨s',k+1,by omega,?_,rfl,hJ'⟩;rw[<-he];refine pk λt ht=>?_;rw[af,af,ag];split
  ·rfl
  rename_i hti;rcases(hok t ht).2 with e | e
  ·exact absurd e.symm hti
  rw[e];rfl
 have:k=n:=by omega
 subst this;exact done s h hJ
open Classical in
/-- Several of one's own, written no more. -/
theorem Owns.AX{W:View}{h:Heap}{o:Own}(w:Owns W h o)(S:Key->Bool) :
  ∃W':View,W.le W'/\Owns W' h (λk=>if S k then UL else o k)/\∀{k:Key} {α:Type} [r:Rep α] {e:TypeId} {v:Value} {l:List α},S k=UO->o k=it e v l->SlRd W' v l:=by
 have hle:W.le (λb=>if ∃k i,S k=UO/\o k=UK i/\i.v.ownBlock=UK b then h[b]? else W b):=λb x hb=>by
  show(if _ then _ else _)=_;rw[if_neg]
  ·exact hb
  rintro⟨k,i,_,h2,h3⟩;rw[w.av k i h2 b h3]at hb;cases hb
 refine⟨λb=>if ∃k i,S k=UO/\o k=UK i/\i.v.ownBlock=UK b then h[b]? else W b,hle,?_,?_⟩
 ·refine⟨λb x hb=>?_,λk i hk=>?_,λk i hk b hb=>?_,λk k' i i' b hk hk'=>?_⟩
  ·split at hb
   ·exact hb
   exact w.wle b x hb
  ·split at hk
   ·cases hk
   exact @OwnT.mono i.α i.rep _ _ _ _ _ (w.own k i hk) _ hle
  ·split at hk
   ·cases hk
   rename_i hs;show(if _ then _ else _)=_;rw[if_neg]
   ·exact w.av k i hk b hb
   rintro⟨k',i',h1,h2,h3⟩;exact hs (w.dj k k' i i' b hk h2 hb h3▸h1)
  split at hk
  ·cases hk
  split at hk'
  ·cases hk'
  exact w.dj k k' i i' b hk hk'
 intro k α r e v l hs hk;refine(w.get hk).rd hle λb hb=>?_;rw[if_pos ⟨k,_,hs,hk,hb⟩]
theorem Owns.nils{W:View}{h:Heap}{o o':Own}(w:Owns W h o)(ho : ∀k i,o' k=UK i->o k=UK i\/(i.v = UM UL 0 0/\@OwnT i.α i.rep W h i.e i.v i.l)):Owns W h o':=by
 have hnb : ∀{i:Item} {b:Nat},i.v = UM UL 0 0->i.v.ownBlock=UK b->False:=λe hb=>by rw[e]at hb;simp[Value.ownBlock]at hb
 refine⟨w.wle,λk i hk=>?_,λk i hk b hb=>?_,λk k' i i' b hk hk' hb hb'=>?_⟩
 ·rcases ho k i hk with h1 | ⟨_,h1⟩
  ·exact w.own k i h1
  exact h1
 ·rcases ho k i hk with h1 | ⟨e,_⟩
  ·exact w.av k i h1 b hb
  exact(hnb e hb).elim
 rcases ho k i hk with h1 | ⟨e,_⟩
 ·rcases ho k' i' hk' with h2 | ⟨e,_⟩
  ·exact w.dj k k' i i' b h1 h2 hb hb'
  exact(hnb e hb').elim
 exact(hnb e hb).elim
abbrev TgS:=List (List Int) × MS
def qD(x:TgS)(p b:Nat)(m:MS):TgS:=(x.1.set p (nth x.1 p++[(b:Int)]),m)
def tgA(s:List Int)(k:Nat)(x:TgS):TgS:=
 if aT s x.2.at_ 3=0 then qD x (aT s (x.2.at_+1) ((k+1:Nat):Int)).toNat (k+1) x.2.took.took
 else qD x k (k+1) x.2.took
def tgI(s:List Int)(n b:Nat)(x:TgS):TgS:=
 let t:=1+aT s x.2.at_ ((n:Int)-1)
 if t<=b then
  if aT s (x.2.at_+1) 2=0 then qD x b (min (b+1) (n-1)) x.2.took.took else qD x b t.toNat x.2.took.took
 else qD x b t.toNat x.2.took
def tgB(s:List Int)(n b:Nat)(x:TgS):TgS:=up (λ_=>tgI s n b) (if 1<n then(aT s x.2.at_ 6-3).toNat else 0) (x.1,x.2.took)
def rJ(s:List Int)(n:Nat)(m:MS):TgS:=up (tgB s n) n (up (tgA s) (n-1) (List.replicate n [],m))
structure TgO(ri:Own)(o:Own)(vo:Value)(l:List (List Int))(rv:List Raw):Prop where
 res : ∀k:Key,8<=k.1->o k=ri k
 top:o (3,0)=it T.aY vo rv
 len:rv.length=l.length
 row : ∀i,i<l.length->o (4,i)=it T.int (nth rv i).v (nth l i)
 els : ∀k:Key,3<=k.1->k.1<8->k≠(3,0)->(∀i,i<l.length->k≠(4,i))->o k=UL
theorem TgO.put{ri:Own}{o:Own}{vo:Value}{l:List (List Int)}{rv:List Raw}(q:TgO ri o vo l rv){p:Nat}(hp:p<l.length){v':Value}{r:List Int}:TgO ri ((o.upd (4,p) (it T.int v' r)).upd (3,0) (it T.aY vo (rv.set p ⟨v'⟩))) vo (l.set p r) (rv.set p ⟨v'⟩):=by
 have hpr:p<rv.length:=by rw[q.len];exact hp
 refine⟨λk hk=>(Own.aB (by rintro rfl;simp at hk)).trans ((Own.aB (by rintro rfl;simp at hk)).trans (q.res k hk)),Own.ao,by simp[q.len],λi hi=>?_,λk h1 h8 h2 h3=>?_⟩
 ·have hi:i<l.length:=by simpa using hi
  have hir:i<rv.length:=by rw[q.len];exact hi
  rw[Own.aB U2,bU hir,bU hi];by_cases e:p=i
  ·subst e;rw[Own.ao,if_pos rfl,if_pos rfl]
  rw[Own.aB (λe2=>e (by injection e2 with _ e2;exact e2.symm)),if_neg e,if_neg e];exact q.row i hi
 have h3 : ∀i,i<l.length->k≠(4,i):=λi hi=>h3 i (by simpa using hi);rw[Own.aB h2,Own.aB (h3 p hp)];exact q.els k h1 h8 h2 h3
def Tg(ri:Own)(s:List Int)(M:Nat)(vs:Value)(W:View)(vo:Value)(h:Heap)(x:TgS):Prop:=∃W' o rv,W.le W'/\Mk s M vs W' h o x.2/\TgO ri o vo x.1 rv
section
variable{s:List Int}{M:Nat}{vs:Value}{W:View}{vo:Value}{h:Heap}{x:TgS}{ri:Own}
theorem Tg.take(t:Tg ri s M vs W vo h x){c:Nat}(hm:x.2.ok c)(hc:c<=1000000){k:Int}(hk:0<k)(hk2:k<=1000000000) :
  ay UQ 34 #[ptz M,UH UI k] h (λv h'=>v = UH UI (aT s x.2.at_ k)/\Tg ri s M vs W vo h' (x.1,x.2.took)):=by obtain⟨W',o,rv,g,w,q⟩:=t;refine(w.take (by have:=hm.at_;omega) hk hk2).mono ?_;rintro v h' ⟨e,o',w',f⟩;exact⟨e,W',o',rv,g,w',λk hk=>(f k U1).trans (q.res k hk),(f _ U3).trans q.top,q.len,λi hi=>(f _ (by show 3<=4;decide)).trans (q.row i hi),λk h1 h8 h2 h3=>(f _ h1).trans (q.els k h1 h8 h2 h3)⟩
theorem Tg.idx(t:Tg ri s M vs W vo h x){k:IntKind}{i:Int}(h0:0<=i)(h1:i<x.1.length):Bn.ev (.idx 1) vo (.int k i)=UK (UN (UK ((slA vo).add i.toNat))):=by obtain⟨W',o,rv,g,w,q⟩:=t;exact(w.own.now q.top).idx1 rfl h0 (by rw[q.len];exact h1)
theorem Tg.put{po po2 po3:OP}(t:Tg ri s M vs W vo h x){p:Nat}(hp:p<x.1.length)(hl:(nth x.1 p).length<=1000000){b:Nat}(hb:b<=1000000) :
  ∃v:Value,an (vw h) ((slA vo).add p)=UK v/\∀{ty ty2 ty3:TypeId} {a a1 a2:Operand} {c1 c2:Operand} {us:List (Nat × Value)} {us2:Value->List (Nat × Value)} {us3:Value->Value->List (Nat × Value)} {K:Value->Value->Value->Heap->Prop},
   asg us a = UH UI b->(∀u,asg (us2 u) a1=v)->(∀u,asg (us2 u) a2=u)->(∀u v',asg (us3 u v') c1 = UN (UK ((slA vo).add p)))->(∀u v',asg (us3 u v') c2=v')->(∀u v' h',Tg ri s M vs W vo h' (qD x p b x.2)->K u v' undef h')->
   @Lft.step po UQ (.buildSlice T.aY 1 #[(0,a)]) ty us h λu h2=>@Lft.step po2 UQ (.call ⟨.builtin .append,#[a1,a2],#[T.aY,T.aY]⟩) ty2 (us2 u) h2 λv' h3=>@Lft.step po3 UQ (.store T.aY c1 c2) ty3 (us3 u v') h3 λw h4=>K u v' w h4:=by
 obtain⟨W',o,rv,g,w,q⟩:=t;have hpr:p<rv.length:=by rw[q.len];exact hp
 have hcell:=((w.own.now q.top).at hpr).raw;have hn:Rep.n Raw=1:=rfl;rw[hn,RY,<-aC hpr]at hcell;refine⟨_,hcell,fun{ty ty2 ty3 a a1 a2 c1 c2 us us2 us3 K} ha ha1 ha2 hc1 hc2 hK=>?_⟩;refine w.own.gy (k:=(4,p)) (α:=Int) (d:=(b:Int)) (q.row p hp) El.aY ha (bw.2 ⟨rfl,by constructor<;>omega⟩) U1 U1 ha1 ha2 λu v' h3 w3 _=>?_;have hv:=(w3.cells (k:=(4,p)) Own.ao).2;refine w3.bG (k:=(3,0)) (α:=Raw) (v:=vo) (l:=rv) (i:=p) (d:=⟨v'⟩) ((Own.aB U2).trans q.top) U0 (by rw[hc1,hn,RY]) (hc2 u v') hpr (gG.2 ⟨rfl,hv⟩) λh4 w4 _=>hK u v' h4 ?_;obtain⟨vb,vl,lb,bb⟩:=w.box;exact⟨W',_,_,g,⟨w4,w.src,vb,vl,lb,bb.frame λk hk=>by rw[Own.aB (by rintro rfl;simp at hk),Own.aB (by rintro rfl;simp at hk)]⟩,q.put hp⟩
end
theorem AB{x:TgS}{p b:Nat}{m:MS}:(qD x p b m).1.length=x.1.length:=by simp[qD]
theorem Io{x:TgS}{p b c:Nat}{m:MS}(h : ∀i,(nth x.1 i).length<=c) : ∀i,(nth (qD x p b m).1 i).length<=c+1:=by
 intro i;have hi:=h i;rcases Ri i x.1.length with hl | hl
 ·show(nth (x.1.set p _) i).length<=_;rw[bU hl];split
  ·rename_i e;subst e;rw[Rl,RI];omega
  omega
 rw[dt (by rw[AB];exact hl)];show 0<=_;omega
structure TgK(n c:Nat)(x:TgS):Prop where
 len:x.1.length=n
 row : ∀i,(nth x.1 i).length<=c
 ok:x.2.ok c
theorem TgK.mono{n c d:Nat}{x:TgS}(h:TgK n c x)(hd:c<=d):TgK n d x:=⟨h.len,λi=>Rt (h.row i) hd,h.ok.mono hd⟩
theorem TgK.put{n c p b:Nat}{x:TgS}{m:MS}(h:TgK n c x)(hm:m.ok (c+2)):TgK n (c+2) (qD x p b m):=⟨AB.trans h.len,λi=>by have:=Io (p:=p) (b:=b) (m:=m) h.row i;omega,hm⟩
theorem OX{s:List Int}{n c k:Nat}{x:TgS}(h:TgK n c x):TgK n (c+2) (tgA s k x):=by
 unfold tgA;split
 ·exact h.put h.ok.took.took
 exact h.put (h.ok.took.mono U1)
theorem OD{s:List Int}{n c b:Nat}{x:TgS}(h:TgK n c x):TgK n (c+2) (tgI s n b x):=by
 unfold tgI;simp only;repeat' split
 ·exact h.put h.ok.took.took
 ·exact h.put h.ok.took.took
 exact h.put (h.ok.took.mono U1)
theorem CS{s:List Int}{n c:Nat}{x:TgS}(h:TgK n c x) : ∀k,TgK n (c+2*k) (up (tgA s) k x)
 | 0=>h
 | k+1=>(OX (CS h k)).mono U1
theorem Gk{s:List Int}{n c b:Nat}{x:TgS}(h:TgK n c x) : ∀k,TgK n (c+2*k) (up (λ_=>tgI s n b) k x)
 | 0=>h
 | k+1=>(OD (Gk h k)).mono U1
theorem Oo{s:List Int}{n c b:Nat}{x:TgS}(h:TgK n c x):TgK n (c+10) (tgB s n b x):=by unfold tgB;have ht:=dv (s:=s) (at_:=x.2.at_) (n:=6) U3;have h1:TgK n (c+1) (x.1,x.2.took):=⟨h.len,λi=>by have:=h.row i;show(nth x.1 i).length<=_;omega,h.ok.took⟩;refine(Gk h1 _).mono ?_;split<;>omega
theorem FJ{s:List Int}{n c:Nat}{x:TgS}(h:TgK n c x) : ∀k,TgK n (c+10*k) (up (tgB s n) k x)
 | 0=>h
 | k+1=>(Oo (FJ h k)).mono U1
theorem Fp{s:List Int}{M:Nat}{vs:Value}{W:View}{h:Heap}{o:Own}{m:MS}{ri:Own}(w:Mk s M vs W h o m)(hres : ∀k:Key,8<=k.1->o k=ri k)(ho : ∀k:Key,3<=k.1->k.1<8->o k=UL){n c:Nat}(hm:m.ok c)(hc:c<=1000)(hn1:1<=n)(hn2:n<=100) :
  ay UQ 35 #[ptz M,UH UI n] h (λu h'=>∃W' o',W.le W'/\Mk s M vs W' h' o' (rJ s n m).2/\(∀k:Key,8<=k.1->o' k=ri k)/\(∀k:Key,3<=k.1->k.1<8->o' k=UL)/\SlRd W' u (rJ s n m).1):=by
 refine aq (args:=[ptz M,UH UI n]) follows Tryz.func35 E.aL UC λK hK=>?_;have htd:rJ s n m=_:=rfl;dsimp only[L.aL,lkF,lkG];refine aa λz hz=>?_;simp;subst hz;refine aa λz hz=>?_;simp;refine oz (α:=Raw) (W:=W) (k:=.i64) (n:=n) (d:=⟨UM UL 0 0⟩) El.kZ U4 U4 ⟨rfl,rfl⟩ U1 U1 λvo h1 o1 m1 hle1 hb1=>?_;have t1:Tg ri s M vs W vo h1 (List.replicate n [],m):=by
  have w1:=w.own.add (k:=(3,0)) (ho _ U3 U3) o1 hle1 (λb hb=>by rw[hb1]at hb;cases hb;exact Q4 _);have w2:=w1.nils (o':=λk=>if k.1=4/\k.2<n then it T.int (UM UL 0 0) ([]:List Int) else o.upd (3,0) (it T.aY vo (List.replicate n (Raw.mk (UM UL 0 0)))) k) λk i hk=>by
   split at hk
   ·cases hk;exact .inr ⟨rfl,OwnT.nil (α:=Int) W h1 T.int⟩
   exact .inl hk
  obtain⟨vb,vl,lb,bb⟩:=w.box;refine⟨W,_,List.replicate n ⟨UM UL 0 0⟩,View.le_refl _,⟨w2,w.src,vb,vl,lb,bb.frame λk hk=>?_⟩,?_,rfl,by simp,λi hi=>?_,λk h1 h8 h2 h3=>?_⟩
  ·have h4:¬(k.1=4/\k.2<n):=by omega
   show(if _ then _ else _)=_;rw[if_neg h4,Own.aB (by rintro rfl;simp at hk)]
  ·intro k hk;show(if _ then _ else _)=_;rw[if_neg U1,Own.aB (by rintro rfl;simp at hk),hres k hk]
  ·have hi:i<n:=by simpa using hi
   show(if _ then _ else _)=_;rw[if_pos ⟨rfl,hi⟩,aE hi,aE hi]
  show(if _ then _ else _)=_;rw[if_neg,Own.aB h2,ho k h1 h8];rintro⟨e1,e2⟩;refine h3 k.2 (by simpa using e2) ?_;rw[<-e1]
 have k1:TgK n c (List.replicate n [],m):=⟨by simp,λi=>by
  rcases Ri i n with hi | hi
  ·rw[aE hi];show 0<=_;omega
  rw[dt (by simpa using hi)];show 0<=_;omega,hm⟩;clear m1 o1 w ho;obtain⟨x0,hx0⟩ : ∃x0:TgS,x0=(List.replicate n [],m):=⟨_,rfl⟩;rw[<-hx0]at t1 k1;have htd:rJ s n m=up (tgB s n) n (up (tgA s) (n-1) x0):=by rw[hx0];rfl
 clear hx0;subst hz;refine aa λz hz=>?_;simp;refine yI [0,1,5,6] (fun(_:Unit) k=>[ptz M,UH UI n,vo,UH UI ((k+1:Nat):Int)]) (λ_ k h2=>Tg ri s M vs W vo h2 (up (tgA s) k x0)) (n-1) 1 ()
  rfl U1 rfl t1 (λ_ _=>rfl) (λv k h2 hk m=>by simp;omega) ?_ ?_
 ·rintro _ k h2 hlt t2 K2 hK2;have kx:=CS (s:=s) k1 k;have e2:up (tgA s) (k+1) x0=tgA s k (up (tgA s) k x0):=rfl;rw[e2]at hK2;generalize up (tgA s) k x0=x at t2 kx hK2;have hxl:=kx.len;simp only[aW];refine aa λy hy=>?_;simp;rw[show IntKind.i64.wrap (k:Int)=k from bc U1 U1];subst hy;refine aa λy hy=>?_;have fin : ∀(p:Nat) (m':MS) (h':Heap) (ρ:Env),tgA s k x=qD x p (k+1) m'->p<n->Tg ri s M vs W vo h' (x.1,m')->Lft.look ρ 0=UK (ptz M)->Lft.look ρ 1=UK (UH UI n)->Lft.look ρ 5=UK vo->Lft.look ρ 6=UK (UH UI ((k+1:Nat):Int))->Lft.look ρ 7=UK (UH UI p)->
    LC.wp UQ y (dT 1 (fJ K2 (dT 0 (fJ (LC.wp UQ z (dY [.tmp 4] K)) (dY [.tmp 4] K))))) ρ h':=by
   intro p m' h' ρ e hp t r0 r1 r5 r6 r7;subst hy;obtain⟨vr,hvr,put⟩:=t.put (p:=p) (b:=k+1) (by show p<x.1.length;omega) (by have:=kx.row p;show(nth x.1 p).length<=_;omega) U1;have hix:=t.idx (k:=.i64) (i:=p) U1 (by show(p:Int)<x.1.length;omega);simp only[RB]at hix;simp[af,ag,r0,r1,r5,r6,r7,hix,hvr];refine put U2 U5 U5 (λ_ _=>by simp) (λ_ _=>by simp) λu v' h3 t3=>?_;refine hK2 () _ _ ?_ ?_ (by rw[e];exact t3)
   ·simp[af,ag,r6]
   simp[aX,af,ag,r0,r1,r5]
  have had:tgA s k x=_:=tgA.eq_1 s k x;refine aa λw hw=>?_;simp;refine ah U0 (t2.take kx.ok U1 (k:=3) U3 U3) ?_;rintro _ h3 ⟨rfl,t3⟩;simp;subst hw;by_cases c3:aT s x.2.at_ 3=0
  ·rw[if_pos c3]at had;refine aQ (by simp[c3]) ?_;simp;refine ah U0 (t3.take kx.ok.took U1 (k:=((k+1:Nat):Int)) U1 U1) ?_;rintro _ h4 ⟨rfl,t4⟩;have hx:(x.1,x.2.took).2.at_=x.2.at_+1:=rfl;rw[hx];obtain⟨u0,u1⟩:=dv (s:=s) (at_:=x.2.at_+1) (n:=((k+1:Nat):Int)) U1;generalize aT s (x.2.at_+1) ((k+1:Nat):Int)=q at had u0 u1;refine fin q.toNat _ h4 _ had U1 t4 ?_ ?_ ?_ ?_ ?_;all_goals simp
   omega
  rw[if_neg c3]at had;refine bg (by simp[c3]) ?_;simp;refine fin k _ h3 _ had U1 t3 ?_ ?_ ?_ ?_ ?_;all_goals simp
 rintro _ h2 t2;have k2:=CS (s:=s) k1 (n-1);generalize up (tgA s) (n-1) x0=x1 at t2 k2 htd;simp;subst hz;refine aa λz hz=>?_;simp;refine cL [0,1,5,8] (fun(_:Unit) k=>[ptz M,UH UI n,vo,UH UI k]) (λ_ k h3=>Tg ri s M vs W vo h3 (up (tgB s n) k x1)) n ()
  rfl U1 rfl t2 (λ_ _=>rfl) (λv k h3 hk m=>by simp) ?_ ?_
 ·rintro _ b h3 hlt t3 K2 hK2;have kx:=(FJ (s:=s) k2 b).mono (d:=3000) U1;have e3:up (tgB s n) (b+1) x1=tgB s n b (up (tgB s n) b x1):=rfl;rw[e3]at hK2;generalize up (tgB s n) b x1=x at t3 kx hK2;simp only[aW];refine aa λy hy=>?_;simp;refine ah U0 (t3.take kx.ok U1 (k:=6) U3 U3) ?_;rintro _ h4 ⟨rfl,t4⟩;have hbd:tgB s n b x=_:=tgB.eq_1 s n b x;obtain⟨r0,r1⟩:=dv (s:=s) (at_:=x.2.at_) (n:=6) U3;generalize aT s x.2.at_ 6=r at hbd r0 r1;have kx1:TgK n 3001 (x.1,x.2.took):=⟨kx.len,λi=>by have:=kx.row i;show(nth x.1 i).length<=_;omega,kx.ok.took⟩;obtain⟨cnt,hcnt⟩ : ∃cnt:Nat,cnt=if 1<n then(r-3).toNat else 0:=⟨_,rfl⟩;have hc3:cnt<=3:=by rw[hcnt];split<;>omega
  rw[<-hcnt]at hbd;generalize (x.1,x.2.took)=x2 at t4 kx1 hbd;subst hy;refine aa λy hy=>?_;simp;subst hy;simp only[aW];have hw3:IntKind.i64.wrap (r-3)=r-3:=bc U1 U1;refine IX [0,1,5,8,9,10] (fun(_:Unit) k=>[ptz M,UH UI n,vo,UH UI b,UH UI r,UH UI k]) (λ_ k h5=>Tg ri s M vs W vo h5 (up (λ_=>tgI s n b) k x2)) cnt ()
   rfl U1 rfl t4 (λ_ _=>rfl) (λv k h5 hk m=>by
    by_cases hn:1<n
    ·rw[if_pos hn]at hcnt;by_cases hk2:k<cnt
     ·have e1:(k:Int)<r-3:=by omega
      simp[hw3,e1,hk2];omega
     have e1:¬(k:Int)<r-3:=by omega
     simp[hw3,e1,hk2]
    rw[if_neg hn]at hcnt;have e2:¬k<cnt:=by omega
    by_cases e1:(k:Int)<r-3
    ·simp[hw3,e1,e2];omega
    simp[hw3,e1,e2]) ?_ ?_
  ·rintro _ k h5 hltk t5 K3 hK3;have hn2:1<n:=by
    rw[hcnt]at hltk;split at hltk
    ·assumption
    omega
   have kx3:=(Gk (s:=s) (b:=b) kx1 k).mono (d:=4000) U1;have e5:up (λ_=>tgI s n b) (k+1) x2=tgI s n b (up (λ_=>tgI s n b) k x2):=rfl;rw[e5]at hK3;generalize up (λ_=>tgI s n b) k x2=x at t5 kx3 hK3;have hxl:=kx3.len;have hid:tgI s n b x=_:=tgI.eq_1 s n b x;have hwn:IntKind.i64.wrap ((n:Int)-1)=(n:Int)-1:=bc U1 U1;simp only[aW];refine aa λy hy=>?_;simp[hwn];refine ah U0 (t5.take kx3.ok U1 (k:=(n:Int)-1) U1 U1) ?_;rintro _ h6 ⟨rfl,t6⟩;obtain⟨q0,q1⟩:=dv (s:=s) (at_:=x.2.at_) (n:=(n:Int)-1) U1;generalize aT s x.2.at_ ((n:Int)-1)=q at hid q0 q1;have hwq:IntKind.i64.wrap (1+q)=1+q:=bc U1 U1;simp[hwq];subst hy;refine aa λy hy=>?_;refine gC (λρ h'=>∃(t:Nat) (m':MS) (v0 v:Value),tgI s n b x=qD x b t m'/\t<=1000/\Tg ri s M vs W vo h' (x.1,m')/\ρ=[(0,ptz M),(1,UH UI n),(5,vo),(8,UH UI b),(9,UH UI r),(10,UH UI k),(11,UH UI t),(57,UH UI q),(62,v0),(64,v)]) ?_ ?_
   ·intro K4 hK4;refine aa λw hw=>?_;by_cases c1:1+q<=b
    ·rw[if_pos c1]at hid;simp[c1];refine ah U0 (t6.take kx3.ok.took U1 (k:=2) U3 U3) ?_;rintro _ h7 ⟨rfl,t7⟩;have hx:(x.1,x.2.took).2.at_=x.2.at_+1:=rfl;rw[hx];simp;subst hw;by_cases c2:aT s (x.2.at_+1) 2=0
     ·rw[if_pos c2]at hid;refine aQ (by simp[c2]) ?_;simp;refine hK4 _ _ ⟨min (b+1) (n-1),_,.bool UO,UH UI (aT s (x.2.at_+1) 2),hid,by omega,t7,?_⟩;rw[hwn,show IntKind.i64.wrap ((b:Int)+1)=(b:Int)+1 from bc U1 U1];rw[show(if(n:Int)-1<(b:Int)+1 then(n:Int)-1 else(b:Int)+1)=((min (b+1) (n-1):Nat):Int) by split<;>omega]
     rw[if_neg c2]at hid;refine bg (by simp[c2]) ?_;simp;refine hK4 _ _ ⟨(1+q).toNat,_,.bool UO,UH UI (aT s (x.2.at_+1) 2),hid,by omega,t7,?_⟩;rw[show(((1+q).toNat:Nat):Int)=1+q by omega]
    rw[if_neg c1]at hid;simp[c1];subst hw;refine bg U2 ?_;simp;refine hK4 _ _ ⟨(1+q).toNat,_,.bool UP,undef,hid,by omega,t6,?_⟩;rw[show(((1+q).toNat:Nat):Int)=1+q by omega]
   rintro _ h7 ⟨t,m',v0,v,e,ht,t7,rfl⟩;subst hy;obtain⟨vr,hvr,put⟩:=t7.put (p:=b) (b:=t) (by show b<x.1.length;omega) (by have:=kx3.row b;show(nth x.1 b).length<=_;omega) U1;have hix:=t7.idx (k:=.i64) (i:=b) U1 (by show(b:Int)<x.1.length;omega);simp only[RB]at hix;simp[hix,hvr];refine put rfl (λ_=>rfl) (λ_=>rfl) (λ_ _=>rfl) (λ_ _=>rfl) λu v' h8 t8=>?_;exact hK3 () _ _ rfl rfl (by rw[e];exact t8)
  rintro _ h5 t5;simp;refine hK2 () _ _ rfl rfl (by rw[hbd];exact t5)
 rintro _ h3 t3;rw[<-htd]at t3;simp;subst hz;simp;refine hK _ _ ?_;obtain⟨W',o,rv,g,w,q⟩:=t3;obtain⟨W2,g2,w2,fr⟩:=w.own.AX (λk=>decide (3<=k.1)&&decide (k.1<8));obtain⟨vb,vl,lb,bb⟩:=w.box;refine⟨W2,_,UF g g2,⟨w2,w.src.mono g2,vb,vl,lb,bb.frame λk hk=>?_⟩,?_,λk hk h8=>by simp[hk,h8],?_⟩
 ·have:¬3<=k.1:=by omega
  simp[this]
 ·intro k hk;have h1:3<=k.1:=by omega
  have h2:¬k.1<8:=by omega
  simp[h2];exact q.res k hk
 refine CI (fr (k:=(3,0)) U3 q.top) rfl q.len λi h1 h2 cs hr=>?_;obtain⟨e,_⟩:cs=[(rv[i]).v]/\_:=hr;refine⟨_,e,?_⟩;have:=fr (k:=(4,i)) U2 (q.row i h2);rwa [aC h1,aC h2]at this
section
structure Grw(b k:Nat)(m m':MS):Prop where
 at0:m.at_<=m'.at_
 at1:m'.at_<=m.at_+k
 n0:m.next<=m'.next
 n1:m'.next<=m.next+k
 ps:m'.ps=m.ps
 live:m'.live.length<=m.live.length+k
 len:m'.blocks.length=m.blocks.length
 els : ∀i,i≠b->nth m'.blocks i=nth m.blocks i
 ins:(nth m'.blocks b).ins.length<=(nth m.blocks b).ins.length+k
 phis:(nth m'.blocks b).phis=(nth m.blocks b).phis
 term:(nth m'.blocks b).term=(nth m.blocks b).term
variable{s:List Int}{m m' m2:MS}{b c k l:Nat}
theorem Grw.refl:Grw b 0 m m:=⟨Q4 _,Q4 _,SR _,by omega,rfl,Q4 _,rfl,λ_ _=>rfl,Q4 _,rfl,rfl⟩
theorem Grw.trans(g:Grw b k m m')(h:Grw b l m' m2):Grw b (k+l) m m2:=
 ⟨Rt g.at0 h.at0,by have:=g.at1;have:=h.at1;omega,Int.le_trans g.n0 h.n0,by have:=g.n1;have:=h.n1;omega,h.ps.trans g.ps,by have:=g.live;have:=h.live;omega,h.len.trans g.len,λi hi=>(h.els i hi).trans (g.els i hi),by have:=g.ins;have:=h.ins;omega,h.phis.trans g.phis,h.term.trans g.term⟩
theorem Grw.mono(g:Grw b k m m')(h:k<=l):Grw b l m m':=
 ⟨g.at0,by have:=g.at1;omega,g.n0,by have:=g.n1;omega,g.ps,by have:=g.live;omega,g.len,g.els,by have:=g.ins;omega,g.phis,g.term⟩
theorem Grw.took(g:Grw b k m m'):Grw b (k+1) m m'.took:=g.trans ⟨by show _<=m'.at_+1;omega,Q4 _,SR _,by show m'.next<=_;omega,rfl,by show m'.live.length<=_;omega,rfl,λ_ _=>rfl,by show(nth m'.blocks b).ins.length<=_;omega,rfl,rfl⟩
theorem Grw.aV(g:Grw b k m m'):Grw b (k+1) m m'.aV:=g.trans ⟨Q4 _,by show m'.at_<=_;omega,by show _<=m'.next+1;omega,SR _,rfl,by show m'.live.length<=_;omega,rfl,λ_ _=>rfl,by show(nth m'.blocks b).ins.length<=_;omega,rfl,rfl⟩
theorem Grw.add{i:InsD}(hb:b<m.blocks.length)(g:Grw b k m m'):Grw b (k+2) m (m'.add b i):=by
 have hb':b<m'.blocks.length:=by rw[g.len];exact hb
 have e:nth (m'.add b i).blocks b={ nth m'.blocks b with ins:=(nth m'.blocks b).ins++[i] }:=by show nth (m'.blocks.set b _) b=_;rw[bU hb',if_pos rfl]
 refine g.trans ⟨Q4 _,by show m'.at_<=_;omega,SR _,by show m'.next<=_;omega,rfl,?_,nX,λj hj=>?_,?_,by rw[e],by rw[e]⟩
 ·show(m'.live++cO i).length<=_;have h2:(cO i).length<=2:=by
   unfold cO;repeat' split
   all_goals simp
  rw[Rl];omega
 ·show nth (m'.blocks.set b _) j=_;rcases Ri j m'.blocks.length with hl | hl
  ·rw[bU hl,if_neg (λe=>hj e.symm)]
  rw[dt (by simpa using hl),dt hl]
 rw[e];show((nth m'.blocks b).ins++[i]).length<=_;rw[Rl,RI];omega
theorem Grw.constant{n:Int}(hb:b<m.blocks.length)(g:Grw b k m m'):Grw b (k+3) m (m'.constant b n):=g.aV.add hb
theorem Grw.two{op x y:Int}(hb:b<m.blocks.length)(g:Grw b k m m'):Grw b (k+3) m (m'.two b op x y):=g.aV.add hb
theorem Grw.lq(hb:b<m.blocks.length)(g:Grw b k m m'):Grw b (k+10) m (aU s m' b).2:=by
 unfold aU;repeat' split
 ·exact(g.took.took.constant hb).mono U1
 ·exact(g.took.took.took.took.took.constant hb).mono U1
 exact(g.took.took.took).mono U1
theorem Grw.addr(hb:b<m.blocks.length)(g:Grw b k m m'):Grw b (k+30) m (qI s m' b).2:=by
 unfold qI;simp only;split
 ·exact(((((g.took.constant hb).took.lq hb).constant hb).two hb).two hb).mono U1
 exact((g.took.constant hb).took).mono U1
theorem Grw.off(g:Grw b k m m'):Grw b (k+4) m (offS s m').2:=by
 unfold offS;split
 ·exact g.took.took.took.took
 exact g.took.took.mono U1
theorem Grw.memory{st:Bool}(hb:b<m.blocks.length)(g:Grw b k m m'):Grw b (k+60) m (jQ s m' b st):=by
 unfold jQ;simp only;split
 ·exact((((g.addr hb).off.lq hb)).add hb).mono U1
 exact(((g.addr hb).off.aV).add hb).mono U1
theorem Grw.bin{op:Int}(hb:b<m.blocks.length)(g:Grw b k m m'):Grw b (k+60) m (binS s m' b op):=by
 unfold binS;simp only;split
 ·exact((((g.lq hb).lq hb).took.took.constant hb).two hb).mono U1
 exact(((g.lq hb).lq hb).took.two hb).mono U1
theorem Grw.div(hb:b<m.blocks.length)(g:Grw b k m m'):Grw b (k+60) m (divS s m' b):=by
 unfold divS;simp only;split
 ·exact((((g.lq hb).took.constant hb).took.took.constant hb).two hb).mono U1
 exact(((g.lq hb).took.constant hb).took.two hb).mono U1
theorem Grw.args(hb:b<m.blocks.length){x:List Int × MS}(g:Grw b k m x.2) : ∀n,Grw b (k+10*n) m (up (iS s b) n x).2
 | 0=>g
 | n+1=>((Grw.args hb g n).lq hb).mono U1
theorem Grw.call(hb:b<m.blocks.length)(g:Grw b k m m'):Grw b (k+70) m (qG s m' b):=by unfold qG;simp only;have ht:=dv (s:=s) (at_:=m'.at_) (n:=5) U3;have g2:=Grw.args (s:=s) hb (x:=([],m'.took)) g.took (aT s m'.at_ 5).toNat;exact(g2.aV.took.add hb).mono U1
theorem Grw.kI(hb:b<m.blocks.length)(g:Grw b k m m'):Grw b (k+80) m (aZ s b m'):=by
 unfold aZ;simp only;repeat' split
 ·exact(g.took.bin hb).mono U1
 ·unfold ltuS;exact(((g.took.lq hb).lq hb).two hb).mono U1
 ·exact(g.took.div hb).mono U1
 ·exact(g.took.memory hb).mono U1
 ·exact(g.took.call hb).mono U1
 ·unfold A1;exact(((g.took.lq hb).lq hb).aV.aV.add hb).mono U1
 exact(g.took.took.took.constant hb).mono U1
theorem Grw.jt(hb:b<m.blocks.length)(g:Grw b k m m') : ∀n,Grw b (k+80*n) m (up (λ_=>aZ s b) n m')
 | 0=>g
 | n+1=>((Grw.jt hb g n).kI hb).mono U1
theorem Grw.NW{to:List Int}(hb:b<m.blocks.length)(g:Grw b k m m'):Grw b (k+40) m (js s to b m').2:=by
 unfold js;simp only;repeat' split
 ·exact g.took.took.mono U1
 ·exact(g.took.lq hb).mono U1
 ·exact g.took.mono U1
 ·exact g.mono U1
 ·exact((((g.lq hb).took.lq hb)).aV.took.add hb).mono U1
 ·exact(g.lq hb).took.mono U1
 exact(((g.lq hb).constant hb).two hb).mono U1
def MS.f(m:MS):ak:=⟨m.ps,m.blocks⟩
def MS.nF(m:MS)(b:Nat)(l:List Int):MS:={ m with blocks:=m.blocks.set b { nth m.blocks b with term:={ (nth m.blocks b).term with to:=l } } }
def jd(s:List Int)(m:MS)(b:Nat):Int:=
 if 1<(dr m.f b).length then aT s m.at_ 4 else if aT s m.at_ 6=0 then 1 else 0
def fG(b:Nat)(m:MS):MS:={ m.aV with blocks:=m.blocks.set b { nth m.blocks b with phis:=(nth m.blocks b).phis++[⟨m.next,[]⟩] } }
def fL(s:List Int)(k:Nat)(x:List Int × MS):List Int × MS:=
 (x.1.set (k+1) (jd s x.2 (k+1)),up (λ_=>fG (k+1)) (jd s x.2 (k+1)).toNat x.2.took)
def tH(f:ak)(n:Nat):List BL:=rows (λa=>eW f (a:Int)) n
def wm(dn:BL)(away:List BL)(b n:Nat):Bool:=up (λa r=>r&&(decide (a=b)||nth dn a||nth (nth away a) b)) n (!nth dn b)
def iTq(m:MS)(dn:BL)(away:List BL)(b:Nat)(a:Nat)(l:List Int):List Int:=
 if decide (a≠b)&&(!nth dn a||nth (nth away a) b) then l
 else l++(nth m.blocks a).phis.map PhiD.dst++(nth m.blocks a).ins.flatMap cO
def oF(m:MS)(dn:BL)(away:List BL)(b n:Nat):List Int:=up (iTq m dn away b) n (rows (λi=>(i:Int)) m.ps.toNat)
def jS(s:List Int)(to:List (List Int))(n:Nat)(dn:BL)(away:List BL)(b:Nat)(m:MS):MS:=
 let m1:MS:={ m with live:=oF m dn away b n }
 rZ s (nth to b) b (up (λ_=>aZ s b) (aT s m1.at_ 7).toNat m1.took)
def cZ(s:List Int)(to:List (List Int))(n:Nat)(b:Nat)(x:BL × MS):BL × MS:=
 if wm x.1 (tH x.2.f n) b n then(x.1.set b UO,jS s to n (x.1.set b UO) (tH x.2.f n) b x.2) else x
def ef(s:List Int)(p:List Int)(k:Nat)(x:List InD × MS):List InD × MS:=
 let b:=(nth p k).toNat
 let l:=jv x.2.f b
 let r:List Int × MS:=if l.length=0 then([x.2.next],x.2.took.took.constant b (mA s x.2)) else(l,x.2)
 (x.1++[⟨nth p k,nth r.1 (aT s r.2.at_ r.1.length).toNat⟩],r.2.took)
def MS.vH(m:MS)(b i:Nat)(l:List InD):MS:={ m with blocks:=m.blocks.set b { nth m.blocks b with phis:=(nth m.blocks b).phis.set i { nth (nth m.blocks b).phis i with ins:=l } } }
def phi3(s:List Int)(b:Nat)(p:List Int)(i:Nat)(m:MS):MS:=(up (ef s p) p.length ([],m)).2.vH b i (up (ef s p) p.length ([],m)).1
def blk3(s:List Int)(phis:List Int)(k:Nat)(m:MS):MS:=up (phi3 s (k+1) (dr m.f ((k+1:Nat):Int))) (nth phis (k+1)).toNat m
def yX(s:List Int):MS:=⟨2,aT s 0 5,[],aT s 0 5,[]⟩
def cr(s:List Int):Nat:=(1+aT s 1 9).toNat
def jC(s:List Int):TgS:=rJ s (cr s) (yX s)
def vK:BlkD:=⟨[],[],⟨0,[],[],⟨0⟩⟩⟩
def vx(s:List Int):MS:=up (λb m=>m.nF b (nth (jC s).1 b)) (cr s) { (jC s).2 with blocks:=List.replicate (cr s) vK }
def lj(s:List Int):List Int × MS:=up (fL s) (cr s-1) (List.replicate (cr s) 0,vx s)
def By(s:List Int):BL × MS:=up (λ_=>up (cZ s (jC s).1 (cr s)) (cr s)) (cr s) (List.replicate (cr s) UP,(lj s).2)
def xx(s:List Int):MS:=up (blk3 s (lj s).1) (cr s-1) (By s).2
def vJ(s:List Int):ak:=(xx s).f
end
section
variable{s:List Int}{M:Nat}{vs:Value}{W0:View}{h:Heap}{o0:Own}{m:MS}{u:Value}{ds:List Int}
structure Reads(M:Nat)(m:MS)(h:Heap)(vb vl:Value):Prop where
 ps:an (vw h) ⟨M,2,UL⟩=UK (UH UI m.ps)
 nx:an (vw h) ⟨M,4,UL⟩=UK (UH UI m.next)
 cb:an (vw h) ⟨M,3,UL⟩=UK vb
 cl:an (vw h) ⟨M,5,UL⟩=UK vl
 f:Un.ev (vw h) (.bM 2) (UN (UK ⟨M,2,UL⟩))=UK (.agg #[UH UI m.ps,vb])
 blk:SlRd (vw h) vb m.blocks
 live:SlRd (vw h) vl m.live
theorem Reads.rd{vb vl:Value}(r:Reads M m h vb vl)(hp:I64 m.ps):Rd (vw h) (.agg #[UH UI m.ps,vb]) m.f:=⟨_,rfl,[UH UI m.ps],[vb],rfl,⟨rfl,hp⟩,vb,rfl,r.blk⟩
variable{W:View}{vb vl:Value}
theorem Mk.reads{o:Own}(w:Mk s M vs W h o m){lb:List BlkM}(bb:MkB M vs m o vb vl lb):Reads M m h vb vl:=by
 have c2:an (vw h) ⟨M,2,UL⟩=UK (UH UI m.ps):=bb.cell w.own (i:=2) U3;have c3:an (vw h) ⟨M,3,UL⟩=UK vb:=bb.cell w.own (i:=3) U3;refine⟨c2,bb.cell w.own (i:=4) U3,c3,bb.cell w.own (i:=5) U3,?_,?_,w.own.now bb.live⟩
 ·have hat:=w.own.BW bb.box;obtain⟨cs,⟨cur,e,fz,g1,g2,g3⟩,he,_⟩:=w.own.atW bb.box;have:gE (vw h) ⟨M,2,UL⟩ [UH UI m.ps,vb]:=⟨cur,e,fz,rfl,g2,by
   have g3:(cur.toList.drop 0).take cs.length=cs:=g3;have he:cs=mkL vs m.at_ m.ps vb m.next vl:=he;rw[SM]at g3;have hd:cs.drop 2=(cur.toList.drop 2).take (cs.length-2):=by have:=congrArg (List.drop 2) g3;rw[Sx]at this;exact this.symm
   have hl:cs.length=6:=by rw[he];rfl
   have h2:(cs.drop 2).take 2=(cur.toList.drop 2).take 2:=by rw[hd,hl,Sy];rfl
   show(cur.toList.drop 2).take 2=_;rw[<-h2,he];rfl⟩;have:=fP this 2 0 #[] rfl;simp only[Un.ev,vP,RD];rw[this];simp
 refine CI (w.own.now bb.blk) rfl bb.len λi h1 h2 cs hr=>?_;have:=EO hr (p:=(nth m.blocks i).phis) (i:=(nth m.blocks i).ins) (by have:=w.own.now (bb.phis i h2);rwa [aC h1]at this) (by have:=w.own.now (bb.ins i h2);rwa [aC h1]at this);have ht:=bb.term i h2;rw[aC h1]at ht;rw[ht]at this;rw[<-aC h2];exact this
theorem Nz.reads(n:Nz s M vs W0 h o0 m u ds) : ∃vb vl,Reads M m h vb vl:=by obtain⟨W,o,g,w,f,sl⟩:=n;obtain⟨vb,vl,lb,bb⟩:=w.box;exact⟨vb,vl,w.reads bb⟩
variable{α:Type}
theorem Nz.at[Rep α](n:Nz s M vs W0 h o0 m u ds){k:Key}(h3:3<=k.1){e:TypeId}{v:Value}{l:List α}(hk:o0 k=it e v l):SlRd (vw h) v l:=by obtain⟨W,o,g,w,f,sl⟩:=n;exact w.own.now ((f k h3).trans hk)
end
theorem BlkM.Af:Part BlkM (List Int) 4 (λd=>d.term.to) (λd x=>{ d with term:={ d.term with to:=x } }):=(Part.snd (Part.snd ((Part.snd (Part.snd (Part.fst Part.all))).via (α:=Cat Int (Cat (List Int) (Cat (List Int) I32))) (f:=λd:cS=>Cat.mk d.kind (Cat.mk d.args (Cat.mk d.to d.imm))) (g':=cS.to) (s':=λd x=>{ d with to:=x }) (λ_=>rfl) λ_ _=>rfl))).via (λ_=>rfl) λ_ _=>rfl
section
variable{s:List Int}{M:Nat}{vs:Value}{W0:View}{h:Heap}{o0:Own}{m:MS}{u:Value}{ds:List Int}
variable{po:OP}{α:Type}{ty:TypeId}{us:List (Nat × Value)}{K:Value->Heap->Prop}
theorem Nz.Nc[r:Rep α](n:Nz s M vs W0 h o0 m u ds){k:Key}{e:TypeId}{i:Nat}{v:Value}{l:List α}{t:TypeId}{x y:Operand}{d:α}{w:Value}(h3:3<=k.1)(hk:o0 k=it e v l)(hi:i<l.length)(hsz:cU UQ t=UK (Rep.n α))(hx:asg us x = UN (UK ((slA v).add (i*Rep.n α))))(hy:asg us y=w)(hr : ∀W,Rd W w d)(hK : ∀h',Nz s M vs W0 h' (o0.upd k (it e v (l.set i d))) m u ds->K undef h'):@Lft.step po UQ (.store t x y) ty us h K:=by
 obtain⟨W,o,g1,wk,f,sl⟩:=n;refine wk.own.bG (k:=k) (v:=v) (l:=l) (i:=i) (d:=d) ((f k h3).trans hk) hsz hx hy hi (hr W) λh' w' _=>hK h' ?_;obtain⟨vb,vl,lb,bb⟩:=wk.box;refine⟨W,_,g1,⟨w',wk.src,vb,vl,lb,bb.frame λq hq=>Own.aB (by rintro rfl;omega)⟩,λq hq=>?_,sl⟩;unfold Own.upd;split
 ·rfl
 exact f q hq
variable{W:View}{vb vl:Value}{b:Nat}{ty2:TypeId}
theorem Mk.PM{o:Own}(w:Mk s M vs W h o m){lb:List BlkM}(bb:MkB M vs m o vb vl lb){l:List Int}{v:Value}{x y:Operand}(hb:b<m.blocks.length)(hsz:cU UQ ty2=UK 1)(hx:asg us x = UN (UK (((slA vb).add (b*6)).add 4)))(hy:asg us y=v)(hr:SlRd W v l)(hK : ∀h' o',Mk s M vs W h' o' (m.nF b l)->(∀k:Key,3<=k.1->o' k=o k)->K undef h'):@Lft.step po UQ (.store ty2 x y) ty us h K:=by
 have hbl:b<lb.length:=by rw[bb.len];exact hb
 refine w.own.sF (k:=(0,2)) (α:=BlkM) BlkM.Af (v:=vb) (l:=lb) (i:=b) (d:=l) bb.blk hsz hx hy hbl (dD.2 hr) λh7 w7 _=>?_;have ht:=bb.term b hb;rw[aC hbl]at ht;refine hK h7 _ ⟨w7,w.src,vb,vl,_,bb.gY hb (x':={ nth m.blocks b with term:={ (nth m.blocks b).term with to:=l } }) (y':={ lb[b]with term:={ lb[b].term with to:=l } }) (by rw[<-ht]) Own.ao ?_ ?_ λq h1 _ _=>Own.aB h1⟩ (pn U3)
 ·rw[Own.aB U2,bb.phis b hb,aC hbl]
 rw[Own.aB U2,bb.ins b hb,aC hbl]
end
theorem uD{to:List (List Int)}{m:MS} : ∀k,(up (λb m=>MS.nF m b (nth to b)) k m).blocks.length=m.blocks.length
 | 0=>rfl
 | k+1=>by show(List.set _ _ _).length=_;rw[RL];exact uD k
variable{M n:Nat}{vs vt vr:Value}{W0:View}{o0:Own}{to:List (List Int)}{Q:Post}{ρ:Env}
theorem Mo{s:List Int}{h:Heap}{m:MS}(hto:SlRd W0 vt to)(hn:to.length=n)(x:Nx s M vs W0 h o0 m)(hlen:m.blocks.length=n)(hn2:n<=100)(h0:aX [2,3,4,5,6] ρ=[(2,vr),(3,ptz M),(4,UH UI n),(5,vt),(6,UH UI 0)])(hQ : ∀h',Nx s M vs W0 h' o0 (up (λb m=>m.nF b (nth to b)) n m)->Q .normal [(2,vr),(3,ptz M),(4,UH UI n),(5,vt),(6,UH UI n)] h'):
  LC.wp UQ (.block 0 (.loop L.au.l1)) Q ρ h:=by
 simp only[aW];refine cL [2,3,4,5,6] (fun(_:Unit) k=>[vr,ptz M,UH UI n,vt,UH UI k]) (λ_ k h2=>Nx s M vs W0 h2 o0 (up (λb m=>m.nF b (nth to b)) k m)) n ()
  rfl U1 h0 x (λ_ _=>rfl) (λv k h2 hk m=>by simp) ?_ ?_
 ·rintro _ b h2 hlt x2 K2 hK2;have hlb:(up (λb m=>MS.nF m b (nth to b)) b m).blocks.length=n:=(uD b).trans hlen;have e2:up (λb m=>MS.nF m b (nth to b)) (b+1) m=(up (λb m=>MS.nF m b (nth to b)) b m).nF b (nth to b):=rfl;rw[e2]at hK2;generalize up (λb m=>MS.nF m b (nth to b)) b m=m2 at x2 hK2 hlb;obtain⟨rv,hrv⟩:=hto.rows;obtain⟨hr1,hr2⟩:=hrv b U1;obtain⟨W,o,g,w,f⟩:=x2;obtain⟨vb,vl,lb,bb⟩:=w.box;have rd:=w.reads bb;have ito:=(hto.mono g).mono w.own.wle;simp only[aW];refine aK (vw h2) UE ?_;simp(disch:=omega)[rd.cb,rd.blk.idxn (N:=6) rfl,ito.idx1 rfl,hr1 _ (UF g w.own.wle)];refine w.PM bb (b:=b) (l:=nth to b) U1 U0 rfl rfl (hr2.mono g) λh3 o3 w3 f3=>?_;exact hK2 () _ _ rfl rfl ⟨W,o3,g,w3,λk hk=>(f3 k hk).trans (f k hk)⟩
 rintro _ h2 x2;exact hQ h2 x2
theorem sub_le{H K L:View}(h:H.sub K)(k:K.le L):H.sub L:=λb o hb=>by obtain⟨o',h1,h2⟩:=h b o hb;exact⟨o',k _ _ h1,h2⟩
variable{W:View}
theorem Owns.Lc{h:Heap}{o:Own}{k:Key}{B:Nat}{e:TypeId}{l:List Value}(w:Owns W h o)(hk:o k=bx e B (RawN.mk (n:=n) l)): ∃cur,h[B]? = UK (.cells cur e (0,0))/\∃r,cur.toList=l++r:=by
 obtain⟨hb,xs,⟨hl,hown⟩,hel⟩:=w.get (k:=k) (v:=UM (UK ⟨B,0,UL⟩) 1 1) (l:=[RawN.mk (n:=n) l]) hk;have h0:=hel 0 U2;simp only[Tv,SM,SQ,RI,Uk]at h0 hl;rw[Rq U1]at h0;obtain⟨h0,_,_⟩:xs=l/\_:=h0;subst h0;rcases hown with⟨h1,_⟩ | ⟨g,cap,cur,h1,h2,h3,h4,h5,h6⟩
 ·cases h1
 simp only[Value.slice.injEq,Q2,Addr.mk.injEq]at h1;obtain⟨⟨rfl,_⟩,_⟩:=h1;refine⟨cur,h2,cur.toList.drop (1*Rep.n (RawN n)),?_⟩;have h6:cur.toList.take (1*Rep.n (RawN n))=xs:=by simpa using h6
 rw[<-h6,SX]
section
variable{s:List Int}{M:Nat}{vs:Value}{W:View}{h:Heap}{o:Own}{m:MS}{vb vl:Value}{lb:List BlkM}
theorem MkB.JI(w:Owns W h o)(bb:MkB M vs m o vb vl lb): ∃H:View,H.sub (vw h)/\an H ⟨M,3,UL⟩=UK vb/\SlRd H vb lb/\
  ∀h2 o2,Owns W h2 o2->MkB M vs m.aV o2 vb vl lb->(∀X:View,X.le (vw h)->X M=UL->X.le (vw h2))->∃X:View,H.sub X/\W.le X/\X.le (vw h2)/\SlRd X vb lb/\∀i,i<m.blocks.length->Av X (nth lb i).phis.v:=by
 obtain⟨cur,hM,r,hr⟩:=Owns.Lc w bb.box;have aM:=w.av (0,0) _ bb.box;have aM:W M=none:=aM M rfl;have avb:=w.av (0,2) _ bb.blk;have hne : ∀b,vb.ownBlock=UK b->b≠M:=λb hb e=>by have:=w.dj (0,2) (0,0) _ _ b bb.blk bb.box hb (by rw[e];rfl);simp at this
 obtain⟨w6,s6⟩:=w.freeze bb.blk;have hYM:(W.plus vb h) M=none:=by unfold View.plus;rw[if_neg (λe=>hne M e rfl)];exact aM
 have hYle:(W.plus vb h).le (vw h):=w6.wle;let P:Obj:=.cells #[vs,UH UI m.at_,UH UI m.ps,vb] T.bu (0,0);have hpre : ∀{c:Array Value} {r:List Value} {nx:Int},c.toList=mkL vs m.at_ m.ps vb nx vl++r->(Obj.cells c T.bu (0,0)=P\/∃c1 c2 t fz,P = .cells c1 t fz/\Obj.cells c T.bu (0,0) = .cells c2 t fz/\∃r:List Value,c2.toList=c1.toList++r):=fun{c r nx} hc=>.inr ⟨_,c,_,_,rfl,rfl,[UH UI nx,vl]++r,by rw[hc];rfl⟩;refine⟨λb=>if b=M then UK P else(W.plus vb h) b,λb x hb=>?_,?_,?_,λh2 o2 w2 b2 keep=>?_⟩
 ·dsimp only at hb;split at hb
  ·rename_i e;cases hb;subst e;exact⟨_,hM,hpre hr⟩
  exact⟨x,hYle b x hb,.inl rfl⟩
 ·simp[an,P]
 ·refine s6.mono λb x hb=>?_;show(if b=M then UK P else(W.plus vb h) b)=_;rw[if_neg]
  ·exact hb
  rintro rfl;rw[hYM]at hb;cases hb
 obtain⟨cur2,hM2,r2,hr2⟩:=Owns.Lc w2 b2.box;have hY2:=keep _ hYle hYM;refine⟨λb=>if b=M then h2[M]? else(W.plus vb h) b,λb x hb=>?_,λb x hb=>?_,λb x hb=>?_,s6.mono λb x hb=>?_,λi hi b hb=>?_⟩
 ·dsimp only at hb;split at hb
  ·rename_i e;cases hb;subst e;exact⟨_,by simp[hM2],hpre hr2⟩
  rename_i e;exact⟨x,by simpa[e]using hb,.inl rfl⟩
 ·have e:b≠M:=by rintro rfl;rw[aM]at hb;cases hb
  show(if b=M then h2[M]? else(W.plus vb h) b)=_;rw[if_neg e];exact gU avb b x hb
 ·dsimp only at hb;split at hb
  ·rename_i e;subst e;exact hb
  exact hY2 b x hb
 ·have e:b≠M:=by rintro rfl;rw[hYM]at hb;cases hb
  show(if b=M then h2[M]? else(W.plus vb h) b)=_;rw[if_neg e];exact hb
 have e:b≠M:=λe=>by have:=w.dj (1,i) (0,0) _ _ b (bb.phis i hi) bb.box hb (by rw[e];rfl);simp at this
 show(if b=M then h2[M]? else(W.plus vb h) b)=_;rw[if_neg e];exact w6.av (1,i) _ ((Own.aB U2).trans (bb.phis i hi)) b hb
theorem Mk.O8(w:Mk s M vs W h o m)(bb:MkB M vs m o vb vl lb)(h0:0<=m.next)(h1:m.next<=1000000000):
  ay UQ 37 #[ptz M] h (λu h'=>u = UH UI m.next/\∃o',Mk s M vs W h' o' m.aV/\MkB M vs m.aV o' vb vl lb/\(∀k:Key,3<=k.1->o' k=o k)/\∀X:View,X.le (vw h)->X M=UL->X.le (vw h')):=by refine(Di w.own bb.box h0 h1).mono ?_;rintro u h' ⟨rfl,w2,keep⟩;exact⟨rfl,_,⟨w2,w.src,vb,vl,lb,bb.at⟩,bb.at,pn U3,keep⟩
end
theorem Nz.ext{s:List Int}{M:Nat}{vs:Value}{W0:View}{h h':Heap}{o0:Own}{m:MS}{u:Value}{ds:List Int}(n:Nz s M vs W0 h o0 m u ds)(hle:(vw h).le (vw h')):Nz s M vs W0 h' o0 m u ds:=by obtain⟨W,o,g,w,f,sl⟩:=n;exact⟨W,o,g,⟨w.own.ext' hle,w.src,w.box⟩,f,sl⟩
structure Sz(n a p i:Nat)(m:MS):Prop where
 at_:m.at_<=a
 n0:0<=m.next
 next:m.next<=a
 live:m.live.length<=a
 ps0:0<=m.ps
 ps1:m.ps<=4
 len:m.blocks.length=n
 phis : ∀j,(nth m.blocks j).phis.length<=p
 ins : ∀j,(nth m.blocks j).ins.length<=i
theorem Sz.mono{n a p i a' p' i':Nat}{m:MS}(z:Sz n a p i m)(h1:a<=a')(h2:p<=p')(h3:i<=i'):Sz n a' p' i' m:=
 ⟨Rt z.at_ h1,z.n0,by have:=z.next;omega,Rt z.live h1,z.ps0,z.ps1,z.len,λj=>Rt (z.phis j) h2,λj=>Rt (z.ins j) h3⟩
theorem Sz.ok{n a p i:Nat}{m:MS}(z:Sz n a p i m)(h:i<=a):m.ok a:=⟨z.at_,z.n0,z.next,z.live,λj=>Rt (z.ins j) h⟩
theorem Sz.took{n a p i:Nat}{m:MS}(z:Sz n a p i m):Sz n (a+1) p i m.took:=⟨by have:=z.at_;show m.at_+1<=_;omega,z.n0,by have:=z.next;show m.next<=_;omega,by have:=z.live;show m.live.length<=_;omega,z.ps0,z.ps1,z.len,z.phis,z.ins⟩
variable{b:Nat}
theorem Sz.gY{a p i:Nat}{m:MS}(z:Sz n a p i m){x:BlkD}(h1:x.phis.length<=p)(h2:x.ins.length<=i):Sz n a p i { m with blocks:=m.blocks.set b x }:=by
 refine⟨z.at_,z.n0,z.next,z.live,z.ps0,z.ps1,by show(m.blocks.set b x).length=_;rw[RL];exact z.len,λj=>?_,λj=>?_⟩;all_goals
  show List.length (α:=_) _<=_
  rcases Ri j m.blocks.length with hl | hl
  ·simp only[bU hl]
   split
   ·assumption
   ·first | exact z.phis j | exact z.ins j
  ·first
    | (have:=z.phis j;rw[dt hl]at this;rw[dt (by simpa using hl)];exact this)
    | (have:=z.ins j;rw[dt hl]at this;rw[dt (by simpa using hl)];exact this)
theorem Sz.fG{n a p i b:Nat}{m:MS}(z:Sz n a p i m):Sz n (a+1) (p+1) i (fG b m):=by have h1:Sz n (a+1) (p+1) i m.aV:=⟨by have:=z.at_;show m.at_<=_;omega,by have:=z.n0;show 0<=m.next+1;omega,by have:=z.next;show m.next+1<=_;omega,by have:=z.live;show m.live.length<=_;omega,z.ps0,z.ps1,z.len,λj=>by have:=z.phis j;show(nth m.blocks j).phis.length<=_;omega,z.ins⟩;exact h1.gY (b:=b) (x:={ nth m.blocks b with phis:=(nth m.blocks b).phis++[⟨m.next,[]⟩] }) (by have:=z.phis b;show((nth m.blocks b).phis++[_]).length<=_;rw[Rl,RI];omega) (z.ins b)
theorem Sz.tg{n a p i b:Nat}{m:MS}(z:Sz n a p i m) : ∀k,Sz n (a+k) (p+k) i (up (λ_=>Go.Lft.fG b) k m)
 | 0=>z
 | k+1=>(Sz.tg z k).fG
section
variable{s:List Int}{M:Nat}{vs:Value}{W0:View}{h:Heap}{o0:Own}{m:MS}
variable{vp:Value}{lp:List Int}
theorem M5{a p i cnt:Nat}{vq:Value}(x:Nx s M vs W0 h o0 m)(hk:o0 (5,0)=it T.int vp lp)(z:Sz n a p i m)(hb:b<n)(hlp:lp.length=n)(hcnt:nth lp b=cnt)(hc:cnt<=10)(hn:n<=100)(ha:a<=100000)(hp:p<=100000)(h0:aX [2,3,4,5,7,8,9,10] ρ=[(2,vr),(3,ptz M),(4,UH UI n),(5,vt),(7,vp),(8,UH UI b),(9,vq),(10,UH UI 0)])(hQ : ∀h',Nx s M vs W0 h' o0 (up (λ_=>fG b) cnt m)->Q .normal [(2,vr),(3,ptz M),(4,UH UI n),(5,vt),(7,vp),(8,UH UI b),(9,vq),(10,UH UI cnt)] h'):
  LC.wp UQ (.block 4 (.loop L.au.l3)) Q ρ h:=by
 simp only[aW];refine cL [2,3,4,5,7,8,9,10] (fun(_:Unit) k=>[vr,ptz M,UH UI n,vt,vp,UH UI b,vq,UH UI k]) (λ_ k h2=>Nx s M vs W0 h2 o0 (up (λ_=>fG b) k m)) cnt ()
  rfl U1 h0 x (λ_ _=>rfl) (λv k h2 hk2 m=>by have sp:=m.z.at U3 hk;have e:=sp.int UE (i:=b) U1;rw[hcnt]at e;simp(disch:=omega)[sp.idx1 rfl,e]) ?_ ?_
 ·rintro _ k h2 hlt x2 K2 hK2;have z2:=z.tg (b:=b) k;have e2:up (λ_=>fG b) (k+1) m=fG b (up (λ_=>fG b) k m):=rfl;rw[e2]at hK2;generalize up (λ_=>fG b) k m=m2 at x2 hK2 z2;have hbl:b<m2.blocks.length:=by rw[z2.len];exact hb
  obtain⟨W,o,g,w,f⟩:=x2;obtain⟨vb,vl,lb,bb⟩:=w.box;have hbb:b<lb.length:=by rw[bb.len];exact hbl
  obtain⟨H,hH,c3,sH,JI⟩:=bb.JI w.own;have a1:=(sH.at hbb).part BlkM.qw;have a2:an H (((slA vb).add (b*6)).add 0)=UK (nth lb b).phis.v:=by rw[aC hbb];exact a1.raw
  have sb:=sH.bound;simp only[aW];refine Ij H hH ?_;simp(disch:=omega)[c3,sH.idxn (N:=6) rfl,a2];refine ah U0 (w.O8 bb z2.n0 (by have:=z2.next;omega)) ?_;rintro _ h3 ⟨rfl,o3,w3,b3,f3,keep⟩;obtain⟨X,hHX,hWX,hX,sX,avX⟩:=JI h3 o3 w3.own b3 keep;refine⟨sub_le hHX hX,?_⟩;refine aA (z:=zz4) (places:=zpd) (vs:=[(0,UH UI m2.next)]) (cs:=#[UH UI m2.next,UM UL 0 0]) U0 U0 U2 U0 ?_;refine⟨sub_le hHX hX,?_⟩;have i64:I64 m2.next:=by have:=z2.n0;have:=z2.next;constructor<;>omega
  have hph:=z2.phis b;refine mC (α:=PhiD) (W:=W) (d:=⟨m2.next,[]⟩) El.nj rfl (KN i64 aS) λu5 h5 src hle5 hs5=>⟨sub_le hHX (UF hX hle5),?_⟩;refine(w3.own.ext' hle5).dA (k:=(1,b)) (α:=PhiD) (v:=(nth lb b).phis.v) (l:=(nth m2.blocks b).phis) (l2:=[⟨m2.next,[]⟩]) (b3.phis b hbl) El.nj rfl rfl src U9 U9 λv6 h6 w6 m6=>⟨sub_le hHX (m6.view (UF hX hle5) (avX b hbl)).1,?_⟩;have hv6:=(w6.cells (k:=(1,b)) Own.ao).2;refine w6.sF (k:=(0,2)) (α:=BlkM) BlkM.qw (v:=vb) (l:=lb) (i:=b) (d:=⟨v6⟩) b3.blk U0 rfl rfl hbb (gG.2 ⟨rfl,hv6⟩) λh7 w7 _=>?_;have b7:=b3.gY (b:=b) hbl (x':={ nth m2.blocks b with phis:=(nth m2.blocks b).phis++[⟨m2.next,[]⟩] }) (y':={ lb[b]with phis:=⟨v6⟩ }) (o':=(o3.upd (1,b) (it T.fM v6 ((nth m2.blocks b).phis++[⟨m2.next,[]⟩]))).upd (0,2) (it T.e9 vb (lb.set b { lb[b]with phis:=⟨v6⟩ }))) (by rw[<-bb.term b hbl,aC hbb]) Own.ao ((Own.aB U2).trans Own.ao) (by rw[Own.aB U2,Own.aB U2,b3.ins b hbl,aC hbb];rfl) (λq h1 h2 h3=>by rw[Own.aB h1,Own.aB h2]);refine hK2 () _ _ rfl rfl ⟨W,_,g,⟨w7,w.src,vb,vl,_,b7⟩,λk hk=>?_⟩;rw[Own.aB (by rintro rfl;simp at hk),Own.aB (by rintro rfl;simp at hk)];exact(f3 k hk).trans (f k hk)
 rintro _ h2 x2;exact hQ h2 x2
end
variable{po:OP}{α:Type}{ty:TypeId}{us:List (Nat × Value)}{K:Value->Heap->Prop}
theorem Nz.zO{s:List Int}{h:Heap}{m:MS}{u:Value}{ds:List Int}[r:Rep α](n:Nz s M vs W0 h o0 m u ds){k:Key}{e:TypeId}{i:Nat}{v:Value}{l:List α}{t:TypeId}{x y:Operand}{d:α}{w:Value}(h1:Rep.n α=1)(h3:3<=k.1)(hk:o0 k=it e v l)(hi:i<l.length)(hsz:cU UQ t=UK 1)(hx:asg us x = UN (UK ((slA v).add i)))(hy:asg us y=w)(hr : ∀W,Rd W w d)(hK : ∀h',Nz s M vs W0 h' (o0.upd k (it e v (l.set i d))) m u ds->K undef h'):@Lft.step po UQ (.store t x y) ty us h K:=
 n.Nc h3 hk hi (by rw[hsz,h1]) (by rw[hx,h1,RY]) hy hr hK
theorem tP{s:List Int}{m:MS}:0<=jd s m b/\jd s m b<=3:=by
 unfold jd;have:=dv (s:=s) (at_:=m.at_) (n:=4) U3;repeat' split
 all_goals omega
theorem IZ{l:List Int}{i:Nat}{x:Int}(h:nth l i=x)(hi:i<l.length):l.set i x=l:=by rw[<-h,aC hi];exact List.set_getElem_self hi
structure Ph(n a k:Nat)(x:List Int × MS):Prop where
 z:Sz n (a+10*k) (3*k) 0 x.2
 len:x.1.length=n
 zero : ∀j,k<j->nth x.1 j=0
 rng : ∀j,0<=nth x.1 j/\nth x.1 j<=3
theorem yT{s:List Int}{a k:Nat}{x:List Int × MS}(p:Ph n a k x):Ph n a (k+1) (fL s k x):=by
 obtain⟨c0,c1⟩:=tP (s:=s) (m:=x.2) (b:=k+1);have hset : ∀j,nth (x.1.set (k+1) (jd s x.2 (k+1))) j=if k+1=j/\j<x.1.length then jd s x.2 (k+1) else nth x.1 j:=λj=>by
  rcases Ri j x.1.length with hl | hl
  ·rw[bU hl];by_cases e:k+1=j
   ·rw[if_pos e,if_pos ⟨e,hl⟩]
   rw[if_neg e,if_neg (λq=>e q.1)]
  rw[dt (by simpa using hl),if_neg U1,dt hl]
 refine⟨?_,?_,λj hj=>?_,λj=>?_⟩
 ·have:=(p.z.took).tg (b:=k+1) (jd s x.2 (k+1)).toNat;exact this.mono U1 U1 (Q4 _)
 ·show(x.1.set _ _).length=_;rw[RL];exact p.len
 ·show nth (x.1.set _ _) j=_;rw[hset,if_neg U1];exact p.zero j U1
 show 0<=nth (x.1.set _ _) j/\nth (x.1.set _ _) j<=3;rw[hset];split
 ·exact⟨c0,c1⟩
 exact p.rng j
theorem BU{s:List Int}{n a:Nat}{x:List Int × MS}(p:Ph n a 0 x) : ∀k,Ph n a k (up (fL s) k x)
 | 0=>p
 | k+1=>yT (BU p k)
variable{vp:Value}
theorem Mj{s:List Int}{h:Heap}{a:Nat}{x0:List Int × MS}(x:Nx s M vs W0 h (o0.upd (5,0) (it T.int vp x0.1)) x0.2)(p0:Ph n a 0 x0)(hn1:1<=n)(hn:n<=100)(ha:a<=10000)(h0:aX [2,3,4,5,7,8] ρ=[(2,vr),(3,ptz M),(4,UH UI n),(5,vt),(7,vp),(8,UH UI 1)])(hQ : ∀h',Nx s M vs W0 h' (o0.upd (5,0) (it T.int vp (up (fL s) (n-1) x0).1)) (up (fL s) (n-1) x0).2->Q .normal [(2,vr),(3,ptz M),(4,UH UI n),(5,vt),(7,vp),(8,UH UI n)] h'):
  LC.wp UQ (.block 2 (.loop L.au.l2)) Q ρ h:=by
 simp only[aW];refine yI [2,3,4,5,7,8] (fun(_:Unit) k=>[vr,ptz M,UH UI n,vt,vp,UH UI ((k+1:Nat):Int)]) (λ_ k h2=>Nx s M vs W0 h2 (o0.upd (5,0) (it T.int vp (up (fL s) k x0).1)) (up (fL s) k x0).2) (n-1) 1 ()
  rfl U1 h0 x (λ_ _=>rfl) (λv k h2 hk2 m=>by simp;omega) ?_ ?_
 ·rintro _ k h2 hlt x2 K2 hK2;have p2:=BU (s:=s) p0 k;have e2:up (fL s) (k+1) x0=fL s k (up (fL s) k x0):=rfl;have p3:=yT (s:=s) p2;rw[e2]at hK2;generalize up (fL s) k x0=y at x2 hK2 p2 p3;obtain⟨lp,m⟩:=y;have z:Sz n (a+10*k) (3*k) 0 m:=p2.z;have x2:Nx s M vs W0 h2 (o0.upd (5,0) (it T.int vp lp)) m:=x2;have q:m.ok (a+10*k):=z.ok U1;have hlen:lp.length=n:=p2.len;simp only[aW];refine aa λy hy=>?_;obtain⟨vb,vl,rd⟩:=x2.z.reads;simp[rd.f];refine ah U0 (xC (b:=((k+1:Nat):Int)) (rd.rd ⟨by have:=z.ps0;show _<=m.ps;omega,by have:=z.ps1;show m.ps<=_;omega⟩) (by show m.blocks.length<=_;rw[z.len];omega)) ?_;rintro vq h3 ⟨hle3,hq⟩;have n3:=x2.z.ext hle3;have hcd:jd s m (k+1)=_:=jd.eq_1 s m (k+1);obtain⟨pl,hpl⟩ : ∃pl:Nat,pl=(dr m.f ((k+1:Nat):Int)).length:=⟨_,rfl⟩;have hql : ∀{Q:View},Un.ev Q .len vq=UK (UH UI pl):=fun{Q}=>by rw[hpl];exact hq.len
  rw[<-hpl]at hcd;clear hq x2 rd hpl;subst hy;refine aa λy hy=>?_;have fin : ∀(h':Heap) (ρ:Env),Nz s M vs W0 h' (o0.upd (5,0) (it T.int vp (lp.set (k+1) (jd s m (k+1))))) m.took (UM UL 0 0) []->Lft.look ρ 2=UK vr->Lft.look ρ 3=UK (ptz M)->Lft.look ρ 4=UK (UH UI n)->Lft.look ρ 5=UK vt->Lft.look ρ 7=UK vp->Lft.look ρ 8=UK (UH UI ((k+1:Nat):Int))->Lft.look ρ 9=UK vq->
    LC.wp UQ y (dT 3 (fJ K2 (dT 2 Q))) ρ h':=by
   intro h' ρ n' r2 r3 r4 r5 r7 r8 r9;subst hy;refine aa λy hy=>?_;simp;subst hy;obtain⟨c0,c1⟩:=tP (s:=s) (m:=m) (b:=k+1);refine M5 (vr:=vr) (vt:=vt) (b:=k+1) (cnt:=(jd s m (k+1)).toNat) (vq:=vq) n'.x Own.ao z.took U1 (by rw[RL];exact hlen) (by rw[bU U1,if_pos rfl];omega) U1 hn U1 U1 ?_ λh4 x4=>?_
   ·simp[aX,af,ag,r2,r3,r4,r5,r7,r8,r9]
   simp;exact hK2 () _ _ rfl rfl x4
  refine aa λw hw=>?_;simp[hql];subst hw;by_cases c1:1<pl
  ·rw[if_pos c1]at hcd;refine aQ U9 ?_;simp;refine ah U0 (fq n3 q U1 (k:=4) U3 U3) ?_;rintro _ h4 ⟨rfl,n4⟩;have sp:=n4.at (k:=(5,0)) U3 Own.ao;simp(disch:=omega)[sp.idx1 rfl];refine n4.zO (k:=(5,0)) (α:=Int) (i:=k+1) (d:=aT s m.at_ 4) rfl U3 Own.ao U1 U0 rfl rfl (λW=>bw.2 ⟨rfl,by have:=dv (s:=s) (at_:=m.at_) (n:=4) U3;constructor<;>omega⟩) λh5 n5=>?_;refine fin h5 _ (n5.re λq=>by rw[fm,hcd]) ?_ ?_ ?_ ?_ ?_ ?_ ?_;all_goals simp
  rw[if_neg c1]at hcd;refine bg U9 ?_;refine aa λw hw=>?_;simp;refine ah U0 (fq n3 q U1 (k:=6) U3 U3) ?_;rintro _ h4 ⟨rfl,n4⟩;simp;subst hw;by_cases c2:aT s m.at_ 6=0
  ·rw[if_pos c2]at hcd;refine aQ (by simp[c2]) ?_;have sp:=n4.at (k:=(5,0)) U3 Own.ao;simp(disch:=omega)[sp.idx1 rfl];refine n4.zO (k:=(5,0)) (α:=Int) (i:=k+1) (d:=1) rfl U3 Own.ao U1 U0 rfl rfl (λW=>bw.2 ⟨rfl,by decide,by decide⟩) λh5 n5=>?_;refine fin h5 _ (n5.re λq=>by rw[fm,hcd]) ?_ ?_ ?_ ?_ ?_ ?_ ?_;all_goals simp
  rw[if_neg c2]at hcd;refine bg (by simp[c2]) ?_;simp;have e:lp.set (k+1) (jd s m (k+1))=lp:=by rw[hcd];exact IZ (p2.zero (k+1) U1) U1
  refine fin h4 _ (n4.re λq=>by rw[e]) ?_ ?_ ?_ ?_ ?_ ?_ ?_;all_goals simp
 rintro _ h2 x2;have e:n-1+1=n:=by omega
 have:=hQ h2 x2;simpa[e]using this
section
variable{s:List Int}{M:Nat}{vs:Value}{W0:View}{h:Heap}{o0:Own}{m:MS}
theorem KO{a p i:Nat}(z:Sz n a p i m):I64 m.ps:=by have:=z.ps0;have:=z.ps1;constructor<;>omega
variable{vd va:Value}
theorem ML{a p i:Nat}{r:Bool}{t:Nat}(x:Nx s M vs W0 h (o0.upd (7,0) (it T.qd va ([]:List BL))) m)(hfree:o0 (7,0)=UL)(z:Sz n a p i m)(hn:n<=100)(h0:aX [2,3,4,5,7,11,12,13,14,15,16] ρ=[(2,vr),(3,ptz M),(4,UH UI n),(5,vt),(7,vp),(11,vd),(12,UH UI t),(13,UH UI b),(14,.bool r),(15,va),(16,UH UI 0)])(hQ : ∀h' W' va,W0.le W'->Nx s M vs W' h' o0 m->SlRd W' va (tH m.f n)->Q .normal [(2,vr),(3,ptz M),(4,UH UI n),(5,vt),(7,vp),(11,vd),(12,UH UI t),(13,UH UI b),(14,.bool r),(15,va),(16,UH UI n)] h'):
  LC.wp UQ (.block 10 (.loop L.au.l6)) Q ρ h:=by
 simp only[aW];refine cL [2,3,4,5,7,11,12,13,14,15,16] (fun(va:Value) k=>[vr,ptz M,UH UI n,vt,vp,vd,UH UI t,UH UI b,.bool r,va,UH UI k]) (λva k h2=>Nx s M vs W0 h2 (o0.upd (7,0) (it T.qd va (rows (λa=>eW m.f (a:Int)) k))) m) n va
  rfl U1 h0 x (λ_ _=>rfl) (λv k h2 hk2 m=>by simp) ?_ ?_
 ·rintro va k h2 hlt x2 K2 hK2;simp only[aW];obtain⟨vb,vl,rd⟩:=x2.z.reads;simp[rd.f];refine ah U0 (zp (wo:=(k:Int)) (rd.rd (KO z)) (by show m.blocks.length<=_;rw[z.len];omega)) ?_;rintro ur h3 ⟨hle3,hur⟩;obtain⟨W,o,g,w,f⟩:=x2;have w3:=w.own.ext hle3;have hW3:=bo (h':=h3) w.own.wle;have hur:=hur.mono (kg W h2 h3);generalize grow W h2 h3=W3 at w3 hW3 hur;refine w3.gy (k:=(7,0)) (α:=BL) (d:=eW m.f (k:Int)) ((f _ U3).trans Own.ao) El.yp rfl (dD.2 hur) U9 U9 (λ_=>rfl) (λ_=>rfl) λu v' h4 w4 _=>?_;obtain⟨vb,vl,lb,bb⟩:=w.box;refine hK2 v' _ _ rfl rfl ⟨W3,_,UF g hW3,⟨w4,w.src.mono hW3,vb,vl,lb,bb.frame λq hq=>Own.aB (by rintro rfl;simp at hq)⟩,λq hq=>?_⟩;rw[fB];unfold Own.upd;split
  ·rfl
  rename_i e;rw[f q hq,Own.aB e]
 rintro va h2 ⟨W,o,g,w,f⟩;have hk:=(f (7,0) U3).trans Own.ao;obtain⟨w2,sl⟩:=w.own.freeze hk;have hWp:=gU (h:=h2) (w.own.av _ _ hk);obtain⟨vb,vl,lb,bb⟩:=w.box;refine hQ h2 _ va (UF g hWp) ⟨_,_,View.le_refl _,⟨w2,w.src.mono hWp,vb,vl,lb,bb.frame λq hq=>Own.aB (by rintro rfl;simp at hq)⟩,λq hq=>?_⟩ sl;by_cases e:q=(7,0)
 ·rw[e,Own.ao,hfree]
 rw[Own.aB e,f q hq,Own.aB e]
variable{dn:BL}{away:List BL}
theorem Nd{r:Bool}{t:Nat}(sd:SlRd (vw h) vd dn)(sa:SlRd (vw h) va away)(hb:b<n)(hdn:dn.length=n)(hal:away.length=n)(har : ∀i,i<n->(nth away i).length=n)(hn:n<=100)(h0:aX [2,3,4,5,7,11,12,13,14,15,17] ρ=[(2,vr),(3,ptz M),(4,UH UI n),(5,vt),(7,vp),(11,vd),(12,UH UI t),(13,UH UI b),(14,.bool r),(15,va),(17,UH UI 0)])(hQ:Q .normal [(2,vr),(3,ptz M),(4,UH UI n),(5,vt),(7,vp),(11,vd),(12,UH UI t),(13,UH UI b),(14,.bool (up (λa r=>r&&(decide (a=b)||nth dn a||nth (nth away a) b)) n r)),(15,va),(17,UH UI n)] h):
  LC.wp UQ (.block 12 (.loop L.au.l7)) Q ρ h:=by
 simp only[aW];refine cL [2,3,4,5,7,11,12,13,14,15,17] (fun(r:Bool) k=>[vr,ptz M,UH UI n,vt,vp,vd,UH UI t,UH UI b,.bool r,va,UH UI k]) (λr2 k h2=>h2=h/\r2=up (λa r=>r&&(decide (a=b)||nth dn a||nth (nth away a) b)) k r) n r
  rfl U1 h0 ⟨rfl,rfl⟩ (λ_ _=>rfl) (λv k h2 hk2 m=>by simp) ?_ ?_
 ·rintro r2 k h2 hlt ⟨rfl,hr2⟩ K2 hK2;have e:up (λa r=>r&&(decide (a=b)||nth dn a||nth (nth away a) b)) (k+1) r=(r2&&(decide (k=b)||nth dn k||nth (nth away k) b)):=by rw[hr2];rfl
  rw[e]at hK2;clear e hr2;obtain⟨rv,hrv⟩:=sa.rows;obtain⟨ha1,ha2⟩:=hrv k U1;have hl:=har k hlt;have hkb : ∀{A:Type},True:=trivial;simp only[aW];cases r2 with
  | false=>simp;exact hK2 UP _ _ rfl rfl ⟨rfl,rfl⟩
  | true=>
   by_cases c:k=b
   ·subst c;simp;exact hK2 UO _ _ rfl rfl ⟨rfl,by simp⟩
   have c':¬((k:Int)=(b:Int)):=by omega
   cases hd:nth dn k with
   | true=>simp(disch:=omega)[c,c',sd.idx1 rfl,sd.bool UE,hd];exact hK2 UO _ _ rfl rfl ⟨rfl,by simp[hd]⟩
   | false=>simp(disch:=omega)[c,c',sd.idx1 rfl,sd.bool UE,hd,sa.idx1 rfl,ha1 _ UE,ha2.idx1 rfl,ha2.bool UE];exact hK2 _ _ _ rfl rfl ⟨rfl,by simp[hd,c]⟩
 rintro r2 h2 ⟨rfl,rfl⟩;exact hQ
end
def MS.du(m:MS)(l:List Int):MS:={ m with live:=l }
section
variable{s:List Int}{M:Nat}{vs:Value}{W0:View}{h:Heap}{o0:Own}{m:MS}
variable{vb vl:Value}{ty2:TypeId}
theorem Mk.Ca{po2:OP}{o:Own}(w:Mk s M vs W h o m){lb:List BlkM}(bb:MkB M vs m o vb vl lb){l2:List Int}{u:Value}{x y c1 c2:Operand}{us2:Value->List (Nat × Value)}{K:Value->Value->Heap->Prop}(src:SrcT (vw h) W u l2)(hl:m.live.length+l2.length<=1000000)(hx:asg us x=vl)(hy:asg us y=u)(hc1 : ∀v,asg (us2 v) c1 = UN (UK ⟨M,5,UL⟩))(hc2 : ∀v,asg (us2 v) c2=v)(hK : ∀v h' o',Mk s M vs W h' o' (m.du (m.live++l2))->(∀k:Key,3<=k.1->o' k=o k)->K v undef h'):
  @Lft.step po UQ (.call ⟨.builtin .append,#[x,y],#[T.aY,T.aY]⟩) ty us h λv h2=>@Lft.step po2 UQ (.store T.aY c1 c2) ty2 (us2 v) h2 λw h3=>K v w h3:=by
 refine w.own.dA (k:=(0,1)) (α:=Int) (v:=vl) (l:=m.live) (l2:=l2) bb.live El.aY hx hy src U1 U1 λv h2 w2 _=>?_;have hv:=(w2.cells (k:=(0,1)) Own.ao).2;refine w2.dW (k:=(0,0)) (n:=5) (i:=5) (e:=T.bu) (B:=M) (l:=mkL vs m.at_ m.ps vb m.next vl) ((Own.aB U2).trans bb.box) U3 U0 (hc1 v) (hc2 v) hv λh3 w3 _=>?_;refine hK v h3 _ ⟨w3,w.src,vb,v,lb,⟨rfl,rfl,(Own.aB U2).trans ((Own.aB U2).trans bb.blk),bb.len,bb.term,λi hi=>?_,λi hi=>?_⟩⟩ λk hk=>?_
 ·exact(Own.aB U2).trans ((Own.aB U2).trans (bb.phis i hi))
 ·exact(Own.aB U2).trans ((Own.aB U2).trans (bb.ins i hi))
 rw[Own.aB (by rintro rfl;simp at hk),Own.aB (by rintro rfl;simp at hk)]
variable{vd va:Value}
theorem LV{a p i c:Nat}{r:Bool}{t:Nat}(x:Nx s M vs W0 h o0 (m.du []))(z:Sz n a p i m)(hc:m.ps=c)(h0:aX [2,3,4,5,7,11,12,13,15,18] ρ=[(2,vr),(3,ptz M),(4,UH UI n),(5,vt),(7,vp),(11,vd),(12,UH UI t),(13,UH UI b),(15,va),(18,UH UI 0)])(hQ : ∀h',Nx s M vs W0 h' o0 (m.du (rows (λi=>(i:Int)) c))->Q .normal [(2,vr),(3,ptz M),(4,UH UI n),(5,vt),(7,vp),(11,vd),(12,UH UI t),(13,UH UI b),(15,va),(18,UH UI c)] h'):
  LC.wp UQ (.block 14 (.loop L.au.l8)) Q ρ h:=by
 have hc4:c<=4:=by have:=z.ps1;omega
 simp only[aW];refine cL [2,3,4,5,7,11,12,13,15,18] (fun(_:Unit) k=>[vr,ptz M,UH UI n,vt,vp,vd,UH UI t,UH UI b,va,UH UI k]) (λ_ k h2=>Nx s M vs W0 h2 o0 (m.du (rows (λi=>(i:Int)) k))) c ()
  rfl U1 h0 x (λ_ _=>rfl) (λv k h2 hk2 x2=>by obtain⟨vb,vl,rd⟩:=x2.z.reads;have e:(m.du (rows (λi=>(i:Int)) k)).ps=c:=hc;simp[rd.ps,e]) ?_ ?_
 ·rintro _ k h2 hlt x2 K2 hK2;obtain⟨W,o,g,w,f⟩:=x2;obtain⟨vb,vl,lb,bb⟩:=w.box;have rd:=w.reads bb;simp only[aW];simp[rd.cl];refine mC (α:=Int) (W:=W) (d:=(k:Int)) El.aY rfl (bw.2 ⟨rfl,by constructor<;>omega⟩) λu5 h5 src hle5 hs5=>?_;have w5:Mk s M vs W h5 o (m.du (rows (λi=>(i:Int)) k)):=⟨w.own.ext' hle5,w.src,w.box⟩;refine w5.Ca bb src (by show(rows _ k).length+1<=_;simp;omega) rfl rfl (λ_=>rfl) (λ_=>rfl) λv h6 o6 w6 f6=>?_;refine hK2 () _ _ rfl rfl ⟨W,o6,g,?_,λk hk=>(f6 k hk).trans (f k hk)⟩;rw[fB];exact w6
 rintro _ h2 x2;exact hQ h2 x2
theorem JQ{a p i ai:Nat}{t:Nat}{lv:List Int}(x:Nx s M vs W0 h o0 (m.du lv))(z:Sz n a p i m)(hai:ai<n)(hn:n<=100)(hl:lv.length<=100000)(hp:p<=100000)(h0:aX [2,3,4,5,7,11,12,13,15,19,20] ρ=[(2,vr),(3,ptz M),(4,UH UI n),(5,vt),(7,vp),(11,vd),(12,UH UI t),(13,UH UI b),(15,va),(19,UH UI ai),(20,UH UI 0)])(hQ : ∀h':Heap,Nx s M vs W0 h' o0 (m.du (lv++(nth m.blocks ai).phis.map PhiD.dst))->Q .normal [(2,vr),(3,ptz M),(4,UH UI n),(5,vt),(7,vp),(11,vd),(12,UH UI t),(13,UH UI b),(15,va),(19,UH UI ai),(20,UH UI (nth m.blocks ai).phis.length)] h'):
  LC.wp UQ (.block 18 (.loop L.au.l10)) Q ρ h:=by
 have hpl:=z.phis ai;have hlen:ai<m.blocks.length:=by rw[z.len];exact hai
 simp only[aW];have read : ∀{h2:Heap} {lv2:List Int} {vb vl:Value},Reads M (m.du lv2) h2 vb vl->∃vph,an (vw h2) (((slA vb).add (ai*6)).add 0)=UK vph/\SlRd (vw h2) vph (nth m.blocks ai).phis/\Bn.ev (.idx 6) vb (UH UI ai)=UK (UN (UK ((slA vb).add (ai*6)))):=by intro h2 lv2 vb vl rd;have hb:=rd.blk;have hl2:ai<(m.du lv2).blocks.length:=hlen;obtain⟨vph,h1⟩:=((hb.at hl2).part BlkD.qw).sl;have h2:=h1.2;have e:(m.du lv2).blocks[ai]=nth m.blocks ai:=(aC hl2).symm;rw[e]at h2;exact⟨vph,h1.1,h2,by have:=hb.idxn (N:=6) rfl (k:=.i64) (i:=ai) U1 U1;simpa using this⟩
 refine cL [2,3,4,5,7,11,12,13,15,19,20] (fun(_:Unit) k=>[vr,ptz M,UH UI n,vt,vp,vd,UH UI t,UH UI b,va,UH UI ai,UH UI k]) (λ_ k h2=>Nx s M vs W0 h2 o0 (m.du (lv++((nth m.blocks ai).phis.take k).map PhiD.dst))) (nth m.blocks ai).phis.length ()
  rfl U1 h0 (by simpa using x) (λ_ _=>rfl) (λv k h2 hk2 x2=>by obtain⟨vb,vl,rd⟩:=x2.z.reads;obtain⟨vph,r1,r2,r3⟩:=read rd;simp[rd.cb,r3,r1,r2.len]) ?_ ?_
 ·rintro _ k h2 hlt x2 K2 hK2;obtain⟨W,o,g,w,f⟩:=x2;obtain⟨vb,vl,lb,bb⟩:=w.box;have rd:=w.reads bb;obtain⟨vph,r1,r2,r3⟩:=read rd;have r4:an (vw h2) (((slA vph).add (k*2)).add 0)=UK (UH UI (nth m.blocks ai).phis[k].dst):=((r2.at hlt).part PhiD.gm).int;have i64:=((r2.at hlt).part PhiD.gm).rng;have r5:Bn.ev (.idx 2) vph (UH UI k)=UK (UN (UK ((slA vph).add (k*2)))):=by have:=r2.idxn (N:=2) rfl (k:=.i64) (i:=k) U1 U1;simpa using this
  simp only[aW];refine aK (vw h2) UE ?_;simp[rd.cl,rd.cb,r3,r1,r4,r5];refine mC (α:=Int) (W:=W) (d:=(nth m.blocks ai).phis[k].dst) El.aY rfl (bw.2 ⟨rfl,i64⟩) λu5 h5 src hle5 hs5=>⟨hle5,?_⟩;have w5:Mk s M vs W h5 o (m.du (lv++((nth m.blocks ai).phis.take k).map PhiD.dst)):=⟨w.own.ext' hle5,w.src,w.box⟩;refine w5.Ca bb src (by show(lv++_).length+1<=_;simp;omega) rfl rfl (λ_=>rfl) (λ_=>rfl) λv h6 o6 w6 f6=>?_;refine hK2 () _ _ rfl rfl ⟨W,o6,g,?_,λk hk=>(f6 k hk).trans (f k hk)⟩;rw[Rr hlt,Tj,<-List.append_assoc];exact w6
 rintro _ h2 x2;rw[RR]at x2;exact hQ h2 x2
end
theorem Ek{l:List InsD}:(l.flatMap cO).length<=2*l.length:=by
 induction l with
 | nil=>simp
 | cons a l ih=>
  have:(cO a).length<=2:=by
   unfold cO;repeat' split
   all_goals simp
  simp only[S3,Rl,RZ];omega
section
variable{s:List Int}{M:Nat}{vs:Value}{W0:View}{h:Heap}{o0:Own}{m:MS}
variable{vd va:Value}
theorem J1{a p i ai:Nat}{t:Nat}{lv:List Int}(x:Nx s M vs W0 h o0 (m.du lv))(z:Sz n a p i m)(hai:ai<n)(hn:n<=100)(hl:lv.length<=100000)(hi:i<=100000)(h0:aX [2,3,4,5,7,11,12,13,15,19,21] ρ=[(2,vr),(3,ptz M),(4,UH UI n),(5,vt),(7,vp),(11,vd),(12,UH UI t),(13,UH UI b),(15,va),(19,UH UI ai),(21,UH UI 0)])(hQ : ∀h':Heap,Nx s M vs W0 h' o0 (m.du (lv++(nth m.blocks ai).ins.flatMap cO))->Q .normal [(2,vr),(3,ptz M),(4,UH UI n),(5,vt),(7,vp),(11,vd),(12,UH UI t),(13,UH UI b),(15,va),(19,UH UI ai),(21,UH UI (nth m.blocks ai).ins.length)] h'):
  LC.wp UQ (.block 20 (.loop L.au.l11)) Q ρ h:=by
 have hil:=z.ins ai;have hlen:ai<m.blocks.length:=by rw[z.len];exact hai
 simp only[aW];have read : ∀{h2:Heap} {lv2:List Int} {vb vl:Value},Reads M (m.du lv2) h2 vb vl->∃vi,an (vw h2) (((slA vb).add (ai*6)).add 1)=UK vi/\SlRd (vw h2) vi (nth m.blocks ai).ins/\Bn.ev (.idx 6) vb (UH UI ai)=UK (UN (UK ((slA vb).add (ai*6)))):=by intro h2 lv2 vb vl rd;have hb:=rd.blk;have hl2:ai<(m.du lv2).blocks.length:=hlen;obtain⟨vi,h1⟩:=((hb.at hl2).part BlkD.gO).sl;have h2:=h1.2;have e:(m.du lv2).blocks[ai]=nth m.blocks ai:=(aC hl2).symm;rw[e]at h2;exact⟨vi,h1.1,h2,by have:=hb.idxn (N:=6) rfl (k:=.i64) (i:=ai) U1 U1;simpa using this⟩
 refine cL [2,3,4,5,7,11,12,13,15,19,21] (fun(_:Unit) k=>[vr,ptz M,UH UI n,vt,vp,vd,UH UI t,UH UI b,va,UH UI ai,UH UI k]) (λ_ k h2=>Nx s M vs W0 h2 o0 (m.du (lv++((nth m.blocks ai).ins.take k).flatMap cO))) (nth m.blocks ai).ins.length ()
  rfl U1 h0 (by simpa using x) (λ_ _=>rfl) (λv k h2 hk2 x2=>by obtain⟨vb,vl,rd⟩:=x2.z.reads;obtain⟨vi,r1,r2,r3⟩:=read rd;simp[rd.cb,r3,r1,r2.len]) ?_ ?_
 ·rintro _ k h2 hlt x2 K2 hK2;obtain⟨vb,vl,rd⟩:=x2.z.reads;obtain⟨vi,r1,r2,r3⟩:=read rd;obtain⟨ux,hux,huxr⟩:=r2.wh rfl (N:=5) rfl hlt;have r5:Bn.ev (.idx 5) vi (UH UI k)=UK (UN (UK ((slA vi).add (k*5)))):=by have:=r2.idxn (N:=5) rfl (k:=.i64) (i:=k) U1 U1;simpa using this
  simp only[aW];refine aa λy hy=>?_;simp[rd.cb,r3,r1,r5,hux _ UE];refine ah U0 (sv huxr) ?_;rintro um h3 ⟨hle3,hum,-⟩;clear rd r1 r2 r3 r5 hux;obtain⟨W,o,g,w,f⟩:=x2;have w3:=w.own.ext hle3;have hW3:=bo (h':=h3) w.own.wle;have hum:=hum.mono (kg W h2 h3);generalize grow W h2 h3=W3 at w3 hW3 hum;have w4:Mk s M vs W3 h3 o (m.du (lv++((nth m.blocks ai).ins.take k).flatMap cO)):=⟨w3,w.src.mono hW3,w.box⟩;obtain⟨vb,vl,lb,bb⟩:=w4.box;have rd:=w4.reads bb;subst hy;simp[rd.cl];have hfl:=Ek (l:=(nth m.blocks ai).ins.take k);have hml:(cO (nth (nth m.blocks ai).ins k)).length<=2:=by
   unfold cO;repeat' split
   all_goals simp
  refine w4.Ca bb (hum.src w3.wle) (by show(lv++_).length+_<=_;simp at hfl ⊢;omega) rfl rfl (λ_=>rfl) (λ_=>rfl) λv h6 o6 w6 f6=>?_;refine hK2 () _ _ rfl rfl ⟨W3,o6,UF g hW3,?_,λk hk=>(f6 k hk).trans (f k hk)⟩;rw[Rr hlt,List.flatMap_append,List.flatMap_singleton,<-List.append_assoc,<-aC hlt];exact w6
 rintro _ h2 x2;rw[RR]at x2;exact hQ h2 x2
variable{dn:BL}{away:List BL}
theorem Im{a p i:Nat}(z:Sz n a p i m){ai:Nat}{l:List Int}:(iTq m dn away b ai l).length<=l.length+p+2*i:=by
 unfold iTq;split
 ·omega
 have h1:=z.phis ai;have h2:=z.ins ai;have h3:=Ek (l:=(nth m.blocks ai).ins);simp only[Rl,SJ];omega
theorem pZ{n a p i:Nat}(z:Sz n a p i m){dn:BL}{away:List BL}{b:Nat}{l:List Int} : ∀k,(up (iTq m dn away b) k l).length<=l.length+(p+2*i)*k
 | 0=>Q4 _
 | k+1=>by have:=pZ z (dn:=dn) (away:=away) (b:=b) (l:=l) k;have h2:=Im z (dn:=dn) (away:=away) (b:=b) (ai:=k) (l:=up (iTq m dn away b) k l);show(iTq m dn away b k (up (iTq m dn away b) k l)).length<=_;rw[TR];omega
theorem MD{a p i:Nat}{t:Nat}{l0:List Int}(x:Nx s M vs W0 h o0 (m.du l0))(z:Sz n a p i m)(hd:o0 (6,0)=it T.bool vd dn)(sa:SlRd W0 va away)(hb:b<n)(hdn:dn.length=n)(hal:away.length=n)(har : ∀i,i<n->(nth away i).length=n)(hn:n<=10)(hl:l0.length<=10)(hp:p<=1000)(hi:i<=3000)(h0:aX [2,3,4,5,7,11,12,13,15,19] ρ=[(2,vr),(3,ptz M),(4,UH UI n),(5,vt),(7,vp),(11,vd),(12,UH UI t),(13,UH UI b),(15,va),(19,UH UI 0)])(hQ : ∀h':Heap,Nx s M vs W0 h' o0 (m.du (up (iTq m dn away b) n l0))->Q .normal [(2,vr),(3,ptz M),(4,UH UI n),(5,vt),(7,vp),(11,vd),(12,UH UI t),(13,UH UI b),(15,va),(19,UH UI n)] h'):
  LC.wp UQ (.block 16 (.loop L.au.l9)) Q ρ h:=by
 simp only[aW];refine cL [2,3,4,5,7,11,12,13,15,19] (fun(_:Unit) k=>[vr,ptz M,UH UI n,vt,vp,vd,UH UI t,UH UI b,va,UH UI k]) (λ_ k h2=>Nx s M vs W0 h2 o0 (m.du (up (iTq m dn away b) k l0))) n ()
  rfl U1 h0 x (λ_ _=>rfl) (λv k h2 hk2 x2=>by simp) ?_ ?_
 ·rintro _ k h2 hlt x2 K2 hK2;have e2:up (iTq m dn away b) (k+1) l0=iTq m dn away b k (up (iTq m dn away b) k l0):=rfl;rw[e2]at hK2;have hll:=pZ z (dn:=dn) (away:=away) (b:=b) (l:=l0) k;have hll:(up (iTq m dn away b) k l0).length<=80000:=by have:(p+2*i)*k<=7000*10:=Tt U1 U1;omega
  generalize up (iTq m dn away b) k l0=lv at x2 hK2 hll;have hla:iTq m dn away b k lv=_:=iTq.eq_1 m dn away b k lv;have sd:=x2.z.at U3 hd;have sa2:=sa.mono x2.z.le;obtain⟨rv,hrv⟩:=sa2.rows;obtain⟨ha1,ha2⟩:=hrv k U1;have hal2:=har k hlt;simp only[aW];refine aa λy hy=>?_;have fin : ∀ρ,Lft.look ρ 2=UK vr->Lft.look ρ 3=UK (ptz M)->Lft.look ρ 4=UK (UH UI n)->Lft.look ρ 5=UK vt->Lft.look ρ 7=UK vp->Lft.look ρ 11=UK vd->Lft.look ρ 12=UK (UH UI t)->Lft.look ρ 13=UK (UH UI b)->Lft.look ρ 15=UK va->Lft.look ρ 19=UK (UH UI k)->(decide (k≠b)&&(!nth dn k||nth (nth away k) b))=UP->
    LC.wp UQ y (dT 17 (fJ K2 (dT 16 Q))) ρ h2:=by
   intro ρ r2 r3 r4 r5 r7 r11 r12 r13 r15 r19 hc;subst hy;rw[if_neg (by rw[hc];simp)]at hla;refine aa λy hy=>?_;refine aa λw hw=>?_;simp;subst hw;refine JQ (vr:=vr) (vt:=vt) (vp:=vp) (vd:=vd) (va:=va) (t:=t) (b:=b) (ai:=k) x2 z hlt U1 U1 U1 ?_ λh3 x3=>?_
   ·simp[aX,af,ag,r2,r3,r4,r5,r7,r11,r12,r13,r15,r19]
   simp;subst hy;refine aa λw hw=>?_;simp;subst hw;have hph:=z.phis k;refine J1 (vr:=vr) (vt:=vt) (vp:=vp) (vd:=vd) (va:=va) (t:=t) (b:=b) (ai:=k) x3 z hlt U1 U9 U1 ?_ λh4 x4=>?_
   ·simp[aX,af,ag]
   simp;refine hK2 () _ _ rfl rfl (by rw[hla];exact x4)
  refine aa λw hw=>?_;by_cases c:k=b
  ·subst c;simp;subst hw;refine bg U2 ?_;simp;refine fin _ ?_ ?_ ?_ ?_ ?_ ?_ ?_ ?_ ?_ ?_ U2;all_goals simp
  have c':¬((k:Int)=(b:Int)):=by omega
  cases hd2:nth dn k with
  | false=>simp(disch:=omega)[c,c',sd.idx1 rfl,sd.bool UE,hd2];subst hw;refine aQ U2 ?_;simp;refine hK2 () _ _ rfl rfl ?_;rw[if_pos (by simp[c,hd2])]at hla;rw[hla];exact x2
  | true=>
   simp(disch:=omega)[c,c',sd.idx1 rfl,sd.bool UE,hd2,sa2.idx1 rfl,ha1 _ UE,ha2.idx1 rfl,ha2.bool UE];subst hw;cases hw2:nth (nth away k) b with
   | true=>refine aQ (by simp[hw2]) ?_;simp;refine hK2 () _ _ rfl rfl ?_;rw[if_pos (by simp[c,hd2,hw2])]at hla;rw[hla];exact x2
   | false=>refine bg (by simp[hw2]) ?_;simp;refine fin _ ?_ ?_ ?_ ?_ ?_ ?_ ?_ ?_ ?_ ?_ (by simp[c,hd2,hw2]);all_goals simp
 rintro _ h2 x2;exact hQ h2 x2
end
structure B2(n a p:Nat)(x:BL × MS):Prop where
 z:Sz n a p 700 x.2
 len:x.1.length=n
 none : ∀j,j<n->nth x.1 j=UP->(nth x.2.blocks j).ins.length=0
variable{dn:BL}{away:List BL}
theorem AE{a p:Nat}{m:MS}(z:Sz n a p 700 m)(hn:n<=10)(hp:p<=100):(oF m dn away b n).length<=15100:=by have:=pZ z (dn:=dn) (away:=away) (b:=b) (l:=rows (λi=>(i:Int)) m.ps.toNat) n;rw[pG]at this;have h2:(p+2*700)*n<=1500*10:=Tt U1 hn;have:=z.ps1;unfold oF;omega
theorem rD{m:MS}{j:Nat}{t:cS}(hb:b<m.blocks.length):nth (m.BX b t).blocks j=if b=j then{ nth m.blocks b with term:=t } else nth m.blocks j:=by
 show nth (m.blocks.set b _) j=_;rcases Ri j m.blocks.length with hl | hl
 ·rw[bU hl]
 rw[dt (by simpa using hl),dt hl,if_neg U1]
theorem FW{s:List Int}{a p:Nat}{m:MS}(z:Sz n a p 700 m)(hb:b<n)(h0:(nth m.blocks b).ins.length=0)(hn:n<=10)(hp:p<=100)(ha:16000<=a):
  Sz n (a+600) p 700 (jS s to n dn away b m)/\∀j,j≠b->(nth (jS s to n dn away b m).blocks j).ins=(nth m.blocks j).ins:=by
 have hll:=AE (dn:=dn) (away:=away) (b:=b) z hn hp;have ht:=dv (s:=s) (at_:=m.at_) (n:=7) U3;have hbl:b<m.blocks.length:=by rw[z.len];exact hb
 obtain⟨m1,hm1⟩ : ∃m1:MS,m1=MS.took { m with live:=oF m dn away b n }:=⟨_,rfl⟩;have z1:Sz n (a+1) p 700 m1:=by rw[hm1];exact Sz.took ⟨z.at_,z.n0,z.next,by show(oF m dn away b n).length<=_;omega,z.ps0,z.ps1,z.len,z.phis,z.ins⟩
 have hl1:m1.live.length<=15100:=by rw[hm1];exact hll
 have e1 : ∀j,nth m1.blocks j=nth m.blocks j:=λj=>by rw[hm1];rfl
 have hb1:b<m1.blocks.length:=by rw[z1.len];exact hb
 have g:=((Grw.refl (b:=b) (m:=m1)).jt (s:=s) hb1 (aT s m.at_ 7).toNat).NW (s:=s) (to:=nth to b) hb1;have g:=g.mono (l:=520) U1;have e:jS s to n dn away b m=rZ s (nth to b) b (up (λ_=>aZ s b) (aT s m.at_ 7).toNat m1):=by rw[hm1];rfl
 rw[e];unfold rZ;generalize js s (nth to b) b (up (λ_=>aZ s b) (aT s m.at_ 7).toNat m1)=r at g;have hbr:b<r.2.blocks.length:=by rw[g.len];exact hb1
 have hown:=g.ins;rw[e1,h0]at hown;refine⟨⟨?_,?_,?_,?_,?_,?_,?_,λj=>?_,λj=>?_⟩,λj hj=>?_⟩
 ·show r.2.at_<=_;have:=g.at1;have:=z1.at_;omega
 ·show 0<=r.2.next;have:=g.n0;have:=z1.n0;omega
 ·show r.2.next<=_;have:=g.n1;have:=z1.next;omega
 ·show r.2.live.length<=_;have:=g.live;omega
 ·show 0<=r.2.ps;rw[g.ps];exact z1.ps0
 ·show r.2.ps<=4;rw[g.ps];exact z1.ps1
 ·show(r.2.blocks.set b _).length=n;rw[RL,g.len];exact z1.len
 ·rw[rD hbr];split
  ·rename_i e;subst e;show(nth r.2.blocks b).phis.length<=_;rw[g.phis];exact z1.phis b
  rename_i e;rw[g.els j (λq=>e q.symm)];exact z1.phis j
 ·rw[rD hbr];split
  ·rename_i e;subst e;show(nth r.2.blocks b).ins.length<=_;omega
  rename_i e;rw[g.els j (λq=>e q.symm)];exact z1.ins j
 rw[rD hbr,if_neg (λq=>hj q.symm),g.els j hj,e1]
theorem ue{s:List Int}{a p:Nat}{x:BL × MS}(q:B2 n a p x)(hb:b<n)(hn:n<=10)(hp:p<=100)(ha:16000<=a)(h0:wm x.1 (tH x.2.f n) b n=UO->nth x.1 b=UP):B2 n (a+600) p (cZ s to n b x):=by
 unfold cZ;split
 ·rename_i hr;obtain⟨z2,e2⟩:=FW (s:=s) (to:=to) (dn:=x.1.set b UO) (away:=tH x.2.f n) q.z hb (q.none b hb (h0 hr)) hn hp ha;refine⟨z2,by show(x.1.set b UO).length=n;rw[RL];exact q.len,λj hj h=>?_⟩;have h:nth (x.1.set b UO) j=false:=h;rw[bU (by rw[q.len];exact hj)]at h;split at h
  ·cases h
  rename_i e;show(nth (jS _ _ _ _ _ _ _).blocks j).ins.length=0;rw[e2 j (λr=>e r.symm)];exact q.none j hj h
 exact⟨q.z.mono U1 (Q4 _) (Q4 _),q.len,q.none⟩
theorem J2{f:Nat->Bool} : ∀(n:Nat) (r:Bool),up (λa r=>r&&f a) n r=UO->r=UO
 | 0,r,h=>h
 | n+1,r,h=>by have h:(up (λa r=>r&&f a) n r&&f n)=true:=h;simp only[Q9]at h;exact J2 n r h.1
theorem sI(h:wm dn away b n=UO):nth dn b=false:=by unfold wm at h;have:=J2 _ _ h;simpa using this
section
variable{s:List Int}{M:Nat}{vs:Value}{W0:View}{h:Heap}{o0:Own}{m:MS}
variable{vd va:Value}
theorem Jr{k c:Nat}{t:Nat}(x:Nx s M vs W0 h o0 m)(hfree:o0 (9,0)=UL)(hm:m.ok c)(hc:c<=100000)(hk:k<=100)(hb:b<m.blocks.length)(h0:aX [2,3,4,5,7,11,12,13,15,23,24] ρ=[(2,vr),(3,ptz M),(4,UH UI n),(5,vt),(7,vp),(11,vd),(12,UH UI t),(13,UH UI b),(15,va),(23,UH UI k),(24,UH UI 0)])(hQ : ∀h':Heap,Nx s M vs W0 h' o0 (up (λ_=>aZ s b) k m)->Q .normal [(2,vr),(3,ptz M),(4,UH UI n),(5,vt),(7,vp),(11,vd),(12,UH UI t),(13,UH UI b),(15,va),(23,UH UI k),(24,UH UI k)] h'):
  LC.wp UQ (.block 22 (.loop L.au.l12)) Q ρ h:=by
 have oks : ∀j,(up (λ_=>aZ s b) j m).ok (c+80*j)/\(up (λ_=>aZ s b) j m).blocks.length=m.blocks.length:=by
  intro j;induction j with
  | zero=>exact⟨hm,rfl⟩
  | succ j ih=>exact⟨(ih.1.kI (s:=s) (b:=b)).mono U1,(qF (s:=s) (b:=b)).trans ih.2⟩
 simp only[aW];refine cL [2,3,4,5,7,11,12,13,15,23,24] (fun(_:Unit) j=>[vr,ptz M,UH UI n,vt,vp,vd,UH UI t,UH UI b,va,UH UI k,UH UI j]) (λ_ j h2=>Nx s M vs W0 h2 o0 (up (λ_=>aZ s b) j m)) k ()
  rfl U1 h0 x (λ_ _=>rfl) (λv k h2 hk2 x2=>by simp) ?_ ?_
 ·rintro _ j h2 hlt x2 K2 hK2;obtain⟨q1,q2⟩:=oks j;have e2:up (λ_=>aZ s b) (j+1) m=aZ s b (up (λ_=>aZ s b) j m):=rfl;rw[e2]at hK2;generalize up (λ_=>aZ s b) j m=m2 at x2 hK2 q1 q2;simp only[aW];simp;refine ah U0 (yx x2 (b:=b) U1 q1 U1 hfree) ?_;rintro _ h3 x3;exact hK2 () _ _ rfl rfl x3
 rintro _ h2 x2;exact hQ h2 x2
end
theorem Nx.up{s:List Int}{h:Heap}{m:MS}(x:Nx s M vs W h o0 m)(hW:W0.le W):Nx s M vs W0 h o0 m:=by obtain⟨W',o,g,w,f⟩:=x;exact⟨W',o,UF hW g,w,f⟩
theorem Nx.re{s:List Int}{h:Heap}{o0':Own}{m:MS}(x:Nx s M vs W h o0 m)(he : ∀k,o0' k=o0 k):Nx s M vs W h o0' m:=by obtain⟨W',o,g,w,f⟩:=x;exact⟨W',o,g,w,λk hk=>(f k hk).trans (he k).symm⟩
theorem Nx.mg{po:OP}{s:List Int}{M:Nat}{vs:Value}{W0:View}{h:Heap}{o0:Own}{m:MS}{α:Type}[r:Rep α]{ty e t:TypeId}{us:List (Nat × Value)}{k:Key}{bytes:Nat}{z:Value}{K:Value->Heap->Prop}(x:Nx s M vs W0 h o0 m)(h3:3<=k.1)(hk:o0 k=UL)(hT:eF UQ t e (Rep.n α) bytes z)
  (hK : ∀v h',v.oneCell'=UO->Nx s M vs W0 h' (o0.upd k (it e v ([]:List α))) m->K v h'):@Lft.step po UQ (.buildSlice t 0 #[]) ty us h K:=by
 obtain⟨W,o,g,w,f⟩:=x;refine w.own.mg (k:=k) (α:=α) ((f k h3).trans hk) hT λv h2 hle2 hv w2 _=>hK v h2 hv ?_;obtain⟨vb,vl,lb,bb⟩:=w.box;refine⟨W,_,g,⟨w2,w.src,vb,vl,lb,bb.frame λq hq=>Own.aB (by rintro rfl;omega)⟩,λq hq=>?_⟩;unfold Own.upd;split
 ·rfl
 exact f q hq
variable{ty2:TypeId}
theorem Nx.JB{po2:OP}{s:List Int}{h:Heap}{m:MS}{us2:Value->List (Nat × Value)}{c1 c2:Operand}{K:Value->Value->Heap->Prop}(x:Nx s M vs W0 h o0 m)(hc1 : ∀v,asg (us2 v) c1 = UN (UK ⟨M,5,UL⟩))(hc2 : ∀v,asg (us2 v) c2=v)(hK : ∀v h',Nx s M vs W0 h' o0 (m.du [])->K v undef h'):@Lft.step po UQ (.buildSlice T.aY 0 #[]) ty us h λv h2=>@Lft.step po2 UQ (.store T.aY c1 c2) ty2 (us2 v) h2 λw h3=>K v w h3:=by
 obtain⟨W,o,g,w,f⟩:=x;obtain⟨vb,vl,lb,bb⟩:=w.box;have w1:=w.own.sub (o':=o.upd (0,1) UL) λj i hj=>by
  unfold Own.upd at hj;split at hj
  ·cases hj
  exact hj
 refine w1.mg (k:=(0,1)) (α:=Int) Own.ao El.aY λv h2 hle2 hv w2 _=>?_;have w2:=w2.congr (o':=o.upd (0,1) (it T.int v ([]:List Int))) λq=>by unfold Own.upd;split<;>rfl
 refine w2.dW (k:=(0,0)) (n:=5) (i:=5) (e:=T.bu) (B:=M) (l:=mkL vs m.at_ m.ps vb m.next vl) ((Own.aB U2).trans bb.box) U3 U0 (hc1 v) (hc2 v) hv λh3 w3 _=>?_;refine hK v h3 ⟨W,_,g,⟨w3,w.src,vb,v,lb,⟨rfl,rfl,(Own.aB U2).trans ((Own.aB U2).trans bb.blk),bb.len,bb.term,λi hi=>?_,λi hi=>?_⟩⟩,λk hk=>?_⟩
 ·exact(Own.aB U2).trans ((Own.aB U2).trans (bb.phis i hi))
 ·exact(Own.aB U2).trans ((Own.aB U2).trans (bb.ins i hi))
 rw[Own.aB (by rintro rfl;simp at hk),Own.aB (by rintro rfl;simp at hk)];exact f k hk
section
variable{s:List Int}{M:Nat}{vs:Value}{W0:View}{h:Heap}{o0:Own}{m:MS}
variable{vd:Value}
theorem Mc{a p:Nat}{t:Nat}{x0:BL × MS}(x:Nx s M vs W0 h (o0.upd (6,0) (it T.bool vd x0.1)) x0.2)(hto:SlRd W0 vt to)(htl:to.length=n)(f7:o0 (7,0)=UL)(f90:o0 (9,0)=UL)(f91:o0 (9,1)=UL)(q:B2 n a p x0)(hn:n<=10)(hp:p<=100)(ha:16000<=a)(ha2:a<=90000)(h0:aX [2,3,4,5,7,11,12,13] ρ=[(2,vr),(3,ptz M),(4,UH UI n),(5,vt),(7,vp),(11,vd),(12,UH UI t),(13,UH UI 0)])(hQ : ∀h':Heap,Nx s M vs W0 h' (o0.upd (6,0) (it T.bool vd (up (cZ s to n) n x0).1)) (up (cZ s to n) n x0).2->Q .normal [(2,vr),(3,ptz M),(4,UH UI n),(5,vt),(7,vp),(11,vd),(12,UH UI t),(13,UH UI n)] h'):
  LC.wp UQ (.block 8 (.loop L.au.l5)) Q ρ h:=by
 have oks : ∀j,j<=n->B2 n (a+600*j) p (up (cZ s to n) j x0):=by
  intro j;induction j with
  | zero=>intro _;exact q
  | succ j ih=>intro hj;have:=ue (s:=s) (to:=to) (b:=j) (ih U1) U1 hn hp U1 λh=>sI h;exact⟨this.z.mono U1 (Q4 _) (Q4 _),this.len,this.none⟩
 simp only[aW];refine cL [2,3,4,5,7,11,12,13] (fun(_:Unit) j=>[vr,ptz M,UH UI n,vt,vp,vd,UH UI t,UH UI j]) (λ_ j h2=>Nx s M vs W0 h2 (o0.upd (6,0) (it T.bool vd (up (cZ s to n) j x0).1)) (up (cZ s to n) j x0).2) n ()
  rfl U1 h0 x (λ_ _=>rfl) (λv k h2 hk2 x2=>by simp) ?_ ?_
 ·rintro _ b h2 hlt x2 K2 hK2;have q2:=oks b U1;have e2:up (cZ s to n) (b+1) x0=cZ s to n b (up (cZ s to n) b x0):=rfl;rw[e2]at hK2;generalize up (cZ s to n) b x0=y at x2 hK2 q2;obtain⟨dn,m⟩:=y;have x2:Nx s M vs W0 h2 (o0.upd (6,0) (it T.bool vd dn)) m:=x2;have z:Sz n (a+600*b) p 700 m:=q2.z;have hdn:dn.length=n:=q2.len;have hbs:cZ s to n b (dn,m)=_:=cZ.eq_1 s to n b (dn,m);simp only at hbs;have sd:=x2.z.at U3 Own.ao;simp only[aW];refine aa λy hy=>?_;simp(disch:=omega)[sd.idx1 rfl,sd.bool UE];subst hy;refine aa λy hy=>?_;simp;refine x2.mg (k:=(7,0)) (α:=BL) U3 ((Own.aB U2).trans f7) El.yp λva h3 hva x3=>?_;clear sd;subst hy;refine aa λy hy=>?_;refine aa λw hw=>?_;simp;subst hw;refine ML (vr:=vr) (vt:=vt) (vp:=vp) (vd:=vd) (t:=t) (b:=b) (r:=!nth dn b) x3 ((Own.aB U2).trans f7) z U1 (by simp[aX,af,ag]) λh4 W4 va hW4 x4 sa=>?_;clear x3 hva x2;have hal:(tH m.f n).length=n:=by unfold tH;simp
  have har : ∀i,i<n->(nth (tH m.f n) i).length=n:=λi hi=>by unfold tH;rw[gH hi,uP];exact z.len
  generalize tH m.f n=away at sa hbs hal har;simp;subst hy;refine aa λy hy=>?_;refine aa λw hw=>?_;simp;subst hw;have sd:=x4.z.at U3 Own.ao;refine Nd (M:=M) (n:=n) (b:=b) (vr:=vr) (vt:=vt) (vp:=vp) (vd:=vd) (va:=va) (t:=t) (r:=!nth dn b) sd (sa.mono x4.z.le) hlt hdn hal har U1 (by simp[aX,af,ag]) ?_;have hrd:up (λa r=>r&&(decide (a=b)||nth dn a||nth (nth away a) b)) n (!nth dn b)=wm dn away b n:=rfl;rw[hrd];simp;subst hy;refine aa λy hy=>?_;refine aa λw hw=>?_;simp;subst hw;cases hr:wm dn away b n with
  | false=>rw[hr]at hbs;rw[if_neg U2]at hbs;refine aQ U2 ?_;simp;refine hK2 () _ _ rfl rfl ?_;rw[hbs];exact x4.up hW4
  | true=>
   rw[hr]at hbs;rw[if_pos rfl]at hbs;have hnb:=sI hr;have hib:=q2.none b hlt hnb;refine bg U2 ?_;simp;subst hy;refine aa λy hy=>?_;simp(disch:=omega)[sd.idx1 rfl];refine x4.z.zO (k:=(6,0)) (α:=Bool) (i:=b) (d:=true) rfl U3 Own.ao U1 U0 rfl rfl (λW=>qn.2 rfl) λh5 n5=>?_;have x5:Nx s M vs W4 h5 (o0.upd (6,0) (it T.bool vd (dn.set b UO))) m:=n5.x.re λq=>by rw[fm]
   clear n5 x4 sd;subst hy;refine aa λy hy=>?_;simp;refine x5.JB (λ_=>rfl) (λ_=>rfl) λv6 h6 x6=>?_;subst hy;obtain⟨c,hc⟩ : ∃c:Nat,m.ps=c:=⟨m.ps.toNat,by have:=z.ps0;omega⟩;have hc4:c<=4:=by have:=z.ps1;omega
   refine aa λy hy=>?_;refine aa λw hw=>?_;simp;subst hw;refine LV (n:=n) (b:=b) (vr:=vr) (vt:=vt) (vp:=vp) (vd:=vd) (va:=va) (t:=t) (r:=true) x6 z hc (by simp[aX,af,ag]) λh7 x7=>?_;simp;subst hy;refine aa λy hy=>?_;refine aa λw hw=>?_;simp;subst hw;refine MD (n:=n) (b:=b) (vr:=vr) (vt:=vt) (vp:=vp) (vd:=vd) (va:=va) (t:=t) (dn:=dn.set b UO) (away:=away) x7 z Own.ao sa hlt (by rw[RL];exact hdn) hal har hn U9 U1 U1 (by simp[aX,af,ag]) λh8 x8=>?_;have hlv:up (iTq m (dn.set b UO) away b) n (rows (λi=>(i:Int)) c)=oF m (dn.set b UO) away b n:=by unfold oF;rw[hc];rfl
   rw[hlv]at x8;have hll:=AE (dn:=dn.set b UO) (away:=away) (b:=b) z hn hp;have hdo:jS s to n (dn.set b UO) away b m=rZ s (nth to b) b (up (λ_=>aZ s b) (aT s m.at_ 7).toNat (MS.took (m.du (oF m (dn.set b UO) away b n)))):=rfl;rw[hdo]at hbs;obtain⟨m1,hm1⟩ : ∃m1,m1=m.du (oF m (dn.set b UO) away b n):=⟨_,rfl⟩;have z1:Sz n (a+600*b) p 700 m1:=by rw[hm1];exact⟨z.at_,z.n0,z.next,by show(oF _ _ _ _ _).length<=_;omega,z.ps0,z.ps1,z.len,z.phis,z.ins⟩
   have ea:m.at_=m1.at_:=by rw[hm1];rfl
   rw[<-hm1]at x8 hbs;rw[ea]at hbs;clear hlv hdo hm1 ea x7 x6 x5;simp;subst hy;refine aa λy hy=>?_;simp;refine ah U0 (fq x8.z (z1.ok U1) U1 (k:=7) U3 U3) ?_;rintro _ h9 ⟨rfl,n9⟩;obtain⟨t0,t1⟩:=dv (s:=s) (at_:=m1.at_) (n:=7) U3;generalize aT s m1.at_ 7=kk at hbs t0 t1;obtain⟨k,rfl⟩ : ∃k:Nat,kk=k:=⟨kk.toNat,by omega⟩;rw[show((k:Int)).toNat=k by omega]at hbs;subst hy;refine aa λy hy=>?_;refine aa λw hw=>?_;simp;subst hw;have zok:=(z1.took).ok (show 700<=_ by omega);refine Jr (n:=n) (b:=b) (k:=k) (c:=a+600*b+1) (vr:=vr) (vt:=vt) (vp:=vp) (vd:=vd) (va:=va) (t:=t) n9.x ((Own.aB U2).trans f90) zok U1 U1 (by show b<m1.blocks.length;rw[z1.len];exact hlt) (by simp[aX,af,ag]) λh10 x10=>?_;have oks2 : ∀j,(up (λ_=>aZ s b) j m1.took).ok (a+600*b+1+80*j)/\(up (λ_=>aZ s b) j m1.took).blocks.length=n:=by
    intro j;induction j with
    | zero=>exact⟨zok,z1.len⟩
    | succ j ih=>exact⟨(ih.1.kI (s:=s) (b:=b)).mono U1,(qF (s:=s) (b:=b)).trans ih.2⟩
   obtain⟨k1,k2⟩:=oks2 k;generalize up (λ_=>aZ s b) k m1.took=m2 at x10 hbs k1 k2;obtain⟨rv,hrv⟩:=hto.rows;obtain⟨hr1,hr2⟩:=hrv b U1;have ito:=(hto.mono hW4).mono x10.z.le;simp;subst hy;simp(disch:=omega)[ito.idx1 rfl,hr1 _ (UF hW4 x10.z.le)];refine ah U0 (O2 x10 (b:=b) U1 k1 U1 ((Own.aB U2).trans f91) (hr2.mono hW4)) ?_;rintro _ h11 x11;refine hK2 () _ _ rfl rfl ?_;rw[hbs];exact x11.up hW4
 rintro _ h2 x2;exact hQ h2 x2
end
section
structure GdB(x:BlkD):Prop where
 ins : ∀i∈x.ins,i.args.length<=10
 args:x.term.args.length<=10
 to:x.term.to.length<=1000
 phis : ∀p∈x.phis,p.ins.length<=1000
def Gd(m:MS):Prop:=∀j,j<m.blocks.length->GdB (nth m.blocks j)
variable{s:List Int}{m:MS}{b:Nat}
theorem Gd.took(g:Gd m):Gd m.took:=g
theorem Gd.aV(g:Gd m):Gd m.aV:=g
theorem Gd.gY(g:Gd m){x:BlkD}(hx:b<m.blocks.length->GdB x):Gd { m with blocks:=m.blocks.set b x }:=λj hj=>by
 have hj:j<m.blocks.length:=by simpa using hj
 show GdB (nth (m.blocks.set b x) j);rw[bU hj];split
 ·rename_i e;exact hx U1
 exact g j hj
theorem Gd.add(g:Gd m){i:InsD}(hi:i.args.length<=10):Gd (m.add b i):=by
 have:=g.gY (b:=b) (x:={ nth m.blocks b with ins:=(nth m.blocks b).ins++[i] }) λhb=>⟨λj hj=>by
  rcases Rj.1 hj with h | h
  ·exact(g b hb).ins j h
  rw[Q8]at h;rw[h];exact hi,(g b hb).args,(g b hb).to,(g b hb).phis⟩;exact this
theorem Gd.constant(g:Gd m){n:Int}:Gd (m.constant b n):=g.aV.add (by show 0<=10;omega)
theorem Gd.two(g:Gd m){op x y:Int}:Gd (m.two b op x y):=g.aV.add (by show 2<=10;omega)
theorem Gd.aU(g:Gd m):Gd (aU s m b).2:=by
 unfold Go.Lft.aU;repeat' split
 ·exact g.took.took.constant
 ·exact g.took.took.took.took.took.constant
 exact g.took.took.took
theorem Gd.addr(g:Gd m):Gd (qI s m b).2:=by
 unfold qI;simp only;split
 ·exact g.took.constant.took.aU.constant.two.two
 exact g.took.constant.took
theorem Gd.off(g:Gd m):Gd (offS s m).2:=by
 unfold offS;split
 ·exact g.took.took.took.took
 exact g.took.took
theorem Gd.memory(g:Gd m){st:Bool}:Gd (jQ s m b st):=by
 unfold jQ;simp only;split
 ·exact g.addr.off.aU.add (by show 2<=10;omega)
 exact g.addr.off.aV.add (by show 1<=10;omega)
theorem Gd.bin(g:Gd m){op:Int}:Gd (binS s m b op):=by
 unfold binS;simp only;split
 ·exact g.aU.aU.took.took.constant.two
 exact g.aU.aU.took.two
theorem Gd.div(g:Gd m):Gd (divS s m b):=by
 unfold divS;simp only;split
 ·exact g.aU.took.constant.took.took.constant.two
 exact g.aU.took.constant.took.two
theorem Gd.args{x:List Int × MS}(g:Gd x.2) : ∀n,Gd (up (iS s b) n x).2/\(up (iS s b) n x).1.length=x.1.length+n
 | 0=>⟨g,rfl⟩
 | n+1=>⟨(Gd.args g n).1.aU,by show((up (iS s b) n x).1++[_]).length=_;rw[Rl,(Gd.args g n).2,RI];omega⟩
theorem Gd.call(g:Gd m):Gd (qG s m b):=by unfold qG;simp only;have ht:=dv (s:=s) (at_:=m.at_) (n:=5) U3;obtain⟨g2,l2⟩:=Gd.args (s:=s) (b:=b) (x:=([],m.took)) g.took (aT s m.at_ 5).toNat;refine g2.aV.took.add ?_;show(up (iS s b) (aT s m.at_ 5).toNat ([],m.took)).1.length<=10;rw[l2];simp;omega
theorem Gd.kI(g:Gd m):Gd (aZ s b m):=by
 unfold aZ;simp only;repeat' split
 ·exact g.took.bin
 ·unfold ltuS;exact g.took.aU.aU.two
 ·exact g.took.div
 ·exact g.took.memory
 ·exact g.took.call
 ·unfold A1;exact g.took.aU.aU.aV.aV.add (by show 2<=10;omega)
 exact g.took.took.took.constant
theorem Gd.jt(g:Gd m) : ∀n,Gd (up (λ_=>aZ s b) n m)
 | 0=>g
 | n+1=>(Gd.jt g n).kI
theorem Gd.PK(g:Gd m){to:List Int}(ht:to.length<=1000):Gd (rZ s to b m):=by
 have h:Gd (js s to b m).2/\(js s to b m).1.args.length<=10/\(js s to b m).1.to.length<=1000:=by
  unfold js;simp only;repeat' split
  ·exact⟨g.took.took,by show 0<=10;omega,by show 0<=1000;omega⟩
  ·exact⟨g.took.aU,by show 1<=10;omega,by show 0<=1000;omega⟩
  ·exact⟨g.took,by show 0<=10;omega,by show 0<=1000;omega⟩
  ·exact⟨g,by show 0<=10;omega,ht⟩
  ·exact⟨g.aU.took.aU.aV.took.add (by show 2<=10;omega),by show 1<=10;omega,ht⟩
  ·exact⟨g.aU.took,by show 1<=10;omega,ht⟩
  exact⟨g.aU.constant.two,by show 1<=10;omega,ht⟩
 obtain⟨h1,h2,h3⟩:=h;exact h1.gY λhb=>⟨(h1 b hb).ins,h2,h3,(h1 b hb).phis⟩
theorem Gd.nF(g:Gd m){l:List Int}(hl:l.length<=1000):Gd (m.nF b l):=g.gY λhb=>⟨(g b hb).ins,(g b hb).args,hl,(g b hb).phis⟩
theorem Gd.fG(g:Gd m):Gd (Go.Lft.fG b m):=by
 have:=g.aV.gY (b:=b) (x:={ nth m.blocks b with phis:=(nth m.blocks b).phis++[⟨m.next,[]⟩] }) λhb=>⟨(g b hb).ins,(g b hb).args,(g b hb).to,λp hp=>by
  rcases Rj.1 hp with h | h
  ·exact(g b hb).phis p h
  rw[Q8]at h;rw[h];show 0<=1000;omega⟩;exact this
theorem Gd.tg(g:Gd m) : ∀n,Gd (up (λ_=>Go.Lft.fG b) n m)
 | 0=>g
 | n+1=>(Gd.tg g n).fG
theorem Gd.vH(g:Gd m){i:Nat}{l:List InD}(hl:l.length<=1000):Gd (m.vH b i l):=g.gY λhb=>⟨(g b hb).ins,(g b hb).args,(g b hb).to,λp hp=>by
 rcases Tz hp with h | h
 ·exact(g b hb).phis p h
 rw[h];exact hl⟩
theorem Gd.smF{a p i:Nat}(g:Gd m)(z:Sz n a p i m)(hn:n<=10000)(hp:p<=10000)(hi:i<=10000):SmF m.f:=by refine⟨by show m.blocks.length<=_;rw[z.len];exact hn,λj hj=>?_⟩;have hj:j<m.blocks.length:=hj;have h:=g j hj;have e:nth m.f.blocks j=nth m.blocks j:=rfl;rw[e];exact⟨Rt (z.phis j) hp,Rt (z.ins j) hi,by have:=h.args;omega,by have:=h.to;omega,λk hk=>by have:=h.phis _ (bF hk);omega,λk hk=>by have:=h.ins _ (bF hk);omega⟩
theorem yK{f:ak} : ∀n,∀t∈thTo f n,t.mks.length<=1000
 | 0,t,h=>by cases h
 | n+1,t,h=>by
  rw[iB]at h;rcases Rj.1 h with h | h
  ·exact yK n t h
  unfold thB at h;simp only[Rj,Q8,rows,Sf,SG]at h;rcases h with(⟨i,_,rfl⟩ | ⟨i,_,rfl⟩) | rfl
  ·show 1<=1000;omega
  ·show(cO _).length<=1000;unfold cO;repeat' split
   all_goals simp
  show 0<=1000;omega
theorem DX{n a p i:Nat}(z:Sz n a p i m) : ∀k,(thTo m.f k).length<=(p+i+1)*k
 | 0=>Q4 _
 | k+1=>by have h1:=DX z k;have h2:=z.phis k;have h3:=z.ins k;have e:nth m.f.blocks k=nth m.blocks k:=rfl;rw[iB,Rl,TR];unfold thB;simp only[Rl,pG,RI,e];omega
theorem uH{a p i:Nat}(z:Sz n a p i m)(hn:n<=10)(hp:p<=1000)(hi:i<=3000):(aD m.f).length<=60000:=by
 have h1:=DX z n;have h2:(p+i+1)*n<=5000*10:=Tt U1 hn;have e:aD m.f=thTo m.f n:=by unfold aD;rw[show m.f.blocks.length=n from z.len]
 rw[e];omega
theorem zd{a p i:Nat}(z:Sz n a p i m)(hn:n<=10)(hp:p<=1000)(hi:i<=3000):(jv m.f b).length<=70000000:=by
 have h:=AN (l:=aD m.f) (f:=m.f) (b:=b) (c:=1000) (yK _) (out:=rows (λi=>(i:Int)) m.f.params.toNat);have h2:=uH z hn hp hi;have h3:m.f.params.toNat<=4:=by have:=z.ps1;show m.ps.toNat<=4;omega
 rw[pG]at h;have e:jv m.f b=(aD m.f).foldl (fe m.f b) (rows (λi=>(i:Int)) m.f.params.toNat):=rfl;rw[e];omega
end
structure P3(n a p i:Nat)(m:MS):Prop where
 z:Sz n a p i m
 g:Gd m
theorem P3.mono{n a p i a' p' i':Nat}{m:MS}(q:P3 n a p i m)(h1:a<=a')(h2:p<=p')(h3:i<=i'):P3 n a' p' i' m:=⟨q.z.mono h1 h2 h3,q.g⟩
theorem Sz.const{a p i:Nat}{m:MS}{k:Int}(z:Sz n a p i m):Sz n (a+3) p (i+1) (m.constant b k):=by have h1:Sz n (a+3) p (i+1) { m.aV with live:=m.live++cO (conD m.next k) }:=⟨by have:=z.at_;show m.at_<=_;omega,by have:=z.n0;show 0<=m.next+1;omega,by have:=z.next;show m.next+1<=_;omega,by have:=z.live;show(m.live++[m.next]).length<=_;rw[Rl,RI];omega,z.ps0,z.ps1,z.len,z.phis,λj=>by have:=z.ins j;show(nth m.blocks j).ins.length<=_;omega⟩;exact h1.gY (b:=b) (x:={ nth m.blocks b with ins:=(nth m.blocks b).ins++[conD m.next k] }) (z.phis b) (by have:=z.ins b;show((nth m.blocks b).ins++[_]).length<=_;rw[Rl,RI];omega)
theorem Sz.vH{n a p i b j:Nat}{m:MS}{l:List InD}(z:Sz n a p i m):Sz n a p i (m.vH b j l):=
 z.gY (by show((nth m.blocks b).phis.set j _).length<=_;rw[RL];exact z.phis b) (z.ins b)
def rowS(s:List Int)(b:Nat)(m:MS):List Int × MS:=if(jv m.f b).length=0 then([m.next],m.took.took.constant b (mA s m)) else(jv m.f b,m)
theorem JG{s:List Int}{m:MS}:0<(rowS s b m).1.length:=by
 unfold rowS;split
 ·show 0<1;omega
 show 0<(jv m.f b).length;omega
theorem IM{s:List Int}{a p i:Nat}{m:MS}(z:Sz n a p i m)(hn:n<=10)(hp:p<=1000)(hi:i<=3000):(rowS s b m).1.length<=70000000:=by
 unfold rowS;split
 ·show 1<=70000000;omega
 exact zd z hn hp hi
theorem G3{s:List Int}{a p i:Nat}{m:MS}(q:P3 n a p i m):P3 n (a+5) p (i+1) (rowS s b m).2:=by
 unfold rowS;split
 ·exact⟨(q.z.took.took.const).mono U1 (Q4 _) (Q4 _),q.g.took.took.constant⟩
 exact q.mono U1 (Q4 _) U1
theorem Hw{s:List Int}{p:List Int}{k:Nat}{x:List InD × MS}(h:nth p k=b):ef s p k x=(x.1++[⟨b,nth (rowS s b x.2).1 (aT s (rowS s b x.2).2.at_ (rowS s b x.2).1.length).toNat⟩],(rowS s b x.2).2.took):=by unfold ef;rw[h];rfl
theorem lC{s:List Int}{n a p i:Nat}{pl:List Int}{x:List InD × MS}(q:P3 n a p i x.2) : ∀k,P3 n (a+6*k) p (i+k) (up (ef s pl) k x).2/\(up (ef s pl) k x).1.length=x.1.length+k
 | 0=>⟨q,rfl⟩
 | k+1=>by
  obtain⟨h1,h2⟩:=lC (pl:=pl) q k;have h3:=G3 (s:=s) (b:=(nth pl k).toNat) h1;refine⟨?_,?_⟩
  ·have e:(up (ef s pl) (k+1) x).2=(rowS s (nth pl k).toNat (up (ef s pl) k x).2).2.took:=rfl;rw[e];exact⟨(h3.z.took).mono U1 (Q4 _) U1,h3.g.took⟩
  have e:(up (ef s pl) (k+1) x).1=(up (ef s pl) k x).1++[⟨nth pl k,nth (rowS s (nth pl k).toNat (up (ef s pl) k x).2).1 (aT s (rowS s (nth pl k).toNat (up (ef s pl) k x).2).2.at_ (rowS s (nth pl k).toNat (up (ef s pl) k x).2).1.length).toNat⟩]:=rfl;rw[e,Rl,h2,RI];omega
variable{pl:List Int}
theorem Mf{s:List Int}{a p i j:Nat}{m:MS}(q:P3 n a p i m)(hp:pl.length<=9):P3 n (a+54) p (i+9) (phi3 s b pl j m):=by obtain⟨h1,h2⟩:=lC (s:=s) (pl:=pl) (x:=([],m)) q pl.length;exact⟨(h1.z.vH).mono U1 (Q4 _) U1,h1.g.vH (by rw[h2];show 0+_<=_;omega)⟩
theorem qm{s:List Int}{n a p i b:Nat}{pl:List Int}{m:MS}(q:P3 n a p i m)(hp:pl.length<=9) : ∀k,P3 n (a+54*k) p (i+9*k) (up (phi3 s b pl) k m)
 | 0=>q
 | k+1=>(Mf (qm q hp k) hp).mono U1 (Q4 _) U1
theorem Pa{H:View}{a b:Int}(ha:I64 a)(hb:I64 b):Rd H (.agg #[UH UI a,UH UI b]) (InD.mk a b):=⟨_,rfl,[UH UI a],[UH UI b],rfl,⟨rfl,ha⟩,rfl,hb⟩
section
variable{s:List Int}{M:Nat}{vs:Value}{W0:View}{h:Heap}{o0:Own}{m:MS}
theorem Nx.Lq(x:Nx s M vs W0 h o0 m){h':Heap}{k:Key}{u:Value}{l:List Int}(h3:3<=k.1)(hk:o0 k=UL)(hle:(vw h).le (vw h'))(hb : ∀b,u.ownBlock=UK b->h.size<=b)(ho:OwnT nothing h' T.int u l):Nx s M vs W0 h' (o0.upd k (it T.int u l)) m:=by
 obtain⟨W,o,g,w,f⟩:=x;have w2:=w.own.add (k:=k) ((f k h3).trans hk) (EU (W':=W) ho) hle hb;obtain⟨vb,vl,lb,bb⟩:=w.box;refine⟨W,_,g,⟨w2,w.src,vb,vl,lb,bb.frame λq hq=>Own.aB (by rintro rfl;omega)⟩,λq hq=>?_⟩;unfold Own.upd;split
 ·rfl
 exact f q hq
theorem Nx.freeze{α:Type}[r:Rep α]{k:Key}{e:TypeId}{v:Value}{l:List α}(x:Nx s M vs W0 h (o0.upd k (it e v l)) m)(h3:3<=k.1)(hk:o0 k=UL) : ∃W',W0.le W'/\Nx s M vs W' h o0 m/\SlRd W' v l:=by
 obtain⟨W,o,g,w,f⟩:=x;have hk2:=(f k h3).trans Own.ao;obtain⟨w2,sl⟩:=w.own.freeze hk2;have hWp:=gU (h:=h) (w.own.av _ _ hk2);obtain⟨vb,vl,lb,bb⟩:=w.box;refine⟨_,UF g hWp,⟨_,_,View.le_refl _,⟨w2,w.src.mono hWp,vb,vl,lb,bb.frame λq hq=>Own.aB (by rintro rfl;omega)⟩,λq hq=>?_⟩,sl⟩;by_cases e2:q=k
 ·rw[e2,Own.ao,hk]
 rw[Own.aB e2,f q hq,Own.aB e2]
theorem Nx.gy{po po2:OP}{α:Type}[r:Rep α]{k:Key}{e t ty ty2:TypeId}{bytes:Nat}{z:Value}{v:Value}{l:List α}(x:Nx s M vs W0 h o0 m)(h3:3<=k.1)(hk:o0 k=it e v l){a y y2:Operand}{us:List (Nat × Value)}{us2:Value->List (Nat × Value)}{u:Value}{d:α}{K:Value->Value->Heap->Prop}(hT:eF UQ t e (Rep.n α) bytes z)(hx:asg us a=u)(hr : ∀W,Rd W u d)
  (hb:(l.length+1)*bytes<=140737488355328) (hb2:l.length+1<=140737488355328) (hy : ∀u,asg (us2 u) y=v) (hy2 : ∀u,asg (us2 u) y2=u)
  (hK : ∀u v' h',Nx s M vs W0 h' (o0.upd k (it e v' (l++[d]))) m->K u v' h') :
  @Lft.step po UQ (.buildSlice t 1 #[(0,a)]) ty us h λu h2=>@Lft.step po2 UQ (.call ⟨.builtin .append,#[y,y2],#[t,t]⟩) ty2 (us2 u) h2 λv' h3=>K u v' h3:=by
 obtain⟨W,o,g,w,f⟩:=x;refine w.own.gy (k:=k) (d:=d) ((f k h3).trans hk) hT hx (hr W) hb hb2 hy hy2 λu v' h' w2 _=>hK u v' h' ?_;obtain⟨vb,vl,lb,bb⟩:=w.box;refine⟨W,_,g,⟨w2,w.src,vb,vl,lb,bb.frame λq hq=>Own.aB (by rintro rfl;omega)⟩,λq hq=>?_⟩;unfold Own.upd;split
 ·rfl
 exact f q hq
variable{vd:Value}
theorem KI{a p i j:Nat}{vq vi:Value}(x:Nx s M vs W0 h (o0.upd (7,2) (it T.iZ vi ([]:List InD))) m)(f71:o0 (7,1)=UL)(q:P3 n a p i m)(hn:n<=10)(ha:a<=500000)(hia:i<=a)(hp:p<=100)(hi:i<=2000)(hq:SlRd W0 vq pl)(hpl:pl.length<=9)(hpr : ∀k,k<pl.length->∃c:Nat,nth pl k=c/\c<n)(h0:aX [2,3,4,5,7,11,25,26,27,28,29] ρ=[(2,vr),(3,ptz M),(4,UH UI n),(5,vt),(7,vp),(11,vd),(25,UH UI b),(26,vq),(27,UH UI j),(28,vi),(29,UH UI 0)])(hQ : ∀(h':Heap) vi,Nx s M vs W0 h' (o0.upd (7,2) (it T.iZ vi (up (ef s pl) pl.length ([],m)).1)) (up (ef s pl) pl.length ([],m)).2->Q .normal [(2,vr),(3,ptz M),(4,UH UI n),(5,vt),(7,vp),(11,vd),(25,UH UI b),(26,vq),(27,UH UI j),(28,vi),(29,UH UI pl.length)] h'):
  LC.wp UQ (.block 28 (.loop L.au.l15)) Q ρ h:=by
 simp only[aW];refine cL [2,3,4,5,7,11,25,26,27,28,29] (fun(vi:Value) k=>[vr,ptz M,UH UI n,vt,vp,vd,UH UI b,vq,UH UI j,vi,UH UI k]) (λvi k h2=>Nx s M vs W0 h2 (o0.upd (7,2) (it T.iZ vi (up (ef s pl) k ([],m)).1)) (up (ef s pl) k ([],m)).2) pl.length vi
  rfl U1 h0 x (λ_ _=>rfl) (λv k h2 hk2 x2=>by simp[hq.len]) ?_ ?_
 ·rintro vi k h2 hlt x2 K2 hK2;obtain⟨q2,hl2⟩:=lC (s:=s) (pl:=pl) (x:=([],m)) q k;obtain⟨c,hc,hcn⟩:=hpr k hlt;have e2:up (ef s pl) (k+1) ([],m)=ef s pl k (up (ef s pl) k ([],m)):=rfl;rw[e2,Hw hc]at hK2;have hl2:(up (ef s pl) k ([],m)).1.length<=9:=by rw[hl2];simp;omega
  generalize up (ef s pl) k ([],m)=y at x2 hK2 q2 hl2;obtain⟨il,m2⟩:=y;have q2:P3 n (a+54) p (i+9) m2:=P3.mono q2 U1 (Q4 _) U1;have hl2:il.length<=9:=hl2;have x2:Nx s M vs W0 h2 (o0.upd (7,2) (it T.iZ vi il)) m2:=x2;simp only at hK2;have hcell : ∀{h':Heap},W0.le (vw h')->an (vw h') ((slA vq).add k)=UK (UH UI c):=λg=>by rw[hq.int g hlt,hc]
  have hcell0:an W0 ((slA vq).add k)=UK (UH UI c):=by rw[hq.int UE hlt,hc]
  have hrow:rowS s c m2=_:=rowS.eq_1 s c m2;have hq3:=G3 (s:=s) (b:=c) q2;have hpos:=JG (s:=s) (b:=c) (m:=m2);have hrl0:=IM (s:=s) (b:=c) q2.z hn U1 U1;simp only[aW];refine aa λy hy=>?_;obtain⟨vb,vl,rd⟩:=x2.z.reads;refine aK (vw h2) UE ?_;simp(disch:=omega)[rd.f,(hq.mono x2.z.le).idx1 rfl,hcell x2.z.le];have hth:(aD m2.f).length<=60000:=uH q2.z hn U1 U1;refine ah U0 (Dq (b:=c) (rd.rd (KO q2.z)) (q2.g.smF q2.z U1 U1 U1) ⟨q2.z.ps0,by have:=q2.z.ps1;show m2.ps<=_;omega⟩ (by show c<m2.blocks.length;rw[q2.z.len];exact hcn) (yK _) U1) ?_;rintro u3 h3 ⟨hle3,hb3,ho3⟩;have x3:=x2.Lq (k:=(7,1)) U3 ((Own.aB U2).trans f71) hle3 hb3 ho3;clear rd x2 ho3 hb3;generalize jv m2.f c=sl at x3 hrow;subst hy;refine aa λy hy=>?_;have fin : ∀(v30:Value) (h':Heap) (ρ:Env),Nx s M vs W0 h' ((o0.upd (7,2) (it T.iZ vi il)).upd (7,1) (it T.int v30 (rowS s c m2).1)) (rowS s c m2).2->Lft.look ρ 2=UK vr->Lft.look ρ 3=UK (ptz M)->Lft.look ρ 4=UK (UH UI n)->Lft.look ρ 5=UK vt->Lft.look ρ 7=UK vp->Lft.look ρ 11=UK vd->Lft.look ρ 25=UK (UH UI b)->Lft.look ρ 26=UK vq->Lft.look ρ 27=UK (UH UI j)->Lft.look ρ 28=UK vi->Lft.look ρ 29=UK (UH UI k)->Lft.look ρ 30=UK v30->
    LC.wp UQ y (dT 29 (fJ K2 (dT 28 Q))) ρ h':=by
   intro v30 h' ρ x4 r2 r3 r4 r5 r7 r11 r25 r26 r27 r28 r29 r30;subst hy;generalize rowS s c m2=r at x4 hK2 hq3 hpos hrl0;obtain⟨W4,hW4,x4,s4⟩:=x4.freeze U3 ((Own.aB U2).trans f71);have hrl:=s4.bound;refine aK W4 x4.z.le ?_;simp(disch:=omega)[af,ag,r2,r3,r4,r5,r7,r11,r25,r26,r27,r28,r29,r30,(hq.mono hW4).idx1 rfl,ae hW4 hcell0,s4.len];refine ah U0 (fq x4.z (hq3.z.ok U1) U1 (k:=(r.1.length:Int)) U1 U1) ?_;rintro _ h5 ⟨rfl,n5⟩;refine⟨n5.le,?_⟩;obtain⟨t0,t1⟩:=dv (s:=s) (at_:=r.2.at_) (n:=(r.1.length:Int)) U1;generalize aT s r.2.at_ (r.1.length:Int)=tv at t0 t1 hK2;have hrng:=s4.range (i:=tv.toNat) U1;simp(disch:=omega)[af,ag,r2,r3,r4,r5,r7,r11,r25,r26,r27,r28,r29,r30,s4.idx1 rfl,s4.int UE];refine aA (z:=zz1) (places:=zpd) (vs:=[(0,UH UI c),(1,UH UI (nth r.1 tv.toNat))]) (cs:=#[UH UI c,UH UI (nth r.1 tv.toNat)]) U0 U0 U2 U0 ?_;refine n5.x.gy (k:=(7,2)) (α:=InD) (d:=⟨c,nth r.1 tv.toNat⟩) U3 Own.ao El.lf rfl (λW=>Pa U6 hrng) U1 U1 (λ_=>rfl) (λ_=>rfl) λu v' h6 x6=>?_;refine hK2 v' _ _ ?_ ?_ ((x6.re λq=>by rw[fm]).up hW4)
   ·simp[af,ag,r29]
   simp[aX,af,ag,r2,r3,r4,r5,r7,r11,r25,r26,r27,r28,r29]
  have hsl:=(x3.z.at (k:=(7,1)) U3 Own.ao).len (K:=vw h3);have hlen3 : ∀{Q:View},Un.ev Q .len u3=UK (UH UI sl.length):=fun{Q}=>(x3.z.at (k:=(7,1)) U3 Own.ao).len;refine aa λw hw=>?_;simp[hlen3];subst hw;by_cases c0:sl.length=0
  ·have c0':sl=[]:=Ry c0;rw[if_pos c0]at hrow;refine aQ (by simp[c0,c0']) ?_;refine aK W0 x3.z.le ?_;simp(disch:=omega)[hq.idx1 rfl,hcell0];refine ah U0 (Cf x3.z (q2.z.ok U1) U1) ?_;rintro _ h4 ⟨rfl,n4⟩;refine⟨n4.le,?_⟩;refine ah U0 (gQ n4 (b:=c) (by show c<m2.blocks.length;rw[q2.z.len];exact hcn) (q2.z.took.took.ok U1) U1 sP) ?_;rintro _ h5 ⟨rfl,n5⟩;have i64:I64 m2.next:=by have:=q2.z.n0;have:=q2.z.next;constructor<;>omega
   subst c0';refine n5.x.gy (k:=(7,1)) (α:=Int) (d:=m2.next) U3 Own.ao El.aY rfl (λW=>bw.2 ⟨rfl,i64⟩) U2 U2 (λ_=>rfl) (λ_=>rfl) λu v' h6 x6=>?_;refine fin v' h6 _ ?_ ?_ ?_ ?_ ?_ ?_ ?_ ?_ ?_ ?_ ?_ ?_ ?_
   ·rw[hrow];exact x6.re λq=>by rw[fm];rfl
   all_goals simp
  rw[if_neg c0]at hrow;have c0':¬sl=[]:=λe=>c0 (by rw[e];rfl);refine bg (by simp[c0']) ?_;simp;refine fin u3 h3 _ ?_ ?_ ?_ ?_ ?_ ?_ ?_ ?_ ?_ ?_ ?_ ?_ ?_
  ·rw[hrow];exact x3
  all_goals simp
 rintro vi h2 x2;exact hQ h2 vi x2
end
def Pc(lp:List Int)(m:MS):Prop:=∀j,((nth m.blocks j).phis.length:Int)=nth lp j
variable{lp:List Int}
theorem Pc.grw{m m':MS}{k:Nat}(p:Pc lp m)(g:Grw b k m m'):Pc lp m':=λj=>by
 by_cases e:j=b
 ·subst e;rw[g.phis];exact p j
 rw[g.els j e];exact p j
theorem Pc.gY{m:MS}{x:BlkD}(p:Pc lp m)(hx:x.phis.length=(nth m.blocks b).phis.length):Pc lp { m with blocks:=m.blocks.set b x }:=λj=>by
 show((nth (m.blocks.set b x) j).phis.length:Int)=_;rcases Ri j m.blocks.length with hl | hl
 ·rw[bU hl];split
  ·rename_i e;subst e;rw[hx];exact p b
  exact p j
 rw[dt (by simpa using hl)];have:=p j;rwa [dt hl]at this
theorem Pc.jS{s:List Int}{to:List (List Int)}{n b:Nat}{dn:BL}{away:List BL}{lp:List Int}{m:MS}(p:Pc lp m)(hb:b<m.blocks.length):Pc lp (jS s to n dn away b m):=by have p1:Pc lp (MS.took { m with live:=oF m dn away b n }):=p;have hb1:b<(MS.took { m with live:=oF m dn away b n }).blocks.length:=hb;have g:=((Grw.refl (b:=b) (m:=MS.took { m with live:=oF m dn away b n })).jt (s:=s) hb1 (aT s m.at_ 7).toNat).NW (s:=s) (to:=nth to b) hb1;exact(p1.grw g).gY rfl
theorem Pc.cZ{s:List Int}{to:List (List Int)}{n b:Nat}{lp:List Int}{x:BL × MS}(p:Pc lp x.2)(hb:b<x.2.blocks.length):Pc lp (cZ s to n b x).2:=by
 unfold Go.Lft.cZ;split
 ·exact p.jS hb
 exact p
theorem Pc.rowS{s:List Int}{b:Nat}{lp:List Int}{m:MS}(p:Pc lp m)(hb:b<m.blocks.length):Pc lp (rowS s b m).2:=by
 unfold Go.Lft.rowS;split
 ·have p1:Pc lp m.took.took:=p;exact p1.grw ((Grw.refl (b:=b) (m:=m.took.took)).constant hb)
 exact p
theorem H7{s:List Int}{m:MS}:(rowS s b m).2.blocks.length=m.blocks.length:=by
 unfold rowS;split
 ·exact dZ
 rfl
theorem Pc.lC{s:List Int}{pl:List Int}{lp:List Int}{x:List InD × MS}(p:Pc lp x.2)(hb : ∀k,k<pl.length->(nth pl k).toNat<x.2.blocks.length) : ∀k,k<=pl.length->Pc lp (up (ef s pl) k x).2/\(up (ef s pl) k x).2.blocks.length=x.2.blocks.length
 | 0,_=>⟨p,rfl⟩
 | k+1,h=>by obtain⟨h1,h2⟩:=Pc.lC (s:=s) p hb k U1;have e:(up (ef s pl) (k+1) x).2=(Go.Lft.rowS s (nth pl k).toNat (up (ef s pl) k x).2).2.took:=rfl;rw[e];exact⟨h1.rowS (by rw[h2];exact hb k U1),(pf).trans (H7.trans h2)⟩
theorem Pc.phi3{s:List Int}{b j:Nat}{pl:List Int}{lp:List Int}{m:MS}(p:Pc lp m)(hb : ∀k,k<pl.length->(nth pl k).toNat<m.blocks.length):Pc lp (phi3 s b pl j m)/\(phi3 s b pl j m).blocks.length=m.blocks.length:=by obtain⟨h1,h2⟩:=Pc.lC (s:=s) (pl:=pl) (x:=([],m)) p hb pl.length (Q4 _);exact⟨h1.gY U2,by show(List.set _ _ _).length=_;rw[RL];exact h2⟩
theorem Pc.qm{s:List Int}{b:Nat}{pl:List Int}{lp:List Int}{m:MS}(p:Pc lp m)(hb : ∀k,k<pl.length->(nth pl k).toNat<m.blocks.length) : ∀k,Pc lp (up (Go.Lft.phi3 s b pl) k m)/\(up (Go.Lft.phi3 s b pl) k m).blocks.length=m.blocks.length
 | 0=>⟨p,rfl⟩
 | k+1=>by obtain⟨h1,h2⟩:=Pc.qm (s:=s) (b:=b) p hb k;obtain⟨h3,h4⟩:=Pc.phi3 (s:=s) (b:=b) (j:=k) h1 (λk hk=>by rw[h2];exact hb k hk);exact⟨h3,h4.trans h2⟩
theorem zx{p:Nat->Bool} : ∀(n:Nat) (v:Int),v∈sift p (λa=>(a:Int)) n->∃c:Nat,v=c/\c<n
 | 0,v,h=>by cases h
 | n+1,v,h=>by
  cases hp:p n with
  | true=>
   rw[oZ hp]at h;rcases Rj.1 h with h | h
   ·obtain⟨c,h1,h2⟩:=zx n v h;exact⟨c,h1,by omega⟩
   rw[Q8]at h;exact⟨n,h,by omega⟩
  | false=>rw[nV hp]at h;obtain⟨c,h1,h2⟩:=zx n v h;exact⟨c,h1,by omega⟩
theorem Dj{p:Nat->Bool}(n k:Nat)(hk:k<(sift p (λa=>(a:Int)) n).length): ∃c:Nat,nth (sift p (λa=>(a:Int)) n) k=c/\c<n:=zx n _ (bF hk)
section
variable{s:List Int}{M:Nat}{vs:Value}{W0:View}{h:Heap}{o0:Own}{m:MS}
theorem Nx.P6[r:Rep α](x:Nx s M vs W0 h o0 m){h':Heap}{u:Value}{l:List α}(hle:(vw h).le (vw h'))(hs:SlRd (fresh h h') u l): ∃W',W0.le W'/\Nx s M vs W' h' o0 m/\SlRd W' u l:=by obtain⟨W,o,g,w,f⟩:=x;have hW:=bo (h':=h') w.own.wle;exact⟨_,UF g hW,⟨_,o,View.le_refl _,⟨w.own.ext hle,w.src.mono hW,w.box⟩,f⟩,hs.mono (kg W h h')⟩
variable{vb vl:Value}
theorem Mk.PR{o:Own}(w:Mk s M vs W h o m){lb:List BlkM}(bb:MkB M vs m o vb vl lb){i:Nat}{l:List InD}{v:Value}{x y:Operand}(hb:b<m.blocks.length)(hi:i<(nth m.blocks b).phis.length)(hsz:cU UQ ty2=UK 1)(hx:asg us x = UN (UK (((slA (nth lb b).phis.v).add (i*2)).add 1)))(hy:asg us y=v)(hr:SlRd W v l)(hK : ∀h' o',Mk s M vs W h' o' (m.vH b i l)->(∀k:Key,3<=k.1->o' k=o k)->K undef h'):@Lft.step po UQ (.store ty2 x y) ty us h K:=by
 have hbl:b<lb.length:=by rw[bb.len];exact hb
 refine w.own.sF (k:=(1,b)) (α:=PhiD) PhiD.gO (v:=(nth lb b).phis.v) (l:=(nth m.blocks b).phis) (i:=i) (d:=l) (bb.phis b hb) hsz hx hy hi (dD.2 hr) λh7 w7 _=>?_;have hs:lb.set b (nth lb b)=lb:=by rw[aC hbl];exact List.set_getElem_self hbl
 have b7:=bb.gY hb (x':={ nth m.blocks b with phis:=(nth m.blocks b).phis.set i { nth (nth m.blocks b).phis i with ins:=l } }) (y':=nth lb b) (o':=o.upd (1,b) (it T.fM (nth lb b).phis.v ((nth m.blocks b).phis.set i { (nth m.blocks b).phis[i]with ins:=l }))) (bb.term b hb) (by rw[hs,Own.aB U2];exact bb.blk) (by rw[Own.ao,aC hi]) (by rw[Own.aB U2];exact bb.ins b hb) (λq h1 h2 h3=>Own.aB h2);rw[hs]at b7;exact hK h7 _ ⟨w7,w.src,vb,vl,lb,b7⟩ λk hk=>Own.aB (by rintro rfl;simp at hk)
end
section
variable{s:List Int}{M:Nat}{vs:Value}{W0:View}{h:Heap}{o0:Own}{m:MS}
variable{vd:Value}
theorem J4{a p i cnt:Nat}{vq:Value}(x:Nx s M vs W0 h o0 m)(h5:o0 (5,0)=it T.int vp lp)(f71:o0 (7,1)=UL)(f72:o0 (7,2)=UL)(q:P3 n a p i m)(pc:Pc lp m)(hlp:lp.length=n)(hb:b<n)(hcnt:nth lp b=cnt)(hc3:cnt<=3)(hn:n<=10)(ha:a<=400000)(hia:i<=a)(hp:p<=100)(hi:i<=1900)(hq:SlRd W0 vq pl)(hpl:pl.length<=9)(hpr : ∀k,k<pl.length->∃c:Nat,nth pl k=c/\c<n)(h0:aX [2,3,4,5,7,11,25,26,27] ρ=[(2,vr),(3,ptz M),(4,UH UI n),(5,vt),(7,vp),(11,vd),(25,UH UI b),(26,vq),(27,UH UI 0)])(hQ : ∀h':Heap,Nx s M vs W0 h' o0 (up (phi3 s b pl) cnt m)->Q .normal [(2,vr),(3,ptz M),(4,UH UI n),(5,vt),(7,vp),(11,vd),(25,UH UI b),(26,vq),(27,UH UI cnt)] h'):
  LC.wp UQ (.block 26 (.loop L.au.l14)) Q ρ h:=by
 simp only[aW];refine cL [2,3,4,5,7,11,25,26,27] (fun(_:Unit) k=>[vr,ptz M,UH UI n,vt,vp,vd,UH UI b,vq,UH UI k]) (λ_ k h2=>Nx s M vs W0 h2 o0 (up (phi3 s b pl) k m)) cnt ()
  rfl U1 h0 x (λ_ _=>rfl) (λv k h2 hk2 x2=>by have sp:=x2.z.at U3 h5;have e:=sp.int UE (i:=b) U1;rw[hcnt]at e;simp(disch:=omega)[sp.idx1 rfl,e]) ?_ ?_
 ·rintro _ k h2 hlt x2 K2 hK2;have hpn : ∀j,j<pl.length->(nth pl j).toNat<m.blocks.length:=λj hj=>by obtain⟨c,h1,h2⟩:=hpr j hj;rw[h1,q.z.len];simpa using h2
  have q2:=(qm (s:=s) (b:=b) q hpl k).mono (a':=a+200) (p':=p) (i':=i+30) U1 (Q4 _) U1;obtain⟨pc2,hlen2⟩:=Pc.qm (s:=s) (b:=b) pc hpn k;have e2:up (phi3 s b pl) (k+1) m=phi3 s b pl k (up (phi3 s b pl) k m):=rfl;rw[e2]at hK2;generalize up (phi3 s b pl) k m=m2 at x2 hK2 q2 pc2 hlen2;have hpn2 : ∀j,j<pl.length->(nth pl j).toNat<m2.blocks.length:=λj hj=>by rw[hlen2];exact hpn j hj
  obtain⟨pc3,hlen3⟩:=Pc.lC (s:=s) (pl:=pl) (x:=([],m2)) pc2 hpn2 pl.length (Q4 _);simp only[aW];refine aa λy hy=>?_;simp;refine x2.mg (k:=(7,2)) (α:=InD) U3 f72 El.lf λvi h3 hvi x3=>?_;subst hy;refine aa λy hy=>?_;refine aa λw hw=>?_;simp;subst hw;refine KI (vr:=vr) (vt:=vt) (vp:=vp) (vd:=vd) (vq:=vq) (vi:=vi) (b:=b) (j:=k) x3 f71 q2 hn U1 U1 hp U1 hq hpl hpr (by simp[aX,af,ag]) λh4 vi x4=>?_;obtain⟨W4,hW4,x4,s4⟩:=x4.freeze U3 f72;have e3:phi3 s b pl k m2=(up (ef s pl) pl.length ([],m2)).2.vH b k (up (ef s pl) pl.length ([],m2)).1:=rfl;rw[e3]at hK2;have hb4:b<(up (ef s pl) pl.length ([],m2)).2.blocks.length:=by rw[hlen3];show b<m2.blocks.length;rw[hlen2,q.z.len];exact hb
  have hph:((nth (up (ef s pl) pl.length ([],m2)).2.blocks b).phis.length:Int)=cnt:=(pc3 b).trans hcnt;generalize up (ef s pl) pl.length ([],m2)=r at x4 hK2 s4 hb4 hph;obtain⟨W,o,g,w,f⟩:=x4;obtain⟨vb,vl,lb,bb⟩:=w.box;have rd:=w.reads bb;have hbb:b<lb.length:=by rw[bb.len];exact hb4
  have sb:=w.own.now bb.blk;have sbb:=sb.bound;have c1:an (vw h4) (((slA vb).add (b*6)).add 0)=UK (nth lb b).phis.v:=by have:=((sb.at hbb).part BlkM.qw).raw;rw[aC hbb];exact this
  have sph:=w.own.now (bb.phis b hb4);simp;subst hy;have r5:Bn.ev (.idx 2) (nth lb b).phis.v (UH UI k)=UK (UN (UK ((slA (nth lb b).phis.v).add (k*2)))):=by have:=sph.idxn (N:=2) rfl (k:=.i64) (i:=k) U1 U1;simpa using this
  simp(disch:=omega)[rd.cb,sb.idxn (N:=6) rfl,c1,r5];refine w.PR bb (b:=b) (i:=k) (l:=r.1) hb4 U1 U0 rfl rfl (s4.mono g) λh5 o5 w5 f5=>?_;refine hK2 () _ _ rfl rfl ?_;exact⟨W,o5,UF hW4 g,w5,λq hq=>(f5 q hq).trans (f q hq)⟩
 rintro _ h2 x2;exact hQ h2 x2
theorem L5{a p i k:Nat}{m:MS}(q:P3 n a p i m)(pc:Pc lp m)(hr : ∀j,nth lp j<=3)(hn:n<=9):P3 n (a+162) p (i+27) (blk3 s lp k m)/\Pc lp (blk3 s lp k m):=by
 have hpl:(dr m.f ((k+1:Nat):Int)).length<=n:=by have:=rX (p:=λa=>decide (((k+1:Nat):Int)∈(nth m.f.blocks a).term.to)) (x:=λa=>(a:Int)) m.f.blocks.length;rw[show m.f.blocks.length=n from q.z.len]at this;unfold dr;rw[show m.f.blocks.length=n from q.z.len];exact this
 have hpn : ∀j,j<(dr m.f ((k+1:Nat):Int)).length->(nth (dr m.f ((k+1:Nat):Int)) j).toNat<m.blocks.length:=λj hj=>by obtain⟨c,h1,h2⟩:=Dj _ j hj;have h1:nth (dr m.f ((k+1:Nat):Int)) j=c:=h1;rw[h1];have h2:c<m.blocks.length:=h2;simpa using h2
 have h3:=hr (k+1);unfold blk3;exact⟨(qm q U1 _).mono U1 (Q4 _) U1,(Pc.qm pc hpn _).1⟩
theorem Cu{n a p i:Nat}{lp:List Int}{m:MS}(q:P3 n a p i m)(pc:Pc lp m)(hr : ∀j,nth lp j<=3)(hn:n<=9) : ∀k,P3 n (a+162*k) p (i+27*k) (up (blk3 s lp) k m)/\Pc lp (up (blk3 s lp) k m)
 | 0=>⟨q,pc⟩
 | k+1=>by obtain⟨h1,h2⟩:=Cu q pc hr hn k;obtain⟨h3,h4⟩:=L5 (s:=s) (k:=k) h1 h2 hr hn;exact⟨h3.mono U1 (Q4 _) U1,h4⟩
theorem Jm{a p i:Nat}(x:Nx s M vs W0 h o0 m)(h5:o0 (5,0)=it T.int vp lp)(f71:o0 (7,1)=UL)(f72:o0 (7,2)=UL)(q:P3 n a p i m)(pc:Pc lp m)(hlp:lp.length=n)(hr : ∀j,0<=nth lp j/\nth lp j<=3)(hn1:1<=n)(hn:n<=9)(ha:a<=300000)(hia:i<=a)(hp:p<=100)(hi:i<=1000)(h0:aX [2,3,4,5,7,11,25] ρ=[(2,vr),(3,ptz M),(4,UH UI n),(5,vt),(7,vp),(11,vd),(25,UH UI 1)])(hQ : ∀h':Heap,Nx s M vs W0 h' o0 (up (blk3 s lp) (n-1) m)->Q .normal [(2,vr),(3,ptz M),(4,UH UI n),(5,vt),(7,vp),(11,vd),(25,UH UI n)] h'):
  LC.wp UQ (.block 24 (.loop L.au.l13)) Q ρ h:=by
 simp only[aW];refine yI [2,3,4,5,7,11,25] (fun(_:Unit) k=>[vr,ptz M,UH UI n,vt,vp,vd,UH UI ((k+1:Nat):Int)]) (λ_ k h2=>Nx s M vs W0 h2 o0 (up (blk3 s lp) k m)) (n-1) 1 ()
  rfl U1 h0 x (λ_ _=>rfl) (λv k h2 hk2 m=>by simp;omega) ?_ ?_
 ·rintro _ k h2 hlt x2 K2 hK2;obtain⟨q2,pc2⟩:=Cu (s:=s) q pc (λj=>(hr j).2) hn k;have e2:up (blk3 s lp) (k+1) m=blk3 s lp k (up (blk3 s lp) k m):=rfl;rw[e2]at hK2;generalize up (blk3 s lp) k m=m2 at x2 hK2 q2 pc2;have hb2:blk3 s lp k m2=_:=blk3.eq_1 s lp k m2;rw[hb2]at hK2;simp only[aW];refine aa λy hy=>?_;obtain⟨vb,vl,rd⟩:=x2.z.reads;simp[rd.f];refine ah U0 (xC (b:=((k+1:Nat):Int)) (rd.rd (KO q2.z)) (by show m2.blocks.length<=_;rw[q2.z.len];omega)) ?_;rintro vq h3 ⟨hle3,hq⟩;obtain⟨W3,hW3,x3,sq⟩:=x2.P6 hle3 hq;clear rd hq;have hpl:(dr m2.f ((k+1:Nat):Int)).length<=n:=by have:=rX (p:=λa=>decide (((k+1:Nat):Int)∈(nth m2.f.blocks a).term.to)) (x:=λa=>(a:Int)) m2.f.blocks.length;unfold dr;rw[show m2.f.blocks.length=n from q2.z.len]at this ⊢;exact this
  have hpr : ∀j,j<(dr m2.f ((k+1:Nat):Int)).length->∃c:Nat,nth (dr m2.f ((k+1:Nat):Int)) j=c/\c<n:=λj hj=>by obtain⟨c,h1,h2⟩:=Dj _ j hj;exact⟨c,h1,by rw[show m2.f.blocks.length=n from q2.z.len]at h2;exact h2⟩
  generalize dr m2.f ((k+1:Nat):Int)=pl at sq hpl hpr hK2;obtain⟨r0,r1⟩:=hr (k+1);subst hy;refine aa λy hy=>?_;simp;subst hy;refine J4 (vr:=vr) (vt:=vt) (vp:=vp) (vd:=vd) (vq:=vq) (b:=k+1) (cnt:=(nth lp (k+1)).toNat) x3 h5 f71 f72 q2 pc2 hlp U1 U1 U1 U1 U1 U1 hp U1 sq U1 hpr (by simp[aX,af,ag]) λh4 x4=>?_;simp;refine hK2 () _ _ rfl rfl (x4.up hW3)
 rintro _ h2 x2;have e:n-1+1=n:=by omega
 have:=hQ h2 x2;simpa[e]using this
theorem FA{a p:Nat}{x0:BL × MS}(q:B2 n a p x0)(hn:n<=10)(hp:p<=100)(ha:16000<=a): ∀j,j<=n->B2 n (a+600*j) p (up (cZ s to n) j x0):=by
 intro j;induction j with
 | zero=>intro _;exact q
 | succ j ih=>intro hj;have:=ue (s:=s) (to:=to) (b:=j) (ih U1) U1 hn hp U1 λh=>sI h;exact⟨this.z.mono U1 (Q4 _) (Q4 _),this.len,this.none⟩
theorem MG{a p:Nat}{x0:BL × MS}(q:B2 n a p x0)(hn:n<=10)(hp:p<=100)(ha:16000<=a)(j:Nat):B2 n (a+600*n*j) p (up (λ_=>up (cZ s to n) n) j x0):=by
 induction j with
 | zero=>exact q
 | succ j ih=>have:=FA (s:=s) (to:=to) ih hn hp U1 n (Q4 _);exact⟨this.z.mono (by rw[TR];omega) (Q4 _) (Q4 _),this.len,this.none⟩
theorem MZ{a p:Nat}{x0:BL × MS}(x:Nx s M vs W0 h (o0.upd (6,0) (it T.bool vd x0.1)) x0.2)(hto:SlRd W0 vt to)(htl:to.length=n)(f7:o0 (7,0)=UL)(f90:o0 (9,0)=UL)(f91:o0 (9,1)=UL)(q:B2 n a p x0)(hn:n<=9)(hp:p<=100)(ha:16000<=a)(ha2:a<=30000)(h0:aX [2,3,4,5,7,11,12] ρ=[(2,vr),(3,ptz M),(4,UH UI n),(5,vt),(7,vp),(11,vd),(12,UH UI 0)])(hQ : ∀h':Heap,Nx s M vs W0 h' (o0.upd (6,0) (it T.bool vd (up (λ_=>up (cZ s to n) n) n x0).1)) (up (λ_=>up (cZ s to n) n) n x0).2->Q .normal [(2,vr),(3,ptz M),(4,UH UI n),(5,vt),(7,vp),(11,vd),(12,UH UI n)] h'):
  LC.wp UQ (.block 6 (.loop L.au.l4)) Q ρ h:=by
 simp only[aW];refine cL [2,3,4,5,7,11,12] (fun(_:Unit) j=>[vr,ptz M,UH UI n,vt,vp,vd,UH UI j]) (λ_ j h2=>Nx s M vs W0 h2 (o0.upd (6,0) (it T.bool vd (up (λ_=>up (cZ s to n) n) j x0).1)) (up (λ_=>up (cZ s to n) n) j x0).2) n ()
  rfl U1 h0 x (λ_ _=>rfl) (λv k h2 hk2 x2=>by simp) ?_ ?_
 ·rintro _ t h2 hlt x2 K2 hK2;have q2:=MG (s:=s) (to:=to) q U1 hp ha t;have hbd:600*n*t<=5400*9:=Tt U1 U1;have e2:up (λ_=>up (cZ s to n) n) (t+1) x0=up (cZ s to n) n (up (λ_=>up (cZ s to n) n) t x0):=rfl;rw[e2]at hK2;generalize up (λ_=>up (cZ s to n) n) t x0=y at x2 hK2 q2;simp only[aW];refine aa λy hy=>?_;simp;subst hy;refine Mc (vr:=vr) (vt:=vt) (vp:=vp) (vd:=vd) (t:=t) x2 hto htl f7 f90 f91 q2 U1 hp U1 U1 (by simp[aX,af,ag]) λh3 x3=>?_;simp;exact hK2 () _ _ rfl rfl x3
 rintro _ h2 x2;exact hQ h2 x2
end
section
variable{s:List Int}
theorem lO:1<=cr s/\cr s<=9:=by have:=dv (s:=s) (at_:=1) (n:=9) U3;unfold cr;omega
theorem Iq:((cr s:Nat):Int)=1+aT s 1 9:=by have:=dv (s:=s) (at_:=1) (n:=9) U3;unfold cr;omega
theorem EI:(yX s).ok 4:=by have:=dv (s:=s) (at_:=0) (n:=5) U3;refine⟨by show 2<=4;omega,by show 0<=aT s 0 5;omega,by show aT s 0 5<=_;omega,by show 0<=4;omega,λi=>?_⟩;show(nth ([]:List BlkD) i).ins.length<=4;rw[dt U2];show 0<=4;omega
theorem CF:TgK (cr s) 112 (jC s):=by
 obtain⟨h1,h2⟩:=lO (s:=s);have k1:TgK (cr s) 4 (List.replicate (cr s) [],yX s):=⟨by simp,λi=>by
  rcases Ri i (cr s)with hi | hi
  ·rw[aE hi];show 0<=4;omega
  rw[dt (by simpa using hi)];show 0<=4;omega,EI⟩;exact(FJ (s:=s) (CS (s:=s) k1 (cr s-1)) (cr s)).mono U1
def tB(m m':MS):Prop:=m'.ps=m.ps/\m'.blocks=m.blocks/\m'.next=m.next/\m'.live=m.live
theorem J0{m:MS}{k:Nat}{x:TgS}(h:tB m x.2):tB m (tgA s k x).2:=by unfold tgA;split<;>exact h
theorem JA{m:MS}{x:TgS}(h:tB m x.2):tB m (tgI s n b x).2:=by
 unfold tgI;simp only;repeat' split
 all_goals exact h
theorem Jq{m:MS}{x:TgS}(h:tB m x.2):tB m (tgB s n b x).2:=
 xe (λx:TgS=>tB m x.2) (λ_ _ h=>JA h) _ _ h
theorem yS:tB (yX s) (jC s).2:=
 xe (λx:TgS=>tB (yX s) x.2) (λ_ _ h=>Jq h) _ _ (xe (λx:TgS=>tB (yX s) x.2) (λ_ _ h=>J0 h) _ _ ⟨rfl,rfl,rfl,rfl⟩)
theorem Ef{m:MS}{a n:Nat}{to:List (List Int)}(z:Sz n a 0 0 m)(g:Gd m)(pc : ∀j,(nth m.blocks j).phis.length=0)(ht : ∀j,(nth to j).length<=1000) : ∀k,Sz n a 0 0 (up (λb m=>MS.nF m b (nth to b)) k m)/\Gd (up (λb m=>MS.nF m b (nth to b)) k m)
 | 0=>⟨z,g⟩
 | k+1=>by obtain⟨h1,h2⟩:=Ef z g pc ht k;exact⟨h1.gY (h1.phis k) (h1.ins k),h2.nF (ht k)⟩
theorem wT{j:Nat}:(nth (List.replicate n vK) j).phis.length=0/\(nth (List.replicate n vK) j).ins.length=0:=by
 rcases Ri j n with hj | hj
 ·rw[aE hj];exact⟨rfl,rfl⟩
 rw[dt (by simpa using hj)];exact⟨rfl,rfl⟩
theorem CX:Sz (cr s) 200 0 0 (vx s)/\Gd (vx s):=by
 have k:=CF (s:=s);have e:=yS (s:=s);have t:=dv (s:=s) (at_:=0) (n:=5) U3;refine Ef ⟨?_,?_,?_,?_,?_,?_,?_,λj=>?_,λj=>?_⟩ (λj hj=>?_) (λj=>(wT).1) (λj=>by have:=k.row j;omega) _
 ·show(jC s).2.at_<=200;have:=k.ok.at_;omega
 ·exact k.ok.n0
 ·show(jC s).2.next<=_;have:=k.ok.next;omega
 ·show(jC s).2.live.length<=200;have:=k.ok.live;omega
 ·show 0<=(jC s).2.ps;rw[e.1];show 0<=aT s 0 5;omega
 ·show(jC s).2.ps<=4;rw[e.1];show aT s 0 5<=4;omega
 ·show(List.replicate (cr s) vK).length=_;simp
 ·show(nth (List.replicate (cr s) vK) j).phis.length<=0;rw[(wT).1];omega
 ·show(nth (List.replicate (cr s) vK) j).ins.length<=0;rw[(wT).2];omega
 have hj:j<cr s:=by simpa using hj
 show GdB (nth (List.replicate (cr s) vK) j);rw[aE hj];exact⟨λi h=>(by cases h),by show 0<=10;omega,by show 0<=1000;omega,λi h=>(by cases h)⟩
theorem qP{m:MS}{b:Nat}(hb:b<m.blocks.length) : ∀c j,(nth (up (λ_=>fG b) c m).blocks j).phis.length=(nth m.blocks j).phis.length+(if j=b then c else 0)/\(up (λ_=>fG b) c m).blocks.length=m.blocks.length
 | 0,j=>⟨by show(nth m.blocks j).phis.length=_;split<;>omega,rfl⟩
 | c+1,j=>by
  obtain⟨h1,h2⟩:=qP hb c j;obtain⟨h3,_⟩:=qP hb c b;have e:(up (λ_=>fG b) (c+1) m).blocks=(up (λ_=>fG b) c m).blocks.set b { nth (up (λ_=>fG b) c m).blocks b with phis:=(nth (up (λ_=>fG b) c m).blocks b).phis++[⟨(up (λ_=>fG b) c m).next,[]⟩] }:=rfl;rw[e];refine⟨?_,by rw[RL];exact h2⟩;rcases Ri j m.blocks.length with hl | hl
  ·rw[bU (by rw[h2];exact hl)];by_cases ej:b=j
   ·subst ej;rw[if_pos rfl,if_pos rfl];rw[if_pos rfl]at h3;show(_++[_]).length=_;rw[Rl,h3,RI];omega
   rw[if_neg ej,if_neg (λq=>ej q.symm)];rw[if_neg (λq=>ej q.symm)]at h1;exact h1
  rw[dt (by rw[RL,h2];exact hl),dt hl,if_neg U1];rfl
theorem Ao{n a:Nat}{x:List Int × MS}(p:Ph n a 0 x)(pc:Pc x.1 x.2)(g:Gd x.2) : ∀k,k<n->Pc (up (fL s) k x).1 (up (fL s) k x).2/\Gd (up (fL s) k x).2
 | 0,_=>⟨pc,g⟩
 | k+1,hk=>by
  obtain⟨h1,h2⟩:=Ao p pc g k U1;have q:=BU (s:=s) p k;have e:up (fL s) (k+1) x=fL s k (up (fL s) k x):=rfl;rw[e];generalize up (fL s) k x=y at h1 h2 q;obtain⟨c0,c1⟩:=tP (s:=s) (m:=y.2) (b:=k+1);have hb:k+1<y.2.took.blocks.length:=by show k+1<y.2.blocks.length;rw[q.z.len];exact hk
  refine⟨λj=>?_,h2.took.tg _⟩;have h3:=(qP hb (jd s y.2 (k+1)).toNat j).1;show((nth (up (λ_=>fG (k+1)) (jd s y.2 (k+1)).toNat y.2.took).blocks j).phis.length:Int)=nth (y.1.set (k+1) (jd s y.2 (k+1))) j;rw[h3];have h4:=h1 j;have h5:nth y.2.took.blocks j=nth y.2.blocks j:=rfl;rw[h5];rcases Ri j y.1.length with hl | hl
  ·rw[bU hl];by_cases ej:k+1=j
   ·subst ej;rw[if_pos rfl,if_pos rfl];rw[q.zero (k+1) U1]at h4;omega
   rw[if_neg ej,if_neg (λr=>ej r.symm)];omega
  have e1:nth (y.1.set (k+1) (jd s y.2 (k+1))) j=default:=dt (by simpa using hl);have e2:nth y.1 j=default:=dt hl;rw[e1];rw[e2]at h4;have:=q.len;rw[if_neg U1];omega
theorem vO:Ph (cr s) 200 (cr s-1) (lj s)/\Pc (lj s).1 (lj s).2/\Gd (lj s).2:=by
 obtain⟨h1,h2⟩:=lO (s:=s);obtain⟨z,g⟩:=CX (s:=s);have hz : ∀j,nth (List.replicate (cr s) (0:Int)) j=0:=λj=>by
  rcases Ri j (cr s)with hj | hj
  ·rw[aE hj]
  rw[dt (by simpa using hj)];rfl
 have p0:Ph (cr s) 200 0 (List.replicate (cr s) (0:Int),vx s):=⟨z,by simp,λj _=>hz j,λj=>by rw[hz];omega⟩;have pc:Pc (List.replicate (cr s) (0:Int)) (vx s):=λj=>by have:=z.phis j;rw[hz];omega
 obtain⟨q1,q2⟩:=Ao (s:=s) p0 pc g (cr s-1) U1;exact⟨BU p0 _,q1,q2⟩
theorem Gd.jS{to:List (List Int)}{n b:Nat}{dn:BL}{away:List BL}{m:MS}(g:Gd m)(ht:(nth to b).length<=1000):Gd (jS s to n dn away b m):=by have g1:Gd (MS.took { m with live:=oF m dn away b n }):=g;exact(Gd.jt g1 _).PK ht
theorem Gd.cZ{to:List (List Int)}{n b:Nat}{x:BL × MS}(g:Gd x.2)(ht:(nth to b).length<=1000):Gd (cZ s to n b x).2:=by
 unfold Go.Lft.cZ;split
 ·exact g.jS ht
 exact g
structure M4(n a p:Nat)(lp:List Int)(x:BL × MS):Prop where
 b2:B2 n a p x
 gd:Gd x.2
 pc:Pc lp x.2
theorem M4.step{to:List (List Int)}{n a p b:Nat}{lp:List Int}{x:BL × MS}(q:M4 n a p lp x)(hb:b<n)(hn:n<=10)(hp:p<=100)(ha:16000<=a)(ht : ∀j,(nth to j).length<=1000):M4 n (a+600) p lp (cZ s to n b x):=
 ⟨ue q.b2 hb hn hp ha λh=>sI h,q.gd.cZ (ht b),q.pc.cZ (by rw[q.b2.z.len];exact hb)⟩
theorem M4.blk{a p:Nat}{x:BL × MS}(q:M4 n a p lp x)(hn:n<=10)(hp:p<=100)(ha:16000<=a)(ht : ∀j,(nth to j).length<=1000)(k:Nat)(hk:k<=n):M4 n (a+600*k) p lp (up (Go.Lft.cZ s to n) k x):=by
 induction k with
 | zero=>exact q
 | succ k ih=>have:=(ih U1).step (s:=s) (to:=to) (b:=k) U1 hn hp U1 ht;exact⟨⟨this.b2.z.mono U1 (Q4 _) (Q4 _),this.b2.len,this.b2.none⟩,this.gd,this.pc⟩
theorem M4.turn{a p:Nat}{x:BL × MS}(q:M4 n a p lp x)(hn:n<=10)(hp:p<=100)(ha:16000<=a)(ht : ∀j,(nth to j).length<=1000)(k:Nat):M4 n (a+600*n*k) p lp (up (λ_=>up (Go.Lft.cZ s to n) n) k x):=by
 induction k with
 | zero=>exact q
 | succ k ih=>have:=ih.blk (s:=s) (to:=to) hn hp U1 ht n (Q4 _);exact⟨⟨this.b2.z.mono (by rw[TR];omega) (Q4 _) (Q4 _),this.b2.len,this.b2.none⟩,this.gd,this.pc⟩
theorem Da:B2 (cr s) 16000 27 (List.replicate (cr s) UP,(lj s).2):=by obtain⟨h1,h2⟩:=lO (s:=s);obtain⟨p,_,_⟩:=vO (s:=s);refine⟨p.z.mono U1 U1 U1,by simp,λj hj _=>?_⟩;have:=p.z.ins j;show(nth (lj s).2.blocks j).ins.length=0;omega
theorem DF:P3 (cr s) 70000 27 700 (By s).2/\Pc (lj s).1 (By s).2:=by
 obtain⟨h1,h2⟩:=lO (s:=s);obtain⟨p,pc,g⟩:=vO (s:=s);have ht : ∀j,(nth (jC s).1 j).length<=1000:=λj=>by have:=(CF (s:=s)).row j;omega
 have q0:M4 (cr s) 16000 27 (lj s).1 (List.replicate (cr s) UP,(lj s).2):=⟨Da,g,pc⟩;have q:=q0.turn (s:=s) (to:=(jC s).1) U1 U1 U1 ht (cr s);have hbd:600*cr s*cr s<=5400*9:=Tt U1 U1;exact⟨⟨q.b2.z.mono U1 (Q4 _) (Q4 _),q.gd⟩,q.pc⟩
theorem qV:P3 (cr s) 72000 27 1000 (xx s):=by obtain⟨h1,h2⟩:=lO (s:=s);obtain⟨p,_,_⟩:=vO (s:=s);obtain⟨q,pc⟩:=DF (s:=s);have:=(Cu (s:=s) q pc (λj=>(p.rng j).2) h2 (cr s-1)).1;exact this.mono U1 (Q4 _) U1
theorem MQ:SmF (vJ s):=(qV (s:=s)).g.smF (qV (s:=s)).z (by have:=lO (s:=s);omega) U1 U1
theorem EG:0<=(vJ s).params/\(vJ s).params<=4:=⟨(qV (s:=s)).z.ps0,(qV (s:=s)).z.ps1⟩
end
section
variable{f:ak}{b i:Nat}
theorem Dy:oS f (endT f b)=true:=by refine decide_eq_true ?_;show(((nth f.blocks b).ins.length:Nat):Int)=((nth f.blocks ((b:Nat):Int).toNat).ins.length:Nat);rw[RB]
theorem GO(hi:i<(nth f.blocks b).ins.length):uy f (insT f b i)=UO/\ED f (insT f b i)=nth (nth f.blocks b).ins i:=by
 refine⟨(Q9 _ _).mpr ⟨decide_eq_true (Int.natCast_nonneg _),decide_eq_true ?_⟩,?_⟩
 ·show(i:Int)<((nth f.blocks ((b:Nat):Int).toNat).ins.length:Nat);rw[RB];omega
 show nth (nth f.blocks ((b:Nat):Int).toNat).ins ((i:Nat):Int).toNat=_;rw[RB,RB]
theorem MT:jh f (endT f b)=nth f.blocks b:=by show nth f.blocks ((b:Nat):Int).toNat=_;rw[RB]
theorem nQ.insG(m:nQ f)(hb:b<f.blocks.length)(hi:i<(nth f.blocks b).ins.length):BG f (insT f b i)/\zC (nth (nth f.blocks b).ins i)=false:=by have g:=m.good _ (jJ.2 ⟨b,hb,ma.2 (.inr (.inl ⟨i,hi,rfl⟩))⟩);exact⟨g,by have:=g.op (GO hi).1;rwa [(GO hi).2]at this⟩
theorem nQ.endG(m:nQ f)(hb:b<f.blocks.length):xy (nth f.blocks b).term=UO/\∀n∈(nth f.blocks b).term.to,1<=n/\n<f.blocks.length:=by have g:=m.good _ (jJ.2 ⟨b,hb,ma.2 (.inr (.inr rfl))⟩);have h1:=g.term Dy;have h2:=g.to Dy;rw[MT]at h1 h2;exact⟨h1,h2⟩
end
section
variable{f g:ak}{n:Nat}
end
def pV(f:ak):Bool:=decide ((my f).1=0)
def gu(f:ak)(b p pat temp:Int):Option FitD:=if dz f b p&&pV f then tryS (eJ f b p temp) pat else UL
def dL(f:ak)(b p pat:Int):Option FitD:=if 1<=pat then gu f b p pat 0 else UL
def G7:Option FitD->List Int | some x=>x.takes | none=>[]
def G0:Option FitD->List Int | some x=>x.inner | none=>[]
def qQ:Option FitD->List bz | some x=>x.code | none=>[]
def Au:Option FitD->EndD | some x=>x.fin | none=>dc
theorem nP{f:ak}{i:InsD}:i∈fg f↔∃b k,b<f.blocks.length/\k<(nth f.blocks b).ins.length/\i=nth (nth f.blocks b).ins k:=by
 unfold fg;rw[T0];constructor
 ·rintro⟨x,hx,hi⟩;obtain⟨b,hb,rfl⟩:=RH hx;obtain⟨k,hk,rfl⟩:=RH hi;exact⟨b,k,hb,by rw[aC hb];exact hk,by rw[aC hb,aC hk]⟩
 rintro⟨b,k,hb,hk,rfl⟩;exact⟨_,bF hb,bF hk⟩
theorem qC{H:View}{v:Value}{f:ak}(h:Rd H v f): ∀i∈fg f,-2147483648<=i.imm.v/\i.imm.v<=2147483647:=by intro i hi;obtain⟨b,k,hb,hk,rfl⟩:=nP.1 hi;obtain⟨c1,c2,c3⟩:=fH h;unfold Rd at h;rw[if_pos (show Rep.agg ak=UO from rfl)]at h;obtain⟨cs,rfl,d1,d2,e,h1,h2⟩:=h;obtain⟨vb,rfl⟩:=we h2;have hs:=qz.1 h2;have h3:=((hs.at hb).part BlkD.gO).sl;obtain⟨vi,-,h4⟩:=h3;rw[<-aC hb]at h4;have:=((h4.at hk).part InsD.jD).nY;rw[aC hk];exact this
theorem Cd{f:ak}(m:nQ f)(hsm:SmF f): ∀i∈fg f,wE i:=by
 intro i hi;obtain⟨b,k,hb,hk,rfl⟩:=nP.1 hi;obtain⟨-,h⟩:=m.insG hb hk;have hm:=(hsm.blk b hb).inn k hk;generalize nth (nth f.blocks b).ins k=i at *;unfold zC at h;simp at h;obtain⟨⟨h1,h2⟩,h3⟩:=h;unfold BS at h3;refine⟨λho=>?_,λho=>?_,hm⟩
 ·rw[if_neg U1,if_neg U1,if_neg U1]at h3;simp at h3;omega
 rw[if_neg U1,if_pos U1]at h3;simp at h3;omega
theorem I5{f:ak}(m:nQ f)(hsm:SmF f)(hb:b<f.blocks.length):zR (nth f.blocks b).term:=by
 have h:=(m.endG hb).1;have s:=hsm.blk b hb;have s1:=s.args;have s2:=s.to;generalize (nth f.blocks b).term=t at *;refine⟨λho=>?_,s1,s2⟩;unfold xy at h;rcases ho with ho | ho
 ·rw[if_neg U1,if_pos ho]at h;simp at h;omega
 rw[if_neg U1,if_neg U1,if_pos ho]at h;simp at h;omega
theorem IW:wE ix:=⟨λh=>by simp[ix]at h,λh=>by simp[ix]at h,by simp[ix]⟩
variable{temp:Int}
theorem zG{f:ak}{b p:Int}(m:nQ f)(hsm:SmF f)(hr : ∀i∈fg f,-2147483648<=i.imm.v/\i.imm.v<=2147483647)(hp:dz f b p=UO):mJ (eJ f b p temp)/\zR (eJ f b p temp).t/\((eJ f b p temp).i=ix\/(eJ f b p temp).i∈fg f)/\(eJ f b p temp).f=f:=by
 simp[dz]at hp;obtain⟨⟨⟨g1,g2⟩,g3⟩,g4⟩:=hp;have hb:b.toNat<f.blocks.length:=by omega
 unfold eJ;by_cases e:p=(nth f.blocks b.toNat).ins.length
 ·rw[if_pos e];exact⟨⟨hsm,Cd m hsm,IW,hr⟩,I5 m hsm hb,.inl rfl,rfl⟩
 rw[if_neg e];have hi:nth (nth f.blocks b.toNat).ins p.toNat∈fg f:=nP.2 ⟨_,_,hb,by omega,rfl⟩;exact⟨⟨hsm,Cd m hsm,Cd m hsm _ hi,hr⟩,⟨λh=>by simp[nJ]at h,by simp[nJ],by simp[nJ]⟩,.inr hi,rfl⟩
theorem Cq{f:ak}{v:Value}{b p pat:Int}{h:Heap}(hW:W.le (vw h))(hv:Rd W v (eJ f b p temp))(m:nQ f)(hsm:SmF f)(hr : ∀i∈fg f,-2147483648<=i.imm.v/\i.imm.v<=2147483647)(hM : ∀i∈fg f,i.op=15\/i.op=16->ib)(hpl:dz f b p=UO)(hp:I64 pat):
  ay UQ 93 #[v,UH UI pat] h (λu h'=>cg W h h' u (tryS (eJ f b p temp) pat)):=by
 obtain⟨h1,h2,h3,-⟩:=zG (temp:=temp) m hsm hr hpl;refine O3 hW hv (λ_=>h1) (λ_=>⟨h1,h2⟩) (λho=>?_) hp;rcases h3 with h3 | h3
 ·rw[h3]at ho;simp[ix]at ho
 exact hM _ h3 ho
theorem kv{f:ak}(h:pV f=UO):nQ f:=Od (by simpa[pV]using h)
theorem Eo{f:ak}{v:Value}{b p pat:Int}{h:Heap}(hW:W.le (vw h))(hv:Rd W v f)(hsm:SmF f)(hM : ∀i∈fg f,i.op=15\/i.op=16->ib)(hp:I64 pat):
  ay UQ 112 #[v,UH UI b,UH UI p,UH UI pat] h (λu h'=>(vw h).le (vw h')/\∃v1 v2,u = .tuple #[v1,v2,.bool (dL f b p pat).isSome]/\SlRd (vw h') v1 (G7 (dL f b p pat))/\SlRd (vw h') v2 (G0 (dL f b p pat))):=by
 refine aq (args:=[v,UH UI b,UH UI p,UH UI pat]) follows Tryz.func112 E.qj UC λK hK=>?_;dsimp only[L.qj,lkF,lkG];have c0:=Cx.start hW;refine aa λz hz=>?_;simp;refine c0.ey rfl hv λB h1 W1 hW1 c1 at1 hle1=>?_;subst hz;obtain⟨uf,huf,ruf⟩:=at1.ldN rfl (N:=2) rfl;have hr:=qC hv;refine aa λz hz=>?_;simp[huf _ c1.wle];refine ah U0 (IS c1.wle ruf (by constructor<;>decide)) ?_;rintro _ h2 ⟨hle2,vs,rfl,hvs⟩;have c2:=c1.ext hle2;have hW2:=c1.up (h':=h2);simp;refine c2.eC (α:=cC) hvs (n:=13) (z:=.agg qL.toArray) U0 rfl rfl U0 U5 U5 λB2 h3 W3 hW3 c3 at3 hle3=>?_;subst hz;have huf3:=huf _ (UF hW2 (UF hW3 c3.wle));have ruf3:=ruf.mono (UF hW2 (UF hW3 c3.wle));have none_:dL f b p pat=UL->K (.tuple #[UM UL 0 0,UM UL 0 0,.bool UP]) h3:=λe=>hK _ _ ⟨c3.le0,_,_,by rw[e];rfl,by rw[e];exact aS,by rw[e];exact aS⟩;refine aa λz hz=>?_;cases hpl:dz f b p with
 | false=>
  have e:dL f b p pat=none:=by unfold dL gu;rw[hpl];split<;>rfl
  simp;exact none_ e
 | true=>
  by_cases h1p:pat<1
  ·have e:dL f b p pat=none:=by unfold dL;rw[if_neg U1]
   simp[h1p];exact none_ e
  simp[h1p,huf3];refine ah U0 (zH ruf3 hsm) ?_;rintro _ h4 ⟨rfl,hle4⟩;have c4:=c3.ext hle4;have hW4:=c3.up (h':=h4);cases hrt:pV f with
  | false=>
   have e:dL f b p pat=none:=by unfold dL gu;rw[hpl,hrt];split<;>rfl
   have hrt2:decide ((my f).1=0)=false:=hrt;simp[hrt2];exact hK _ _ ⟨c4.le0,_,_,by rw[e];rfl,by rw[e];exact aS,by rw[e];exact aS⟩
  | true=>
   have hrt2:decide ((my f).1=0)=true:=hrt;have m:=kv hrt;have e:dL f b p pat=tryS (eJ f b p 0) pat:=by unfold dL gu;rw[if_pos U1,hpl,hrt];rfl
   rw[e]at hK none_;have hpS:oP f b p 0=eJ f b p 0:=by unfold oP;rw[hpl,if_pos rfl]
   rw[hpS]at at3;obtain⟨us,hus,rus⟩:=at3.ldN rfl (N:=13) rfl;have hus4:=hus _ (UF hW4 c4.wle);simp[hrt2];subst hz;refine aa λz hz=>?_;simp[hus4];refine ah U0 (Cq c4.wle (rus.mono hW4) m hsm hr hM hpl hp) ?_;rintro _ h5 ⟨hle5,vf,x,rfl,hvf,hx⟩;have c5:=c4.ext hle5;simp;refine c5.eC (α:=FitD) hvf (n:=8) (z:=.agg fitZ.toArray) U0 rfl rfl U0 U5 U5 λB3 h6 W6 hW6 c6 at6 hle6=>?_;subst hz;refine aa λz hz=>?_;cases hq:tryS (eJ f b p 0) pat with
   | none=>rw[hq]at hK;simp;exact hK _ _ ⟨c6.le0,_,_,rfl,aS,aS⟩
   | some y=>
    obtain rfl:=hx y hq;rw[hq]at hK;obtain⟨v1,k1,s1⟩:=((at6.mono c6.wle).part FitD.Gy).sl;obtain⟨v2,k2,s2⟩:=((at6.mono c6.wle).part FitD.M3).sl;have k1:an (vw h6) ⟨B3,0,UL⟩=UK v1:=by simpa using k1
    have k2:an (vw h6) ⟨B3,1,UL⟩=UK v2:=by simpa using k2
    simp;subst hz;simp[k1,k2];exact hK _ _ ⟨c6.le0,_,_,rfl,s1,s2⟩
abbrev endZ:List Value:=[UH UI 0,UH UI 0,UH UI 0,UM UL 0 0,UH UJ 0]
theorem pK{H:View}:Rd H (.agg endZ.toArray) dc:=by unfold Rd;rw[if_pos (show Rep.agg EndD=UO from rfl)];exact⟨_,rfl,mH U2 U3 aS⟩
theorem I4{f:ak}{v:Value}{b p pat:Int}{h:Heap}(hW:W.le (vw h))(hv:Rd W v f)(hsm:SmF f)(hM : ∀i∈fg f,i.op=15\/i.op=16->ib)(hp:I64 pat)(htm:I64 temp):
  ay UQ 51 #[v,UH UI b,UH UI p,UH UI pat,UH UI temp] h (λu h'=>(vw h).le (vw h')/\∃v1 v2,u = .tuple #[v1,v2,.bool (gu f b p pat temp).isSome]/\SlRd (grow W h h') v1 (qQ (gu f b p pat temp))/\Rd (grow W h h') v2 (Au (gu f b p pat temp))):=by
 refine aq (args:=[v,UH UI b,UH UI p,UH UI pat,UH UI temp]) follows Tryz.func51 E.sN UC λK hK=>?_;dsimp only[L.sN,lkF,lkG];have c0:=Cx.start hW;refine aa λz hz=>?_;simp;refine c0.ey rfl hv λB h1 W1 hW1 c1 at1 hle1=>?_;refine c1.de (k:=(0,0)) (n:=4) (z:=.agg endZ.toArray) rfl U0 rfl U3 U8 λR h1' hle1' c1=>?_;subst hz;obtain⟨uf,huf,ruf⟩:=at1.ldN rfl (N:=2) rfl;have hr:=qC hv;refine aa λz hz=>?_;simp[huf _ c1.wle];refine ah U0 (IS c1.wle ruf htm) ?_;rintro _ h2 ⟨hle2,vs,rfl,hvs⟩;have c2:=c1.ext hle2;have hW2:=c1.up (h':=h2);simp;refine c2.eC (α:=cC) hvs (n:=13) (z:=.agg qL.toArray) U0 rfl rfl U0 U5 U5 λB2 h3 W3 hW3 c3 at3 hle3=>?_;subst hz;have huf3:=huf _ (UF hW2 (UF hW3 c3.wle));have ruf3:=ruf.mono (UF hW2 (UF hW3 c3.wle));have none_ : ∀(hx:Heap) (Wx:View) (l9:List Value) (o:Own),gu f b p pat temp=UL->Cx W h Wx hx o->Rd Wx (.agg l9.toArray) dc->K (.tuple #[UM UL 0 0,.agg l9.toArray,.bool UP]) hx:=λhx Wx l9 o e c r=>hK _ _ ⟨c.le0,_,_,by rw[e];rfl,by rw[e];exact aS,by rw[e];exact r.mono (c.old.le c.wle)⟩;refine aa λz hz=>?_;cases hpl:dz f b p with
 | false=>
  have e:gu f b p pat temp=none:=by unfold gu;rw[hpl];rfl
  simp;refine aA (t:=T.eS) (z:=.agg endZ.toArray) (places:=zpa) (vs:=[]) (cs:=endZ.toArray) U0 U0 U2 U0 ?_;refine c3.bG (k:=(0,0)) (n:=4) (l:=endZ) U4 pK rfl rfl U0 rfl rfl λh9 l9 hl9 c9=>?_;have hall:=c9.all (k:=(0,0)) (n:=4) (l:=l9) (B:=R) (e:=T.eS) U4;simp at hall;simp[hall];exact none_ _ _ _ _ e c9 (hl9▸pK)
 | true=>
  simp[huf3];refine ah U0 (zH ruf3 hsm) ?_;rintro _ h4 ⟨rfl,hle4⟩;have c4:=c3.ext hle4;have hW4:=c3.up (h':=h4);cases hrt:pV f with
  | false=>
   have e:gu f b p pat temp=none:=by unfold gu;rw[hpl,hrt];rfl
   have hrt2:decide ((my f).1=0)=false:=hrt;simp[hrt2];refine aA (t:=T.eS) (z:=.agg endZ.toArray) (places:=zpa) (vs:=[]) (cs:=endZ.toArray) U0 U0 U2 U0 ?_;refine c4.bG (k:=(0,0)) (n:=4) (l:=endZ) U4 pK rfl rfl U0 rfl rfl λh9 l9 hl9 c9=>?_;have hall:=c9.all (k:=(0,0)) (n:=4) (l:=l9) (B:=R) (e:=T.eS) U4;simp at hall;simp[hall];exact none_ _ _ _ _ e c9 (hl9▸pK)
  | true=>
   have hrt2:decide ((my f).1=0)=true:=hrt;have m:=kv hrt;have e:gu f b p pat temp=tryS (eJ f b p temp) pat:=by unfold gu;rw[hpl,hrt];rfl
   rw[e]at hK none_;have hpS:oP f b p temp=eJ f b p temp:=by unfold oP;rw[hpl,if_pos rfl]
   rw[hpS]at at3;obtain⟨us,hus,rus⟩:=at3.ldN rfl (N:=13) rfl;have hus4:=hus _ (UF hW4 c4.wle);simp[hrt2];subst hz;refine aa λz hz=>?_;simp[hus4];refine ah U0 (Cq c4.wle (rus.mono hW4) m hsm hr hM hpl hp) ?_;rintro _ h5 ⟨hle5,vf,x,rfl,hvf,hx⟩;have c5:=c4.ext hle5;simp;refine c5.eC (α:=FitD) hvf (n:=8) (z:=.agg fitZ.toArray) U0 rfl rfl U0 U5 U5 λB3 h6 W6 hW6 c6 at6 hle6=>?_;subst hz;refine aa λz hz=>?_;cases hq:tryS (eJ f b p temp) pat with
   | none=>simp;refine aA (t:=T.eS) (z:=.agg endZ.toArray) (places:=zpa) (vs:=[]) (cs:=endZ.toArray) U0 U0 U2 U0 ?_;refine c6.bG (k:=(0,0)) (n:=4) (l:=endZ) U4 pK rfl rfl U0 rfl rfl λh9 l9 hl9 c9=>?_;have hall:=c9.all (k:=(0,0)) (n:=4) (l:=l9) (B:=R) (e:=T.eS) U4;simp at hall;simp[hall];exact none_ _ _ _ _ hq c9 (hl9▸pK)
   | some y=>
    obtain rfl:=hx y hq;rw[hq]at hK;obtain⟨v1,k1,s1⟩:=(at6.part FitD.Oe).sl;obtain⟨v2,k2,s2⟩:=(at6.part FitD.GX).ldN rfl (N:=5) rfl;have k1:an W6 ⟨B3,2,UL⟩=UK v1:=by simpa using k1
    have k2:Un.ev W6 (.bM 5) (UN (UK ⟨B3,3,UL⟩))=UK v2:=by simpa using k2 W6 UE
    simp;subst hz;refine aa λz hz=>?_;refine aK W6 c6.wle ?_;simp[k1,k2];refine c6.bG (k:=(0,0)) (n:=4) (l:=endZ) U4 s2 rfl rfl U0 rfl rfl λh9 l9 hl9 c9=>?_;subst hz;have hall:=c9.all (k:=(0,0)) (n:=4) (l:=l9) (B:=R) (e:=T.eS) U4;simp at hall;simp[hall];exact hK _ _ ⟨c9.le0,_,_,rfl,s1.mono (c9.old.le c9.wle),hl9▸s2.mono (c9.old.le c9.wle)⟩
theorem fo{a b:ByteArray}(h:a.size+b.size<=9223372036854775807):Bn.ev .cat (.string a) (.string b)=UK (.string (a++b)):=by simp[Bn.ev,vS,h]
theorem FN{a b:ByteArray}{n:Bool}:Bn.ev (.eqS n) (.string a) (.string b)=UK (.bool ((a.toList == b.toList) != n)):=rfl
theorem Ev{P:Program}{t e d:TypeId}{h:Heap}{x:Operand}{c m:Nat}{xs:List Int}{fz:Nat × Nat}(hs:P.underlying t=UK (.slice e))(he:P.underlying e=UK (.int .u8))(hd:P.underlying d=UK .string)(hx:asg us x = UM (UK ⟨b,0,UL⟩) m c)(hb:h[b]? = UK (.cells (xs.map (UH .u8)).toArray e fz))(hm:xs.length=m)(hk:K (.string (strOfNums xs)) h):@Lft.step po P (.convert t d x) ty us h K:=by
 refine df (cB λw hw=>?_);subst hw;refine⟨_,w,?_,Same.refl _,hk⟩;simp only[bL,execOp,hx];have:=run_convert_bytes_arg (P:=P) w t e hs he b 0 m c xs hm (λi hi=>by
  have hi':i<xs.length:=by omega
  simp[World.cell?,hb,List.getD,RK hi']) d hd;simp[this]
theorem EC{P:Program}{t e:TypeId}{h:Heap}{x:Operand}{n:Int}(hT:eF P t e 1 1 (.int .u8 0))(hx:asg us x = .int .u8 n)(hk:K (UM (UK ⟨h.size,0,UL⟩) 1 1) (h.push (.cells (([n].map (UH .u8)).toArray) e))):@Lft.step po P (.buildSlice t 1 #[(0,x)]) ty us h K:=by
 obtain⟨B,h1,h2⟩:=zU [.int .u8 n] 0 ((Array.range (1*1)).map ((UH .u8 0).cells[· % (UH .u8 0).cells.size]!)) (λv hv=>by rw[Q8.1 hv];rfl) U2;have hB:B = #[.int .u8 n]:=by rw[<-Array.toList_inj,h2];simp
 subst hB;exact ti (size:=1) (vs:=[(0,.int .u8 n)]) hT U1 (by simp[hx]) h1 hk
def digB(u:Int):Int:=if u.tmod 10<0 then-u.tmod 10 else u.tmod 10
def digC(u:Int):ByteArray:=strOfNums [IntKind.u8.wrap (48+digB u)]
def digL:Nat->Int->ByteArray->ByteArray
 | 0,_,s=>s
 | n+1,u,s=>if 0<u.tdiv 10 then digL n (u.tdiv 10) (digC u++s) else digC u++s
def bh(n:Int):ByteArray:=(if n<0 then⟨#[45]⟩++digL 20 (IntKind.i64.wrap (-n)) ⟨#[]⟩ else digL 20 n ⟨#[]⟩)++⟨#[32]⟩
theorem pz{u:Int}:(digC u).size=1:=strOfNums_size _
theorem tf : ∀{n:Nat} {u:Int} {s:ByteArray},(digL n u s).size<=s.size+n
 | 0,_,_=>Q4 _
 | n+1,u,s=>by
  unfold digL;split
  ·have:=tf (n:=n) (u:=u.tdiv 10) (s:=digC u++s);rw[Rv,pz]at this;omega
  rw[Rv,pz];omega
theorem cf{n:Int}:(bh n).size<=22:=by
 unfold bh;have h1:=tf (n:=20) (u:=IntKind.i64.wrap (-n)) (s:=⟨#[]⟩);have h2:=tf (n:=20) (u:=n) (s:=⟨#[]⟩);have e:(⟨#[]⟩:ByteArray).size=0:=rfl;have e1:(⟨#[45]⟩:ByteArray).size=1:=rfl;have e2:(⟨#[32]⟩:ByteArray).size=1:=rfl;split
 ·rw[Rv,Rv];omega
 rw[Rv];omega
def tens:Nat->Int
 | 0=>1
 | n+1=>10*tens n
theorem DU : ∀{n:Nat},1<=tens n
 | 0=>SR _
 | n+1=>by have:=DU (n:=n);unfold tens;omega
theorem xY{n u0:Int}{h:Heap}{v2:Value}(hu:I64 u0)(hQ : ∀h' u f,(vw h).le (vw h')->Q .normal [(0,UH UI n),(2,v2),(3,.string (digL 20 u0 ⟨#[]⟩)),(4,UH UI u),(5,.bool f)] h'):
  LC.wp UQ L.dF.l1.loop (dT 0 Q) [(0,UH UI n),(2,v2),(3,.string ⟨#[]⟩),(4,UH UI u0),(5,.bool UO)] h:=by
 obtain⟨R,hR⟩ : ∃R,R=digL 20 u0 ⟨#[]⟩:=⟨_,rfl⟩;rw[<-hR]at hQ;refine ik [0,2,3,4,5] (λm ρ h'=>∃(u:Int) (s:ByteArray) (f:Bool),m<=20/\ρ=[(0,UH UI n),(2,v2),(3,.string s),(4,UH UI u),(5,.bool f)]/\I64 u/\(vw h).le (vw h')/\s.size<=20-m/\
  ((f=UO\/0<u)->1<=m/\digL m u s=R/\u<tens m)/\(¬(f=UO\/0<u)->s=R)) 20 ⟨u0,_,UO,by omega,rfl,hu,View.le_refl _,by show(0:Nat)<=_;omega,λ_=>⟨by omega,hR.symm,?_⟩,λh=>absurd (.inl rfl) h⟩ ?_
 ·have e:tens 20=100000000000000000000:=by decide
  rw[e];obtain⟨_,h2⟩:=hu;omega
 rintro m ρ h1 ⟨u,s,f,hm,rfl,hu,hle,hs,hA,hB⟩ K hK;dsimp only[L.dF.l1,lkF,lkG];by_cases hc:f=UO\/0<u
 ·obtain⟨hm1,hd,ht⟩:=hA hc;obtain⟨k,rfl⟩ : ∃k,m=k+1:=⟨m-1,by omega⟩;have hcb:(f||decide (0<u))=true:=by simpa using hc
  have t1:=DU (n:=k);have b1:=Uf u (show(0:Int)<10 by omega);have b2:=Ug u (show(0:Int)<10 by omega);have b3:I64 (u.tdiv 10)/\(0<u.tdiv 10->u.tdiv 10<tens k):=by have e:=Int.mul_tdiv_add_tmod u 10;have ht:u<10*tens k:=ht;obtain⟨g1,g2⟩:=hu;exact⟨U6,λh=>by have:=Int.tmod_nonneg 10 (show 0<=u by omega);omega⟩
  have hw:IntKind.i64.wrap (u.tdiv 10)=u.tdiv 10:=bc b3.1.1 b3.1.2;have step : ∀(h2:Heap) (x y z:Value),(vw h1).le (vw h2)->K [(0,UH UI n),(2,v2),(3,.string (digC u++s)),(4,UH UI (u.tdiv 10)),(5,.bool UP),(6,x),(26,y),(27,z)] h2:=λh2 x y z hle2=>by
   refine hK k _ _ U1 ⟨u.tdiv 10,digC u++s,UP,by omega,rfl,b3.1,UF hle hle2,by rw[Rv,pz];omega,λh=>?_,λh=>?_⟩
   ·have h:0<u.tdiv 10:=by simpa using h
    have hd:(if 0<u.tdiv 10 then digL k (u.tdiv 10) (digC u++s) else digC u++s)=R:=hd;rw[if_pos h]at hd;refine⟨?_,hd,b3.2 h⟩;cases k with
    | zero=>have:=b3.2 h;simp[tens]at this;omega
    | succ k=>omega
   have h:¬0<u.tdiv 10:=by simpa using h
   have hd:(if 0<u.tdiv 10 then digL k (u.tdiv 10) (digC u++s) else digC u++s)=R:=hd;rw[if_neg h]at hd;exact hd
  simp(disch:=omega)[hcb,hw];refine⟨λh0=>?_,λh0=>?_⟩
  ·have e:digC u=strOfNums [IntKind.u8.wrap (48+-u.tmod 10)]:=by unfold digC digB;rw[if_pos h0]
   refine EC (e:=T.uint8) El.oM rfl ?_;refine Ev (e:=T.uint8) U.oM U.uint8 U0 rfl (SL ..) rfl ?_;rw[<-e];simp(disch:=omega)[fo (a:=digC u) (b:=s) (by rw[pz];omega),hw];exact step _ _ _ _ (bQ _ _)
  have e:digC u=strOfNums [IntKind.u8.wrap (48+u.tmod 10)]:=by unfold digC digB;rw[if_neg U1]
  refine EC (e:=T.uint8) El.oM rfl ?_;refine Ev (e:=T.uint8) U.oM U.uint8 U0 rfl (SL ..) rfl ?_;rw[<-e];simp(disch:=omega)[fo (a:=digC u) (b:=s) (by rw[pz];omega),hw];exact step _ _ _ _ (bQ _ _)
 have hcb:(f||decide (0<u))=false:=by simpa using hc
 obtain rfl:=hB hc;simp[hcb];exact hQ _ _ _ hle
theorem ez{n:Int}{h:Heap}(hn:I64 n):ay UQ 61 #[UH UI n] h (λu h'=>u = .string (bh n)/\(vw h).le (vw h')):=by
 refine aq (args:=[UH UI n]) follows Tryz.func61 E.dF UC λKc hK=>?_;dsimp only[L.dF,lkF,lkG];simp;have q0 : ∀{u:Int},(digL 20 u ⟨#[]⟩).size<=20:=fun{u}=>by have:=tf (n:=20) (u:=u) (s:=⟨#[]⟩);have e:(⟨#[]⟩:ByteArray).size=0:=rfl;omega
 refine⟨λh0=>?_,λh0=>?_⟩
 ·have hwr:I64 (IntKind.i64.wrap (-n)):=by rw[IntKind.wrap_i64];unfold I64;omega
  refine xY hwr λh' u f hle=>?_;have e:bh n=⟨#[45]⟩++digL 20 (IntKind.i64.wrap (-n)) ⟨#[]⟩++⟨#[32]⟩:=by unfold bh;rw[if_pos h0]
  have q1:=q0 (u:=IntKind.i64.wrap (-n));have e1:(⟨#[45]⟩:ByteArray).size=1:=rfl;have e2:(⟨#[32]⟩:ByteArray).size=1:=rfl;have e3:=fo (a:=⟨#[45]⟩) (b:=digL 20 (IntKind.i64.wrap (-n)) ⟨#[]⟩) U1;have e4:=fo (a:=⟨#[45]⟩++digL 20 (IntKind.i64.wrap (-n)) ⟨#[]⟩) (b:=⟨#[32]⟩) (by rw[Rv];omega);simp[h0,e3,e4];exact hK _ _ ⟨by rw[e],hle⟩
 refine xY hn λh' u f hle=>?_;have:¬n<0:=by omega
 have e:bh n=digL 20 n ⟨#[]⟩++⟨#[32]⟩:=by unfold bh;rw[if_neg this]
 have q1:=q0 (u:=n);have e2:(⟨#[32]⟩:ByteArray).size=1:=rfl;have e4:=fo (a:=digL 20 n ⟨#[]⟩) (b:=⟨#[32]⟩) U1;simp[this,e4];exact hK _ _ ⟨by rw[e],hle⟩
end Go.Lft
