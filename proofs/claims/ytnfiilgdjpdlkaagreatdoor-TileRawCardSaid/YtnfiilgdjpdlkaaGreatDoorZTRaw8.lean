/- A part of the proof: Ql, LftTs, Qm, Qn, Qo, Qp, Os, Qg, Ot, Ou, Nb, Qh, Qq. -/
import Derived.Test.YtnfiilgdjpdlkaaGreatDoorZTRaw7
set_option linter.unusedSimpArgs false
set_option linter.unusedVariables false
open Go.Value renaming int->RG,slice->RL,pointer->RM
open Go.IntKind renaming i64->RH,i32->RI
open Option renaming some->RJ,none->RK
open Bool renaming true->RN,false->RO
open Go.Proofs.Tryz renaming prog->RP
namespace Go.Lft
open Go
variable {po po2:OP}
theorem Ii {P:Program} {ty:TypeId} {us:List (Nat × Value)} {h:Heap} {t ty2:TypeId} {n:Nat} {z:Value} {x y:Operand} {us2:Value->List (Nat × Value)} {v:Value} {X:View} {K:Value->Heap->Prop} (hX:X.le (vw h)) (hz:(P.info? t).map (·.zero)=RJ (RJ z)) (hzc:z.cells.size=n) (hsz:df P t=RJ n) (hv:v.cells.size=n)
  (hone : ∀c∈v.cells.toList,c.oneCell'=RN) (hx : ∀p,asg (us2 p) x=p) (hy : ∀p,asg (us2 p) y=v) (hk : ∀h':Heap,(vw h).le (vw h')->h'.size=h.size+1->h'[h.size]? = RJ (.cells v.cells t (0,0))->K (RM (RJ ⟨h.size,0,RK⟩)) h') :
  @step po P (.alloc t) ty us h λp h2=>X.le (vw h2)/\@step po2 P (.store t x y) ty2 (us2 p) h2 λ_ h3=>K p h3:=by
 refine cZ hz ⟨RE hX (bM h _),?_⟩;refine eJ (g:=h.size) (o:=0) (n:=n) (v:=v) (cur:=z.cells) (e:=t) hsz (hx _) (hy _) hv hone Sa R3 λh' hs ⟨row,hrow,he⟩ hoth=>?_;have hrow2:row=v.cells:=by rw[<-Array.toList_inj,he];simp only[PT,OW,O7];rw[OL (by simp[hzc]),Pn]
 rw[hrow2]at hrow;have hle:(vw h).le (vw h'):=λb o hb=>by have hlt:=View.lt (View.le_refl (vw h)) hb;show h'[b]? = _;rw[hoth b R3];exact bM _ _ b o hb
 exact hk h' hle (by rw[hs];simp) hrow
theorem Cx.Ja {α:Type} [Rep α] {V W X:View} {h0 h:Heap} {o:Own} {P:Program} {ty:TypeId} {us:List (Nat × Value)} {t ty2:TypeId} {n:Nat} {z:Value} {x y:Operand} {us2:Value->List (Nat × Value)} {v:Value} {d:α} {K:Value->Heap->Prop} (c:Cx V h0 W h o) (hX:X.le W) (hv:Rd W v d) (hz:(P.info? t).map (·.zero)=RJ (RJ z)) (hN:Rep.n α=n) (hzc:z.cells.size=n) (hsz:df P t=RJ n)
  (hx : ∀p,asg (us2 p) x=p) (hy : ∀p,asg (us2 p) y=v) (hk : ∀B h' W',W.le W'->Cx V h0 W' h' o->At W' ⟨B,0,RK⟩ d->(vw h).le (vw h')->K (RM (RJ ⟨B,0,RK⟩)) h') :
  @step po P (.alloc t) ty us h λp h2=>X.le (vw h2)/\@step po2 P (.store t x y) ty2 (us2 p) h2 λ_ h3=>K p h3:=by subst hN;obtain⟨c1,c2,c3⟩:=fS hv;refine Ii (RE hX c.wle) hz hzc hsz c2 c3 hx hy λh1 hle hs hb=>?_;exact hk _ _ _ c.up (c.ext hle) (og (by rw[ck (NO _)];exact hb) (hv.mono c.up)) hle
end Go.Lft
namespace Go.Proofs.YtnfiilgdjpdlkaaGreatDoor
open Go Go.Lft
def qV (ts:List Th) (x:Int):Option Th:=ts.find? λt=>t.mks.contains x
abbrev thV:List Value:=[RG RH 0,RG RH 0,RL RK 0 0,RL RK 0 0]
theorem KJ {H:View}:Rd H (.agg thV.toArray) kG:=Bl ⟨R4,R4⟩ ⟨R4,R4⟩ aE aE
theorem DT {ts:List Th} {v:Value} {x:Int} {h:Heap} {W:View} (hW:W.le (vw h)) (ht:SlRd W v ts) :
  az RP 127 #[v,RG RH x] h (λu h'=>(vw h).le (vw h')/\∃vt,u = .tuple #[vt,.bool (qV ts x).isSome]/\Rd (grow W h h') vt ((qV ts x).getD kG)):=by
 refine ao (args:=[v,RG RH x]) follows Tryz.func127 E.dP RB λK hK=>?_;dsimp only[L.dP,lkF,lkG];have c0:=Cx.start hW;have hbd:=ht.bound;refine aa λz hz=>?_;simp;refine c0.bU (k:=(0,0)) (n:=3) (z:=.agg thV.toArray) rfl R1 rfl R4 R8 λR hb hleb cb=>?_;subst hz;refine aa λz hz=>?_;simp;refine bX [0,1,4,5,6] (fun(_:Unit) k=>[v,RG RH x,ptr R,.bool RO,RG RH k]) (λ_ k h1=>qV (ts.take k) x=RK/\h1=hb) ts.length ()
  rfl R3 rfl ⟨rfl,rfl⟩ (λ_ _=>rfl) (λ_ i h1 hk m=>by simp[ht.len]) ?_ ?_
 ·rintro _ k h1 hk ⟨hn,rfl⟩ K2 hK2;have htb:=ht.mono cb.wle;have hat:=ht.at hk;rw[<-aA hk]at hat;have hnx:qV (ts.take (k+1)) x=if(nth ts k).mks.contains x then RJ (nth ts k) else none:=by unfold qV at hn ⊢;rw[NT hk,PN,hn,PI,aA hk,QS]
  have hfd:(nth ts k).mks.contains x=RN->qV ts x=RJ (nth ts k):=λhc=>by
   have e:ts.take (k+1)++ts.drop (k+1)=ts:=PA ..;unfold qV at hnx ⊢;have:(ts.take (k+1)++ts.drop (k+1)).find? (λt=>t.mks.contains x)=RJ (nth ts k):=by rw[PN,hnx,hc];rfl
   rwa [e]at this
  obtain⟨ut,hut,rut⟩:=hat.ldN rfl (N:=4) rfl;obtain⟨vk,hvk⟩:=(hat.part Th.BI).sl;have hvk1:an (vw h1) (((slA v).add (k*4)).add 2)=RJ vk:=ae cb.wle hvk.1;have hvk2:=hvk.2.mono cb.wle;have hut2:Un.ev (vw h1) (.aZ 4) (RM (RJ ((slA v).add (k*4))))=RJ ut:=hut _ cb.wle;generalize nth ts k=t at *;have hkb:=hvk2.bound;refine aa λy hy=>?_;simp;subst hy;refine bX [0,1,4,5,6,7] (fun(_:Unit) j=>[v,RG RH x,ptr R,.bool RO,RG RH k,RG RH j]) (λ_ j h3=>(t.mks.take j).contains x=RO/\h3=h1) t.mks.length ()
   rfl R3 rfl ⟨by simp,rfl⟩ (λ_ _=>rfl) (λ_ k h3 hk m=>by obtain⟨-,rfl⟩:=m;simp(disch:=omega)[htb.idxn (N:=4) rfl,hvk1,hvk2.len]) ?_ ?_
  ·rintro _ j h3 hj ⟨hn3,rfl⟩ K3 hK3;have hst:(t.mks.take (j+1)).contains x=decide (nth t.mks j=x):=by
    rw[NT hj,aA hj,OA];have hn3:¬x∈t.mks.take j:=by simpa using hn3
    simp only[List.contains_iff_mem,NU,NW,decide_eq_true_eq];exact⟨λh=>(h.resolve_left hn3).symm,λh=>.inr h.symm⟩
   by_cases e:nth t.mks j=x
   ·have hc:t.mks.contains x=true:=by simp only[List.contains_iff_mem];rw[<-e];exact bz hj
    simp(disch:=omega)[htb.idxn (N:=4) rfl,hvk1,hvk2.idx1 rfl,hvk2.int RD,e,hut2];refine cb.aK (k:=(0,0)) Own.aj rut rfl rfl R1 rfl rfl λh5 l5 hl5 c5=>?_;simp[c5.all (k:=(0,0)) Own.aj];refine hK _ _ ⟨c5.le0,_,by rw[hfd hc];rfl,?_⟩;rw[hfd hc,<-hl5];exact rut.mono c5.fin
   simp(disch:=omega)[htb.idxn (N:=4) rfl,hvk1,hvk2.idx1 rfl,hvk2.int RD,e];exact hK3 () _ _ rfl rfl ⟨by rw[hst];simp[e],rfl⟩
  rintro _ h3 ⟨hn3,rfl⟩;rw[OK]at hn3;simp;refine hK2 () _ _ rfl rfl ⟨?_,rfl⟩;rw[hnx,hn3];rfl
 rintro _ h1 ⟨hn,rfl⟩;rw[OK]at hn;simp;subst hz;refine aa λz hz=>?_;simp;have hr:Rd W (.agg thV.toArray) kG:=KJ;refine ak (z:=.agg thV.toArray) (places:=[(0,1),(1,1),(2,1),(3,1)]) (vs:=[]) (cs:=thV.toArray) R1 R1 Sa R1 ?_;refine cb.aK (k:=(0,0)) Own.aj hr rfl rfl R1 rfl rfl λh5 l5 hl5 c5=>?_;subst hz;simp[c5.all (k:=(0,0)) Own.aj];refine hK _ _ ⟨c5.le0,_,by rw[hn];rfl,?_⟩;rw[hn,<-hl5];exact hr.mono c5.fin
theorem Bd {f:aq} {v:Value} {h:Heap} {W:View} (hW:W.le (vw h)) (hv:Rd W v f) (hsm:SmF f) :
  az RP 36 #[v] h (λu h'=>(vw h).le (vw h')/\u = .bool (lV f)):=by refine ao (args:=[v]) follows Tryz.func36 E.nG RB λK hK=>?_;dsimp only[L.nG,lkF,lkG];have c0:=Cx.start hW;refine aa λz hz=>?_;simp;refine c0.cu rfl hv λB ha Wa hWa ca hat hlea=>?_;subst hz;refine aa λz hz=>?_;obtain⟨uf,huf,ruf⟩:=hat.ldN rfl (N:=2) rfl;simp[huf _ ca.wle];refine ah R1 (Di (ruf.mono ca.wle) hsm) ?_;rintro _ hb ⟨rfl,hle⟩;simp[gotV];subst hz;simp;exact hK _ _ ⟨RE ca.le0 hle,by rw[lV,zK]⟩
theorem BW {f:aq} {x:Int} {t:Th} (h:qz f x=RJ t) (h0:¬t.place<0) : ∃b k:Nat,b<f.blocks.length/\k<(nth f.blocks b).ins.length/\t.blk=b/\t.place=k/\fw f t=nth (nth f.blocks b).ins k:=by
 have h1:=O4 h;have h2:=P1 h;have h2:x∈t.mks:=by simpa using h2
 obtain⟨b,hb,htb⟩:=gC.1 h1;rcases iZ.1 htb with⟨i,hi,rfl⟩ | ⟨k,hk,rfl⟩ | rfl
 ·simp[phiT]at h0;omega
 ·exact⟨b,k,hb,hk,rfl,rfl,by simp[fw,eY,insT]⟩
 cases h2
abbrev insV:List Value:=[RG RH 0,RG RH 0,RG RH 0,RL RK 0 0,RG RI 0]
theorem iM {f:aq} {v:Value} {x op:Int} {h:Heap} {W:View} (hW:W.le (vw h)) (hv:Rd W v f) (hsm:SmF f) :
  az RP 95 #[v,RG RH x,RG RH op] h (λu h'=>(vw h).le (vw h')/\∃vi,u = .tuple #[vi,.bool (cV f x op).2]/\Rd (grow W h h') vi (cV f x op).1):=by
 refine ao (args:=[v,RG RH x,RG RH op]) follows Tryz.func95 E.nQ RB λK hK=>?_;dsimp only[L.nQ,lkF,lkG];have c0:=Cx.start hW;refine aa λz hz=>?_;simp;refine c0.cu rfl hv λB ha Wa hWa ca hat hlea=>?_;refine ca.bU (k:=(0,0)) (n:=4) (z:=.agg insV.toArray) rfl R1 rfl R4 R8 λR hb hleb cb=>?_;subst hz;refine aa λz hz=>?_;obtain⟨uf,huf,ruf⟩:=hat.ldN rfl (N:=2) rfl;simp[huf _ cb.wle];refine ah R1 (kD ruf cb.wle hsm) ?_;rintro vt hc ⟨hlec,rt⟩;have cc:=cb.ext hlec;refine ah R1 (DT cc.wle rt) ?_;rintro _ hd ⟨hled,vs,rfl,rvs⟩;have cd:=cc.ext hled;simp;refine cd.dA (α:=Th) rvs (n:=4) (z:=.agg thV.toArray) R1 rfl rfl R1 R5 R5 λB2 he We hWe ce hat2 hlee=>?_;subst hz;have hWae:Wa.le We:=RE cb.up (RE cc.up hWe);have es:qV (aC f) x=qz f x:=rfl;rw[es]at hat2 ⊢;have p0:an We ⟨B2,0,RK⟩=RJ (RG RH ((qz f x).getD kG).blk):=by simpa using(hat2.part Th.zi).int
 have p1:an We ⟨B2,1,RK⟩=RJ (RG RH ((qz f x).getD kG).place):=by simpa using(hat2.part Th.Et).int
 have hr:Rd We (.agg insV.toArray) eV:=iN;cases hs:qz f x with
 | none=>
  have ei:cV f x op=(eV,RO):=by unfold cV;rw[hs];rfl
  refine aa λz hz=>?_;simp;refine ak (z:=.agg insV.toArray) (places:=[(0,1),(1,1),(2,1),(3,1),(4,1)]) (vs:=[]) (cs:=insV.toArray) R1 R1 Sa R1 ?_;refine ce.aK (k:=(0,0)) Own.aj hr rfl rfl R1 rfl rfl λh5 l5 hl5 c5=>?_;simp[c5.all (k:=(0,0)) Own.aj];rw[ei]at hK;refine hK _ _ ⟨c5.le0,_,rfl,?_⟩;rw[<-hl5];exact hr.mono c5.fin
 | some t=>
  rw[hs]at p0 p1;simp only[QO]at p0 p1;have p0c:=ae ce.wle p0;have p1c:=ae ce.wle p1;by_cases hp:t.place<0
  ·have ei:cV f x op=(eV,RO):=by unfold cV;rw[hs];dsimp only[uV];rw[if_pos hp]
   refine aa λz hz=>?_;simp[p1c,hp];refine ak (z:=.agg insV.toArray) (places:=[(0,1),(1,1),(2,1),(3,1),(4,1)]) (vs:=[]) (cs:=insV.toArray) R1 R1 Sa R1 ?_;refine ce.aK (k:=(0,0)) Own.aj hr rfl rfl R1 rfl rfl λh5 l5 hl5 c5=>?_;simp[c5.all (k:=(0,0)) Own.aj];rw[ei]at hK;refine hK _ _ ⟨c5.le0,_,rfl,?_⟩;rw[<-hl5];exact hr.mono c5.fin
  obtain⟨b,k,hbl,hkl,eb,ek,ein⟩:=BW hs hp;have ei:cV f x op=(nth (nth f.blocks b).ins k,decide ((nth (nth f.blocks b).ins k).op=op)&&dK f x):=by unfold cV;rw[hs];dsimp only[uV];rw[if_neg hp,ein]
  rw[eb]at p0;rw[ek]at p1;rw[ek]at p1c;have hbs:=hsm.blk b hbl;obtain⟨vb,cb1,sb⟩:=(hat.part aq.qj).sl;have cb1:an We ⟨B,1,RK⟩=RJ vb:=ae hWae (by simpa using cb1);have sb:=sb.mono hWae;have hatb:=sb.at hbl;rw[<-aA hbl]at hatb;obtain⟨vi,ci,si⟩:=(hatb.part BlkD.jY).sl;have hati:=si.at hkl;rw[<-aA hkl]at hati;obtain⟨ui,hui,rui⟩:=hati.ldN rfl (N:=5) rfl;have n6:Rep.n BlkD=6:=rfl;have n5:Rep.n InsD=5:=rfl;rw[n6]at ci;have hui:=hui We RD;rw[n5]at hui;refine aa λz hz=>?_;have hk0:¬(k:Int)<0:=by omega
  simp[p1c,hk0];subst hz;have hbd:=sb.bound;have hbd2:=si.bound;refine aa λz hz=>?_;refine aH We ce.wle ?_;simp(disch:=omega)[p0,p1,cb1,sb.idxn (N:=6) rfl,ci,si.idxn (N:=5) rfl,hui];refine ce.Ja (α:=InsD) RD rui (n:=5) (z:=.agg insV.toArray) R1 rfl rfl R1 (λ_=>by rfl) (λ_=>by rfl) λB3 hf Wf hWf cf hat3 hlef=>?_;subst hz;refine aa λz hz=>?_;obtain⟨d0,-⟩:=fI hat3;obtain⟨uj,huj,ruj⟩:=hat3.ldN rfl (N:=5) rfl;have huj:=huj Wf RD;have huf2:=huf Wf (RE hWae hWf);have ruf2:=ruf.mono (RE hWae hWf);generalize nth (nth f.blocks b).ins k=i at *;have fin : ∀(c:Bool) (h2:Heap) (l':List Value),c=(cV f x op).2->uj = .agg l'.toArray->Cx W h Wf h2 (Own.upd (Own.upd (λ_=>RK) (0,0) (bx T.dR R (RawN.mk (n:=4) insV))) (0,0) (bx T.dR R (RawN.mk (n:=4) l')))->K (.tuple #[.agg l'.toArray,.bool c]) h2:=by rintro _ h2 l' rfl hl' c2;refine hK _ _ ⟨c2.le0,_,rfl,?_⟩;rw[ei,<-hl'];exact ruj.mono c2.fin
  refine aH Wf cf.wle ?_;by_cases c:i.op=op
  ·simp[huj,d0,c,huf2];refine ah R1 (xr (ruf2.mono cf.wle) hsm) ?_;rintro _ h1 ⟨rfl,hle1⟩;have c1:Cx W h Wf h1 _:=⟨cf.own.ext' hle1,cf.old,RE cf.le0 hle1,cf.new⟩;refine⟨c1.wle,?_⟩;refine c1.aK (k:=(0,0)) Own.aj ruj rfl rfl R1 rfl rfl λh2 l' hl' c2=>?_;subst hz;simp[c2.all (k:=(0,0)) Own.aj];exact fin _ _ _ (by rw[ei,yE];simp[c]) hl' c2
  simp[huj,d0,c];refine cf.aK (k:=(0,0)) Own.aj ruj rfl rfl R1 rfl rfl λh2 l' hl' c2=>?_;subst hz;simp[c2.all (k:=(0,0)) Own.aj];exact fin _ _ _ (by rw[ei];simp[c]) hl' c2
theorem vO {f:aq} {v:Value} {x lo hi:Int} {h:Heap} {W:View} (hW:W.le (vw h)) (hv:Rd W v f) (hsm:SmF f) :
  az RP 97 #[v,RG RH x,RG RH lo,RG RH hi] h (λu h'=>(vw h).le (vw h')/\u = .tuple #[RG RH (lX f x lo hi).1,.bool (lX f x lo hi).2]):=by
 refine ao (args:=[v,RG RH x,RG RH lo,RG RH hi]) follows Tryz.func97 E.kq RB λK hK=>?_;dsimp only[L.kq,lkF,lkG];have c0:=Cx.start hW;refine aa λz hz=>?_;simp;refine c0.cu rfl hv λB ha Wa hWa ca hat hlea=>?_;subst hz;refine aa λz hz=>?_;obtain⟨uf,huf,ruf⟩:=hat.ldN rfl (N:=2) rfl;simp[huf _ ca.wle];refine ah R1 (iM ca.wle ruf hsm) ?_;rintro _ hc ⟨hlec,vi,rfl,hvi⟩;have cc:=ca.ext hlec;simp;refine cc.dA (α:=InsD) hvi (n:=5) (z:=.agg insV.toArray) R1 rfl rfl R1 R5 R5 λB2 hd Wd hWd cd hat2 hle2=>?_;subst hz;refine aa λz hz=>?_;refine aH Wd cd.wle ?_;have hp:=hat2.part InsD.gx;have d4:an Wd ⟨B2,4,RK⟩=RJ (RG RI (cV f x 1).1.imm.v):=by simpa using hp.i32
 obtain⟨_,-,rng⟩:=hp.load rfl;have rng:=(uo.1 rng).2;have ew:IntKind.i64.wrap (cV f x 1).1.imm.v=(cV f x 1).1.imm.v:=bh R3 R3;cases hb:(cV f x 1).2 with
 | false=>simp[d4,ew];subst hz;simp;exact hK _ _ ⟨cd.le0,by simp[lX,hb]⟩
 | true=>
  by_cases hlo:lo<=(cV f x 1).1.imm.v
  ·simp[d4,ew,hlo];subst hz;simp;exact hK _ _ ⟨cd.le0,by simp[lX,hb,inR,hlo]⟩
  simp[d4,ew,hlo];subst hz;simp;exact hK _ _ ⟨cd.le0,by simp[lX,hb,inR,hlo]⟩
def immT (pat:Int):Int × Int × Int × Int:=
 if pat=16 then(2,18,-128,127) else if pat=17 then(3,18,-127,128) else if pat=18 then(5,19,-128,127) else if pat=19 then(8,20,0,31) else if pat=20 then(9,21,0,31) else if pat=21 then(10,22,0,31) else(0,0,0,0)
theorem Az {pat:Int} {h:Heap}:az RP 96 #[RG RH pat] h (λu h'=>h'=h/\u = .tuple #[RG RH (immT pat).1,RG RH (immT pat).2.1,RG RH (immT pat).2.2.1,RG RH (immT pat).2.2.2]):=by
 refine ao (args:=[RG RH pat]) follows Tryz.func96 E.jG RB λK hK=>?_;dsimp only[L.jG,lkF,lkG];unfold immT at hK;by_cases c1:pat=16
 ·simp[c1];exact hK _ _ ⟨rfl,by simp[c1,pack]⟩
 by_cases c2:pat=17
 ·simp[c2];exact hK _ _ ⟨rfl,by simp[c2,pack]⟩
 by_cases c3:pat=18
 ·simp[c3];exact hK _ _ ⟨rfl,by simp[c3,pack]⟩
 by_cases c4:pat=19
 ·simp[c4];exact hK _ _ ⟨rfl,by simp[c4,pack]⟩
 by_cases c5:pat=20
 ·simp[c5];exact hK _ _ ⟨rfl,by simp[c5,pack]⟩
 by_cases c6:pat=21
 ·simp[c6];exact hK _ _ ⟨rfl,by simp[c6,pack]⟩
 simp[c1,c2,c3,c4,c5,c6];exact hK _ _ ⟨rfl,by simp[c1,c2,c3,c4,c5,c6,pack]⟩
end Go.Proofs.YtnfiilgdjpdlkaaGreatDoor
namespace Go.Lft
open Go
variable {pp:PP} {P:Program} {Q:Post} {ρ:Env} {h:Heap} {kl:List Nat} {c:Nat} {e:E} {a b x:LC}
theorem sR {i:Nat} (hx:x.wp P (fe i Q) ρ h):LC.wp P (.block i x) Q ρ h:=hx
theorem HS {v:Value} (hk:ρ.all (λp=>!kl.contains p.1&&!(p.1 == c))=RN):bY (setE (bY ρ kl) c v) [c]=ρ:=by have h:=OJ.1 hk;simp only[NS,Pl,beq_eq_false_iff_ne,ne_eq]at h;have h1:bY ρ kl=ρ:=mZ λp hp=>(h p hp).1;rw[h1];exact ni λp hp=>(h p hp).2
theorem CM (v:Bool) (hk:ρ.all (λp=>!kl.contains p.1&&!(p.1 == c))=RN) (he:ev (look ρ) (vw h) e=RJ (.bool v)) (hx:LC.wp P (bif v then a else b) Q ρ h) :
  LC.wp P (.seq (.reg RO (.fin kl [(c,e)] [])) (.cond (.tmp c) [c] a b)) Q ρ h:=by
 rw[pF,kF];refine⟨[(c,.bool v)],?_,trivial,?_⟩
 ·simp only[part];simp[evP,he]
 simp only[dx,eU];rw[lI];have hl:ev (look (setE (bY ρ kl) c (.bool v))) (vw h) (.tmp c)=RJ (.bool v):=by simp[af]
 rw[hl,HS hk];cases v
 ·simpa using hx
 simpa using hx
theorem cJ (hk:ρ.all (λp=>!kl.contains p.1&&!(p.1 == c))=RN) (he:ev (look ρ) (vw h) e=RJ (.bool RN)) (hx:LC.wp P a Q ρ h) :
  LC.wp P (.seq (.reg RO (.fin kl [(c,e)] [])) (.cond (.tmp c) [c] a b)) Q ρ h:=CM RN hk he hx
theorem cL (hk:ρ.all (λp=>!kl.contains p.1&&!(p.1 == c))=RN) (he:ev (look ρ) (vw h) e=RJ (.bool RO)) (hx:LC.wp P b Q ρ h) :
  LC.wp P (.seq (.reg RO (.fin kl [(c,e)] [])) (.cond (.tmp c) [c] a b)) Q ρ h:=CM RO hk he hx
end Go.Lft
namespace Go.Lft
open Go
variable {pp:PP} {P:Program} {Q:Post} {ρ:Env} {h:Heap} {kl:List Nat} {c:Nat} {e:E} {a b x:LC}
def Slk (ρ:Env) (l:List (Nat × Value)):Prop:=∀p∈l,look ρ p.1=RJ p.2
theorem bn {p:Nat × Value} {l:List (Nat × Value)}:Slk ρ (p::l)↔look ρ p.1=RJ p.2/\Slk ρ l:=by unfold Slk;simp
theorem bS:Slk ρ []↔True:=by unfold Slk;simp
theorem dh (l:List (Nat × Value)) (v:Bool) (hL:Slk ρ l) (hk:l.all (λp=>!kl.contains p.1&&!(p.1 == c))=RN) (he:ev (look ρ) (vw h) e=RJ (.bool v)) (hx : ∀ρ',Slk ρ' l->LC.wp P (bif v then a else b) Q ρ' h) :
  LC.wp P (.seq (.reg RO (.fin kl [(c,e)] [])) (.cond (.tmp c) [c] a b)) Q ρ h:=by
 rw[pF,kF];refine⟨[(c,.bool v)],?_,trivial,?_⟩
 ·simp only[part];simp[evP,he]
 simp only[dx,eU];rw[lI];have hl:ev (look (setE (bY ρ kl) c (.bool v))) (vw h) (.tmp c)=RJ (.bool v):=by simp[af]
 rw[hl];have hk:=OJ.1 hk;have hq:Slk (bY (setE (bY ρ kl) c (.bool v)) [c]) l:=λp hp=>by
  have:=hk p hp;simp only[NS,Pl,beq_eq_false_iff_ne,ne_eq]at this;obtain⟨k1,k2⟩:=this;rw[ag,af,ag];have k3:¬(c=p.1):=λe=>k2 e.symm;have k4:([c].contains p.1)=false:=by simp[k2]
  simp[k1,k2,k3];exact⟨by simpa using k1,hL p hp⟩
 have:=hx _ hq;cases v
 ·simpa using this
 simpa using this
end Go.Lft
namespace Go.Lft
open Go
variable {pp:PP} {P:Program} {Q:Post} {ρ:Env} {h:Heap} {kl:List Nat} {c:Nat} {e:E} {a b x:LC}
theorem Slk.put {l:List (Nat × Value)} {v:Value} (hL:Slk ρ l) (hk:l.all (λp=>!kl.contains p.1&&!(p.1 == c))=RN):Slk (setE (bY ρ kl) c v) ((c,v)::l):=λp hp=>by
 rw[af];rcases N5.1 hp with rfl | hp
 ·rw[if_pos rfl]
 have:=OJ.1 hk p hp;simp only[NS,Pl,beq_eq_false_iff_ne,ne_eq]at this;obtain⟨k1,k2⟩:=this;rw[if_neg (λe=>k2 e.symm),ag,k1];exact hL p hp
theorem H0 (l:List (Nat × Value)) (v:Value) (hL:Slk ρ l) (hk:l.all (λp=>!kl.contains p.1&&!(p.1 == c))=RN) (he:ev (look ρ) (vw h) e=RJ v) (hx : ∀ρ',Slk ρ' ((c,v)::l)->LC.wp P x Q ρ' h) :
  LC.wp P (.seq (.reg RO (.fin kl [(c,e)] [])) x) Q ρ h:=by
 rw[pF,kF];refine⟨[(c,v)],?_,trivial,?_⟩
 ·simp only[part];simp[evP,he]
 simp only[dx,eU];exact hx _ (hL.put hk)
end Go.Lft
namespace Go.Lft
open Go
structure FitR where
 fit:FitD
 ok:Bool
 deriving Inhabited
instance:Rep FitR:=Rep.via λx=>Cat.mk x.fit x.ok
theorem FitR.MP:Part FitR FitD 0 FitR.fit (λd x=>{ d with fit:=x }):=(Part.fst Part.all).via (λ_=>rfl) λ_ _=>rfl
theorem FitR.Nl:Part FitR Bool 8 FitR.ok (λd x=>{ d with ok:=x }):=(Part.snd Part.all).via (λ_=>rfl) λ_ _=>rfl
theorem oZ {H:View} {v1 v2 v3:Value} {ce:List Value} {takes inner:List Int} {code:List aF} {fin:EndD} {b:Bool} (h1:SlRd H v1 takes) (h2:SlRd H v2 inner) (h3:SlRd H v3 code) (h4:Rep.rd H ce fin) :
  Rd H (.agg (v1::v2::v3::(ce++[.bool b])).toArray) (⟨⟨takes,inner,code,fin⟩,b⟩:FitR):=by have h:=ta (α:=FitD) rfl (lR h1 h2 h3 h4);unfold Rd;rw[if_pos (show Rep.agg FitR=RN from rfl)];exact⟨_,rfl,v1::v2::v3::ce,[.bool b],by simp,by simpa using h,rfl⟩
end Go.Lft
namespace Go.Proofs.YtnfiilgdjpdlkaaGreatDoor
open Go Go.Lft
def Dy (V:View) (h h':Heap) (u:Value) (r:Option FitD):Prop:=(vw h).le (vw h')/\∃x:FitR,Rd (grow V h h') u x/\x.ok=r.isSome/\∀y,r=RJ y->x.fit=y
abbrev bj:List Value:=[RL RK 0 0,RL RK 0 0,RL RK 0 0,RG RH 0,RG RH 0,RG RH 0,RL RK 0 0,RG RI 0,.bool RO]
theorem gZ {H:View}:Rd H (.agg bj.toArray) (⟨nw,RO⟩:FitR):=oZ (ce:=[RG RH 0,RG RH 0,RG RH 0,RL RK 0 0,RG RI 0]) aE aE aE (gO Sa R4 aE)
theorem HG {H:View} {B:Nat} {t:cB} (h:At H ⟨B,0,RK⟩ t) : ∃va wt,an H ⟨B,0,RK⟩=RJ (RG RH t.kind)/\Sl H ⟨B,1,RK⟩ va t.args/\Sl H ⟨B,2,RK⟩ wt t.to/\an H ⟨B,3,RK⟩=RJ (RG RI t.imm.v)/\-2147483648<=t.imm.v/\t.imm.v<=2147483647:=by obtain⟨va,h4⟩:=(h.part cB.eX).sl;obtain⟨vt,h5⟩:=(h.part cB.yb).sl;have hi:=h.part cB.gx;exact⟨va,vt,by simpa using(h.part cB.yu).int,by simpa using h4,by simpa using h5,by simpa using hi.i32,hi.mP.1,hi.mP.2⟩
abbrev endP:List (Nat × Nat):=[(0,1),(1,1),(2,1),(3,1),(4,1)]
abbrev fitP:List (Nat × Nat):=[(0,1),(1,1),(2,1),(3,5),(8,1)]
set_option maxHeartbeats 4000000 in
theorem Dh {f:aq} {t:cB} {vf vt:Value} {pat:Int} {h:Heap} {W:View} (hW:W.le (vw h)) (hvf:Rd W vf f) (hvt:Rd W vt t) (hsm:SmF f) (hall : ∀i∈dM f,qT i) (htk:vx t) (hp:I64 pat) :
  az RP 61 #[vf,vt,RG RH pat] h (λu h'=>Dy W h h' u (eh f t pat)):=by
 refine ao (args:=[vf,vt,RG RH pat]) follows Tryz.func61 E.pA RB λK hK=>?_;dsimp only[L.pA,lkF,lkG];have c0:=Cx.start hW;refine aa λz hz=>?_;simp;refine c0.cu rfl hvf λF1 h1 W1 hW1 c1 hat1 hle1=>?_;refine c1.cu rfl (hvt.mono hW1) λT1 h2 W2 hW2 c2 hat2 hle2=>?_;refine c2.bU (k:=(0,0)) (n:=8) (z:=.agg bj.toArray) rfl R1 rfl R4 R8 λR h3 hle3 c3=>?_;subst hz;have hat1:=hat1.mono hW2;obtain⟨va,wt,k0,⟨k1,s1⟩,⟨k2,s2⟩,k3,r1,r2⟩:=HG hat2;have tone:=htk.one;have s1c:=s1.mono c3.wle;have bd:=s1.bound;obtain⟨a1,n1,m1,rfl⟩:=eR s1;obtain⟨a2,n2,m2,rfl⟩:=eR s2;have k0c:=ae c3.wle k0;have k1c:=ae c3.wle k1;have k2c:=ae c3.wle k2;have k3c:=ae c3.wle k3;have fin : ∀(W':View) (h9:Heap) (o:Own) (l9:List Value) (x:FitR),Cx W h W' h9 o->Rd W' (.agg l9.toArray) x->x.ok=(eh f t pat).isSome->(∀y,eh f t pat=RJ y->x.fit=y)->K (.agg l9.toArray) h9:=λW' h9 o l9 x c hr e1 e2=>hK _ _ ⟨c.le0,x,hr.mono c.fin,e1,e2⟩;clear hK;refine aa λz hz=>?_;refine sR ?_;have e1 : ∀a b:Int,¬(pat=a/\t.kind=b)->(decide (pat=a)&&decide (t.kind=b))=false:=λa b hh=>by simpa using hh
 have oneA:t.kind=2\/t.kind=3->0<t.args.length:=λhh=>by have:=tone hh;omega
 have hrB : ∀op:Int,(op=2\/op=6)->0<t.args.length->Rd W2 (.agg #[.slice a1 n1 m1,RL RK 0 0,RL RK 0 0,RG RH op,RG RH (nth t.args 0),RG RH 0,.slice a2 n2 m2,RG RI 0,.bool RN]) (⟨⟨t.args,[],[],⟨op,nth t.args 0,0,t.to,⟨0⟩⟩⟩,RN⟩:FitR):=λop ho hl=>by have a0:=s1.rng (i:=0) hl;exact oZ (ce:=[RG RH op,RG RH (nth t.args 0),RG RH 0,.slice a2 n2 m2,RG RI 0]) s1 aE aE (gO R9 R4 s2)
 by_cases q1:pat=0/\t.kind=1
 ·have er:eh f t pat=RJ ⟨[],[],[],⟨1,0,0,t.to,⟨0⟩⟩⟩:=by unfold eh;rw[if_pos q1]
  have hr:Rd W2 (.agg #[RL RK 0 0,RL RK 0 0,RL RK 0 0,RG RH 1,RG RH 0,RG RH 0,.slice a2 n2 m2,RG RI 0,.bool RN]) (⟨⟨[],[],[],⟨1,0,0,t.to,⟨0⟩⟩⟩,RN⟩:FitR):=oZ (ce:=[RG RH 1,RG RH 0,RG RH 0,.slice a2 n2 m2,RG RI 0]) aE aE aE (gO Sa R4 s2);refine cJ RA (by simp[k0c,q1.1,q1.2]) ?_;simp[k2c];refine ak (z:=.agg #[RG RH 0,RG RH 0,RG RH 0,RL RK 0 0,RG RI 0]) (places:=endP) (vs:=[(0,RG RH 1),(3,.slice a2 n2 m2)]) (cs:=#[RG RH 1,RG RH 0,RG RH 0,.slice a2 n2 m2,RG RI 0]) R1 R1 Sa R1 ?_;refine ak (z:=.agg bj.toArray) (places:=fitP) (vs:=[(3,.agg #[RG RH 1,RG RH 0,RG RH 0,.slice a2 n2 m2,RG RI 0]),(4,.bool RN)]) (cs:=#[RL RK 0 0,RL RK 0 0,RL RK 0 0,RG RH 1,RG RH 0,RG RH 0,.slice a2 n2 m2,RG RI 0,.bool RN]) R1 R1 Sa R1 ?_;refine c3.aK (k:=(0,0)) Own.aj hr rfl rfl R1 Sa Sa λh5 l5 hl5 c5=>?_;simp[c5.all (k:=(0,0)) Own.aj];exact fin _ _ _ _ _ c5 (hl5▸hr) (by rw[er];rfl) (λy hy=>by rw[er]at hy;cases hy;rfl)
 have x1:=e1 0 1 q1;refine cL RA (by simp[k0c,x1]) ?_;by_cases q2:pat=0/\t.kind=4
 ·have er:eh f t pat=RJ ⟨t.args,[],[],⟨7,if t.args=[] then -1 else nth t.args 0,0,[],⟨0⟩⟩⟩:=by unfold eh;rw[if_neg q1,if_pos q2]
  refine cJ RA (by simp[k0c,q2.1,q2.2]) ?_;have hr : ∀a:Int,I64 a->a=(if t.args=[] then -1 else nth t.args 0)->Rd W2 (.agg #[.slice a1 n1 m1,RL RK 0 0,RL RK 0 0,RG RH 7,RG RH a,RG RH 0,RL RK 0 0,RG RI 0,.bool RN]) (⟨⟨t.args,[],[],⟨7,if t.args=[] then -1 else nth t.args 0,0,[],⟨0⟩⟩⟩,RN⟩:FitR):=λa ha e=>by rw[<-e];exact oZ (ce:=[RG RH 7,RG RH a,RG RH 0,RL RK 0 0,RG RI 0]) s1 aE aE (gO (by obtain⟨g1,g2⟩:=ha;simp;omega) R4 aE)
  by_cases hn:t.args=[]
  ·have hl0:t.args.length=0:=by rw[hn];rfl
   have len : ∀K:View,Un.ev K .len (.slice a1 n1 m1)=RJ (RG RH 0):=λK=>by rw[s1.len (K:=K),hl0];rfl
   have hr:=hr (-1) ⟨R4,R4⟩ (by rw[if_pos hn]);simp[k0c,k1c,len];refine ak (z:=.agg #[RG RH 0,RG RH 0,RG RH 0,RL RK 0 0,RG RI 0]) (places:=endP) (vs:=[(0,RG RH 7),(1,RG RH (-1))]) (cs:=#[RG RH 7,RG RH (-1),RG RH 0,RL RK 0 0,RG RI 0]) R1 R1 Sa R1 ?_;refine ak (z:=.agg bj.toArray) (places:=fitP) (vs:=[(0,.slice a1 n1 m1),(3,.agg #[RG RH 7,RG RH (-1),RG RH 0,RL RK 0 0,RG RI 0]),(4,.bool RN)]) (cs:=#[.slice a1 n1 m1,RL RK 0 0,RL RK 0 0,RG RH 7,RG RH (-1),RG RH 0,RL RK 0 0,RG RI 0,.bool RN]) R1 R1 Sa R1 ?_;refine c3.aK (k:=(0,0)) Own.aj hr rfl rfl R1 Sa Sa λh5 l5 hl5 c5=>?_;simp[c5.all (k:=(0,0)) Own.aj];exact fin _ _ _ _ _ c5 (hl5▸hr) (by rw[er];rfl) (λy hy=>by rw[er]at hy;cases hy;rfl)
  have hl0:0<t.args.length:=List.length_pos_iff.2 hn;obtain⟨L,hL,len⟩ : ∃L:Int,0<L/\∀K:View,Un.ev K .len (.slice a1 n1 m1)=RJ (RG RH L):=⟨t.args.length,by omega,λK=>s1.len (K:=K)⟩;have a0:=s1.rng (i:=0) hl0;have hr:=hr (nth t.args 0) a0 (by rw[if_neg hn]);have ix:=s1.idx1 (k:=.i64) (i:=0) rfl R4 R3;have ld:=s1c.int RD (i:=0) hl0;simp at ix ld;simp[k0c,k1c,len,hL,ix,ld];refine ak (z:=.agg #[RG RH 0,RG RH 0,RG RH 0,RL RK 0 0,RG RI 0]) (places:=endP) (vs:=[(0,RG RH 7),(1,RG RH (nth t.args 0))]) (cs:=#[RG RH 7,RG RH (nth t.args 0),RG RH 0,RL RK 0 0,RG RI 0]) R1 R1 Sa R1 ?_;refine ak (z:=.agg bj.toArray) (places:=fitP) (vs:=[(0,.slice a1 n1 m1),(3,.agg #[RG RH 7,RG RH (nth t.args 0),RG RH 0,RL RK 0 0,RG RI 0]),(4,.bool RN)]) (cs:=#[.slice a1 n1 m1,RL RK 0 0,RL RK 0 0,RG RH 7,RG RH (nth t.args 0),RG RH 0,RL RK 0 0,RG RI 0,.bool RN]) R1 R1 Sa R1 ?_;refine c3.aK (k:=(0,0)) Own.aj hr rfl rfl R1 Sa Sa λh5 l5 hl5 c5=>?_;simp[c5.all (k:=(0,0)) Own.aj];exact fin _ _ _ _ _ c5 (hl5▸hr) (by rw[er];rfl) (λy hy=>by rw[er]at hy;cases hy;rfl)
 have x2:=e1 0 4 q2;refine cL RA (by simp[k0c,x2]) ?_;by_cases q3:pat=0/\t.kind=5
 ·have er:eh f t pat=RJ ⟨[],[],[],⟨8,0,0,[],t.imm⟩⟩:=by unfold eh;rw[if_neg q1,if_neg q2,if_pos q3]
  have hr:Rd W2 (.agg #[RL RK 0 0,RL RK 0 0,RL RK 0 0,RG RH 8,RG RH 0,RG RH 0,RL RK 0 0,RG RI t.imm.v,.bool RN]) (⟨⟨[],[],[],⟨8,0,0,[],t.imm⟩⟩,RN⟩:FitR):=oZ (ce:=[RG RH 8,RG RH 0,RG RH 0,RL RK 0 0,RG RI t.imm.v]) aE aE aE (gO Sa ⟨r1,r2⟩ aE);refine cJ RA (by simp[k0c,q3.1,q3.2]) ?_;simp[k3c];refine ak (z:=.agg #[RG RH 0,RG RH 0,RG RH 0,RL RK 0 0,RG RI 0]) (places:=endP) (vs:=[(0,RG RH 8),(4,RG RI t.imm.v)]) (cs:=#[RG RH 8,RG RH 0,RG RH 0,RL RK 0 0,RG RI t.imm.v]) R1 R1 Sa R1 ?_;refine ak (z:=.agg bj.toArray) (places:=fitP) (vs:=[(3,.agg #[RG RH 8,RG RH 0,RG RH 0,RL RK 0 0,RG RI t.imm.v]),(4,.bool RN)]) (cs:=#[RL RK 0 0,RL RK 0 0,RL RK 0 0,RG RH 8,RG RH 0,RG RH 0,RL RK 0 0,RG RI t.imm.v,.bool RN]) R1 R1 Sa R1 ?_;refine c3.aK (k:=(0,0)) Own.aj hr rfl rfl R1 Sa Sa λh5 l5 hl5 c5=>?_;simp[c5.all (k:=(0,0)) Own.aj];exact fin _ _ _ _ _ c5 (hl5▸hr) (by rw[er];rfl) (λy hy=>by rw[er]at hy;cases hy;rfl)
 have x3:=e1 0 5 q3;refine cL RA (by simp[k0c,x3]) ?_;by_cases q4:pat=33/\t.kind=2
 ·have er:eh f t pat=RJ ⟨t.args,[],[],⟨2,nth t.args 0,0,t.to,⟨0⟩⟩⟩:=by unfold eh;rw[if_neg q1,if_neg q2,if_neg q3,if_pos q4]
  have hl:=oneA (.inl q4.2);have hr:=hrB 2 (.inl rfl) hl;have ix:=s1.idx1 (k:=.i64) (i:=0) rfl R4 R3;have ld:=s1.int (View.le_refl W2) (i:=0) hl;simp at ix ld;refine cJ RA (by simp[k0c,q4.1,q4.2]) ?_;refine aa λy hy=>?_;refine aH W2 c3.wle ?_;simp[k1,k2,ix,ld];refine ak (z:=.agg #[RG RH 0,RG RH 0,RG RH 0,RL RK 0 0,RG RI 0]) (places:=endP) (vs:=[(0,RG RH 2),(1,RG RH (nth t.args 0)),(3,.slice a2 n2 m2)]) (cs:=#[RG RH 2,RG RH (nth t.args 0),RG RH 0,.slice a2 n2 m2,RG RI 0]) R1 R1 Sa R1 ?_;refine⟨c3.wle,?_⟩;refine ak (z:=.agg bj.toArray) (places:=fitP) (vs:=[(0,.slice a1 n1 m1),(3,.agg #[RG RH 2,RG RH (nth t.args 0),RG RH 0,.slice a2 n2 m2,RG RI 0]),(4,.bool RN)]) (cs:=#[.slice a1 n1 m1,RL RK 0 0,RL RK 0 0,RG RH 2,RG RH (nth t.args 0),RG RH 0,.slice a2 n2 m2,RG RI 0,.bool RN]) R1 R1 Sa R1 ?_;refine c3.aK (k:=(0,0)) Own.aj hr rfl rfl R1 Sa Sa λh5 l5 hl5 c5=>?_;subst hy;simp[c5.all (k:=(0,0)) Own.aj];exact fin _ _ _ _ _ c5 (hl5▸hr) (by rw[er];rfl) (λy hy=>by rw[er]at hy;cases hy;rfl)
 have x4:=e1 33 2 q4;refine cL RA (by simp[k0c,x4]) ?_;by_cases q5:(34<=pat/\pat<=36)/\t.kind=2
 ·have hl:=oneA (.inl q5.2);have ix:=s1.idx1 (k:=.i64) (i:=0) rfl R4 R3;have ld:=s1.int (View.le_refl W2) (i:=0) hl;simp at ix ld;obtain⟨uf,huf,ruf⟩:=hat1.ldN rfl (N:=2) rfl;have huf:=huf W2 RD;have ew:IntKind.i64.wrap (pat-34)=pat-34:=bh R3 R3;have ew2:IntKind.i64.wrap (pat-34+11)=pat-23:=by rw[bh R3 R3];omega
  have ew3:IntKind.i64.wrap (pat-34+3)=pat-31:=by rw[bh R3 R3];omega
  obtain⟨hs2,hs1⟩:=pa (f:=f) (v:=nth t.args 0) (op:=pat-23);have er:eh f t pat=if(aD f (nth t.args 0) (pat-23)).2 then RJ ⟨(aD f (nth t.args 0) (pat-23)).1.args,t.args,[],⟨pat-31,nth (aD f (nth t.args 0) (pat-23)).1.args 0,nth (aD f (nth t.args 0) (pat-23)).1.args 1,t.to,⟨0⟩⟩⟩ else none:=by unfold eh;rw[if_neg q1,if_neg q2,if_neg q3,if_neg q4,if_pos q5]
  have arg2:(aD f (nth t.args 0) (pat-23)).2=RN->2<=(aD f (nth t.args 0) (pat-23)).1.args.length:=λhb=>by obtain⟨m1,m2,-⟩:=gL hb;exact(hall _ m1).two R3
  refine cJ RA (by simp[k0c,q5.1.1,q5.1.2,q5.2]) ?_;refine aa λy hy=>?_;have rest : ∀(W5:View) (h5:Heap) (o:Own) (S:Nat) (ρ:Env),W2.le W5->Cx W h W5 h5 o->o (0,0)=bx T.aG R (RawN.mk (n:=8) bj)->At W5 ⟨S,0,RK⟩ (cV f (nth t.args 0) (pat-23)).1->Lft.look ρ 2=RJ (RG RH pat)->Lft.look ρ 4=RJ (ptr T1)->Lft.look ρ 6=RJ (ptr R)->Lft.look ρ 8=RJ (ptr S)->Lft.look ρ 9=RJ (.bool (cV f (nth t.args 0) (pat-23)).2)->
    LC.wp RP y (fe 0 (eU (LC.wp RP z (cO [.un (.aZ 9) (.tmp 6)] K)) (cO [.un (.aZ 9) (.tmp 6)] K))) ρ h5:=by
   intro W5 h5 o S ρ hW5 c5 ho hat5 g2 g4 g6 g8 g9;subst hy;refine aa λy hy=>?_;cases hb:(cV f (nth t.args 0) (pat-23)).2 with
   | false=>
    rw[hb]at g9;have er:eh f t pat=none:=by rw[er,<-hs2,hb];rfl
    simp[g6,g9,af,ag];refine ak (z:=.agg bj.toArray) (places:=fitP) (vs:=[]) (cs:=bj.toArray) R1 R1 Sa R1 ?_;have hr:Rd W5 (.agg bj.toArray) (⟨nw,RO⟩:FitR):=gZ;refine c5.aK (k:=(0,0)) ho hr rfl rfl R1 Sa Sa λh6 l6 hl6 c6=>?_;simp[g6,af,ag,c6.all (k:=(0,0)) Own.aj];exact fin _ _ _ _ _ c6 (hl6▸hr) (by rw[er];rfl) (λy hy=>by rw[er]at hy;cases hy)
   | true=>
    rw[hb]at g9;have hf2:(aD f (nth t.args 0) (pat-23)).2=true:=by rw[<-hs2,hb]
    have arg2:=arg2 hf2;rw[hs1 hf2]at hat5;rw[if_pos hf2]at er;generalize (aD f (nth t.args 0) (pat-23)).1=i at hat5 er arg2;obtain⟨-,-,-,vi,j3,si⟩:=fI hat5;obtain⟨a3,n3,m3,rfl⟩:=eR si;simp[g6,g9,af,ag];subst hy;have k1:=ae hW5 k1;have k2:=ae hW5 k2;have jx0:=si.idx1 (k:=.i64) (i:=0) rfl R4 R3;have jd0:=si.int (View.le_refl W5) (i:=0) R3;have jx1:=si.idx1 (k:=.i64) (i:=1) rfl R4 R3;have jd1:=si.int (View.le_refl W5) (i:=1) R3;have b0:=si.rng (i:=0) R3;have b1:=si.rng (i:=1) R3;simp at jx0 jd0 jx1 jd1;have hr:Rd W5 (.agg #[.slice a3 n3 m3,.slice a1 n1 m1,RL RK 0 0,RG RH (pat-31),RG RH (nth i.args 0),RG RH (nth i.args 1),.slice a2 n2 m2,RG RI 0,.bool RN]) (⟨⟨i.args,t.args,[],⟨pat-31,nth i.args 0,nth i.args 1,t.to,⟨0⟩⟩⟩,RN⟩:FitR):=
     oZ (ce:=[RG RH (pat-31),RG RH (nth i.args 0),RG RH (nth i.args 1),.slice a2 n2 m2,RG RI 0]) si (s1.mono hW5) aE (gO R9 R4 (s2.mono hW5));refine aa λy hy=>?_;refine aH W5 c5.wle ?_;simp[g2,g4,g6,g8,af,ag,j3,k1,k2,jx0,jd0,jx1,jd1,ew,ew3];refine ak (z:=.agg #[RG RH 0,RG RH 0,RG RH 0,RL RK 0 0,RG RI 0]) (places:=endP) (vs:=[(0,RG RH (pat-31)),(1,RG RH (nth i.args 0)),(2,RG RH (nth i.args 1)),(3,.slice a2 n2 m2)]) (cs:=#[RG RH (pat-31),RG RH (nth i.args 0),RG RH (nth i.args 1),.slice a2 n2 m2,RG RI 0]) R1 R1 Sa R1 ?_;refine⟨c5.wle,?_⟩;refine ak (z:=.agg bj.toArray) (places:=fitP) (vs:=[(0,.slice a3 n3 m3),(1,.slice a1 n1 m1),(3,.agg #[RG RH (pat-31),RG RH (nth i.args 0),RG RH (nth i.args 1),.slice a2 n2 m2,RG RI 0]),(4,.bool RN)]) (cs:=#[.slice a3 n3 m3,.slice a1 n1 m1,RL RK 0 0,RG RH (pat-31),RG RH (nth i.args 0),RG RH (nth i.args 1),.slice a2 n2 m2,RG RI 0,.bool RN]) R1 R1 Sa R1 ?_;refine c5.aK (k:=(0,0)) ho hr rfl rfl R1 Sa Sa λh6 l6 hl6 c6=>?_;subst hy;simp[g6,af,ag,c6.all (k:=(0,0)) Own.aj];exact fin _ _ _ _ _ c6 (hl6▸hr) (by rw[er];rfl) (λy hy=>by rw[er]at hy;cases hy;rfl)
  clear hy;refine aH W2 c3.wle ?_;refine eg ?_ ?_
  ·refine aw λw hw=>?_;simp[huf,k1,ix,ld,ew,ew2];refine ah R1 (iM c3.wle ruf hsm) ?_;rintro _ h4 ⟨hle4,vi,rfl,hvi⟩;have c4:=c3.ext hle4;subst hw;simp;refine c4.dA (α:=InsD) hvi (n:=5) (z:=.agg insV.toArray) R1 rfl rfl R1 R5 R5 λS h5 W5 hW5 c5 hat5 hle5=>?_;exact rest W5 h5 _ S _ (RE c3.up hW5) c5 Own.aj hat5 rfl rfl rfl rfl rfl
  refine aw λw hw=>?_;simp[huf,k1,ix,ld];refine c3.cZ (k:=(0,5)) (z:=.agg insV.toArray) (d:=eV) RA R1 iN R4 λS h4 hle4 c4=>?_;refine⟨c4.wle,?_⟩;subst hw;refine aw λw hw=>?_;simp[ew,ew2];refine ah R1 (iM c4.wle ruf hsm) ?_;rintro _ h5 ⟨hle5,vi,rfl,hvi⟩;have hW5:=c4.up (h':=h5);have c5:=c4.ext hle5;subst hw;simp;refine c5.cI Part.all (k:=(0,5)) (D:=eV) (d:=(cV f (nth t.args 0) (pat-23)).1) RA R1 Sa Sa hvi λh6 c6=>?_;obtain⟨W6,hW6,c7,hat7⟩:=c6.pj (k:=(0,5)) (B:=S) (d:=(cV f (nth t.args 0) (pat-23)).1) RA;exact rest W6 h6 _ S _ (RE hW5 hW6) c7 RA hat7 rfl rfl rfl rfl rfl
 have x5:(decide (34<=pat)&&decide (pat<=36)&&decide (t.kind=2))=false:=by simpa[and_assoc]using q5
 refine cL RA (by simp[k0c,x5]) ?_;by_cases q6:pat=37/\t.kind=3
 ·have er:eh f t pat=RJ ⟨t.args,[],[],⟨6,nth t.args 0,0,t.to,⟨0⟩⟩⟩:=by unfold eh;rw[if_neg q1,if_neg q2,if_neg q3,if_neg q4,if_neg q5,if_pos q6]
  have hl:=oneA (.inr q6.2);have hr:=hrB 6 (.inr rfl) hl;have ix:=s1.idx1 (k:=.i64) (i:=0) rfl R4 R3;have ld:=s1.int (View.le_refl W2) (i:=0) hl;simp at ix ld;refine cJ RA (by simp[k0c,q6.1,q6.2]) ?_;refine aa λy hy=>?_;refine aH W2 c3.wle ?_;simp[k1,k2,ix,ld];refine ak (z:=.agg #[RG RH 0,RG RH 0,RG RH 0,RL RK 0 0,RG RI 0]) (places:=endP) (vs:=[(0,RG RH 6),(1,RG RH (nth t.args 0)),(3,.slice a2 n2 m2)]) (cs:=#[RG RH 6,RG RH (nth t.args 0),RG RH 0,.slice a2 n2 m2,RG RI 0]) R1 R1 Sa R1 ?_;refine⟨c3.wle,?_⟩;refine ak (z:=.agg bj.toArray) (places:=fitP) (vs:=[(0,.slice a1 n1 m1),(3,.agg #[RG RH 6,RG RH (nth t.args 0),RG RH 0,.slice a2 n2 m2,RG RI 0]),(4,.bool RN)]) (cs:=#[.slice a1 n1 m1,RL RK 0 0,RL RK 0 0,RG RH 6,RG RH (nth t.args 0),RG RH 0,.slice a2 n2 m2,RG RI 0,.bool RN]) R1 R1 Sa R1 ?_;refine c3.aK (k:=(0,0)) Own.aj hr rfl rfl R1 Sa Sa λh5 l5 hl5 c5=>?_;subst hy;simp[c5.all (k:=(0,0)) Own.aj];exact fin _ _ _ _ _ c5 (hl5▸hr) (by rw[er];rfl) (λy hy=>by rw[er]at hy;cases hy;rfl)
 have x6:=e1 37 3 q6;refine cL RA (by simp[k0c,x6]) ?_;have er:eh f t pat=none:=by unfold eh;rw[if_neg q1,if_neg q2,if_neg q3,if_neg q4,if_neg q5,if_neg q6]
 simp;subst hz;simp;refine ak (z:=.agg bj.toArray) (places:=fitP) (vs:=[]) (cs:=bj.toArray) R1 R1 Sa R1 ?_;have hr:Rd W2 (.agg bj.toArray) (⟨nw,RO⟩:FitR):=gZ;refine c3.aK (k:=(0,0)) Own.aj hr rfl rfl R1 Sa Sa λh5 l5 hl5 c5=>?_;simp[c5.all (k:=(0,0)) Own.aj];exact fin _ _ _ _ _ c5 (hl5▸hr) (by rw[er];rfl) (λy hy=>by rw[er]at hy;cases hy)
end Go.Proofs.YtnfiilgdjpdlkaaGreatDoor
namespace Go.Proofs.YtnfiilgdjpdlkaaGreatDoor
open Go Go.Lft
abbrev ma:List Value:=[RG RH 0,RG RH 0,RG RH 0,RG RH 0,RG RH 0,RG RH 0,RG RI 0,RL RK 0 0]
abbrev mchV (o d e a b c i:Int) (s:Value):List Value:=[RG RH o,RG RH d,RG RH e,RG RH a,RG RH b,RG RH c,RG RI i,s]
abbrev nE:List (Nat × Nat):=[(0,1),(1,1),(2,1),(3,1),(4,1),(5,1),(6,1),(7,1)]
def rmO (R OB M:Nat) (out:List Value) (D:aF) (tk cd:Option Lft.Item):Own:=λk=>
 if k=(0,0) then bx T.aG R (RawN.mk (n:=8) bj) else if k=(0,1) then bx T.aG OB (RawN.mk (n:=8) out) else if k=(0,2) then bx T.cU M D
 else if k=(0,3) then tk else if k=(0,4) then cd else RK
section
variable {R OB M:Nat} {out out':List Value} {D D':aF} {tk cd tk':Option Lft.Item}
theorem rV:(rmO R OB M out D tk cd).upd (0,1) (bx T.aG OB (RawN.mk (n:=8) out'))=rmO R OB M out' D tk cd:=by
 funext k;simp only[rmO,Own.upd];split<;>rename_i e
 ·subst e;rfl
 rfl
theorem tG:(rmO R OB M out D tk cd).upd (0,2) (bx T.cU M D')=rmO R OB M out D' tk cd:=by
 funext k;simp only[rmO,Own.upd];split<;>rename_i e
 ·subst e;rfl
 rfl
theorem sr:(rmO R OB M out D tk cd).upd (0,3) tk'=rmO R OB M out D tk' cd:=by
 funext k;simp only[rmO,Own.upd];split<;>rename_i e
 ·subst e;rfl
 rfl
theorem zf:(rmO R OB M out D tk cd).upd (0,4) tk'=rmO R OB M out D tk tk':=by
 funext k;simp only[rmO,Own.upd];split<;>rename_i e
 ·subst e;rfl
 rfl
end
theorem MA{R OB M:Nat}{out:List Value}{D:aF}{tk cd:Option Lft.Item}:(rmO R OB M out D tk cd).upd (0,5) RK=rmO R OB M out D tk cd:=by
 funext k;simp only[Own.upd];split<;>rename_i e
 ·subst e;rfl
 rfl
theorem Dj{f:aq}{v op:Int}(hr : ∀i∈dM f,-2147483648<=i.imm.v/\i.imm.v<=2147483647):-2147483648<=(cV f v op).1.imm.v/\(cV f v op).1.imm.v<=2147483647:=by
 unfold cV;cases hs:qz f v with
 | none=>exact⟨show(-2147483648:Int)<=0 by decide,show(0:Int)<=2147483647 by decide⟩
 | some t=>
  simp only[uV];split
  ·exact⟨show(-2147483648:Int)<=0 by decide,show(0:Int)<=2147483647 by decide⟩
  rename_i c;obtain⟨b,k,hb,hk,-,-,e⟩:=BW hs c;rw[e];exact hr _ (gS.2 ⟨b,k,hb,hk,rfl⟩)
theorem ya{f:aq}{v lo hi:Int}(hr : ∀i∈dM f,-2147483648<=i.imm.v/\i.imm.v<=2147483647):-2147483648<=(lX f v lo hi).1/\(lX f v lo hi).1<=2147483647:=Dj hr
def memD (i:InsD):aF:=if i.op=16 then⟨26,0,0,0,nth i.args 1,0,⟨0⟩,[]⟩ else⟨24,i.dst,0,0,0,0,⟨0⟩,[]⟩
def memE (i:InsD) (way:Nat) (D:aF):aF:=if i.op=16/\2<=way then{ D with op:=27,d:=0,c:=nth i.args 1 } else D
def memL (i:InsD):List Int:=if i.op=16 then[nth i.args 1] else[]
structure D1 (i:InsD) (pl su:Int):Prop where
 ok:i.op=15/\i.args.length=1/\pl=24/\su=25\/i.op=16/\i.args.length=2/\pl=26/\su=27
def memR (f:aq) (i:InsD) (t:Int) (way:Nat):Option FitD:=
 match way with
 | 0=>if inR i.imm.v 0 255 then RJ ⟨[nth i.args 0]++memL i,[],[memE i 0 { memD i with a:=nth i.args 0,imm:=i.imm }],cy⟩ else RK
 | 1=>if(aD f (nth i.args 0) 2).2 then
   if(dz f (nth (aD f (nth i.args 0) 2).1.args 1) (-2147483648) 2147483647).2&&inR ((dz f (nth (aD f (nth i.args 0) 2).1.args 1) (-2147483648) 2147483647).1+i.imm.v) 0 255 then
    RJ ⟨[nth (aD f (nth i.args 0) 2).1.args 0]++memL i,[nth i.args 0,nth (aD f (nth i.args 0) 2).1.args 1],
     [memE i 1 { memD i with a:=nth (aD f (nth i.args 0) 2).1.args 0,imm:=w32 ((dz f (nth (aD f (nth i.args 0) 2).1.args 1) (-2147483648) 2147483647).1+i.imm.v) }],cy⟩
   else RK
  else RK
 | 2=>if(aD f (nth i.args 0) 2).2&&decide (i.imm.v=0) then
   RJ ⟨[nth (aD f (nth i.args 0) 2).1.args 0,nth (aD f (nth i.args 0) 2).1.args 1]++memL i,[nth i.args 0],
    [memE i 2 ⟨25,i.dst,0,nth (aD f (nth i.args 0) 2).1.args 0,nth (aD f (nth i.args 0) 2).1.args 1,0,⟨0⟩,[]⟩],cy⟩
  else RK
 | _=>RJ ⟨[nth i.args 0]++memL i,[],[⟨4,t,0,0,0,0,i.imm,[]⟩,memE i 3 ⟨25,i.dst,0,nth i.args 0,t,0,⟨0⟩,[]⟩],cy⟩
theorem HD{f:aq}{i:InsD}{t pl su:Int}(m:D1 i pl su): ∀way:Nat,way<4->memS f i t i.op pl su way=memR f i t way:=by
 obtain⟨ok⟩:=m;have e1:i.args.drop 1=memL i:=by
  rcases ok with⟨h1,h2,-⟩ | ⟨h1,h2,-⟩
  ·have:¬i.op=16:=by omega
   match i.args,h2 with
   | [a],_=>simp[memL,this]
  unfold memL;rw[if_pos h1];match i.args,h2 with
  | [a,b],_=>rfl
 intro way hw;rcases ok with⟨h1,h2,rfl,rfl⟩ | ⟨h1,h2,rfl,rfl⟩
 ·have h16:¬i.op=16:=by omega
  match way,hw with
  | 0,_=>simp[memS,memR,e1,fY,memE,memD,h1]
  | 1,_=>simp[memS,memR,e1,fY,memE,memD,h1]
  | 2,_=>simp[memS,memR,e1,fY,memE,memD,h1]
  | 3,_=>simp[memS,memR,e1,fY,memE,memD,h1]
 match way,hw with
 | 0,_=>simp[memS,memR,e1,fY,memE,memD,h1]
 | 1,_=>simp[memS,memR,e1,fY,memE,memD,h1]
 | 2,_=>simp[memS,memR,e1,fY,memE,memD,h1]
 | 3,_=>simp[memS,memR,e1,fY,memE,memD,h1]
abbrev outV (tk iv cd:Value) (ok:Bool):List Value:=[tk,iv,cd,RG RH 0,RG RH 0,RG RH 0,RL RK 0 0,RG RI 0,.bool ok]
theorem qM{H:View}{tk iv cd:Value}{l inn:List Int}{cl:List aF}{ok:Bool}(h1:SlRd H tk l)(h2:SlRd H iv inn)(h3:SlRd H cd cl):Rd H (.agg (outV tk iv cd ok).toArray) (⟨⟨l,inn,cl,cy⟩,ok⟩:FitR):=
 oZ (ce:=[RG RH 0,RG RH 0,RG RH 0,RL RK 0 0,RG RI 0]) h1 h2 h3 (gO Sa R4 aE)
variable{W:View}
set_option maxHeartbeats 4000000 in
theorem tu{f:aq}{i:InsD}{vf vi:Value}{way:Nat}{t pl su:Int}{h:Heap}(hW:W.le (vw h))(hvf:Rd W vf f)(hvi:Rd W vi i)(hsm:SmF f)(hall : ∀i∈dM f,qT i)(hr : ∀i∈dM f,-2147483648<=i.imm.v/\i.imm.v<=2147483647)(mo:D1 i pl su)(hw:way<4)(ht:I64 t):
  az RP 98 #[vf,vi,RG RH way,RG RH t] h (λu h'=>Dy W h h' u (memS f i t i.op pl su way)):=by
 refine ao (args:=[vf,vi,RG RH way,RG RH t]) follows Tryz.func98 E.gm RB λK hK=>?_;dsimp only[L.gm,lkF,lkG];rw[HD mo way hw]at hK;obtain⟨ok⟩:=mo;have c0:=Cx.start hW;refine aa λz hz=>?_;simp;refine c0.cu rfl hvf λF1 h1 W1 hW1 c1 hat1 hle1=>?_;refine c1.cu rfl (hvi.mono hW1) λI1 h2 W2 hW2 c2 hat2 hle2=>?_;refine c2.bU (k:=(0,0)) (n:=8) (z:=.agg bj.toArray) rfl R1 rfl R4 R8 λR h3 hle3 c3=>?_;subst hz;refine aa λz hz=>?_;simp;refine ak (z:=.agg bj.toArray) (places:=fitP) (vs:=[]) (cs:=bj.toArray) R1 R1 Sa R1 ?_;refine c3.bU (k:=(0,1)) (n:=8) (z:=.agg bj.toArray) RA R1 rfl R4 R8 λOB h4 hle4 c4=>?_;refine c4.iR (k:=(0,1)) (n:=8) (l':=bj) RA R1 Sa Sa rfl R7 λh5 c5=>?_;subst hz;have hat1:=hat1.mono hW2;obtain⟨i0,i1,-,va,i3,si⟩:=fI hat2;have i3:an W2 ⟨I1,3,RK⟩=RJ va:=i3;have i4:=hat2.part InsD.gx;have r4:=i4.mP;have i4:an W2 ⟨I1,4,RK⟩=RJ (RG RI i.imm.v):=by simpa using i4.i32
 have r1:=(hat2.part InsD.iB).rng;have l1:1<=i.args.length:=by omega
 have l2:i.op=16->2<=i.args.length:=by omega
 obtain⟨uf,huf,ruf⟩:=hat1.ldN rfl (N:=2) rfl;have huf:=huf W2 RD;have q0:=si.idx1 (k:=.i64) (i:=0) rfl R4 R3;have d0:=si.int (View.le_refl W2) (i:=0) R3;have a0:=si.rng (i:=0) R3;simp at q0 d0;have s1:i.op=16->Bn.ev (.idx 1) va (RG RH 1)=RJ (RM (RJ ((slA va).add 1)))/\an W2 ((slA va).add 1)=RJ (RG RH (nth i.args 1))/\I64 (nth i.args 1):=λh16=>by have:=l2 h16;have q1:=si.idx1 (k:=.i64) (i:=1) rfl R4 R3;have d1:=si.int (View.le_refl W2) (i:=1) R3;simp at q1 d1;exact⟨q1,by simpa using d1,si.rng (i:=1) R3⟩
 refine aa λzA hzA=>?_;simp[ae c5.wle i1];refine ak (z:=.agg ma.toArray) (places:=nE) (vs:=[(0,RG RH 24),(1,RG RH i.dst)]) (cs:=(mchV 24 i.dst 0 0 0 0 0 (RL RK 0 0)).toArray) R1 R1 Sa R1 ?_;have rm0 : ∀X,Rd X (.agg ma.toArray) (⟨0,0,0,0,0,0,⟨0⟩,[]⟩:aF):=λX=>dT (imm:=⟨0⟩) Sa Sa aE;refine c5.cZ (k:=(0,2)) (z:=.agg ma.toArray) (d:=(⟨0,0,0,0,0,0,⟨0⟩,[]⟩:aF)) RA R1 (rm0 _) R4 λM h6 hle6 c6=>?_;have rm1 : ∀X,Rd X (.agg (mchV 24 i.dst 0 0 0 0 0 (RL RK 0 0)).toArray) (⟨24,i.dst,0,0,0,0,⟨0⟩,[]⟩:aF):=λX=>dT (imm:=⟨0⟩) R9 Sa aE;refine c6.cI Part.all (k:=(0,2)) (D:=(⟨0,0,0,0,0,0,⟨0⟩,[]⟩:aF)) (d:=(⟨24,i.dst,0,0,0,0,⟨0⟩,[]⟩:aF)) RA R1 Sa Sa (rm1 _) λh7 c7=>?_;rw[hzA];clear hzA zA;refine aa λzB hzB=>?_;have restB : ∀(h8:Heap) (ρ:Env),Cx W h W2 h8 (rmO R OB M bj (memD i) RK RK)->Slk ρ [(2,RG RH way),(3,RG RH t),(4,ptr F1),(5,ptr I1),(8,ptr R),(9,ptr OB),(10,ptr M)]->LC.wp RP zB (cO [.un (.aZ 9) (.tmp 8)] K) ρ h8:=by
  intro h8 ρ c8 hL;rw[hzB];clear hzB zB;refine aa λzC hzC=>?_;have g:=hL;simp only[bn,bS,and_true]at g;obtain⟨g2,g3,g4,g5,g8,g9,g10⟩:=g;have restC : ∀(W5:View) (h9:Heap) (ρ:Env) (S:Nat),W2.le W5->Cx W h W5 h9 (rmO R OB M bj (memD i) RK RK)->At W5 ⟨S,0,RK⟩ (cV f (nth i.args 0) 2).1->Slk ρ [(2,RG RH way),(3,RG RH t),(4,ptr F1),(5,ptr I1),(8,ptr R),(9,ptr OB),(10,ptr M),(11,ptr S),(12,.bool (cV f (nth i.args 0) 2).2)]->
    LC.wp RP zC (cO [.un (.aZ 9) (.tmp 8)] K) ρ h9:=by
   clear c8 hL g2 g3 g4 g5 g8 g9 g10;intro W5 h9 ρ S hW5 c9 hatS hL;rw[hzC];clear hzC zC;refine aa λzD hzD=>?_;have restD : ∀(W6:View) (h10:Heap) (ρ:Env) (D:aF) (l inn:List Int) (cl:List aF) (tk iv cd:Value) (okb:Bool),W5.le W6->Cx W h W6 h10 (rmO R OB M (outV tk iv cd okb) D (it T.int tk l) (it T.cU cd cl))->l.length<=5->cl.length<=5->SlRd W6 iv inn->
     okb=(memR f i t way).isSome->(∀y,memR f i t way=RJ y->(⟨l++memL i,inn,cl++[memE i way D],cy⟩:FitD)=y)->Slk ρ [(2,RG RH way),(5,ptr I1),(8,ptr R),(9,ptr OB),(10,ptr M)]->LC.wp RP zD (cO [.un (.aZ 9) (.tmp 8)] K) ρ h10:=by
    clear c9 hL;intro W6 h10 ρ D l inn cl tk iv cd okb hW6 c10 hl hcl hiv hok hy2 hL;rw[hzD];clear hzD zD;refine aa λzE hzE=>?_;have restE : ∀(W7:View) (h11:Heap) (ρ:Env) (D:aF) (l:List Int) (tk:Value),W6.le W7->Cx W h W7 h11 (rmO R OB M (outV tk iv cd okb) D (it T.int tk l) (it T.cU cd cl))->l.length<=10->
      (∀y,memR f i t way=RJ y->(⟨l,inn,cl++[D],cy⟩:FitD)=y)->Slk ρ [(8,ptr R),(9,ptr OB),(10,ptr M)]->LC.wp RP zE (cO [.un (.aZ 9) (.tmp 8)] K) ρ h11:=by clear c10 hL hl hy2;intro W7 h11 ρ D l tk hW7 c11 hl hy2 hL;simp only[bn,bS,and_true]at hL;obtain⟨g8,g9,g10⟩:=hL;rw[hzE];clear hzE zE;refine aa λzF hzF=>?_;have hcd:=c11.own.raw (k:=(0,1)) (n:=8) (e:=T.aG) (B:=OB) (l:=outV tk iv cd okb) RA (i:=2) R4;simp only[List.getD_cons_succ,QV]at hcd;obtain⟨um,hum,rum⟩:=c11.GI (k:=(0,2)) (e:=T.cU) (B:=M) (d:=D) RA rfl (N:=8) rfl;simp[g8,g9,g10,af,ag,hcd,hum];refine c11.ez (α:=aF) (n:=1) (vs:=[um]) (ds:=[D]) El.cW Sa ⟨rum,trivial⟩ rfl R4 R4 λu12 h12 W12 hW12 c12 s12 hle12=>?_;refine dU (α:=aF) (v:=cd) (u:=u12) (l:=cl) (l2:=[D]) El.cW Sa Sa (c12.own.get (k:=(0,4)) RA) (s12.src c12.wle) R9 R9 λv13 h13 o13 mv13=>?_;have c13:=c12.iH (k:=(0,4)) RA o13 mv13;rw[zf]at c13;obtain⟨W14,hW14,c14,s14⟩:=c13.freeze (k:=(0,4)) (v:=v13) RA;rw[zf]at c14;obtain⟨a9,n9,k9,rfl⟩:=eR s14;refine c14.dB (k:=(0,1)) (n:=8) (i:=2) (u:=.slice a9 n9 k9) (e:=T.aG) (B:=OB) (l:=outV tk iv cd okb) RA R4 R1 Sa Sa rfl λh15 c15=>?_;rw[rV]at c15;have c15:Cx W h W14 h15 (rmO R OB M (outV tk iv (.slice a9 n9 k9) okb) D (it T.int tk l) RK):=c15;obtain⟨W16,hW16,c16,s16⟩:=c15.freeze (k:=(0,3)) (v:=tk) (l:=l) RA;rw[sr]at c16;rw[hzF];clear hzF zF;have hall:=c16.all (k:=(0,1)) (n:=8) (B:=OB) (e:=T.aG) (l:=outV tk iv (.slice a9 n9 k9) okb) RA;simp at hall;simp[g8,g9,af,ag,hall];have hfit:Rd W16 (.agg (outV tk iv (.slice a9 n9 k9) okb).toArray) (⟨⟨l,inn,cl++[D],cy⟩,okb⟩:FitR):=qM s16 (hiv.mono (RE hW7 (RE hW12 (RE hW14 hW16)))) (s14.mono hW16);refine c16.aK (k:=(0,0)) (n:=8) (l:=bj) RA hfit rfl rfl R1 Sa Sa λh17 l17 hl17 c17=>?_;have hall2:=c17.all (k:=(0,0)) (n:=8) (l:=l17) (B:=R) (e:=T.aG) Own.aj;simp at hall2;simp[g8,af,ag,hall2];refine hK _ _ ⟨c17.le0,_,(hl17▸hfit).mono c17.fin,hok,hy2⟩
    have le2:W2.le (vw h10):=RE hW5 (RE hW6 c10.wle);have g:=hL;simp only[bn,bS,and_true]at g;obtain⟨g2,g5,g8,g9,g10⟩:=g;by_cases h16:i.op=16
    ·obtain⟨q1,d1,b1⟩:=s1 h16;have d1:=ae le2 d1;have i3c:=ae le2 i3;refine dh [(2,RG RH way),(5,ptr I1),(8,ptr R),(9,ptr OB),(10,ptr M)] RN hL RA (by simp[g5,ae le2 i0,h16]) λρ' hL'=>?_;simp only[cond_true];clear g2 g5 g8 g9 g10 hL;have g:=hL';simp only[bn,bS,and_true]at g;obtain⟨g2,g5,g8,g9,g10⟩:=g;refine aa λzG hzG=>?_;have htk:=c10.own.raw (k:=(0,1)) (n:=8) (e:=T.aG) (B:=OB) (l:=outV tk iv cd okb) RA (i:=0) R4;simp only[QV]at htk;refine aH (vw h10) RD ?_;refine aw λy hy=>?_;simp[g5,g9,htk,i3c,q1,d1];refine c10.ez (α:=Int) (n:=1) (vs:=[RG RH (nth i.args 1)]) (ds:=[nth i.args 1]) El.aQ Sa ⟨bg.2 ⟨rfl,b1⟩,trivial⟩ rfl R4 R4 λu12 h12 W12 hW12 c12 s12 hle12=>?_;refine⟨hle12,?_⟩;subst hy;refine aw λy hy=>?_;simp[af,ag];refine dU (α:=Int) (v:=tk) (u:=u12) (l:=l) (l2:=[nth i.args 1]) El.aQ Sa Sa (c12.own.get (k:=(0,3)) RA) (s12.src c12.wle) R9 R9 λv13 h13 o13 mv13=>?_;have c13:=c12.iH (k:=(0,3)) RA o13 mv13;rw[sr]at c13;subst hy;have one13:v13.oneCell'=true:=(c13.own.cells (k:=(0,3)) (v:=v13) RA).2;simp[af,ag,g9];refine c13.dB (k:=(0,1)) (n:=8) (i:=0) (u:=v13) (e:=T.aG) (B:=OB) (l:=outV tk iv cd okb) RA R4 R1 Sa Sa one13 λh15 c15=>?_;rw[rV]at c15;have c15:Cx W h W12 h15 (rmO R OB M (outV v13 iv cd okb) D (it T.int v13 (l++[nth i.args 1])) (it T.cU cd cl)):=c15;rw[hzG];clear hzG zG;have eL:memL i=[nth i.args 1]:=by unfold memL;rw[if_pos h16]
     rw[eL]at hy2;have le15:W2.le (vw h15):=RE hW5 (RE hW6 (RE hW12 c15.wle));have hLa : ∀ρ2:Env,(∀k,k=2\/k=5\/k=8\/k=9\/k=10->Lft.look ρ2 k=Lft.look ρ' k)->Slk ρ2 [(2,RG RH way),(5,ptr I1),(8,ptr R),(9,ptr OB),(10,ptr M)]:=λρ2 hh=>by simp only[bn,bS,and_true];exact⟨(hh 2 Sa).trans g2,(hh 5 Sa).trans g5,(hh 8 Sa).trans g8,(hh 9 Sa).trans g9,(hh 10 Sa).trans g10⟩
     by_cases w2:2<=way
     ·have hE:memE i way D={ D with op:=27,d:=0,c:=nth i.args 1 }:=by unfold memE;rw[if_pos ⟨h16,w2⟩]
      rw[hE]at hy2;refine dh [(2,RG RH way),(5,ptr I1),(8,ptr R),(9,ptr OB),(10,ptr M)] RN (hLa _ λk hk=>?_) RA ?_ λρ3 hL3=>?_
      ·rcases hk with rfl | rfl | rfl | rfl | rfl<;>simp[af,ag]
      ·have:(2:Int)<=way:=by omega
       simp[af,ag,g2,this]
      simp only[cond_true];simp only[bn,bS,and_true]at hL3;obtain⟨m2,m5,m8,m9,m10⟩:=hL3;refine aa λzH hzH=>?_;simp[m10];refine c15.cI aF.tN (k:=(0,2)) (D:=D) (d:=(27:Int)) RA R1 Sa Sa (bg.2 ⟨rfl,by decide,by decide⟩) λhq c16=>?_;rw[tG]at c16;rw[hzH];clear hzH zH;refine aa λzH hzH=>?_;simp[m10,af,ag];refine c16.cI aF.MY (k:=(0,2)) (D:={ D with op:=27 }) (d:=(0:Int)) RA R1 Sa Sa (bg.2 ⟨rfl,by decide,by decide⟩) λh17 c17=>?_;rw[tG]at c17;rw[hzH];clear hzH zH;have le17:W2.le (vw h17):=RE hW5 (RE hW6 (RE hW12 c17.wle));simp[m10,m5,af,ag,ae le17 i3,q1,ae le17 (s1 h16).2.1];refine c17.cI aF.MX (k:=(0,2)) (D:={ D with op:=27,d:=0 }) (d:=nth i.args 1) RA R1 Sa Sa (bg.2 ⟨rfl,(s1 h16).2.2⟩) λh18 c18=>?_;rw[tG]at c18;refine restE W12 h18 _ { D with op:=27,d:=0,c:=nth i.args 1 } (l++[nth i.args 1]) v13 hW12 c18 R9 hy2 ?_;simp[bn,bS,af,ag,m8,m9,m10]
     have eE:memE i way D=D:=by unfold memE;rw[if_neg λc=>w2 c.2]
     rw[eE]at hy2;refine dh [(2,RG RH way),(5,ptr I1),(8,ptr R),(9,ptr OB),(10,ptr M)] RO (hLa _ λk hk=>?_) RA ?_ λρ3 hL3=>?_
     ·rcases hk with rfl | rfl | rfl | rfl | rfl<;>simp[af,ag]
     ·have:¬(2:Int)<=way:=by omega
      simp[af,ag,g2,this]
     simp only[bn,bS,and_true]at hL3;obtain⟨m2,m5,m8,m9,m10⟩:=hL3;simp;refine restE W12 h15 _ D (l++[nth i.args 1]) v13 hW12 c15 R9 hy2 ?_;simp[bn,bS,af,ag,m8,m9,m10]
    have eE:memE i way D=D:=by unfold memE;rw[if_neg λc=>h16 c.1]
    have eL:memL i=[]:=by unfold memL;rw[if_neg h16]
    rw[eE,eL,Pn]at hy2;refine dh [(8,ptr R),(9,ptr OB),(10,ptr M)] RO (by simp only[bn,bS,and_true];exact⟨g8,g9,g10⟩) RA (by simp[g5,ae le2 i0,h16]) λρ' hL'=>?_;simp;exact restE W6 h10 ρ' D l tk RD c10 R3 hy2 hL'
   have le2:W2.le (vw h9):=RE hW5 c9.wle;refine H0 [(2,RG RH way),(3,RG RH t),(4,ptr F1),(5,ptr I1),(8,ptr R),(9,ptr OB),(10,ptr M),(11,ptr S),(12,.bool (cV f (nth i.args 0) 2).2)] (RG RH way) hL RA (by have:=hL (2,RG RH way) Sa;simp at this;simp[this]) λρ1 hL1=>?_;clear hL;refine sR ?_;obtain⟨hs2,hs1⟩:=pa (f:=f) (v:=nth i.args 0) (op:=2);have c9n:Cx W h W5 h9 (rmO R OB M bj (memD i) RK (it T.cU (RL RK 0 0) ([]:List aF))):=by have:=c9.add (k:=(0,4)) (e:=T.cU) (v:=RL RK 0 0) (l:=([]:List aF)) RA (OwnT.nil _ _ _) RD (λb hb=>by cases hb);rwa [zf]at this
   match way,hw with
   | 0,_=>
    have g36:=hL1 (36,RG RH 0) Sa;refine dh _ RN hL1 RA (by simp at g36;simp[g36]) λρ2 hL2=>?_;simp only[cond_true];clear hL1;have g:=hL2;simp only[bn,bS,and_true]at g;obtain⟨g36,g2,g3,g4,g5,g8,g9,g10,g11,g12⟩:=g;have i3c:=ae le2 i3;have d0c:=ae le2 d0;refine aa λy hy=>?_;simp[g5,g10,i3c,q0,d0c];refine c9n.cI aF.Ks (k:=(0,2)) (D:=memD i) (d:=nth i.args 0) RA R1 Sa Sa (bg.2 ⟨rfl,a0⟩) λh10 c10=>?_;rw[tG]at c10;subst hy;refine aa λy hy=>?_;have i4c:=ae (RE hW5 c10.wle) i4;simp[g5,g10,af,ag,i4c];refine c10.cI aF.gx (k:=(0,2)) (D:={ memD i with a:=nth i.args 0 }) (d:=i.imm) RA R1 Sa Sa (uo.2 ⟨rfl,r4⟩) λh11 c11=>?_;rw[tG]at c11;subst hy;have le11:=RE hW5 c11.wle;refine aH (vw h11) RD ?_;refine aw λy hy=>?_;simp[g5,af,ag,ae le11 i3,ae le11 i4,q0,ae le11 d0];refine c11.jK (k:=(0,3)) (n:=1) (l:=[nth i.args 0]) RA El.aQ Sa (by simp;exact a0) rfl R4 λu12 h12 hle12 c12=>?_;rw[sr]at c12;obtain⟨a9,n9,k9,rfl⟩:=eR (c12.own.now (k:=(0,3)) (v:=u12) RA);refine⟨hle12,?_⟩;subst hy;refine aw λy hy=>?_;simp[af,ag];refine ak (z:=.agg bj.toArray) (places:=fitP) (vs:=[(0,.slice a9 n9 k9),(4,.bool (decide (0<=i.imm.v)&&decide (i.imm.v<=255)))]) (cs:=(outV (.slice a9 n9 k9) (RL RK 0 0) (RL RK 0 0) (decide (0<=i.imm.v)&&decide (i.imm.v<=255))).toArray) R1 R1 Sa R1 ?_;subst hy;refine aw λy hy=>?_;simp[af,ag,g9];refine c12.iR (k:=(0,1)) (n:=8) (l:=bj) (l':=outV (.slice a9 n9 k9) (RL RK 0 0) (RL RK 0 0) (decide (0<=i.imm.v)&&decide (i.imm.v<=255))) RA R1 Sa Sa rfl R7 λh13 c13=>?_;rw[rV]at c13;subst hy;simp;refine restD W5 h13 _ { memD i with a:=nth i.args 0,imm:=i.imm } [nth i.args 0] [] [] _ _ _ (decide (0<=i.imm.v)&&decide (i.imm.v<=255)) RD c13 Sa Sa aE ?_ ?_ ?_
    ·show inR i.imm.v 0 255=_;unfold memR;cases inR i.imm.v 0 255<;>rfl
    ·intro y hy;simp only[memR]at hy;split at hy<;>cases hy;rfl
    simp[bn,bS,af,ag,g2,g5,g8,g9,g10]
   | 1,_=>
    have g36:=hL1 (36,RG RH 1) Sa;refine dh _ RO hL1 RA (by simp at g36;simp[g36]) λρ2 hL2=>?_;simp only[cond_false];clear hL1;have g36:=hL2 (36,RG RH 1) Sa;refine dh _ RN hL2 RA (by simp at g36;simp[g36]) λρ3 hL3=>?_;simp only[cond_true];clear hL2;have g:=hL3;simp only[bn,bS,and_true]at g;obtain⟨g36,g2,g3,g4,g5,g8,g9,g10,g11,g12⟩:=g;refine aa λy hy=>?_;cases hb:(cV f (nth i.args 0) 2).2 with
    | false=>
     rw[hb]at g12 hL3;have hmR:memR f i t 1=none:=by simp only[memR];rw[<-hs2,hb];rfl
     refine dh _ RN hL3 RA (by simp[g12]) λρ5 hL5=>?_;simp only[cond_true];simp only[bn,bS,and_true]at hL5;obtain⟨g36,g2,g3,g4,g5,g8,g9,g10,g11,g12⟩:=hL5;have hall0:=c9.all (k:=(0,1)) (n:=8) (B:=OB) (e:=T.aG) (l:=bj) RA;simp at hall0;simp[g8,g9,af,ag,hall0];refine c9.aK (k:=(0,0)) (n:=8) (l:=bj) RA (gZ (H:=W5)) rfl rfl R1 Sa Sa λh13 l13 hl13 c13=>?_;have hall2:=c13.all (k:=(0,0)) (n:=8) (l:=l13) (B:=R) (e:=T.aG) Own.aj;simp at hall2;simp[g8,af,ag,hall2];refine hK _ _ ⟨c13.le0,⟨nw,RO⟩,(hl13▸(gZ (H:=W5))).mono c13.fin,?_,?_⟩
     ·rw[hmR];rfl
     intro y hy;rw[hmR]at hy;cases hy
    | true=>
     rw[hb]at g12 hL3;have hf2:(aD f (nth i.args 0) 2).2=true:=by rw[<-hs2,hb]
     rw[hs1 hf2]at hatS;refine dh _ RO hL3 RA (by simp[g12]) λρ5 hL5=>?_;simp only[cond_false];simp only[bn,bS,and_true]at hL5;clear g36 g2 g3 g4 g5 g8 g9 g10 g11 g12 hL3;obtain⟨g36,g2,g3,g4,g5,g8,g9,g10,g11,g12⟩:=hL5;simp;subst hy;have hmR:memR f i t 1=if(dz f (nth (aD f (nth i.args 0) 2).1.args 1) (-2147483648) 2147483647).2&&inR ((dz f (nth (aD f (nth i.args 0) 2).1.args 1) (-2147483648) 2147483647).1+i.imm.v) 0 255 then
    RJ ⟨[nth (aD f (nth i.args 0) 2).1.args 0]++memL i,[nth i.args 0,nth (aD f (nth i.args 0) 2).1.args 1],
     [memE i 1 { memD i with a:=nth (aD f (nth i.args 0) 2).1.args 0,imm:=w32 ((dz f (nth (aD f (nth i.args 0) 2).1.args 1) (-2147483648) 2147483647).1+i.imm.v) }],cy⟩
   else none:=by simp only[memR];rw[if_pos hf2]
     obtain⟨-,-,-,vs,j3,ss⟩:=fI hatS
     have j3:an W5 ⟨S,3,RK⟩=RJ vs:=j3
     obtain⟨m1,m2,-⟩:=gL hf2
     have la:=(hall _ m1).two R3
     have jx0:=ss.idx1 (k:=.i64) (i:=0) rfl R4 R3
     have jd0:=ss.int (View.le_refl W5) (i:=0) R3
     have jx1:=ss.idx1 (k:=.i64) (i:=1) rfl R4 R3
     have jd1:=ss.int (View.le_refl W5) (i:=1) R3
     have b0:=ss.rng (i:=0) R3
     have b1:=ss.rng (i:=1) R3
     simp at jx0 jd0 jx1 jd1
     generalize (aD f (nth i.args 0) 2).1=s at *
     obtain⟨cs2,cs1⟩:=xO (f:=f) (v:=nth s.args 1) (lo:=-2147483648) (hi:=2147483647)
     have crng:=ya (f:=f) (v:=nth s.args 1) (lo:=-2147483648) (hi:=2147483647) hr
     refine aa λy hy=>?_
     refine aH W5 c9n.wle ?_
     have huf5:=(hat1.ldN rfl (N:=2) rfl)
     simp[g4,g11,j3,jx1,jd1,Un.dk hW5 huf]
     refine ah R1 (vO c9n.wle (ruf.mono hW5) hsm) ?_
     rintro _ h10 ⟨hle10,rfl⟩
     simp[af,ag]
     have c10:=c9n.ext hle10
     have hW10:=c9n.up (h':=h10)
     subst hy
     obtain⟨kc,hkc⟩ : ∃kc,kc=lX f (nth s.args 1) (-2147483648) 2147483647:=⟨_,rfl⟩
     rw[<-hkc]at cs1 cs2 crng ⊢
     have le10:=RE hW5 (RE hW10 c10.wle)
     have le10s:=RE hW10 c10.wle
     refine aa λy hy=>?_
     simp[g10,g11,af,ag,ae le10s j3,jx0,ae le10s jd0]
     refine c10.cI aF.Ks (k:=(0,2)) (D:=memD i) (d:=nth s.args 0) RA R1 Sa Sa (bg.2 ⟨rfl,b0⟩) λh11 c11=>?_
     rw[tG]at c11
     subst hy
     have ew:IntKind.i64.wrap i.imm.v=i.imm.v:=bh R3 R3
     have ew2:IntKind.i64.wrap (kc.1+i.imm.v)=kc.1+i.imm.v:=bh R3 R3
     refine aa λy hy=>?_
     have le11:=RE hW5 (RE hW10 c11.wle)
     simp[g5,g10,af,ag,ae le11 i4,ew,ew2]
     refine c11.cI aF.gx (k:=(0,2)) (D:={ memD i with a:=nth s.args 0 }) (d:=w32 (kc.1+i.imm.v)) RA R1 Sa (by simp[w32]) (uo.2 ⟨rfl,wZ _⟩) λh12 c12=>?_
     rw[tG]at c12
     subst hy
     have le12:=RE hW5 (RE hW10 c12.wle)
     have le12s:=RE hW10 c12.wle
     have e1:kc.2=RN->kc.1=(dz f (nth s.args 1) (-2147483648) 2147483647).1:=λe=>cs1 (by rw[<-cs2];exact e)
     have last : ∀(W14:View) (h14:Heap) (ρ:Env) (u14 iv:Value),W5.le W14->Cx W h W14 h14 (rmO R OB M (outV u14 iv (RL RK 0 0) (kc.2&&decide (0<=kc.1+i.imm.v)&&decide (kc.1+i.imm.v<=255))) { memD i with a:=nth s.args 0,imm:=w32 (kc.1+i.imm.v) } (it T.int u14 [nth s.args 0]) (it T.cU (RL RK 0 0) ([]:List aF)))->SlRd W14 iv [nth i.args 0,nth s.args 1]->
       Slk ρ [(2,RG RH 1),(5,ptr I1),(8,ptr R),(9,ptr OB),(10,ptr M)]->LC.wp RP zD (cO [.un (.aZ 9) (.tmp 8)] K) ρ h14:=λW14 h14 ρ u14 iv hW14 c14 hiv hL=>by
      refine restD W14 h14 ρ { memD i with a:=nth s.args 0,imm:=w32 (kc.1+i.imm.v) } [nth s.args 0] [nth i.args 0,nth s.args 1] [] _ _ _ _ hW14 c14 Sa Sa hiv ?_ ?_ hL
      ·rw[hmR,<-cs2];cases hk:kc.2 with
       | false=>rfl
       | true=>rw[Pj,Pj,<-e1 hk];show inR _ 0 255=_;cases inR (kc.1+i.imm.v) 0 255<;>rfl
      intro y hy;rw[hmR]at hy;split at hy
      ·rename_i c;rw[NS,<-cs2]at c;rw[<-e1 c.1]at hy;cases hy;rfl
      cases hy
     clear hmR
     refine aH (vw h12) RD ?_
     have jj3:=ae le12s j3
     have jj0:=ae le12s jd0
     have jj1:=ae le12s jd1
     have ii3:=ae le12 i3
     have ii4:=ae le12 i4
     have dd0:=ae le12 d0
     refine eg ?_ ?_
     ·refine aw λy hy=>?_
      simp[g5,g11,af,ag,jj3,jj0,jj1,jx0,jx1,ii3,ii4,q0,dd0,ew,ew2]
      refine c12.jK (k:=(0,3)) (n:=1) (l:=[nth s.args 0]) RA El.aQ Sa (by simp;exact b0) rfl R4 λu13 h13 hle13 c13=>?_
      rw[sr]at c13
      obtain⟨a9,n9,k9,rfl⟩:=eR (c13.own.now (k:=(0,3)) (v:=u13) RA)
      refine⟨hle13,?_⟩
      subst hy
      refine aw λy hy=>?_
      simp[af,ag]
      refine c13.ez (α:=Int) (n:=2) (vs:=[RG RH (nth i.args 0),RG RH (nth s.args 1)]) (ds:=[nth i.args 0,nth s.args 1]) El.aQ Sa ⟨bg.2 ⟨rfl,a0⟩,bg.2 ⟨rfl,b1⟩,trivial⟩ rfl R4 R4 λu14 h14 W14 hW14 c14 s14 hle14=>?_
      obtain⟨a8,n8,k8,rfl⟩:=eR s14
      refine⟨RE hle13 hle14,?_⟩
      subst hy
      refine aw λy hy=>?_
      simp[af,ag]
      refine ak (z:=.agg bj.toArray) (places:=fitP) (vs:=[(0,.slice a9 n9 k9),(1,.slice a8 n8 k8),(4,.bool (kc.2&&decide (0<=kc.1+i.imm.v)&&decide (kc.1+i.imm.v<=255)))]) (cs:=(outV (.slice a9 n9 k9) (.slice a8 n8 k8) (RL RK 0 0) (kc.2&&decide (0<=kc.1+i.imm.v)&&decide (kc.1+i.imm.v<=255))).toArray) R1 R1 Sa R1 ?_
      subst hy
      refine aw λy hy=>?_
      simp[af,ag,g9]
      refine c14.iR (k:=(0,1)) (n:=8) (l:=bj) (l':=outV (.slice a9 n9 k9) (.slice a8 n8 k8) (RL RK 0 0) (kc.2&&decide (0<=kc.1+i.imm.v)&&decide (kc.1+i.imm.v<=255))) RA R1 Sa Sa rfl R7 λh15 c15=>?_
      rw[rV]at c15
      subst hy
      simp
      refine last W14 h15 _ _ _ (RE hW10 hW14) c15 s14 ?_
      simp[bn,bS,af,ag,g2,g5,g8,g9,g10]
     ·refine aw λy hy=>?_
      simp[g5,g11,af,ag,jj3,jj0,jj1,jx0,jx1,ii3,ii4,q0,dd0,ew,ew2]
      refine c12.ez (α:=Int) (n:=2) (vs:=[RG RH (nth i.args 0),RG RH (nth s.args 1)]) (ds:=[nth i.args 0,nth s.args 1]) El.aQ Sa ⟨bg.2 ⟨rfl,a0⟩,bg.2 ⟨rfl,b1⟩,trivial⟩ rfl R4 R4 λu13 h13 W13 hW13 c13 s13 hle13=>?_
      obtain⟨a8,n8,k8,rfl⟩:=eR s13
      refine⟨hle13,?_⟩
      subst hy
      refine aw λy hy=>?_
      simp[af,ag]
      refine c13.jK (k:=(0,3)) (n:=1) (l:=[nth s.args 0]) RA El.aQ Sa (by simp;exact b0) rfl R4 λu14 h14 hle14 c14=>?_
      rw[sr]at c14
      obtain⟨a9,n9,k9,rfl⟩:=eR (c14.own.now (k:=(0,3)) (v:=u14) RA)
      refine⟨RE hle13 hle14,?_⟩
      subst hy
      refine aw λy hy=>?_
      simp[af,ag]
      refine ak (z:=.agg bj.toArray) (places:=fitP) (vs:=[(0,.slice a9 n9 k9),(1,.slice a8 n8 k8),(4,.bool (kc.2&&decide (0<=kc.1+i.imm.v)&&decide (kc.1+i.imm.v<=255)))]) (cs:=(outV (.slice a9 n9 k9) (.slice a8 n8 k8) (RL RK 0 0) (kc.2&&decide (0<=kc.1+i.imm.v)&&decide (kc.1+i.imm.v<=255))).toArray) R1 R1 Sa R1 ?_
      subst hy
      refine aw λy hy=>?_
      simp[af,ag,g9]
      refine c14.iR (k:=(0,1)) (n:=8) (l:=bj) (l':=outV (.slice a9 n9 k9) (.slice a8 n8 k8) (RL RK 0 0) (kc.2&&decide (0<=kc.1+i.imm.v)&&decide (kc.1+i.imm.v<=255))) RA R1 Sa Sa rfl R7 λh15 c15=>?_
      rw[rV]at c15
      subst hy
      simp
      refine last W13 h15 _ _ _ (RE hW10 hW13) c15 s13 ?_
      simp[bn,bS,af,ag,g2,g5,g8,g9,g10]
   | 2,_=>
    have g36:=hL1 (36,RG RH 2) Sa;refine dh _ RO hL1 RA (by simp at g36;simp[g36]) λρ2 hL2=>?_;simp only[cond_false];clear hL1;have g36:=hL2 (36,RG RH 2) Sa;refine dh _ RO hL2 RA (by simp at g36;simp[g36]) λρ3 hL3=>?_;simp only[cond_false];clear hL2;have g36:=hL3 (36,RG RH 2) Sa;refine dh _ RN hL3 RA (by simp at g36;simp[g36]) λρ4 hL4=>?_;simp only[cond_true];clear hL3;have g:=hL4;simp only[bn,bS,and_true]at g;obtain⟨g36,g2,g3,g4,g5,g8,g9,g10,g11,g12⟩:=g;refine aa λy hy=>?_;have i4c:=ae le2 i4;by_cases hbb:(cV f (nth i.args 0) 2).2=RN/\i.imm.v=0
    ·obtain⟨hb,hz0⟩:=hbb;rw[hb]at g12 hL4;have hf2:(aD f (nth i.args 0) 2).2=true:=by rw[<-hs2,hb]
     rw[hs1 hf2]at hatS;refine dh _ RO hL4 RA (by simp[g5,g12,i4c,hz0]) λρ5 hL5=>?_;simp only[cond_false];simp only[bn,bS,and_true]at hL5;clear g36 g2 g3 g4 g5 g8 g9 g10 g11 g12 hL4;obtain⟨g36,g2,g3,g4,g5,g8,g9,g10,g11,g12⟩:=hL5;simp;subst hy;have hmR:memR f i t 2=RJ ⟨[nth (aD f (nth i.args 0) 2).1.args 0,nth (aD f (nth i.args 0) 2).1.args 1]++memL i,[nth i.args 0],
    [memE i 2 ⟨25,i.dst,0,nth (aD f (nth i.args 0) 2).1.args 0,nth (aD f (nth i.args 0) 2).1.args 1,0,⟨0⟩,[]⟩],cy⟩:=by simp only[memR];rw[if_pos (by rw[hf2,hz0];rfl)]
     obtain⟨-,-,-,vs,j3,ss⟩:=fI hatS
     have j3:an W5 ⟨S,3,RK⟩=RJ vs:=j3
     obtain⟨m1,m2,-⟩:=gL hf2
     have la:=(hall _ m1).two R3
     have jx0:=ss.idx1 (k:=.i64) (i:=0) rfl R4 R3
     have jd0:=ss.int (View.le_refl W5) (i:=0) R3
     have jx1:=ss.idx1 (k:=.i64) (i:=1) rfl R4 R3
     have jd1:=ss.int (View.le_refl W5) (i:=1) R3
     have b0:=ss.rng (i:=0) R3
     have b1:=ss.rng (i:=1) R3
     simp at jx0 jd0 jx1 jd1
     generalize (aD f (nth i.args 0) 2).1=s at *
     refine aa λy hy=>?_
     refine aH W5 c9n.wle ?_
     simp[g5,g11,j3,jx0,jd0,jx1,jd1,ae hW5 i1]
     refine ak (z:=.agg ma.toArray) (places:=nE) (vs:=[(0,RG RH 25),(1,RG RH i.dst),(3,RG RH (nth s.args 0)),(4,RG RH (nth s.args 1))]) (cs:=(mchV 25 i.dst 0 (nth s.args 0) (nth s.args 1) 0 0 (RL RK 0 0)).toArray) R1 R1 Sa R1 ?_
     have rm3 : ∀X,Rd X (.agg (mchV 25 i.dst 0 (nth s.args 0) (nth s.args 1) 0 0 (RL RK 0 0)).toArray) (⟨25,i.dst,0,nth s.args 0,nth s.args 1,0,⟨0⟩,[]⟩:aF):=λX=>dT (imm:=⟨0⟩) R9 Sa aE
     simp[g10,af,ag]
     refine c9n.cI Part.all (k:=(0,2)) (D:=memD i) (d:=(⟨25,i.dst,0,nth s.args 0,nth s.args 1,0,⟨0⟩,[]⟩:aF)) RA R1 Sa Sa (rm3 _) λh12 c12=>?_
     rw[tG]at c12
     subst hy
     have le12:=RE hW5 c12.wle
     have last : ∀(W14:View) (h14:Heap) (ρ:Env) (u14 iv:Value),W5.le W14->Cx W h W14 h14 (rmO R OB M (outV u14 iv (RL RK 0 0) RN) (⟨25,i.dst,0,nth s.args 0,nth s.args 1,0,⟨0⟩,[]⟩:aF) (it T.int u14 [nth s.args 0,nth s.args 1]) (it T.cU (RL RK 0 0) ([]:List aF)))->SlRd W14 iv [nth i.args 0]->
       Slk ρ [(2,RG RH 2),(5,ptr I1),(8,ptr R),(9,ptr OB),(10,ptr M)]->LC.wp RP zD (cO [.un (.aZ 9) (.tmp 8)] K) ρ h14:=λW14 h14 ρ u14 iv hW14 c14 hiv hL=>by
      refine restD W14 h14 ρ (⟨25,i.dst,0,nth s.args 0,nth s.args 1,0,⟨0⟩,[]⟩:aF) [nth s.args 0,nth s.args 1] [nth i.args 0] [] _ _ _ _ hW14 c14 Sa Sa hiv ?_ ?_ hL
      ·rw[hmR];rfl
      intro y hy;rw[hmR]at hy;cases hy;rfl
     clear hmR
     refine aH (vw h12) RD ?_
     have jj3:=ae c12.wle j3
     have jj0:=ae c12.wle jd0
     have jj1:=ae c12.wle jd1
     have ii3:=ae le12 i3
     have dd0:=ae le12 d0
     refine eg ?_ ?_
     ·refine aw λy hy=>?_
      simp[g5,g11,af,ag,jj3,jj0,jj1,jx0,jx1,ii3,q0,dd0]
      refine c12.jK (k:=(0,3)) (n:=2) (l:=[nth s.args 0,nth s.args 1]) RA El.aQ Sa R9 rfl R4 λu13 h13 hle13 c13=>?_
      rw[sr]at c13
      obtain⟨a9,n9,k9,rfl⟩:=eR (c13.own.now (k:=(0,3)) (v:=u13) RA)
      refine⟨hle13,?_⟩
      subst hy
      refine aw λy hy=>?_
      simp[af,ag]
      refine c13.ez (α:=Int) (n:=1) (vs:=[RG RH (nth i.args 0)]) (ds:=[nth i.args 0]) El.aQ Sa ⟨bg.2 ⟨rfl,a0⟩,trivial⟩ rfl R4 R4 λu14 h14 W14 hW14 c14 s14 hle14=>?_
      obtain⟨a8,n8,k8,rfl⟩:=eR s14
      refine⟨RE hle13 hle14,?_⟩
      subst hy
      refine aw λy hy=>?_
      simp[af,ag]
      refine ak (z:=.agg bj.toArray) (places:=fitP) (vs:=[(0,.slice a9 n9 k9),(1,.slice a8 n8 k8),(4,.bool RN)]) (cs:=(outV (.slice a9 n9 k9) (.slice a8 n8 k8) (RL RK 0 0) RN).toArray) R1 R1 Sa R1 ?_
      subst hy
      refine aw λy hy=>?_
      simp[af,ag,g9]
      refine c14.iR (k:=(0,1)) (n:=8) (l:=bj) (l':=outV (.slice a9 n9 k9) (.slice a8 n8 k8) (RL RK 0 0) RN) RA R1 Sa Sa rfl R7 λh15 c15=>?_
      rw[rV]at c15
      subst hy
      simp
      refine last W14 h15 _ _ _ hW14 c15 s14 ?_
      simp[bn,bS,af,ag,g2,g5,g8,g9,g10]
     ·refine aw λy hy=>?_
      simp[g5,g11,af,ag,jj3,jj0,jj1,jx0,jx1,ii3,q0,dd0]
      refine c12.ez (α:=Int) (n:=1) (vs:=[RG RH (nth i.args 0)]) (ds:=[nth i.args 0]) El.aQ Sa ⟨bg.2 ⟨rfl,a0⟩,trivial⟩ rfl R4 R4 λu13 h13 W13 hW13 c13 s13 hle13=>?_
      obtain⟨a8,n8,k8,rfl⟩:=eR s13
      refine⟨hle13,?_⟩
      subst hy
      refine aw λy hy=>?_
      simp[af,ag]
      refine c13.jK (k:=(0,3)) (n:=2) (l:=[nth s.args 0,nth s.args 1]) RA El.aQ Sa R9 rfl R4 λu14 h14 hle14 c14=>?_
      rw[sr]at c14
      obtain⟨a9,n9,k9,rfl⟩:=eR (c14.own.now (k:=(0,3)) (v:=u14) RA)
      refine⟨RE hle13 hle14,?_⟩
      subst hy
      refine aw λy hy=>?_
      simp[af,ag]
      refine ak (z:=.agg bj.toArray) (places:=fitP) (vs:=[(0,.slice a9 n9 k9),(1,.slice a8 n8 k8),(4,.bool RN)]) (cs:=(outV (.slice a9 n9 k9) (.slice a8 n8 k8) (RL RK 0 0) RN).toArray) R1 R1 Sa R1 ?_
      subst hy
      refine aw λy hy=>?_
      simp[af,ag,g9]
      refine c14.iR (k:=(0,1)) (n:=8) (l:=bj) (l':=outV (.slice a9 n9 k9) (.slice a8 n8 k8) (RL RK 0 0) RN) RA R1 Sa Sa rfl R7 λh15 c15=>?_
      rw[rV]at c15
      subst hy
      simp
      refine last W13 h15 _ _ _ hW13 c15 s13 ?_
      simp[bn,bS,af,ag,g2,g5,g8,g9,g10]
    have hmR:memR f i t 2=none:=by simp only[memR];rw[<-hs2,if_neg (by simpa using hbb)]
    have hv:(!(cV f (nth i.args 0) 2).2||!decide (i.imm.v=0))=true:=by
     cases hb:(cV f (nth i.args 0) 2).2 with
     | false=>rfl
     | true=>have:¬i.imm.v=0:=λe=>hbb ⟨hb,e⟩;simp[this]
    refine dh _ RN hL4 RA (by simpa[g5,g12,i4c]using hv) λρ5 hL5=>?_;simp only[cond_true];simp only[bn,bS,and_true]at hL5;obtain⟨g36,g2,g3,g4,g5,g8,g9,g10,g11,g12⟩:=hL5;have hall0:=c9.all (k:=(0,1)) (n:=8) (B:=OB) (e:=T.aG) (l:=bj) RA;simp at hall0;simp[g8,g9,af,ag,hall0];refine c9.aK (k:=(0,0)) (n:=8) (l:=bj) RA (gZ (H:=W5)) rfl rfl R1 Sa Sa λh13 l13 hl13 c13=>?_;have hall2:=c13.all (k:=(0,0)) (n:=8) (l:=l13) (B:=R) (e:=T.aG) Own.aj;simp at hall2;simp[g8,af,ag,hall2];refine hK _ _ ⟨c13.le0,⟨nw,RO⟩,(hl13▸(gZ (H:=W5))).mono c13.fin,?_,?_⟩
    ·rw[hmR];rfl
    intro y hy;rw[hmR]at hy;cases hy
   | 3,_=>
    have g36:=hL1 (36,RG RH 3) Sa;refine dh _ RO hL1 RA (by simp at g36;simp[g36]) λρ2 hL2=>?_;simp only[cond_false];clear hL1;have g36:=hL2 (36,RG RH 3) Sa;refine dh _ RO hL2 RA (by simp at g36;simp[g36]) λρ3 hL3=>?_;simp only[cond_false];clear hL2;have g36:=hL3 (36,RG RH 3) Sa;refine dh _ RO hL3 RA (by simp at g36;simp[g36]) λρ4 hL4=>?_;simp only[cond_false];clear hL3;have g36:=hL4 (36,RG RH 3) Sa;refine dh _ RN hL4 RA (by simp at g36;simp[g36]) λρ5 hL5=>?_;simp only[cond_true];clear hL4;have g:=hL5;simp only[bn,bS,and_true]at g;obtain⟨g36,g2,g3,g4,g5,g8,g9,g10,g11,g12⟩:=g;refine aa λy hy=>?_;refine aH W5 c9.wle ?_;simp[g3,g5,ae hW5 i3,q0,ae hW5 d0,ae hW5 i1];obtain⟨t1,t2⟩:=ht;refine ak (z:=.agg ma.toArray) (places:=nE) (vs:=[(0,RG RH 25),(1,RG RH i.dst),(3,RG RH (nth i.args 0)),(4,RG RH t)]) (cs:=(mchV 25 i.dst 0 (nth i.args 0) t 0 0 (RL RK 0 0)).toArray) R1 R1 Sa R1 ?_;have rm3 : ∀X,Rd X (.agg (mchV 25 i.dst 0 (nth i.args 0) t 0 0 (RL RK 0 0)).toArray) (⟨25,i.dst,0,nth i.args 0,t,0,⟨0⟩,[]⟩:aF):=λX=>dT (imm:=⟨0⟩) R9 Sa aE;have rm4 : ∀X,Rd X (.agg (mchV 4 t 0 0 0 0 i.imm.v (RL RK 0 0)).toArray) (⟨4,t,0,0,0,0,i.imm,[]⟩:aF):=λX=>dT R9 r4 aE;simp[g10,af,ag];refine c9.cI Part.all (k:=(0,2)) (D:=memD i) (d:=(⟨25,i.dst,0,nth i.args 0,t,0,⟨0⟩,[]⟩:aF)) RA R1 Sa Sa (rm3 _) λh12 c12=>?_;rw[tG]at c12;subst hy;have le12:=RE hW5 c12.wle;have last : ∀(h14:Heap) (ρ:Env) (u14 cd:Value),Cx W h W5 h14 (rmO R OB M (outV u14 (RL RK 0 0) cd RN) (⟨25,i.dst,0,nth i.args 0,t,0,⟨0⟩,[]⟩:aF) (it T.int u14 [nth i.args 0]) (it T.cU cd [(⟨4,t,0,0,0,0,i.imm,[]⟩:aF)]))->
      Slk ρ [(2,RG RH 3),(5,ptr I1),(8,ptr R),(9,ptr OB),(10,ptr M)]->LC.wp RP zD (cO [.un (.aZ 9) (.tmp 8)] K) ρ h14:=λh14 ρ u14 cd c14 hL=>by
     refine restD W5 h14 ρ (⟨25,i.dst,0,nth i.args 0,t,0,⟨0⟩,[]⟩:aF) [nth i.args 0] [] [(⟨4,t,0,0,0,0,i.imm,[]⟩:aF)] _ _ _ _ RD c14 Sa Sa aE ?_ ?_ hL
     ·simp only[memR];rfl
     intro y hy;simp only[memR]at hy;cases hy;rfl
    refine aH (vw h12) RD ?_;have ii3:=ae le12 i3;have ii4:=ae le12 i4;have dd0:=ae le12 d0;refine eg ?_ ?_
    ·refine aw λy hy=>?_;simp[g3,g5,af,ag,ii3,ii4,q0,dd0];refine c12.jK (k:=(0,3)) (n:=1) (l:=[nth i.args 0]) RA El.aQ Sa (by simp;exact a0) rfl R4 λu13 h13 hle13 c13=>?_;rw[sr]at c13;obtain⟨a9,n9,k9,rfl⟩:=eR (c13.own.now (k:=(0,3)) (v:=u13) RA);refine⟨hle13,?_⟩;subst hy;refine aw λy hy=>?_;simp[af,ag];refine ak (z:=.agg ma.toArray) (places:=nE) (vs:=[(0,RG RH 4),(1,RG RH t),(6,RG RI i.imm.v)]) (cs:=(mchV 4 t 0 0 0 0 i.imm.v (RL RK 0 0)).toArray) R1 R1 Sa R1 ?_;refine⟨hle13,?_⟩;subst hy;refine aw λy hy=>?_;simp[af,ag];refine wJ (α:=aF) (W:=W5) El.cW Sa (rm4 _) R4 λh14 hle14 own14=>?_;have c14:=c13.add (k:=(0,4)) RA own14 hle14 (λb hb=>by simp only[Value.ownBlock,NN]at hb;omega);rw[zf]at c14;generalize (h13.size:Nat)=B8 at c14;refine⟨RE hle13 hle14,?_⟩;subst hy;refine aw λy hy=>?_;simp[af,ag];refine ak (z:=.agg bj.toArray) (places:=fitP) (vs:=[(0,.slice a9 n9 k9),(2,RL (RJ ⟨B8,0,RK⟩) 1 1),(4,.bool RN)]) (cs:=(outV (.slice a9 n9 k9) (RL RK 0 0) (RL (RJ ⟨B8,0,RK⟩) 1 1) RN).toArray) R1 R1 Sa R1 ?_;subst hy;refine aw λy hy=>?_;simp[af,ag,g9];refine c14.iR (k:=(0,1)) (n:=8) (l:=bj) (l':=outV (.slice a9 n9 k9) (RL RK 0 0) (RL (RJ ⟨B8,0,RK⟩) 1 1) RN) RA R1 Sa Sa rfl R7 λh15 c15=>?_;rw[rV]at c15;subst hy;simp;refine last h15 _ _ _ c15 ?_;simp[bn,bS,af,ag,g2,g5,g8,g9,g10]
    refine aw λy hy=>?_;simp[g3,g5,af,ag,ii3,ii4,q0,dd0];refine ak (z:=.agg ma.toArray) (places:=nE) (vs:=[(0,RG RH 4),(1,RG RH t),(6,RG RI i.imm.v)]) (cs:=(mchV 4 t 0 0 0 0 i.imm.v (RL RK 0 0)).toArray) R1 R1 Sa R1 ?_;refine⟨View.le_refl _,?_⟩;subst hy;refine eg ?_ ?_
    ·refine aw λy hy=>?_;simp[af,ag];refine c12.jK (k:=(0,3)) (n:=1) (l:=[nth i.args 0]) RA El.aQ Sa (by simp;exact a0) rfl R4 λu13 h13 hle13 c13=>?_;rw[sr]at c13;obtain⟨a9,n9,k9,rfl⟩:=eR (c13.own.now (k:=(0,3)) (v:=u13) RA);refine⟨hle13,?_⟩;subst hy;refine aw λy hy=>?_;simp[af,ag];refine wJ (α:=aF) (W:=W5) El.cW Sa (rm4 _) R4 λh14 hle14 own14=>?_;have c14:=c13.add (k:=(0,4)) RA own14 hle14 (λb hb=>by simp only[Value.ownBlock,NN]at hb;omega);rw[zf]at c14;generalize (h13.size:Nat)=B8 at c14;refine⟨RE hle13 hle14,?_⟩;subst hy;refine aw λy hy=>?_;simp[af,ag];refine ak (z:=.agg bj.toArray) (places:=fitP) (vs:=[(0,.slice a9 n9 k9),(2,RL (RJ ⟨B8,0,RK⟩) 1 1),(4,.bool RN)]) (cs:=(outV (.slice a9 n9 k9) (RL RK 0 0) (RL (RJ ⟨B8,0,RK⟩) 1 1) RN).toArray) R1 R1 Sa R1 ?_;subst hy;refine aw λy hy=>?_;simp[af,ag,g9];refine c14.iR (k:=(0,1)) (n:=8) (l:=bj) (l':=outV (.slice a9 n9 k9) (RL RK 0 0) (RL (RJ ⟨B8,0,RK⟩) 1 1) RN) RA R1 Sa Sa rfl R7 λh15 c15=>?_;rw[rV]at c15;subst hy;simp;refine last h15 _ _ _ c15 ?_;simp[bn,bS,af,ag,g2,g5,g8,g9,g10]
    refine aw λy hy=>?_;simp[af,ag];refine wJ (α:=aF) (W:=W5) El.cW Sa (rm4 _) R4 λh13 hle13 own13=>?_;have c13:=c12.add (k:=(0,4)) RA own13 hle13 (λb hb=>by simp only[Value.ownBlock,NN]at hb;omega);rw[zf]at c13;generalize (h12.size:Nat)=B8 at c13;refine⟨hle13,?_⟩;subst hy;refine aw λy hy=>?_;simp[af,ag];refine c13.jK (k:=(0,3)) (n:=1) (l:=[nth i.args 0]) RA El.aQ Sa (by simp;exact a0) rfl R4 λu14 h14 hle14 c14=>?_;rw[sr]at c14;obtain⟨a9,n9,k9,rfl⟩:=eR (c14.own.now (k:=(0,3)) (v:=u14) RA);refine⟨RE hle13 hle14,?_⟩;subst hy;refine aw λy hy=>?_;simp[af,ag];refine ak (z:=.agg bj.toArray) (places:=fitP) (vs:=[(0,.slice a9 n9 k9),(2,RL (RJ ⟨B8,0,RK⟩) 1 1),(4,.bool RN)]) (cs:=(outV (.slice a9 n9 k9) (RL RK 0 0) (RL (RJ ⟨B8,0,RK⟩) 1 1) RN).toArray) R1 R1 Sa R1 ?_;subst hy;refine aw λy hy=>?_;simp[af,ag,g9];refine c14.iR (k:=(0,1)) (n:=8) (l:=bj) (l':=outV (.slice a9 n9 k9) (RL RK 0 0) (RL (RJ ⟨B8,0,RK⟩) 1 1) RN) RA R1 Sa Sa rfl R7 λh15 c15=>?_;rw[rV]at c15;subst hy;simp;refine last h15 _ _ _ c15 ?_;simp[bn,bS,af,ag,g2,g5,g8,g9,g10]
  refine aH W2 c8.wle ?_;refine eg ?_ ?_
  ·refine aw λw hw=>?_;simp[g4,g5,huf,i3,q0,d0];refine ah R1 (iM c8.wle ruf hsm) ?_;rintro _ h9 ⟨hle9,vi,rfl,hvi⟩;have c9:=c8.ext hle9;subst hw;simp[af,ag];refine c9.dA (α:=InsD) hvi (n:=5) (z:=.agg insV.toArray) R1 rfl rfl R1 R5 R5 λS h10 W10 hW10 c10 hat10 hle10=>?_;refine restC W10 h10 _ S (RE c8.up hW10) c10 hat10 ?_;simp[bn,bS,af,ag,g2,g3,g4,g5,g8,g9,g10]
  refine aw λw hw=>?_;simp[g4,g5,huf,i3,q0,d0];refine c8.cZ (k:=(0,5)) (z:=.agg insV.toArray) (d:=eV) RA R1 iN R4 λS h9 hle9 c9=>?_;refine⟨c9.wle,?_⟩;subst hw;refine aw λw hw=>?_;simp[af,ag];refine ah R1 (iM c9.wle ruf hsm) ?_;rintro _ h10 ⟨hle10,vi,rfl,hvi⟩;have hW10:=c9.up (h':=h10);have c10:=c9.ext hle10;subst hw;simp[af,ag];refine c10.cI Part.all (k:=(0,5)) (D:=eV) (d:=(cV f (nth i.args 0) 2).1) RA R1 Sa Sa hvi λh11 c11=>?_;obtain⟨W11,hW11,c12,hat12⟩:=c11.pj (k:=(0,5)) (B:=S) (d:=(cV f (nth i.args 0) 2).1) RA;rw[Own.eC,Own.eC,MA]at c12;refine restC W11 h11 _ S (RE hW10 hW11) c12 hat12 ?_;simp[bn,bS,af,ag,g2,g3,g4,g5,g8,g9,g10]
 have ho : ∀D:aF,(Own.upd (Own.upd (Own.upd (Own.upd (λ_=>RK) (0,0) (bx T.aG R (RawN.mk (n:=8) (Value.agg bj.toArray).cells.toList))) (0,1) (bx T.aG OB (RawN.mk (n:=8) (Value.agg bj.toArray).cells.toList))) (0,1) (bx T.aG OB (RawN.mk (n:=8) bj))) (0,2) (bx T.cU M D))=rmO R OB M bj D RK none:=λD=>by
  funext k;simp only[rmO,Own.upd];by_cases k2:k=(0,2)
  ·subst k2;rfl
  by_cases k1:k=(0,1)
  ·subst k1;rfl
  by_cases k0:k=(0,0)
  ·subst k0;rfl
  simp[k0,k1,k2]
 by_cases h16:i.op=16
 ·obtain⟨q1,d1,b0,b1⟩:=s1 h16;refine cJ RA (by simp[ae c7.wle i0,h16]) ?_;simp[ae c7.wle i3,q1,ae c7.wle d1];refine ak (z:=.agg ma.toArray) (places:=nE) (vs:=[(0,RG RH 26),(4,RG RH (nth i.args 1))]) (cs:=(mchV 26 0 0 0 (nth i.args 1) 0 0 (RL RK 0 0)).toArray) R1 R1 Sa R1 ?_;have rm2 : ∀X,Rd X (.agg (mchV 26 0 0 0 (nth i.args 1) 0 0 (RL RK 0 0)).toArray) (⟨26,0,0,0,nth i.args 1,0,⟨0⟩,[]⟩:aF):=λX=>dT (imm:=⟨0⟩) R9 Sa aE;refine c7.cI Part.all (k:=(0,2)) (D:=(⟨24,i.dst,0,0,0,0,⟨0⟩,[]⟩:aF)) (d:=(⟨26,0,0,0,nth i.args 1,0,⟨0⟩,[]⟩:aF)) RA R1 Sa Sa (rm2 _) λh8 c8=>?_;refine restB h8 _ ?_ ?_
  ·rw[Own.eC,Own.eC,ho]at c8;unfold memD;rw[if_pos h16];exact c8
  simp[bn,bS,Lft.look]
 refine cL RA (by simp[ae c7.wle i0,h16]) ?_;simp;refine restB h7 _ ?_ ?_
 ·rw[Own.eC,ho]at c7;unfold memD;rw[if_neg h16];exact c7
 simp[bn,bS,Lft.look]
structure GS (i:InsD):Prop where
 two:2<=i.op/\i.op<=14\/i.op=16\/i.op=18->i.args.length=2
 one:i.op=15->i.args.length=1
theorem JD{f:aq}(m:nD f): ∀i∈dM f,GS i:=by
 intro i hi;obtain⟨b,k,hb,hk,rfl⟩:=gS.1 hi;obtain⟨-,h⟩:=m.insG hb hk;generalize nth (nth f.blocks b).ins k=i at *;unfold mc at h;simp at h;obtain⟨⟨h1,h2⟩,h3⟩:=h;unfold lC at h3;refine⟨λho=>?_,λho=>?_⟩
 ·rw[if_neg R3,if_neg R3,if_neg R3]at h3;simp at h3;omega
 rw[if_neg R3,if_pos R3]at h3;simp at h3;omega
theorem Bp{l:List Int}(h:l.length=2):l.take 1=[nth l 0]/\l.drop 1=[nth l 1]:=by match l,h with | [a,b],_=>exact⟨rfl,rfl⟩
variable{pat:Int}
theorem HQ(h:16<=pat/\pat<=21): ∃op m lo hi sg:Int,immT pat=(op,m,lo,hi)/\(2<=op/\op<=14)/\(0<=m/\m<=100)/\opOf pat.toNat=op/\(sg=if pat=17 then -1 else 1)/\(-128<=lo/\lo<=128)/\(-128<=hi/\hi<=128)/\∀f i t,doS f i t pat.toNat=immS f i m lo hi sg:=by
 have:pat=16\/pat=17\/pat=18\/pat=19\/pat=20\/pat=21:=by omega
 rcases this with rfl | rfl | rfl | rfl | rfl | rfl
 ·exact⟨2,18,-128,127,1,rfl,by decide,by decide,rfl,rfl,by decide,by decide,λ_ _ _=>rfl⟩
 ·exact⟨3,18,-127,128,-1,rfl,by decide,by decide,rfl,rfl,by decide,by decide,λ_ _ _=>rfl⟩
 ·exact⟨5,19,-128,127,1,rfl,by decide,by decide,rfl,rfl,by decide,by decide,λ_ _ _=>rfl⟩
 ·exact⟨8,20,0,31,1,rfl,by decide,by decide,rfl,rfl,by decide,by decide,λ_ _ _=>rfl⟩
 ·exact⟨9,21,0,31,1,rfl,by decide,by decide,rfl,rfl,by decide,by decide,λ_ _ _=>rfl⟩
 exact⟨10,22,0,31,1,rfl,by decide,by decide,rfl,rfl,by decide,by decide,λ_ _ _=>rfl⟩
theorem Ji(h:¬(16<=pat/\pat<=21)):immT pat=(0,0,0,0):=by unfold immT;rw[if_neg R3,if_neg R3,if_neg R3,if_neg R3,if_neg R3,if_neg R3]
theorem EN{f:aq}{i:InsD}{t:Int}(h:i.op≠opOf pat.toNat):patS f i t pat=none:=by unfold patS;rw[if_neg λc=>h c.2.2]
theorem mC{f:aq}{i:InsD}{t:Int}(h0:1<=pat/\pat<=32)(h:i.op=opOf pat.toNat):patS f i t pat=doS f i t pat.toNat:=by unfold patS;rw[if_pos ⟨h0.1,h0.2,h⟩]
set_option maxHeartbeats 4000000 in
theorem AX{f:aq}{i:InsD}{vf vi:Value}{t:Int}{h:Heap}(hW:W.le (vw h))(hvf:Rd W vf f)(hvi:Rd W vi i)(hsm:SmF f)(hall : ∀i∈dM f,qT i)(hex:GS i)(hr : ∀i∈dM f,-2147483648<=i.imm.v/\i.imm.v<=2147483647)(hp:I64 pat)(ht:I64 t):
    az RP 62 #[vf,vi,RG RH pat,RG RH t] h (λu h'=>Dy W h h' u (patS f i t pat)):=by
  refine ao (args:=[vf,vi,RG RH pat,RG RH t]) follows Tryz.func62 E.dS RB λK hK=>?_
  dsimp only[L.dS,lkF,lkG]
  have c0:=Cx.start hW
  refine aa λz hz=>?_
  simp
  refine c0.cu rfl hvf λF1 h1 W1 hW1 c1 hat1 hle1=>?_
  refine c1.cu rfl (hvi.mono hW1) λI1 h2 W2 hW2 c2 hat2 hle2=>?_
  refine c2.bU (k:=(0,0)) (n:=8) (z:=.agg bj.toArray) rfl R1 rfl R4 R8 λR h3 hle3 c3=>?_
  subst hz
  have hat1:=hat1.mono hW2
  obtain⟨i0,i1,i2,va,i3,si⟩:=fI hat2
  have i3:an W2 ⟨I1,3,RK⟩=RJ va:=i3
  have i4:=hat2.part InsD.gx
  have r4:=i4.mP
  have i4:an W2 ⟨I1,4,RK⟩=RJ (RG RI i.imm.v):=by simpa using i4.i32
  have r1:=(hat2.part InsD.iB).rng
  have r2:=(hat2.part InsD.yp).rng
  obtain⟨uf,huf,ruf⟩:=hat1.ldN rfl (N:=2) rfl
  have huf:=huf W2 RD
  obtain⟨ui,hui,rui⟩:=hat2.ldN rfl (N:=5) rfl
  have hui:=hui W2 RD
  obtain⟨a5,n5,m5,rfl⟩:=eR si
  have at0:1<=i.args.length->Bn.ev (.idx 1) (.slice a5 n5 m5) (RG RH 0)=RJ (RM (RJ ((slA (.slice a5 n5 m5)).add 0)))/\an W2 ((slA (.slice a5 n5 m5)).add 0)=RJ (RG RH (nth i.args 0))/\I64 (nth i.args 0):=λhl=>by
    have q:=si.idx1 (k:=.i64) (i:=0) rfl R4 R3
    have d:=si.int (View.le_refl W2) (i:=0) R3
    simp at q d
    exact⟨q,by simpa using d,si.rng (i:=0) R3⟩
  have at1:2<=i.args.length->Bn.ev (.idx 1) (.slice a5 n5 m5) (RG RH 1)=RJ (RM (RJ ((slA (.slice a5 n5 m5)).add 1)))/\an W2 ((slA (.slice a5 n5 m5)).add 1)=RJ (RG RH (nth i.args 1))/\I64 (nth i.args 1):=λhl=>by
    have q:=si.idx1 (k:=.i64) (i:=1) rfl R4 R3
    have d:=si.int (View.le_refl W2) (i:=1) R3
    simp at q d
    exact⟨q,by simpa using d,si.rng (i:=1) R3⟩
  have i0c:=ae c3.wle i0
  have i1c:=ae c3.wle i1
  have i3c:=ae c3.wle i3
  have i4c:=ae c3.wle i4
  have fin : ∀(W':View) (h9:Heap) (o:Own) (l9:List Value) (x:FitR),Cx W h W' h9 o->Rd W' (.agg l9.toArray) x->x.ok=(patS f i t pat).isSome->(∀y,patS f i t pat=RJ y->x.fit=y)->K (.agg l9.toArray) h9:=λW' h9 o l9 x c hr e1 e2=>hK _ _ ⟨c.le0,x,hr.mono c.fin,e1,e2⟩
  have e1 : ∀a b:Int,¬(pat=a/\i.op=b)->(decide (pat=a)&&decide (i.op=b))=false:=λa b hh=>by simpa using hh
  clear hK
  refine aa λz hz=>?_
  by_cases q1:3<=pat/\pat<=15
  · refine cJ RA (by simp[q1.1,q1.2]) ?_
    have ew:IntKind.i64.wrap (pat-3)=pat-3:=bh R3 R3
    have ew2:IntKind.i64.wrap (pat-3+2)=pat-1:=by rw[bh R3 R3];omega
    have ew5:IntKind.i64.wrap (pat-3+5)=pat+2:=by rw[bh R3 R3];omega
    have eo:opOf pat.toNat=pat-1:=by unfold opOf;rw[if_neg R3,if_pos R3];omega
    refine aa λw hw=>?_
    by_cases qo:i.op=pat-1
    · have er:patS f i t pat=RJ ⟨i.args,[],[⟨pat+2,i.dst,0,nth i.args 0,nth i.args 1,0,⟨0⟩,[]⟩],cy⟩:=by
        rw[mC R6 (by rw[eo];exact qo),DZ R6]
        have:((pat.toNat:Nat):Int)=pat:=by omega
        rw[this]
      have hl:=hex.two (.inl R6)
      obtain⟨q0,d0,b0⟩:=at0 R3
      obtain⟨q9,d9,b9⟩:=at1 R3
      obtain⟨b01,b02⟩:=b0
      obtain⟨b91,b92⟩:=b9
      refine cL RA (by simp[i0c,ew,ew2,qo]) ?_
      simp
      subst hw
      refine aa λw hw=>?_
      refine aH W2 c3.wle ?_
      simp[i1,i3,q0,d0,q9,d9,ew,ew5]
      refine ak (z:=.agg ma.toArray) (places:=nE) (vs:=[(0,RG RH (pat+2)),(1,RG RH i.dst),(3,RG RH (nth i.args 0)),(4,RG RH (nth i.args 1))]) (cs:=(mchV (pat+2) i.dst 0 (nth i.args 0) (nth i.args 1) 0 0 (RL RK 0 0)).toArray) R1 R1 Sa R1 ?_
      have hm:Rd W2 (.agg (mchV (pat+2) i.dst 0 (nth i.args 0) (nth i.args 1) 0 0 (RL RK 0 0)).toArray) (⟨pat+2,i.dst,0,nth i.args 0,nth i.args 1,0,⟨0⟩,[]⟩:aF):=dT (imm:=⟨0⟩) R9 Sa aE
      refine⟨c3.wle,?_⟩
      refine c3.ez (α:=aF) (n:=1) (vs:=[.agg (mchV (pat+2) i.dst 0 (nth i.args 0) (nth i.args 1) 0 0 (RL RK 0 0)).toArray]) (ds:=[(⟨pat+2,i.dst,0,nth i.args 0,nth i.args 1,0,⟨0⟩,[]⟩:aF)]) El.cW Sa ⟨hm,trivial⟩ rfl R4 R4 λu8 h8 W8 hW8 c8 s8 hle8=>?_
      obtain⟨a8,n8,k8,rfl⟩:=eR s8
      refine⟨RE c3.wle hle8,?_⟩
      refine ak (z:=.agg bj.toArray) (places:=fitP) (vs:=[(0,.slice a5 n5 m5),(2,.slice a8 n8 k8),(4,.bool RN)]) (cs:=(outV (.slice a5 n5 m5) (RL RK 0 0) (.slice a8 n8 k8) RN).toArray) R1 R1 Sa R1 ?_
      have hr:Rd W8 (.agg (outV (.slice a5 n5 m5) (RL RK 0 0) (.slice a8 n8 k8) RN).toArray) (⟨⟨i.args,[],[⟨pat+2,i.dst,0,nth i.args 0,nth i.args 1,0,⟨0⟩,[]⟩],cy⟩,RN⟩:FitR):=qM (si.mono hW8) aE s8
      refine c8.aK (k:=(0,0)) Own.aj hr rfl rfl R1 Sa Sa λh5 l5 hl5 c5=>?_
      subst hw
      simp[c5.all (k:=(0,0)) Own.aj]
      exact fin _ _ _ _ _ c5 (hl5▸hr) (by rw[er];rfl) (λy hy=>by rw[er]at hy;cases hy;rfl)
    · have er:patS f i t pat=none:=EN (by rw[eo];exact qo)
      refine cJ RA (by simp[i0c,ew,ew2,qo]) ?_
      simp
      refine ak (z:=.agg bj.toArray) (places:=fitP) (vs:=[]) (cs:=bj.toArray) R1 R1 Sa R1 ?_
      have hr:Rd W2 (.agg bj.toArray) (⟨nw,RO⟩:FitR):=gZ
      refine c3.aK (k:=(0,0)) Own.aj hr rfl rfl R1 Sa Sa λh5 l5 hl5 c5=>?_
      simp[c5.all (k:=(0,0)) Own.aj]
      exact fin _ _ _ _ _ c5 (hl5▸hr) (by rw[er];rfl) (λy hy=>by rw[er]at hy;cases hy)
  have x1:(decide (3<=pat)&&decide (pat<=15))=false:=by simpa using q1
  refine cL RA (by simp[x1]) ?_
  simp
  subst hz
  refine aa λz hz=>?_
  simp
  refine ah R1 (Az (pat:=pat)) ?_
  rintro _ h3 ⟨rfl,rfl⟩
  simp
  subst hz
  refine aa λz hz=>?_
  by_cases q2:16<=pat/\pat<=21
  · obtain⟨op,mo,lo,hi,sg,eT,ho,hmo,eo,hsg,hlo,hhi,hdo⟩:=HQ q2
    rw[eT]
    refine cJ RA (by
                                   have:¬op=0:=by omega
                                   simp[this]) ?_
    refine aa λw hw=>?_
    by_cases qo:i.op=op
    · have hl:=hex.two (.inl R6)
      obtain⟨q0,d0,b0⟩:=at0 R3
      obtain⟨q9,d9,b9⟩:=at1 R3
      obtain⟨b01,b02⟩:=b0
      obtain⟨tl1,tl2⟩:=Bp hl
      have er:patS f i t pat=if(dz f (nth i.args 1) lo hi).2 then RJ ⟨[nth i.args 0],[nth i.args 1],[⟨mo,i.dst,0,nth i.args 0,0,0,w32 (sg*(dz f (nth i.args 1) lo hi).1),[]⟩],cy⟩ else none:=by
        rw[mC R6 (by rw[eo];exact qo),hdo];rfl
      refine cL RA (by simp[i0c,qo]) ?_
      simp
      subst hw
      refine aa λw hw=>?_
      refine aH W2 c3.wle ?_
      simp[i3,q9,d9,huf]
      refine ah R1 (vO c3.wle ruf hsm) ?_
      rintro _ h4 ⟨hle4,rfl⟩
      have c4:=c3.ext hle4
      have hW4:=c3.up (h':=h4)
      obtain⟨cs2,cs1⟩:=xO (f:=f) (v:=nth i.args 1) (lo:=lo) (hi:=hi)
      have crng:=ya (f:=f) (v:=nth i.args 1) (lo:=lo) (hi:=hi) hr
      generalize lX f (nth i.args 1) lo hi=kc at cs1 cs2 crng
      simp
      subst hw
      obtain⟨ut,hut,rut⟩:=si.take (n:=1) R3 (kd:=.i64)
      obtain⟨ud,hud,rud⟩:=si.drop (n:=1) R3 (kd:=.i64)
      rw[tl1]at rut
      rw[tl2]at rud
      obtain⟨a6,n6,k6,rfl⟩:=eR rut
      obtain⟨a7,n7,k7,rfl⟩:=eR rud
      have nI:Rep.n Int=1:=rfl
      rw[nI]at hud
      simp at hut hud
      have le4:W2.le (vw h4):=RE hW4 c4.wle
      refine aa λw hw=>?_
      have last : ∀(ρ:Env) (kk:Int),kk=(if pat=17 then 0-kc.1 else kc.1)->Slk ρ [(5,ptr I1),(8,ptr R),(10,RG RH mo),(13,RG RH kk),(14,.bool kc.2)]->LC.wp RP w (eU (LC.wp RP z (cO [.un (.aZ 9) (.tmp 8)] K)) (cO [.un (.aZ 9) (.tmp 8)] K)) ρ h4:=by
        intro ρ kk hkk hL
        simp only[bn,bS,and_true]at hL
        obtain⟨g5,g8,g10,g13,g14⟩:=hL
        subst hw
        have ew:w32 kk=w32 (sg*kc.1):=by rw[hkk,hsg];split<;>simp
        refine aa λw hw=>?_
        refine aH (vw h4) RD ?_
        refine aw λy hy=>?_
        simp[g5,g8,g10,g13,g14,af,ag,ae le4 i1,ae le4 i3,q0,ae le4 d0,hut,hud]
        refine ak (z:=.agg ma.toArray) (places:=nE) (vs:=[(0,RG RH mo),(1,RG RH i.dst),(3,RG RH (nth i.args 0)),(6,RG RI (w32 kk).v)]) (cs:=(mchV mo i.dst 0 (nth i.args 0) 0 0 (w32 kk).v (RL RK 0 0)).toArray) R1 R1 (by simp[w32]) R1 ?_
        have hm:Rd (grow W2 h3 h4) (.agg (mchV mo i.dst 0 (nth i.args 0) 0 0 (w32 kk).v (RL RK 0 0)).toArray) (⟨mo,i.dst,0,nth i.args 0,0,0,w32 kk,[]⟩:aF):=dT R9 (wZ _) aE
        refine⟨View.le_refl _,?_⟩
        subst hy
        refine aw λy hy=>?_
        simp[af,ag]
        refine c4.ez (α:=aF) (n:=1) (vs:=[.agg (mchV mo i.dst 0 (nth i.args 0) 0 0 (w32 kk).v (RL RK 0 0)).toArray]) (ds:=[(⟨mo,i.dst,0,nth i.args 0,0,0,w32 kk,[]⟩:aF)]) El.cW Sa ⟨hm,trivial⟩ rfl R4 R4 λu8 h8 W8 hW8 c8 s8 hle8=>?_
        obtain⟨a8,n8,k8,rfl⟩:=eR s8
        refine⟨hle8,?_⟩
        subst hy
        refine aw λy hy=>?_
        simp[af,ag]
        refine ak (z:=.agg bj.toArray) (places:=fitP) (vs:=[(0,.slice a6 n6 k6),(1,.slice a7 n7 k7),(2,.slice a8 n8 k8),(4,.bool kc.2)]) (cs:=(outV (.slice a6 n6 k6) (.slice a7 n7 k7) (.slice a8 n8 k8) kc.2).toArray) R1 R1 Sa R1 ?_
        have hr:Rd W8 (.agg (outV (.slice a6 n6 k6) (.slice a7 n7 k7) (.slice a8 n8 k8) kc.2).toArray) (⟨⟨[nth i.args 0],[nth i.args 1],[⟨mo,i.dst,0,nth i.args 0,0,0,w32 kk,[]⟩],cy⟩,kc.2⟩:FitR):=qM (rut.mono (RE hW4 hW8)) (rud.mono (RE hW4 hW8)) s8
        subst hy
        refine aw λy hy=>?_
        simp[af,ag,g8]
        refine c8.aK (k:=(0,0)) Own.aj hr rfl rfl R1 Sa Sa λh5 l5 hl5 c5=>?_
        subst hy
        simp
        subst hw
        simp[g8,af,ag,c5.all (k:=(0,0)) Own.aj]
        refine fin _ _ _ _ _ c5 (hl5▸hr) (by rw[er,<-cs2];cases kc.2<;>rfl) (λy hy=>?_)
        rw[er]at hy
        split at hy
        · rename_i c
          rw[<-cs1 c,<-ew]at hy
          cases hy;rfl
        · cases hy
      by_cases q17:pat=17
      · have ew0:IntKind.i64.wrap (0-kc.1)=0-kc.1:=bh R3 R3
        refine cJ RA (by simp[q17]) ?_
        simp
        refine last _ (0-kc.1) (by rw[if_pos q17]) ?_
        have ew1:IntKind.i64.wrap (-kc.1)=0-kc.1:=by rw[<-ew0];simp
        simp[bn,bS,Lft.look,af,ag,ew0,ew1]
      · refine cL RA (by simp[q17]) ?_
        simp
        refine last _ kc.1 (by rw[if_neg q17]) ?_
        simp[bn,bS,Lft.look,af,ag]
    · have er:patS f i t pat=none:=EN (by rw[eo];exact qo)
      refine cJ RA (by simp[i0c,qo]) ?_
      simp
      refine ak (z:=.agg bj.toArray) (places:=fitP) (vs:=[]) (cs:=bj.toArray) R1 R1 Sa R1 ?_
      have hr:Rd W2 (.agg bj.toArray) (⟨nw,RO⟩:FitR):=gZ
      refine c3.aK (k:=(0,0)) Own.aj hr rfl rfl R1 Sa Sa λh5 l5 hl5 c5=>?_
      simp[c5.all (k:=(0,0)) Own.aj]
      exact fin _ _ _ _ _ c5 (hl5▸hr) (by rw[er];rfl) (λy hy=>by rw[er]at hy;cases hy)
  rw[Ji q2]
  refine cL RA Sa ?_
  simp
  subst hz
  refine aa λz hz=>?_
  refine sR ?_
  by_cases p1:pat=1/\i.op=1
  · obtain⟨rfl,po⟩:=p1
    refine cJ RA (by simp[i0c,po]) ?_
    have er:patS f i t 1=if inR i.imm.v (-32768) 32767 then RJ ⟨[],[],[⟨3,i.dst,0,0,0,0,i.imm,[]⟩],cy⟩ else none:=by rw[mC ⟨R4,R4⟩ po];rfl
    refine aa λw hw=>?_
    simp[i1c,i4c]
    refine ak (z:=.agg ma.toArray) (places:=nE) (vs:=[(0,RG RH 3),(1,RG RH i.dst),(6,RG RI i.imm.v)]) (cs:=(mchV 3 i.dst 0 0 0 0 i.imm.v (RL RK 0 0)).toArray) R1 R1 Sa R1 ?_
    have hm:Rd W2 (.agg (mchV 3 i.dst 0 0 0 0 i.imm.v (RL RK 0 0)).toArray) (⟨3,i.dst,0,0,0,0,i.imm,[]⟩:aF):=dT R9 r4 aE
    refine c3.ez (α:=aF) (n:=1) (vs:=[.agg (mchV 3 i.dst 0 0 0 0 i.imm.v (RL RK 0 0)).toArray]) (ds:=[(⟨3,i.dst,0,0,0,0,i.imm,[]⟩:aF)]) El.cW Sa ⟨hm,trivial⟩ rfl R4 R4 λu8 h8 W8 hW8 c8 s8 hle8=>?_
    obtain⟨a8,n8,k8,rfl⟩:=eR s8
    simp[ae (RE hW8 c8.wle) i4]
    refine ak (z:=.agg bj.toArray) (places:=fitP) (vs:=[(2,.slice a8 n8 k8),(4,.bool (decide (-32768<=i.imm.v)&&decide (i.imm.v<=32767)))]) (cs:=(outV (RL RK 0 0) (RL RK 0 0) (.slice a8 n8 k8) (decide (-32768<=i.imm.v)&&decide (i.imm.v<=32767))).toArray) R1 R1 Sa R1 ?_
    have hr:Rd W8 (.agg (outV (RL RK 0 0) (RL RK 0 0) (.slice a8 n8 k8) (decide (-32768<=i.imm.v)&&decide (i.imm.v<=32767))).toArray) (⟨⟨[],[],[⟨3,i.dst,0,0,0,0,i.imm,[]⟩],cy⟩,decide (-32768<=i.imm.v)&&decide (i.imm.v<=32767)⟩:FitR):=qM aE aE s8
    refine c8.aK (k:=(0,0)) Own.aj hr rfl rfl R1 Sa Sa λh5 l5 hl5 c5=>?_
    subst hw
    simp[c5.all (k:=(0,0)) Own.aj]
    refine fin _ _ _ _ _ c5 (hl5▸hr) ?_ (λy hy=>?_)
    · rw[er]
      show inR i.imm.v (-32768) 32767=_
      cases inR i.imm.v (-32768) 32767<;>rfl
    · rw[er]at hy
      split at hy<;>cases hy
      rfl
  have x2:=e1 1 1 p1
  refine cL RA (by simp[i0c,x2]) ?_
  by_cases p2:pat=2/\i.op=1
  · obtain⟨rfl,po⟩:=p2
    refine cJ RA (by simp[i0c,po]) ?_
    have er:patS f i t 2=RJ ⟨[],[],[⟨4,i.dst,0,0,0,0,i.imm,[]⟩],cy⟩:=by rw[mC ⟨R4,R4⟩ po];rfl
    refine aa λw hw=>?_
    simp[i1c,i3c,i4c]
    refine ak (z:=.agg ma.toArray) (places:=nE) (vs:=[(0,RG RH 4),(1,RG RH i.dst),(6,RG RI i.imm.v)]) (cs:=(mchV 4 i.dst 0 0 0 0 i.imm.v (RL RK 0 0)).toArray) R1 R1 Sa R1 ?_
    have hm:Rd W2 (.agg (mchV 4 i.dst 0 0 0 0 i.imm.v (RL RK 0 0)).toArray) (⟨4,i.dst,0,0,0,0,i.imm,[]⟩:aF):=dT R9 r4 aE
    refine c3.ez (α:=aF) (n:=1) (vs:=[.agg (mchV 4 i.dst 0 0 0 0 i.imm.v (RL RK 0 0)).toArray]) (ds:=[(⟨4,i.dst,0,0,0,0,i.imm,[]⟩:aF)]) El.cW Sa ⟨hm,trivial⟩ rfl R4 R4 λu8 h8 W8 hW8 c8 s8 hle8=>?_
    obtain⟨a8,n8,k8,rfl⟩:=eR s8
    refine ak (z:=.agg bj.toArray) (places:=fitP) (vs:=[(2,.slice a8 n8 k8),(4,.bool RN)]) (cs:=(outV (RL RK 0 0) (RL RK 0 0) (.slice a8 n8 k8) RN).toArray) R1 R1 Sa R1 ?_
    have hr:Rd W8 (.agg (outV (RL RK 0 0) (RL RK 0 0) (.slice a8 n8 k8) RN).toArray) (⟨⟨[],[],[⟨4,i.dst,0,0,0,0,i.imm,[]⟩],cy⟩,RN⟩:FitR):=qM aE aE s8
    refine c8.aK (k:=(0,0)) Own.aj hr rfl rfl R1 Sa Sa λh5 l5 hl5 c5=>?_
    subst hw
    simp[c5.all (k:=(0,0)) Own.aj]
    exact fin _ _ _ _ _ c5 (hl5▸hr) (by rw[er];rfl) (λy hy=>by rw[er]at hy;cases hy;rfl)
  have x3:=e1 2 1 p2
  refine cL RA (by simp[i0c,x3]) ?_
  by_cases p3:pat=22/\i.op=2
  · obtain⟨rfl,po⟩:=p3
    refine cJ RA (by simp[i0c,po]) ?_
    have hl:=hex.two (.inl R6)
    obtain⟨q0,d0,b0⟩:=at0 R3
    obtain⟨q9,d9,b9⟩:=at1 R3
    obtain⟨tl1,tl2⟩:=Bp hl
    obtain⟨hs2,hs1⟩:=pa (f:=f) (v:=nth i.args 0) (op:=4)
    have er:patS f i t 22=if(aD f (nth i.args 0) 4).2 then
      RJ ⟨[nth (aD f (nth i.args 0) 4).1.args 0,nth (aD f (nth i.args 0) 4).1.args 1,nth i.args 1],[nth i.args 0],[⟨23,i.dst,0,nth (aD f (nth i.args 0) 4).1.args 0,nth (aD f (nth i.args 0) 4).1.args 1,nth i.args 1,⟨0⟩,[]⟩],cy⟩
    else none:=by rw[mC ⟨R4,R4⟩ po];rfl
    refine aa λy hy=>?_
    have rest : ∀(W5:View) (h5:Heap) (o:Own) (S:Nat) (ρ:Env),W2.le W5->Cx W h W5 h5 o->o (0,0)=bx T.aG R (RawN.mk (n:=8) bj)->At W5 ⟨S,0,RK⟩ (cV f (nth i.args 0) 4).1->Slk ρ [(5,ptr I1),(8,ptr R),(15,ptr S),(16,.bool (cV f (nth i.args 0) 4).2)]->
        LC.wp RP y (fe 0 (eU (LC.wp RP z (cO [.un (.aZ 9) (.tmp 8)] K)) (cO [.un (.aZ 9) (.tmp 8)] K))) ρ h5:=by
      intro W5 h5 o S ρ hW5 c5 ho hat5 hL
      subst hy
      refine aa λy hy=>?_
      cases hb:(cV f (nth i.args 0) 4).2 with
      | false=>
        rw[hb]at hL
        have er:patS f i t 22=none:=by rw[er,<-hs2,hb];rfl
        refine dh _ RN hL RA (by have g:=hL (16,.bool RO) Sa;simp at g;simp[g]) λρ2 hL2=>?_
        simp only[cond_true]
        simp only[bn,bS,and_true]at hL2
        obtain⟨g5,g8,g15,g16⟩:=hL2
        simp[g8,af,ag]
        refine ak (z:=.agg bj.toArray) (places:=fitP) (vs:=[]) (cs:=bj.toArray) R1 R1 Sa R1 ?_
        have hr:Rd W5 (.agg bj.toArray) (⟨nw,RO⟩:FitR):=gZ
        refine c5.aK (k:=(0,0)) ho hr rfl rfl R1 Sa Sa λh6 l6 hl6 c6=>?_
        simp[g8,af,ag,c6.all (k:=(0,0)) Own.aj]
        exact fin _ _ _ _ _ c6 (hl6▸hr) (by rw[er];rfl) (λy hy=>by rw[er]at hy;cases hy)
      | true=>
        rw[hb]at hL
        have hf2:(aD f (nth i.args 0) 4).2=true:=by rw[<-hs2,hb]
        rw[hs1 hf2]at hat5
        rw[if_pos hf2]at er
        refine dh _ RO hL RA (by have g:=hL (16,.bool RN) Sa;simp at g;simp[g]) λρ2 hL2=>?_
        simp only[cond_false]
        simp only[bn,bS,and_true]at hL2
        obtain⟨g5,g8,g15,g16⟩:=hL2
        simp
        subst hy
        obtain⟨m1,m2,-⟩:=gL hf2
        have la:=(hall _ m1).two R3
        generalize (aD f (nth i.args 0) 4).1=s at *
        obtain⟨-,-,-,vs,j3,ss⟩:=fI hat5
        have j3:an W5 ⟨S,3,RK⟩=RJ vs:=j3
        have jx0:=ss.idx1 (k:=.i64) (i:=0) rfl R4 R3
        have jd0:=ss.int (View.le_refl W5) (i:=0) R3
        have jx1:=ss.idx1 (k:=.i64) (i:=1) rfl R4 R3
        have jd1:=ss.int (View.le_refl W5) (i:=1) R3
        have b2:=ss.rng (i:=0) R3
        have b3:=ss.rng (i:=1) R3
        simp at jx0 jd0 jx1 jd1
        obtain⟨ut,hut,rut⟩:=si.take (n:=1) R3 (kd:=.i64)
        rw[tl1]at rut
        obtain⟨a6,n6,k6,rfl⟩:=eR rut
        simp at hut
        have ii1:=ae hW5 i1
        have ii3:=ae hW5 i3
        have dd0:=ae hW5 d0
        have dd9:=ae hW5 d9
        obtain⟨b91,b92⟩:=b9
        have hmD:Rd W5 (.agg (mchV 23 i.dst 0 (nth s.args 0) (nth s.args 1) (nth i.args 1) 0 (RL RK 0 0)).toArray) (⟨23,i.dst,0,nth s.args 0,nth s.args 1,nth i.args 1,⟨0⟩,[]⟩:aF):=dT (imm:=⟨0⟩) R9 Sa aE
        have r3:na W5 [RG RH (nth s.args 0),RG RH (nth s.args 1),RG RH (nth i.args 1)] [nth s.args 0,nth s.args 1,nth i.args 1]:=⟨bg.2 ⟨rfl,b2⟩,bg.2 ⟨rfl,b3⟩,bg.2 ⟨rfl,b91,b92⟩,trivial⟩
        refine aa λy hy=>?_
        have last : ∀(W8:View) (h8:Heap) (ρ:Env) (a9:Option Addr) (n9 k9:Nat) (a8:Option Addr) (n8 k8:Nat),W5.le W8->Cx W h W8 h8 o->SlRd W8 (.slice a9 n9 k9) [nth s.args 0,nth s.args 1,nth i.args 1]->SlRd W8 (.slice a8 n8 k8) [(⟨23,i.dst,0,nth s.args 0,nth s.args 1,nth i.args 1,⟨0⟩,[]⟩:aF)]->Slk ρ [(8,ptr R)]->
            ∀(po:OP) (us:List (Nat × Value)) (x y2:Operand),asg us x=ptr R->asg us y2 = .agg (outV (.slice a9 n9 k9) (.slice a6 n6 k6) (.slice a8 n8 k8) RN).toArray->
            @Lft.step po RP (.store T.aG x y2) 0 us h8 λ_ h'=>LC.wp RP y (fe 0 (eU (LC.wp RP z (cO [.un (.aZ 9) (.tmp 8)] K)) (cO [.un (.aZ 9) (.tmp 8)] K))) ρ h':=by
          intro W8 h8 ρ a9 n9 k9 a8 n8 k8 hW8 c8 s9 s8 hL po us x y2 ex ey
          have hr:Rd W8 (.agg (outV (.slice a9 n9 k9) (.slice a6 n6 k6) (.slice a8 n8 k8) RN).toArray) (⟨⟨[nth s.args 0,nth s.args 1,nth i.args 1],[nth i.args 0],[⟨23,i.dst,0,nth s.args 0,nth s.args 1,nth i.args 1,⟨0⟩,[]⟩],cy⟩,RN⟩:FitR):=qM s9 (rut.mono (RE hW5 hW8)) s8
          refine c8.aK (k:=(0,0)) ho hr rfl rfl R1 ex ey λh6 l6 hl6 c6=>?_
          rw[hy]
          have g8:=hL (8,ptr R) Sa
          simp at g8
          simp[g8,af,ag,c6.all (k:=(0,0)) Own.aj]
          exact fin _ _ _ _ _ c6 (hl6▸hr) (by rw[er];rfl) (λy hy=>by rw[er]at hy;cases hy;rfl)
        clear hy
        refine aH W5 c5.wle ?_
        refine eg ?_ ?_
        · refine aw λw hw=>?_
          simp[g5,g15,af,ag,ii1,ii3,j3,q9,dd9,jx0,jd0,jx1,jd1,hut]
          refine c5.ez (α:=Int) (n:=3) (vs:=[RG RH (nth s.args 0),RG RH (nth s.args 1),RG RH (nth i.args 1)]) (ds:=[nth s.args 0,nth s.args 1,nth i.args 1]) El.aQ Sa (r3) rfl R4 R4 λu9 h6 W6 hW6 c6 s9 hle6=>?_
          obtain⟨a9,n9,k9,rfl⟩:=eR s9
          refine⟨RE c5.wle hle6,?_⟩
          subst hw
          refine aw λw hw=>?_
          simp[af,ag]
          refine ak (z:=.agg ma.toArray) (places:=nE) (vs:=[(0,RG RH 23),(1,RG RH i.dst),(3,RG RH (nth s.args 0)),(4,RG RH (nth s.args 1)),(5,RG RH (nth i.args 1))]) (cs:=(mchV 23 i.dst 0 (nth s.args 0) (nth s.args 1) (nth i.args 1) 0 (RL RK 0 0)).toArray) R1 R1 Sa R1 ?_
          refine⟨RE c5.wle hle6,?_⟩
          subst hw
          refine aw λw hw=>?_
          simp[af,ag]
          refine c6.ez (α:=aF) (n:=1) (vs:=[.agg (mchV 23 i.dst 0 (nth s.args 0) (nth s.args 1) (nth i.args 1) 0 (RL RK 0 0)).toArray]) (ds:=[(⟨23,i.dst,0,nth s.args 0,nth s.args 1,nth i.args 1,⟨0⟩,[]⟩:aF)]) El.cW Sa ⟨hmD.mono hW6,trivial⟩ rfl R4 R4 λu8 h7 W7 hW7 c7 s8 hle7=>?_
          obtain⟨a8,n8,k8,rfl⟩:=eR s8
          refine⟨RE c5.wle (RE hle6 hle7),?_⟩
          subst hw
          refine aw λw hw=>?_
          simp[af,ag]
          refine ak (z:=.agg bj.toArray) (places:=fitP) (vs:=[(0,.slice a9 n9 k9),(1,.slice a6 n6 k6),(2,.slice a8 n8 k8),(4,.bool RN)]) (cs:=(outV (.slice a9 n9 k9) (.slice a6 n6 k6) (.slice a8 n8 k8) RN).toArray) R1 R1 Sa R1 ?_
          subst hw
          refine aw λw hw=>?_
          simp[af,ag,g8]
          subst hw
          simp
          refine last W7 _ _ a9 n9 k9 a8 n8 k8 (RE hW6 hW7) c7 (s9.mono hW7) s8 ?_ _ _ _ _ Sa Sa
          simp[bn,bS,af,ag,g8]
        · refine aw λw hw=>?_
          simp[g5,g15,af,ag,ii1,ii3,j3,q9,dd9,jx0,jd0,jx1,jd1,hut]
          refine ak (z:=.agg ma.toArray) (places:=nE) (vs:=[(0,RG RH 23),(1,RG RH i.dst),(3,RG RH (nth s.args 0)),(4,RG RH (nth s.args 1)),(5,RG RH (nth i.args 1))]) (cs:=(mchV 23 i.dst 0 (nth s.args 0) (nth s.args 1) (nth i.args 1) 0 (RL RK 0 0)).toArray) R1 R1 Sa R1 ?_
          refine⟨c5.wle,?_⟩
          subst hw
          refine eg ?_ ?_
          · refine aw λw hw=>?_
            simp[af,ag]
            refine c5.ez (α:=Int) (n:=3) (vs:=[RG RH (nth s.args 0),RG RH (nth s.args 1),RG RH (nth i.args 1)]) (ds:=[nth s.args 0,nth s.args 1,nth i.args 1]) El.aQ Sa (r3) rfl R4 R4 λu9 h6 W6 hW6 c6 s9 hle6=>?_
            obtain⟨a9,n9,k9,rfl⟩:=eR s9
            refine⟨RE c5.wle hle6,?_⟩
            subst hw
            refine aw λw hw=>?_
            simp[af,ag]
            refine c6.ez (α:=aF) (n:=1) (vs:=[.agg (mchV 23 i.dst 0 (nth s.args 0) (nth s.args 1) (nth i.args 1) 0 (RL RK 0 0)).toArray]) (ds:=[(⟨23,i.dst,0,nth s.args 0,nth s.args 1,nth i.args 1,⟨0⟩,[]⟩:aF)]) El.cW Sa ⟨hmD.mono hW6,trivial⟩ rfl R4 R4 λu8 h7 W7 hW7 c7 s8 hle7=>?_
            obtain⟨a8,n8,k8,rfl⟩:=eR s8
            refine⟨RE c5.wle (RE hle6 hle7),?_⟩
            subst hw
            refine aw λw hw=>?_
            simp[af,ag]
            refine ak (z:=.agg bj.toArray) (places:=fitP) (vs:=[(0,.slice a9 n9 k9),(1,.slice a6 n6 k6),(2,.slice a8 n8 k8),(4,.bool RN)]) (cs:=(outV (.slice a9 n9 k9) (.slice a6 n6 k6) (.slice a8 n8 k8) RN).toArray) R1 R1 Sa R1 ?_
            subst hw
            refine aw λw hw=>?_
            simp[af,ag,g8]
            subst hw
            simp
            refine last W7 _ _ a9 n9 k9 a8 n8 k8 (RE hW6 hW7) c7 (s9.mono hW7) s8 ?_ _ _ _ _ Sa Sa
            simp[bn,bS,af,ag,g8]
          · refine aw λw hw=>?_
            simp[af,ag]
            refine c5.ez (α:=aF) (n:=1) (vs:=[.agg (mchV 23 i.dst 0 (nth s.args 0) (nth s.args 1) (nth i.args 1) 0 (RL RK 0 0)).toArray]) (ds:=[(⟨23,i.dst,0,nth s.args 0,nth s.args 1,nth i.args 1,⟨0⟩,[]⟩:aF)]) El.cW Sa ⟨hmD,trivial⟩ rfl R4 R4 λu8 h6 W6 hW6 c6 s8 hle6=>?_
            obtain⟨a8,n8,k8,rfl⟩:=eR s8
            refine⟨RE c5.wle hle6,?_⟩
            subst hw
            refine aw λw hw=>?_
            simp[af,ag]
            refine c6.ez (α:=Int) (n:=3) (vs:=[RG RH (nth s.args 0),RG RH (nth s.args 1),RG RH (nth i.args 1)]) (ds:=[nth s.args 0,nth s.args 1,nth i.args 1]) El.aQ Sa (r3.mono hW6) rfl R4 R4 λu9 h7 W7 hW7 c7 s9 hle7=>?_
            obtain⟨a9,n9,k9,rfl⟩:=eR s9
            refine⟨RE c5.wle (RE hle6 hle7),?_⟩
            subst hw
            refine aw λw hw=>?_
            simp[af,ag]
            refine ak (z:=.agg bj.toArray) (places:=fitP) (vs:=[(0,.slice a9 n9 k9),(1,.slice a6 n6 k6),(2,.slice a8 n8 k8),(4,.bool RN)]) (cs:=(outV (.slice a9 n9 k9) (.slice a6 n6 k6) (.slice a8 n8 k8) RN).toArray) R1 R1 Sa R1 ?_
            subst hw
            refine aw λw hw=>?_
            simp[af,ag,g8]
            subst hw
            simp
            refine last W7 _ _ a9 n9 k9 a8 n8 k8 (RE hW6 hW7) c7 s9 (s8.mono hW7) ?_ _ _ _ _ Sa Sa
            simp[bn,bS,af,ag,g8]
    clear hy
    refine aH W2 c3.wle ?_
    refine eg ?_ ?_
    · refine aw λw hw=>?_
      simp[huf,i3,q0,d0]
      refine ah R1 (iM c3.wle ruf hsm) ?_
      rintro _ h4 ⟨hle4,vi,rfl,hvi⟩
      have c4:=c3.ext hle4
      subst hw
      simp
      refine c4.dA (α:=InsD) hvi (n:=5) (z:=.agg insV.toArray) R1 rfl rfl R1 R5 R5 λS h5 W5 hW5 c5 hat5 hle5=>?_
      refine rest W5 h5 _ S _ (RE c3.up hW5) c5 Own.aj hat5 ?_
      simp[bn,bS,Lft.look]
    · refine aw λw hw=>?_
      simp[huf,i3,q0,d0]
      refine c3.cZ (k:=(0,5)) (z:=.agg insV.toArray) (d:=eV) RA R1 iN R4 λS h4 hle4 c4=>?_
      refine⟨c4.wle,?_⟩
      subst hw
      refine aw λw hw=>?_
      simp
      refine ah R1 (iM c4.wle ruf hsm) ?_
      rintro _ h5 ⟨hle5,vi,rfl,hvi⟩
      have hW5:=c4.up (h':=h5)
      have c5:=c4.ext hle5
      subst hw
      simp
      refine c5.cI Part.all (k:=(0,5)) (D:=eV) (d:=(cV f (nth i.args 0) 4).1) RA R1 Sa Sa hvi λh6 c6=>?_
      obtain⟨W6,hW6,c7,hat7⟩:=c6.pj (k:=(0,5)) (B:=S) (d:=(cV f (nth i.args 0) 4).1) RA
      refine rest W6 h6 _ S _ (RE hW5 hW6) c7 RA hat7 ?_
      simp[bn,bS,Lft.look]
  have x4:=e1 22 2 p3
  refine cL RA (by simp[i0c,x4]) ?_
  by_cases p4:(23<=pat/\pat<=26)/\i.op=15
  · obtain⟨qr,po⟩:=p4
    refine cJ RA (by simp[i0c,po,qr.1,qr.2]) ?_
    obtain⟨k,hk⟩ : ∃k:Nat,pat-23=k:=⟨(pat-23).toNat,by omega⟩
    have ew:IntKind.i64.wrap (pat-23)=(k:Int):=by rw[bh R3 R3,hk]
    have mo:D1 i 24 25:=⟨by have a:=hex.one;have b:=hex.two;simp only[po]at a b ⊢;simp at a b ⊢;omega⟩
    have er:patS f i t pat=memS f i t i.op 24 25 k:=by
      have ek:k=(pat-23).toNat:=by omega
      rw[ek]
      clear hk ew ek
      have:pat=23\/pat=24\/pat=25\/pat=26:=by omega
      rcases this with rfl | rfl | rfl | rfl<;>(rw[mC ⟨R4,R4⟩ po,po];rfl)
    refine aa λw hw=>?_
    simp[Un.dk c3.wle huf,Un.dk c3.wle hui,ew]
    refine ah R1 (tu (way:=k) c3.wle ruf rui hsm hall hr mo R3 ht) ?_
    rintro u4 h4 ⟨hle4,x,rx,ox,yx⟩
    have c4:=c3.ext hle4
    refine c4.aK (k:=(0,0)) Own.aj rx rfl rfl R1 Sa Sa λh5 l5 hl5 c5=>?_
    subst hw
    simp[c5.all (k:=(0,0)) Own.aj]
    exact fin _ _ _ _ _ c5 (hl5▸rx) (by rw[er];exact ox) (λy hy=>by rw[er]at hy;exact yx y hy)
  have x5:(decide (23<=pat)&&decide (pat<=26)&&decide (i.op=15))=false:=by simpa[and_assoc]using p4
  refine cL RA (by simp[i0c,x5]) ?_
  by_cases p5:(27<=pat/\pat<=30)/\i.op=16
  · obtain⟨qr,po⟩:=p5
    refine cJ RA (by simp[i0c,po,qr.1,qr.2]) ?_
    obtain⟨k,hk⟩ : ∃k:Nat,pat-27=k:=⟨(pat-27).toNat,by omega⟩
    have ew:IntKind.i64.wrap (pat-27)=(k:Int):=by rw[bh R3 R3,hk]
    have mo:D1 i 26 27:=⟨by have a:=hex.one;have b:=hex.two;simp only[po]at a b ⊢;simp at a b ⊢;omega⟩
    have er:patS f i t pat=memS f i t i.op 26 27 k:=by
      have ek:k=(pat-27).toNat:=by omega
      rw[ek]
      clear hk ew ek
      have:pat=27\/pat=28\/pat=29\/pat=30:=by omega
      rcases this with rfl | rfl | rfl | rfl<;>(rw[mC ⟨R4,R4⟩ po,po];rfl)
    refine aa λw hw=>?_
    simp[Un.dk c3.wle huf,Un.dk c3.wle hui,ew]
    refine ah R1 (tu (way:=k) c3.wle ruf rui hsm hall hr mo R3 ht) ?_
    rintro u4 h4 ⟨hle4,x,rx,ox,yx⟩
    have c4:=c3.ext hle4
    refine c4.aK (k:=(0,0)) Own.aj rx rfl rfl R1 Sa Sa λh5 l5 hl5 c5=>?_
    subst hw
    simp[c5.all (k:=(0,0)) Own.aj]
    exact fin _ _ _ _ _ c5 (hl5▸rx) (by rw[er];exact ox) (λy hy=>by rw[er]at hy;exact yx y hy)
  have x6:(decide (27<=pat)&&decide (pat<=30)&&decide (i.op=16))=false:=by simpa[and_assoc]using p5
  refine cL RA (by simp[i0c,x6]) ?_
  by_cases p6:pat=31/\i.op=17
  · obtain⟨rfl,po⟩:=p6
    refine cJ RA (by simp[i0c,po]) ?_
    have er:patS f i t 31=RJ ⟨i.args,[],[⟨28,i.dst,0,0,0,0,i.imm,i.args⟩],cy⟩:=by rw[mC ⟨R4,R4⟩ po];rfl
    refine aa λw hw=>?_
    simp[i1c,i3c,i4c]
    refine ak (z:=.agg ma.toArray) (places:=nE) (vs:=[(0,RG RH 28),(1,RG RH i.dst),(6,RG RI i.imm.v),(7,.slice a5 n5 m5)]) (cs:=(mchV 28 i.dst 0 0 0 0 i.imm.v (.slice a5 n5 m5)).toArray) R1 R1 Sa R1 ?_
    have hm:Rd W2 (.agg (mchV 28 i.dst 0 0 0 0 i.imm.v (.slice a5 n5 m5)).toArray) (⟨28,i.dst,0,0,0,0,i.imm,i.args⟩:aF):=dT R9 r4 si
    refine c3.ez (α:=aF) (n:=1) (vs:=[.agg (mchV 28 i.dst 0 0 0 0 i.imm.v (.slice a5 n5 m5)).toArray]) (ds:=[(⟨28,i.dst,0,0,0,0,i.imm,i.args⟩:aF)]) El.cW Sa ⟨hm,trivial⟩ rfl R4 R4 λu8 h8 W8 hW8 c8 s8 hle8=>?_
    obtain⟨a8,n8,k8,rfl⟩:=eR s8
    refine ak (z:=.agg bj.toArray) (places:=fitP) (vs:=[(0,.slice a5 n5 m5),(2,.slice a8 n8 k8),(4,.bool RN)]) (cs:=(outV (.slice a5 n5 m5) (RL RK 0 0) (.slice a8 n8 k8) RN).toArray) R1 R1 Sa R1 ?_
    have hr:Rd W8 (.agg (outV (.slice a5 n5 m5) (RL RK 0 0) (.slice a8 n8 k8) RN).toArray) (⟨⟨i.args,[],[⟨28,i.dst,0,0,0,0,i.imm,i.args⟩],cy⟩,RN⟩:FitR):=qM (si.mono hW8) aE s8
    refine c8.aK (k:=(0,0)) Own.aj hr rfl rfl R1 Sa Sa λh5 l5 hl5 c5=>?_
    subst hw
    simp[c5.all (k:=(0,0)) Own.aj]
    exact fin _ _ _ _ _ c5 (hl5▸hr) (by rw[er];rfl) (λy hy=>by rw[er]at hy;cases hy;rfl)
  have x7:=e1 31 17 p6
  refine cL RA (by simp[i0c,x7]) ?_
  by_cases p7:pat=32/\i.op=18
  · obtain⟨rfl,po⟩:=p7
    refine cJ RA (by simp[i0c,po]) ?_
    have er:patS f i t 32=RJ ⟨i.args,[],[⟨29,i.dst,i.two,nth i.args 0,nth i.args 1,0,⟨0⟩,[]⟩],cy⟩:=by rw[mC ⟨R4,R4⟩ po];rfl
    have hl:=hex.two (.inr (.inr po))
    obtain⟨q0,d0,b0⟩:=at0 R3
    obtain⟨q9,d9,b9⟩:=at1 R3
    obtain⟨b01,b02⟩:=b0
    obtain⟨b91,b92⟩:=b9
    refine aa λw hw=>?_
    refine aH W2 c3.wle ?_
    simp[i1,i2,i3,q0,d0,q9,d9]
    refine ak (z:=.agg ma.toArray) (places:=nE) (vs:=[(0,RG RH 29),(1,RG RH i.dst),(2,RG RH i.two),(3,RG RH (nth i.args 0)),(4,RG RH (nth i.args 1))]) (cs:=(mchV 29 i.dst i.two (nth i.args 0) (nth i.args 1) 0 0 (RL RK 0 0)).toArray) R1 R1 Sa R1 ?_
    have hm:Rd W2 (.agg (mchV 29 i.dst i.two (nth i.args 0) (nth i.args 1) 0 0 (RL RK 0 0)).toArray) (⟨29,i.dst,i.two,nth i.args 0,nth i.args 1,0,⟨0⟩,[]⟩:aF):=dT (imm:=⟨0⟩) R9 Sa aE
    refine⟨c3.wle,?_⟩
    refine c3.ez (α:=aF) (n:=1) (vs:=[.agg (mchV 29 i.dst i.two (nth i.args 0) (nth i.args 1) 0 0 (RL RK 0 0)).toArray]) (ds:=[(⟨29,i.dst,i.two,nth i.args 0,nth i.args 1,0,⟨0⟩,[]⟩:aF)]) El.cW Sa ⟨hm,trivial⟩ rfl R4 R4 λu8 h8 W8 hW8 c8 s8 hle8=>?_
    obtain⟨a8,n8,k8,rfl⟩:=eR s8
    refine⟨RE c3.wle hle8,?_⟩
    refine ak (z:=.agg bj.toArray) (places:=fitP) (vs:=[(0,.slice a5 n5 m5),(2,.slice a8 n8 k8),(4,.bool RN)]) (cs:=(outV (.slice a5 n5 m5) (RL RK 0 0) (.slice a8 n8 k8) RN).toArray) R1 R1 Sa R1 ?_
    have hr:Rd W8 (.agg (outV (.slice a5 n5 m5) (RL RK 0 0) (.slice a8 n8 k8) RN).toArray) (⟨⟨i.args,[],[⟨29,i.dst,i.two,nth i.args 0,nth i.args 1,0,⟨0⟩,[]⟩],cy⟩,RN⟩:FitR):=qM (si.mono hW8) aE s8
    refine c8.aK (k:=(0,0)) Own.aj hr rfl rfl R1 Sa Sa λh5 l5 hl5 c5=>?_
    subst hw
    simp[c5.all (k:=(0,0)) Own.aj]
    exact fin _ _ _ _ _ c5 (hl5▸hr) (by rw[er];rfl) (λy hy=>by rw[er]at hy;cases hy;rfl)
  have x8:=e1 32 18 p7
  refine cL RA (by simp[i0c,x8]) ?_
  have er:patS f i t pat=none:=by
    unfold patS
    rw[if_neg]
    rintro⟨g1,g2,g3⟩
    have:pat=1\/pat=2\/pat=22\/(23<=pat/\pat<=26)\/(27<=pat/\pat<=30)\/pat=31\/pat=32:=by omega
    rcases this with rfl | rfl | rfl | hh | hh | rfl | rfl
    · exact p1 ⟨rfl,g3⟩
    · exact p2 ⟨rfl,g3⟩
    · exact p3 ⟨rfl,g3⟩
    · refine p4 ⟨hh,?_⟩
      rw[g3];unfold opOf
      rw[if_neg R3,if_neg R3,if_neg R3,if_neg R3,if_neg R3,if_neg R3,if_pos R3]
    · refine p5 ⟨hh,?_⟩
      rw[g3];unfold opOf
      rw[if_neg R3,if_neg R3,if_neg R3,if_neg R3,if_neg R3,if_neg R3,if_neg R3,if_pos R3]
    · exact p6 ⟨rfl,g3⟩
    · exact p7 ⟨rfl,g3⟩
  simp
  subst hz
  simp
  refine ak (z:=.agg bj.toArray) (places:=fitP) (vs:=[]) (cs:=bj.toArray) R1 R1 Sa R1 ?_
  have hr:Rd W2 (.agg bj.toArray) (⟨nw,RO⟩:FitR):=gZ
  refine c3.aK (k:=(0,0)) Own.aj hr rfl rfl R1 Sa Sa λh5 l5 hl5 c5=>?_
  simp[c5.all (k:=(0,0)) Own.aj]
  exact fin _ _ _ _ _ c5 (hl5▸hr) (by rw[er];rfl) (λy hy=>by rw[er]at hy;cases hy)
def lP:Option FitD->FitR
 | some y=>⟨y,RN⟩
 | none=>⟨nw,RO⟩
theorem E8{H:View}{l:List Value}{x:FitR}(h:Rd H (.agg l.toArray) x):l.getD 8 undef = .bool x.ok/\l.length=9:=by have h:=ta (α:=FitR) rfl h;obtain⟨c1,c2,e,h1,h2⟩:=h;have hl:=Rep.len h1;have e2:c2=[.bool x.ok]:=h2;subst e2;simp at e;rw[e];have hl:c1.length=8:=hl;refine⟨?_,by simp[hl]⟩;rw[Py,Q6 R3,hl];rfl
set_option maxHeartbeats 2000000 in
theorem GQ{f:aq}{v:Value}{b p t:Int}{h:Heap}(hW:W.le (vw h))(hv:Rd W v f)(m:nD f)(hsm:SmF f)(hp:I64 pat)(ht:I64 t):
  az RP 37 #[v,RG RH b,RG RH p,RG RH pat,RG RH t] h (λu h'=>(vw h).le (vw h')/\Rd (grow W h h') u (lP (fitS f b p pat t))):=by
 refine ao (args:=[v,RG RH b,RG RH p,RG RH pat,RG RH t]) follows Tryz.func37 E.tB RB λK hK=>?_;dsimp only[L.tB,lkF,lkG];have hr:=wL hv;have hall:=wX m hsm;have hex:=JD m;have c0:=Cx.start hW;refine aa λz hz=>?_;simp;refine c0.cu rfl hv λF1 h1 W1 hW1 c1 hat1 hle1=>?_;refine c1.bU (k:=(0,0)) (n:=8) (z:=.agg bj.toArray) rfl R1 rfl R4 R8 λR h3 hle3 c3=>?_;subst hz;obtain⟨uf,huf,ruf⟩:=hat1.ldN rfl (N:=2) rfl;obtain⟨vb,kb,sb⟩:=(hat1.part aq.qj).sl;have kb:an W1 ⟨F1,1,RK⟩=RJ vb:=by simpa using kb
 have kbc:=ae c3.wle kb;have bdb:=sb.bound;have zero : ∀(W':View) (h9:Heap) (o:Own),Cx W h W' h9 o->o (0,0)=bx T.aG R (RawN.mk (n:=8) bj)->fitS f b p pat t=RK->∀(po po2:OP) (ty:TypeId) (us:List (Nat × Value)) (us2:Value->List (Nat × Value)) (x y:Operand) (K2:Heap->Prop),(∀u,asg (us2 u) x=ptr R)->(∀u,asg (us2 u) y=u)->
   (∀h' l',Cx W h W' h' (o.upd (0,0) (bx T.aG R (RawN.mk (n:=8) l')))->K (.agg l'.toArray) h'->K2 h')->
   @Lft.step po RP (.build T.aG #[]) ty us h9 λu h'=>@Lft.step po2 RP (.store T.aG x y) 0 (us2 u) h' λ_ h2=>K2 h2:=by intro W' h9 o c ho er po po2 ty us us2 x y K2 hx hy hk;refine ak (z:=.agg bj.toArray) (places:=fitP) (vs:=[]) (cs:=bj.toArray) R1 R1 Sa R1 ?_;have hr:Rd W' (.agg bj.toArray) (⟨nw,RO⟩:FitR):=gZ;refine c.aK (k:=(0,0)) ho hr rfl rfl R1 (hx _) (hy _) λh5 l5 hl5 c5=>?_;refine hk h5 l5 c5 (hK _ _ ⟨c5.le0,?_⟩);rw[er,<-hl5];exact hr.mono c5.fin
 refine aa λz hz=>?_;cases hpl:dy f b p with
 | false=>
  have er:fitS f b p pat t=none:=by unfold fitS;rw[hpl];rfl
  have hv : ∃e:Bool,e=RN/\True:=⟨RN,rfl,trivial⟩;clear hv;have hcase:b<0\/(0<=b/\(f.blocks.length:Int)<=b)\/(0<=b/\b<f.blocks.length/\p<0)\/(0<=b/\b<f.blocks.length/\0<=p/\((nth f.blocks b.toNat).ins.length:Int)<p):=by simp[dy]at hpl;omega
  refine cJ RA ?_ ?_
  ·rcases hcase with h0 | ⟨h0,h1⟩ | ⟨h0,h1,h2⟩ | ⟨h0,h1,h2,h3⟩
   ·simp[h0]
   ·have:¬b<0:=by omega
    simp[this,kbc,sb.len,h1]
   ·have h0':¬b<0:=by omega
    have h1':¬(f.blocks.length:Int)<=b:=by omega
    simp[h0',kbc,sb.len,h1',h2]
   have h0':¬b<0:=by omega
   have h1':¬(f.blocks.length:Int)<=b:=by omega
   have h2':¬p<0:=by omega
   have hatb:=sb.at (i:=b.toNat) R3;rw[<-aA R3]at hatb;obtain⟨vi,ci,si⟩:=(hatb.part BlkD.jY).sl;have n6:Rep.n BlkD=6:=rfl;rw[n6]at ci;have q:=sb.idxn (k:=.i64) (N:=6) rfl (i:=b) R3 R3;simp[h0',kbc,sb.len,h1',h2',q,ae c3.wle ci,si.len,h3]
  simp;exact zero W1 h3 _ c3 Own.aj er _ _ _ _ (λu=>[(10,ptr R),(37,u)]) _ _ _ R5 R5 λh' l' c' hk=>by simp[c'.all (k:=(0,0)) Own.aj];exact hk
 | true=>
  have hpl2:=hpl;simp[dy]at hpl2;obtain⟨⟨⟨g1,g2⟩,g3⟩,g4⟩:=hpl2;have h0':¬b<0:=by omega
  have h1':¬(f.blocks.length:Int)<=b:=by omega
  have h2':¬p<0:=by omega
  have h3':¬((nth f.blocks b.toNat).ins.length:Int)<p:=by omega
  have hatb:=sb.at (i:=b.toNat) R3;rw[<-aA R3]at hatb;obtain⟨ub,hub,rub⟩:=hatb.ldN rfl (N:=6) rfl;obtain⟨vi,ci,si⟩:=(hatb.part BlkD.jY).sl;have n6:Rep.n BlkD=6:=rfl;rw[n6]at ci hub;have q:=sb.idxn (k:=.i64) (N:=6) rfl (i:=b) R3 R3;refine cL RA ?_ ?_
  ·simp[h0',kbc,sb.len,h1',h2',q,ae c3.wle ci,si.len,h3']
  simp;subst hz;refine aa λz hz=>?_;simp[kbc,q,hub _ c3.wle];refine c3.dA (α:=BlkD) rub (n:=6) (z:=.agg #[RL RK 0 0,RL RK 0 0,RG RH 0,RL RK 0 0,RL RK 0 0,RG RI 0]) R1 rfl rfl R1 R5 R5 λB1 h4 W4 hW4 c4 hat4 hle4=>?_;subst hz;refine aa λz hz=>?_;simp;refine ak (z:=.agg bj.toArray) (places:=fitP) (vs:=[]) (cs:=bj.toArray) R1 R1 Sa R1 ?_;refine c4.bU (k:=(0,1)) (n:=8) (z:=.agg bj.toArray) RA R1 rfl R4 R8 λOB h5 hle5 c5=>?_;refine c5.iR (k:=(0,1)) (n:=8) (l':=bj) RA R1 Sa Sa rfl R7 λh6 c6=>?_;subst hz;refine aa λz hz=>?_;have hbl:b.toNat<f.blocks.length:=by omega
  have htk:=Bs m hsm hbl;have hins : ∀k:Nat,k<(nth f.blocks b.toNat).ins.length->nth (nth f.blocks b.toNat).ins k∈dM f:=λk hk=>gS.2 ⟨_,_,hbl,hk,rfl⟩;have hfit:fitS f b p pat t=tryS (eK f b p t) pat:=by unfold fitS;rw[hpl];rfl
  have hsite:eK f b p t=if p=(nth f.blocks b.toNat).ins.length then⟨f,eV,(nth f.blocks b.toNat).term,RN,t⟩ else⟨f,nth (nth f.blocks b.toNat).ins p.toNat,oT,RO,t⟩:=rfl;generalize nth f.blocks b.toNat=bk at hat4 rub htk hins hfit hsite g4;obtain⟨-,vi4,-,-,-,⟨k1,s1⟩,-⟩:=jm hat4;have k1c:=ae c6.wle k1;obtain⟨ut,hut,rut⟩:=(hat4.part BlkD.mY).ldN rfl (N:=4) rfl;have rest : ∀(W7:View) (h7:Heap) (ρ:Env) (u:Value) (x:FitR) (po:OP) (us:List (Nat × Value)) (y2 y3:Operand),W4.le W7->Cx W h W7 h7 (Own.upd (Own.upd (Own.upd (λ_=>RK) (0,0) (bx T.aG R (RawN.mk (n:=8) bj))) (0,1) (bx T.aG OB (RawN.mk (n:=8) bj))) (0,1) (bx T.aG OB (RawN.mk (n:=8) bj)))->
    Rd W7 u x->x.ok=(fitS f b p pat t).isSome->(∀y,fitS f b p pat t=RJ y->x.fit=y)->asg us y2=ptr OB->asg us y3=u->Slk ρ [(10,ptr R),(12,ptr OB)]->
    @Lft.step po RP (.store T.aG y2 y3) 0 us h7 λ_ h'=>LC.wp RP z (cO [.un (.aZ 9) (.tmp 10)] K) ρ h':=by
   intro W7 h7 ρ u x po us y2 y3 hW7 c7 rx ox yx e2 e3 hL;refine c7.aK (k:=(0,1)) (n:=8) (l:=bj) RA rx rfl rfl R1 e2 e3 λh8 l8 hl8 c8=>?_;subst hl8;obtain⟨hok8,hl8⟩:=E8 rx;subst hz;have g:=hL;simp only[bn,bS,and_true]at g;obtain⟨g10,g12⟩:=g;have hcell:=c8.own.raw (k:=(0,1)) (n:=8) (e:=T.aG) (B:=OB) (l:=l8) Own.aj (i:=8) R4;rw[hok8]at hcell;refine aa λz hz=>?_;cases hx:x.ok with
   | false=>
    have er:fitS f b p pat t=none:=by
     rw[hx]at ox;cases hh:fitS f b p pat t with
     | none=>rfl
     | some y=>rw[hh]at ox;cases ox
    refine dh _ RN hL RA (by simp[g12,hcell,hx]) λρ2 hL2=>?_;simp only[cond_true];simp only[bn,bS,and_true]at hL2;obtain⟨m10,m12⟩:=hL2;simp[m10,af,ag];exact zero W7 h8 _ c8 RA er _ _ _ _ (λu=>[(10,ptr R),(66,u)]) _ _ _ R5 R5 λh' l' c' hk=>by simp[m10,af,ag,c'.all (k:=(0,0)) Own.aj];exact hk
   | true=>
    refine dh _ RO hL RA (by simp[g12,hcell,hx]) λρ2 hL2=>?_;simp only[cond_false];simp only[bn,bS,and_true]at hL2;obtain⟨m10,m12⟩:=hL2;simp;subst hz;have hall:=c8.all (k:=(0,1)) (n:=8) (B:=OB) (e:=T.aG) (l:=l8) Own.aj;simp at hall;simp[m10,m12,af,ag,hall];refine c8.aK (k:=(0,0)) (n:=8) (l:=bj) RA rx rfl rfl R1 Sa Sa λh13 l13 hl13 c13=>?_;have hall2:=c13.all (k:=(0,0)) (n:=8) (l:=l13) (B:=R) (e:=T.aG) Own.aj;simp at hall2;simp[m10,af,ag,hall2];refine hK _ _ ⟨c13.le0,?_⟩;obtain⟨y,hy⟩ : ∃y,fitS f b p pat t=RJ y:=PB.1 (by rw[<-ox,hx]);have:x=lP (fitS f b p pat t):=by rw[hy];show x=⟨y,RN⟩;have h1:=yx y hy;cases x;simp_all
    rw[<-this,<-hl13];exact rx.mono c13.fin
  clear hz;have hW14:=RE hW4 (View.le_refl W4);by_cases hend:p=bk.ins.length
  ·refine cJ RA (by simp[k1c,s1.len,hend]) ?_;have huf6:=huf _ (RE hW4 c6.wle);have hut6:=hut _ c6.wle;have n4:Rep.n cB=4:=rfl;simp at hut6;simp[huf6,hut6];refine ah R1 (Dh c6.wle (ruf.mono hW4) rut hsm hall htk hp) ?_;rintro u7 h7 ⟨hle7,x,rx,ox,yx⟩;have er:fitS f b p pat t=eh f bk.term pat:=by rw[hfit,hsite,if_pos hend];rfl
   refine rest _ h7 _ u7 x _ _ _ _ c6.up (c6.ext hle7) rx (by rw[er];exact ox) (by rw[er];exact yx) Sa Sa ?_;simp[bn,bS,Lft.look]
  refine cL RA (by simp[k1c,s1.len,hend]) ?_;have hpi:p.toNat<bk.ins.length:=by omega
  have hati:=s1.at hpi;rw[<-aA hpi]at hati;obtain⟨ui,hui,rui⟩:=hati.ldN rfl (N:=5) rfl;have n5:Rep.n InsD=5:=rfl;rw[n5]at hui;have q1:=s1.idxn (k:=.i64) (N:=5) rfl (i:=p) R3 R3;have huf6:=huf W4 hW4;refine aH W4 c6.wle ?_;simp[huf6,k1,q1,hui W4 RD];refine ah R1 (AX c6.wle (ruf.mono hW4) rui hsm hall (hex _ (hins _ hpi)) hr hp ht) ?_;rintro u7 h7 ⟨hle7,x,rx,ox,yx⟩;have er:fitS f b p pat t=patS f (nth bk.ins p.toNat) t pat:=by rw[hfit,hsite,if_neg hend];rfl
  refine rest _ h7 _ u7 x _ _ _ _ c6.up (c6.ext hle7) rx (by rw[er];exact ox) (by rw[er];exact yx) Sa Sa ?_;simp[bn,bS,Lft.look]
theorem AY{f:aq}{v:Value}{b p t:Int}{h:Heap}(hW:W.le (vw h))(hv:Rd W v f)(hsm:SmF f)(hp:I64 pat)(ht:I64 t):
  az RP 14 #[v,RG RH b,RG RH p,RG RH pat,RG RH t] h (λu h'=>(vw h).le (vw h')/\Rd (grow W h h') u (lP (dJ f b p pat t))):=by
 refine ao (args:=[v,RG RH b,RG RH p,RG RH pat,RG RH t]) follows Tryz.func14 E.nO RB λK hK=>?_;dsimp only[L.nO,lkF,lkG];have c0:=Cx.start hW;refine aa λz hz=>?_;simp;refine c0.cu rfl hv λF1 h1 W1 hW1 c1 hat1 hle1=>?_;refine c1.bU (k:=(0,0)) (n:=8) (z:=.agg bj.toArray) rfl R1 rfl R4 R8 λR h3 hle3 c3=>?_;subst hz;obtain⟨uf,huf,ruf⟩:=hat1.ldN rfl (N:=2) rfl;refine aa λz hz=>?_;refine aa λy hy=>?_;simp[huf _ c3.wle];refine ah R1 (Bd c3.wle ruf hsm) ?_;rintro _ h4 ⟨hle4,rfl⟩;have c4:=c3.ext hle4;simp;subst hy;cases hr:lV f with
 | false=>
  have er:dJ f b p pat t=none:=by unfold dJ;rw[hr];simp
  simp;refine ak (z:=.agg bj.toArray) (places:=fitP) (vs:=[]) (cs:=bj.toArray) R1 R1 Sa R1 ?_;have hr:Rd W1 (.agg bj.toArray) (⟨nw,RO⟩:FitR):=gZ;refine c4.aK (k:=(0,0)) Own.aj (hr.mono c3.up) rfl rfl R1 Sa Sa λh5 l5 hl5 c5=>?_;simp[c5.all (k:=(0,0)) Own.aj];refine hK _ _ ⟨c5.le0,?_⟩;rw[er,<-hl5];exact(hr.mono c3.up).mono c5.fin
 | true=>
  have er:dJ f b p pat t=fitS f b p pat t:=by unfold dJ fitS;rw[hr,Bool.and_true]
  simp;subst hz;refine aa λz hz=>?_;simp[huf _ (RE c3.up c4.wle)];refine ah R1 (GQ (b:=b) (p:=p) c4.wle (ruf.mono c3.up) (oB hr) hsm hp ht) ?_;rintro u5 h5 ⟨hle5,rx⟩;have c5:=c4.ext hle5;refine c5.aK (k:=(0,0)) Own.aj rx rfl rfl R1 Sa Sa λh6 l6 hl6 c6=>?_;subst hz;simp[c6.all (k:=(0,0)) Own.aj];refine hK _ _ ⟨c6.le0,?_⟩;rw[er,<-hl6];exact rx.mono c6.fin
def mT:List Int:=[1,2,1,1,3,1,1,1,1,1,1,1,1,1,12,1,1,1,1,1,1,3,2,2,2,4,1,1,1,3,6,4,1,1,1,1,2]
def allT:List fk:=rows (λi=>⟨(i:Int)+1,nth mT i⟩) 37
theorem tE{p c:Int}(hp:I64 p)(hc:I64 c):Rd W (.agg #[RG RH p,RG RH c]) (⟨p,c⟩:fk):=by unfold Rd;rw[if_pos (show Rep.agg fk=RN from rfl)];exact⟨_,rfl,[RG RH p],[RG RH c],rfl,⟨rfl,hp⟩,rfl,hc⟩
theorem xM {W:View} : ∀{l:List Int},(∀x∈l,I64 x)->na W (l.map λc=>RG RH c) l
 | [],_=>trivial
 | x::l,h=>⟨bg.2 ⟨rfl,h x (NX ..)⟩,xM λy hy=>h y (NZ _ hy)⟩
theorem y5: ∀x∈mT,1<=x/\x<=12:=by
 have h:mT.all (λx=>decide (1<=x)&&decide (x<=12))=true:=by kernel_rfl
 exact λx hx=>by simpa using OJ.1 h x hx
theorem Lg{h:Heap}:az RP 22 #[] h (λu h'=>(vw h).le (vw h')/\SlRd (vw h') u allT):=by
 refine ao (args:=[]) follows Tryz.func22 E.ic RB λK hK=>?_;dsimp only[L.ic,lkF,lkG];refine aa λz hz=>?_;simp;subst hz;refine aa λz hz=>?_;simp;subst hz;refine aa λz hz=>?_;simp;refine lA (α:=Int) (ds:=mT) (vs:=mT.map λc=>RG RH c) (X:=nothing) El.aQ R1 (xM λx hx=>by have:=y5 x hx;constructor<;>omega) rfl R4 R4 λuc h1 hle1 hs1 huc hb1=>?_;have huc:=huc (vw h1) (bO) rfl;have hl:=huc.len (K:=vw h1);have hl37:mT.length=37:=rfl;rw[hl37]at hl;simp[hl];refine aV [0,1,4,5,6] (fun(vo:Value) k=>[RL RK 0 0,vo,uc,RG RH 37,RG RH k])
   (λvo k h2=>Mine nothing h1 h2 nothing T.ny vo (rows (λi=>(⟨(i:Int)+1,nth mT i⟩:fk)) k)) 37 (RL RK 0 0)
   rfl R3 rfl (Mine.start bO) (λ_ _=>rfl) (λv i h1 hk m=>by simp) ?_ ?_
 ·rintro vo k h2 hk m K2 hK2;have hle:=m.old;have e1:=huc.idx1 (k:=.i64) (i:=(k:Int)) rfl R3 (by rw[hl37];omega);have e2:=ae hle (huc.int RD (i:=k) (by rw[hl37];omega));simp only[Ow]at e1;have hc:=y5 _ (bz (l:=mT) (i:=k) (by rw[hl37];omega));have ew:IntKind.i64.wrap ((k:Int)+1)=(k:Int)+1:=bh R3 R3;refine aa λy hy=>?_;simp[e1,e2];subst hy;simp[ew];refine ak (t:=T.ny) (z:=.agg #[RG RH 0,RG RH 0]) (places:=[(0,1),(1,1)]) (vs:=[(0,RG RH ((k:Int)+1)),(1,RG RH (nth mT k))]) (cs:=#[RG RH ((k:Int)+1),RG RH (nth mT k)]) R1 R1 Sa R1 ?_;refine m.push (u:=.agg #[RG RH ((k:Int)+1),RG RH (nth mT k)]) El.kP Sa (tE (by constructor<;>omega) (by constructor<;>omega)) R9 R9 R5 R5 λu v' h5 m'=>?_;refine hK2 v' _ _ rfl rfl ?_;rw[e9];exact m'
 rintro vo h2 m;simp;subst hz;simp;exact hK _ _ ⟨RE hle1 m.old,m.now⟩
theorem tw{a b:List Int}{va vb:Value}{h:Heap}(ha:SlRd (vw h) va a)(hb:SlRd (vw h) vb b):
  az RP 19 #[va,vb] h (λu h'=>u = .bool (decide (a=b))/\h'=h):=by
 refine ao (args:=[va,vb]) follows Tryz.func19 E.fg RB λK hK=>?_;have hbd:=ha.bound;dsimp only[L.fg,lkF,lkG];refine aa λz hz=>?_;simp;subst hz;refine aa λz hz=>?_;by_cases hl:a.length=b.length
 ·have hl':(a.length:Int)=b.length:=by omega
  simp[ha.len,hb.len,hl'];subst hz;refine aa λz hz=>?_;simp;refine bX [0,1,4,5] (fun(_:Unit) i=>[va,vb,.bool RO,RG RH i]) (λ_ i h3=>h3=h/\∀j,j<i->nth a j=nth b j) a.length ()
   rfl R3 rfl ⟨rfl,λj hj=>by omega⟩ (λ_ _=>rfl) (λv k h3 hk m=>by simp[ha.len]) ?_ ?_
  ·rintro _ i h hlti ⟨rfl,hpre⟩ K2 hK2;have e1:=ha.idx1 rfl (k:=.i64) (i:=(i:Int)) R3 R3;have e2:=hb.idx1 rfl (k:=.i64) (i:=(i:Int)) R3 R3;have e3:=ha.int RD (i:=i) hlti;have e4:=hb.int RD (i:=i) R3;simp only[Ow]at e1 e2;by_cases e:nth a i=nth b i
   ·simp[e1,e2,e3,e4,e];refine hK2 () _ _ rfl rfl ⟨rfl,λj hj=>?_⟩;rcases NQ j i with q | q
    ·exact hpre j q
    have:j=i:=by omega
    subst this;exact e
   simp[e1,e2,e3,e4,e];exact hK _ _ ⟨by rw[decide_eq_false];rintro rfl;exact e rfl,rfl⟩
  rintro _ h ⟨rfl,hpre⟩;have he:a=b:=Ps hl λj h1 h2=>by have:=hpre j h1;rwa [aA h1,aA h2]at this
  simp;subst hz;simp;exact hK _ _ ⟨by rw[decide_eq_true he],rfl⟩
 have hl':¬(a.length:Int)=b.length:=by omega
 simp[ha.len,hb.len,hl'];exact hK _ _ ⟨by rw[decide_eq_false];rintro rfl;exact hl rfl,rfl⟩
def xH (a b:aF):Bool:=decide (a.op=b.op)&&decide (a.d=b.d)&&decide (a.e=b.e)&&decide (a.a=b.a)&&decide (a.b=b.b)&&decide (a.c=b.c)&&decide (a.imm.v=b.imm.v)&&decide (a.args=b.args)
theorem Fu{a b:aF}:xH a b=RN↔a=b:=by unfold xH;obtain⟨a1,a2,a3,a4,a5,a6,⟨a7⟩,a8⟩:=a;obtain⟨b1,b2,b3,b4,b5,b6,⟨b7⟩,b8⟩:=b;simp[and_assoc]
def EM (a b:EndD):Bool:=decide (a.op=b.op)&&decide (a.a=b.a)&&decide (a.b=b.b)&&decide (a.imm.v=b.imm.v)&&decide (a.to=b.to)
theorem pH{ρ:Nat->Option Value}{H:View}{a b:E}{p q:Bool}(ha:ev ρ H a=RJ (.bool p))(hb:p=RN->ev ρ H b=RJ (.bool q)):ev ρ H (.ite a b (.con (.bool RO)))=RJ (.bool (p&&q)):=by
 cases p with
 | true=>simp[ha,hb rfl]
 | false=>simp[ha]
theorem nh{ρ:Nat->Option Value}{H:View}{a b:E}{k:IntKind}{x y:Int}(ha:ev ρ H a=RJ (.int k x))(hb:ev ρ H b=RJ (.int k y)):ev ρ H (.bin (.cmp .eql) a b)=RJ (.bool (decide (x=y))):=by simp[ha,hb]
theorem eH{ρ:Nat->Option Value}{H:View}{n off B:Nat}{v:Value}(h2:ρ n=RJ (RM (RJ ⟨B,0,RK⟩)))(hc:an H (Addr.add ⟨B,0,RK⟩ off)=RJ v):ev ρ H (.un .load (.un (.fld off) (.tmp n)))=RJ v:=by simp[h2];simpa using hc
theorem CD{a b:aF}{va vb:Value}{h:Heap}(hW:W.le (vw h))(ha:Rd W va a)(hb:Rd W vb b):
  az RP 40 #[va,vb] h (λu h'=>u = .bool (xH a b)/\(vw h).le (vw h')):=by
 refine ao (args:=[va,vb]) follows Tryz.func40 E.kf RB λK hK=>?_;dsimp only[L.kf,lkF,lkG];have c0:=Cx.start hW;refine aa λz hz=>?_;simp;refine c0.cu rfl ha λA h1 W1 hW1 c1 at1 hle1=>?_;refine c1.cu rfl (hb.mono hW1) λB h2 W2 hW2 c2 at2 hle2=>?_;have at1:=at1.mono hW2;subst hz;have a0:=ae c2.wle (at1.part aF.tN).int;have a1:=ae c2.wle (at1.part aF.MY).int;have a2:=ae c2.wle (at1.part aF.M9).int;have a3:=ae c2.wle (at1.part aF.Ks).int;have a4:=ae c2.wle (at1.part aF.LZ).int;have a5:=ae c2.wle (at1.part aF.MX).int;have b0:=ae c2.wle (at2.part aF.tN).int;have b1:=ae c2.wle (at2.part aF.MY).int;have b2:=ae c2.wle (at2.part aF.M9).int;have b3:=ae c2.wle (at2.part aF.Ks).int;have b4:=ae c2.wle (at2.part aF.LZ).int;have b5:=ae c2.wle (at2.part aF.MX).int;obtain⟨ua,ka,sa⟩:=(at1.part aF.eX).sl;obtain⟨ub,kb,sb⟩:=(at2.part aF.eX).sl;refine aa λz hz=>?_;generalize hc:(E.ite (E.ite (E.ite (E.ite (E.ite (E.ite _ _ _) _ _) _ _) _ _) _ _) _ _)=c;have a6:=ae c2.wle (at1.part aF.gx).i32;have b6:=ae c2.wle (at2.part aF.gx).i32;have hcv : ∀ρ:Nat->Option Value,ρ 2=RJ (RM (RJ ⟨A,0,RK⟩))->ρ 3=RJ (RM (RJ ⟨B,0,RK⟩))->ev ρ (vw h2) c=RJ (.bool (decide (a.op=b.op)&&decide (a.d=b.d)&&decide (a.e=b.e)&&decide (a.a=b.a)&&decide (a.b=b.b)&&decide (a.c=b.c)&&decide (a.imm.v=b.imm.v))):=λρ r2 r3=>by rw[<-hc];exact pH (pH (pH (pH (pH (pH (nh (eH r2 a0) (eH r3 b0)) λ_=>(nh (eH r2 a1) (eH r3 b1))) λ_=>(nh (eH r2 a2) (eH r3 b2))) λ_=>(nh (eH r2 a3) (eH r3 b3))) λ_=>(nh (eH r2 a4) (eH r3 b4))) λ_=>(nh (eH r2 a5) (eH r3 b5))) λ_=>(nh (eH r2 a6) (eH r3 b6))
 have hka:=ae c2.wle ka;have hkb:=ae c2.wle kb;simp at hka hkb;have key:xH a b=((decide (a.op=b.op)&&decide (a.d=b.d)&&decide (a.e=b.e)&&decide (a.a=b.a)&&decide (a.b=b.b)&&decide (a.c=b.c)&&decide (a.imm.v=b.imm.v))&&decide (a.args=b.args)):=rfl;rw[key]at hK;clear key;generalize (decide (a.op=b.op)&&decide (a.d=b.d)&&decide (a.e=b.e)&&decide (a.a=b.a)&&decide (a.b=b.b)&&decide (a.c=b.c)&&decide (a.imm.v=b.imm.v))=q at hcv hK;clear hc a0 a1 a2 a3 a4 a5 a6 b0 b1 b2 b3 b4 b5 b6;cases q with
 | false=>simp[hcv];subst hz;simp;exact hK _ _ ⟨rfl,c2.le0⟩
 | true=>simp[hcv,hka,hkb];refine ah R1 (tw (sa.mono c2.wle) (sb.mono c2.wle)) ?_;rintro _ h3 ⟨rfl,rfl⟩;subst hz;simp;exact hK _ _ ⟨by rw[Pj],c2.le0⟩
theorem CP{a b:EndD}{va vb:Value}{h:Heap}(hW:W.le (vw h))(ha:Rd W va a)(hb:Rd W vb b):
  az RP 18 #[va,vb] h (λu h'=>u = .bool (EM a b)/\(vw h).le (vw h')):=by
 refine ao (args:=[va,vb]) follows Tryz.func18 E.ll RB λK hK=>?_;dsimp only[L.ll,lkF,lkG];have c0:=Cx.start hW;refine aa λz hz=>?_;simp;refine c0.cu rfl ha λA h1 W1 hW1 c1 at1 hle1=>?_;refine c1.cu rfl (hb.mono hW1) λB h2 W2 hW2 c2 at2 hle2=>?_;have at1:=at1.mono hW2;subst hz;have a0:=ae c2.wle (at1.part EndD.tN).int;have a1:=ae c2.wle (at1.part EndD.Ks).int;have a2:=ae c2.wle (at1.part EndD.LZ).int;have a4:=ae c2.wle (at1.part EndD.gx).i32;have b0:=ae c2.wle (at2.part EndD.tN).int;have b1:=ae c2.wle (at2.part EndD.Ks).int;have b2:=ae c2.wle (at2.part EndD.LZ).int;have b4:=ae c2.wle (at2.part EndD.gx).i32;obtain⟨ua,ka,sa⟩:=(at1.part EndD.yb).sl;obtain⟨ub,kb,sb⟩:=(at2.part EndD.yb).sl;refine aa λz hz=>?_;generalize hc:(E.ite (E.ite (E.ite _ _ _) _ _) _ _)=c;have hcv : ∀ρ:Nat->Option Value,ρ 2=RJ (RM (RJ ⟨A,0,RK⟩))->ρ 3=RJ (RM (RJ ⟨B,0,RK⟩))->ev ρ (vw h2) c=RJ (.bool (decide (a.op=b.op)&&decide (a.a=b.a)&&decide (a.b=b.b)&&decide (a.imm.v=b.imm.v))):=λρ r2 r3=>by rw[<-hc];exact pH (pH (pH (nh (eH r2 a0) (eH r3 b0)) λ_=>(nh (eH r2 a1) (eH r3 b1))) λ_=>(nh (eH r2 a2) (eH r3 b2))) λ_=>(nh (eH r2 a4) (eH r3 b4))
 have hka:=ae c2.wle ka;have hkb:=ae c2.wle kb;simp at hka hkb;have key:EM a b=((decide (a.op=b.op)&&decide (a.a=b.a)&&decide (a.b=b.b)&&decide (a.imm.v=b.imm.v))&&decide (a.to=b.to)):=rfl;rw[key]at hK;clear key;generalize (decide (a.op=b.op)&&decide (a.a=b.a)&&decide (a.b=b.b)&&decide (a.imm.v=b.imm.v))=q at hcv hK;clear hc a0 a1 a2 a4 b0 b1 b2 b4;cases q with
 | false=>simp[hcv];subst hz;simp;exact hK _ _ ⟨rfl,c2.le0⟩
 | true=>simp[hcv,hka,hkb];refine ah R1 (tw (sa.mono c2.wle) (sb.mono c2.wle)) ?_;rintro _ h3 ⟨rfl,rfl⟩;subst hz;simp;exact hK _ _ ⟨by rw[Pj],c2.le0⟩
theorem wC{a b:List aF}{va vb:Value}{h:Heap}(hW:W.le (vw h))(ha:SlRd W va a)(hb:SlRd W vb b):
  az RP 17 #[va,vb] h (λu h'=>u = .bool (decide (a=b))/\(vw h).le (vw h')):=by
 refine ao (args:=[va,vb]) follows Tryz.func17 E.dr RB λK hK=>?_;have hbd:=ha.bound;have c0:=Cx.start hW;dsimp only[L.dr,lkF,lkG];refine aa λz hz=>?_;simp;subst hz;refine aa λz hz=>?_;by_cases hl:a.length=b.length
 ·have hl':(a.length:Int)=b.length:=by omega
  simp[ha.len,hb.len,hl'];subst hz;refine aa λz hz=>?_;simp;refine bX [0,1,4,5] (fun(_:Unit) i=>[va,vb,.bool RO,RG RH i]) (λ_ i h3=>(∃W3,W.le W3/\Cx W h W3 h3 λ_=>RK)/\∀j,j<i->nth a j=nth b j) a.length ()
   rfl R3 rfl ⟨⟨W,View.le_refl _,c0⟩,λj hj=>by omega⟩ (λ_ _=>rfl) (λv k h3 hk m=>by simp[ha.len]) ?_ ?_
  ·rintro _ i h3 hlti ⟨⟨W3,hW3,c3⟩,hpre⟩ K2 hK2;obtain⟨ua,hua,rua⟩:=(ha.mono hW3).wh rfl (N:=8) rfl hlti;obtain⟨ub,hub,rub⟩:=(hb.mono hW3).wh rfl (N:=8) rfl (i:=i) R3;refine aa λy hy=>?_;refine aH W3 c3.wle ?_;simp(disch:=omega)[(ha.mono hW3).idxn (N:=8) rfl,(hb.mono hW3).idxn (N:=8) rfl,hua _ RD,hub _ RD];refine ah R1 (CD c3.wle rua rub) ?_;rintro _ h4 ⟨rfl,hle4⟩;have c4:=c3.ext hle4;have e:xH (nth a i) (nth b i)=decide (nth a i=nth b i):=OA.2 (by rw[Fu,decide_eq_true_iff]);by_cases e2:nth a i=nth b i
   ·have e':xH (nth a i) (nth b i)=true:=by rw[e,decide_eq_true e2]
    simp[e'];subst hy;simp;refine hK2 () _ _ rfl rfl ⟨⟨_,RE hW3 c3.up,c4⟩,λj hj=>?_⟩;rcases NQ j i with q | q
    ·exact hpre j q
    have:j=i:=by omega
    subst this;exact e2
   have e':xH (nth a i) (nth b i)=false:=by rw[e,decide_eq_false e2]
   simp[e'];subst hy;simp;exact hK _ _ ⟨by rw[decide_eq_false];rintro rfl;exact e2 rfl,c4.le0⟩
  rintro _ h3 ⟨⟨W3,hW3,c3⟩,hpre⟩;have he:a=b:=Ps hl λj h1 h2=>by have:=hpre j h1;rwa [aA h1,aA h2]at this
  simp;subst hz;simp;exact hK _ _ ⟨by rw[decide_eq_true he],c3.le0⟩
 have hl':¬(a.length:Int)=b.length:=by omega
 simp[ha.len,hb.len,hl'];exact hK _ _ ⟨by rw[decide_eq_false];rintro rfl;exact hl rfl,View.le_refl _⟩
end Go.Proofs.YtnfiilgdjpdlkaaGreatDoor
namespace Go.Lft
open Go
end Go.Lft
namespace Go.Proofs.YtnfiilgdjpdlkaaGreatDoor
open Go Go.Lft
section
variable {f:aq} {i:InsD} {b p pat t t':Int}
theorem Iv : ∀q:Nat,q<=32->q≠26->q≠30->doS f i t q=doS f i t' q
 | 0,_,_,_=>rfl
 | 1,_,_,_=>rfl
 | 2,_,_,_=>rfl
 | 3,_,_,_=>rfl
 | 4,_,_,_=>rfl
 | 5,_,_,_=>rfl
 | 6,_,_,_=>rfl
 | 7,_,_,_=>rfl
 | 8,_,_,_=>rfl
 | 9,_,_,_=>rfl
 | 10,_,_,_=>rfl
 | 11,_,_,_=>rfl
 | 12,_,_,_=>rfl
 | 13,_,_,_=>rfl
 | 14,_,_,_=>rfl
 | 15,_,_,_=>rfl
 | 16,_,_,_=>rfl
 | 17,_,_,_=>rfl
 | 18,_,_,_=>rfl
 | 19,_,_,_=>rfl
 | 20,_,_,_=>rfl
 | 21,_,_,_=>rfl
 | 22,_,_,_=>rfl
 | 23,_,_,_=>rfl
 | 24,_,_,_=>rfl
 | 25,_,_,_=>rfl
 | 26,_,h,_=>absurd rfl h
 | 27,_,_,_=>rfl
 | 28,_,_,_=>rfl
 | 29,_,_,_=>rfl
 | 30,_,_,h=>absurd rfl h
 | 31,_,_,_=>rfl
 | 32,_,_,_=>rfl
 | q+33,h,_,_=>absurd h R3
theorem Fe (h1:pat≠26) (h2:pat≠30):patS f i t pat=patS f i t' pat:=by
 unfold patS;split
 ·rename_i c;exact Iv _ R3 R3 R3
 rfl
theorem C5 (h1:pat≠26) (h2:pat≠30):dJ f b p pat t=dJ f b p pat t':=by
 unfold dJ tryS eK;split
 ·split
  ·rfl
  exact Fe h1 h2
 rfl
theorem Ee:patS f i t 26=if i.op=15 then RJ ⟨nth i.args 0::i.args.drop 1,[],[⟨4,t,0,0,0,0,i.imm,[]⟩,fY i 15 24 ⟨25,0,0,nth i.args 0,t,0,⟨0⟩,[]⟩],cy⟩ else none:=by
 unfold patS;by_cases h:i.op=15
 ·rw[if_pos ⟨by decide,by decide,h⟩,if_pos h];rfl
 rw[if_neg (λc=>h c.2.2),if_neg h]
theorem Ey:patS f i t 30=if i.op=16 then RJ ⟨nth i.args 0::i.args.drop 1,[],[⟨4,t,0,0,0,0,i.imm,[]⟩,fY i 16 26 ⟨27,0,0,nth i.args 0,t,0,⟨0⟩,[]⟩],cy⟩ else none:=by
 unfold patS;by_cases h:i.op=16
 ·rw[if_pos ⟨by decide,by decide,h⟩,if_pos h];rfl
 rw[if_neg (λc=>h c.2.2),if_neg h]
end
end Go.Proofs.YtnfiilgdjpdlkaaGreatDoor
namespace Go.Proofs.YtnfiilgdjpdlkaaGreatDoor
open Go Go.Lft
variable{H:View}
theorem Eo{op dst two:Int}{va:Value}{l:List Int}{imm:I32}(h1:I64 op)(h2:I64 dst)(h3:I64 two)(h4:SlRd H va l)(h5:-2147483648<=imm.v/\imm.v<=2147483647):Rd H (.agg #[RG RH op,RG RH dst,RG RH two,va,RG RI imm.v]) (InsD.mk op dst two l imm):=
 ⟨_,rfl,[RG RH op],_,rfl,⟨rfl,h1⟩,[RG RH dst],_,rfl,⟨rfl,h2⟩,[RG RH two],_,rfl,⟨rfl,h3⟩,[va],_,rfl,⟨va,rfl,h4⟩,rfl,h5⟩
theorem JY{vp vi va vt:Value}{p:List PhiD}{i:List InsD}{a t:List Int}{kd:Int}{imm:I32}(h1:SlRd H vp p)(h2:SlRd H vi i)(h3:SlRd H va a)(h4:SlRd H vt t)(h5:I64 kd)(h6:-2147483648<=imm.v/\imm.v<=2147483647):Rd H (.agg #[vp,vi,RG RH kd,va,vt,RG RI imm.v]) (BlkD.mk p i ⟨kd,a,t,imm⟩):=
 ⟨_,rfl,[vp],_,rfl,⟨vp,rfl,h1⟩,[vi],_,rfl,⟨vi,rfl,h2⟩,[RG RH kd],_,rfl,⟨rfl,h5⟩,[va],_,rfl,⟨va,rfl,h3⟩,[vt],_,rfl,⟨vt,rfl,h4⟩,rfl,h6⟩
variable{vb:Value}
theorem A7{p:Int}{l:List BlkD}(h1:I64 p)(h2:SlRd H vb l):Rd H (.agg #[RG RH p,vb]) (aq.mk p l):=
 ⟨_,rfl,[RG RH p],_,rfl,⟨rfl,h1⟩,vb,rfl,h2⟩
theorem SlRd.ex{α:Type}[Rep α]{v:Value}{l:List α}(s:SlRd H v l): ∃a n c,v = .slice a n c:=let ⟨a,c,e,_⟩:=s;⟨a,_,c,e⟩
def twoF:aq:=⟨2,[⟨[],[⟨1,2,0,[],⟨5⟩⟩,⟨2,3,0,[1,2],⟨0⟩⟩],⟨4,[3],[],⟨0⟩⟩⟩]⟩
theorem KM{h:Heap}{W:View}(hW:W.le (vw h)):az RP 33 #[] h (λu h'=>(vw h).le (vw h')/\Rd (grow W h h') u twoF):=by refine ao (args:=[]) follows Tryz.func33 E.q7 RB λK hK=>?_;dsimp only[L.q7,lkF,lkG];have c0:=Cx.start hW;refine aa λz hz=>?_;simp;refine c0.bU (k:=(0,0)) (n:=1) (z:=.agg #[RG RH 0,RL RK 0 0]) rfl R1 rfl R4 R8 λR h1 hle1 c1=>?_;subst hz;refine aa λz hz=>?_;simp;refine ak (t:=T.dR) (z:=.agg #[RG RH 0,RG RH 0,RG RH 0,RL RK 0 0,RG RI 0]) (places:=[(0,1),(1,1),(2,1),(3,1),(4,1)]) (vs:=[(0,RG RH 1),(1,RG RH 2),(4,RG RI 5)]) (cs:=#[RG RH 1,RG RH 2,RG RH 0,RL RK 0 0,RG RI 5]) R1 R1 Sa R1 ?_;refine c1.ez (α:=Int) (vs:=[RG RH 1,RG RH 2]) (ds:=[1,2]) El.aQ R1 ⟨bg.2 ⟨rfl,by decide⟩,bg.2 ⟨rfl,by decide⟩,trivial⟩ rfl R4 R4 λu2 h2 W2 hW2 c2 s2 hle2=>?_;obtain⟨b2,n2,k2,rfl⟩:=SlRd.ex s2;refine ak (t:=T.dR) (z:=.agg #[RG RH 0,RG RH 0,RG RH 0,RL RK 0 0,RG RI 0]) (places:=[(0,1),(1,1),(2,1),(3,1),(4,1)]) (vs:=[(0,RG RH 2),(1,RG RH 3),(3,(.slice b2 n2 k2))]) (cs:=#[RG RH 2,RG RH 3,RG RH 0,(.slice b2 n2 k2),RG RI 0]) R1 R1 Sa (by simp[Instr.fill,Value.cells]) ?_;refine c2.ez (α:=InsD) (vs:=[.agg #[RG RH 1,RG RH 2,RG RH 0,RL RK 0 0,RG RI 5],.agg #[RG RH 2,RG RH 3,RG RH 0,(.slice b2 n2 k2),RG RI 0]]) (ds:=[⟨1,2,0,[],⟨5⟩⟩,⟨2,3,0,[1,2],⟨0⟩⟩]) El.oM Sa ⟨Eo ⟨R4,R4⟩ ⟨R4,R4⟩ ⟨R4,R4⟩ aE R4,Eo ⟨R4,R4⟩ ⟨R4,R4⟩ ⟨R4,R4⟩ s2 R4,trivial⟩ rfl R4 R4 λu3 h3 W3 hW3 c3 s3 hle3=>?_;obtain⟨b3,n3,k3,rfl⟩:=SlRd.ex s3;refine c3.ez (α:=Int) (vs:=[RG RH 3]) (ds:=[3]) El.aQ R1 ⟨bg.2 ⟨rfl,by decide⟩,trivial⟩ rfl R4 R4 λu4 h4 W4 hW4 c4 s4 hle4=>?_;obtain⟨b4,n4,k4,rfl⟩:=SlRd.ex s4;refine ak (t:=T.jy) (z:=.agg #[RG RH 0,RL RK 0 0,RL RK 0 0,RG RI 0]) (places:=[(0,1),(1,1),(2,1),(3,1)]) (vs:=[(0,RG RH 4),(1,(.slice b4 n4 k4))]) (cs:=#[RG RH 4,(.slice b4 n4 k4),RL RK 0 0,RG RI 0]) R1 R1 Sa (by simp[Instr.fill,Value.cells]) ?_;refine ak (t:=T.fy) (z:=.agg #[RL RK 0 0,RL RK 0 0,RG RH 0,RL RK 0 0,RL RK 0 0,RG RI 0]) (places:=[(0,1),(1,1),(2,4)]) (vs:=[(1,(.slice b3 n3 k3)),(2,.agg #[RG RH 4,(.slice b4 n4 k4),RL RK 0 0,RG RI 0])]) (cs:=#[RL RK 0 0,(.slice b3 n3 k3),RG RH 4,(.slice b4 n4 k4),RL RK 0 0,RG RI 0]) R1 R1 Sa (by simp[Instr.fill,Value.cells]) ?_;refine c4.ez (α:=BlkD) (vs:=[.agg #[RL RK 0 0,(.slice b3 n3 k3),RG RH 4,(.slice b4 n4 k4),RL RK 0 0,RG RI 0]]) (ds:=twoF.blocks) El.nN Sa ⟨JY aE (s3.mono hW4) s4 aE ⟨R4,R4⟩ R4,trivial⟩ rfl R4 R4 λu5 h5 W5 hW5 c5 s5 hle5=>?_;obtain⟨b5,n5,k5,rfl⟩:=SlRd.ex s5;refine ak (t:=T.dX) (z:=.agg #[RG RH 0,RL RK 0 0]) (places:=[(0,1),(1,1)]) (vs:=[(0,RG RH 2),(1,(.slice b5 n5 k5))]) (cs:=#[RG RH 2,(.slice b5 n5 k5)]) R1 R1 Sa (by simp[Instr.fill,Value.cells]) ?_;refine c5.aK (α:=aq) (k:=(0,0)) (n:=1) RA (A7 (p:=2) ⟨R4,R4⟩ s5) rfl rfl R1 Sa Sa λh6 l6 hl6 c6=>?_;subst hz;have hall:=c6.all (k:=(0,0)) (n:=1) (l:=l6) (B:=R) (e:=T.dX) RA;simp at hall;simp[hall];refine hK _ _ ⟨c6.le0,?_⟩;rw[<-hl6];exact(A7 (p:=2) ⟨R4,R4⟩ s5).mono c6.fin
theorem FW:lV twoF=true:=by kernel_rfl
theorem AK:SmF twoF:=by
 refine⟨by decide,λi hi=>?_⟩;have hi:i<1:=hi;obtain rfl:i=0:=by omega
 refine⟨by decide,by decide,by decide,by decide,λj hj=>absurd hj (Nat.not_lt_zero _),λj hj=>?_⟩;have hj:j<2:=hj;rcases j with _ | _ | j
 ·decide
 ·decide
 omega
theorem Aa: ∀i∈dM twoF,i.op=15\/i.op=16->lY:=by intro i hi ho;have:dM twoF=[⟨1,2,0,[],⟨5⟩⟩,⟨2,3,0,[1,2],⟨0⟩⟩]:=rfl;rw[this]at hi;simp at hi;rcases hi with rfl | rfl<;>simp at ho
theorem GJ:Down twoF (whS twoF):=Jy (oB FW) AK (by intro i hi;have:dM twoF=[⟨1,2,0,[],⟨5⟩⟩,⟨2,3,0,[1,2],⟨0⟩⟩]:=rfl;rw[this]at hi;simp at hi;rcases hi with rfl | rfl<;>simp)
theorem Lo:fK twoF 0 1 16=RJ ⟨[1],[2],[⟨18,3,0,1,0,0,⟨5⟩,[]⟩],cy⟩:=by kernel_rfl
theorem Mf:fK twoF 0 1 3=RJ ⟨[1,2],[],[⟨5,3,0,1,2,0,⟨0⟩,[]⟩],cy⟩:=by kernel_rfl
theorem Lu:fK twoF 0 1 17=none:=by kernel_rfl
theorem Jw:dJ twoF 0 1 16 9=RJ ⟨[1],[2],[⟨18,3,0,1,0,0,⟨5⟩,[]⟩],cy⟩:=by kernel_rfl
theorem Lz:dJ twoF 0 2 0 9=RJ ⟨[3],[],[],⟨7,3,0,[],⟨0⟩⟩⟩:=by kernel_rfl
theorem JT:ku [⟨1,0⟩,⟨38,0⟩]=(20,1):=by kernel_rfl
theorem LI:jE [⟨1,0⟩] twoF=(21,0,2):=by kernel_rfl
theorem IL:jE [⟨16,0⟩] twoF=(0,0,0):=by kernel_rfl
theorem LK:mg 16=⟨#[97,100,100,105]⟩:=by kernel_rfl
theorem two'{h:Heap}:az RP 33 #[] h (λu h'=>(vw h).le (vw h')/\Rd (vw h') u twoF):=
 (KM RD).mono λu h' ⟨h1,h2⟩=>⟨h1,h2.mono (gU h1)⟩
theorem DP{a:List Int}{va:Value}{h:Heap}(ha:SlRd (vw h) va a)(hb:SlRd (vw h) vb a):az RP 19 #[va,vb] h (λu h'=>u = .bool RN/\h'=h):=
 (tw ha hb).mono λu h' ⟨h1,h2⟩=>⟨by rw[h1,decide_eq_true rfl],h2⟩
theorem Lm{a:List aF}{va:Value}{h:Heap}(ha:SlRd (vw h) va a)(hb:SlRd (vw h) vb a):az RP 17 #[va,vb] h (λu h'=>u = .bool RN/\(vw h).le (vw h')):=
 (wC RD ha hb).mono λu h' ⟨h1,h2⟩=>⟨by rw[h1,decide_eq_true rfl],h2⟩
theorem uk{v:Value}{pat:Int}{h:Heap}(hv:Rd (vw h) v twoF)(hp:I64 pat){r:Option FitD}(hr:fK twoF 0 1 pat=r):
  az RP 15 #[v,RG RH 0,RG RH 1,RG RH pat] h (λu h'=>(vw h).le (vw h')/\∃v1 v2,u = .tuple #[v1,v2,.bool r.isSome]/\SlRd (vw h') v1 (wU r)/\SlRd (vw h') v2 (wO r)):=by rw[<-hr];exact Ci RD hv AK Aa hp
theorem Ca{v:Value}{p pat:Int}{h:Heap}(hv:Rd (vw h) v twoF)(hp:I64 pat){r:Option FitD}(hr:dJ twoF 0 p pat 9=r):
  az RP 16 #[v,RG RH 0,RG RH p,RG RH pat,RG RH 9] h (λu h'=>(vw h).le (vw h')/\∃v1 v2,u = .tuple #[v1,v2,.bool r.isSome]/\SlRd (vw h') v1 (AD r)/\Rd (vw h') v2 (Ec r)):=by rw[<-hr];exact D2 RD hv AK Aa hp ⟨R4,R4⟩
theorem xB{l:List fk}{vl v:Value}{h:Heap}(hl:SlRd (vw h) vl l)(hv:Rd (vw h) v twoF)(ht:Tab h){r:Int × Int × Int}(hr:jE l twoF=r):
  az RP 26 #[vl,v] h (λu h'=>(vw h).le (vw h')/\u = .tuple #[RG RH r.1,RG RH r.2.1,RG RH r.2.2]):=by rw[<-hr];exact Fx RD hl hv AK ht Aa λ_=>GJ
theorem FG{h:Heap}(ht:Tab h):az RP 11 #[] h (λu h'=>(vw h).le (vw h')/\u = .bool RN):=by refine ao (args:=[]) follows Tryz.func11 E.gN RB λK hK=>?_;dsimp only[L.gN,lkF,lkG];refine aa λz hz=>?_;simp;subst hz;refine aa λz hz=>?_;simp;refine ah R1 two' ?_;rintro u26 h1 ⟨le1,r1⟩;refine ah R1 (uk r1 ⟨R4,R4⟩ Lo) ?_;rintro _ h2 ⟨le2,va,vb,rfl,sa,sb⟩;simp;subst hz;refine aa λz hz=>?_;simp;refine ah R1 two' ?_;rintro u32 h3 ⟨le3,r3⟩;refine ah R1 (uk r3 ⟨R4,R4⟩ Mf) ?_;rintro _ h4 ⟨le4,vc,vd,rfl,sc,sd⟩;simp;subst hz;refine aa λz hz=>?_;simp;refine ah R1 two' ?_;rintro u38 h5 ⟨le5,r5⟩;refine ah R1 (uk r5 ⟨R4,R4⟩ Lu) ?_;rintro _ h6 ⟨le6,ve,vf,rfl,se,sf⟩;simp;subst hz;refine aa λz hz=>?_;simp;refine ah R1 two' ?_;rintro u44 h7 ⟨le7,r7⟩;refine ah R1 (Ca r7 ⟨R4,R4⟩ Jw) ?_;rintro _ h8 ⟨le8,vg,vh,rfl,sg,sh⟩;simp;refine dt (X:=vw h8) (z:=.agg endZ.toArray) R1 rfl R1 sh R5 R5 λh9 le9 _ _=>?_;subst hz;refine aa λz hz=>?_;simp;refine ah R1 two' ?_;rintro u50 h10 ⟨le10,r10⟩;refine ah R1 (Ca r10 ⟨R4,R4⟩ Lz) ?_;rintro _ h11 ⟨le11,vi,vj,rfl,si,sj⟩;simp;refine dt (X:=vw h11) (z:=.agg endZ.toArray) R1 rfl R1 sj R5 R5 λh12 le12 _ at12=>?_;have at12:At (vw h12) ⟨h11.size,0,RK⟩ (⟨7,3,0,[],⟨0⟩⟩:EndD):=at12 (vw h12) le12 rfl;have e0:=(at12.part EndD.tN).int;have e1:=(at12.part EndD.Ks).int;generalize h11.size=B at e0 e1;simp at e0 e1;subst hz;have la:(vw h).le (vw h12):=RE le1 (RE le2 (RE le3 (RE le4 (RE le5 (RE le6 (RE le7 (RE le8 (RE le9 (RE le10 (RE le11 le12))))))))));refine aa λz hz=>?_;simp;refine ak (t:=T.ny) (z:=.agg #[RG RH 0,RG RH 0]) (places:=[(0,1),(1,1)]) (vs:=[(0,RG RH 1)]) (cs:=#[RG RH 1,RG RH 0]) R1 R1 Sa R1 ?_;refine ak (t:=T.ny) (z:=.agg #[RG RH 0,RG RH 0]) (places:=[(0,1),(1,1)]) (vs:=[(0,RG RH 38)]) (cs:=#[RG RH 38,RG RH 0]) R1 R1 Sa R1 ?_;refine lA (α:=fk) (ds:=[⟨1,0⟩,⟨38,0⟩]) (vs:=[.agg #[RG RH 1,RG RH 0],.agg #[RG RH 38,RG RH 0]]) (X:=nothing) El.kP Sa ⟨tE ⟨R4,R4⟩ ⟨R4,R4⟩,tE ⟨R4,R4⟩ ⟨R4,R4⟩,trivial⟩ rfl R4 R4 λu58 h13 le13 _ s13 _=>?_;have s13:=s13 (vw h13) bO rfl;have t13:Tab h13:=ht.mono (RE la le13);refine ah R1 (zq RD s13 t13) ?_;rw[JT];rintro _ h14 ⟨le14,rfl⟩;simp;subst hz;refine aa λz hz=>?_;simp;refine ak (t:=T.ny) (z:=.agg #[RG RH 0,RG RH 0]) (places:=[(0,1),(1,1)]) (vs:=[(0,RG RH 1)]) (cs:=#[RG RH 1,RG RH 0]) R1 R1 Sa R1 ?_;refine lA (α:=fk) (ds:=[⟨1,0⟩]) (vs:=[.agg #[RG RH 1,RG RH 0]]) (X:=nothing) El.kP Sa ⟨tE ⟨R4,R4⟩ ⟨R4,R4⟩,trivial⟩ rfl R4 R4 λu64 h15 le15 _ s15 _=>?_;have s15:=s15 (vw h15) bO rfl;refine ah R1 two' ?_;rintro u65 h16 ⟨le16,r16⟩;refine ah R1 (xB (s15.mono le16) r16 (t13.mono (RE le14 (RE le15 le16))) LI) ?_;rintro _ h17 ⟨le17,rfl⟩;simp;subst hz;refine aa λz hz=>?_;simp;refine ak (t:=T.ny) (z:=.agg #[RG RH 0,RG RH 0]) (places:=[(0,1),(1,1)]) (vs:=[(0,RG RH 16)]) (cs:=#[RG RH 16,RG RH 0]) R1 R1 Sa R1 ?_;refine lA (α:=fk) (ds:=[⟨16,0⟩]) (vs:=[.agg #[RG RH 16,RG RH 0]]) (X:=nothing) El.kP Sa ⟨tE ⟨R4,R4⟩ ⟨R4,R4⟩,trivial⟩ rfl R4 R4 λu72 h18 le18 _ s18 _=>?_;have s18:=s18 (vw h18) bO rfl;refine ah R1 two' ?_;rintro u73 h19 ⟨le19,r19⟩;have l1219:(vw h12).le (vw h19):=RE le13 (RE le14 (RE le15 (RE le16 (RE le17 (RE le18 le19)))));refine ah R1 (xB (s18.mono le19) r19 (ht.mono (RE la l1219)) IL) ?_;rintro _ h20 ⟨le20,rfl⟩;have l1220:=RE l1219 le20;simp;subst hz;refine aa λz hz=>?_;have l212:(vw h2).le (vw h12):=RE le3 (RE le4 (RE le5 (RE le6 (RE le7 (RE le8 (RE le9 (RE le10 (RE le11 le12))))))));have l412:(vw h4).le (vw h12):=RE le5 (RE le6 (RE le7 (RE le8 (RE le9 (RE le10 (RE le11 le12))))));have l812:(vw h8).le (vw h12):=RE le9 (RE le10 (RE le11 le12));have sa:=(sa.mono l212).mono l1220;have sb:=(sb.mono l212).mono l1220;have sc:=(sc.mono l412).mono l1220;have sd:=(sd.mono l412).mono l1220;have sg:=(sg.mono l812).mono l1220;have e0:=ae l1220 e0;have e1:=ae l1220 e1;have la:=RE la l1220;clear le1 le2 le3 le4 le5 le6 le7 le8 le9 le10 le11 le12 le13 le14 le15 le16 le17 le18 le19 le20 l212 l412 l812 l1219 l1220;refine zl λy hy=>?_;simp;refine lA (α:=Int) (ds:=[1]) (vs:=[RG RH 1]) (X:=nothing) El.aQ R1 ⟨bg.2 ⟨rfl,by decide⟩,trivial⟩ rfl R4 R4 λu79 h21 le21 _ s21 _=>?_;have s21:=s21 (vw h21) bO rfl;subst hy;refine aw λy hy=>?_;simp;refine ah R1 (DP (sa.mono le21) s21) ?_;rintro _ h21 ⟨rfl,rfl⟩;subst hy;refine aw λy hy=>?_;simp;refine lA (α:=Int) (ds:=[2]) (vs:=[RG RH 2]) (X:=nothing) El.aQ R1 ⟨bg.2 ⟨rfl,by decide⟩,trivial⟩ rfl R4 R4 λu83 h22 le22 _ s22 _=>?_;have s22:=s22 (vw h22) bO rfl;subst hy;refine aw λy hy=>?_;simp;refine ah R1 (DP (sb.mono (RE le21 le22)) s22) ?_;rintro _ h22 ⟨rfl,rfl⟩;subst hy;refine aw λy hy=>?_;simp;refine lA (α:=Int) (ds:=[1,2]) (vs:=[RG RH 1,RG RH 2]) (X:=nothing) El.aQ R1 ⟨bg.2 ⟨rfl,by decide⟩,bg.2 ⟨rfl,by decide⟩,trivial⟩ rfl R4 R4 λu91 h23 le23 _ s23 _=>?_;have s23:=s23 (vw h23) bO rfl;subst hy;refine aw λy hy=>?_;simp;refine ah R1 (DP (sc.mono (RE le21 (RE le22 le23))) s23) ?_;rintro _ h23 ⟨rfl,rfl⟩;have l23:=RE le21 (RE le22 le23);subst hy;have sd':SlRd (vw h23) vd ([]:List Int):=sd.mono l23;have hd:=sd'.len (K:=vw h23);simp at hd;simp[hd];subst hz;refine aa λz hz=>?_;have sg':SlRd (vw h23) vg [(⟨18,3,0,1,0,0,⟨5⟩,[]⟩:aF)]:=sg.mono l23;have e0:=ae l23 e0;have e1:=ae l23 e1;have la:=RE la l23;clear sa sb sc sd sd' sg hd l23 le21 le22 le23 s21 s22 s23;refine zl λy hy=>?_;simp;refine ak (t:=T.cU) (z:=.agg #[RG RH 0,RG RH 0,RG RH 0,RG RH 0,RG RH 0,RG RH 0,RG RI 0,RL RK 0 0]) (places:=[(0,1),(1,1),(2,1),(3,1),(4,1),(5,1),(6,1),(7,1)]) (vs:=[(0,RG RH 18),(1,RG RH 3),(3,RG RH 1),(6,RG RI 5)]) (cs:=#[RG RH 18,RG RH 3,RG RH 0,RG RH 1,RG RH 0,RG RH 0,RG RI 5,RL RK 0 0]) R1 R1 Sa R1 ?_;subst hy;refine aw λy hy=>?_;simp;refine lA (α:=aF) (ds:=[⟨18,3,0,1,0,0,⟨5⟩,[]⟩]) (vs:=[.agg #[RG RH 18,RG RH 3,RG RH 0,RG RH 1,RG RH 0,RG RH 0,RG RI 5,RL RK 0 0]]) (X:=nothing) El.cW Sa ⟨dT R4 R4 aE,trivial⟩ rfl R4 R4 λu113 h24 le24 _ s24 _=>?_;have s24:=s24 (vw h24) bO rfl;subst hy;refine aw λy hy=>?_;simp;refine ah R1 (Lm (sg'.mono le24) s24) ?_;rintro _ h25 ⟨rfl,le25⟩;have l25:=RE le24 le25;have e0:=ae l25 e0;have e1:=ae l25 e1;subst hy;refine aw λy hy=>?_;simp[e0,e1];refine ah R1 (yA (ht.mono (RE la l25))) ?_;rintro _ h26 ⟨le26,rfl⟩;subst hy;refine aw λy hy=>?_;simp;refine ah R1 Lg ?_;rintro ua h27 ⟨le27,sall⟩;have hl:=sall.len (K:=vw h27);have e37:allT.length=37:=rfl;rw[e37]at hl;have l27:=RE l25 (RE le26 le27);subst hy;refine aw λy hy=>?_;simp[hl];refine ah R1 (wV (pat:=16) (ht.mono (RE la l27)) ⟨R4,R4⟩) ?_;rw[LK];rintro _ h28 ⟨le28,rfl⟩;subst hy;simp[show(Bn.eqS RO).ev (.string ⟨#[97,100,100,105]⟩) (.string ⟨#[97,100,100,105]⟩)=RJ (.bool RN) from by kernel_rfl];subst hz;simp;exact hK _ _ ⟨RE la (RE l27 le28),rfl⟩
section
variable {s:List Int} {M:Nat} {vs:Value} {W:View} {h:Heap} {o:Own} {m:MS}
theorem MkB.boxed{vl:Value}{lb:List BlkM}(bb:MkB M vs m o vb vl lb)(m':MS)(h1:m'.blocks=m.blocks)(h2:m'.live=m.live):MkB M vs m' (o.upd (0,0) (bx T.bu M (RawN.mk (n:=5) (mkL vs m'.at_ m'.ps vb m'.next vl)))) vb vl lb:=
 ⟨rfl,by rw[h2];exact bb.live,bb.blk,by rw[h1];exact bb.len,by rw[h1];exact bb.term,by rw[h1];exact λi hi=>bb.phis i hi,by rw[h1];exact λi hi=>bb.ins i hi⟩
end
def iO (R:Nat) (i10:Own):Own:=λk=>if k=(8,0) then bx T.dX R (RawN.mk (n:=1) [RG RH 0,RL RK 0 0]) else if 10<=k.1 then i10 k else RK
structure FnB (o:Own) (vb:Value) (lb:List BlkM) (f:aq):Prop where
 blk:o (0,2)=it T.fy vb lb
 len:lb.length=f.blocks.length
 term : ∀i,i<f.blocks.length->(nth lb i).term=(nth f.blocks i).term
 phis : ∀i,i<f.blocks.length->o (1,i)=it T.pC (nth lb i).phis.v (nth f.blocks i).phis
 ins : ∀i,i<f.blocks.length->o (2,i)=it T.dR (nth lb i).ins.v (nth f.blocks i).ins
theorem Ly{lb:List BlkM}{f:aq}(h0:SlRd H vb lb)(hl:lb.length=f.blocks.length)(ht : ∀i,i<f.blocks.length->(nth lb i).term=(nth f.blocks i).term)(h1 : ∀i,i<f.blocks.length->SlRd H (nth lb i).phis.v (nth f.blocks i).phis)(h2 : ∀i,i<f.blocks.length->SlRd H (nth lb i).ins.v (nth f.blocks i).ins):SlRd H vb f.blocks:=by refine Ag h0 rfl hl λi g1 g2 cs hr=>?_;have:=CK hr (p:=(nth f.blocks i).phis) (i:=(nth f.blocks i).ins) (by have:=h1 i g2;rwa [aA g1]at this) (by have:=h2 i g2;rwa [aA g1]at this);have ht:=ht i g2;rw[aA g1]at ht;rw[ht]at this;rw[<-aA g2];exact this
theorem FnB.freeze{W:View}{h:Heap}{o o0:Own}{lb:List BlkM}{f:aq}(b:FnB o vb lb f)(w:Owns W h o)(ho : ∀k:Key,3<=k.1->o k=o0 k)(ho0 : ∀k:Key,k.1<3->o0 k=RK): ∃W',W.le W'/\Owns W' h o0/\SlRd W' vb f.blocks:=by
 obtain⟨W17,hW17,w17,fr⟩:=w.zn (λk=>decide (k.1<3));refine⟨W17,hW17,w17.sub λk i hk=>?_,Ly (fr (k:=(0,2)) Sa b.blk) b.len b.term (λi hi=>fr (k:=(1,i)) Sa (b.phis i hi)) λi hi=>fr (k:=(2,i)) Sa (b.ins i hi)⟩;rcases NQ k.1 3 with e | e
 ·rw[ho0 k e]at hk;cases hk
 have h2:¬k.1<3:=by omega
 simp only[h2,decide_false,Pp,if_false];rw[ho k e];exact hk
theorem Il{s:List Int}{vs:Value}{h:Heap}{W:View}{o0:Own}(w0:Owns W h o0)(ho0 : ∀k:Key,k.1<10->o0 k=RK)(hs:SlRd W vs s):
  az RP 35 #[vs] h (λu h'=>∃W' o vb lb,W.le W'/\Owns W' h' o/\(∀k:Key,3<=k.1->o k=o0 k)/\FnB o vb lb (pM s)/\u = .agg #[RG RH (pM s).params,vb]):=by
 refine ao (args:=[vs]) follows Tryz.func35 E.au RB λK hK=>?_;have hs0:=hs;obtain⟨sa,sc,rfl,_⟩:=hs0;dsimp only[L.au,lkF,lkG];refine aa λz hz=>?_;simp;refine w0.bU (k:=(8,0)) (n:=1) (z:=.agg #[RG RH 0,RL RK 0 0]) (ho0 _ R4) R1 rfl R4 R8 λh1 q1 w1=>?_;generalize h.size=R at w1;subst hz;refine aa λz hz=>?_;simp;refine ak (z:=.agg #[RL RK 0 0,RG RH 0,RG RH 0,RL RK 0 0,RG RH 0,RL RK 0 0]) (places:=[(0,1),(1,1),(2,2),(4,1),(5,1)]) (vs:=[(0,.slice sa s.length sc)]) (cs:=#[.slice sa s.length sc,RG RH 0,RG RH 0,RL RK 0 0,RG RH 0,RL RK 0 0]) R1 R1 Sa R1 ?_;generalize s.length=sl at hs;refine cu rfl ?_;have hbx:(h1.push (.cells (Value.agg #[.slice sa sl sc,RG RH 0,RG RH 0,RL RK 0 0,RG RH 0,RL RK 0 0]).cells T.bu))[h1.size]? = RJ (.cells (Value.agg #[.slice sa sl sc,RG RH 0,RG RH 0,RL RK 0 0,RG RH 0,RL RK 0 0]).cells T.bu (0,0)):=by simp
 have hle2:=bM h1 (.cells (Value.agg #[.slice sa sl sc,RG RH 0,RG RH 0,RL RK 0 0,RG RH 0,RL RK 0 0]).cells T.bu);have hbg : ∀b,(RL (RJ ⟨h1.size,0,RK⟩) 1 1).ownBlock=RJ b->h1.size<=b:=λb hb=>by simp only[Value.ownBlock,NN]at hb;omega
 show LC.wp RP z _ _ (h1.push (.cells (Value.agg #[.slice sa sl sc,RG RH 0,RG RH 0,RL RK 0 0,RG RH 0,RL RK 0 0]).cells T.bu));generalize h1.push (.cells (Value.agg #[.slice sa sl sc,RG RH 0,RG RH 0,RL RK 0 0,RG RH 0,RL RK 0 0]).cells T.bu)=h2 at hbx hle2;have w2:=w1.add (k:=(0,0)) ((Own.aB Sa).trans (ho0 _ R4)) (fX (W:=W) (d:=RawN.mk (n:=5) [.slice sa sl sc,RG RH 0,RG RH 0,RL RK 0 0,RG RH 0,RL RK 0 0]) hbx (tW rfl R7) R4) hle2 hbg;generalize h1.size=M at w2;generalize hvs:Value.slice sa sl sc=vs at hs w2;obtain⟨m0,hm0⟩ : ∃m0:MS,m0=⟨0,0,[],0,[]⟩:=⟨_,rfl⟩;obtain⟨o2,ho2⟩ : ∃o2:Own,o2=λk=>if k=(0,0) then bx T.bu M (RawN.mk (n:=5) (mkL vs 0 0 (RL RK 0 0) 0 (RL RK 0 0))) else if k=(0,1) then it T.int (RL RK 0 0) ([]:List Int) else if k=(0,2) then it T.fy (RL RK 0 0) ([]:List BlkM) else iO R o0 k:=⟨_,rfl⟩;have w2:Owns W h2 o2:=w2.nils λk i hk=>by
  rw[ho2]at hk;dsimp only at hk;split at hk
  ·rename_i e;rw[e];exact .inl hk
  rename_i e0;split at hk
  ·cases hk;exact .inr ⟨rfl,OwnT.nil (α:=Int) _ _ _⟩
  split at hk
  ·cases hk;exact .inr ⟨rfl,OwnT.nil (α:=BlkM) _ _ _⟩
  refine .inl ?_;rw[Own.aB e0];by_cases e8:k=(8,0)
  ·subst e8;exact hk
  rw[Own.aB e8];unfold iO at hk;rw[if_neg e8]at hk;split at hk
  ·exact hk
  cases hk
 have w2:Mk s M vs W h2 o2 m0:=⟨w2,hs,RL RK 0 0,RL RK 0 0,[],by rw[ho2,hm0];rfl,by rw[ho2,hm0];rfl,by rw[ho2];rfl,by rw[hm0];rfl,λi hi=>by rw[hm0]at hi;simp at hi,λi hi=>by rw[hm0]at hi;simp at hi,λi hi=>by rw[hm0]at hi;simp at hi⟩;have f2 : ∀k:Key,3<=k.1->o2 k=iO R o0 k:=λk hk=>by rw[ho2];dsimp only;rw[if_neg (by rintro rfl;simp at hk),if_neg (by rintro rfl;simp at hk),if_neg (by rintro rfl;simp at hk)]
 clear w1 hbx hbg hle2 q1 ho2;subst hz;refine aa λz hz=>?_;simp;refine ah R1 (w2.take (by rw[hm0];decide) (n:=5) R4 R4) ?_;rintro _ h3 ⟨rfl,o3,w3,f3⟩;have tv:=di (s:=s) (at_:=m0.at_) (n:=5) R4;obtain⟨vb,vl,lb,bb⟩:=w3.box;refine w3.own.dB (k:=(0,0)) (n:=5) (i:=2) (e:=T.bu) (B:=M) (l:=mkL vs m0.took.at_ m0.took.ps vb m0.took.next vl) bb.box R4 R1 rfl rfl rfl λh4 w4 _=>?_;have b4:=bb.boxed ⟨m0.took.at_,aR s m0.at_ 5,m0.took.blocks,m0.took.next,m0.took.live⟩ rfl rfl;subst hz;refine aa λz hz=>?_;have w4:Mk s M vs W h4 _ _:=⟨w4,w3.src,vb,vl,lb,b4⟩;have rd:=w4.reads b4;simp[rd.ps];refine w4.own.dB (k:=(0,0)) (n:=5) (i:=4) (e:=T.bu) (B:=M) (l:=mkL vs m0.took.at_ (aR s m0.at_ 5) vb m0.took.next vl) b4.box R4 R1 rfl rfl rfl λh5 w5 _=>?_;have b5:=b4.boxed ⟨m0.took.at_,aR s m0.at_ 5,m0.took.blocks,aR s m0.at_ 5,m0.took.live⟩ rfl rfl;have w5:Mk s M vs W h5 _ _:=⟨w5,w3.src,vb,vl,lb,b5⟩;obtain⟨o5,ho5⟩ : ∃o5,o5=(o3.upd (0,0) (bx T.bu M (RawN.mk (n:=5) (mkL vs m0.took.at_ (aR s m0.at_ 5) vb m0.took.next vl)))).upd (0,0) (bx T.bu M (RawN.mk (n:=5) (mkL vs m0.took.at_ (aR s m0.at_ 5) vb (aR s m0.at_ 5) vl))):=⟨_,rfl⟩;have f5 : ∀k:Key,3<=k.1->o5 k=iO R o0 k:=λk hk=>by rw[ho5,Own.aB (by rintro rfl;simp at hk),Own.aB (by rintro rfl;simp at hk),f3 k hk,f2 k hk]
 rw[hm0]at w5;have w5:Mk s M vs W h5 o5 ⟨1,aR s 0 5,[],aR s 0 5,[]⟩:=by rw[ho5,hm0];exact w5
 clear b5 b4 rd w4 bb w3 f3 w2 f2 ho5 hvs;subst hz;refine aa λz hz=>?_;simp;refine ah R1 (w5.take (show 1<=_ by omega) (n:=9) R4 R4) ?_;rintro _ h6 ⟨rfl,o6,w6,f6⟩;have w6:Mk s M vs W h6 o6 (xa s):=w6;have f6 : ∀k:Key,3<=k.1->o6 k=iO R o0 k:=λk hk=>(f6 k hk).trans (f5 k hk);clear w5 f5;have hN:=FL (s:=s);obtain⟨n1,n2⟩:=lf (s:=s);have hw:IntKind.i64.wrap (1+aR s 1 9)=(bZ s:Nat):=by rw[hN];exact bh R3 R3
 simp[hw];subst hz;refine aa λz hz=>?_;simp;refine ah R1 (Dl (ri:=iO R o0) w6 (λk hk=>f6 k R3) (λk h1 h2=>(f6 k h1).trans (by unfold iO;rw[if_neg (by rintro rfl;simp at h2),if_neg R3])) (n:=bZ s) CI R3 n1 R3) ?_;rintro vt h7 ⟨W7,o7,g7,w7,r7,e7,st⟩;have w7:Mk s M vs W7 h7 o7 (ju s).2:=w7;have st:SlRd W7 vt (ju s).1:=st;have f7 : ∀k:Key,3<=k.1->o7 k=iO R o0 k:=λk hk=>by
  by_cases e:8<=k.1
  ·exact r7 k e
  rw[e7 k hk R3];unfold iO;rw[if_neg (by rintro rfl;simp at e),if_neg R3]
 clear r7 e7 w6 f6;have k1:=Ae (s:=s);have s4:=xL (s:=s);subst hz;refine aa λz hz=>?_;simp;refine mH (α:=BlkM) (W:=W7) (k:=.i64) (n:=bZ s) (d:=⟨⟨RL RK 0 0⟩,⟨RL RK 0 0⟩,⟨0,[],[],⟨0⟩⟩⟩) El.nN RA RA ⟨[RL RK 0 0],_,rfl,⟨rfl,rfl⟩,[RL RK 0 0],_,rfl,⟨rfl,rfl⟩,[RG RH 0],_,rfl,⟨rfl,by decide,by decide⟩,[RL RK 0 0],_,rfl,⟨_,rfl,aE⟩,[RL RK 0 0],_,rfl,⟨_,rfl,aE⟩,rfl,by decide,by decide⟩ R3 R3 λvb8 h8 ob8 m8 hle8 hb8=>?_;obtain⟨vb,vl,lb,bb⟩:=w7.box;have wa:=w7.own.sub (o':=o7.upd (0,2) RK) λj i hj=>by
  unfold Own.upd at hj;split at hj
  ·cases hj
  exact hj
 have wb:=wa.add (k:=(0,2)) Own.aj ob8 hle8 (λb hb=>by rw[hb8]at hb;cases hb;exact NO _);have hv8:=(wb.cells (k:=(0,2)) Own.aj).2;obtain⟨o8,ho8⟩ : ∃o8:Own,o8=λk=>if k.1=1/\k.2<bZ s then it T.pC (RL RK 0 0) ([]:List PhiD) else if k.1=2/\k.2<bZ s then it T.dR (RL RK 0 0) ([]:List InsD) else o7.upd (0,2) (it T.fy vb8 (List.replicate (bZ s) (BlkM.mk ⟨RL RK 0 0⟩ ⟨RL RK 0 0⟩ ⟨0,[],[],⟨0⟩⟩))) k:=⟨_,rfl⟩;have w8:Owns W7 h8 o8:=wb.nils λk i hk=>by
  rw[ho8]at hk;dsimp only at hk;split at hk
  ·cases hk;exact .inr ⟨rfl,OwnT.nil (α:=PhiD) _ _ _⟩
  split at hk
  ·cases hk;exact .inr ⟨rfl,OwnT.nil (α:=InsD) _ _ _⟩
  refine .inl ?_;by_cases e:k=(0,2)
  ·subst e;rw[Own.aj]at hk ⊢;exact hk
  rw[Own.aB e]at hk;rw[Own.aB e,Own.aB e];exact hk
 have c8 : ∀k:Key,¬(k.1=1/\k.2<bZ s)->¬(k.1=2/\k.2<bZ s)->o8 k=o7.upd (0,2) (it T.fy vb8 (List.replicate (bZ s) (BlkM.mk ⟨RL RK 0 0⟩ ⟨RL RK 0 0⟩ ⟨0,[],[],⟨0⟩⟩))) k:=λk h1 h2=>by rw[ho8];dsimp only;rw[if_neg h1,if_neg h2]
 refine w8.dB (k:=(0,0)) (n:=5) (i:=3) (e:=T.bu) (B:=M) (l:=mkL vs (ju s).2.at_ (ju s).2.ps vb (ju s).2.next vl) (by rw[c8 _ Sa Sa,Own.aB Sa];exact bb.box) R4 R1 rfl rfl hv8 λh9 w9 _=>?_;obtain⟨o9,ho9⟩ : ∃o9:Own,o9=o8.upd (0,0) (bx T.bu M (RawN.mk (n:=5) (mkL vs (ju s).2.at_ (ju s).2.ps vb8 (ju s).2.next vl))):=⟨_,rfl⟩;have w9:Owns W7 h9 o9:=by rw[ho9];exact w9
 have b9:MkB M vs { (ju s).2 with blocks:=List.replicate (bZ s) tQ } o9 vb8 vl (List.replicate (bZ s) (BlkM.mk ⟨RL RK 0 0⟩ ⟨RL RK 0 0⟩ ⟨0,[],[],⟨0⟩⟩)):=by
  rw[ho9];refine⟨rfl,?_,?_,by simp,λi hi=>?_,λi hi=>?_,λi hi=>?_⟩
  ·rw[Own.aB Sa,c8 _ Sa Sa,Own.aB Sa];exact bb.live
  ·rw[Own.aB Sa,c8 _ Sa Sa,Own.aj]
  ·have hi:i<bZ s:=by simpa using hi
   rw[aI hi,aI hi];rfl
  ·have hi:i<bZ s:=by simpa using hi
   rw[Own.aB Sa,ho8];dsimp only;rw[if_pos ⟨rfl,hi⟩,aI hi,aI hi];rfl
  have hi:i<bZ s:=by simpa using hi
  rw[Own.aB Sa,ho8];dsimp only;rw[if_neg Sa,if_pos ⟨rfl,hi⟩,aI hi,aI hi];rfl
 have x9:Nx s M vs W7 h9 (iO R o0) { (ju s).2 with blocks:=List.replicate (bZ s) tQ }:=⟨W7,o9,View.le_refl _,⟨w9,w7.src,vb8,vl,_,b9⟩,λk hk=>by rw[ho9,Own.aB (by rintro rfl;simp at hk),c8 _ R3 R3,Own.aB (by rintro rfl;simp at hk)];exact f7 k hk⟩;clear b9 w9 ho9 c8 w8 ho8 wb wa hv8 bb ob8 m8 hle8 hb8 w7 f7;subst hz;refine aa λz hz=>?_;refine aa λy hy=>?_;simp;subst hy;refine Jf (vr:=RM (RJ ⟨R,0,RK⟩)) st k1.len x9 Sa R3 (by simp[bF,af,ag]) λh10 x10=>?_;have x10:Nx s M vs W7 h10 (iO R o0) (tJ s):=x10;clear x9;simp;subst hz;refine aa λz hz=>?_;simp;obtain⟨Wa,oa,ga,wa,fa⟩:=x10;refine mH (α:=Int) (W:=Wa) (k:=.i64) (n:=bZ s) (d:=0) El.aQ RA RA ⟨rfl,by decide,by decide⟩ R3 R3 λvp h11 ob11 m11 hle11 hb11=>?_;have x11:Nx s M vs W7 h11 ((iO R o0).upd (5,0) (it T.int vp (List.replicate (bZ s) (0:Int)))) (tJ s):=by
  have w11:=wa.own.add (k:=(5,0)) ((fa _ R4).trans rfl) ob11 hle11 (λb hb=>by rw[hb11]at hb;cases hb;exact NO _);obtain⟨vb,vl,lb,bb⟩:=wa.box;refine⟨Wa,_,ga,⟨w11,wa.src,vb,vl,lb,bb.frame λq hq=>Own.aB (by rintro rfl;simp at hq)⟩,λq hq=>?_⟩;unfold Own.upd;split
  ·rfl
  exact fa q hq
 clear wa fa ob11 m11 hb11;subst hz;refine aa λz hz=>?_;refine aa λy hy=>?_;simp;subst hy;obtain⟨z2,g2⟩:=A2 (s:=s);have p0:Ph (bZ s) 200 0 (List.replicate (bZ s) (0:Int),tJ s):=by
  have hz : ∀j,nth (List.replicate (bZ s) (0:Int)) j=0:=λj=>by
   rcases NQ j (bZ s)with hj | hj
   ·rw[aI hj]
   rw[dp (by simpa using hj)];rfl
  exact⟨z2,by simp,λj _=>hz j,λj=>by show 0<=nth (List.replicate _ (0:Int)) j/\nth (List.replicate _ (0:Int)) j<=3;rw[hz];omega⟩
 refine JW (x0:=(List.replicate (bZ s) (0:Int),tJ s)) (vr:=RM (RJ ⟨R,0,RK⟩)) (vt:=vt) (vp:=vp) x11 p0 n1 R3 R3 (by simp[bF,af,ag]) λh12 x12=>?_;have x12:Nx s M vs W7 h12 ((iO R o0).upd (5,0) (it T.int vp (kh s).1)) (kh s).2:=x12;obtain⟨ph,pc,g3⟩:=tR (s:=s);clear p0 x11 z2 g2;simp;subst hz;refine aa λz hz=>?_;simp;obtain⟨Wa,oa,ga,wa,fa⟩:=x12;refine mH (α:=Bool) (W:=Wa) (k:=.i64) (n:=bZ s) (d:=false) El.lQ RA RA rfl R3 R3 λvd h13 ob13 m13 hle13 hb13=>?_;have x13:Nx s M vs W7 h13 (((iO R o0).upd (5,0) (it T.int vp (kh s).1)).upd (6,0) (it T.bool vd (List.replicate (bZ s) RO))) (kh s).2:=by
  have w13:=wa.own.add (k:=(6,0)) ((fa _ R4).trans rfl) ob13 hle13 (λb hb=>by rw[hb13]at hb;cases hb;exact NO _);obtain⟨vb,vl,lb,bb⟩:=wa.box;refine⟨Wa,_,ga,⟨w13,wa.src,vb,vl,lb,bb.frame λq hq=>Own.aB (by rintro rfl;simp at hq)⟩,λq hq=>?_⟩;unfold Own.upd;split
  ·rfl
  exact fa q hq
 clear wa fa ob13 m13 hb13;subst hz;refine aa λz hz=>?_;refine aa λy hy=>?_;simp;subst hy;refine IW (a:=16000) (p:=27) (x0:=(List.replicate (bZ s) RO,(kh s).2)) (vr:=RM (RJ ⟨R,0,RK⟩)) (vp:=vp) x13 st k1.len rfl rfl rfl A1 n2 R3 R3 R3 (by simp[bF,af,ag]) λh14 x14=>?_;have x14:Nx s M vs W7 h14 (((iO R o0).upd (5,0) (it T.int vp (kh s).1)).upd (6,0) (it T.bool vd (zu s).1)) (zu s).2:=x14;obtain⟨q4,pc4⟩:=Cm (s:=s);clear x13 pc g3;simp;subst hz;refine aa λz hz=>?_;refine aa λy hy=>?_;simp;subst hy;refine H2 (vr:=RM (RJ ⟨R,0,RK⟩)) (vt:=vt) (vp:=vp) (vd:=vd) (lp:=(kh s).1) x14 ((Own.aB Sa).trans Own.aj) rfl rfl q4 pc4 ph.len ph.rng n1 n2 R3 R3 R3 R3 (by simp[bF,af,ag]) λh15 x15=>?_;have x15:Nx s M vs W7 h15 (((iO R o0).upd (5,0) (it T.int vp (kh s).1)).upd (6,0) (it T.bool vd (zu s).1)) (vR s):=x15;have q5:=qC (s:=s);clear x14 q4 pc4 ph;simp;subst hz;refine aa λz hz=>?_;obtain⟨Wa,oa,ga,wa,fa⟩:=x15;obtain⟨vb,vl,lb,bb⟩:=wa.box;have rd:=wa.reads bb;simp[rd.f];have hvb:vb.oneCell'=true:=rd.blk.cells.2;refine wa.own.cI (k:=(8,0)) (α:=RawN 1) (β:=RawN 1) Part.all (B:=R) (D:=RawN.mk (n:=1) [RG RH 0,RL RK 0 0]) (d:=RawN.mk (n:=1) [RG RH (vR s).ps,vb]) ((fa _ R4).trans rfl) R1 rfl rfl (tW rfl (by intro c hc;simp only[N5,Qi,or_false]at hc;rcases hc with rfl | rfl<;>first | rfl | exact hvb)) λh16 w16 _=>?_;have c16:=w16.yf (k:=(8,0)) (n:=1) (l:=[RG RH (vR s).ps,vb]) Own.aj;have c16:Un.ev (vw h16) (.aZ 2) (RM (RJ ⟨R,0,RK⟩))=RJ (.agg #[RG RH (vR s).ps,vb]):=c16;have b16:=bb.frame (o':=oa.upd (8,0) (bx T.dX R (RawN.mk (n:=1) [RG RH (vR s).ps,vb]))) λq hq=>Own.aB (by rintro rfl;simp at hq);have w16:Mk s M vs Wa h16 _ (vR s):=⟨w16,wa.src,vb,vl,lb,b16⟩;have rd16:=w16.reads b16;subst hz;simp[c16];refine hK _ _ ⟨Wa,λk=>if 3<=k.1 then o0 k else if k=(0,2)\/k.1=1\/k.1=2 then oa k else RK,vb,lb,RE g7 ga,w16.own.sub λk i hk=>?_,λk hk=>if_pos hk,⟨?_,b16.len,b16.term,λi hi=>?_,λi hi=>?_⟩,rfl⟩
 ·split at hk
  ·rename_i e3;rcases NQ k.1 10 with e | e
   ·rw[ho0 k e]at hk;cases hk
   have h1:oa k=o0 k:=(fa k R3).trans (by rw[Own.aB (by rintro rfl;simp at e),Own.aB (by rintro rfl;simp at e)];unfold iO;rw[if_neg (by rintro rfl;simp at e),if_pos e]);rw[Own.aB (by rintro rfl;simp at e),h1];exact hk
  rename_i e3;split at hk
  ·rw[Own.aB (by rintro rfl;simp at e3)];exact hk
  cases hk
 ·have:=b16.blk;rw[Own.aB Sa]at this;simpa using this
 ·have:=b16.phis i hi;rw[Own.aB Sa]at this;exact(by simp:_=oa (1,i)).trans this
 have:=b16.ins i hi;rw[Own.aB Sa]at this;exact(by simp:_=oa (2,i)).trans this
theorem I2{s:List Int}{vs:Value}{h:Heap}{W:View}{o0:Own}(w0:Owns W h o0)(ho0 : ∀k:Key,k.1<10->o0 k=RK)(hs:SlRd W vs s):
  az RP 35 #[vs] h (λu h'=>∃W',W.le W'/\Owns W' h' o0/\Rd W' u (pM s)):=by refine(Il w0 ho0 hs).mono ?_;rintro u h' ⟨W1,o,vb,lb,hW,w,ho,b,rfl⟩;obtain⟨W2,hW2,w2,sb⟩:=b.freeze w ho λk hk=>ho0 k R3;have mp:=Cl (s:=s);have mi:I64 (pM s).params:=R6;exact⟨W2,RE hW hW2,w2,⟨_,rfl,[RG RH (pM s).params],[vb],rfl,⟨rfl,mi⟩,vb,rfl,sb⟩⟩
theorem FJ{s:List Int}{v:Value}{h:Heap}{W:View}{o0:Own}(w0:Owns W h o0)(ho0 : ∀k:Key,k.1<10->o0 k=RK)(h21:o0 (21,0)=RK)(hs:SlRd W v s):
  az RP 13 #[v] h (λu h'=>∃W',W.le W'/\Owns W' h' o0/\Rd W' u (pM (s.take 200))):=by
 refine ao (args:=[v]) follows Tryz.func13 E.pf RB λK hK=>?_;dsimp only[L.pf,lkF,lkG];have hb:=hs.bound;refine aa λz hz=>?_;simp;refine w0.bU (k:=(21,0)) (n:=1) (z:=.agg #[RG RH 0,RL RK 0 0]) h21 R1 rfl R4 R8 λh1 hle1 w1=>?_;generalize h.size=R at w1;subst hz;refine aa λz hz=>?_;have ho : ∀k:Key,k.1<10->(o0.upd (21,0) (bx T.dX R (RawN.mk (n:=1) (Value.agg #[RG RH 0,RL RK 0 0]).cells.toList))) k=none:=λk hk=>(Own.aB (by rintro rfl;simp at hk)).trans (ho0 k hk);have fin : ∀(W2:View) (h2:Heap) (u:Value) (ρ:Env),W.le W2->Owns W2 h2 (o0.upd (21,0) (bx T.dX R (RawN.mk (n:=1) (Value.agg #[RG RH 0,RL RK 0 0]).cells.toList)))->Rd W2 u (pM (s.take 200))->Lft.look ρ 2=RJ (ptr R)->∀(po:OP) (us:List (Nat × Value)),asg us (.tmp 2)=ptr R->asg us (.tmp 8)=u->
   @Lft.step po RP (Op.store 27 (Operand.tmp 2) (Operand.tmp 8)) 0 us h2 λ_ h'=>LC.wp RP z (cO [.un (.aZ 2) (.tmp 2)] K) ρ h':=λW2 h2 u ρ hW w2 r hl po us e1 e2=>by
  have q:=fS r;obtain⟨cs,rfl,h3⟩:=r;have hl3:=Rep.len h3;refine w2.iR (k:=(21,0)) (n:=1) (l':=cs.toList) Own.aj R1 e1 (by simpa using e2) (by rw[hl3];rfl) (λc hc=>Rep.flat h3 c hc) λh4 w4 _=>?_;rw[hz];have hall:=w4.yf (k:=(21,0)) (n:=1) (e:=T.dX) (B:=R) (l:=cs.toList) Own.aj;simp at hall;simp[hl,hall];refine hK _ _ ⟨W2,hW,w4.sub λj i hj=>?_,⟨_,rfl,h3⟩⟩;have:j≠(21,0):=by rintro rfl;rw[h21]at hj;cases hj
  rw[Own.aB this,Own.aB this];exact hj
 clear hK;have tk : ∃us,Bn.ev .hi v (RG RH (if(200:Int)<s.length then 200 else s.length))=RJ us/\SlRd W us (s.take 200):=by
  by_cases q:(200:Int)<s.length
  ·obtain⟨u,h2,h3⟩:=hs.take (n:=200) R3 (kd:=.i64);exact⟨u,by rw[if_pos q];exact h2,h3⟩
  obtain⟨u,h2,h3⟩:=hs.take (n:=s.length) R3 (kd:=.i64);refine⟨u,by rw[if_neg q];exact h2,?_⟩;rw[NY R3];rw[NY (NO _)]at h3;exact h3
 obtain⟨us,h2,h3⟩:=tk;simp[hs.len,h2];refine ah R1 (I2 w1 ho h3) ?_;rintro u8 h8 ⟨W8,hW8,w8,r8⟩;exact fin W8 h8 u8 [(0,v),(2,ptr R),(8,u8)] hW8 w8 r8 rfl _ [(2,ptr R),(8,u8)] rfl rfl
theorem Hh{s:List Int}{v:Value}{h:Heap}(hs:SlRd (vw h) v s):az RP 13 #[v] h (λu h'=>(vw h).le (vw h')/\Rd (vw h') u (pM (s.take 200))):=
 (FJ (Owns.start (View.le_refl (vw h))) (λ_ _=>rfl) rfl hs).mono λu h' ⟨W',q1,w',r'⟩=>⟨RE q1 w'.wle,r'.mono w'.wle⟩
theorem CL{B:Nat}{d:Int × Int}(h:At H ⟨B,0,RK⟩ d):an H ⟨B,0,RK⟩=RJ (RG RH d.1)/\an H ⟨B,1,RK⟩=RJ (RG RH d.2)/\I64 d.1/\I64 d.2:=by obtain⟨cs,h1,e,r1,r2⟩:=h;subst e;exact⟨by simpa using gq h1 (i:=0) rfl,by simpa using gq h1 (i:=1) rfl,r1,r2⟩
theorem C9{a:EndD}:EM a a=true:=by simp[EM]
section
variable {f:aq} {i:InsD} {b p pat t t':Int}
def tkIn (r:Option FitD):Option (List Int × List Int):=r.map λx=>(x.takes,x.inner)
theorem G2:tkIn (dJ f b p pat t)=tkIn (dJ f b p pat t'):=by
 by_cases h1:pat=26
 ·subst h1;unfold dJ tryS eK;split
  ·split
   ·rfl
   dsimp only;rw[if_neg Sa,if_neg Sa,Ee,Ee];split<;>rfl
  rfl
 by_cases h2:pat=30
 ·subst h2;unfold dJ tryS eK;split
  ·split
   ·rfl
   dsimp only;rw[if_neg Sa,if_neg Sa,Ey,Ey];split<;>rfl
  rfl
 rw[C5 (t':=t') h1 h2]
theorem EZ:(fK f b p pat).isSome=((lP (dJ f b p pat t)).ok&&decide (0<pat))/\
  ((fK f b p pat).isSome=RN->wU (fK f b p pat)=(lP (dJ f b p pat t)).fit.takes/\wO (fK f b p pat)=(lP (dJ f b p pat t)).fit.inner):=by
 have h:=G2 (f:=f) (b:=b) (p:=p) (pat:=pat) (t:=0) (t':=t);unfold fK;by_cases hp:1<=pat
 ·have:0<pat:=by omega
  rw[if_pos hp];cases h1:dJ f b p pat 0 with
  | none=>
   cases h2:dJ f b p pat t with
   | none=>simp[lP]
   | some y=>rw[h1,h2]at h;cases h
  | some x=>
   cases h2:dJ f b p pat t with
   | none=>rw[h1,h2]at h;cases h
   | some y=>rw[h1,h2]at h;simp only[tkIn,Option.map_some,NN,Pu]at h;simp[lP,this,wU,wO,h.1,h.2]
 have:¬0<pat:=by omega
 rw[if_neg hp];simp[this]
theorem Gx:(dJ f b p pat t).isSome=(lP (dJ f b p pat t)).ok/\AD (dJ f b p pat t)=(lP (dJ f b p pat t)).fit.code/\Ec (dJ f b p pat t)=(lP (dJ f b p pat t)).fit.fin:=by cases dJ f b p pat t<;>exact⟨rfl,rfl,rfl⟩
end
theorem Jj{B:Nat}{x:FitR}(h:At H ⟨B,0,RK⟩ x): ∃v0 v1 v2,(an H ⟨B,0,RK⟩=RJ v0/\SlRd H v0 x.fit.takes)/\(an H ⟨B,1,RK⟩=RJ v1/\SlRd H v1 x.fit.inner)/\(an H ⟨B,2,RK⟩=RJ v2/\SlRd H v2 x.fit.code)/\an H ⟨B,8,RK⟩=RJ (.bool x.ok)/\
  ∃u,(∀K:View,H.le K->Un.ev K (.aZ 5) (RM (RJ ⟨B,3,RK⟩))=RJ u)/\Rd H u x.fit.fin:=by have hf:=h.part FitR.MP;obtain⟨v0,h0⟩:=(hf.part FitD.As).sl;obtain⟨v1,h1⟩:=(hf.part FitD.Ej).sl;obtain⟨v2,h2⟩:=(hf.part FitD.Hk).sl;obtain⟨u,hu,ru⟩:=(hf.part FitD.KD).ldN rfl (N:=5) rfl;have hk:=h.part FitR.Nl;refine⟨v0,v1,v2,show Sl H ⟨B,0,RK⟩ v0 x.fit.takes by simpa using h0,show Sl H ⟨B,1,RK⟩ v1 x.fit.inner by simpa using h1,show Sl H ⟨B,2,RK⟩ v2 x.fit.code by simpa using h2,?_,u,by simpa using hu,ru⟩;obtain⟨cs,hc,e⟩:=hk;have e:cs=[.bool x.ok]:=e;subst e;simpa using gq hc (i:=0) rfl
end Go.Proofs.YtnfiilgdjpdlkaaGreatDoor
