/- A part of the proof: ShelfF, Oo, Ub, Op, Oq, Or, Os, Ot, Ou, Nb, Qj, Ox, Oy, Oz, Qa, Qb, Qc, LftDg, Qd, Qe, Qf. -/
import Derived.Test.YtmhnaeecolpfkaaGreatDoorZCOwn5
import Derived.Shelf.Strings.Fields
import Derived.Test.YtmhnaeecolpfkaaGreatDoorRows
import Derived.Lib.LaidTab
import Derived.LaidMore
set_option linter.unusedSimpArgs false
set_option linter.unusedVariables false
open Go.Value renaming int->UH,slice->UM,pointer->UN
open Go.IntKind renaming i64->UI,i32->UJ
open Option renaming some->UK,none->UL
open Bool renaming true->UO,false->UP
open Go.Proofs.Tryz renaming prog->UQ
namespace Go.Proofs
open Go.Shelf
def Tryz.mz:Go.Shelf.Ren:=⟨fun | 157=>184 | 229=>222 | 199=>223 | 261=>241 | 311=>245 | 312=>246 | n=>n,fun | 9=>9 | 31=>274 | 3=>3 | 5=>5 | 4=>4 | 119=>308 | 0=>0 | 40=>310 | 152=>321 | 21=>21 | 154=>323 | 51=>226 | 141=>325 | 196=>329 | 193=>326 | 198=>332 | 49=>330 | 194=>327 | 201=>335 | 226=>339 | 46=>68 | 227=>340 | n=>n,fun | 0=>0 | 6=>1 | n=>n⟩
theorem Tryz.Md:Go.Proofs.Lays.n157 UQ Tryz.mz:={
 mixed:=by kernel_rfl
 f157:=Tryz.func184.trans (congrArg UK U0)
 f199:=Tryz.func223.trans (congrArg UK U0)
 f229:=Tryz.func222.trans (congrArg UK U0)
 f261:=Tryz.func241.trans (congrArg UK U0)
 f311:=Tryz.func245.trans (congrArg UK U0)
 f312:=Tryz.func246.trans (congrArg UK U0)
 t0:=Tryz.underlying0
 a0:=Tryz.isAgg0
 z0:=Tryz.sizeOf0
 v0:=Tryz.zeroValue0
 t3:=Tryz.underlying3
 a3:=Tryz.isAgg3
 z3:=Tryz.sizeOf3
 v3:=Tryz.zeroValue3
 t4:=Tryz.underlying4
 a4:=Tryz.isAgg4
 z4:=Tryz.sizeOf4
 v4:=Tryz.zeroValue4
 t5:=Tryz.underlying5
 a5:=Tryz.isAgg5
 z5:=Tryz.sizeOf5
 v5:=Tryz.zeroValue5
 t9:=Tryz.underlying9
 a9:=Tryz.isAgg9
 z9:=Tryz.sizeOf9
 v9:=Tryz.zeroValue9
 t21:=Tryz.underlying21
 a21:=Tryz.isAgg21
 z21:=Tryz.sizeOf21
 v21:=Tryz.zeroValue21
 t31:=Tryz.underlying274
 a31:=Tryz.isAgg274
 z31:=Tryz.sizeOf274
 v31:=Tryz.zeroValue274
 t40:=Tryz.underlying310
 a40:=Tryz.isAgg310
 z40:=Tryz.sizeOf310
 v40:=Tryz.zeroValue310
 t46:=Tryz.underlying68
 a46:=Tryz.isAgg68
 z46:=Tryz.sizeOf68
 v46:=Tryz.zeroValue68
 t49:=Tryz.underlying330
 a49:=Tryz.isAgg330
 z49:=Tryz.sizeOf330
 v49:=Tryz.zeroValue330
 t51:=Tryz.underlying226
 a51:=Tryz.isAgg226
 z51:=Tryz.sizeOf226
 v51:=Tryz.zeroValue226
 t119:=Tryz.underlying308
 a119:=Tryz.isAgg308
 z119:=Tryz.sizeOf308
 t141:=Tryz.underlying325
 a141:=Tryz.isAgg325
 z141:=Tryz.sizeOf325
 v141:=Tryz.zeroValue325
 t152:=Tryz.underlying321
 a152:=Tryz.isAgg321
 z152:=Tryz.sizeOf321
 v152:=Tryz.zeroValue321
 t154:=Tryz.underlying323
 a154:=Tryz.isAgg323
 z154:=Tryz.sizeOf323
 v154:=Tryz.zeroValue323
 t193:=Tryz.underlying326
 a193:=Tryz.isAgg326
 z193:=Tryz.sizeOf326
 v193:=Tryz.zeroValue326
 t194:=Tryz.underlying327
 a194:=Tryz.isAgg327
 z194:=Tryz.sizeOf327
 v194:=Tryz.zeroValue327
 t196:=Tryz.underlying329
 a196:=Tryz.isAgg329
 z196:=Tryz.sizeOf329
 v196:=Tryz.zeroValue329
 t198:=Tryz.underlying332
 a198:=Tryz.isAgg332
 z198:=Tryz.sizeOf332
 v198:=Tryz.zeroValue332
 t201:=Tryz.underlying335
 a201:=Tryz.isAgg335
 z201:=Tryz.sizeOf335
 v201:=Tryz.zeroValue335
 t226:=Tryz.underlying339
 a226:=Tryz.isAgg339
 z226:=Tryz.sizeOf339
 v226:=Tryz.zeroValue339
 t227:=Tryz.underlying340
 a227:=Tryz.isAgg340
 z227:=Tryz.sizeOf340
 v227:=Tryz.zeroValue340
 g0:=by kernel_rfl
 g6:=by kernel_rfl }
end Go.Proofs
open Go.Proofs Go.Proofs.YtmhnaeecolpfkaaGreatDoor
namespace Go.Lft
structure StrD where
 v:ByteArray
instance:Rep StrD where
 n:=1
 agg:=false
 rd:=λ_ cs d=>cs=[.string d.v]
 mono:=λ_ h=>h
 len:=λh=>by rw[h];rfl
 one:=λ_=>rfl
 flat:=λh u hu=>by rw[h]at hu;simp at hu;subst hu;rfl
 pos:=TG
 bT:=λh=>h
theorem At.str{H:View}{a:Addr}{d:StrD}(h:At H a d):an H a=UK (.string d.v):=by
 obtain⟨u,h1,h2⟩:=h.load rfl;have:u = .string d.v:=by unfold Rd at h2;simpa[Rep.agg,Rep.rd]using h2
 rw[this]at h1;exact h1
def Tab(h:Heap):Prop:=∀c:Nat,c<256->an (vw h) ⟨Tryz.mz.g 0,c,UL⟩=UK (.int .u8 (if Lib.isSp (UInt8.ofNat c) then 1 else 0))
theorem Tab.mono{h h':Heap}(t:Tab h)(hle:(vw h).le (vw h')):Tab h':=λc hc=>ae hle (t c hc)
theorem Qb{w:World}{b o:Nat}{v:Value}(h:an (vw w.heap) ⟨b,o,UL⟩=UK v):w.cell? ⟨b,o,UL⟩=UK v:=by
 unfold an at h;unfold World.cell?;simp only[vw]at h;cases hb:w.heap[b]? with
 | none=>rw[hb]at h;simp at h
 | some x=>rw[hb]at h;cases x<;>simp_all
def fieldsD(s:ByteArray):List StrD:=(Lib.fields s.data.toList).map λl=>⟨⟨l.toArray⟩⟩
theorem Hx{s:ByteArray}{h:Heap}(ht:Tab h)(hs:s.size<4294967281)(ha : ∀(j:Nat) b,s.data.toList[j]? = UK b->b.toNat<128)(hn:(fieldsD s).length<=1000000) :
  ay UQ 184 #[.string s] h (λu h'=>(vw h).le (vw h')/\SlRd (vw h') u (fieldsD s)):=by
 intro w hw;subst hw;refine Calls.mono (Any.strings_Fields_core (P:=UQ) (ρ:=Tryz.mz) Tryz.Md U0 s w hs ha λc hc=>Qb (ht c hc)) ?_;rintro e w' ⟨rfl,rfl⟩;refine⟨_,rfl,⟨bQ _ _,?_⟩,jc _ _⟩;have hl:(fieldsD s).length=(Lib.fields s.data.toList).length:=by simp[fieldsD]
 refine⟨UK ⟨w.heap.size,0,UL⟩,(Lib.fields s.data.toList).length,by rw[hl],by omega,by omega,.inr ⟨_,rfl,rfl,λi hi=>?_⟩⟩;have hi':i<(Lib.fields s.data.toList).length:=by omega
 rw[bC rfl];refine⟨[.string ⟨(Lib.fields s.data.toList)[i].toArray⟩],⟨_,_,_,rfl,World.alloc_heap_new w _,?_⟩,?_⟩
 ·have hn1:Rep.n StrD=1:=rfl;rw[hn1,RY,R1];show List.take 1 (List.drop i ((Lib.fields s.data.toList).map λl=>Value.string ⟨l.toArray⟩))=_;rw[RJ (by simpa using hi')];simp
 show[Value.string _]=[Value.string _];simp[fieldsD]
def qh:ByteArray:=⟨#[108,105,32,108,105,119,32,97,100,100,32,115,117,98,32,109,117,108,32,97,110,100,32,111,114,32,120,111,114,32,115,104,108,32,115,104,114,32,115,97,114,32,101,113,32,108,116,32,108,116,117,32,100,105,118,32,97,100,100,105,32,115,117,98,105,32,97,110,100,105,32,115,104,108,105,32,115,104,114,105,32,115,97,114,105,32,109,97,100,100,32,108,100,32,108,100,97,32,108,100,120,32,108,100,108,32,115,116,32,115,116,97,32,115,116,120,32,115,116,108,32,99,97,108,108,32,109,117,108,119,32,98,110,122,32,98,101,113,32,98,108,116,32,98,108,116,117,32,106,116]⟩
def xK(pat:Int):ByteArray:=if 1<=pat/\pat<=37 then((fieldsD qh).getD (pat-1).toNat ⟨⟨#[]⟩⟩).v else⟨#[]⟩
theorem oT:(fieldsD qh).length=37:=by kernel_rfl
theorem C6 : ∀(j:Nat) b,qh.data.toList[j]? = UK b->b.toNat<128:=by
 have h:qh.data.toList.all (λb=>decide (b.toNat<128))=true:=by kernel_rfl
 exact λj b hb=>by simpa using RS.1 h b (RF hb)
theorem Ge:(fieldsD qh).all (λs=>!(s.v.toList == (⟨#[]⟩:ByteArray).toList))=true:=by kernel_rfl
instance:Inhabited StrD:=⟨⟨⟨#[]⟩⟩⟩
theorem Jj{pat:Int}:((xK pat).toList == (⟨#[]⟩:ByteArray).toList)=!inR pat 1 37:=by
 unfold xK;by_cases h:1<=pat/\pat<=37
 ·rw[if_pos h];have hlt:(pat-1).toNat<(fieldsD qh).length:=by rw[oT];omega
  have:=RS.1 Ge _ (Sp hlt);rw[SW,RK hlt,Ur];have e:inR pat 1 37=true:=by simp[inR,h.1,h.2]
  rw[e];simpa using this
 rw[if_neg h];have e:inR pat 1 37=false:=by unfold inR;simpa using h
 rw[e];exact beq_self_eq_true _
theorem zj{pat:Int}:(xK pat).toList.isEmpty=!inR pat 1 37:=by have h:=Jj (pat:=pat);rw[show(⟨#[]⟩:ByteArray).toList=[] by kernel_rfl]at h;rw[<-h];cases (xK pat).toList<;>rfl
theorem LZ{pat:Int}{h:Heap}(ht:Tab h)(hp:I64 pat):ay UQ 134 #[UH UI pat] h (λu h'=>(vw h).le (vw h')/\u = .string (xK pat)):=by
 refine aq (args:=[UH UI pat]) follows Tryz.func134 E.sM UC λK hK=>?_;dsimp only[L.sM,lkF,lkG];refine aa λz hz=>?_;simp;subst hz;refine aa λz hz=>?_;simp;refine ah U0 (Hx (s:=qh) ht (of_decide_eq_true U0) C6 (by rw[oT];decide)) ?_;rintro u h1 ⟨hle,hu⟩;have hl:=hu.len (K:=vw h1);rw[oT]at hl;subst hz;refine aa λz hz=>?_;by_cases c1:pat<1
 ·simp[c1];exact hK _ _ ⟨hle,by unfold xK;rw[if_neg U1]⟩
 by_cases c2:37<pat
 ·simp[c1,hl,c2];exact hK _ _ ⟨hle,by unfold xK;rw[if_neg U1]⟩
 have hlt:(pat-1).toNat<(fieldsD qh).length:=by rw[oT];omega
 have hx:=hu.idx1 (k:=.i64) (i:=pat-1) rfl U1 (by rw[oT];omega);have hc:=(hu.at hlt).str;rw[show(pat-1).toNat*Rep.n StrD=(pat-1).toNat from RY _]at hc;have et:(pat-1).toNat=pat.toNat-1:=by omega
 have hc:an (vw h1) ((slA u).add (pat.toNat-1))=UK (.string ((fieldsD qh)[(pat-1).toNat]).v):=by rw[<-et];exact hc
 have ew:IntKind.i64.wrap (pat-1)=pat-1:=bc (by have:=hp.1;omega) (by have:=hp.2;omega);simp[c1,hl,c2];subst hz;simp[ew,hx,hc];refine hK _ _ ⟨hle,?_⟩;unfold xK;rw[if_pos U1,SW,RK hlt,Ur];simp only[et]
def eI(t:aO):Int:=if inR t.pat 1 37=UP then 20 else if inR t.cost 0 1000=UP then 22 else 0
def mS:Nat->List aO->Int × Int
 | _,[]=>(0,0)
 | n,t::l=>if eI t=0 then mS (n+1) l else(eI t,n)
def ja(l:List aO):Int × Int:=if 1024<l.length then(2,0) else mS 0 l
theorem xq : ∀{l:List aO} {n:Nat},(∀t∈l,eI t=0)->mS n l=(0,0)
 | [],_,_=>rfl
 | t::l,n,h=>by unfold mS;rw[if_pos (h t (Rm ..))];exact xq λt ht=>h t (Q7 _ ht)
theorem zw : ∀{l:List aO} {n k:Nat},(hk:k<l.length)->(∀t∈l.take k,eI t=0)->eI (nth l k)≠0->mS n l=(eI (nth l k),((n+k:Nat):Int))
 | t::l,n,0,_,_,h=>by unfold mS;have h:eI t≠0:=h;rw[if_neg h];rfl
 | t::l,n,k+1,hk,h1,h2=>by unfold mS;rw[if_pos (h1 t U2)];have h2':eI (nth l k)≠0:=h2;have:=zw (n:=n+1) (k:=k) (by simpa using hk) (λt ht=>h1 t (by simp[ht])) h2';rw[this];have e:nth (t::l) (k+1)=nth l k:=rfl;rw[e,show n+1+k=n+(k+1) by omega]
theorem HV{l:List aO}{v:Value}{h:Heap}{W:View}(hW:W.le (vw h))(hv:SlRd W v l)(ht:Tab h):ay UQ 89 #[v] h (λu h'=>(vw h).le (vw h')/\u = .tuple #[UH UI (ja l).1,UH UI (ja l).2]):=by
 refine aq (args:=[v]) follows Tryz.func89 E.fi UC λK hK=>?_;dsimp only[L.fi,lkF,lkG];have c0:=Cx.start hW;have hl:=hv.len (K:=vw h);have bd:=hv.bound;refine aa λz hz=>?_;simp;subst hz;refine aa λz hz=>?_;by_cases c:(1024:Int)<l.length
 ·simp[hl,c];exact hK _ _ ⟨View.le_refl _,by unfold ja;rw[if_pos U1]⟩
 simp[hl,c];subst hz;refine aa λz hz=>?_;simp[hl];refine aG [0,9,10,11] (fun(_:Unit) k=>[v,v,UH UI l.length,UH UI k])
  (λ_ k h1=>(∀t∈l.take k,eI t=0)/\∃W1,W.le W1/\Cx W h W1 h1 λ_=>UL) l.length ()
  rfl U1 rfl ⟨by simp,W,View.le_refl _,c0⟩ (λ_ _=>rfl) (λv i h1 hk m=>by simp) ?_ ?_
 ·rintro _ k h1 hk ⟨hb,W1,hW1,c1⟩ K2 hK2;obtain⟨ut,hut,rut⟩:=(hv.mono hW1).wh rfl (N:=2) rfl hk;refine aa λy hy=>?_;simp(disch:=omega)[((hv.mono hW1).mono c1.wle).idxn (N:=2) rfl,hut _ c1.wle];refine c1.eC (α:=aO) rut (n:=2) (z:=zz1) U0 rfl rfl U0 U5 U5 λB h2 W2 hW2 c2 at2 hle2=>?_;have q0:=(at2.part aO.AK);have q1:=(at2.part aO.BJ);have r0:=q0.rng;have q0:an W2 ⟨B,0,UL⟩=UK (UH UI (nth l k).pat):=by simpa using q0.int
  have q1:an W2 ⟨B,1,UL⟩=UK (UH UI (nth l k).cost):=by simpa using q1.int
  have ht2:=ht.mono c2.le0;have hbk:eI (nth l k)≠0->ja l=(eI (nth l k),(k:Int)):=λhne=>by unfold ja;rw[if_neg U1,zw hk hb hne,R1]
  have htk:eI (nth l k)=0->∀t∈l.take (k+1),eI t=0:=λhe t hm=>by
   rw[Rr hk,Rj,Q8,<-aC hk]at hm;rcases hm with hm | rfl
   ·exact hb t hm
   exact he
  generalize nth l k=tl at *;subst hy;simp only[aW];refine aa λy hy=>?_;simp[ae c2.wle q0];refine ah U0 (LZ ht2 U6) ?_;rintro _ h3 ⟨hle3,rfl⟩;have c3:=c2.ext hle3;have hW3:=c2.up (h':=h3);subst hy;cases e1:inR tl.pat 1 37 with
  | false=>
   have e2:eI tl=20:=by unfold eI;rw[if_pos e1]
   have e3:=hbk (by rw[e2];decide);simp[FN,zj,e1];exact hK _ _ ⟨c3.le0,by rw[e3,e2]⟩
  | true=>
   simp[FN,zj,e1];simp[ae (UF hW3 c3.wle) q1];refine ah U0 jZ ?_;rintro _ h3 ⟨rfl,rfl⟩;cases e4:inR tl.cost 0 1000 with
   | false=>
    have e2:eI tl=22:=by unfold eI;rw[if_neg (by simp[e1]),if_pos e4]
    have e3:=hbk (by rw[e2];decide);simp;exact hK _ _ ⟨c3.le0,by rw[e3,e2]⟩
   | true=>
    have e2:eI tl=0:=by unfold eI;rw[if_neg (by simp[e1]),if_neg (by simp[e4])]
    simp;exact hK2 () _ _ rfl rfl ⟨htk e2,_,UF hW1 (UF hW2 hW3),c3⟩
 rintro _ h1 ⟨hb,W1,hW1,c1⟩;rw[RR]at hb;simp;subst hz;simp;refine hK _ _ ⟨c1.le0,?_⟩;unfold ja;rw[if_neg U1,xq hb]
open Go.ChangeShapes Go.WideShapes Go.ChangeAt Go.RowKit
abbrev C9 : List (String × DataW Unit) := [("unicode.White_Space", Rows.laid_unicode_White_Space), ("strings.asciiSpace", Rows.laid_strings_asciiSpace)]
theorem gSp: Tryz.prog.globalNamed "strings.asciiSpace" = UK (Tryz.mz.g 0) := by kernel_rfl
theorem OJ:(Rows.laid_strings_asciiSpace:DataW Unit)=Lib.tabData .u8 Lib.asciiSpaceTab:=by kernel_rfl
abbrev spT:TypeId:=308
abbrev spE:TypeId:=5
theorem DN{W:World}(h:laidMetH UQ C9 W):Tab W.heap:=by
 rw[MakeChecks.laidMetH_plain _ _ _ U0]at h;obtain⟨ps,⟨g0,t0,cs0,f0,p0,q0,hg0,ht0,hv0,hd0,⟨g1,t1,cs1,f1,p1,q1,hg1,ht1,hv1,hd1,_,_⟩,_⟩,_,_⟩:=h;obtain rfl:=Option.some.inj (gSp.symm.trans hg1);have hty:(Tryz.prog.globals[Tryz.mz.g 0]?).map (·.type)=UK spT:=by kernel_rfl
 obtain rfl:=Option.some.inj (hty.symm.trans ht1);rw[OJ]at hd1;have htab : Lib.TabIs UQ W "strings.asciiSpace" .u8 Lib.asciiSpaceTab := by unfold Lib.TabIs;rw[hv1,<-Lib.cells_of_tab (n:=256) (e:=spE) U0 U0 U0 U0 hd1]
 intro c hc;have:=htab.cell gSp c (by rw[Lib.asciiSpaceTab_length];exact hc);rw[Lib.asciiSpaceTab_at c hc]at this;obtain⟨-,a,T,fz,h1,h2⟩:=Ax this;unfold an vw;simp only[h1];simpa using h2
theorem KD(os:Os)(args:Array Value):laidMetH UQ C9 ((World.doorLaid UQ 400 os).forCall (λ_ _=>0) ⟨#[],args,[]⟩).memory:=
 laidMetH_of_parts3 (fuel:=8) (laidMet_of_run' 8 U0 U0) U0 U0
section
abbrev Wh:=Int->Option (Int × Int)
def GF(can:Int->Int->Bool):Option (Int × Int)->Bool
 | none=>UO
 | some w=>can w.1 w.2
def yr(can:Int->Int->Bool)(wh:Wh)(l:List Int):Bool:=l.all λv=>GF can (wh v)
def Kh(can:Int->Int->Bool)(wh:Wh):Option FitD->Bool
 | none=>UP
 | some x=>yr can wh x.takes
def canP(f:ak)(has:Int->Bool)(wh:Wh)(can:Int->Int->Bool)(b i pat:Int):Bool:=has pat&&Kh can wh (tryS (eJ f b i 0) pat)
def canS(f:ak)(has:Int->Bool)(wh:Wh):Nat->Int->Int->Bool
 | 0,_,_=>UP
 | n+1,b,i=>(List.range 38).any λk=>canP f has wh (canS f has wh n) b i (k:Int)
theorem E8{f:ak}{t:cS}{pat:Int}(h:¬(0<=pat/\pat<38)):iA f t pat=none:=by unfold iA;rw[if_neg U1,if_neg U1,if_neg U1,if_neg U1,if_neg U1,if_neg U1]
theorem Is{s:cC}{pat:Int}(h:¬(0<=pat/\pat<38)):tryS s pat=none:=by
 unfold tryS;split
 ·exact E8 h
 unfold patS;rw[if_neg U1]
theorem Ex{f:ak}{has:Int->Bool}{wh:Wh}{n:Nat}{b i:Int}:canS f has wh (n+1) b i=UO↔∃pat,canP f has wh (canS f has wh n) b i pat=true:=by
 unfold canS;rw[T1];constructor
 ·rintro⟨k,_,hk⟩;exact⟨_,hk⟩
 rintro⟨pat,hp⟩;by_cases h:0<=pat/\pat<38
 ·refine⟨pat.toNat,SG.2 U1,?_⟩;rw[RE h.1];exact hp
 unfold canP at hp;rw[Is h]at hp;simp[Kh]at hp
def twoV(w:Int × Int):Value:=.agg #[UH UI w.1,UH UI w.2]
structure Cv(W:View)(F H Q C r1 r2:Nat)(f:ak)(has:Int->Bool)(wh:Wh):Prop where
 fc:At W ⟨F,0,UL⟩ f
 hasR : ∀p,has p=UO->I64 p
 hasC:an W ⟨H,0,UL⟩=UK (.map (UK r1))
 hasM : ∀h,W.le (vw h)->di (.int .i64) h r1 (mapB has)
 whC:an W ⟨Q,0,UL⟩=UK (.map (UK r2))
 whR : ∀v w,wh v=UK w->I64 w.1/\I64 w.2
 whM : ∀h,W.le (vw h)->di (.int .i64) h r2 (mapE twoV wh)
 can:an W ⟨C,0,UL⟩=UK (.func (.func 91) #[] #[ptr F,ptr H,ptr Q,ptr C])
theorem Cv.mono{W W':View}{F H Q C r1 r2:Nat}{f:ak}{has:Int->Bool}{wh:Wh}(c:Cv W F H Q C r1 r2 f has wh)(h:W.le W'):Cv W' F H Q C r1 r2 f has wh:=
 ⟨c.fc.mono h,c.hasR,ae h c.hasC,λg hg=>c.hasM g (UF h hg),ae h c.whC,c.whR,λg hg=>c.whM g (UF h hg),ae h c.can⟩
def Down(f:ak)(wh:Wh):Prop:=∀b i pat x v w,dz f b i=UO->tryS (eJ f b i 0) pat=UK x->v∈x.takes->wh v=UK w->dz f w.1 w.2=UO/\w.2<i
theorem HA{s:Int->Bool}{u v:Value}(hk:MapKept.IsKey (.int .i64) u)(h:mapB s u=UK v): ∃p:Int,u = UH UI p/\s p=UO/\v = .bool true:=by
 cases u<;>simp[MapKept.IsKey]at hk;rename_i k p;subst hk;rw[EA]at h;split at h
 ·rename_i hs;cases h;exact⟨p,rfl,hs,rfl⟩
 cases h
theorem z7{h h':Heap}{b r:Nat}{left:List (Value × Value)}(m:It h b r left)(hle:(vw h).le (vw h')):It h' b r left:=by
 have l:=m.lt;have e : ∀k,k<h.size->h'[k]? = h[k]?:=λk hk=>by have:=hle k h[k] (RA hk);rw[RA hk];exact this
 exact m.same (e _ l.1) (e _ l.2.1)
theorem I0{f:ak}{has:Int->Bool}{wh:Wh}(m:nQ f)(hsm:SmF f)(hM : ∀i∈fg f,i.op=15\/i.op=16->ib)(hd:Down f wh) : ∀(n:Nat) {b i:Int} {Fb H Q C r1 r2:Nat} {W:View} {h:Heap},Cv W Fb H Q C r1 r2 f has wh->W.le (vw h)->dz f b i=UO->i<n->
  ay UQ 91 #[UH UI b,UH UI i,ptr Fb,ptr H,ptr Q,ptr C] h (λu h'=>(vw h).le (vw h')/\u = .bool (canS f has wh n b i))
 | 0,b,i,Fb,H,Q,C,r1,r2,W,h,cv,hW,hpl,hi=>by simp[dz]at hpl;omega
 | n+1,b,i,Fb,H,Q,C,r1,r2,W,h,cv,hW,hpl,hi=>by
  have ih:=@I0 f has wh m hsm hM hd n;refine aq (args:=[UH UI b,UH UI i,ptr Fb,ptr H,ptr Q,ptr C]) follows Tryz.func91 E.cR UC λK hK=>?_;dsimp only[L.cR,lkF,lkG];have c0:=Cx.start hW;refine aa λz hz=>?_;simp;subst hz;refine aa λz hz=>?_;obtain⟨uf,huf,ruf⟩:=cv.fc.ldN rfl (N:=2) rfl;have hr:=qC ruf;simp[huf _ hW];refine ah U0 (IS (b:=b) (p:=i) hW ruf (by constructor<;>decide)) ?_;rintro _ h1 ⟨hle1,vs,rfl,hvs⟩;have c1:=c0.ext hle1;have hW1:=c0.up (h':=h1);have hpS:oP f b i 0=eJ f b i 0:=by unfold oP;rw[hpl,if_pos rfl]
  rw[hpS]at hvs;simp;refine c1.eC (α:=cC) hvs (n:=13) (z:=.agg qL.toArray) U0 rfl rfl U0 U5 U5 λB h2 W2 hW2 c2 at2 hle2=>?_;have cv2:=cv.mono (UF hW1 hW2);subst hz;refine aa λz hz=>?_;refine aa λy hy=>?_;simp[ae c2.wle cv2.hasC];refine xu U.hZ rfl (cv2.hasM h2 c2.wle) λh3 left hle3 hs3 it3 nd3 key3 mem3=>?_;have hall : ∀u v,(u,v)∈left->∃p:Int,u = UH UI p/\has p=true:=λu v hu=>by obtain⟨p,e1,e2,-⟩:=HA (key3 u v hu) ((mem3 u v (key3 u v hu)).1 hu);exact⟨p,e1,e2⟩
  have hrest : ∀p:Int,has p=UO->(∃v,(UH UI p,v)∈left):=λp hp=>⟨.bool UO,(mem3 _ _ cV).2 (by rw[EA,hp,if_pos rfl])⟩;have hr3:W2 h2.size=none:=View.b8 c2.wle (Q4 _);have hs0:h.size<=h2.size:=bO c2.le0;have c3:Cx W h W2 h3 λ_=>none:=⟨Owns.start (UF c2.wle hle3),c2.old,UF c2.le0 hle3,λ_ _ _ e=>by cases e⟩;obtain⟨r,hr0⟩ : ∃r,r=h2.size:=⟨_,rfl⟩;rw[<-hr0]at it3 hr3 hs0 ⊢;subst hy;simp only[aW];refine ik [0,1,2,3,4,5,9,26] (λmm ρ hx=>∃(left:List (Value × Value)) (Wx:View),mm=left.length/\ρ=[(0,UH UI b),(1,UH UI i),(2,ptr Fb),(3,ptr H),(4,ptr Q),(5,ptr C),(9,ptr B),(26,ptr r)]/\W2.le Wx/\Cx W h Wx hx (λ_=>UL)/\Wx r=UL/\It hx r1 r left/\
   (∀u v,(u,v)∈left->∃p:Int,u = UH UI p/\has p=UO)/\(∀p:Int,has p=UO->(∃v,(UH UI p,v)∈left)\/canP f has wh (canS f has wh n) b i p=UP)) left.length
   ⟨left,W2,rfl,rfl,View.le_refl _,c3,hr3,it3,hall,λp hp=>.inl (hrest p hp)⟩ ?_;clear hall hrest it3 nd3 key3 mem3 c3;rintro mm ρ hx ⟨left,Wx,rfl,rfl,lx,cx,hrx,itx,hall,hrest⟩ K2 hK2;refine aa λy hy=>?_;simp;refine zq rfl itx ?_ ?_
  ·rintro rfl;have hno:canS f has wh (n+1) b i=false:=by
    cases e:canS f has wh (n+1) b i with
    | false=>rfl
    | true=>
     obtain⟨p,hp⟩:=Ex.1 e;have hh:has p=true:=by unfold canP at hp;simp at hp;exact hp.1
     rcases hrest p hh with⟨v,hv⟩ | hv
     ·cases hv
     rw[hp]at hv;cases hv
   simp;subst hy;simp;subst hz;simp;exact hK _ _ ⟨cx.le0,by rw[hno]⟩
  intro a p q h4 el hs4 ho4 it4;obtain⟨pat,e1,e2⟩:=hall p.1 p.2 (by rw[el];simp);have hpe:p=(UH UI pat,p.2):=by rw[<-e1]
  have le4 : ∀X:View,X.le (vw hx)->X r=UL->X.le (vw h4):=λX hX hn b o hb=>by show h4[b]? = UK o;rw[ho4 b (by rintro rfl;rw[hn]at hb;cases hb)];exact hX b o hb
  have le04:(vw h).le (vw h4):=λb o hb=>by have hlt:=View.lt (View.le_refl (vw h)) hb;show h4[b]? = UK o;rw[ho4 b U1];exact cx.le0 b o hb
  have hW4:=le4 Wx cx.wle hrx;have c4:Cx W h Wx h4 λ_=>none:=⟨Owns.start hW4,cx.old,le04,λ_ _ _ e=>by cases e⟩;have hrest4 : ∀p:Int,p≠pat->has p=UO->(∃v,(UH UI p,v)∈a++q)\/canP f has wh (canS f has wh n) b i p=false:=λp' hne hp'=>by
   rcases hrest p' hp' with⟨v,hv⟩ | hv
   ·rw[el,Rj,Ru]at hv;rcases hv with hv | hv | hv
    ·exact .inl ⟨v,Rj.2 (.inl hv)⟩
    ·rw[hpe]at hv;simp at hv;exact absurd hv.1 hne
    exact .inl ⟨v,Rj.2 (.inr hv)⟩
   exact .inr hv
  have hall4 : ∀u v,(u,v)∈a++q->∃p:Int,u = UH UI p/\has p=true:=λu v hu=>hall u v (by rw[el,Rj,Ru];rcases Rj.1 hu with hu | hu<;>simp[hu]);have hlen:(a++q).length<left.length:=by rw[el];simp
  have at4:=at2.mono lx;have cv4:=cv2.mono lx;clear hrest hall itx cx;simp;subst hy;refine aa λy hy=>?_;refine aQ U2 ?_;simp;subst hy;simp only[aW];refine aa λy hy=>?_;simp;refine EY rfl it4 ?_;simp[e1];subst hy;refine aa λy hy=>?_;obtain⟨us,hus,rus⟩:=at4.ldN rfl (N:=13) rfl;simp[hus _ c4.wle];refine ah U0 (Cq c4.wle rus m hsm hr hM hpl (cv.hasR _ e2)) ?_;rintro _ h5 ⟨hle5,vf,x,rfl,hvf,hxx⟩;have c5:=c4.ext hle5;have hW5:=c4.up (h':=h5);have it5:=z7 it4.it hle5;simp;refine dw (X:=grow Wx h4 h5) (α:=FitD) (z:=.agg fitZ.toArray) U0 rfl U0 hvf U5 U5 λh6 hle6 hs6 hat6=>?_;have c6:=c5.ext hle6;have hW6:=c5.up (h':=h6);have at6:=hat6 _ hW6 (bY (Q4 _));have hr6:grow (grow Wx h4 h5) h5 h6 r=none:=by rw[gP (z7 it4.it hle5).lt.2.1,gP it4.it.lt.2.1];exact hrx
  generalize grow (grow Wx h4 h5) h5 h6=W6 at *;generalize h5.size=B3 at *;have it6:=z7 it5 hle6;subst hy;refine aa λy hy=>?_;have pt:=(at6.part FitD.Gy).sl;obtain⟨vt,k1,s1⟩:=pt;have k1:an W6 ⟨B3,0,UL⟩=UK vt:=by simpa using k1
  refine aa λw hw=>?_;simp[ae c6.wle k1,s1.len];subst hw;simp only[aW];have bt:=s1.bound;obtain⟨okS,hok⟩ : ∃okS:Nat->Bool,okS=λj=>(tryS (eJ f b i 0) pat).isSome&&yr (canS f has wh n) wh (x.takes.take j):=⟨_,rfl⟩;have ok0:(tryS (eJ f b i 0) pat).isSome=okS 0:=by rw[hok];simp[yr]
  have okJ : ∀j,j<x.takes.length->okS (j+1)=(okS j&&GF (canS f has wh n) (wh (nth x.takes j))):=λj hj=>by rw[hok];simp only[yr];rw[Rr hj,List.all_append,aC hj];simp[Uz]
  have okE:okS x.takes.length=canP f has wh (canS f has wh n) b i pat:=by
   rw[hok];simp only[RR];unfold canP;rw[e2];cases hq:tryS (eJ f b i 0) pat with
   | none=>rfl
   | some y=>rw[hxx y hq];rfl
  have okV : ∀j,j<x.takes.length->okS j=UO->∀w,wh (nth x.takes j)=UK w->dz f w.1 w.2=UO/\w.2<i:=λj hj ho w hw=>by rw[hok]at ho;simp only[Q9]at ho;obtain⟨y,hy⟩:=Um.1 ho.1;have:=hxx y hy;subst this;exact hd b i pat x _ w hpl hy (bF hj) hw
  rw[ok0];clear hok ok0;refine aG [0,1,2,3,4,5,9,11,12,13,26,38,39,40] (fun(_:Unit) j=>[UH UI b,UH UI i,ptr Fb,ptr H,ptr Q,ptr C,ptr B,UH UI pat,ptr B3,.bool (okS j),ptr r,vt,UH UI x.takes.length,UH UI j])
   (λ_ j h7=>∃W7,W6.le W7/\Cx W h W7 h7 (λ_=>UL)/\W7 r=UL/\It h7 r1 r (a++q)) x.takes.length ()
   rfl U1 rfl ⟨W6,View.le_refl _,c6,hr6,it6⟩ (λ_ _=>rfl) (λv i h1 hk m=>by simp) ?_ ?_
  ·rintro _ j h7 hj ⟨W7,lW7,c7,hr7,it7⟩ K3 hK3;have s7:=s1.mono (UF lW7 c7.wle);have cv7:=(cv4.mono hW5).mono (UF hW6 lW7);have okj:=okJ j hj;have okv:=okV j hj;refine aa λw hw=>?_;simp(disch:=omega)[s7.idx1 rfl,s7.int UE];subst hw;generalize nth x.takes j=vv at *;refine aa λw hw=>?_;simp[ae c7.wle cv7.whC];refine og (f:=mapE twoV wh) (z:=zz1) (k:=T.int) (e:=T.nT) (d:=.int .i64) (r:=r2) (u:=UH UI vv) U.gS U.int U0 rfl rfl cV (cv7.whM h7 c7.wle) ?_;have wr:Rd W7 (((wh vv).map twoV).getD (.agg #[UH UI 0,UH UI 0])) ((wh vv).getD (0,0)):=by
    cases hv:wh vv with
    | none=>exact sL.2 ⟨rfl,by decide,by decide⟩
    | some w=>exact sL.2 ⟨rfl,(cv7.whR vv w hv).1,(cv7.whR vv w hv).2⟩
   simp;refine dw (X:=W7) (α:=Int × Int) (z:=zz1) U0 rfl U0 wr U5 U5 λh8 hle8 hs8 hat8=>?_;have c8:=c7.ext hle8;have hW8:=c7.up (h':=h8);have at8:=hat8 _ hW8 (bY (Q4 _));have it8:=z7 it7 hle8;have hr8:grow W7 h7 h8 r=none:=by rw[gP it7.lt.2.1];exact hr7
   generalize grow W7 h7 h8=W8 at *;generalize h7.size=B4 at *;subst hw;refine aa λw hw=>?_;cases ho:okS j with
   | false=>rw[ho]at okj;simp;subst hw;simp;exact hK3 () _ _ rfl (by simp[aX,okj]) ⟨W8,UF lW7 hW8,c8,hr8,it8⟩
   | true=>
    rw[ho]at okj;cases hv:wh vv with
    | none=>rw[hv]at okj;simp;subst hw;simp;exact hK3 () _ _ rfl (by simp[aX,okj,GF]) ⟨W8,UF lW7 hW8,c8,hr8,it8⟩
    | some ww=>
     rw[hv]at okj at8;obtain⟨g1,g2⟩:=okv ho ww hv;have at8:At W8 ⟨B4,0,UL⟩ ww:=at8;obtain⟨cs,q1,q2,-⟩:=at8;have x0:an W8 ⟨B4,0,UL⟩=UK (UH UI ww.1):=by have:=jf q1 (i:=0) (v:=UH UI ww.1) (by rw[q2];rfl);simpa using this
     have x1:an W8 ⟨B4,1,UL⟩=UK (UH UI ww.2):=by have:=jf q1 (i:=1) (v:=UH UI ww.2) (by rw[q2];rfl);simpa using this
     have cv8:=cv7.mono hW8;simp;subst hw;have y0:Bn.ev (.aidx 2 1) (ptz B4) (UH UI 0)=UK (ptz B4):=rfl;have y1:Bn.ev (.aidx 2 1) (ptz B4) (UH UI 1)=UK (UN (UK ⟨B4,1,UL⟩)):=rfl;simp[ae c8.wle cv8.can,ae c8.wle x0,ae c8.wle x1,y0,y1];refine bZ (ops:=[.tmp 56,.tmp 58]) (caps:=#[ptr Fb,ptr H,ptr Q,ptr C]) rfl U0 (ih (b:=ww.1) (i:=ww.2) cv8 c8.wle g1 U1) ?_;rintro _ h9 ⟨hle9,rfl⟩;have c9:=c8.ext hle9;have hW9:=c8.up (h':=h9);refine hK3 () _ _ rfl (by simp[aX,okj,GF]) ⟨_,UF lW7 (UF hW8 hW9),c9,?_,z7 it8 hle9⟩;rw[gP it8.lt.2.1];exact hr8
  rintro _ h7 ⟨W7,lW7,c7,hr7,it7⟩;rw[okE];simp;subst hy;cases hcp:canP f has wh (canS f has wh n) b i pat with
  | true=>have hyes:canS f has wh (n+1) b i=true:=Ex.2 ⟨pat,hcp⟩;simp;exact hK _ _ ⟨c7.le0,by rw[hyes]⟩
  | false=>
   simp;refine hK2 (a++q).length _ _ hlen ⟨a++q,W7,rfl,rfl,UF lx (UF hW5 (UF hW6 lW7)),c7,hr7,it7,hall4,λp' hp'=>?_⟩;by_cases hne:p'=pat
   ·exact .inr (hne▸hcp)
   exact hrest4 p' hne hp'
end
end Go.Lft
namespace Go.Lft
theorem Gg{po:OP}{P:Program}{ty t e rt:TypeId}{us:List (Nat × Value)}{h:Heap}{K:Value->Heap->Prop}{a b c d:Int}{ki:IntKind}{x y:Operand}(hu:P.underlying t=UK (.array 2 e))(he:P.underlying e=UK (.int ki))(hs:cU P e=UK 1)(ha:nO P e=UK UP)(hgd:P.eqGuardType P.depth t=UP)
  (hx:asg us x = .agg #[.int ki a,.int ki b]) (hy:asg us y = .agg #[.int ki c,.int ki d]) (hk:K (.bool (a == c&&b == d)) h):@step po P (.binOp .eql t x y rt) ty us h K:=by refine df (cB λw hw=>⟨_,w,?_,Same.refl _,by rw[hw];exact hk⟩);simp only[bL,execOp,hx,hy];simp[eqGuard,binOp,Ea hu he hs ha,program,Sem.run,hgd]
structure Mq(V:View)(h0:Heap)(W:View)(h:Heap)(r:Nat)(g:Value->Option Value):Prop where
 c:Cx V h0 W h λ_=>UL
 av:W r=UL
 lo:h0.size<=r
 m:di (.int .i64) h r g
section
variable{po po2:OP}{V W:View}{h0 h h':Heap}{r:Nat}{g g':Value->Option Value}
theorem Mq.ext(k:Mq V h0 W h r g)(hle:(vw h).le (vw h')):Mq V h0 (grow W h h') h' r g:=⟨k.c.ext hle,by rw[gP k.m.lt];exact k.av,k.lo,k.m.ext hle⟩
theorem Mq.up(k:Mq V h0 W h r g):W.le (grow W h h'):=k.c.up
theorem Mq.wle(k:Mq V h0 W h r g):W.le (vw h):=k.c.wle
theorem Mq.upd(k:Mq V h0 W h r g)(ho : ∀b,b≠r->h'[b]? = h[b]?)(hm:di (.int .i64) h' r g'):Mq V h0 W h' r g':=
 ⟨⟨Owns.start λb o hb=>by
   show h'[b]? = UK o;rw[ho b (by rintro rfl;rw[k.av]at hb;cases hb)];exact k.wle b o hb,k.c.old,λb o hb=>by
   have hlt:=View.lt (View.le_refl (vw h0)) hb;have:=k.lo;show h'[b]? = UK o;rw[ho b U1];exact k.c.le0 b o hb,λ_ _ _ e=>by cases e⟩,k.av,k.lo,hm⟩
theorem Mq.eC{α:Type}[Rep α]{P:Program}{ty:TypeId}{us:List (Nat × Value)}{t ty2:TypeId}{n:Nat}{z:Value}{x y:Operand}{us2:Value->List (Nat × Value)}{v:Value}{d:α}{K:Value->Heap->Prop}(k:Mq V h0 W h r g)(hv:Rd W v d)(hz:(P.info? t).map (·.zero)=UK (UK z))(hN:Rep.n α=n)(hzc:z.cells.size=n)(hsz:cU P t=UK n)
  (hx : ∀p,asg (us2 p) x=p) (hy : ∀p,asg (us2 p) y=v) (hk : ∀B h' W',W.le W'->Mq V h0 W' h' r g->At W' ⟨B,0,UL⟩ d->(vw h).le (vw h')->K (ptz B) h') :
  @Lft.step po P (.alloc t) ty us h λp h2=>@Lft.step po2 P (.store t x y) ty2 (us2 p) h2 λ_ h3=>K p h3:=by subst hN;refine dw (X:=W) hz hzc hsz hv hx hy λh1 hle hs hat=>?_;exact hk _ _ _ k.up (k.ext hle) (hat _ k.up (bY (Q4 _))) hle
theorem Mq.freeze(k:Mq V h0 W h r g) : ∃W',W.le W'/\Cx V h0 W' h (λ_=>UL)/\(∀g2:Heap,W'.le (vw g2)->di (.int .i64) g2 r g):=by
 obtain⟨es,cl,e1,e2⟩:=k.m.ex;have hle:W.le (W.set r (.map es cl)):=λb o hb=>by unfold View.set;rw[if_neg (by rintro rfl;rw[k.av]at hb;cases hb)];exact hb
 have hw:(W.set r (.map es cl)).le (vw h):=λb o hb=>by
  unfold View.set at hb;split at hb
  ·rename_i e;subst e;cases hb;exact e1
  exact k.wle b o hb
 refine⟨_,hle,⟨Owns.start hw,λb o hb hx=>?_,k.c.le0,λ_ _ _ e=>by cases e⟩,λg2 hg2=>⟨es,cl,hg2 r _ (by unfold View.set;rw[if_pos rfl]),e2⟩⟩;unfold View.set at hx;have:=k.lo;rw[if_neg U1]at hx;exact k.c.old b o hb hx
end
def hasS(l:List aO):Int->Bool:=λp=>decide (p=0)||l.any λt=>decide (t.pat=p)
def mG(f:ak)(b k:Nat)(wh:Wh):Wh:=
 if(!decide ((nth (nth f.blocks b).ins k).op=16)&&!decide ((nth (nth f.blocks b).ins k).op=18))&&cI f (nth (nth f.blocks b).ins k).dst then putM wh (nth (nth f.blocks b).ins k).dst ((b:Int),(k:Int)) else wh
def whTo(f:ak)(n:Nat):Wh:=Lft.up (λb wh=>Lft.up (mG f b) (nth f.blocks b).ins.length wh) n (λ_=>UL)
def whS(f:ak):Wh:=whTo f f.blocks.length
theorem AT{f:ak}{n:Nat}:whTo f (n+1)=Lft.up (mG f n) (nth f.blocks n).ins.length (whTo f n):=rfl
theorem pQ : ∀{l:List aO} {n:Nat},(mS n l).1=0->∀t∈l,eI t=0
 | [],_,_,t,ht=>by cases ht
 | a::l,n,h,t,ht=>by
  unfold mS at h;split at h
  ·rename_i e;rcases Ru.1 ht with rfl | ht
   ·exact e
   exact pQ h t ht
  rename_i e;exact absurd h e
theorem As{l:List aO}(h:(ja l).1=0){t:aO}(ht:t∈l):inR t.pat 1 37=true:=by
 unfold ja at h;split at h
 ·cases h
 have:=pQ h t ht;unfold eI at this;cases e:inR t.pat 1 37 with
 | true=>rfl
 | false=>rw[if_pos e]at this;cases this
theorem Mu{l:List aO}(h:(ja l).1=0){p:Int}(hp:hasS l p=UO):I64 p:=by
 unfold hasS at hp;simp at hp;rcases hp with rfl | ⟨t,ht,rfl⟩
 ·constructor<;>decide
 have:=As h ht;simp[inR]at this;constructor<;>omega
def WhAt(f:ak)(v:Int)(w:Int × Int):Prop:=∃b k:Nat,b<f.blocks.length/\k<(nth f.blocks b).ins.length/\w=((b:Int),(k:Int))/\(nth (nth f.blocks b).ins k).dst=v/\(nth (nth f.blocks b).ins k).op≠16/\(nth (nth f.blocks b).ins k).op≠18/\cI f v=UO
theorem Ih{f:ak}{b k:Nat}{g:Wh}(hb:b<f.blocks.length)(hk:k<(nth f.blocks b).ins.length)(hg : ∀v w,g v=UK w->WhAt f v w) : ∀v w,mG f b k g v=UK w->WhAt f v w:=by
 intro v w h;unfold mG at h;split at h
 ·rename_i c;simp at c;unfold putM at h;split at h
  ·rename_i e;cases h;exact⟨b,k,hb,hk,rfl,e.symm,c.1.1,c.1.2,e▸c.2⟩
  exact hg v w h
 exact hg v w h
theorem GR{f:ak} : ∀{n:Nat},n<=f.blocks.length->∀v w,whTo f n v=UK w->WhAt f v w
 | 0,_,v,w,h=>by cases h
 | n+1,hn,v,w,h=>by
  rw[AT]at h;have key : ∀k,k<=(nth f.blocks n).ins.length->∀v w,Lft.up (mG f n) k (whTo f n) v=UK w->WhAt f v w:=by
   intro k;induction k with
   | zero=>exact λ_ v w h=>GR U1 v w h
   | succ k ih=>exact λhk=>Ih U1 U1 (ih U1)
  exact key _ (Q4 _) v w h
theorem Ju{f:ak}{v:Int}{w:Int × Int}(h:whS f v=UK w):WhAt f v w:=GR (Q4 _) v w h
theorem Oy{f:ak}(hsm:SmF f){v:Int}{w:Int × Int}(h:whS f v=UK w):I64 w.1/\I64 w.2:=by obtain⟨b,k,hb,hk,rfl,-⟩:=Ju h;have h1:=hsm.len;have h2:=(hsm.blk b hb).ins;refine⟨⟨?_,?_⟩,?_,?_⟩<;>simp only<;>omega
def oY(f:ak)(wh:Wh)(b i:Nat):Bool:=!(decide (i<(nth f.blocks b).ins.length)&&(!decide ((nth (nth f.blocks b).ins i).op=16)&&decide (wh (nth (nth f.blocks b).ins i).dst=UK ((b:Int),(i:Int)))))
def uY(f:ak)(has:Int->Bool)(b i:Nat):Bool:=oY f (whS f) b i&&!canS f has (whS f) (i+1) b i
def vU(f:ak)(has:Int->Bool)(b:Nat):Option Nat:=(List.range ((nth f.blocks b).ins.length+1)).find? (uY f has b)
def nM(f:ak)(has:Int->Bool):Option (Nat × Nat):=(List.range f.blocks.length).findSome? λb=>(vU f has b).map λi=>(b,i)
def Nq:Option (Nat × Nat)->Int × Int × Int
 | none=>(0,0,0)
 | some w=>(21,w.1,w.2)
def eZ(l:List aO)(f:ak):Int × Int × Int:=if(ja l).1≠0 then((ja l).1,0,0) else if pV f=UP then(1,0,0) else Nq (nM f (hasS l))
theorem find_range{p:Nat->Bool}{n i:Nat}(hi:i<n)(h1:(List.range i).find? p=UL)(h2:p i=UO):(List.range n).find? p=UK i:=by obtain⟨d,rfl⟩ : ∃d,n=i+(d+1):=⟨n-i-1,by omega⟩;rw[List.range_add,TQ,h1,S8,Uu];simp[h2]
theorem zn{α:Type}{p:Nat->Option α}{n i:Nat}{a:α}(hi:i<n)(h1:(List.range i).findSome? p=UL)(h2:p i=UK a):(List.range n).findSome? p=UK a:=by obtain⟨d,rfl⟩ : ∃d,n=i+(d+1):=⟨n-i-1,by omega⟩;rw[List.range_add,Tm,h1,S8,Uu];simp[h2]
def Looks(ρ:Env)(l:List (Nat × Value)):Prop:=∀p∈l,Lft.look ρ p.1=UK p.2
set_option maxHeartbeats 4000000 in
theorem Am{l:List aO}{f:ak}{vl vf:Value}{h:Heap}{W:View}(hW:W.le (vw h))(hl:SlRd W vl l)(hf:Rd W vf f)(hsm:SmF f)(ht:Tab h)(hM : ∀i∈fg f,i.op=15\/i.op=16->ib)(hd:pV f=UO->Down f (whS f)) :
  ay UQ 46 #[vl,vf] h (λu h'=>(vw h).le (vw h')/\u = .tuple #[UH UI (eZ l f).1,UH UI (eZ l f).2.1,UH UI (eZ l f).2.2]):=by
 refine aq (args:=[vl,vf]) follows Tryz.func46 E.bD UC λK hK=>?_;dsimp only[L.bD,lkF,lkG];have c0:=Cx.start hW;refine aa λz hz=>?_;simp;refine c0.ey rfl hf λF1 h1 W1 hW1 c1 at1 hle1=>?_;subst hz;refine aa λz hz=>?_;refine aa λy hy=>?_;simp;refine ah U0 (HV c1.wle (hl.mono hW1) (ht.mono c1.le0)) ?_;rintro _ h2 ⟨hle2,rfl⟩;have c2:=c1.ext hle2;have hW2:=c1.up (h':=h2);simp;subst hy;refine aa λy hy=>?_;simp;subst hy;by_cases e1:(ja l).1=0
 ·simp[e1];subst hz;refine aa λz hz=>?_;refine aa λy hy=>?_;obtain⟨uf,huf,ruf⟩:=at1.ldN rfl (N:=2) rfl;simp[huf _ (UF hW2 c2.wle)];refine ah U0 (zH (ruf.mono (UF hW2 c2.wle)) hsm) ?_;rintro _ h3 ⟨rfl,hle3⟩;have c3:=c2.ext hle3;have hW3:=c2.up (h':=h3);subst hy;cases hrt:pV f with
  | false=>
   have hrt2:decide ((my f).1=0)=false:=hrt;have e:eZ l f=(1,0,0):=by unfold eZ;rw[if_neg (by rw[e1];simp),if_pos hrt]
   simp[hrt2];exact hK _ _ ⟨c3.le0,by rw[e]⟩
  | true=>
   have hrt2:decide ((my f).1=0)=true:=hrt;have hcov:eZ l f=Nq (nM f (hasS l)):=by unfold eZ;rw[if_neg (by rw[e1];simp),if_neg (by simp[hrt])]
   rw[hcov]at hK;have m:=kv hrt;have hd:=hd hrt;simp[hrt2];subst hz;refine aa λz hz=>?_;simp;refine lE ?_;have m3:di (.int .i64) (h3.push (.map #[] 0)) h3.size λ_=>none:=di.none U2;have q3:=bQ h3 (.map #[] 0);have av3:grow (grow W1 h1 h2) h2 h3 h3.size=none:=View.b8 c3.wle (Q4 _);have hs3:h.size<=h3.size:=bO c3.le0;have hW13:W1.le (grow (grow W1 h1 h2) h2 h3):=UF hW2 hW3;generalize grow (grow W1 h1 h2) h2 h3=W3 at *;generalize h3.push (.map #[] 0)=h4 at *;obtain⟨r1,hr1⟩ : ∃r,r=h3.size:=⟨_,rfl⟩;rw[<-hr1]at m3 av3 hs3 ⊢;have k4:Mq W h W3 h4 r1 λ_=>none:=⟨⟨Owns.start (UF c3.wle q3),c3.old,UF c3.le0 q3,λ_ _ _ e=>by cases e⟩,av3,hs3,m3⟩;refine kz (.inr rfl) (t:=T.hZ) (k:=T.int) (e:=T.bool) (u:=UH UI 0) U.hZ U.int rfl rfl rfl cV k4.m (mapB (hasS [])) (by simp[hasS]) (λu hu=>?_) λh5 hs5 ho5 hm5=>?_
   ·cases u with
    | int k j=>cases k<;>first | rfl | (simp[hasS];intro e;exact hu (by rw[e]))
    | _=>rfl
   have k5:=k4.upd ho5 hm5;refine fO (n:=1) (z:=.map UL) (v:=.map (UK r1)) U0 rfl U0 rfl U8 U5 U5 λh6 hle6 hs6 hb6=>?_;have k6:=k5.ext hle6;have hW6:=k5.up (h':=h6);have x9:an (grow W3 h5 h6) ⟨h5.size,0,UL⟩=UK (.map (UK r1)):=cell_of (by rw[bY (Q4 _)];exact hb6) rfl;generalize grow W3 h5 h6=W6 at *;generalize h5.size=B9 at *;subst hz;refine aa λz hz=>?_;refine aa λy hy=>?_;have hl6:=hl.mono (UF hW1 (UF hW13 hW6));have bl:=hl.bound;simp[hl6.len];subst hy;refine aG [0,1,3,9,37,38,39] (fun(_:Unit) k=>[vl,vf,ptr F1,ptr B9,vl,UH UI l.length,UH UI k])
    (λ_ k hx=>∃Wx,W6.le Wx/\Mq W h Wx hx r1 (mapB (hasS (l.take k)))) l.length ()
    rfl U1 rfl ⟨W6,View.le_refl _,k6⟩ (λ_ _=>rfl) (λv i h1 hk m=>by simp) ?_ ?_
   ·rintro _ k hx hk ⟨Wx,lx,kx⟩ K2 hK2;obtain⟨ut,hut,rut⟩:=(hl6.mono lx).wh rfl (N:=2) rfl hk;refine aa λy hy=>?_;simp(disch:=omega)[((hl6.mono lx).mono kx.wle).idxn (N:=2) rfl,hut _ kx.wle];refine kx.eC (α:=aO) rut (n:=2) (z:=zz1) U0 rfl rfl U0 U5 U5 λB h7 W7 hW7 k7 at7 hle7=>?_;have q0:an W7 ⟨B,0,UL⟩=UK (UH UI (nth l k).pat):=by simpa using(at7.part aO.AK).int
    subst hy;simp[ae k7.wle q0,ae (UF lx (UF hW7 k7.wle)) x9];have hst : ∀p,hasS (l.take (k+1)) p=if p=(nth l k).pat then UO else hasS (l.take k) p:=λp=>by
     unfold hasS;rw[Rr hk,List.any_append,aC hk];by_cases e:p=l[k].pat
     ·simp[e]
     simp[e,Ne.symm e]
    obtain⟨g1,g2⟩:=Jh (f:=hasS (l.take k)) (g:=hasS (l.take (k+1))) (j:=(nth l k).pat) hst;refine kz (.inl rfl) (t:=T.hZ) (k:=T.int) (e:=T.bool) (u:=UH UI (nth l k).pat) U.hZ U.int rfl rfl rfl cV k7.m (mapB (hasS (l.take (k+1)))) g1 g2 λh8 hs8 ho8 hm8=>?_;exact hK2 () _ _ rfl rfl ⟨W7,UF lx hW7,k7.upd ho8 hm8⟩
   rintro _ h7 ⟨W7,l7,k7⟩;rw[RR]at k7;obtain⟨W8,l8,c8,hasM⟩:=k7.freeze;clear k4 k5 k6 k7 m3 hm5 ho5;have x9:=ae (UF l7 l8) x9;have l18:W1.le W8:=UF hW13 (UF hW6 (UF l7 l8));have at8:=at1.mono l18;simp;subst hz;refine aa λz hz=>?_;simp;refine lE ?_;have m9:di (.int .i64) (h7.push (.map #[] 0)) h7.size (mapE twoV λ_=>UL):=by rw[nh];exact di.none U2
   have q9:=bQ h7 (.map #[] 0);have av9:W8 h7.size=none:=View.b8 c8.wle (Q4 _);have hs9:h.size<=h7.size:=bO c8.le0;generalize h7.push (.map #[] 0)=h9 at *;obtain⟨r2,hr2⟩ : ∃r,r=h7.size:=⟨_,rfl⟩;rw[<-hr2]at m9 av9 hs9 ⊢;have k9:Mq W h W8 h9 r2 (mapE twoV λ_=>UL):=⟨⟨Owns.start (UF c8.wle q9),c8.old,UF c8.le0 q9,λ_ _ _ e=>by cases e⟩,av9,hs9,m9⟩;refine fO (n:=1) (z:=.map UL) (v:=.map (UK r2)) U0 rfl U0 rfl U8 U5 U5 λh10 hle10 hs10 hb10=>?_;have k10:=k9.ext hle10;have hW10:=k9.up (h':=h10);have x12:an (grow W8 h9 h10) ⟨h9.size,0,UL⟩=UK (.map (UK r2)):=cell_of (by rw[bY (Q4 _)];exact hb10) rfl;have l110:=UF l18 hW10;have x9:=ae hW10 x9;have hasM:=fun(g2:Heap) (hg:(grow W8 h9 h10).le (vw g2))=>hasM g2 (UF hW10 hg);generalize grow W8 h9 h10=W10 at *;generalize h9.size=B12 at *;have at10:=at1.mono l110
   clear k9 m9 c8 at8 hle10 hb10 q9;subst hz;refine aa λz hz=>?_;refine aa λy hy=>?_;obtain⟨-,vb,hb1,hb2⟩:=eU at10;have bdf:=hb2.bound;simp[ae k10.wle hb1,hb2.len];subst hy;obtain⟨uf',huf',ruf'⟩:=at10.ldN rfl (N:=2) rfl;have smlen:=hsm.len;refine aG [0,1,3,9,12,37,38,39,49,50,51] (fun(_:Unit) b=>[vl,vf,ptr F1,ptr B9,ptr B12,vl,UH UI l.length,UH UI l.length,vb,UH UI f.blocks.length,UH UI b])
    (λ_ b hx=>∃Wx,W10.le Wx/\Mq W h Wx hx r2 (mapE twoV (whTo f b))) f.blocks.length ()
    rfl U1 rfl ⟨W10,View.le_refl _,k10⟩ (λ_ _=>rfl) (λv i h1 hk m=>by simp) ?_ ?_
   ·rintro _ b hx hb ⟨Wx,lx,kx⟩ K2 hK2;obtain⟨ub,hub,rub⟩:=(hb2.mono lx).wh rfl (N:=6) rfl hb;have sb:=hsm.blk b hb;refine aa λy hy=>?_;simp(disch:=omega)[((hb2.mono lx).mono kx.wle).idxn (N:=6) rfl,hub _ kx.wle];refine kx.eC (α:=BlkD) rub (n:=6) (z:=zz3) U0 rfl rfl U0 U5 U5 λB2 h11 W11 hW11 k11 at11 hle11=>?_;subst hy;refine aa λy hy=>?_;obtain⟨vp,vi,va,vt,-,si,-⟩:=iK at11;have bi:=si.2.bound;simp[ae k11.wle si.1,si.2.len];subst hy;refine aG [0,1,3,9,12,13,14,37,38,39,49,50,51,57,58,59] (fun(_:Unit) k=>[vl,vf,ptr F1,ptr B9,ptr B12,UH UI b,ptr B2,vl,UH UI l.length,UH UI l.length,vb,UH UI f.blocks.length,UH UI b,vi,UH UI (nth f.blocks b).ins.length,UH UI k])
     (λ_ k hy=>∃Wy,W11.le Wy/\Mq W h Wy hy r2 (mapE twoV (Lft.up (mG f b) k (whTo f b)))) (nth f.blocks b).ins.length ()
     rfl U1 rfl ⟨W11,View.le_refl _,k11⟩ (λ_ _=>rfl) (λv i h1 hk m=>by simp) ?_ ?_
    ·rintro _ k h12 hk ⟨Wy,ly,ky⟩ K3 hK3;have hst:Lft.up (mG f b) (k+1) (whTo f b)=if(!decide ((nth (nth f.blocks b).ins k).op=16)&&!decide ((nth (nth f.blocks b).ins k).op=18))&&cI f (nth (nth f.blocks b).ins k).dst then putM (Lft.up (mG f b) k (whTo f b)) (nth (nth f.blocks b).ins k).dst ((b:Int),(k:Int)) else Lft.up (mG f b) k (whTo f b):=rfl;obtain⟨ui,hui,rui⟩:=(si.2.mono ly).wh rfl (N:=5) rfl hk;refine aa λy hy=>?_;simp(disch:=omega)[((si.2.mono ly).mono ky.wle).idxn (N:=5) rfl,hui _ ky.wle];refine ky.eC (α:=InsD) rui (n:=5) (z:=zz5) U0 rfl rfl U0 U5 U5 λB4 h13 W13 hW13 k13 at13 hle13=>?_;obtain⟨q0,q1,-⟩:=mT at13;have r1:=(at13.part InsD.gm).rng;have l1013:W10.le W13:=UF lx (UF hW11 (UF ly hW13));generalize Lft.up (mG f b) k (whTo f b)=g at *;generalize nth (nth f.blocks b).ins k=ii at *;have q0:=ae k13.wle q0;have q1':=q1;have q1:=ae k13.wle q1;subst hy;refine aa λy hy=>?_;have skip : ∀(h14:Heap) (W14:View),W13.le W14->Mq W h W14 h14 r2 (mapE twoV g)->Lft.up (mG f b) (k+1) (whTo f b)=g->∃Wy,W11.le Wy/\Mq W h Wy h14 r2 (mapE twoV (Lft.up (mG f b) (k+1) (whTo f b))):=λh14 W14 l14 k14 e=>⟨W14,UF ly (UF hW13 l14),by rw[e];exact k14⟩;by_cases o16:ii.op=16
     ·rw[if_neg (by simp[o16])]at hst;simp[q0,o16];subst hy;simp;exact hK3 () _ _ rfl rfl (skip _ _ UE k13 hst)
     by_cases o18:ii.op=18
     ·rw[if_neg (by simp[o18])]at hst;simp[q0,o18];subst hy;simp;exact hK3 () _ _ rfl rfl (skip _ _ UE k13 hst)
     simp[q0,o16,o18,q1,huf' _ (UF l1013 k13.wle)];refine ah U0 (q7 (ruf'.mono (UF l1013 k13.wle)) hsm r1) ?_;rintro _ h14 ⟨rfl,hle14⟩;have k14:=k13.ext hle14;have hW14:=k13.up (h':=h14);cases hfo:cI f ii.dst with
     | false=>rw[if_neg (by simp[hfo])]at hst;subst hy;simp;exact hK3 () _ _ rfl rfl (skip _ _ hW14 k14 hst)
     | true=>rw[if_pos (by simp[o16,o18,hfo])]at hst;subst hy;simp[ae (UF l1013 (UF hW14 k14.wle)) x12,ae (UF hW14 k14.wle) q1'];refine aA (z:=zz1) (places:=zpd) (vs:=[(0,UH UI b),(1,UH UI k)]) (cs:=#[UH UI b,UH UI k]) U0 U0 U2 U0 ?_;refine kz (.inl rfl) (t:=T.gS) (k:=T.int) (e:=T.nT) (u:=UH UI ii.dst) (v:=twoV ((b:Int),(k:Int))) U.gS U.int rfl rfl rfl cV k14.m (mapE twoV (putM g ii.dst ((b:Int),(k:Int)))) iy.1 iy.2 λh15 hs15 ho15 hm15=>?_;exact hK3 () _ _ rfl rfl ⟨_,UF ly (UF hW13 hW14),by rw[hst];exact k14.upd ho15 hm15⟩
    rintro _ h12 ⟨Wy,ly,ky⟩;exact hK2 () _ _ rfl rfl ⟨Wy,UF lx (UF hW11 ly),by rw[AT];exact ky⟩
   rintro _ h11 ⟨W11,l11,k11⟩;obtain⟨W12,l12,c12,whM⟩:=k11.freeze;have whM : ∀g2:Heap,W12.le (vw g2)->di (.int .i64) g2 r2 (mapE twoV (whS f)):=whM;have x9:=ae (UF l11 l12) x9;have x12:=ae (UF l11 l12) x12;have l1012:=UF l11 l12;clear k10 k11;simp;subst hz;refine aa λz hz=>?_;simp;refine dK (z:=.nilFunc) U0 ?_;have q13:=bQ h11 (.cells (Value.nilFunc).cells T.gg);have b13:(h11.push (.cells (Value.nilFunc).cells T.gg))[h11.size]? = UK (.cells (Value.nilFunc).cells T.gg (0,0)):=by simp
   generalize h11.push (.cells (Value.nilFunc).cells T.gg)=h13 at *;subst hz;refine aa λz hz=>?_;simp;refine eh (g:=h11.size) (o:=0) (n:=1) (v:=.func (.func 91) #[] #[ptr F1,ptr B9,ptr B12,ptr h11.size]) (cur:=(Value.nilFunc).cells) (e:=T.gg) U0 rfl rfl rfl U8 b13 (by simp[Value.cells]) λh14 hs14 ⟨row,hr14,he14⟩ ho14=>?_;have hrow:row=(Value.func (.func 91) #[] #[ptr F1,ptr B9,ptr B12,ptr h11.size]).cells:=by rw[<-Array.toList_inj,he14];simp[Value.cells]
   rw[hrow]at hr14;have le14:(vw h11).le (vw h14):=λb o hb=>by have hlt:=View.lt (View.le_refl (vw h11)) hb;show h14[b]? = _;rw[ho14 b U1];exact q13 b o hb
   have c14:=c12.ext le14;have hW14:=c12.up (h':=h14);have x17:an (grow W12 h11 h14) ⟨h11.size,0,UL⟩=UK (.func (.func 91) #[] #[ptr F1,ptr B9,ptr B12,ptr h11.size]):=cell_of (by rw[bY (Q4 _)];exact hr14) rfl;have l1014:=UF l1012 hW14;have cv:Cv (grow W12 h11 h14) F1 B9 B12 h11.size r1 r2 f (hasS l) (whS f):=⟨at10.mono l1014,λp hp=>Mu e1 hp,ae hW14 x9,λg2 hg=>hasM g2 (UF l1014 hg),ae hW14 x12,λv w hw=>Oy hsm hw,λg2 hg=>whM g2 (UF hW14 hg),x17⟩;have hb1:=ae l1014 hb1;have hb2:=hb2.mono l1014;generalize grow W12 h11 h14=W14 at *;generalize h11.size=C at *;clear hr14 ho14 he14 b13 q13 le14 x9 x12 x17 hasM whM;subst hz;refine aa λz hz=>?_;refine aa λy hy=>?_;simp[ae c14.wle hb1,hb2.len];subst hy;refine aG [0,1,3,9,12,17,37,38,39,49,50,51,88,89,90] (fun(_:Unit) b=>[vl,vf,ptr F1,ptr B9,ptr B12,ptr C,vl,UH UI l.length,UH UI l.length,vb,UH UI f.blocks.length,UH UI f.blocks.length,vb,UH UI f.blocks.length,UH UI b])
    (λ_ b hx=>∃Wx,W14.le Wx/\Cx W h Wx hx (λ_=>UL)/\((List.range b).findSome? λb=>(vU f (hasS l) b).map λi=>(b,i))=UL) f.blocks.length ()
    rfl U1 rfl ⟨W14,View.le_refl _,c14,rfl⟩ (λ_ _=>rfl) (λv i h1 hk m=>by simp) ?_ ?_
   ·rintro _ b hx hb ⟨Wx,lx,cx,hno⟩ K2 hK2;obtain⟨ub,hub,rub⟩:=(hb2.mono lx).wh rfl (N:=6) rfl hb;have sb:=hsm.blk b hb;have sbi:=sb.ins;simp only[aW];refine aa λy hy=>?_;simp(disch:=omega)[((hb2.mono lx).mono cx.wle).idxn (N:=6) rfl,hub _ cx.wle];refine cx.eC (α:=BlkD) rub (n:=6) (z:=zz3) U0 rfl rfl U0 U5 U5 λB2 h15 W15 hW15 c15 at15 hle15=>?_;subst hy;refine aa λy hy=>?_;obtain⟨vp,vi,va,vt,-,si,-⟩:=iK at15;have bi:=si.2.bound;simp(disch:=omega)[ae c15.wle si.1,si.2.len];subst hy;have eN:((nth f.blocks b).ins.length:Int)+1=(((nth f.blocks b).ins.length+1:Nat):Int):=by omega
    rw[eN];have l1415:=UF lx hW15;refine aG [0,1,3,9,12,17,18,19,37,38,39,49,50,51,88,89,90,98,99] (fun(_:Unit) i=>[vl,vf,ptr F1,ptr B9,ptr B12,ptr C,UH UI b,ptr B2,vl,UH UI l.length,UH UI l.length,vb,UH UI f.blocks.length,UH UI f.blocks.length,vb,UH UI f.blocks.length,UH UI b,UH UI (((nth f.blocks b).ins.length+1:Nat):Int),UH UI i])
     (λ_ i hx=>∃Wx,W15.le Wx/\Cx W h Wx hx (λ_=>UL)/\(List.range i).find? (uY f (hasS l) b)=UL) ((nth f.blocks b).ins.length+1) ()
     rfl U1 rfl ⟨W15,View.le_refl _,c15,rfl⟩ (λ_ _=>rfl) (λv i h1 hk m=>by simp) ?_ ?_
    ·rintro _ i h16 hi ⟨W16,l16,c16,hno2⟩ K3 hK3;have si16:=si.2.mono l16;have x0:=ae (UF l16 c16.wle) si.1;have cv16:=cv.mono (UF l1415 l16);simp only[aW];refine aa λy hy=>?_;simp;subst hy;refine aa λy hy=>?_;simp;subst hy;refine aa λy hy=>?_;refine gC (λρ h17=>∃W17,W16.le W17/\Cx W h W17 h17 (λ_=>UL)/\Looks ρ [(0,vl),(1,vf),(3,ptr F1),(9,ptr B9),(12,ptr B12),(17,ptr C),(18,UH UI b),(19,ptr B2),(20,UH UI i),(21,.bool (oY f (whS f) b i)),(37,vl),(38,UH UI l.length),(39,UH UI l.length),(49,vb),(50,UH UI f.blocks.length),(51,UH UI f.blocks.length),(88,vb),(89,UH UI f.blocks.length),(90,UH UI b),(98,UH UI (((nth f.blocks b).ins.length+1:Nat):Int)),(99,UH UI i)]) ?_ ?_
     ·intro K4 hK4;refine aa λx hx=>?_;by_cases ci:i<(nth f.blocks b).ins.length
      ·have hii:((i:Int)<((nth f.blocks b).ins.length:Int)):=by omega
       have ax:=(si16.at ci);rw[<-aC ci]at ax;have q0:=ae c16.wle (ax.part InsD.wI).int;have q1:=(ax.part InsD.gm).int;have hx5:=si16.idxn (k:=.i64) (N:=5) rfl (i:=(i:Int)) U1 U1;generalize hii2:nth (nth f.blocks b).ins i=ii at *;have q0:an (vw h16) (((slA vi).add (i*5)).add 0)=UK (UH UI ii.op):=q0;have q1:an W16 (((slA vi).add (i*5)).add 1)=UK (UH UI ii.dst):=q1;have hx5:Bn.ev (.idx 5) vi (UH UI (i:Int))=UK (UN (UK ((slA vi).add (i*5)))):=by simpa using hx5
       by_cases o16:ii.op=16
       ·have hn:oY f (whS f) b i=true:=by unfold oY;rw[hii2];simp[o16]
        simp[x0,si16.len,hii,hx5,q0,o16];subst hx;simp;exact hK4 _ _ ⟨W16,View.le_refl _,c16,by rw[hn];simp[Looks]⟩
       have hn:oY f (whS f) b i=!decide (whS f ii.dst=UK ((b:Int),(i:Int))):=by unfold oY;rw[hii2];simp[o16,ci]
       simp[x0,si16.len,hii,hx5,q0,o16];subst hx;refine aQ U2 ?_;refine aa λx hx=>?_;have wr:Rd W16 (((whS f ii.dst).map twoV).getD (.agg #[UH UI 0,UH UI 0])) ((whS f ii.dst).getD (0,0)):=by
        cases hv:whS f ii.dst with
        | none=>exact sL.2 ⟨rfl,by decide,by decide⟩
        | some w=>exact sL.2 ⟨rfl,(cv16.whR ii.dst w hv).1,(cv16.whR ii.dst w hv).2⟩
       have hww:((whS f ii.dst).map twoV).getD (.agg #[UH UI 0,UH UI 0])=twoV ((whS f ii.dst).getD (0,0)):=by cases whS f ii.dst<;>rfl
       refine gC (λρ h17=>∃B22,Cx W h W16 h17 (λ_=>UL)/\Un.ev (vw h17) (.bM 2) (ptr B22)=UK (twoV ((whS f ii.dst).getD (0,0)))/\Looks ρ [(0,vl),(1,vf),(3,ptr F1),(9,ptr B9),(12,ptr B12),(17,ptr C),(18,UH UI b),(19,ptr B2),(20,UH UI i),(21,.bool UO),(22,ptr B22),(23,.bool (whS f ii.dst).isSome),(37,vl),(38,UH UI l.length),(39,UH UI l.length),(49,vb),(50,UH UI f.blocks.length),(51,UH UI f.blocks.length),(88,vb),(89,UH UI f.blocks.length),(90,UH UI b),(98,UH UI (((nth f.blocks b).ins.length+1:Nat):Int)),(99,UH UI i)]) ?_ ?_
       ·intro K5 hK5;refine aK W16 c16.wle ?_;have q1:=q1;refine jg ?_ ?_
        ·simp[cv16.whC,si.1,si.1,ae l16 si.1,hx5,q1];refine og (f:=mapE twoV (whS f)) (z:=zz1) (k:=T.int) (e:=T.nT) (d:=.int .i64) (r:=r2) (u:=UH UI ii.dst) U.gS U.int U0 rfl rfl cV (cv16.whM h16 c16.wle) ?_;simp;refine c16.de (k:=(0,0)) (n:=1) (z:=.agg #[UH UI 0,UH UI 0]) rfl U0 rfl U3 U8 λB22 h17 hle17 c17=>?_;refine c17.bG (k:=(0,0)) (n:=1) Own.ao wr rfl rfl U0 rfl rfl λh18 l18 hl18 c18=>?_;have hall:=c18.all (k:=(0,0)) (n:=1) (l:=l18) (B:=B22) (e:=T.nT) Own.ao;refine hK5 _ _ ⟨B22,⟨c18.own.sub λk i e=>by(cases e),c18.old,c18.le0,λ_ _ _ e=>by cases e⟩,?_,by simp[Looks]⟩;rw[<-hww,hl18];exact hall
        simp[cv16.whC,si.1,ae l16 si.1,hx5,q1];refine c16.de (k:=(0,0)) (n:=1) (z:=.agg #[UH UI 0,UH UI 0]) rfl U0 rfl U3 U8 λB22 h17 hle17 c17=>?_;refine⟨c17.wle,?_⟩;refine og (f:=mapE twoV (whS f)) (z:=zz1) (k:=T.int) (e:=T.nT) (d:=.int .i64) (r:=r2) (u:=UH UI ii.dst) U.gS U.int U0 rfl rfl cV (cv16.whM h17 c17.wle) ?_;simp;refine c17.bG (k:=(0,0)) (n:=1) Own.ao wr rfl rfl U0 rfl rfl λh18 l18 hl18 c18=>?_;have hall:=c18.all (k:=(0,0)) (n:=1) (l:=l18) (B:=B22) (e:=T.nT) Own.ao;refine hK5 _ _ ⟨B22,⟨c18.own.sub λk i e=>by(cases e),c18.old,c18.le0,λ_ _ _ e=>by cases e⟩,?_,by simp[Looks]⟩;rw[<-hww,hl18];exact hall
       rintro ρ h17 ⟨B22,c17,x22,L⟩;have L0:=L (0,vl) U2;have L1:=L (1,vf) U2;have L3:=L (3,ptr F1) U2;have L9:=L (9,ptr B9) U2;have L12:=L (12,ptr B12) U2;have L17:=L (17,ptr C) U2;have L18:=L (18,UH UI b) U2;have L19:=L (19,ptr B2) U2;have L20:=L (20,UH UI i) U2;have L21:=L (21,.bool UO) U2;have L22:=L (22,ptr B22) U2;have L23:=L (23,.bool (whS f ii.dst).isSome) U2;have L37:=L (37,vl) U2;have L38:=L (38,UH UI l.length) U2;have L39:=L (39,UH UI l.length) U2;have L49:=L (49,vb) U2;have L50:=L (50,UH UI f.blocks.length) U2;have L51:=L (51,UH UI f.blocks.length) U2;have L88:=L (88,vb) U2;have L89:=L (89,UH UI f.blocks.length) U2;have L90:=L (90,UH UI b) U2;have L98:=L (98,UH UI (((nth f.blocks b).ins.length+1:Nat):Int)) U2;have L99:=L (99,UH UI i) U2;simp only at L0 L1 L3 L9 L12 L17 L18 L19 L20 L21 L22 L23 L37 L38 L39 L49 L50 L51 L88 L89 L90 L98 L99;subst hx;refine aa λx hx=>?_;cases hv:whS f ii.dst with
       | none=>
        have hn:oY f (whS f) b i=true:=by rw[hn,hv];rfl
        rw[hv]at L23;simp[af,ag,L0,L1,L3,L9,L12,L17,L18,L19,L20,L21,L22,L23,L37,L38,L39,L49,L50,L51,L88,L89,L90,L98,L99];subst hx;simp[af,ag,L0,L1,L3,L9,L12,L17,L18,L19,L20,L21,L22,L23,L37,L38,L39,L49,L50,L51,L88,L89,L90,L98,L99];exact hK4 _ _ ⟨W16,View.le_refl _,c17,by rw[hn];simp[Looks,af,ag,L0,L1,L3,L9,L12,L17,L18,L19,L20,L21,L22,L23,L37,L38,L39,L49,L50,L51,L88,L89,L90,L98,L99]⟩
       | some w=>
        have hn:oY f (whS f) b i=!(w.1 == (b:Int)&&w.2 == (i:Int)):=by rw[hn,hv];obtain⟨w1,w2⟩:=w;rw[RM];simp
        rw[hv]at L23 x22;have x22:Un.ev (vw h17) (.bM 2) (ptr B22)=UK (.agg #[UH UI w.1,UH UI w.2]):=x22;simp[af,ag,L0,L1,L3,L9,L12,L17,L18,L19,L20,L21,L22,L23,L37,L38,L39,L49,L50,L51,L88,L89,L90,L98,L99,x22];refine aA (z:=zz1) (places:=zpd) (vs:=[(0,UH UI b),(1,UH UI i)]) (cs:=#[UH UI b,UH UI i]) U0 U0 U2 U0 ?_;refine Gg (t:=T.nT) (e:=T.int) (a:=w.1) (b:=w.2) (c:=(b:Int)) (d:=(i:Int)) (ki:=.i64) U.nT U.int U0 U0 U0 rfl rfl ?_;subst hx;cases he:(w.1 == (b:Int)&&w.2 == (i:Int))with
        | false=>rw[he]at hn;simp[af,ag,L0,L1,L3,L9,L12,L17,L18,L19,L20,L21,L22,L23,L37,L38,L39,L49,L50,L51,L88,L89,L90,L98,L99];exact hK4 _ _ ⟨W16,View.le_refl _,c17,by rw[hn];simp[Looks,af,ag,L0,L1,L3,L9,L12,L17,L18,L19,L20,L21,L22,L23,L37,L38,L39,L49,L50,L51,L88,L89,L90,L98,L99]⟩
        | true=>rw[he]at hn;simp[af,ag,L0,L1,L3,L9,L12,L17,L18,L19,L20,L21,L22,L23,L37,L38,L39,L49,L50,L51,L88,L89,L90,L98,L99];exact hK4 _ _ ⟨W16,View.le_refl _,c17,by rw[hn];simp[Looks,af,ag,L0,L1,L3,L9,L12,L17,L18,L19,L20,L21,L22,L23,L37,L38,L39,L49,L50,L51,L88,L89,L90,L98,L99]⟩
      have hn:oY f (whS f) b i=true:=by unfold oY;simp[ci]
      have hii:¬((i:Int)<((nth f.blocks b).ins.length:Int)):=by omega
      simp[x0,si16.len,hii];subst hx;simp;exact hK4 _ _ ⟨W16,View.le_refl _,c16,by rw[hn];simp[Looks]⟩
     rintro ρ h17 ⟨W17,l17,c17,L⟩;have L0:=L (0,vl) U2;have L1:=L (1,vf) U2;have L3:=L (3,ptr F1) U2;have L9:=L (9,ptr B9) U2;have L12:=L (12,ptr B12) U2;have L17:=L (17,ptr C) U2;have L18:=L (18,UH UI b) U2;have L19:=L (19,ptr B2) U2;have L20:=L (20,UH UI i) U2;have L21:=L (21,.bool (oY f (whS f) b i)) U2;have L37:=L (37,vl) U2;have L38:=L (38,UH UI l.length) U2;have L39:=L (39,UH UI l.length) U2;have L49:=L (49,vb) U2;have L50:=L (50,UH UI f.blocks.length) U2;have L51:=L (51,UH UI f.blocks.length) U2;have L88:=L (88,vb) U2;have L89:=L (89,UH UI f.blocks.length) U2;have L90:=L (90,UH UI b) U2;have L98:=L (98,UH UI (((nth f.blocks b).ins.length+1:Nat):Int)) U2;have L99:=L (99,UH UI i) U2;simp only at L0 L1 L3 L9 L12 L17 L18 L19 L20 L21 L37 L38 L39 L49 L50 L51 L88 L89 L90 L98 L99;have cv17:=cv16.mono l17;have hplc:dz f b i=true:=by simp[dz];omega
     have hstep : ∀X,uY f (hasS l) b i=X->X=UP->(List.range (i+1)).find? (uY f (hasS l) b)=none:=λX hX hf=>by rw[SA,TQ,hno2,S8,List.find?_singleton,hX,hf];rfl
     subst hy;refine aa λy hy=>?_;cases hn:oY f (whS f) b i with
     | false=>rw[hn]at L21;simp[af,ag,L0,L1,L3,L9,L12,L17,L18,L19,L20,L21,L37,L38,L39,L49,L50,L51,L88,L89,L90,L98,L99];subst hy;simp[af,ag,L0,L1,L3,L9,L12,L17,L18,L19,L20,L21,L37,L38,L39,L49,L50,L51,L88,L89,L90,L98,L99];refine hK3 () _ _ (by simp[af,ag,L0,L1,L3,L9,L12,L17,L18,L19,L20,L21,L37,L38,L39,L49,L50,L51,L88,L89,L90,L98,L99]) (by simp[aX,af,ag,L0,L1,L3,L9,L12,L17,L18,L19,L20,L21,L37,L38,L39,L49,L50,L51,L88,L89,L90,L98,L99]) ⟨W17,UF l16 l17,c17,hstep _ rfl (by unfold uY;rw[hn];rfl)⟩
     | true=>
      rw[hn]at L21;simp[af,ag,L0,L1,L3,L9,L12,L17,L18,L19,L20,L21,L37,L38,L39,L49,L50,L51,L88,L89,L90,L98,L99,ae c17.wle cv17.can];refine bZ (ops:=[.tmp 138,.tmp 139]) (caps:=#[ptr F1,ptr B9,ptr B12,ptr C]) rfl U0 (I0 m hsm hM hd (i+1) (b:=(b:Int)) (i:=(i:Int)) cv17 c17.wle hplc U1) ?_;rintro _ h18 ⟨hle18,rfl⟩;have c18:=c17.ext hle18;have hW18:=c17.up (h':=h18);simp[af,ag,L0,L1,L3,L9,L12,L17,L18,L19,L20,L21,L37,L38,L39,L49,L50,L51,L88,L89,L90,L98,L99];subst hy;cases hcn:canS f (hasS l) (whS f) (i+1) b i with
      | true=>simp[af,ag,L0,L1,L3,L9,L12,L17,L18,L19,L20,L21,L37,L38,L39,L49,L50,L51,L88,L89,L90,L98,L99];refine hK3 () _ _ (by simp[af,ag,L0,L1,L3,L9,L12,L17,L18,L19,L20,L21,L37,L38,L39,L49,L50,L51,L88,L89,L90,L98,L99]) (by simp[aX,af,ag,L0,L1,L3,L9,L12,L17,L18,L19,L20,L21,L37,L38,L39,L49,L50,L51,L88,L89,L90,L98,L99]) ⟨_,UF l16 (UF l17 hW18),c18,hstep _ rfl (by unfold uY;rw[hn,hcn];rfl)⟩
      | false=>
       have hbad:uY f (hasS l) b i=true:=by unfold uY;rw[hn,hcn];rfl
       have hrow:vU f (hasS l) b=UK i:=by unfold vU;exact find_range hi hno2 hbad
       have hfirst:nM f (hasS l)=UK (b,i):=by unfold nM;exact zn hb hno (by rw[hrow];rfl)
       rw[hfirst]at hK;simp[af,ag,L0,L1,L3,L9,L12,L17,L18,L19,L20,L21,L37,L38,L39,L49,L50,L51,L88,L89,L90,L98,L99];exact hK _ _ ⟨c18.le0,rfl⟩
    rintro _ h16 ⟨W16,l16,c16,hno2⟩;refine hK2 () _ _ rfl rfl ⟨W16,UF l1415 l16,c16,?_⟩;rw[SA,Tm,hno,S8];simp[vU,hno2]
   rintro _ hx ⟨Wx,lx,cx,hno⟩;have e:nM f (hasS l)=none:=hno;rw[e]at hK;simp;subst hz;simp;exact hK _ _ ⟨cx.le0,rfl⟩
 have e:eZ l f=((ja l).1,0,0):=by unfold eZ;rw[if_pos e1]
 simp[e1];exact hK _ _ ⟨c2.le0,by rw[e]⟩
theorem tY{val:Int}{x:Int × Int}{l:List Th}: ∀{y:WL},x∈l.foldl (tj val) y↔x∈y\/∃t∈l,x=(t.blk,t.place)/\val∈t.tks:=by
 induction l with
 | nil=>simp
 | cons t l ih=>
  intro y;rw[RG,ih,tj,tw];simp only[Ru,exists_eq_or_imp];constructor
  ·rintro((h | h) | h)
   ·exact .inl h
   ·exact .inr (.inl h)
   exact .inr (.inr h)
  rintro(h | h | h)
  ·exact .inl (.inl h)
  ·exact .inl (.inr h)
  exact .inr h
theorem lU{f:ak}{v:Int}(h:cI f v=UO){t t':Th}(ht:t∈aD f)(ht':t'∈aD f)(hm:v∈t.mks)(hk:v∈t'.tks):t.blk=t'.blk/\t.place<t'.place:=by
 unfold cI jn at h;simp only[Q9]at h;have hb:=h.1;unfold mW at hb;simp at hb;obtain⟨⟨⟨⟨b1,b2⟩,b3⟩,b4⟩,b5⟩:=hb;have m1:(t.blk,t.place)∈ll v (aD f):=lg.2 (.inr ⟨t,ht,rfl,hm⟩);have m2:(t'.blk,t'.place)∈kq v (aD f):=tY.2 (.inr ⟨t',ht',rfl,hk⟩);have one : ∀{l:WL} {x:Int × Int},l.length=1->x∈l->nth l 0=x:=by
  intro l x hl hx;match l,hl with
  | [y],_=>simp at hx;rw[hx];rfl
 have e1:=one U1 m1;have e2:=one U1 m2;rw[e1,e2]at b4;rw[e1,e2]at b5;exact⟨b4,by simpa using b5⟩
theorem dQ{f:ak}{b k:Nat}(hb:b<f.blocks.length)(hk:k<(nth f.blocks b).ins.length):insT f b k∈aD f:=jJ.2 ⟨b,hb,ma.2 (.inr (.inl ⟨k,hk,rfl⟩))⟩
theorem wN{f:ak}{b:Nat}(hb:b<f.blocks.length):endT f b∈aD f:=jJ.2 ⟨b,hb,ma.2 (.inr (.inr rfl))⟩
def ownArgs(s:cC):List Int:=if s.term then s.t.args else s.i.args
def zP(f:ak)(args:List Int)(v:Int):Prop:=∃v2 op,v2∈args/\(aJ f v2 op).2=UO/\v∈(aJ f v2 op).1.args
theorem uG{l:List Int}{v:Int}(h:v∈l.drop 1):v∈l:=List.mem_of_mem_drop h
theorem uM{f:ak}{i:InsD}{m lo hi sg:Int}{x:FitD}(hl:1<=i.args.length)(h:immS f i m lo hi sg=UK x){v:Int}(hv:v∈x.takes):v∈i.args:=by
 unfold immS at h;split at h
 ·cases h;simp at hv;subst hv;exact bF U1
 cases h
theorem DJ{f:ak}{i:InsD}{temp op pl su:Int}{k:Nat}{x:FitD}(hall : ∀i∈fg f,wE i)(hl:1<=i.args.length)(h:memS f i temp op pl su k=UK x){v:Int}(hv:v∈x.takes):v∈i.args\/zP f i.args v:=by
 have h0:nth i.args 0∈i.args:=bF U1;have hin : ∀{j},(aJ f (nth i.args 0) 2).2=UO->j<2->zP f i.args (nth (aJ f (nth i.args 0) 2).1.args j):=fun{j} hb hj=>by obtain⟨m1,m2,-⟩:=ff hb;have:=(hall _ m1).two U1;exact⟨_,2,h0,hb,bF U1⟩
 match k with
 | 0=>
  simp only[memS]at h;split at h
  ·cases h;rcases Ru.1 hv with rfl | hv
   ·exact .inl h0
   exact .inl (uG hv)
  cases h
 | 1=>
  simp only[memS]at h;split at h
  ·rename_i c;split at h
   ·cases h;rcases Ru.1 hv with rfl | hv
    ·exact .inr (hin c U3)
    exact .inl (uG hv)
   cases h
  cases h
 | 2=>
  simp only[memS]at h;split at h
  ·rename_i c;simp only[Q9]at c;cases h;rcases Ru.1 hv with rfl | hv
   ·exact .inr (hin c.1 U3)
   rcases Ru.1 hv with rfl | hv
   ·exact .inr (hin c.1 U3)
   exact .inl (uG hv)
  cases h
 | k+3=>
  simp only[memS]at h;cases h;rcases Ru.1 hv with rfl | hv
  ·exact .inl h0
  exact .inl (uG hv)
theorem E9{s:cC}{pat:Int}{x:FitD}(hok:mJ s)(ht:zR s.t)(h:tryS s pat=UK x){v:Int}(hv:v∈x.takes):v∈ownArgs s\/zP s.f (ownArgs s) v:=by
 unfold tryS at h;unfold ownArgs;cases htm:s.term with
 | true=>
  rw[htm,if_pos rfl]at h;rw[if_pos rfl];unfold iA at h;split at h
  ·cases h;cases hv
  split at h
  ·cases h;exact .inl hv
  split at h
  ·cases h;cases hv
  split at h
  ·cases h;exact .inl hv
  split at h
  ·rename_i c;split at h
   ·rename_i c2;cases h;exact .inr ⟨_,_,bF (ht.one (.inl c.2)),c2,hv⟩
   cases h
  split at h
  ·cases h;exact .inl hv
  cases h
 | false=>
  rw[htm,if_neg U2]at h;rw[if_neg U2];unfold patS at h;split at h
  ·rename_i c;obtain⟨c1,c2,c3⟩:=c;have hp1:1<=pat.toNat/\pat.toNat<=32:=by omega
   generalize pat.toNat=p at *;have len:16<=p->p<=30->1<=s.i.args.length:=by
    intro h2 h30;have hopr:(2<=s.i.op/\s.i.op<=14)\/s.i.op=16\/s.i.op=15:=by
     rw[c3];unfold opOf;repeat' split
     all_goals omega
    rcases hopr with q | q | q
    ·have:=hok.one.two (.inl q);omega
    ·have:=hok.one.two (.inr (.inl q));omega
    exact hok.one.one q
   unfold doS at h;by_cases p1:p=1
   ·rw[if_pos p1]at h;by_cases q:inR s.i.imm.v (-32768) 32767=UO
    ·rw[if_pos q]at h;cases h;cases hv
    rw[if_neg q]at h;cases h
   rw[if_neg p1]at h;by_cases p2:p=2
   ·rw[if_pos p2]at h;cases h;cases hv
   rw[if_neg p2]at h;by_cases p15:p<=15
   ·rw[if_pos p15]at h;cases h;exact .inl hv
   rw[if_neg p15]at h;by_cases p16:p=16
   ·rw[if_pos p16]at h;exact .inl (uM (len U1 U1) h hv)
   rw[if_neg p16]at h;by_cases p17:p=17
   ·rw[if_pos p17]at h;exact .inl (uM (len U1 U1) h hv)
   rw[if_neg p17]at h;by_cases p18:p=18
   ·rw[if_pos p18]at h;exact .inl (uM (len U1 U1) h hv)
   rw[if_neg p18]at h;by_cases p21:p<=21
   ·rw[if_pos p21]at h;exact .inl (uM (len U1 U1) h hv)
   rw[if_neg p21]at h;by_cases p22:p=22
   ·rw[if_pos p22]at h;by_cases q:(aJ s.f (nth s.i.args 0) 4).2=UO
    ·rw[if_pos q]at h;have l1:=len U1 U1;have l2:=hok.one.two (by rw[c3,p22];exact .inl U3);obtain⟨m1,m2,-⟩:=ff q;have l3:=(hok.all _ m1).two U1;cases h;rcases Ru.1 hv with rfl | hv
     ·exact .inr ⟨_,_,bF U1,q,bF U1⟩
     rcases Ru.1 hv with rfl | hv
     ·exact .inr ⟨_,_,bF U1,q,bF U1⟩
     rcases Ru.1 hv with rfl | hv
     ·exact .inl (bF U1)
     cases hv
    rw[if_neg q]at h;cases h
   rw[if_neg p22]at h;by_cases p26:p<=26
   ·rw[if_pos p26]at h;exact DJ hok.all (len U1 U1) h hv
   rw[if_neg p26]at h;by_cases p30:p<=30
   ·rw[if_pos p30]at h;exact DJ hok.all (len U1 U1) h hv
   rw[if_neg p30]at h;by_cases p31:p=31
   ·rw[if_pos p31]at h;cases h;exact .inl hv
   rw[if_neg p31]at h;cases h;exact .inl hv
  cases h
theorem GA{f:ak}(m:nQ f)(hsm:SmF f)(hr : ∀i∈fg f,-2147483648<=i.imm.v/\i.imm.v<=2147483647):Down f (whS f):=by
 intro b i pat x v w hpl hx hv hw;obtain⟨h1,h2,h3,h4⟩:=zG (temp:=0) m hsm hr hpl;obtain⟨b',k',hb',hk',rfl,hd,ho16,ho18,hfo⟩:=Ju hw;simp[dz]at hpl;obtain⟨⟨⟨g1,g2⟩,g3⟩,g4⟩:=hpl;have hb:b.toNat<f.blocks.length:=by omega
 have made : ∀{b k:Nat} {u:Int},b<f.blocks.length->k<(nth f.blocks b).ins.length->(nth (nth f.blocks b).ins k).dst=u->(nth (nth f.blocks b).ins k).op≠16->u∈(insT f b k).mks:=by intro b k u hb hk hd ho;show u∈cO (nth (nth f.blocks b).ins k);unfold cO;rw[if_neg ho];split<;>simp[hd]
 have hmk:=made hb' hk' hd ho16;obtain⟨t,ht,htb,htp,hta⟩ : ∃t∈aD f,t.blk=b/\t.place=i/\t.tks=ownArgs (eJ f b i 0):=by
  unfold ownArgs eJ;by_cases e:i=(nth f.blocks b.toNat).ins.length
  ·rw[if_pos e,if_pos rfl];exact⟨_,wN hb,by show((b.toNat:Nat):Int)=b;omega,by show(((nth f.blocks b.toNat).ins.length:Nat):Int)=i;omega,rfl⟩
  rw[if_neg e,if_neg U2];exact⟨_,dQ hb (k:=i.toNat) U1,by show((b.toNat:Nat):Int)=b;omega,by show((i.toNat:Nat):Int)=i;omega,rfl⟩
 have key : ∃t2∈aD f,t2.blk=b/\t2.place<=i/\v∈t2.tks:=by
  rcases E9 h1 h2 hx hv with hv | ⟨v2,op,hv2,hf2,hv⟩
  ·exact⟨t,ht,htb,by omega,by rw[hta];exact hv⟩
  rw[h4]at hf2 hv;obtain⟨m1,m2,m3,m4,m5⟩:=ff hf2;obtain⟨b2,k2,hb2,hk2,e2⟩:=nP.1 m1;rw[e2]at m4 m5 hv;have hm2:=made hb2 hk2 m4 m5;obtain⟨q1,q2⟩:=lU m3 (dQ hb2 hk2) ht hm2 (by rw[hta];exact hv2);exact⟨_,dQ hb2 hk2,by rw[q1,htb],by rw[htp]at q2;omega,hv⟩
 obtain⟨t2,ht2,e1,e2,e3⟩:=key;obtain⟨q1,q2⟩:=lU hfo (dQ hb' hk') ht2 hmk e3;have q1:(b':Int)=t2.blk:=q1;have q2:(k':Int)<t2.place:=q2;refine⟨?_,by simp only;omega⟩;simp[dz];omega
def dX:List Int:=[1,2,1,1,3,1,1,1,1,1,1,1,1,1,12,1,1,1,1,1,1,3,2,2,2,4,1,1,1,3,6,4,1,1,1,1,2]
def allT:List aO:=rows (λi=>⟨(i:Int)+1,nth dX i⟩) 37
theorem CO{W:View}{p c:Int}(hp:I64 p)(hc:I64 c):Rd W (.agg #[UH UI p,UH UI c]) (⟨p,c⟩:aO):=by unfold Rd;rw[if_pos (show Rep.agg aO=UO from rfl)];exact⟨_,rfl,[UH UI p],[UH UI c],rfl,⟨rfl,hp⟩,rfl,hc⟩
theorem zI{W:View} : ∀{l:List Int},(∀x∈l,I64 x)->rI W (l.map λc=>UH UI c) l
 | [],_=>trivial
 | x::l,h=>⟨bw.2 ⟨rfl,h x (Rm ..)⟩,zI λy hy=>h y (Q7 _ hy)⟩
theorem xk: ∀x∈dX,1<=x/\x<=12:=by
 have h:dX.all (λx=>decide (1<=x)&&decide (x<=12))=true:=by kernel_rfl
 exact λx hx=>by simpa using RS.1 h x hx
theorem KB{h:Heap}:ay UQ 27 #[] h (λu h'=>(vw h).le (vw h')/\SlRd (vw h') u allT):=by
 refine aq (args:=[]) follows Tryz.func27 E.iz UC λK hK=>?_;dsimp only[L.iz,lkF,lkG];refine aa λz hz=>?_;simp;subst hz;refine aa λz hz=>?_;simp;subst hz;refine aa λz hz=>?_;simp;refine yc (α:=Int) (ds:=dX) (vs:=dX.map λc=>UH UI c) (X:=nothing) El.aY U0 (zI λx hx=>by have:=xk x hx;constructor<;>omega) rfl U3 U3 λuc h1 hle1 hs1 huc hb1=>?_;have huc:=huc (vw h1) (cW) rfl;have hl:=huc.len (K:=vw h1);have hl37:dX.length=37:=rfl;rw[hl37]at hl;simp[hl];refine aG [0,1,4,5,6] (fun(vo:Value) k=>[UM UL 0 0,vo,uc,UH UI 37,UH UI k])
   (λvo k h2=>Mine nothing h1 h2 nothing T.fE vo (rows (λi=>(⟨(i:Int)+1,nth dX i⟩:aO)) k)) 37 (UM UL 0 0)
   rfl U1 rfl (Mine.start cW) (λ_ _=>rfl) (λv i h1 hk m=>by simp) ?_ ?_
 ·rintro vo k h2 hk m K2 hK2;have hle:=m.old;have e1:=huc.idx1 (k:=.i64) (i:=(k:Int)) rfl U1 (by rw[hl37];omega);have e2:=ae hle (huc.int UE (i:=k) (by rw[hl37];omega));simp only[RB]at e1;have hc:=xk _ (bF (l:=dX) (i:=k) (by rw[hl37];omega));have ew:IntKind.i64.wrap ((k:Int)+1)=(k:Int)+1:=bc U1 U1;refine aa λy hy=>?_;simp[e1,e2];subst hy;simp[ew];refine aA (t:=T.fE) (z:=zz1) (places:=zpd) (vs:=[(0,UH UI ((k:Int)+1)),(1,UH UI (nth dX k))]) (cs:=#[UH UI ((k:Int)+1),UH UI (nth dX k)]) U0 U0 U2 U0 ?_;refine m.push (u:=.agg #[UH UI ((k:Int)+1),UH UI (nth dX k)]) El.jY U2 (CO (by constructor<;>omega) (by constructor<;>omega)) U9 U9 U5 U5 λu v' h5 m'=>?_;refine hK2 v' _ _ rfl rfl ?_;rw[fB];exact m'
 rintro vo h2 m;simp;subst hz;simp;exact hK _ _ ⟨UF hle1 m.old,m.now⟩
variable{vb:Value}
theorem LF{a b:List Int}{va:Value}{h:Heap}(ha:SlRd (vw h) va a)(hb:SlRd (vw h) vb b):
  ay UQ 33 #[va,vb] h (λu h'=>u = .bool (decide (a=b))/\h'=h):=by
 refine aq (args:=[va,vb]) follows Tryz.func33 E.fk UC λK hK=>?_;have hbd:=ha.bound;dsimp only[L.fk,lkF,lkG];refine aa λz hz=>?_;simp;subst hz;refine aa λz hz=>?_;by_cases hl:a.length=b.length
 ·have hl':(a.length:Int)=b.length:=by omega
  simp[ha.len,hb.len,hl'];subst hz;refine aa λz hz=>?_;simp;refine cL [0,1,4,5] (fun(_:Unit) i=>[va,vb,.bool UP,UH UI i]) (λ_ i h3=>h3=h/\∀j,j<i->nth a j=nth b j) a.length ()
   rfl U1 rfl ⟨rfl,λj hj=>by omega⟩ (λ_ _=>rfl) (λv k h3 hk m=>by simp[ha.len]) ?_ ?_
  ·rintro _ i h hlti ⟨rfl,hpre⟩ K2 hK2;have e1:=ha.idx1 rfl (k:=.i64) (i:=(i:Int)) U1 U1;have e2:=hb.idx1 rfl (k:=.i64) (i:=(i:Int)) U1 U1;have e3:=ha.int UE (i:=i) hlti;have e4:=hb.int UE (i:=i) U1;simp only[RB]at e1 e2;by_cases e:nth a i=nth b i
   ·simp[e1,e2,e3,e4,e];refine hK2 () _ _ rfl rfl ⟨rfl,λj hj=>?_⟩;rcases Ri j i with q | q
    ·exact hpre j q
    have:j=i:=by omega
    subst this;exact e
   simp[e1,e2,e3,e4,e];exact hK _ _ ⟨by rw[decide_eq_false];rintro rfl;exact e rfl,rfl⟩
  rintro _ h ⟨rfl,hpre⟩;have he:a=b:=S5 hl λj h1 h2=>by have:=hpre j h1;rwa [aC h1,aC h2]at this
  simp;subst hz;simp;exact hK _ _ ⟨by rw[decide_eq_true he],rfl⟩
 have hl':¬(a.length:Int)=b.length:=by omega
 simp[ha.len,hb.len,hl'];exact hK _ _ ⟨by rw[decide_eq_false];rintro rfl;exact hl rfl,rfl⟩
theorem G5{H:View}{op dst two:Int}{va:Value}{l:List Int}{imm:I32}(h1:I64 op)(h2:I64 dst)(h3:I64 two)(h4:SlRd H va l)(h5:-2147483648<=imm.v/\imm.v<=2147483647):Rd H (.agg #[UH UI op,UH UI dst,UH UI two,va,UH UJ imm.v]) (InsD.mk op dst two l imm):=
 ⟨_,rfl,[UH UI op],_,rfl,⟨rfl,h1⟩,[UH UI dst],_,rfl,⟨rfl,h2⟩,[UH UI two],_,rfl,⟨rfl,h3⟩,[va],_,rfl,⟨va,rfl,h4⟩,rfl,h5⟩
theorem Ng{H:View}{vp vi va vt:Value}{p:List PhiD}{i:List InsD}{a t:List Int}{kd:Int}{imm:I32}(h1:SlRd H vp p)(h2:SlRd H vi i)(h3:SlRd H va a)(h4:SlRd H vt t)(h5:I64 kd)(h6:-2147483648<=imm.v/\imm.v<=2147483647):Rd H (.agg #[vp,vi,UH UI kd,va,vt,UH UJ imm.v]) (BlkD.mk p i ⟨kd,a,t,imm⟩):=
 ⟨_,rfl,[vp],_,rfl,⟨vp,rfl,h1⟩,[vi],_,rfl,⟨vi,rfl,h2⟩,[UH UI kd],_,rfl,⟨rfl,h5⟩,[va],_,rfl,⟨va,rfl,h3⟩,[vt],_,rfl,⟨vt,rfl,h4⟩,rfl,h6⟩
theorem DG{H:View}{p:Int}{l:List BlkD}(h1:I64 p)(h2:SlRd H vb l):Rd H (.agg #[UH UI p,vb]) (ak.mk p l):=
 ⟨_,rfl,[UH UI p],_,rfl,⟨rfl,h1⟩,vb,rfl,h2⟩
theorem SlRd.ex{α:Type}[Rep α]{H:View}{v:Value}{l:List α}(s:SlRd H v l): ∃a n c,v = .slice a n c:=let ⟨a,c,e,_⟩:=s;⟨a,_,c,e⟩
theorem O0{a:List Int}{va:Value}{h:Heap}(ha:SlRd (vw h) va a)(hb:SlRd (vw h) vb a):ay UQ 33 #[va,vb] h (λu h'=>u = .bool UO/\h'=h):=
 (LF ha hb).mono λu h' ⟨h1,h2⟩=>⟨by rw[h1,decide_eq_true rfl],h2⟩
section
variable{s:List Int}{M:Nat}{vs:Value}{W:View}{h:Heap}{o:Own}{m:MS}
theorem MkB.boxed{vl:Value}{lb:List BlkM}(bb:MkB M vs m o vb vl lb)(m':MS)(h1:m'.blocks=m.blocks)(h2:m'.live=m.live):MkB M vs m' (o.upd (0,0) (bx T.bu M (RawN.mk (n:=5) (mkL vs m'.at_ m'.ps vb m'.next vl)))) vb vl lb:=
 ⟨rfl,by rw[h2];exact bb.live,bb.blk,by rw[h1];exact bb.len,by rw[h1];exact bb.term,by rw[h1];exact λi hi=>bb.phis i hi,by rw[h1];exact λi hi=>bb.ins i hi⟩
end
def iU(R:Nat)(i10:Own):Own:=λk=>if k=(8,0) then bx T.gx R (RawN.mk (n:=1) [UH UI 0,UM UL 0 0]) else if 10<=k.1 then i10 k else UL
structure FnB(o:Own)(vb:Value)(lb:List BlkM)(f:ak):Prop where
 blk:o (0,2)=it T.e9 vb lb
 len:lb.length=f.blocks.length
 term : ∀i,i<f.blocks.length->(nth lb i).term=(nth f.blocks i).term
 phis : ∀i,i<f.blocks.length->o (1,i)=it T.fM (nth lb i).phis.v (nth f.blocks i).phis
 ins : ∀i,i<f.blocks.length->o (2,i)=it T.eY (nth lb i).ins.v (nth f.blocks i).ins
theorem O9{H:View}{lb:List BlkM}{f:ak}(h0:SlRd H vb lb)(hl:lb.length=f.blocks.length)(ht : ∀i,i<f.blocks.length->(nth lb i).term=(nth f.blocks i).term)(h1 : ∀i,i<f.blocks.length->SlRd H (nth lb i).phis.v (nth f.blocks i).phis)(h2 : ∀i,i<f.blocks.length->SlRd H (nth lb i).ins.v (nth f.blocks i).ins):SlRd H vb f.blocks:=by refine CI h0 rfl hl λi g1 g2 cs hr=>?_;have:=EO hr (p:=(nth f.blocks i).phis) (i:=(nth f.blocks i).ins) (by have:=h1 i g2;rwa [aC g1]at this) (by have:=h2 i g2;rwa [aC g1]at this);have ht:=ht i g2;rw[aC g1]at ht;rw[ht]at this;rw[<-aC g2];exact this
theorem FnB.freeze{W:View}{h:Heap}{o o0:Own}{lb:List BlkM}{f:ak}(b:FnB o vb lb f)(w:Owns W h o)(ho : ∀k:Key,3<=k.1->o k=o0 k)(ho0 : ∀k:Key,k.1<3->o0 k=UL): ∃W',W.le W'/\Owns W' h o0/\SlRd W' vb f.blocks:=by
 obtain⟨W17,hW17,w17,fr⟩:=w.AX (λk=>decide (k.1<3));refine⟨W17,hW17,w17.sub λk i hk=>?_,O9 (fr (k:=(0,2)) U2 b.blk) b.len b.term (λi hi=>fr (k:=(1,i)) U2 (b.phis i hi)) λi hi=>fr (k:=(2,i)) U2 (b.ins i hi)⟩;rcases Ri k.1 3 with e | e
 ·rw[ho0 k e]at hk;cases hk
 have h2:¬k.1<3:=by omega
 simp only[h2,decide_false,SB,if_false];rw[ho k e];exact hk
theorem Kw{s:List Int}{vs:Value}{h:Heap}{W:View}{o0:Own}(w0:Owns W h o0)(ho0 : ∀k:Key,k.1<10->o0 k=UL)(hs:SlRd W vs s):
  ay UQ 11 #[vs] h (λu h'=>∃W' o vb lb,W.le W'/\Owns W' h' o/\(∀k:Key,3<=k.1->o k=o0 k)/\FnB o vb lb (vJ s)/\u = .agg #[UH UI (vJ s).params,vb]):=by
 refine aq (args:=[vs]) follows Tryz.func11 E.au UC λK hK=>?_;have hs0:=hs;obtain⟨sa,sc,rfl,_⟩:=hs0;dsimp only[L.au,lkF,lkG];refine aa λz hz=>?_;simp;refine w0.de (k:=(8,0)) (n:=1) (z:=.agg #[UH UI 0,UM UL 0 0]) (ho0 _ U3) U0 rfl U3 U8 λh1 q1 w1=>?_;generalize h.size=R at w1;subst hz;refine aa λz hz=>?_;simp;refine aA (z:=zz12) (places:=[(0,1),(1,1),(2,2),(4,1),(5,1)]) (vs:=[(0,.slice sa s.length sc)]) (cs:=#[.slice sa s.length sc,UH UI 0,UH UI 0,UM UL 0 0,UH UI 0,UM UL 0 0]) U0 U0 U2 U0 ?_;generalize s.length=sl at hs;refine ey rfl ?_;have hbx:(h1.push (.cells (Value.agg #[.slice sa sl sc,UH UI 0,UH UI 0,UM UL 0 0,UH UI 0,UM UL 0 0]).cells T.bu))[h1.size]? = UK (.cells (Value.agg #[.slice sa sl sc,UH UI 0,UH UI 0,UM UL 0 0,UH UI 0,UM UL 0 0]).cells T.bu (0,0)):=by simp
 have hle2:=bQ h1 (.cells (Value.agg #[.slice sa sl sc,UH UI 0,UH UI 0,UM UL 0 0,UH UI 0,UM UL 0 0]).cells T.bu);have hbg : ∀b,(UM (UK ⟨h1.size,0,UL⟩) 1 1).ownBlock=UK b->h1.size<=b:=λb hb=>by simp only[Value.ownBlock,Q2]at hb;omega
 show LC.wp UQ z _ _ (h1.push (.cells (Value.agg #[.slice sa sl sc,UH UI 0,UH UI 0,UM UL 0 0,UH UI 0,UM UL 0 0]).cells T.bu));generalize h1.push (.cells (Value.agg #[.slice sa sl sc,UH UI 0,UH UI 0,UM UL 0 0,UH UI 0,UM UL 0 0]).cells T.bu)=h2 at hbx hle2;have w2:=w1.add (k:=(0,0)) ((Own.aB U2).trans (ho0 _ U3)) (iu (W:=W) (d:=RawN.mk (n:=5) [.slice sa sl sc,UH UI 0,UH UI 0,UM UL 0 0,UH UI 0,UM UL 0 0]) hbx (sD rfl U7) U3) hle2 hbg;generalize h1.size=M at w2;generalize hvs:Value.slice sa sl sc=vs at hs w2;obtain⟨m0,hm0⟩ : ∃m0:MS,m0=⟨0,0,[],0,[]⟩:=⟨_,rfl⟩;obtain⟨o2,ho2⟩ : ∃o2:Own,o2=λk=>if k=(0,0) then bx T.bu M (RawN.mk (n:=5) (mkL vs 0 0 (UM UL 0 0) 0 (UM UL 0 0))) else if k=(0,1) then it T.int (UM UL 0 0) ([]:List Int) else if k=(0,2) then it T.e9 (UM UL 0 0) ([]:List BlkM) else iU R o0 k:=⟨_,rfl⟩;have w2:Owns W h2 o2:=w2.nils λk i hk=>by
  rw[ho2]at hk;dsimp only at hk;split at hk
  ·rename_i e;rw[e];exact .inl hk
  rename_i e0;split at hk
  ·cases hk;exact .inr ⟨rfl,OwnT.nil (α:=Int) _ _ _⟩
  split at hk
  ·cases hk;exact .inr ⟨rfl,OwnT.nil (α:=BlkM) _ _ _⟩
  refine .inl ?_;rw[Own.aB e0];by_cases e8:k=(8,0)
  ·subst e8;exact hk
  rw[Own.aB e8];unfold iU at hk;rw[if_neg e8]at hk;split at hk
  ·exact hk
  cases hk
 have w2:Mk s M vs W h2 o2 m0:=⟨w2,hs,UM UL 0 0,UM UL 0 0,[],by rw[ho2,hm0];rfl,by rw[ho2,hm0];rfl,by rw[ho2];rfl,by rw[hm0];rfl,λi hi=>by rw[hm0]at hi;simp at hi,λi hi=>by rw[hm0]at hi;simp at hi,λi hi=>by rw[hm0]at hi;simp at hi⟩;have f2 : ∀k:Key,3<=k.1->o2 k=iU R o0 k:=λk hk=>by rw[ho2];dsimp only;rw[if_neg (by rintro rfl;simp at hk),if_neg (by rintro rfl;simp at hk),if_neg (by rintro rfl;simp at hk)]
 clear w1 hbx hbg hle2 q1 ho2;subst hz;refine aa λz hz=>?_;simp;refine ah U0 (w2.take (by rw[hm0];decide) (n:=5) U3 U3) ?_;rintro _ h3 ⟨rfl,o3,w3,f3⟩;have tv:=dv (s:=s) (at_:=m0.at_) (n:=5) U3;obtain⟨vb,vl,lb,bb⟩:=w3.box;refine w3.own.dW (k:=(0,0)) (n:=5) (i:=2) (e:=T.bu) (B:=M) (l:=mkL vs m0.took.at_ m0.took.ps vb m0.took.next vl) bb.box U3 U0 rfl rfl rfl λh4 w4 _=>?_;have b4:=bb.boxed ⟨m0.took.at_,aT s m0.at_ 5,m0.took.blocks,m0.took.next,m0.took.live⟩ rfl rfl;subst hz;refine aa λz hz=>?_;have w4:Mk s M vs W h4 _ _:=⟨w4,w3.src,vb,vl,lb,b4⟩;have rd:=w4.reads b4;simp[rd.ps];refine w4.own.dW (k:=(0,0)) (n:=5) (i:=4) (e:=T.bu) (B:=M) (l:=mkL vs m0.took.at_ (aT s m0.at_ 5) vb m0.took.next vl) b4.box U3 U0 rfl rfl rfl λh5 w5 _=>?_;have b5:=b4.boxed ⟨m0.took.at_,aT s m0.at_ 5,m0.took.blocks,aT s m0.at_ 5,m0.took.live⟩ rfl rfl;have w5:Mk s M vs W h5 _ _:=⟨w5,w3.src,vb,vl,lb,b5⟩;obtain⟨o5,ho5⟩ : ∃o5,o5=(o3.upd (0,0) (bx T.bu M (RawN.mk (n:=5) (mkL vs m0.took.at_ (aT s m0.at_ 5) vb m0.took.next vl)))).upd (0,0) (bx T.bu M (RawN.mk (n:=5) (mkL vs m0.took.at_ (aT s m0.at_ 5) vb (aT s m0.at_ 5) vl))):=⟨_,rfl⟩;have f5 : ∀k:Key,3<=k.1->o5 k=iU R o0 k:=λk hk=>by rw[ho5,Own.aB (by rintro rfl;simp at hk),Own.aB (by rintro rfl;simp at hk),f3 k hk,f2 k hk]
 rw[hm0]at w5;have w5:Mk s M vs W h5 o5 ⟨1,aT s 0 5,[],aT s 0 5,[]⟩:=by rw[ho5,hm0];exact w5
 clear b5 b4 rd w4 bb w3 f3 w2 f2 ho5 hvs;subst hz;refine aa λz hz=>?_;simp;refine ah U0 (w5.take (show 1<=_ by omega) (n:=9) U3 U3) ?_;rintro _ h6 ⟨rfl,o6,w6,f6⟩;have w6:Mk s M vs W h6 o6 (yX s):=w6;have f6 : ∀k:Key,3<=k.1->o6 k=iU R o0 k:=λk hk=>(f6 k hk).trans (f5 k hk);clear w5 f5;have hN:=Iq (s:=s);obtain⟨n1,n2⟩:=lO (s:=s);have hw:IntKind.i64.wrap (1+aT s 1 9)=(cr s:Nat):=by rw[hN];exact bc U1 U1
 simp[hw];subst hz;refine aa λz hz=>?_;simp;refine ah U0 (Fp (ri:=iU R o0) w6 (λk hk=>f6 k U1) (λk h1 h2=>(f6 k h1).trans (by unfold iU;rw[if_neg (by rintro rfl;simp at h2),if_neg U1])) (n:=cr s) EI U1 n1 U1) ?_;rintro vt h7 ⟨W7,o7,g7,w7,r7,e7,st⟩;have w7:Mk s M vs W7 h7 o7 (jC s).2:=w7;have st:SlRd W7 vt (jC s).1:=st;have f7 : ∀k:Key,3<=k.1->o7 k=iU R o0 k:=λk hk=>by
  by_cases e:8<=k.1
  ·exact r7 k e
  rw[e7 k hk U1];unfold iU;rw[if_neg (by rintro rfl;simp at e),if_neg U1]
 clear r7 e7 w6 f6;have k1:=CF (s:=s);have s4:=yS (s:=s);subst hz;refine aa λz hz=>?_;simp;refine oz (α:=BlkM) (W:=W7) (k:=.i64) (n:=cr s) (d:=⟨⟨UM UL 0 0⟩,⟨UM UL 0 0⟩,⟨0,[],[],⟨0⟩⟩⟩) El.oE U4 U4 ⟨[UM UL 0 0],_,rfl,⟨rfl,rfl⟩,[UM UL 0 0],_,rfl,⟨rfl,rfl⟩,[UH UI 0],_,rfl,⟨rfl,by decide,by decide⟩,[UM UL 0 0],_,rfl,⟨_,rfl,aS⟩,[UM UL 0 0],_,rfl,⟨_,rfl,aS⟩,rfl,by decide,by decide⟩ U1 U1 λvb8 h8 ob8 m8 hle8 hb8=>?_;obtain⟨vb,vl,lb,bb⟩:=w7.box;have wa:=w7.own.sub (o':=o7.upd (0,2) UL) λj i hj=>by
  unfold Own.upd at hj;split at hj
  ·cases hj
  exact hj
 have wb:=wa.add (k:=(0,2)) Own.ao ob8 hle8 (λb hb=>by rw[hb8]at hb;cases hb;exact Q4 _);have hv8:=(wb.cells (k:=(0,2)) Own.ao).2;obtain⟨o8,ho8⟩ : ∃o8:Own,o8=λk=>if k.1=1/\k.2<cr s then it T.fM (UM UL 0 0) ([]:List PhiD) else if k.1=2/\k.2<cr s then it T.eY (UM UL 0 0) ([]:List InsD) else o7.upd (0,2) (it T.e9 vb8 (List.replicate (cr s) (BlkM.mk ⟨UM UL 0 0⟩ ⟨UM UL 0 0⟩ ⟨0,[],[],⟨0⟩⟩))) k:=⟨_,rfl⟩;have w8:Owns W7 h8 o8:=wb.nils λk i hk=>by
  rw[ho8]at hk;dsimp only at hk;split at hk
  ·cases hk;exact .inr ⟨rfl,OwnT.nil (α:=PhiD) _ _ _⟩
  split at hk
  ·cases hk;exact .inr ⟨rfl,OwnT.nil (α:=InsD) _ _ _⟩
  refine .inl ?_;by_cases e:k=(0,2)
  ·subst e;rw[Own.ao]at hk ⊢;exact hk
  rw[Own.aB e]at hk;rw[Own.aB e,Own.aB e];exact hk
 have c8 : ∀k:Key,¬(k.1=1/\k.2<cr s)->¬(k.1=2/\k.2<cr s)->o8 k=o7.upd (0,2) (it T.e9 vb8 (List.replicate (cr s) (BlkM.mk ⟨UM UL 0 0⟩ ⟨UM UL 0 0⟩ ⟨0,[],[],⟨0⟩⟩))) k:=λk h1 h2=>by rw[ho8];dsimp only;rw[if_neg h1,if_neg h2]
 refine w8.dW (k:=(0,0)) (n:=5) (i:=3) (e:=T.bu) (B:=M) (l:=mkL vs (jC s).2.at_ (jC s).2.ps vb (jC s).2.next vl) (by rw[c8 _ U2 U2,Own.aB U2];exact bb.box) U3 U0 rfl rfl hv8 λh9 w9 _=>?_;obtain⟨o9,ho9⟩ : ∃o9:Own,o9=o8.upd (0,0) (bx T.bu M (RawN.mk (n:=5) (mkL vs (jC s).2.at_ (jC s).2.ps vb8 (jC s).2.next vl))):=⟨_,rfl⟩;have w9:Owns W7 h9 o9:=by rw[ho9];exact w9
 have b9:MkB M vs { (jC s).2 with blocks:=List.replicate (cr s) vK } o9 vb8 vl (List.replicate (cr s) (BlkM.mk ⟨UM UL 0 0⟩ ⟨UM UL 0 0⟩ ⟨0,[],[],⟨0⟩⟩)):=by
  rw[ho9];refine⟨rfl,?_,?_,by simp,λi hi=>?_,λi hi=>?_,λi hi=>?_⟩
  ·rw[Own.aB U2,c8 _ U2 U2,Own.aB U2];exact bb.live
  ·rw[Own.aB U2,c8 _ U2 U2,Own.ao]
  ·have hi:i<cr s:=by simpa using hi
   rw[aE hi,aE hi];rfl
  ·have hi:i<cr s:=by simpa using hi
   rw[Own.aB U2,ho8];dsimp only;rw[if_pos ⟨rfl,hi⟩,aE hi,aE hi];rfl
  have hi:i<cr s:=by simpa using hi
  rw[Own.aB U2,ho8];dsimp only;rw[if_neg U2,if_pos ⟨rfl,hi⟩,aE hi,aE hi];rfl
 have x9:Nx s M vs W7 h9 (iU R o0) { (jC s).2 with blocks:=List.replicate (cr s) vK }:=⟨W7,o9,View.le_refl _,⟨w9,w7.src,vb8,vl,_,b9⟩,λk hk=>by rw[ho9,Own.aB (by rintro rfl;simp at hk),c8 _ U1 U1,Own.aB (by rintro rfl;simp at hk)];exact f7 k hk⟩;clear b9 w9 ho9 c8 w8 ho8 wb wa hv8 bb ob8 m8 hle8 hb8 w7 f7;subst hz;refine aa λz hz=>?_;refine aa λy hy=>?_;simp;subst hy;refine Mo (vr:=ptz R) st k1.len x9 U2 U1 (by simp[aX,af,ag]) λh10 x10=>?_;have x10:Nx s M vs W7 h10 (iU R o0) (vx s):=x10;clear x9;simp;subst hz;refine aa λz hz=>?_;simp;obtain⟨Wa,oa,ga,wa,fa⟩:=x10;refine oz (α:=Int) (W:=Wa) (k:=.i64) (n:=cr s) (d:=0) El.aY U4 U4 ⟨rfl,by decide,by decide⟩ U1 U1 λvp h11 ob11 m11 hle11 hb11=>?_;have x11:Nx s M vs W7 h11 ((iU R o0).upd (5,0) (it T.int vp (List.replicate (cr s) (0:Int)))) (vx s):=by
  have w11:=wa.own.add (k:=(5,0)) ((fa _ U3).trans rfl) ob11 hle11 (λb hb=>by rw[hb11]at hb;cases hb;exact Q4 _);obtain⟨vb,vl,lb,bb⟩:=wa.box;refine⟨Wa,_,ga,⟨w11,wa.src,vb,vl,lb,bb.frame λq hq=>Own.aB (by rintro rfl;simp at hq)⟩,λq hq=>?_⟩;unfold Own.upd;split
  ·rfl
  exact fa q hq
 clear wa fa ob11 m11 hb11;subst hz;refine aa λz hz=>?_;refine aa λy hy=>?_;simp;subst hy;obtain⟨z2,g2⟩:=CX (s:=s);have p0:Ph (cr s) 200 0 (List.replicate (cr s) (0:Int),vx s):=by
  have hz : ∀j,nth (List.replicate (cr s) (0:Int)) j=0:=λj=>by
   rcases Ri j (cr s)with hj | hj
   ·rw[aE hj]
   rw[dt (by simpa using hj)];rfl
  exact⟨z2,by simp,λj _=>hz j,λj=>by show 0<=nth (List.replicate _ (0:Int)) j/\nth (List.replicate _ (0:Int)) j<=3;rw[hz];omega⟩
 refine Mj (x0:=(List.replicate (cr s) (0:Int),vx s)) (vr:=ptz R) (vt:=vt) (vp:=vp) x11 p0 n1 U1 U1 (by simp[aX,af,ag]) λh12 x12=>?_;have x12:Nx s M vs W7 h12 ((iU R o0).upd (5,0) (it T.int vp (lj s).1)) (lj s).2:=x12;obtain⟨ph,pc,g3⟩:=vO (s:=s);clear p0 x11 z2 g2;simp;subst hz;refine aa λz hz=>?_;simp;obtain⟨Wa,oa,ga,wa,fa⟩:=x12;refine oz (α:=Bool) (W:=Wa) (k:=.i64) (n:=cr s) (d:=false) El.qd U4 U4 rfl U1 U1 λvd h13 ob13 m13 hle13 hb13=>?_;have x13:Nx s M vs W7 h13 (((iU R o0).upd (5,0) (it T.int vp (lj s).1)).upd (6,0) (it T.bool vd (List.replicate (cr s) UP))) (lj s).2:=by
  have w13:=wa.own.add (k:=(6,0)) ((fa _ U3).trans rfl) ob13 hle13 (λb hb=>by rw[hb13]at hb;cases hb;exact Q4 _);obtain⟨vb,vl,lb,bb⟩:=wa.box;refine⟨Wa,_,ga,⟨w13,wa.src,vb,vl,lb,bb.frame λq hq=>Own.aB (by rintro rfl;simp at hq)⟩,λq hq=>?_⟩;unfold Own.upd;split
  ·rfl
  exact fa q hq
 clear wa fa ob13 m13 hb13;subst hz;refine aa λz hz=>?_;refine aa λy hy=>?_;simp;subst hy;refine MZ (a:=16000) (p:=27) (x0:=(List.replicate (cr s) UP,(lj s).2)) (vr:=ptz R) (vp:=vp) x13 st k1.len rfl rfl rfl Da n2 U1 U1 U1 (by simp[aX,af,ag]) λh14 x14=>?_;have x14:Nx s M vs W7 h14 (((iU R o0).upd (5,0) (it T.int vp (lj s).1)).upd (6,0) (it T.bool vd (By s).1)) (By s).2:=x14;obtain⟨q4,pc4⟩:=DF (s:=s);clear x13 pc g3;simp;subst hz;refine aa λz hz=>?_;refine aa λy hy=>?_;simp;subst hy;refine Jm (vr:=ptz R) (vt:=vt) (vp:=vp) (vd:=vd) (lp:=(lj s).1) x14 ((Own.aB U2).trans Own.ao) rfl rfl q4 pc4 ph.len ph.rng n1 n2 U1 U1 U1 U1 (by simp[aX,af,ag]) λh15 x15=>?_;have x15:Nx s M vs W7 h15 (((iU R o0).upd (5,0) (it T.int vp (lj s).1)).upd (6,0) (it T.bool vd (By s).1)) (xx s):=x15;have q5:=qV (s:=s);clear x14 q4 pc4 ph;simp;subst hz;refine aa λz hz=>?_;obtain⟨Wa,oa,ga,wa,fa⟩:=x15;obtain⟨vb,vl,lb,bb⟩:=wa.box;have rd:=wa.reads bb;simp[rd.f];have hvb:vb.oneCell'=true:=rd.blk.cells.2;refine wa.own.db (k:=(8,0)) (α:=RawN 1) (β:=RawN 1) Part.all (B:=R) (D:=RawN.mk (n:=1) [UH UI 0,UM UL 0 0]) (d:=RawN.mk (n:=1) [UH UI (xx s).ps,vb]) ((fa _ U3).trans rfl) U0 rfl rfl (sD rfl (by intro c hc;simp only[Ru,Tx,or_false]at hc;rcases hc with rfl | rfl<;>first | rfl | exact hvb)) λh16 w16 _=>?_;have c16:=w16.BW (k:=(8,0)) (n:=1) (l:=[UH UI (xx s).ps,vb]) Own.ao;have c16:Un.ev (vw h16) (.bM 2) (ptz R)=UK (.agg #[UH UI (xx s).ps,vb]):=c16;have b16:=bb.frame (o':=oa.upd (8,0) (bx T.gx R (RawN.mk (n:=1) [UH UI (xx s).ps,vb]))) λq hq=>Own.aB (by rintro rfl;simp at hq);have w16:Mk s M vs Wa h16 _ (xx s):=⟨w16,wa.src,vb,vl,lb,b16⟩;have rd16:=w16.reads b16;subst hz;simp[c16];refine hK _ _ ⟨Wa,λk=>if 3<=k.1 then o0 k else if k=(0,2)\/k.1=1\/k.1=2 then oa k else UL,vb,lb,UF g7 ga,w16.own.sub λk i hk=>?_,λk hk=>if_pos hk,⟨?_,b16.len,b16.term,λi hi=>?_,λi hi=>?_⟩,rfl⟩
 ·split at hk
  ·rename_i e3;rcases Ri k.1 10 with e | e
   ·rw[ho0 k e]at hk;cases hk
   have h1:oa k=o0 k:=(fa k U1).trans (by rw[Own.aB (by rintro rfl;simp at e),Own.aB (by rintro rfl;simp at e)];unfold iU;rw[if_neg (by rintro rfl;simp at e),if_pos e]);rw[Own.aB (by rintro rfl;simp at e),h1];exact hk
  rename_i e3;split at hk
  ·rw[Own.aB (by rintro rfl;simp at e3)];exact hk
  cases hk
 ·have:=b16.blk;rw[Own.aB U2]at this;simpa using this
 ·have:=b16.phis i hi;rw[Own.aB U2]at this;exact(by simp:_=oa (1,i)).trans this
 have:=b16.ins i hi;rw[Own.aB U2]at this;exact(by simp:_=oa (2,i)).trans this
theorem LR{s:List Int}{vs:Value}{h:Heap}{W:View}{o0:Own}(w0:Owns W h o0)(ho0 : ∀k:Key,k.1<10->o0 k=UL)(hs:SlRd W vs s):
  ay UQ 11 #[vs] h (λu h'=>∃W',W.le W'/\Owns W' h' o0/\Rd W' u (vJ s)):=by refine(Kw w0 ho0 hs).mono ?_;rintro u h' ⟨W1,o,vb,lb,hW,w,ho,b,rfl⟩;obtain⟨W2,hW2,w2,sb⟩:=b.freeze w ho λk hk=>ho0 k U1;have mp:=EG (s:=s);have mi:I64 (vJ s).params:=U6;exact⟨W2,UF hW hW2,w2,⟨_,rfl,[UH UI (vJ s).params],[vb],rfl,⟨rfl,mi⟩,vb,rfl,sb⟩⟩
end Go.Lft
namespace Go.Lft
section
variable{po po2:OP}{W:View}{h h':Heap}{o:Own}{k:Key}{P:Program}{ty:TypeId}{us:List (Nat × Value)}
theorem Owns.jT{α:Type}[Rep α]{e:TypeId}{B:Nat}{d:α}(w:Owns W h o)(hk:o k=bx e B d) : ∃W',W.le W'/\Owns W' h (o.upd k UL)/\At W' ⟨B,0,UL⟩ d:=by obtain⟨w1,s1⟩:=w.freeze (v:=UM (UK ⟨B,0,UL⟩) 1 1) (l:=[d]) hk;refine⟨_,gU (w.av k _ hk),w1,?_⟩;have:=s1.at (i:=0) U2;simpa[slA,Addr.z]using this
end
theorem K0{h:Heap}:ay UQ 45 #[] h (λu h'=>(vw h).le (vw h')/\u = .agg (dX.map λc=>UH UI c).toArray):=by refine aq (args:=[]) follows Tryz.func45 E.ou UC λK hK=>?_;dsimp only[L.ou,lkF,lkG];have c0:=Cx.start (h:=h) (View.le_refl (vw h));refine aa λz hz=>?_;simp;refine c0.de (k:=(0,0)) (n:=36) (z:=.agg (List.replicate 37 (UH UI 0)).toArray) rfl U0 U0 U3 (by have:(Value.agg (List.replicate 37 (UH UI 0)).toArray).cells.toList=List.replicate 37 (UH UI 0):=rfl;rw[this];intro c hc;rw[List.eq_of_mem_replicate hc];rfl) λR h1 hle1 c1=>?_;subst hz;refine aa λz hz=>?_;simp;refine aA (t:=T.GC) (z:=.agg (List.replicate 37 (UH UI 0)).toArray) (places:=(List.range 37).map λi=>(i,1)) (vs:=(((dX.map λc=>UH UI c).zipIdx 0).map λp=>(p.2,p.1))) (cs:=(dX.map λc=>UH UI c).toArray) U0 U0 U0 U0 ?_;refine c1.tI (k:=(0,0)) (n:=36) (l':=dX.map λc=>UH UI c) U4 U0 U2 U2 rfl (λc hc=>by obtain⟨x,_,rfl⟩:=Sf.1 hc;rfl) λh2 c2=>?_;subst hz;have hall:=c2.all (k:=(0,0)) (n:=36) (l:=dX.map λc=>UH UI c) (B:=R) (e:=T.GC) U4;simp at hall;simp[hall];exact hK _ _ ⟨c2.le0,by simp⟩
section
variable{po po2:OP}{V W:View}{h0 h h':Heap}{o:Own}{k:Key}{P:Program}{ty:TypeId}{us:List (Nat × Value)}
theorem Cx.JY{α:Type}[Rep α]{t:TypeId}{x:Operand}{v:Value}{d:α}{K:Value->Heap->Prop}(c:Cx V h0 W h o)(hk:o k=UL)(hx:asg us x=v)(hv:Rd W v d)(hn:Rep.n α<=1000)
  (hK : ∀B h',(vw h).le (vw h')->Cx V h0 W h' (o.upd k (bx t B d))->K (ptz B) h'):@step po P (.box t x) ty us h K:=by
 refine _root_.Go.Lft.ey hx ?_;have q1:=bQ h (.cells v.cells t);have b2:(h.push (.cells v.cells t))[h.size]? = UK (.cells v.cells t (0,0)):=by simp
 generalize h.push (.cells v.cells t)=h2 at q1 b2;refine hK _ _ q1 ⟨c.own.add hk (iu b2 hv hn) q1 λb hb=>by simp only[Value.ownBlock,Q2]at hb;omega,c.old,UF c.le0 q1,λj i b hj hb=>?_⟩;by_cases e:j=k
 ·subst e;rw[Own.ao]at hj;cases hj;cases hb;exact bO c.le0
 rw[Own.aB e]at hj;exact c.new j i b hj hb
theorem Cx.db{α β:Type}[Rep α][Rep β]{off:Nat}{g:α->β}{s:α->β->α}(p:Part α β off g s){e t:TypeId}{x y:Operand}{B:Nat}{D:α}{u:Value}{d:β}{K:Value->Heap->Prop}(c:Cx V h0 W h o)(hk:o k=bx e B D)(hsz:cU P t=UK (Rep.n β))(hx:asg us x = UN (UK ⟨B,off,.none⟩))(hy:asg us y=u)(hr:Rd W u d)
  (hK : ∀h',Cx V h0 W h' (o.upd k (bx e B (s D d)))->K undef h'):@step po P (.store t x y) ty us h K:=
 c.own.pL p hk hsz hx hy hr λh2 w hX=>hK _ ⟨w,c.old,hX _ c.le0 (View.b8 UE (c.new k _ B hk rfl)),λj i b hj hb=>by
  by_cases e:j=k
  ·subst e;rw[Own.ao]at hj;cases hj;exact c.new _ _ b hk hb
  rw[Own.aB e]at hj;exact c.new j i b hj hb⟩
theorem Cx.NA{α:Type}[Rep α]{e:TypeId}{B:Nat}{d:α}(c:Cx V h0 W h o)(hk:o k=bx e B d)(ha:Rep.agg α=UO){N:Nat}(hN:Rep.n α=N) : ∃u,Un.ev (vw h) (.bM N) (ptz B)=UK u/\Rd W u d:=by
 subst hN;obtain⟨cs,hcs,hr⟩:=c.own.atW hk;have h1:=Rep.len hr;have:=fP hcs (Rep.n α) 0 #[] U1;refine⟨.agg cs.toArray,?_,?_⟩
 ·simp only[Un.ev,vP,RD];rw[this];simp[<-h1]
 unfold Rd;rw[if_pos ha];exact⟨_,rfl,by simpa using hr⟩
theorem Cx.PA{α:Type}[Rep α]{e:TypeId}{B:Nat}{d:α}(c:Cx V h0 W h o)(hk:o k=bx e B d):At (vw h) ⟨B,0,UL⟩ d:=c.own.at hk
end
section
variable{V:View}{h:Heap}{S I O P Q LL TT:Nat}{s:cC}{op plain sum:Int}
abbrev xo:List Value:=[UH UI 0,UH UI 0,UH UI 0,UH UI 0,UH UI 0,UH UI 0,UH UJ 0,UM UL 0 0]
theorem yj{W:View}{m:bz}{vm:Value}(mx:Mx V S I O P Q LL TT s op plain sum)(hV:V.le W)(hW:W.le (vw h))(hm:Rd W vm m)(ho:op=15\/2<=s.i.args.length) :
  ay UQ 225 #[vm,ptr O,ptr I,ptr P] h (λu h'=>(vw h).le (vw h')/\Rd (grow W h h') u (jI s.i op plain m)):=by
 refine aq (args:=[vm,ptr O,ptr I,ptr P]) follows Tryz.func225 E.ic UC λK hK=>?_;dsimp only[L.ic,lkF,lkG];have c0:=Cx.start hW;refine aa λz hz=>?_;simp;refine c0.JY (k:=(0,1)) rfl rfl hm U3 λM h1 hle1 c1=>?_;refine c1.de (k:=(0,0)) (n:=7) (z:=.agg xo.toArray) U4 U0 rfl U3 U8 λR h2 hle2 c2=>?_;subst hz;have hk1:(Own.upd (Own.upd (λ_=>UL) (0,1) (bx T.cT M m)) (0,0) (bx T.cT R (RawN.mk (n:=7) (Value.agg xo.toArray).cells.toList))) (0,1)=bx T.cT M m:=rfl;have vh:V.le (vw h2):=UF hV c2.wle;have e1:=ae vh mx.op;have e2:=ae vh mx.plain;have i1:=(mx.ct.ins.part InsD.gm);have r1:=i1.rng;have i1:an (vw h2) ⟨I,1,UL⟩=UK (UH UI s.i.dst):=ae vh (by simpa using i1.int);obtain⟨va,i3,hva⟩:=(mx.ct.ins.part InsD.eX).sl;have i3:an (vw h2) ⟨I,3,UL⟩=UK va:=ae vh (by simpa using i3);refine aa λz hz=>?_;have fin : ∀(h3:Heap) (m3:bz),Cx W h W h3 (Own.upd (Own.upd (Own.upd (λ_=>UL) (0,1) (bx T.cT M m)) (0,0) (bx T.cT R (RawN.mk (n:=7) (Value.agg xo.toArray).cells.toList))) (0,1) (bx T.cT M m3))->jI s.i op plain m=m3->∀ρ:Env,Lft.look ρ 4=UK (ptr M)->Lft.look ρ 5=UK (ptr R)->LC.wp UQ z (dY [.un (.bM 8) (.tmp 5)] K) ρ h3:=λh3 m3 c3 he ρ h4 h5=>by rw[hz];refine aa λy hy=>?_;obtain⟨u,hu,ru⟩:=c3.NA (k:=(0,1)) (e:=T.cT) (B:=M) (d:=m3) rfl rfl (N:=8) rfl;simp[h4,h5,hu];refine c3.bG (α:=bz) (k:=(0,0)) (n:=7) U4 ru rfl rfl U0 U2 U2 λh6 l6 hl6 c6=>?_;rw[hy];have hall:=c6.all (k:=(0,0)) (n:=7) (l:=l6) (B:=R) (e:=T.cT) U4;simp at hall;simp[hall,af,ag,h5];refine hK _ _ ⟨c6.le0,?_⟩;rw[he,<-hl6];exact ru.mono c6.fin
 by_cases h15:op=15
 ·simp[e1,h15,i1];refine c2.db (k:=(0,1)) (α:=bz) bz.QY (D:=m) (d:=s.i.dst) hk1 U0 U2 U2 (bw.2 ⟨rfl,r1⟩) λh3 c3=>?_;exact fin _ _ c3 (by unfold jI;rw[if_pos h15]) _ U2 U2
 have ha:2<=s.i.args.length:=by omega
 have q1:=hva.idx1 (k:=.i64) (i:=1) rfl U3 U1;have d1:=ae vh (hva.int (View.le_refl V) (i:=1) U1);have ar:=hva.rng (i:=1) U1;have m0:=ae UE (((c2.PA hk1).part bz.wI)).int;simp at m0 q1 d1;by_cases hp:m.op=plain
 ·simp[e1,h15,e2,m0,hp,i3,q1,d1];refine c2.db (k:=(0,1)) (α:=bz) bz.QZ (D:=m) (d:=nth s.i.args 1) hk1 U0 U2 U2 (bw.2 ⟨rfl,ar⟩) λh3 c3=>?_;exact fin _ _ c3 (by unfold jI;rw[if_neg h15,if_pos hp]) _ U2 U2
 simp[e1,h15,e2,m0,hp,i3,q1,d1];refine c2.db (k:=(0,1)) (α:=bz) bz.Q1 (D:=m) (d:=nth s.i.args 1) hk1 U0 U2 U2 (bw.2 ⟨rfl,ar⟩) λh3 c3=>?_;exact fin _ _ c3 (by unfold jI;rw[if_neg h15,if_neg hp]) _ U2 U2
end
theorem IB{W:View}{h:Heap}{e:TypeId}{B n:Nat}{l:List Int}(hb:h[B]? = UK (.cells (l.map λc=>UH UI c).toArray e (0,0)))(hr : ∀x∈l,-9223372036854775808<=x/\x<=9223372036854775807)(hn:l.length=n)(h2:n<=1000000) :
  OwnT W h e (UM (UK ⟨B,0,.none⟩) n n) l:=by
 subst hn;refine⟨by omega,l.map λc=>UH UI c,⟨by simp[Rep.n],.inr ⟨B,l.length,_,rfl,hb,Q4 _,by simp[maxLen];omega,by simp[Rep.n],?_⟩⟩,λi hi=>?_⟩
 ·rw[Rq (by simp[Rep.n])]
 show(List.take 1 (List.drop (i*1) (l.map λc=>UH UI c))=[UH UI l[i]])/\_;rw[RY];refine⟨?_,hr _ (Sp hi)⟩;rw[RJ (by simpa using hi)];simp
theorem AF : ∀{l:List Int},(l.map λc=>UH UI c).flatMap (λv=>v.cells.toList)=l.map λc=>UH UI c
 | []=>rfl
 | x::l=>by rw[Sn,S3,AF];rfl
section
variable{po po2:OP}{V W:View}{h0 h h':Heap}{o:Own}{k:Key}{P:Program}{ty:TypeId}{us:List (Nat × Value)}
theorem Cx.yg{t e n:Nat}{bytes:Nat}{z:Value}{ps:Array (Nat × Operand)}{l:List Int}{K:Value->Heap->Prop}(c:Cx V h0 W h o)(hk:o k=UL)(hT:eF P t e 1 bytes z)
  (hp:ps.map (λp=>(p.1,asg us p.2))=(((l.map λc=>UH UI c).zipIdx 0).map λp=>(p.2,p.1)).toArray) (hr : ∀x∈l,-9223372036854775808<=x/\x<=9223372036854775807) (hn:l.length=n) (h2:n<=1000)
  (hK : ∀u h',(vw h).le (vw h')->Cx V h0 W h' (o.upd k (it e u l))->K u h'):@step po P (.buildSlice t n ps) ty us h K:=by
 obtain⟨B,h1,hB⟩:=oy (s:=1) (l.map λc=>UH UI c) 0 ((Array.range (n*1)).map (z.cells[· % z.cells.size]!)) (λv hv=>by obtain⟨c,_,rfl⟩:=Sf.1 hv;rfl) U9;have hB:B=(l.map λc=>UH UI c).toArray:=by rw[<-Array.toList_inj,hB];simp only[Tv,SV,RV,AF]
 subst hB;refine ti (size:=1) hT U1 hp h1 ?_;have q1:=bQ h (.cells (l.map λc=>UH UI c).toArray e);have b2:(h.push (.cells (l.map λc=>UH UI c).toArray e))[h.size]? = UK (.cells (l.map λc=>UH UI c).toArray e (0,0)):=by simp
 generalize h.push (.cells (l.map λc=>UH UI c).toArray e)=h3 at q1 b2;refine hK _ _ q1 ⟨c.own.add hk (IB b2 hr hn U1) q1 λb hb=>by simp only[Value.ownBlock,Q2]at hb;omega,c.old,UF c.le0 q1,λj i b hj hb=>?_⟩;by_cases e:j=k
 ·subst e;rw[Own.ao]at hj;cases hj;cases hb;exact bO c.le0
 rw[Own.aB e]at hj;exact c.new j i b hj hb
theorem Cx.gA{α:Type}[Rep α]{e e2:TypeId}{v v':Value}{l l':List α}(c:Cx V h0 W h o)(hk:o k=it e v l)(o2:OwnT W h' e2 v' l')(m:lA h h' v v'):Cx V h0 W h' (o.upd k (it e2 v' l')):=by
 refine⟨c.own.gA hk o2 m,c.old,?_,λj i b hj hb=>?_⟩
 ·exact m.kept.view c.le0 λb hb=>View.b8 UE (c.new k _ b hk hb)
 by_cases e:j=k
 ·subst e;rw[Own.ao]at hj;cases hj;rcases m.at_ with q | q
  ·exact c.new _ _ b hk (q▸hb)
  have hb:v'.ownBlock=UK b:=hb;rw[q]at hb;cases hb;exact bO c.le0
 rw[Own.aB e]at hj;exact c.new j i b hj hb
theorem Cx.freeze{α:Type}[Rep α]{e:TypeId}{v:Value}{l:List α}(c:Cx V h0 W h o)(hk:o k=it e v l) : ∃W',W.le W'/\Cx V h0 W' h (o.upd k UL)/\SlRd W' v l:=by
 obtain⟨w1,s1⟩:=c.own.freeze hk;refine⟨_,gU (c.own.av k _ hk),⟨w1,λb x hb hx=>?_,c.le0,λj i b hj hb=>?_⟩,s1⟩
 ·unfold View.plus at hx;split at hx
  ·rename_i e1;have:=c.new k _ b hk e1;omega
  exact c.old b x hb hx
 by_cases e:j=k
 ·subst e;rw[Own.ao]at hj;cases hj
 rw[Own.aB e]at hj;exact c.new j i b hj hb
end
section
variable{V:View}{h:Heap}{S I O P Q LL TT:Nat}{s:cC}{op plain sum:Int}
theorem ym{W:View}{l:List Int}{vl:Value}(mx:Mx V S I O P Q LL TT s op plain sum)(hV:V.le W)(hW:W.le (vw h))(ho:OwnT W h T.int vl l)(hl:l.length<=10)(h1:1<=s.i.args.length)(h2:s.i.args.length<=1000000) :
  ay UQ 226 #[vl,ptr I] h (λu h'=>OwnT W h' T.int u (l++s.i.args.drop 1)/\lA h h' vl u):=by refine aq (args:=[vl,ptr I]) follows Tryz.func226 E.gZ UC λK hK=>?_;dsimp only[L.gZ,lkF,lkG];obtain⟨va,i3,hva⟩:=(mx.ct.ins.part InsD.eX).sl;have i3:an (vw h) ⟨I,3,UL⟩=UK va:=ae (UF hV hW) (by simpa using i3);obtain⟨u,hu,su⟩:=hva.drop (n:=1) h1 (kd:=.i64);have hu:Bn.ev (.lo 1) va (UH UI 1)=UK u:=hu;refine aa λz hz=>?_;simp;subst hz;refine aa λz hz=>?_;simp[i3,hu];refine dA (α:=Int) (e:=T.int) (l:=l) (l2:=s.i.args.drop 1) El.aY U2 U2 ho ((su.mono hV).src hW) U9 U9 λv2 h2 o2 mv=>?_;subst hz;simp;exact hK _ _ ⟨o2,mv⟩
end
section
variable{V:View}{h:Heap}{S I O P Q LL TT:Nat}{s:cC}{op plain sum:Int}
set_option maxHeartbeats 4000000 in
theorem M6(mx:Mx V S I O P Q LL TT s op plain sum)(hV:V.le (vw h))(hok:mJ s)(hop:s.i.op=op)(ho:op=15\/op=16)(hp0:0<=plain/\plain<=100):
    ay UQ 227 #[ptr LL,ptr P,ptr I,ptr TT] h (λu h'=>cg V h h' u (memS s.f s.i s.temp op plain sum 0)):=by
  refine aq (args:=[ptr LL,ptr P,ptr I,ptr TT]) follows Tryz.func227 E.dG UC λK hK=>?_
  dsimp only[L.dG,lkF,lkG]
  have c0:=Cx.start hV
  have l1:1<=s.i.args.length:=by
    rcases ho with q | q
    · exact hok.one.one (hop.trans q)
    · have:=hok.one.two (.inr (.inl (hop.trans q)));omega
  have l2:op=15\/2<=s.i.args.length:=ho.imp id λq=>hok.one.two (.inr (.inl (hop.trans q)))
  refine aa λz hz=>?_
  simp
  refine c0.de (k:=(0,0)) (n:=7) (z:=.agg fitZ.toArray) rfl U0 rfl U3 U8 λR hb hleb cb=>?_
  subst hz
  have i4:=(mx.ct.ins.part InsD.jD)
  have r4:=i4.nY
  have i4:an V ⟨I,4,UL⟩=UK (UH UJ s.i.imm.v):=by simpa using i4.i32
  obtain⟨va,i3,hva⟩:=(mx.ct.ins.part InsD.eX).sl
  have i3:an V ⟨I,3,UL⟩=UK va:=by simpa using i3
  have a0:=hva.rng (i:=0) U1
  have most:=hok.one.most
  have q0:=hva.idx1 (k:=.i64) (i:=0) rfl U3 U1
  have d0:=hva.int (View.le_refl V) (i:=0) U1
  simp at q0
  have eL:=mx.laid
  have eT:=mx.with_
  have eP:=mx.plain
  have hm : ∀X,Rd X (.agg #[UH UI plain,UH UI 0,UH UI 0,UH UI (nth s.i.args 0),UH UI 0,UH UI 0,UH UJ s.i.imm.v,UM UL 0 0]) (⟨plain,0,0,nth s.i.args 0,0,0,s.i.imm,[]⟩:bz):=λX=>jV U9 r4 aS
  have ew:IntKind.i64.wrap s.i.imm.v=s.i.imm.v:=bc U1 U1
  have fin : ∀(W:View) (hx:Heap) (o:Own) (l9:List Value),Cx V h W hx o->Rd W (.agg l9.toArray) (⟨nth s.i.args 0::s.i.args.drop 1,[],[jI s.i op plain ⟨plain,0,0,nth s.i.args 0,0,0,s.i.imm,[]⟩],dc⟩:FitD)->K (.tuple #[.agg l9.toArray,.bool (inR (IntKind.i64.wrap s.i.imm.v) 0 255)]) hx:=λW hx o l9 c hr=>
    hK _ _ (cg.of c hr (by rw[ew];simp only[memS];split<;>simp_all) λy e=>by
      simp only[memS]at e
      split at e<;>cases e
      rfl)
  clear hK
  refine aa λz hz=>?_
  refine aK V cb.wle ?_
  have c:=cb
  have hWV:V.le V:=View.le_refl _
  repeat' (first
    | refine jg ?_ ?_
    | (refine dh λy hy=>?_
       simp[i3,i4,q0,d0,eL,eT,eP]
       first
       | refine aA (t:=T.cT) (z:=.agg xo.toArray) (places:=zpb) (vs:=[(0,UH UI plain),(3,UH UI (nth s.i.args 0)),(6,UH UJ s.i.imm.v)]) (cs:=#[UH UI plain,UH UI 0,UH UI 0,UH UI (nth s.i.args 0),UH UI 0,UH UI 0,UH UJ s.i.imm.v,UM UL 0 0]) U0 U0 U2 U0 ?_
       | (refine c.yg (k:=(0,2)) (n:=1) (l:=[nth s.i.args 0]) U4 El.aY ?_ ?_ rfl U3 λuA h hle c=>?_
          · simp;done
          · simp;omega)
       | refine c.de (k:=(0,1)) (n:=7) (z:=.agg fitZ.toArray) U4 U0 rfl U3 U8 λR2 h hle c=>?_
       | (refine bZ (ops:=[.tmp 17]) (caps:=#[ptr O,ptr I,ptr P]) rfl U0 (yj mx UD c.wle (hm _) l2) ?_
          rintro um h ⟨hle,hum⟩
          have hW:=c.up (h':=h)
          have c:=c.ext hle)
       | (refine bZ (ops:=[.tmp 24]) (caps:=#[ptr I]) rfl U0 (ym mx UD c.wle (c.own.get (k:=(0,2)) (v:=uA) (l:=[nth s.i.args 0]) U4) U2 l1 U1) ?_
          rintro uw h ⟨own2,mv⟩
          have c:=c.gA (k:=(0,2)) (v:=uA) (l:=[nth s.i.args 0]) U4 own2 mv
          obtain⟨W,hW,c,huA⟩:=c.freeze (k:=(0,2)) (v:=uw) (l:=[nth s.i.args 0]++s.i.args.drop 1) U4)
       | (refine ah U0 (lL c.wle (hum.mono UD) (huA.mono UD) aS) ?_
          rintro _ h ⟨hle,vf,rfl,hvf⟩
          have hW:=c.up (h':=h)
          have c:=c.ext hle)
       | refine c.bG (k:=(0,1)) (n:=7) (l:=fitZ) U4 (hvf.mono UD) rfl rfl U0 rfl rfl λh l9 hl9 c=>?_
       try refine⟨UF UD c.wle,?_⟩
       subst hy))
  all_goals
    simp
    rw[hz]
    subst hl9
    have hall:=c.all (k:=(0,1)) (n:=7) (l:=l9) (B:=R2) (e:=T.bf) U4
    simp at hall
    refine aa λx hx=>?_
    refine aK (vw h) UE ?_
    simp[hall,ae (UF UD c.wle) i4]
    refine ah U0 jZ ?_
    rintro _ h ⟨rfl,rfl⟩
    refine⟨View.le_refl _,?_⟩
    refine c.bG (k:=(0,0)) (n:=7) (l:=fitZ) U4 (hvf.mono UD) rfl rfl U0 rfl rfl λh9 l9' hl9' c9=>?_
    rw[hx]
    have hall:=c9.all (k:=(0,0)) (n:=7) (l:=l9') (B:=R) (e:=T.bf) U4
    simp at hall
    simp[hall]
    exact fin _ _ _ _ c9 (hl9'▸hvf.mono UD)
end
section
variable{po po2:OP}{V W:View}{h0 h h':Heap}{o:Own}{k:Key}{P:Program}{ty:TypeId}{us:List (Nat × Value)}
theorem Hf{α:Type}[Rep α]{t e:Nat}{bytes:Nat}{z v:Value}{x:Operand}{d:α}{K:Value->Heap->Prop}(hT:eF P t e (Rep.n α) bytes z)(hx:asg us x=v)(hr:Rd W v d)(hn:Rep.n α<=1000)
  (hk : ∀h',(vw h).le (vw h')->OwnT W h' e (UM (UK ⟨h.size,0,UL⟩) 1 1) [d]->K (UM (UK ⟨h.size,0,UL⟩) 1 1) h'):@step po P (.buildSlice t 1 #[(0,x)]) ty us h K:=by
 have hc:=fH hr;obtain⟨B,h1,hB⟩:=oy (s:=Rep.n α) [v] 0 ((Array.range (1*Rep.n α)).map (z.cells[· % z.cells.size]!)) (λu hu=>by simp at hu;subst hu;exact hc.2.1) U2;have hB:B=v.cells:=by rw[<-Array.toList_inj,hB];simp
 subst hB;refine ti (size:=Rep.n α) (vs:=[(0,v)]) hT U1 (by simp[hx]) h1 ?_;have q1:=bQ h (.cells v.cells e);have b2:(h.push (.cells v.cells e))[h.size]? = UK (.cells v.cells e (0,0)):=by simp
 generalize h.push (.cells v.cells e)=h3 at q1 b2;exact hk _ q1 (iu b2 hr hn)
theorem Cx.add{α:Type}[Rep α]{e:TypeId}{v:Value}{l:List α}(c:Cx V h0 W h o)(hk:o k=UL)(o2:OwnT W h' e v l)(hle:(vw h).le (vw h'))(hb : ∀b,v.ownBlock=UK b->h.size<=b):Cx V h0 W h' (o.upd k (it e v l)):=
 ⟨c.own.add hk o2 hle hb,c.old,UF c.le0 hle,λj i b hj hb'=>by
  by_cases e:j=k
  ·subst e;rw[Own.ao]at hj;cases hj;exact Rt (bO c.le0) (hb b hb')
  rw[Own.aB e]at hj;exact c.new j i b hj hb'⟩
end
theorem Hg{α:Type}[Rep α]{H:View}{v:Value}{l:List α}(s:SlRd H v l) : ∃a n c,v = .slice a n c:=let ⟨a,c,e,_⟩:=s;⟨a,_,c,e⟩
theorem LB{v0 v1 v2:Value}{m:bz}{takes inner:List Int}{h:Heap}{W:View}(hW:W.le (vw h))(h0:Rd W v0 m)(h1:SlRd W v1 takes)(h2:SlRd W v2 inner) :
  ay UQ 190 #[v0,v1,v2] h (λu h'=>(vw h).le (vw h')/\∃b,u = .tuple #[.agg #[v1,v2,UM (UK ⟨b,0,UL⟩) 1 1,UH UI 0,UH UI 0,UH UI 0,UM UL 0 0,UH UJ 0],.bool UO]/\OwnT W h' T.cT (UM (UK ⟨b,0,UL⟩) 1 1) [m]/\h.size<=b):=by
 refine aq (args:=[v0,v1,v2]) follows Tryz.func190 E.pC UC λK hK=>?_;dsimp only[L.pC,lkF,lkG];have c0:=Cx.start hW;refine aa λz hz=>?_;simp;refine c0.JY (k:=(0,1)) rfl rfl h0 U3 λB ha hlea ca=>?_;refine ca.de (k:=(0,0)) (n:=7) (z:=.agg fitZ.toArray) U4 U0 rfl U3 U8 λR hb hleb cb=>?_;subst hz;obtain⟨um,hum,hmr⟩:=cb.NA (k:=(0,1)) (e:=T.cT) (B:=B) (d:=m) rfl rfl (N:=8) rfl;refine aa λz hz=>?_;simp[hum];refine Hf (α:=bz) (W:=W) (v:=um) El.ko U2 hmr U3 λhc hlec own=>?_;have cc:=cb.add (k:=(0,2)) U4 own hlec λb hb=>by simp only[Value.ownBlock,Q2]at hb;omega
 obtain⟨a1,n1,k1,rfl⟩:=Hg h1;obtain⟨a2,n2,k2,rfl⟩:=Hg h2;refine aA (z:=.agg fitZ.toArray) (places:=zpc) (vs:=[(0,.slice a1 n1 k1),(1,.slice a2 n2 k2),(2,UM (UK ⟨hb.size,0,UL⟩) 1 1)]) (cs:=#[.slice a1 n1 k1,.slice a2 n2 k2,UM (UK ⟨hb.size,0,UL⟩) 1 1,UH UI 0,UH UI 0,UH UI 0,UM UL 0 0,UH UJ 0]) U0 U0 U2 U0 ?_;refine cc.tI (k:=(0,0)) (n:=7) (l':=[.slice a1 n1 k1,.slice a2 n2 k2,UM (UK ⟨hb.size,0,UL⟩) 1 1,UH UI 0,UH UI 0,UH UI 0,UM UL 0 0,UH UJ 0]) U4 U0 U2 U2 rfl U7 λhd cd=>?_;subst hz;have hall:=cd.all (k:=(0,0)) (n:=7) (l:=[.slice a1 n1 k1,.slice a2 n2 k2,UM (UK ⟨hb.size,0,UL⟩) 1 1,UH UI 0,UH UI 0,UH UI 0,UM UL 0 0,UH UJ 0]) (B:=R) (e:=T.bf) U4;simp at hall;simp[hall];refine hK _ _ ⟨cd.le0,_,rfl,cd.own.get (k:=(0,2)) U4,?_⟩;have q1:=bO hlea;have q2:=bO hleb;omega
section
variable{V:View}{h:Heap}{S I O P Q LL TT:Nat}{s:cC}{op plain sum:Int}
set_option maxHeartbeats 4000000 in
theorem LU(mx:Mx V S I O P Q LL TT s op plain sum)(hV:V.le (vw h))(hok:mJ s)(hop:s.i.op=op)(ho:op=15\/op=16)(hp0:0<=sum/\sum<=100)(ht:-9223372036854775808<=s.temp/\s.temp<=9223372036854775807):
    ay UQ 230 #[ptr S,ptr I,ptr TT,ptr LL,ptr Q] h (λu h'=>cg V h h' u (memS s.f s.i s.temp op plain sum 3)):=by
  refine aq (args:=[ptr S,ptr I,ptr TT,ptr LL,ptr Q]) follows Tryz.func230 E.dI UC λK hK=>?_
  dsimp only[L.dI,lkF,lkG]
  have c0:=Cx.start hV
  have l1:1<=s.i.args.length:=by
    rcases ho with q | q
    · exact hok.one.one (hop.trans q)
    · have:=hok.one.two (.inr (.inl (hop.trans q)));omega
  have l2:op=15\/2<=s.i.args.length:=ho.imp id λq=>hok.one.two (.inr (.inl (hop.trans q)))
  refine aa λz hz=>?_
  simp
  refine c0.de (k:=(0,0)) (n:=7) (z:=.agg fitZ.toArray) rfl U0 rfl U3 U8 λR hb hleb cb=>?_
  subst hz
  have i4:=(mx.ct.ins.part InsD.jD)
  have r4:=i4.nY
  have i4:an V ⟨I,4,UL⟩=UK (UH UJ s.i.imm.v):=by simpa using i4.i32
  obtain⟨va,i3,hva⟩:=(mx.ct.ins.part InsD.eX).sl
  have i3:an V ⟨I,3,UL⟩=UK va:=by simpa using i3
  have s12:an V ⟨S,12,UL⟩=UK (UH UI s.temp):=by simpa using(mx.ct.site.part cC.FD).int
  have a0:=hva.rng (i:=0) U1
  have most:=hok.one.most
  have q0:=hva.idx1 (k:=.i64) (i:=0) rfl U3 U1
  have d0:=hva.int (View.le_refl V) (i:=0) U1
  simp at q0
  have eL:=mx.laid
  have eT:=mx.with_
  have eQ:=mx.sum
  have hm : ∀X,Rd X (.agg #[UH UI 4,UH UI s.temp,UH UI 0,UH UI 0,UH UI 0,UH UI 0,UH UJ s.i.imm.v,UM UL 0 0]) (⟨4,s.temp,0,0,0,0,s.i.imm,[]⟩:bz):=λX=>jV U9 r4 aS
  have hm2 : ∀X,Rd X (.agg #[UH UI sum,UH UI 0,UH UI 0,UH UI (nth s.i.args 0),UH UI s.temp,UH UI 0,UH UJ 0,UM UL 0 0]) (⟨sum,0,0,nth s.i.args 0,s.temp,0,⟨0⟩,[]⟩:bz):=λX=>jV (imm:=⟨0⟩) U9 U2 aS
  have fin : ∀(W:View) (hx:Heap) (o:Own) (l9:List Value),Cx V h W hx o->Rd W (.agg l9.toArray) (⟨nth s.i.args 0::s.i.args.drop 1,[],[⟨4,s.temp,0,0,0,0,s.i.imm,[]⟩,jI s.i op plain ⟨sum,0,0,nth s.i.args 0,s.temp,0,⟨0⟩,[]⟩],dc⟩:FitD)->K (.tuple #[.agg l9.toArray,.bool UO]) hx:=λW hx o l9 c hr=>
    hK _ _ (cg.of c hr rfl λy e=>by simp only[memS]at e;cases e;rfl)
  clear hK
  refine aa λz hz=>?_
  refine aK V cb.wle ?_
  have c:=cb
  have hWV:V.le V:=View.le_refl _
  repeat' (first
    | refine jg ?_ ?_
    | (refine dh λy hy=>?_
       simp[i3,i4,s12,q0,d0,eL,eT,eQ]
       first
       | refine aA (t:=T.cT) (z:=.agg xo.toArray) (places:=zpb) (vs:=[(0,UH UI 4),(1,UH UI s.temp),(6,UH UJ s.i.imm.v)]) (cs:=#[UH UI 4,UH UI s.temp,UH UI 0,UH UI 0,UH UI 0,UH UI 0,UH UJ s.i.imm.v,UM UL 0 0]) U0 U0 U2 U0 ?_
       | (refine c.yg (k:=(0,2)) (n:=1) (l:=[nth s.i.args 0]) U4 El.aY ?_ ?_ rfl U3 λuA h hle c=>?_
          · simp;done
          · simp;omega)
       | refine c.de (k:=(0,1)) (n:=7) (z:=.agg fitZ.toArray) U4 U0 rfl U3 U8 λR2 h hle c=>?_
       | (refine bZ (ops:=[.tmp 20]) (caps:=#[ptr I]) rfl U0 (ym mx UD c.wle (c.own.get (k:=(0,2)) (v:=uA) (l:=[nth s.i.args 0]) U4) U2 l1 U1) ?_
          rintro uw h ⟨own2,mv⟩
          have c:=c.gA (k:=(0,2)) (v:=uA) (l:=[nth s.i.args 0]) U4 own2 mv
          obtain⟨W,hW,c,huA⟩:=c.freeze (k:=(0,2)) (v:=uw) (l:=[nth s.i.args 0]++s.i.args.drop 1) U4)
       | (refine ah U0 (LB c.wle (hm _) (huA.mono UD) aS) ?_
          rintro _ h ⟨hle,b3,rfl,own3,hb3⟩
          have c:=c.add (k:=(0,3)) U4 own3 hle λb hb=>by simp only[Value.ownBlock,Q2]at hb;omega)
       | (obtain⟨a5,n5,k5,rfl⟩:=Hg huA
          refine c.tI (k:=(0,1)) (n:=7) (l:=fitZ) (l':=[.slice a5 n5 k5,UM UL 0 0,UM (UK ⟨b3,0,UL⟩) 1 1,UH UI 0,UH UI 0,UH UI 0,UM UL 0 0,UH UJ 0]) U4 U0 rfl rfl rfl U7 λh c=>?_)
       try refine⟨UF UD c.wle,?_⟩
       subst hy))
  all_goals
    simp
    rw[hz]
    refine aa λx hx=>?_
    have hcode:=c.own.raw (k:=(0,1)) (e:=T.bf) (B:=R2) (n:=7) (l:=[.slice a5 n5 k5,UM UL 0 0,UM (UK ⟨b3,0,UL⟩) 1 1,UH UI 0,UH UI 0,UH UI 0,UM UL 0 0,UH UJ 0]) U4 (i:=2) U3
    simp only[List.getD_cons_succ,List.getD_cons_zero]at hcode
    have hVh:=UF (show V.le _ from UD) c.wle
    refine aK (vw h) UE ?_
    refine dh λy hy=>?_
    simp[hcode,ae hVh i3,ae hVh s12,q0,ae hVh d0,ae hVh eL,ae hVh eQ]
    refine aA (t:=T.cT) (z:=.agg xo.toArray) (places:=zpb) (vs:=[(0,UH UI sum),(3,UH UI (nth s.i.args 0)),(4,UH UI s.temp)]) (cs:=#[UH UI sum,UH UI 0,UH UI 0,UH UI (nth s.i.args 0),UH UI s.temp,UH UI 0,UH UJ 0,UM UL 0 0]) U0 U0 U2 U0 ?_
    refine⟨View.le_refl _,?_⟩
    subst hy
    refine dh λy hy=>?_
    simp
    refine bZ (ops:=[.tmp 35]) (caps:=#[ptr O,ptr I,ptr P]) rfl U0 (yj mx UD c.wle (hm2 _) l2) ?_
    rintro um h7 ⟨hle7,hum⟩
    have hW7:=c.up (h':=h7)
    have c7:=c.ext hle7
    refine⟨hle7,?_⟩
    subst hy
    refine dh λy hy=>?_
    simp
    refine c7.mF (α:=bz) (n:=1) (vs:=[um]) (ds:=[jI s.i op plain ⟨sum,0,0,nth s.i.args 0,s.temp,0,⟨0⟩,[]⟩]) El.ko U2 ⟨hum,trivial⟩ rfl U3 U3 λu8 h8 W8 hW8 c8 s8 hle8=>?_
    refine⟨UF hle7 hle8,?_⟩
    subst hy
    refine dh λy hy=>?_
    simp
    refine dA (α:=bz) (v:=UM (UK ⟨b3,0,UL⟩) 1 1) (u:=u8) (l:=[(⟨4,s.temp,0,0,0,0,s.i.imm,[]⟩:bz)]) (l2:=[jI s.i op plain ⟨sum,0,0,nth s.i.args 0,s.temp,0,⟨0⟩,[]⟩]) El.ko U2 U2 (c8.own.get (k:=(0,3)) U4) (s8.src c8.wle) U2 U2 λv9 h9 o9 mv9=>?_
    have c9:=c8.gA (k:=(0,3)) U4 o9 mv9
    obtain⟨W9,hW9,c10,s10⟩:=c9.freeze (k:=(0,3)) (v:=v9) U4
    obtain⟨a9,n9,k9,rfl⟩:=Hg s10
    subst hy
    refine dh λy hy=>?_
    simp
    refine c10.dW (k:=(0,1)) (n:=7) (i:=2) (u:=.slice a9 n9 k9) (e:=T.bf) (B:=R2) (l:=[.slice a5 n5 k5,UM UL 0 0,UM (UK ⟨b3,0,UL⟩) 1 1,UH UI 0,UH UI 0,UH UI 0,UM UL 0 0,UH UJ 0]) U4 U3 U0 U2 U2 rfl λh11 c11=>?_
    subst hy
    simp
    subst hx
    have hall:=c11.all (k:=(0,1)) (n:=7) (B:=R2) (e:=T.bf) (l:=[.slice a5 n5 k5,UM UL 0 0,.slice a9 n9 k9,UH UI 0,UH UI 0,UH UI 0,UM UL 0 0,UH UJ 0]) U4
    simp at hall
    refine aa λx hx=>?_
    simp[hall]
    have hfit:Rd W9 (.agg #[.slice a5 n5 k5,UM UL 0 0,.slice a9 n9 k9,UH UI 0,UH UI 0,UH UI 0,UM UL 0 0,UH UJ 0]) (⟨nth s.i.args 0::s.i.args.drop 1,[],[⟨4,s.temp,0,0,0,0,s.i.imm,[]⟩,jI s.i op plain ⟨sum,0,0,nth s.i.args 0,s.temp,0,⟨0⟩,[]⟩],dc⟩:FitD):=
      nv (v1:=.slice a5 n5 k5) (v2:=UM UL 0 0) (v3:=.slice a9 n9 k9) (huA.mono UD) aS s10 (mH U2 U3 aS)
    refine c11.bG (k:=(0,0)) (n:=7) (l:=fitZ) U4 hfit rfl rfl U0 U2 U2 λh12 l12 hl12 c12=>?_
    rw[hx]
    have hall:=c12.all (k:=(0,0)) (n:=7) (l:=l12) (B:=R) (e:=T.bf) U4
    simp at hall
    simp[hall]
    exact fin _ _ _ _ c12 (hl12▸hfit)
end
section
variable{po po2:OP}{V W:View}{h0 h h':Heap}{o:Own}{k:Key}{P:Program}{ty:TypeId}{us:List (Nat × Value)}
theorem Cx.dK{α:Type}[Rep α]{t:TypeId}{z:Value}{d:α}{K:Value->Heap->Prop}(c:Cx V h0 W h o)(hk:o k=UL)(hz:(P.info? t).map (·.zero)=UK (UK z))(hr:Rd W (.agg z.cells) d)(hn:Rep.n α<=1000)
  (hK : ∀B h',(vw h).le (vw h')->Cx V h0 W h' (o.upd k (bx t B d))->K (ptz B) h'):@step po P (.alloc t) ty us h K:=by
 refine _root_.Go.Lft.dK hz ?_;have q1:=bQ h (.cells z.cells t);have b2:(h.push (.cells z.cells t))[h.size]? = UK (.cells z.cells t (0,0)):=by simp
 generalize h.push (.cells z.cells t)=h2 at q1 b2;have hz2:(Value.agg z.cells).cells=z.cells:=rfl;refine hK _ _ q1 ⟨c.own.add hk (iu (v:=.agg z.cells) (by rw[hz2];exact b2) hr hn) q1 λb hb=>by simp only[Value.ownBlock,Q2]at hb;omega,c.old,UF c.le0 q1,λj i b hj hb=>?_⟩;by_cases e:j=k
 ·subst e;rw[Own.ao]at hj;cases hj;cases hb;exact bO c.le0
 rw[Own.aB e]at hj;exact c.new j i b hj hb
theorem Own.fm{a b:Option Item}:(o.upd k a).upd k b=o.upd k b:=by funext q;unfold Own.upd;split<;>rfl
theorem Own.vy{a:Option Item}(hk:o k=UL):(o.upd k a).upd k UL=o:=by
 funext q;unfold Own.upd;split
 ·rename_i e;subst e;exact hk.symm
 rfl
theorem Cx.jT{α:Type}[Rep α]{e:TypeId}{B:Nat}{d:α}(c:Cx V h0 W h o)(hk:o k=bx e B d) : ∃W',W.le W'/\Cx V h0 W' h (o.upd k UL)/\At W' ⟨B,0,UL⟩ d:=by obtain⟨W',h1,h2,h3⟩:=c.freeze (v:=UM (UK ⟨B,0,UL⟩) 1 1) (l:=[d]) hk;refine⟨W',h1,h2,?_⟩;have:=h3.at (i:=0) U2;simpa[slA,Addr.z]using this
end
abbrev insZ:List Value:=[UH UI 0,UH UI 0,UH UI 0,UM UL 0 0,UH UJ 0]
section
variable{V:View}{h:Heap}{S I O P Q LL TT:Nat}{s:cC}{op plain sum:Int}
set_option maxHeartbeats 4000000 in
theorem LA(mx:Mx V S I O P Q LL TT s op plain sum)(hV:V.le (vw h))(hok:mJ s)(hop:s.i.op=op)(ho:op=15\/op=16)(hp0:0<=sum/\sum<=100) :
    ay UQ 229 #[ptr S,ptr I,ptr LL,ptr Q,ptr TT] h (λu h'=>cg V h h' u (memS s.f s.i s.temp op plain sum 2)):=by
  refine aq (args:=[ptr S,ptr I,ptr LL,ptr Q,ptr TT]) follows Tryz.func229 E.dM UC λK hK=>?_
  dsimp only[L.dM,lkF,lkG]
  have c0:=Cx.start hV
  have l1:1<=s.i.args.length:=by
    rcases ho with q | q
    · exact hok.one.one (hop.trans q)
    · have:=hok.one.two (.inr (.inl (hop.trans q)));omega
  have l2:op=15\/2<=s.i.args.length:=ho.imp id λq=>hok.one.two (.inr (.inl (hop.trans q)))
  refine aa λz hz=>?_
  simp
  refine c0.de (k:=(0,0)) (n:=7) (z:=.agg fitZ.toArray) rfl U0 rfl U3 U8 λR hb hleb cb=>?_
  subst hz
  have i4:=(mx.ct.ins.part InsD.jD)
  have r4:=i4.nY
  have i4:an V ⟨I,4,UL⟩=UK (UH UJ s.i.imm.v):=by simpa using i4.i32
  obtain⟨va,i3,hva⟩:=(mx.ct.ins.part InsD.eX).sl
  have i3:an V ⟨I,3,UL⟩=UK va:=by simpa using i3
  have a0:=hva.rng (i:=0) U1
  have most:=hok.one.most
  have q0:=hva.idx1 (k:=.i64) (i:=0) rfl U3 U1
  have d0:=hva.int (View.le_refl V) (i:=0) U1
  simp at q0
  obtain⟨us,hus,rus⟩:=mx.ct.site.ldN rfl (N:=13) rfl
  have hus:=hus V UE
  have hfm:=ff (f:=s.f) (v:=nth s.i.args 0) (op:=2)
  have hdo:memS s.f s.i s.temp op plain sum 2=if(aJ s.f (nth s.i.args 0) 2).2&&decide (s.i.imm.v=0) then
      UK ⟨nth (aJ s.f (nth s.i.args 0) 2).1.args 0::nth (aJ s.f (nth s.i.args 0) 2).1.args 1::s.i.args.drop 1,[nth s.i.args 0],
        [jI s.i op plain ⟨sum,0,0,nth (aJ s.f (nth s.i.args 0) 2).1.args 0,nth (aJ s.f (nth s.i.args 0) 2).1.args 1,0,⟨0⟩,[]⟩],dc⟩
    else none:=rfl
  have hF:=@oU s us (nth s.i.args 0) 2
  generalize (aJ s.f (nth s.i.args 0) 2).1=m at *
  generalize (aJ s.f (nth s.i.args 0) 2).2=b at *
  refine aa λz hz=>?_
  have rest : ∀(W:View) (hx:Heap) (B2:Nat) (ρ:Env),V.le W->Cx V h W hx (Own.upd (λ_=>UL) (0,0) (bx T.bf R (RawN.mk (n:=7) fitZ)))->At W ⟨B2,0,UL⟩ m->
      Lft.look ρ 0=UK (ptr S)->Lft.look ρ 1=UK (ptr I)->Lft.look ρ 2=UK (ptr LL)->Lft.look ρ 3=UK (ptr Q)->Lft.look ρ 4=UK (ptr TT)->Lft.look ρ 5=UK (ptr R)->Lft.look ρ 7=UK (ptr B2)->Lft.look ρ 8=UK (.bool b)->
      LC.wp UQ z (dY [.un (.bM 8) (.tmp 5),.tmp 6] K) ρ hx:=by
    intro W hx B2 ρ hVW c hat g0 g1 g2 g3 g4 g5 g7 g8
    rw[hz]
    refine aa λx hx'=>?_
    have none_ : ∀(hy:Heap) (o:Own) (l9:List Value),Cx V h W hy o->Rd W (.agg l9.toArray) I8->(b&&decide (s.i.imm.v=0))=UP->K (.tuple #[.agg l9.toArray,.bool UP]) hy:=λhy o l9 c hr e=>
      hK _ _ (cg.of c hr (by rw[hdo,e];rfl) λy e2=>by rw[hdo,e]at e2;cases e2)
    cases b with
    | false=>
      simp[g8,af,ag,g5]
      refine aA (t:=T.bf) (z:=.agg fitZ.toArray) (places:=zpc) (vs:=[]) (cs:=fitZ.toArray) U0 U0 U2 U0 ?_
      refine c.bG (k:=(0,0)) (n:=7) (l:=fitZ) U4 gq rfl rfl U0 U2 U2 λh9 l9 hl9 c9=>?_
      have hall:=c9.all (k:=(0,0)) (n:=7) (l:=l9) (B:=R) (e:=T.bf) U4
      simp at hall
      simp[hall]
      exact none_ _ _ _ c9 (hl9▸gq) rfl
    | true=>
      by_cases e0:s.i.imm.v=0
      · obtain⟨m1,m2,-⟩:=hfm rfl
        have hma:=(hok.all _ m1).two U1
        obtain⟨vb,j3,hvb⟩:=(hat.part InsD.eX).sl
        have j3:an W ⟨B2,3,UL⟩=UK vb:=by simpa using j3
        have b0:=hvb.rng (i:=0) U1
        have b1:=hvb.rng (i:=1) U1
        have q2:=hvb.idx1 (k:=.i64) (i:=0) rfl U3 U1
        have q3:=hvb.idx1 (k:=.i64) (i:=1) rfl U3 U1
        have d2:=hvb.int (View.le_refl W) (i:=0) U1
        have d3:=hvb.int (View.le_refl W) (i:=1) U1
        simp at q2 q3
        have i4':=ae hVW i4
        have i3:=ae hVW i3
        have d0:=ae hVW d0
        have eL:=ae hVW mx.laid
        have eT:=ae hVW mx.with_
        have eQ:=ae hVW mx.sum
        have mx:=mx.mono hVW
        simp[g0,g1,g2,g3,g4,g5,g7,g8,af,ag,ae c.wle i4',e0]
        rw[hx'];clear hx'
        have hm : ∀X,Rd X (.agg #[UH UI sum,UH UI 0,UH UI 0,UH UI (nth m.args 0),UH UI (nth m.args 1),UH UI 0,UH UJ 0,UM UL 0 0]) (⟨sum,0,0,nth m.args 0,nth m.args 1,0,⟨0⟩,[]⟩:bz):=λX=>jV (imm:=⟨0⟩) U9 U2 aS
        have fin : ∀(W:View) (hx:Heap) (o:Own) (l9:List Value),Cx V h W hx o->Rd W (.agg l9.toArray) (⟨nth m.args 0::nth m.args 1::s.i.args.drop 1,[nth s.i.args 0],[jI s.i op plain ⟨sum,0,0,nth m.args 0,nth m.args 1,0,⟨0⟩,[]⟩],dc⟩:FitD)->K (.tuple #[.agg l9.toArray,.bool UO]) hx:=λW hx o l9 c hr=>
          hK _ _ (cg.of c hr (by rw[hdo];simp[e0]) λy e=>by rw[hdo,e0]at e;cases e;rfl)
        clear none_ hK
        refine aa λx hx'=>?_
        refine aK W c.wle ?_
        have hWV:W.le W:=View.le_refl _
        repeat' (first
          | refine jg ?_ ?_
          | (refine dh λy hy=>?_
             simp[g0,g1,g2,g3,g4,g5,g7,g8,af,ag,i3,j3,q0,q2,q3,d0,d2,d3,eL,eT,eQ]
             first
             | refine aA (t:=T.cT) (z:=.agg xo.toArray) (places:=zpb) (vs:=[(0,UH UI sum),(3,UH UI (nth m.args 0)),(4,UH UI (nth m.args 1))]) (cs:=#[UH UI sum,UH UI 0,UH UI 0,UH UI (nth m.args 0),UH UI (nth m.args 1),UH UI 0,UH UJ 0,UM UL 0 0]) U0 U0 U2 U0 ?_
             | (refine c.yg (k:=(0,2)) (n:=2) (l:=[nth m.args 0,nth m.args 1]) U4 El.aY ?_ ?_ rfl U3 λuA h hle c=>?_
                · simp;done
                · simp;omega)
             | (refine c.mF (α:=Int) (n:=1) (vs:=[UH UI (nth s.i.args 0)]) (ds:=[nth s.i.args 0]) El.aY ?_ ⟨bw.2 ⟨rfl,a0⟩,trivial⟩ rfl U3 U3 λuB h W hW c huB hle=>?_
                · simp;done)
             | (refine bZ (ops:=[.tmp 36]) (caps:=#[ptr O,ptr I,ptr P]) rfl U0 (yj mx UD c.wle (hm _) l2) ?_
                rintro um h ⟨hle,hum⟩
                have hW:=c.up (h':=h)
                have c:=c.ext hle)
             | (refine bZ (ops:=[.tmp 47]) (caps:=#[ptr I]) rfl U0 (ym mx UD c.wle (c.own.get (k:=(0,2)) (v:=uA) (l:=[nth m.args 0,nth m.args 1]) U4) U2 l1 U1) ?_
                rintro uw h ⟨own2,mv⟩
                have c:=c.gA (k:=(0,2)) (v:=uA) (l:=[nth m.args 0,nth m.args 1]) U4 own2 mv
                obtain⟨W,hW,c,huA⟩:=c.freeze (k:=(0,2)) (v:=uw) (l:=[nth m.args 0,nth m.args 1]++s.i.args.drop 1) U4)
             | (refine ah U0 (lL c.wle (hum.mono UD) (huA.mono UD) (huB.mono UD)) ?_
                rintro _ h ⟨hle,vf,rfl,hvf⟩
                have hW:=c.up (h':=h)
                have c:=c.ext hle)
             | refine c.bG (k:=(0,0)) (n:=7) (l:=fitZ) U4 hvf rfl rfl U0 U2 U2 λh l9 hl9 c=>?_
             try refine⟨UF UD c.wle,?_⟩
             subst hy))
        all_goals
          simp[g0,g1,g2,g3,g4,g5,g7,g8,af,ag]
          rw[hx']
          have hall:=c.all (k:=(0,0)) (n:=7) (l:=l9) (B:=R) (e:=T.bf) U4
          simp at hall
          simp[g0,g1,g2,g3,g4,g5,g7,g8,af,ag,hall]
          exact fin _ _ _ _ c (hl9▸hvf)
      · simp[g0,g1,g2,g3,g4,g5,g7,g8,af,ag,ae c.wle (ae hVW i4),e0]
        refine aA (t:=T.bf) (z:=.agg fitZ.toArray) (places:=zpc) (vs:=[]) (cs:=fitZ.toArray) U0 U0 U2 U0 ?_
        refine c.bG (k:=(0,0)) (n:=7) (l:=fitZ) U4 gq rfl rfl U0 U2 U2 λh9 l9 hl9 c9=>?_
        have hall:=c9.all (k:=(0,0)) (n:=7) (l:=l9) (B:=R) (e:=T.bf) U4
        simp at hall
        simp[hall]
        exact none_ _ _ _ c9 (hl9▸gq) (by simp[e0])
  refine aK V cb.wle ?_
  have c:=cb
  refine jg ?_ ?_
  · refine dh λy hy=>?_
    simp[hus,i3,q0,d0]
    refine ah U0 (hF c.wle rus hok.sm a0) ?_
    rintro _ h1 ⟨hle1,vm,rfl,hvm⟩
    have hW1:=c.up (h':=h1)
    have c:=c.ext hle1
    subst hy
    refine dh λy hy=>?_
    simp
    refine c.dK (k:=(0,4)) (z:=.agg insZ.toArray) (d:=ix) U4 U0 nz U3 λB2 h2 hle2 c=>?_
    subst hy
    refine dh λy hy=>?_
    simp
    refine c.db Part.all (k:=(0,4)) (D:=ix) (d:=m) U4 U0 U2 U2 hvm λh3 c=>?_
    subst hy
    simp
    obtain⟨W4,hW4,c,hat⟩:=c.jT (k:=(0,4)) (B:=B2) (d:=m) U4
    rw[Own.fm,Own.vy U4]at c
    exact rest _ _ _ _ (UF hW1 hW4) c hat rfl rfl rfl rfl rfl rfl rfl rfl
  · refine dh λy hy=>?_
    simp[hus,i3,q0,d0]
    refine c.dK (k:=(0,4)) (z:=.agg insZ.toArray) (d:=ix) U4 U0 nz U3 λB2 h2 hle2 c=>?_
    refine⟨c.wle,?_⟩
    subst hy
    refine dh λy hy=>?_
    simp
    refine ah U0 (hF c.wle rus hok.sm a0) ?_
    rintro _ h1 ⟨hle1,vm,rfl,hvm⟩
    have hW1:=c.up (h':=h1)
    have c:=c.ext hle1
    subst hy
    refine dh λy hy=>?_
    simp
    refine c.db Part.all (k:=(0,4)) (D:=ix) (d:=m) U4 U0 U2 U2 hvm λh3 c=>?_
    subst hy
    simp
    obtain⟨W4,hW4,c,hat⟩:=c.jT (k:=(0,4)) (B:=B2) (d:=m) U4
    rw[Own.fm,Own.vy U4]at c
    exact rest _ _ _ _ (UF hW1 hW4) c hat rfl rfl rfl rfl rfl rfl rfl rfl
end
def Gv(subs:List (Array Bool × Reg))(l:Array Bool):Option Reg:=(subs.find? λp=>p.1 == l).map (·.2)
theorem Iv{subs:List (Array Bool × Reg)}{l:Array Bool}{R:Reg}(h:Gv subs l=UK R):(l,R)∈subs:=by
 unfold Gv at h;rw[Q6]at h;obtain⟨p,hp,rfl⟩:=h;have h1:=Uw hp;have h2:=SZ hp;have:p.1=l:=by simpa using h1
 subst this;exact h2
def NL(P:Program)(N:Nat)(ops:Array Oper)(live:List Nat)(l0:Option Nat)(listed:Array Bool)(subs:List (Array Bool × Reg)):Option Reg:=
 match qB P ops l0 ops.size listed with
 | none=>UL
 | some (qs,l1)=>match rdy ops l1 with
  | []=>C5 P N ops live (nH ops qs)
  | rs=>jK (λi=>match ops[i]? with
   | none=>UL
   | some o=>match Gv subs (l1.setIfInBounds i UO)with
    | some next=>wV P N ops live (nH ops qs) o (zc ops (l1.setIfInBounds i UO)) (l0 == UK i) next
    | none=>UL) rs
theorem tE{f g:Nat->Option Reg}(h : ∀i X,f i=UK X->g i=UK X) : ∀{rs:List Nat} {R:Reg},jK f rs=UK R->jK g rs=UK R
 | [],_,e=>by cases e
 | [i],_,e=>h i _ e
 | i::j::rs,R,e=>by
  unfold jK at e ⊢;cases h1:f i with
  | none=>rw[h1]at e;cases e
  | some x=>
   cases h2:jK f (j::rs)with
   | none=>rw[h1,h2]at e;cases e
   | some y=>rw[h1,h2]at e;rw[h i x h1,tE h h2];exact e
theorem bX{P:Program}{N:Nat}{ops:Array Oper}{live:List Nat}{l0:Option Nat}{listed:Array Bool}{subs:List (Array Bool × Reg)}{R:Reg}{f:Nat}(h:NL P N ops live l0 listed subs=UK R)(hs : ∀p∈subs,regD P N ops live l0 f p.1=UK p.2):regD P N ops live l0 (f+1) listed=UK R:=by
 unfold NL at h;unfold regD;split at h
 ·cases h
 rename_i qs l1 hq;rw[hq];simp only;split at h
 ·rename_i hr;rw[hr];exact h
 rename_i hne;split
 ·rename_i hr;exact absurd hr hne
 refine tE (λi X e=>?_) h;cases ho:ops[i]? with
 | none=>rw[ho]at e;cases e
 | some o=>
  rw[ho]at e;simp only at e ⊢;cases hb:Gv subs (l1.setIfInBounds i UO)with
  | none=>rw[hb]at e;cases e
  | some next=>rw[hb]at e;rw[hs _ (Iv hb)];exact e
def seqL:Code->Code | .seq x _=>x | x=>x
def seqR:Code->Code | .seq _ y=>y | x=>x
def NS:Code->Bool | .seq _ _=>UO | _=>UP
def opsR:Code->Array Oper | .region _ ops _=>ops | _=>#[]
def G6:Code->Bool | .region _ ops d=>d&&ops.all λo=>eA o.op | _=>UP
theorem lN{P:Program}{N:Nat}{lv lr:List Nat}{b:Bool}{c:Code}{x y:LC}(hc:NS c=UO)(h1:eG P N lv lr b (seqL c)=UK x)(h2:eG P N lv lr b (seqR c)=UK y):eG P N lv lr b c=UK (.seq x y):=by cases c<;>simp[NS]at hc;simp only[seqL,seqR]at h1 h2;simp only[eG,h1,h2]
theorem Cc{P:Program}{N:Nat}{lv lr:List Nat}{b:Bool}{c:Code}{R:Reg}{l0:Option Nat}{n:Nat}(hc:G6 c=UO)(h0:C8 P (opsR c)=l0)(hn:(opsR c).size=n)(h:regD P N (opsR c) lv l0 (n+1) (Array.replicate n UP)=UK R):eG P N lv lr b c=UK (.reg UO R):=by subst h0;subst hn;cases c<;>simp[G6]at hc;simp only[opsR]at h;simp only[eG];rw[if_pos hc.1,if_pos (by simpa using hc.2),h];rfl
def xm(fn:Func):Code:=fn.body.getD .skip
theorem MJ{P:Program}{fn:Func}{res:List E}{x:LC}{lv lr:List Nat}{n:Nat}(hb:fn.body.isSome=UO)(hr:fn.results.toList.mapM (resE P)=UK res)(h1:lR (xm fn)++xa fn (xm fn)=lv)(h2:xa fn (xm fn)=lr)(hn:fn.ntmps=n)(h:eG P n lv lr UP (xm fn)=UK x):aN P fn=UK ⟨res,x⟩:=by
 subst h1;subst h2;subst hn;unfold xm at h;unfold aN;cases hb':fn.body with
 | none=>rw[hb']at hb;cases hb
 | some c=>rw[hb']at h;simp only[Ur]at h;simp only[hr,h]
section
set_option maxRecDepth 100000
noncomputable def L.ab.q0.ops:Array Oper:=opsR (seqL (seqR (seqR (seqR (seqR (xm Tryz.f228))))))
def L.ab.q0.r0:Reg:=(.fin [11] [] [(.tmp 65)])
def L.ab.q0.r1:Reg:=by apply(fun{b:Reg}(_:b=s [] [] (w [10,64]) (.store 190 (a 10) (a 64)) L.ab.q0.r0)=>b);simp only[sh];rfl
def L.ab.q0.r2:Reg:=by apply(fun{b:Reg}(_:b=l [33,64,65] [(64,.un (.ext 0) (t 63)),(65,.un (.ext 1) (t 63))] [] (.alloc 190) 0 10 L.ab.q0.r1)=>b);simp only[sh];rfl
def L.ab.q0.r3:Reg:=by apply(fun{b:Reg}(_:b=s [33,64,65] [(65,.un (.ext 1) (t 63))] [(10,t 10),(64,.un (.ext 0) (t 63))] (.store 190 (a 10) (a 64)) L.ab.q0.r0)=>b);simp only[sh];rfl
def L.ab.q0.r4:Reg:=by apply(fun{b:Reg}(_:b=.loud [] [] (w [46,53,62]) UL [] UO (x 190 [46,53,62] [59,22,22]) 191 (UK 63) UO L.ab.q0.r3)=>b);simp only[sh];rfl
def L.ab.q0.r5:Reg:=by apply(fun{b:Reg}(_:b=.both (.loud [] [] (w [46,53,62]) UL [] UO (x 190 [46,53,62] [59,22,22]) 191 (UK 63) UO L.ab.q0.r2) (p [] (.alloc 190) 0 10 L.ab.q0.r4))=>b);simp only[sh];rfl
def L.ab.q0.r6:Reg:=by apply(fun{b:Reg}(_:b=p (w [57,61]) (.buildSlice 22 2 #[(0,a 57),(1,a 61)]) 22 62 L.ab.q0.r4)=>b);simp only[sh];rfl
def L.ab.q0.r7:Reg:=by apply(fun{b:Reg}(_:b=.both (p (w [57,61]) (.buildSlice 22 2 #[(0,a 57),(1,a 61)]) 22 62 L.ab.q0.r5) (p [] (.alloc 190) 0 10 L.ab.q0.r6))=>b);simp only[sh];rfl
def L.ab.q0.r8:Reg:=by apply(fun{b:Reg}(_:b=p (w [47,52]) (.call ⟨.value (a 47),#[a 52],#[22]⟩) 22 53 L.ab.q0.r4)=>b);simp only[sh];rfl
def L.ab.q0.r9:Reg:=by apply(fun{b:Reg}(_:b=.both (p (w [47,52]) (.call ⟨.value (a 47),#[a 52],#[22]⟩) 22 53 L.ab.q0.r5) (p [] (.alloc 190) 0 10 L.ab.q0.r8))=>b);simp only[sh];rfl
def L.ab.q0.r10:Reg:=by apply(fun{b:Reg}(_:b=.both (p (w [47,52]) (.call ⟨.value (a 47),#[a 52],#[22]⟩) 22 53 L.ab.q0.r6) (p (w [57,61]) (.buildSlice 22 2 #[(0,a 57),(1,a 61)]) 22 62 L.ab.q0.r8))=>b);simp only[sh];rfl
def L.ab.q0.r11:Reg:=by apply(fun{b:Reg}(_:b=.both (p (w [47,52]) (.call ⟨.value (a 47),#[a 52],#[22]⟩) 22 53 L.ab.q0.r7) (.both (p (w [57,61]) (.buildSlice 22 2 #[(0,a 57),(1,a 61)]) 22 62 L.ab.q0.r9) (p [] (.alloc 190) 0 10 L.ab.q0.r10)))=>b);simp only[sh];rfl
def L.ab.q0.r12:Reg:=by apply(fun{b:Reg}(_:b=p (w [51]) (.buildSlice 22 1 #[(0,a 51)]) 22 52 L.ab.q0.r8)=>b);simp only[sh];rfl
def L.ab.q0.r13:Reg:=by apply(fun{b:Reg}(_:b=.both (p (w [51]) (.buildSlice 22 1 #[(0,a 51)]) 22 52 L.ab.q0.r9) (p [] (.alloc 190) 0 10 L.ab.q0.r12))=>b);simp only[sh];rfl
def L.ab.q0.r14:Reg:=by apply(fun{b:Reg}(_:b=.both (p (w [51]) (.buildSlice 22 1 #[(0,a 51)]) 22 52 L.ab.q0.r10) (p (w [57,61]) (.buildSlice 22 2 #[(0,a 57),(1,a 61)]) 22 62 L.ab.q0.r12))=>b);simp only[sh];rfl
def L.ab.q0.r15:Reg:=by apply(fun{b:Reg}(_:b=.both (p (w [51]) (.buildSlice 22 1 #[(0,a 51)]) 22 52 L.ab.q0.r11) (.both (p (w [57,61]) (.buildSlice 22 2 #[(0,a 57),(1,a 61)]) 22 62 L.ab.q0.r13) (p [] (.alloc 190) 0 10 L.ab.q0.r14)))=>b);simp only[sh];rfl
def L.ab.q0.r16:Reg:=by apply(fun{b:Reg}(_:b=p (w [34,45]) (.call ⟨.value (a 34),#[a 45],#[59]⟩) 59 46 L.ab.q0.r8)=>b);simp only[sh];rfl
def L.ab.q0.r17:Reg:=by apply(fun{b:Reg}(_:b=.both (p (w [34,45]) (.call ⟨.value (a 34),#[a 45],#[59]⟩) 59 46 L.ab.q0.r9) (p [] (.alloc 190) 0 10 L.ab.q0.r16))=>b);simp only[sh];rfl
def L.ab.q0.r18:Reg:=by apply(fun{b:Reg}(_:b=.both (p (w [34,45]) (.call ⟨.value (a 34),#[a 45],#[59]⟩) 59 46 L.ab.q0.r10) (p (w [57,61]) (.buildSlice 22 2 #[(0,a 57),(1,a 61)]) 22 62 L.ab.q0.r16))=>b);simp only[sh];rfl
def L.ab.q0.r19:Reg:=by apply(fun{b:Reg}(_:b=.both (p (w [34,45]) (.call ⟨.value (a 34),#[a 45],#[59]⟩) 59 46 L.ab.q0.r11) (.both (p (w [57,61]) (.buildSlice 22 2 #[(0,a 57),(1,a 61)]) 22 62 L.ab.q0.r17) (p [] (.alloc 190) 0 10 L.ab.q0.r18)))=>b);simp only[sh];rfl
def L.ab.q0.r20:Reg:=by apply(fun{b:Reg}(_:b=.both (p (w [34,45]) (.call ⟨.value (a 34),#[a 45],#[59]⟩) 59 46 L.ab.q0.r12) (p (w [51]) (.buildSlice 22 1 #[(0,a 51)]) 22 52 L.ab.q0.r16))=>b);simp only[sh];rfl
def L.ab.q0.r21:Reg:=by apply(fun{b:Reg}(_:b=.both (p (w [34,45]) (.call ⟨.value (a 34),#[a 45],#[59]⟩) 59 46 L.ab.q0.r13) (.both (p (w [51]) (.buildSlice 22 1 #[(0,a 51)]) 22 52 L.ab.q0.r17) (p [] (.alloc 190) 0 10 L.ab.q0.r20)))=>b);simp only[sh];rfl
def L.ab.q0.r22:Reg:=by apply(fun{b:Reg}(_:b=.both (p (w [34,45]) (.call ⟨.value (a 34),#[a 45],#[59]⟩) 59 46 L.ab.q0.r14) (.both (p (w [51]) (.buildSlice 22 1 #[(0,a 51)]) 22 52 L.ab.q0.r18) (p (w [57,61]) (.buildSlice 22 2 #[(0,a 57),(1,a 61)]) 22 62 L.ab.q0.r20)))=>b);simp only[sh];rfl
def L.ab.q0.r23:Reg:=by apply(fun{b:Reg}(_:b=.both (p (w [34,45]) (.call ⟨.value (a 34),#[a 45],#[59]⟩) 59 46 L.ab.q0.r15) (.both (p (w [51]) (.buildSlice 22 1 #[(0,a 51)]) 22 52 L.ab.q0.r19) (.both (p (w [57,61]) (.buildSlice 22 2 #[(0,a 57),(1,a 61)]) 22 62 L.ab.q0.r21) (p [] (.alloc 190) 0 10 L.ab.q0.r22))))=>b);simp only[sh];rfl
def L.ab.q0.r24:Reg:=by apply(fun{b:Reg}(_:b=p (w [35,39,44]) (.build 59 #[(0,a 35),(3,a 39),(6,a 44)]) 59 45 L.ab.q0.r16)=>b);simp only[sh];rfl
def L.ab.q0.r25:Reg:=by apply(fun{b:Reg}(_:b=.both (p (w [35,39,44]) (.build 59 #[(0,a 35),(3,a 39),(6,a 44)]) 59 45 L.ab.q0.r17) (p [] (.alloc 190) 0 10 L.ab.q0.r24))=>b);simp only[sh];rfl
def L.ab.q0.r26:Reg:=by apply(fun{b:Reg}(_:b=.both (p (w [35,39,44]) (.build 59 #[(0,a 35),(3,a 39),(6,a 44)]) 59 45 L.ab.q0.r18) (p (w [57,61]) (.buildSlice 22 2 #[(0,a 57),(1,a 61)]) 22 62 L.ab.q0.r24))=>b);simp only[sh];rfl
def L.ab.q0.r27:Reg:=by apply(fun{b:Reg}(_:b=.both (p (w [35,39,44]) (.build 59 #[(0,a 35),(3,a 39),(6,a 44)]) 59 45 L.ab.q0.r19) (.both (p (w [57,61]) (.buildSlice 22 2 #[(0,a 57),(1,a 61)]) 22 62 L.ab.q0.r25) (p [] (.alloc 190) 0 10 L.ab.q0.r26)))=>b);simp only[sh];rfl
def L.ab.q0.r28:Reg:=by apply(fun{b:Reg}(_:b=.both (p (w [35,39,44]) (.build 59 #[(0,a 35),(3,a 39),(6,a 44)]) 59 45 L.ab.q0.r20) (p (w [51]) (.buildSlice 22 1 #[(0,a 51)]) 22 52 L.ab.q0.r24))=>b);simp only[sh];rfl
def L.ab.q0.r29:Reg:=by apply(fun{b:Reg}(_:b=.both (p (w [35,39,44]) (.build 59 #[(0,a 35),(3,a 39),(6,a 44)]) 59 45 L.ab.q0.r21) (.both (p (w [51]) (.buildSlice 22 1 #[(0,a 51)]) 22 52 L.ab.q0.r25) (p [] (.alloc 190) 0 10 L.ab.q0.r28)))=>b);simp only[sh];rfl
def L.ab.q0.r30:Reg:=by apply(fun{b:Reg}(_:b=.both (p (w [35,39,44]) (.build 59 #[(0,a 35),(3,a 39),(6,a 44)]) 59 45 L.ab.q0.r22) (.both (p (w [51]) (.buildSlice 22 1 #[(0,a 51)]) 22 52 L.ab.q0.r26) (p (w [57,61]) (.buildSlice 22 2 #[(0,a 57),(1,a 61)]) 22 62 L.ab.q0.r28)))=>b);simp only[sh];rfl
def L.ab.q0.r31:Reg:=by apply(fun{b:Reg}(_:b=.both (l [34,35,36,37,38,39,40,41,42,43,44,47,48,49,50,51,54,55,56,57,58,59,60,61] [(34,d (t 2)),(47,d (t 4)),(51,d (i 1 (g 3 (t 7)) (c 0))),(57,d (i 1 (g 3 (t 1)) (c 0))),(61,d (i 1 (g 3 (t 7)) (c 1)))] [(35,d (t 3)),(39,d (i 1 (g 3 (t 7)) (c 0))),(44,o (.un (.conv .i32) (t 9)) (g 4 (t 1)))] (.build 59 #[(0,a 35),(3,a 39),(6,a 44)]) 59 45 L.ab.q0.r23) (.both (l [34,35,36,37,38,39,40,41,42,43,44,47,48,49,50,51,54,55,56,57,58,59,60,61] [(34,d (t 2)),(35,d (t 3)),(39,d (i 1 (g 3 (t 7)) (c 0))),(44,o (.un (.conv .i32) (t 9)) (g 4 (t 1))),(47,d (t 4)),(57,d (i 1 (g 3 (t 1)) (c 0))),(61,d (i 1 (g 3 (t 7)) (c 1)))] [(51,d (i 1 (g 3 (t 7)) (c 0)))] (.buildSlice 22 1 #[(0,a 51)]) 22 52 L.ab.q0.r27) (.both (l [34,35,36,37,38,39,40,41,42,43,44,47,48,49,50,51,54,55,56,57,58,59,60,61] [(34,d (t 2)),(35,d (t 3)),(39,d (i 1 (g 3 (t 7)) (c 0))),(44,o (.un (.conv .i32) (t 9)) (g 4 (t 1))),(47,d (t 4)),(51,d (i 1 (g 3 (t 7)) (c 0)))] [(57,d (i 1 (g 3 (t 1)) (c 0))),(61,d (i 1 (g 3 (t 7)) (c 1)))] (.buildSlice 22 2 #[(0,a 57),(1,a 61)]) 22 62 L.ab.q0.r29) (l [34,35,36,37,38,39,40,41,42,43,44,47,48,49,50,51,54,55,56,57,58,59,60,61] [(34,d (t 2)),(35,d (t 3)),(39,d (i 1 (g 3 (t 7)) (c 0))),(44,o (.un (.conv .i32) (t 9)) (g 4 (t 1))),(47,d (t 4)),(51,d (i 1 (g 3 (t 7)) (c 0))),(57,d (i 1 (g 3 (t 1)) (c 0))),(61,d (i 1 (g 3 (t 7)) (c 1)))] [] (.alloc 190) 0 10 L.ab.q0.r30))))=>b);simp only[sh];rfl
theorem E.ab.q0r0:regD UQ 76 L.ab.q0.ops [22,5,6,1,0,8,5,7,4,9,3,2,10] (UK 29) 29 (UG 36 34359738367)=UK L.ab.q0.r0:=bX (subs:=[]) U0 (λ_ h=>by cases h)
theorem E.ab.q0r1:regD UQ 76 L.ab.q0.ops [22,5,6,1,0,8,5,7,4,9,3,2,10] (UK 29) 30 (UG 36 17179869183)=UK L.ab.q0.r1:=bX (subs:=[((UG 36 34359738367),L.ab.q0.r0)]) U0 (Q5.2 ⟨E.ab.q0r0,λ_ h=>by cases h⟩)
theorem E.ab.q0r2:regD UQ 76 L.ab.q0.ops [22,5,6,1,0,8,5,7,4,9,3,2,10] (UK 29) 31 (UG 36 1073741823)=UK L.ab.q0.r2:=bX (subs:=[((UG 36 17179869183),L.ab.q0.r1)]) U0 (Q5.2 ⟨E.ab.q0r1,λ_ h=>by cases h⟩)
theorem E.ab.q0r3:regD UQ 76 L.ab.q0.ops [22,5,6,1,0,8,5,7,4,9,3,2,10] (UK 29) 30 (UG 36 9663676415)=UK L.ab.q0.r3:=bX (subs:=[((UG 36 34359738367),L.ab.q0.r0)]) U0 (Q5.2 ⟨E.ab.q0r0,λ_ h=>by cases h⟩)
theorem E.ab.q0r4:regD UQ 76 L.ab.q0.ops [22,5,6,1,0,8,5,7,4,9,3,2,10] (UK 29) 31 (UG 36 9126805503)=UK L.ab.q0.r4:=bX (subs:=[((UG 36 9663676415),L.ab.q0.r3)]) U0 (Q5.2 ⟨E.ab.q0r3,λ_ h=>by cases h⟩)
theorem E.ab.q0r5:regD UQ 76 L.ab.q0.ops [22,5,6,1,0,8,5,7,4,9,3,2,10] (UK 29) 32 (UG 36 536870911)=UK L.ab.q0.r5:=bX (subs:=[((UG 36 1073741823),L.ab.q0.r2),((UG 36 9126805503),L.ab.q0.r4)]) U0 (Q5.2 ⟨E.ab.q0r2,Q5.2 ⟨E.ab.q0r4,λ_ h=>by cases h⟩⟩)
theorem E.ab.q0r6:regD UQ 76 L.ab.q0.ops [22,5,6,1,0,8,5,7,4,9,3,2,10] (UK 29) 32 (UG 36 8858370047)=UK L.ab.q0.r6:=bX (subs:=[((UG 36 9126805503),L.ab.q0.r4)]) U0 (Q5.2 ⟨E.ab.q0r4,λ_ h=>by cases h⟩)
theorem E.ab.q0r7:regD UQ 76 L.ab.q0.ops [22,5,6,1,0,8,5,7,4,9,3,2,10] (UK 29) 33 (UG 36 268435455)=UK L.ab.q0.r7:=bX (subs:=[((UG 36 536870911),L.ab.q0.r5),((UG 36 8858370047),L.ab.q0.r6)]) U0 (Q5.2 ⟨E.ab.q0r5,Q5.2 ⟨E.ab.q0r6,λ_ h=>by cases h⟩⟩)
theorem E.ab.q0r8:regD UQ 76 L.ab.q0.ops [22,5,6,1,0,8,5,7,4,9,3,2,10] (UK 29) 32 (UG 36 9126281215)=UK L.ab.q0.r8:=bX (subs:=[((UG 36 9126805503),L.ab.q0.r4)]) U0 (Q5.2 ⟨E.ab.q0r4,λ_ h=>by cases h⟩)
theorem E.ab.q0r9:regD UQ 76 L.ab.q0.ops [22,5,6,1,0,8,5,7,4,9,3,2,10] (UK 29) 33 (UG 36 536346623)=UK L.ab.q0.r9:=bX (subs:=[((UG 36 536870911),L.ab.q0.r5),((UG 36 9126281215),L.ab.q0.r8)]) U0 (Q5.2 ⟨E.ab.q0r5,Q5.2 ⟨E.ab.q0r8,λ_ h=>by cases h⟩⟩)
theorem E.ab.Ko:regD UQ 76 L.ab.q0.ops [22,5,6,1,0,8,5,7,4,9,3,2,10] (UK 29) 33 (UG 36 8857845759)=UK L.ab.q0.r10:=bX (subs:=[((UG 36 8858370047),L.ab.q0.r6),((UG 36 9126281215),L.ab.q0.r8)]) U0 (Q5.2 ⟨E.ab.q0r6,Q5.2 ⟨E.ab.q0r8,λ_ h=>by cases h⟩⟩)
theorem E.ab.NZ:regD UQ 76 L.ab.q0.ops [22,5,6,1,0,8,5,7,4,9,3,2,10] (UK 29) 34 (UG 36 267911167)=UK L.ab.q0.r11:=bX (subs:=[((UG 36 268435455),L.ab.q0.r7),((UG 36 536346623),L.ab.q0.r9),((UG 36 8857845759),L.ab.q0.r10)]) U0 (Q5.2 ⟨E.ab.q0r7,Q5.2 ⟨E.ab.q0r9,Q5.2 ⟨E.ab.Ko,λ_ h=>by cases h⟩⟩⟩)
theorem E.ab.IU:regD UQ 76 L.ab.q0.ops [22,5,6,1,0,8,5,7,4,9,3,2,10] (UK 29) 33 (UG 36 9126019071)=UK L.ab.q0.r12:=bX (subs:=[((UG 36 9126281215),L.ab.q0.r8)]) U0 (Q5.2 ⟨E.ab.q0r8,λ_ h=>by cases h⟩)
theorem E.ab.N6:regD UQ 76 L.ab.q0.ops [22,5,6,1,0,8,5,7,4,9,3,2,10] (UK 29) 34 (UG 36 536084479)=UK L.ab.q0.r13:=bX (subs:=[((UG 36 536346623),L.ab.q0.r9),((UG 36 9126019071),L.ab.q0.r12)]) U0 (Q5.2 ⟨E.ab.q0r9,Q5.2 ⟨E.ab.IU,λ_ h=>by cases h⟩⟩)
theorem E.ab.N5:regD UQ 76 L.ab.q0.ops [22,5,6,1,0,8,5,7,4,9,3,2,10] (UK 29) 34 (UG 36 8857583615)=UK L.ab.q0.r14:=bX (subs:=[((UG 36 8857845759),L.ab.q0.r10),((UG 36 9126019071),L.ab.q0.r12)]) U0 (Q5.2 ⟨E.ab.Ko,Q5.2 ⟨E.ab.IU,λ_ h=>by cases h⟩⟩)
theorem E.ab.P1:regD UQ 76 L.ab.q0.ops [22,5,6,1,0,8,5,7,4,9,3,2,10] (UK 29) 35 (UG 36 267649023)=UK L.ab.q0.r15:=bX (subs:=[((UG 36 267911167),L.ab.q0.r11),((UG 36 536084479),L.ab.q0.r13),((UG 36 8857583615),L.ab.q0.r14)]) U0 (Q5.2 ⟨E.ab.NZ,Q5.2 ⟨E.ab.N6,Q5.2 ⟨E.ab.N5,λ_ h=>by cases h⟩⟩⟩)
theorem E.ab.Ha:regD UQ 76 L.ab.q0.ops [22,5,6,1,0,8,5,7,4,9,3,2,10] (UK 29) 33 (UG 36 9126277119)=UK L.ab.q0.r16:=bX (subs:=[((UG 36 9126281215),L.ab.q0.r8)]) U0 (Q5.2 ⟨E.ab.q0r8,λ_ h=>by cases h⟩)
theorem E.ab.Jp:regD UQ 76 L.ab.q0.ops [22,5,6,1,0,8,5,7,4,9,3,2,10] (UK 29) 34 (UG 36 536342527)=UK L.ab.q0.r17:=bX (subs:=[((UG 36 536346623),L.ab.q0.r9),((UG 36 9126277119),L.ab.q0.r16)]) U0 (Q5.2 ⟨E.ab.q0r9,Q5.2 ⟨E.ab.Ha,λ_ h=>by cases h⟩⟩)
theorem E.ab.K1:regD UQ 76 L.ab.q0.ops [22,5,6,1,0,8,5,7,4,9,3,2,10] (UK 29) 34 (UG 36 8857841663)=UK L.ab.q0.r18:=bX (subs:=[((UG 36 8857845759),L.ab.q0.r10),((UG 36 9126277119),L.ab.q0.r16)]) U0 (Q5.2 ⟨E.ab.Ko,Q5.2 ⟨E.ab.Ha,λ_ h=>by cases h⟩⟩)
theorem E.ab.NN:regD UQ 76 L.ab.q0.ops [22,5,6,1,0,8,5,7,4,9,3,2,10] (UK 29) 35 (UG 36 267907071)=UK L.ab.q0.r19:=bX (subs:=[((UG 36 267911167),L.ab.q0.r11),((UG 36 536342527),L.ab.q0.r17),((UG 36 8857841663),L.ab.q0.r18)]) U0 (Q5.2 ⟨E.ab.NZ,Q5.2 ⟨E.ab.Jp,Q5.2 ⟨E.ab.K1,λ_ h=>by cases h⟩⟩⟩)
theorem E.ab.JP:regD UQ 76 L.ab.q0.ops [22,5,6,1,0,8,5,7,4,9,3,2,10] (UK 29) 34 (UG 36 9126014975)=UK L.ab.q0.r20:=bX (subs:=[((UG 36 9126019071),L.ab.q0.r12),((UG 36 9126277119),L.ab.q0.r16)]) U0 (Q5.2 ⟨E.ab.IU,Q5.2 ⟨E.ab.Ha,λ_ h=>by cases h⟩⟩)
theorem E.ab.NI:regD UQ 76 L.ab.q0.ops [22,5,6,1,0,8,5,7,4,9,3,2,10] (UK 29) 35 (UG 36 536080383)=UK L.ab.q0.r21:=bX (subs:=[((UG 36 536084479),L.ab.q0.r13),((UG 36 536342527),L.ab.q0.r17),((UG 36 9126014975),L.ab.q0.r20)]) U0 (Q5.2 ⟨E.ab.N6,Q5.2 ⟨E.ab.Jp,Q5.2 ⟨E.ab.JP,λ_ h=>by cases h⟩⟩⟩)
theorem E.ab.Ns:regD UQ 76 L.ab.q0.ops [22,5,6,1,0,8,5,7,4,9,3,2,10] (UK 29) 35 (UG 36 8857579519)=UK L.ab.q0.r22:=bX (subs:=[((UG 36 8857583615),L.ab.q0.r14),((UG 36 8857841663),L.ab.q0.r18),((UG 36 9126014975),L.ab.q0.r20)]) U0 (Q5.2 ⟨E.ab.N5,Q5.2 ⟨E.ab.K1,Q5.2 ⟨E.ab.JP,λ_ h=>by cases h⟩⟩⟩)
theorem E.ab.PU:regD UQ 76 L.ab.q0.ops [22,5,6,1,0,8,5,7,4,9,3,2,10] (UK 29) 36 (UG 36 267644927)=UK L.ab.q0.r23:=bX (subs:=[((UG 36 267649023),L.ab.q0.r15),((UG 36 267907071),L.ab.q0.r19),((UG 36 536080383),L.ab.q0.r21),((UG 36 8857579519),L.ab.q0.r22)]) U0 (Q5.2 ⟨E.ab.P1,Q5.2 ⟨E.ab.NN,Q5.2 ⟨E.ab.NI,Q5.2 ⟨E.ab.Ns,λ_ h=>by cases h⟩⟩⟩⟩)
theorem E.ab.KT:regD UQ 76 L.ab.q0.ops [22,5,6,1,0,8,5,7,4,9,3,2,10] (UK 29) 34 (UG 36 9126275071)=UK L.ab.q0.r24:=bX (subs:=[((UG 36 9126277119),L.ab.q0.r16)]) U0 (Q5.2 ⟨E.ab.Ha,λ_ h=>by cases h⟩)
theorem E.ab.ND:regD UQ 76 L.ab.q0.ops [22,5,6,1,0,8,5,7,4,9,3,2,10] (UK 29) 35 (UG 36 536340479)=UK L.ab.q0.r25:=bX (subs:=[((UG 36 536342527),L.ab.q0.r17),((UG 36 9126275071),L.ab.q0.r24)]) U0 (Q5.2 ⟨E.ab.Jp,Q5.2 ⟨E.ab.KT,λ_ h=>by cases h⟩⟩)
theorem E.ab.Np:regD UQ 76 L.ab.q0.ops [22,5,6,1,0,8,5,7,4,9,3,2,10] (UK 29) 35 (UG 36 8857839615)=UK L.ab.q0.r26:=bX (subs:=[((UG 36 8857841663),L.ab.q0.r18),((UG 36 9126275071),L.ab.q0.r24)]) U0 (Q5.2 ⟨E.ab.K1,Q5.2 ⟨E.ab.KT,λ_ h=>by cases h⟩⟩)
theorem E.ab.PQ:regD UQ 76 L.ab.q0.ops [22,5,6,1,0,8,5,7,4,9,3,2,10] (UK 29) 36 (UG 36 267905023)=UK L.ab.q0.r27:=bX (subs:=[((UG 36 267907071),L.ab.q0.r19),((UG 36 536340479),L.ab.q0.r25),((UG 36 8857839615),L.ab.q0.r26)]) U0 (Q5.2 ⟨E.ab.NN,Q5.2 ⟨E.ab.ND,Q5.2 ⟨E.ab.Np,λ_ h=>by cases h⟩⟩⟩)
theorem E.ab.N3:regD UQ 76 L.ab.q0.ops [22,5,6,1,0,8,5,7,4,9,3,2,10] (UK 29) 35 (UG 36 9126012927)=UK L.ab.q0.r28:=bX (subs:=[((UG 36 9126014975),L.ab.q0.r20),((UG 36 9126275071),L.ab.q0.r24)]) U0 (Q5.2 ⟨E.ab.JP,Q5.2 ⟨E.ab.KT,λ_ h=>by cases h⟩⟩)
theorem E.ab.P8:regD UQ 76 L.ab.q0.ops [22,5,6,1,0,8,5,7,4,9,3,2,10] (UK 29) 36 (UG 36 536078335)=UK L.ab.q0.r29:=bX (subs:=[((UG 36 536080383),L.ab.q0.r21),((UG 36 536340479),L.ab.q0.r25),((UG 36 9126012927),L.ab.q0.r28)]) U0 (Q5.2 ⟨E.ab.NI,Q5.2 ⟨E.ab.ND,Q5.2 ⟨E.ab.N3,λ_ h=>by cases h⟩⟩⟩)
theorem E.ab.P9:regD UQ 76 L.ab.q0.ops [22,5,6,1,0,8,5,7,4,9,3,2,10] (UK 29) 36 (UG 36 8857577471)=UK L.ab.q0.r30:=bX (subs:=[((UG 36 8857579519),L.ab.q0.r22),((UG 36 8857839615),L.ab.q0.r26),((UG 36 9126012927),L.ab.q0.r28)]) U0 (Q5.2 ⟨E.ab.Ns,Q5.2 ⟨E.ab.Np,Q5.2 ⟨E.ab.N3,λ_ h=>by cases h⟩⟩⟩)
theorem E.ab.Qd:regD UQ 76 L.ab.q0.ops [22,5,6,1,0,8,5,7,4,9,3,2,10] (UK 29) 37 (Array.replicate 36 UP)=UK L.ab.q0.r31:=bX (subs:=[((UG 36 267644927),L.ab.q0.r23),((UG 36 267905023),L.ab.q0.r27),((UG 36 536078335),L.ab.q0.r29),((UG 36 8857577471),L.ab.q0.r30)]) U0 (Q5.2 ⟨E.ab.PU,Q5.2 ⟨E.ab.PQ,Q5.2 ⟨E.ab.P8,Q5.2 ⟨E.ab.P9,λ_ h=>by cases h⟩⟩⟩⟩)
def L.ab:LFn:=
⟨[(.un (.bM 8) (.tmp 5)),(.tmp 6)],
 (.seq
 (.reg UP (.loud [] [] [] UL [] UP (.alloc 190) 0 (UK 5) UO
  (.fin [6] [(6,(.con (.bool UP)))] [])))
 (.seq
 (.reg UO (.both
  (.loud [13,14,15,16,17] [] [(13,(.un (.bM 13) (.tmp 0))),(17,(.un .load (.bin (.idx 1) (.un .load (.un (.fld 3) (.tmp 1))) (.con (UH UI 0)))))] UL [] UO (.call ⟨.value (.func 186),#[(.tmp 13),(.tmp 17),(.const (UH UI 2))],#[186,3,3]⟩) 244 (UK 18) UO
   (.loud [12,19,20] [(19,(.un (.ext 0) (.tmp 18))),(20,(.un (.ext 1) (.tmp 18)))] [] UL [] UP (.alloc 102) 0 (UK 7) UO
    (.loud [] [] [(7,(.tmp 7)),(19,(.tmp 19))] UL [] UP (.store 102 (.tmp 7) (.tmp 19)) 0 UL UP
     (.fin [8] [(8,(.tmp 20))] []))))
  (.loud [13,14,15,16,17] [(13,(.un (.bM 13) (.tmp 0))),(17,(.un .load (.bin (.idx 1) (.un .load (.un (.fld 3) (.tmp 1))) (.con (UH UI 0)))))] [] UL [] UP (.alloc 102) 0 (UK 7) UO
   (.loud [] [] [(13,(.tmp 13)),(17,(.tmp 17))] UL [] UO (.call ⟨.value (.func 186),#[(.tmp 13),(.tmp 17),(.const (UH UI 2))],#[186,3,3]⟩) 244 (UK 18) UO
    (.loud [12,19,20] [(20,(.un (.ext 1) (.tmp 18)))] [(7,(.tmp 7)),(19,(.un (.ext 0) (.tmp 18)))] UL [] UP (.store 102 (.tmp 7) (.tmp 19)) 0 UL UP
     (.fin [8] [(8,(.tmp 20))] []))))))
 (.seq
 (.seq
 (.reg UP (.fin [21,22] [(22,(.un .not (.tmp 8)))] []))
 (.cond (.tmp 22) [22]
  (.seq
  (.reg UP (.loud [] [] [] UL [] UP (.build 190 #[]) 190 (UK 23) UO
   (.loud [] [] [(5,(.tmp 5)),(23,(.tmp 23))] UL [] UP (.store 190 (.tmp 5) (.tmp 23)) 0 UL UP
    (.fin [6] [(6,(.con (.bool UP)))] []))))
  .ret)
  .skip))
 (.seq
 (.reg UO (.loud [25,26,27,28,29] [] [(25,(.un (.bM 13) (.tmp 0))),(29,(.un .load (.bin (.idx 1) (.un .load (.un (.fld 3) (.tmp 7))) (.con (UH UI 1)))))] UL [] UO (.call ⟨.value (.func 195),#[(.tmp 25),(.tmp 29),(.const (UH UI (-2147483648))),(.const (UH UI 2147483647))],#[186,3,3,3]⟩) 120 (UK 30) UO
  (.fin [24,31,32,9,8] [(9,(.un (.ext 0) (.tmp 30))),(8,(.un (.ext 1) (.tmp 30)))] [])))
 (.seq
 (.reg UO L.ab.q0.r31)
 (.seq
 (.reg UO (.loud [66,67,68,69,70,71,72,73] [(66,(.un (.bM 8) (.tmp 10))),(68,(.tmp 8))] [(73,(.gd (.tmp 8) UO (.bin (.arith .add) (.tmp 9) (.un (.conv .i64) (.un .load (.un (.fld 4) (.tmp 1)))))))] (UK ((.tmp 8),UO)) [] UP (.call ⟨.value (.func 135),#[(.tmp 73),(.const (UH UI 0)),(.const (UH UI 255))],#[3,3,3]⟩) 4 (UK 74) UO
  (.loud [75] [(75,(.ite (.tmp 68) (.tmp 74) (.con (.bool UP))))] [(5,(.tmp 5)),(66,(.tmp 66))] UL [] UO (.store 190 (.tmp 5) (.tmp 66)) 0 UL UP
   (.fin [6] [(6,(.tmp 75))] []))))
 .ret))))))⟩
theorem E.ab:aN UQ Tryz.f228=UK L.ab:=MJ (lv:=[22,5,6,1,0,8,5,7,4,9,3,2,10]) (lr:=[5,6,1,0,8,5,7,4,9,3,2,10]) (n:=76) U0 U0 U0 U0 U0
 (lN U0 U0
 (lN U0 U0
 (lN U0 U0
 (lN U0 U0
 (lN U0 (Cc (l0:=(UK 29)) (n:=36) U0 U0 U0 E.ab.Qd)
 (lN U0 U0
 U0))))))
end
theorem wrap32_in{a:Int}(h0:-2147483648<=a)(h1:a<=2147483647):IntKind.i32.wrap a=a:=by unfold IntKind.wrap;simp[IntKind.signed,IntKind.bits];omega
section
variable{V:View}{h:Heap}{S I O P Q LL TT:Nat}{s:cC}{op plain sum:Int}
set_option maxHeartbeats 4000000 in
theorem MO(mx:Mx V S I O P Q LL TT s op plain sum)(hV:V.le (vw h))(hok:mJ s)(hop:s.i.op=op)(ho:op=15\/op=16)(hp0:0<=plain/\plain<=100):
    ay UQ 228 #[ptr S,ptr I,ptr LL,ptr P,ptr TT] h (λu h'=>cg V h h' u (memS s.f s.i s.temp op plain sum 1)):=by
  refine aq (args:=[ptr S,ptr I,ptr LL,ptr P,ptr TT]) follows Tryz.func228 E.ab UC λK hK=>?_
  dsimp only[L.ab,lkF,lkG]
  have c0:=Cx.start hV
  have l1:1<=s.i.args.length:=by
    rcases ho with q | q
    · exact hok.one.one (hop.trans q)
    · have:=hok.one.two (.inr (.inl (hop.trans q)));omega
  have l2:op=15\/2<=s.i.args.length:=ho.imp id λq=>hok.one.two (.inr (.inl (hop.trans q)))
  refine aa λz hz=>?_
  simp
  refine c0.de (k:=(0,0)) (n:=7) (z:=.agg fitZ.toArray) rfl U0 rfl U3 U8 λR hb hleb cb=>?_
  subst hz
  have i4:=(mx.ct.ins.part InsD.jD)
  have r4:=i4.nY
  have i4:an V ⟨I,4,UL⟩=UK (UH UJ s.i.imm.v):=by simpa using i4.i32
  obtain⟨va,i3,hva⟩:=(mx.ct.ins.part InsD.eX).sl
  have i3:an V ⟨I,3,UL⟩=UK va:=by simpa using i3
  have a0:=hva.rng (i:=0) U1
  have most:=hok.one.most
  have q0:=hva.idx1 (k:=.i64) (i:=0) rfl U3 U1
  have d0:=hva.int (View.le_refl V) (i:=0) U1
  simp at q0
  obtain⟨us,hus,rus⟩:=mx.ct.site.ldN rfl (N:=13) rfl
  have hus:=hus V UE
  have hfm:=ff (f:=s.f) (v:=nth s.i.args 0) (op:=2)
  have hdo:memS s.f s.i s.temp op plain sum 1=if(aJ s.f (nth s.i.args 0) 2).2 then
      if(fh s.f (nth (aJ s.f (nth s.i.args 0) 2).1.args 1) (-2147483648) 2147483647).2&&inR ((fh s.f (nth (aJ s.f (nth s.i.args 0) 2).1.args 1) (-2147483648) 2147483647).1+s.i.imm.v) 0 255 then
        UK ⟨nth (aJ s.f (nth s.i.args 0) 2).1.args 0::s.i.args.drop 1,[nth s.i.args 0,nth (aJ s.f (nth s.i.args 0) 2).1.args 1],
          [jI s.i op plain ⟨plain,0,0,nth (aJ s.f (nth s.i.args 0) 2).1.args 0,0,0,w32 ((fh s.f (nth (aJ s.f (nth s.i.args 0) 2).1.args 1) (-2147483648) 2147483647).1+s.i.imm.v),[]⟩],dc⟩
      else UL
    else none:=rfl
  have hF:=@oU s us (nth s.i.args 0) 2
  generalize (aJ s.f (nth s.i.args 0) 2).1=m at *
  generalize (aJ s.f (nth s.i.args 0) 2).2=b at *
  refine aa λz hz=>?_
  have rest : ∀(W:View) (hx:Heap) (B2:Nat) (ρ:Env),V.le W->Cx V h W hx (Own.upd (λ_=>UL) (0,0) (bx T.bf R (RawN.mk (n:=7) fitZ)))->At W ⟨B2,0,UL⟩ m->
      Lft.look ρ 0=UK (ptr S)->Lft.look ρ 1=UK (ptr I)->Lft.look ρ 2=UK (ptr LL)->Lft.look ρ 3=UK (ptr P)->Lft.look ρ 4=UK (ptr TT)->Lft.look ρ 5=UK (ptr R)->Lft.look ρ 7=UK (ptr B2)->Lft.look ρ 8=UK (.bool b)->
      LC.wp UQ z (dY [.un (.bM 8) (.tmp 5),.tmp 6] K) ρ hx:=by
    intro W hx B2 ρ hVW c hat g0 g1 g2 g3 g4 g5 g7 g8
    rw[hz]
    refine aa λx hx'=>?_
    have none_ : ∀(hy:Heap) (o:Own) (l9:List Value),Cx V h W hy o->Rd W (.agg l9.toArray) I8->b=UP->K (.tuple #[.agg l9.toArray,.bool UP]) hy:=λhy o l9 c hr e=>
      hK _ _ (cg.of c hr (by rw[hdo,e];rfl) λy e2=>by rw[hdo,e]at e2;cases e2)
    cases b with
    | false=>
      simp[g0,g1,g2,g3,g4,g5,g7,af,ag,g8]
      refine aA (t:=T.bf) (z:=.agg fitZ.toArray) (places:=zpc) (vs:=[]) (cs:=fitZ.toArray) U0 U0 U2 U0 ?_
      refine c.bG (k:=(0,0)) (n:=7) (l:=fitZ) U4 gq rfl rfl U0 U2 U2 λh9 l9 hl9 c9=>?_
      have hall:=c9.all (k:=(0,0)) (n:=7) (l:=l9) (B:=R) (e:=T.bf) U4
      simp at hall
      simp[hall]
      exact none_ _ _ _ c9 (hl9▸gq) rfl
    | true=>
      obtain⟨m1,m2,-⟩:=hfm rfl
      have hma:=(hok.all _ m1).two U1
      obtain⟨vb,j3,hvb⟩:=(hat.part InsD.eX).sl
      have j3:an W ⟨B2,3,UL⟩=UK vb:=by simpa using j3
      have b0:=hvb.rng (i:=0) U1
      have b1:=hvb.rng (i:=1) U1
      have q2:=hvb.idx1 (k:=.i64) (i:=0) rfl U3 U1
      have q3:=hvb.idx1 (k:=.i64) (i:=1) rfl U3 U1
      have d2:=hvb.int (View.le_refl W) (i:=0) U1
      have d3:=hvb.int (View.le_refl W) (i:=1) U1
      simp at q2 q3
      have i4:=ae hVW i4
      have i3:=ae hVW i3
      have d0:=ae hVW d0
      have hus:=ed (ρ:=λ_=>UL) (e:=.un (.bM 13) (.con (ptz S))) hVW (v:=us) (by simpa using hus)
      have hus:Un.ev W (.bM 13) (ptz S)=UK us:=by simpa using hus
      have rus:=rus.mono hVW
      have eL:=ae hVW mx.laid
      have eT:=ae hVW mx.with_
      have eP:=ae hVW mx.plain
      have mx:=mx.mono hVW
      simp[g0,g1,g2,g3,g4,g5,g7,af,ag,g8]
      rw[hx'];clear hx' x
      refine aa λx hx'=>?_
      refine aK W c.wle ?_
      simp[g0,g1,g2,g3,g4,g5,g7,af,ag,hus,j3,q3,d3]
      refine ah U0 (xv c.wle rus hok.sm b1) ?_
      rintro _ hc ⟨hle,rfl⟩
      have rk:-2147483648<=(fh s.f (nth m.args 1) (-2147483648) 2147483647).1/\(fh s.f (nth m.args 1) (-2147483648) 2147483647).1<=2147483647:=zu hok.rng
      generalize (fh s.f (nth m.args 1) (-2147483648) 2147483647).1=k at *
      generalize (fh s.f (nth m.args 1) (-2147483648) 2147483647).2=ok at *
      have cc:Cx V h W hc _:=⟨c.own.ext' hle,c.old,UF c.le0 hle,c.new⟩
      simp[g0,g1,g2,g3,g4,g5,g7,af,ag]
      rw[hx'];clear hx' x
      have ei:IntKind.i32.wrap k=k:=wrap32_in rk.1 rk.2
      have e2:IntKind.i64.wrap s.i.imm.v=s.i.imm.v:=bc U1 U1
      have e3:IntKind.i64.wrap (k+s.i.imm.v)=k+s.i.imm.v:=bc U1 U1
      have hm : ∀X,Rd X (.agg #[UH UI plain,UH UI 0,UH UI 0,UH UI (nth m.args 0),UH UI 0,UH UI 0,UH UJ (IntKind.i32.wrap (k+s.i.imm.v)),UM UL 0 0]) (⟨plain,0,0,nth m.args 0,0,0,w32 (k+s.i.imm.v),[]⟩:bz):=λX=>jV (imm:=w32 (k+s.i.imm.v)) U9 (Hh _) aS
      have fin : ∀(W:View) (hx:Heap) (o:Own) (l9:List Value),Cx V h W hx o->Rd W (.agg l9.toArray) (⟨nth m.args 0::s.i.args.drop 1,[nth s.i.args 0,nth m.args 1],[jI s.i op plain ⟨plain,0,0,nth m.args 0,0,0,w32 (k+s.i.imm.v),[]⟩],dc⟩:FitD)->K (.tuple #[.agg l9.toArray,.bool (ok&&inR (k+s.i.imm.v) 0 255)]) hx:=λW hx o l9 c hr=>
        hK _ _ (cg.of c hr (by rw[hdo];cases ok&&inR (k+s.i.imm.v) 0 255<;>rfl) λy e=>by
          rw[hdo,if_pos rfl]at e
          split at e
          · cases e;rfl
          · cases e)
      clear none_ hK hdo hF hfm hus
      refine aa λx hx'=>?_
      have tl : ∀(h2:Heap) (W2:View) (o:Own) (R2:Nat) (l9:List Value) (ρ2:Env),W.le W2->Cx V h W2 h2 o->o (0,0)=bx T.bf R (RawN.mk (n:=7) fitZ)->o (0,1)=bx T.bf R2 (RawN.mk (n:=7) l9)->Rd W2 (.agg l9.toArray) (⟨nth m.args 0::s.i.args.drop 1,[nth s.i.args 0,nth m.args 1],[jI s.i op plain ⟨plain,0,0,nth m.args 0,0,0,w32 (k+s.i.imm.v),[]⟩],dc⟩:FitD)->
          Lft.look ρ2 1=UK (ptr I)->Lft.look ρ2 5=UK (ptr R)->Lft.look ρ2 8=UK (.bool ok)->Lft.look ρ2 9=UK (UH UI k)->Lft.look ρ2 10=UK (ptr R2)->LC.wp UQ x (dY [.un (.bM 8) (.tmp 5),.tmp 6] K) ρ2 h2:=by
        intro h2 W2 o R2 l9 ρ2 hW2 c ho1 ho2 hr f1 f5 f8 f9 f10
        rw[hx']
        refine aa λv hv=>?_
        have hall:=c.all (k:=(0,1)) (n:=7) (l:=l9) (B:=R2) (e:=T.bf) ho2
        simp at hall
        refine aK (vw h2) UE ?_
        have last : ∀(b:Bool) (ρ3:Env),Lft.look ρ3 5=UK (ptr R)->Lft.look ρ3 6=UK (.bool (ok&&inR (k+s.i.imm.v) 0 255))->∀h3 l3,Cx V h W2 h3 (o.upd (0,0) (bx T.bf R (RawN.mk (n:=7) l3)))->Value.agg l9.toArray=Value.agg l3.toArray->LC.wp UQ v (dY [.un (.bM 8) (.tmp 5),.tmp 6] K) ρ3 h3:=λb ρ3 k5 k6 h3 l3 c3 el=>by
          rw[hv]
          have hall:=c3.all (k:=(0,0)) (n:=7) (l:=l3) (B:=R) (e:=T.bf) Own.ao
          simp at hall
          simp[k5,k6,hall]
          exact fin _ _ _ _ c3 (el▸hr)
        refine dh λy hy=>?_
        cases ok with
        | false=>
          simp[f1,f5,f8,f9,f10,af,ag,hall,ae (UF hW2 c.wle) i4,e2,e3]
          subst hy
          refine dh λy hy=>?_
          simp[f1,f5,f8,f9,f10,af,ag]
          refine c.bG (k:=(0,0)) (n:=7) (l:=fitZ) ho1 hr rfl rfl U0 U2 U2 λh4 l4 hl4 c4=>?_
          subst hy
          simp[f1,f5,f8,f9,f10,af,ag]
          exact last UP _ (by simp[f1,f5,f8,f9,f10,af,ag]) (by simp[f1,f5,f8,f9,f10,af,ag]) _ _ c4 hl4
        | true=>
          simp[f1,f5,f8,f9,f10,af,ag,hall,ae (UF hW2 c.wle) i4,e2,e3]
          refine ah U0 jZ ?_
          rintro _ h3 ⟨rfl,rfl⟩
          refine⟨View.le_refl _,?_⟩
          subst hy
          refine dh λy hy=>?_
          simp[f1,f5,f8,f9,f10,af,ag]
          refine c.bG (k:=(0,0)) (n:=7) (l:=fitZ) ho1 hr rfl rfl U0 U2 U2 λh4 l4 hl4 c4=>?_
          subst hy
          simp[f1,f5,f8,f9,f10,af,ag]
          exact last UP _ (by simp[f1,f5,f8,f9,f10,af,ag]) (by simp[f1,f5,f8,f9,f10,af,ag]) _ _ c4 hl4
      clear fin
      have c:=cc
      refine aK W c.wle ?_
      have hWV:W.le W:=View.le_refl _
      repeat' (first
        | refine jg ?_ ?_
        | (refine dh λy hy=>?_
           simp[g0,g1,g2,g3,g4,g5,g7,af,ag,i3,i4,j3,q0,q2,q3,d0,d2,d3,eL,eT,eP,ei]
           first
           | refine aA (t:=T.cT) (z:=.agg xo.toArray) (places:=zpb) (vs:=[(0,UH UI plain),(3,UH UI (nth m.args 0)),(6,UH UJ (IntKind.i32.wrap (k+s.i.imm.v)))]) (cs:=#[UH UI plain,UH UI 0,UH UI 0,UH UI (nth m.args 0),UH UI 0,UH UI 0,UH UJ (IntKind.i32.wrap (k+s.i.imm.v)),UM UL 0 0]) U0 U0 U2 U0 ?_
           | (refine c.yg (k:=(0,2)) (n:=1) (l:=[nth m.args 0]) U4 El.aY ?_ ?_ rfl U3 λuA h hle c=>?_
              · simp;done
              · simp;omega)
           | (refine c.mF (α:=Int) (n:=2) (vs:=[UH UI (nth s.i.args 0),UH UI (nth m.args 1)]) (ds:=[nth s.i.args 0,nth m.args 1]) El.aY ?_ ⟨bw.2 ⟨rfl,a0⟩,bw.2 ⟨rfl,b1⟩,trivial⟩ rfl U3 U3 λuB h W hW c huB hle=>?_
              · simp;done)
           | (refine bZ (ops:=[.tmp 45]) (caps:=#[ptr O,ptr I,ptr P]) rfl U0 (yj mx UD c.wle (hm _) l2) ?_
              rintro um h ⟨hle,hum⟩
              have hW:=c.up (h':=h)
              have c:=c.ext hle)
           | (refine bZ (ops:=[.tmp 52]) (caps:=#[ptr I]) rfl U0 (ym mx UD c.wle (c.own.get (k:=(0,2)) (v:=uA) (l:=[nth m.args 0]) U4) U2 l1 U1) ?_
              rintro uw h ⟨own2,mv⟩
              have c:=c.gA (k:=(0,2)) (v:=uA) (l:=[nth m.args 0]) U4 own2 mv
              obtain⟨W,hW,c,huA⟩:=c.freeze (k:=(0,2)) (v:=uw) (l:=[nth m.args 0]++s.i.args.drop 1) U4)
           | refine c.de (k:=(0,1)) (n:=7) (z:=.agg fitZ.toArray) U4 U0 rfl U3 U8 λR2 h hle c=>?_
           | (refine ah U0 (lL c.wle (hum.mono UD) (huA.mono UD) (huB.mono UD)) ?_
              rintro _ h ⟨hle,vf,rfl,hvf⟩
              have hW:=c.up (h':=h)
              have c:=c.ext hle)
           | refine c.bG (k:=(0,1)) (n:=7) (l:=fitZ) U4 (hvf.mono UD) rfl rfl U0 U2 U2 λh l9 hl9 c=>?_
           try refine⟨UF UD c.wle,?_⟩
           subst hy))
      all_goals
        simp[g0,g1,g2,g3,g4,g5,g7,af,ag,L.ab.q0.r0]
        exact tl _ _ _ _ _ _ UD c U4 U4 (hl9▸hvf.mono UD) (by simp[g0,g1,g2,g3,g4,g5,g7,af,ag]) (by simp[g0,g1,g2,g3,g4,g5,g7,af,ag]) (by simp[g0,g1,g2,g3,g4,g5,g7,af,ag]) (by simp[g0,g1,g2,g3,g4,g5,g7,af,ag]) (by simp[g0,g1,g2,g3,g4,g5,g7,af,ag])
  refine aK V cb.wle ?_
  have c:=cb
  refine jg ?_ ?_
  · refine dh λy hy=>?_
    simp[hus,i3,q0,d0]
    refine ah U0 (hF c.wle rus hok.sm a0) ?_
    rintro _ h1 ⟨hle1,vm,rfl,hvm⟩
    have hW1:=c.up (h':=h1)
    have c:=c.ext hle1
    subst hy
    refine dh λy hy=>?_
    simp
    refine c.dK (k:=(0,4)) (z:=.agg insZ.toArray) (d:=ix) U4 U0 nz U3 λB2 h2 hle2 c=>?_
    subst hy
    refine dh λy hy=>?_
    simp
    refine c.db Part.all (k:=(0,4)) (D:=ix) (d:=m) U4 U0 U2 U2 hvm λh3 c=>?_
    subst hy
    simp
    obtain⟨W4,hW4,c,hat⟩:=c.jT (k:=(0,4)) (B:=B2) (d:=m) U4
    rw[Own.fm,Own.vy U4]at c
    exact rest _ _ _ _ (UF hW1 hW4) c hat rfl rfl rfl rfl rfl rfl rfl rfl
  · refine dh λy hy=>?_
    simp[hus,i3,q0,d0]
    refine c.dK (k:=(0,4)) (z:=.agg insZ.toArray) (d:=ix) U4 U0 nz U3 λB2 h2 hle2 c=>?_
    refine⟨c.wle,?_⟩
    subst hy
    refine dh λy hy=>?_
    simp
    refine ah U0 (hF c.wle rus hok.sm a0) ?_
    rintro _ h1 ⟨hle1,vm,rfl,hvm⟩
    have hW1:=c.up (h':=h1)
    have c:=c.ext hle1
    subst hy
    refine dh λy hy=>?_
    simp
    refine c.db Part.all (k:=(0,4)) (D:=ix) (d:=m) U4 U0 U2 U2 hvm λh3 c=>?_
    subst hy
    simp
    obtain⟨W4,hW4,c,hat⟩:=c.jT (k:=(0,4)) (B:=B2) (d:=m) U4
    rw[Own.fm,Own.vy U4]at c
    exact rest _ _ _ _ (UF hW1 hW4) c hat rfl rfl rfl rfl rfl rfl rfl rfl
end
theorem OK:ib:=λV h s S I O P Q L T op plain sum mx hV hok hop ho hne hp hs ht=>⟨M6 mx hV hok hop ho hp,MO mx hV hok hop ho hp,LA mx hV hok hop ho hs,LU mx hV hok hop ho hs ht⟩
end Go.Lft
