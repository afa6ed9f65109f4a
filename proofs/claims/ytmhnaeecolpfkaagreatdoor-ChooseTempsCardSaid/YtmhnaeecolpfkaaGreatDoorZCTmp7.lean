/- A part of the proof: ShelfF, Oo, Ub, Op, Oq, Or, Os, Qg, Ot, Ou, Nb, Qj, Ox, Oy, Oz, Qa, Qb, Qc, LftDg, Qd, Qe, Qf, LftTs. -/
import Derived.Test.YtmhnaeecolpfkaaGreatDoorZCTmp6
import Derived.Shelf.Strings.Fields
import Derived.Test.YtmhnaeecolpfkaaGreatDoorRows
import Derived.Lib.LaidTab
import Derived.LaidMore
set_option linter.unusedSimpArgs false
set_option linter.unusedVariables false
open Go.Value renaming int->Vz,slice->VE,pointer->VF
open Go.IntKind renaming i64->VA,i32->VB
open Option renaming some->VC,none->VD
open Bool renaming true->VG,false->VH
open Go.Proofs.Tryz renaming prog->VI
namespace Go.Proofs
open Go.Shelf
def Tryz.mN:Go.Shelf.Ren:=⟨fun | 157=>184 | 229=>222 | 199=>223 | 261=>241 | 311=>245 | 312=>246 | n=>n,fun | 9=>9 | 31=>274 | 3=>3 | 5=>5 | 4=>4 | 119=>308 | 0=>0 | 40=>310 | 152=>321 | 21=>21 | 154=>323 | 51=>226 | 141=>325 | 196=>329 | 193=>326 | 198=>332 | 49=>330 | 194=>327 | 201=>335 | 226=>339 | 46=>68 | 227=>340 | n=>n,fun | 0=>0 | 6=>1 | n=>n⟩
theorem Tryz.NV:Go.Proofs.Lays.n157 VI Tryz.mN:={
 mixed:=by kernel_rfl
 f157:=Tryz.func184.trans (congrArg VC V0)
 f199:=Tryz.func223.trans (congrArg VC V0)
 f229:=Tryz.func222.trans (congrArg VC V0)
 f261:=Tryz.func241.trans (congrArg VC V0)
 f311:=Tryz.func245.trans (congrArg VC V0)
 f312:=Tryz.func246.trans (congrArg VC V0)
 t0:=Tryz.underlying0
 a0:=Tryz.isAgg0
 z0:=Tryz.sizeOf0
 v0:=Tryz.zeroValue0
 t3:=Tryz.underlying3
 a3:=Tryz.isAgg3
 z3:=Tryz.sizeOf3
 v3:=Tryz.zeroValue3
 t4:=Tryz.underlying4
 a4:=Tryz.isAgg4
 z4:=Tryz.sizeOf4
 v4:=Tryz.zeroValue4
 t5:=Tryz.underlying5
 a5:=Tryz.isAgg5
 z5:=Tryz.sizeOf5
 v5:=Tryz.zeroValue5
 t9:=Tryz.underlying9
 a9:=Tryz.isAgg9
 z9:=Tryz.sizeOf9
 v9:=Tryz.zeroValue9
 t21:=Tryz.underlying21
 a21:=Tryz.isAgg21
 z21:=Tryz.sizeOf21
 v21:=Tryz.zeroValue21
 t31:=Tryz.underlying274
 a31:=Tryz.isAgg274
 z31:=Tryz.sizeOf274
 v31:=Tryz.zeroValue274
 t40:=Tryz.underlying310
 a40:=Tryz.isAgg310
 z40:=Tryz.sizeOf310
 v40:=Tryz.zeroValue310
 t46:=Tryz.underlying68
 a46:=Tryz.isAgg68
 z46:=Tryz.sizeOf68
 v46:=Tryz.zeroValue68
 t49:=Tryz.underlying330
 a49:=Tryz.isAgg330
 z49:=Tryz.sizeOf330
 v49:=Tryz.zeroValue330
 t51:=Tryz.underlying226
 a51:=Tryz.isAgg226
 z51:=Tryz.sizeOf226
 v51:=Tryz.zeroValue226
 t119:=Tryz.underlying308
 a119:=Tryz.isAgg308
 z119:=Tryz.sizeOf308
 t141:=Tryz.underlying325
 a141:=Tryz.isAgg325
 z141:=Tryz.sizeOf325
 v141:=Tryz.zeroValue325
 t152:=Tryz.underlying321
 a152:=Tryz.isAgg321
 z152:=Tryz.sizeOf321
 v152:=Tryz.zeroValue321
 t154:=Tryz.underlying323
 a154:=Tryz.isAgg323
 z154:=Tryz.sizeOf323
 v154:=Tryz.zeroValue323
 t193:=Tryz.underlying326
 a193:=Tryz.isAgg326
 z193:=Tryz.sizeOf326
 v193:=Tryz.zeroValue326
 t194:=Tryz.underlying327
 a194:=Tryz.isAgg327
 z194:=Tryz.sizeOf327
 v194:=Tryz.zeroValue327
 t196:=Tryz.underlying329
 a196:=Tryz.isAgg329
 z196:=Tryz.sizeOf329
 v196:=Tryz.zeroValue329
 t198:=Tryz.underlying332
 a198:=Tryz.isAgg332
 z198:=Tryz.sizeOf332
 v198:=Tryz.zeroValue332
 t201:=Tryz.underlying335
 a201:=Tryz.isAgg335
 z201:=Tryz.sizeOf335
 v201:=Tryz.zeroValue335
 t226:=Tryz.underlying339
 a226:=Tryz.isAgg339
 z226:=Tryz.sizeOf339
 v226:=Tryz.zeroValue339
 t227:=Tryz.underlying340
 a227:=Tryz.isAgg340
 z227:=Tryz.sizeOf340
 v227:=Tryz.zeroValue340
 g0:=by kernel_rfl
 g6:=by kernel_rfl }
end Go.Proofs
open Go.Proofs Go.Proofs.YtmhnaeecolpfkaaGreatDoor
namespace Go.Lft
structure StrD where
 v:ByteArray
instance:Rep StrD where
 n:=1
 agg:=false
 rd:=λ_ cs d=>cs=[.string d.v]
 mono:=λ_ h=>h
 len:=λh=>by rw[h];rfl
 one:=λ_=>rfl
 flat:=λh u hu=>by rw[h]at hu;simp at hu;subst hu;rfl
 pos:=US
 cf:=λh=>h
theorem At.str{H:View}{a:Addr}{d:StrD}(h:At H a d):aq H a=VC (.string d.v):=by
 obtain⟨u,h1,h2⟩:=h.load rfl;have:u = .string d.v:=by unfold Rd at h2;simpa[Rep.agg,Rep.rd]using h2
 rw[this]at h1;exact h1
def Tab(h:Heap):Prop:=∀c:Nat,c<256->aq (vw h) ⟨Tryz.mN.g 0,c,VD⟩=VC (.int .u8 (if Lib.isSp (UInt8.ofNat c) then 1 else 0))
theorem Tab.mono{h h':Heap}(t:Tab h)(hle:(vw h).le (vw h')):Tab h':=λc hc=>ae hle (t c hc)
theorem QK{w:World}{b o:Nat}{v:Value}(h:aq (vw w.heap) ⟨b,o,VD⟩=VC v):w.cell? ⟨b,o,VD⟩=VC v:=by
 unfold aq at h;unfold World.cell?;simp only[vw]at h;cases hb:w.heap[b]? with
 | none=>rw[hb]at h;simp at h
 | some x=>rw[hb]at h;cases x<;>simp_all
def fieldsD(s:ByteArray):List StrD:=(Lib.fields s.data.toList).map λl=>⟨⟨l.toArray⟩⟩
theorem IU{s:ByteArray}{h:Heap}(ht:Tab h)(hs:s.size<4294967281)(ha : ∀(j:Nat) b,s.data.toList[j]? = VC b->b.toNat<128)(hn:(fieldsD s).length<=1000000) :
  ay VI 184 #[.string s] h (λu h'=>(vw h).le (vw h')/\SlRd (vw h') u (fieldsD s)):=by
 intro w hw;subst hw;refine Calls.mono (Any.strings_Fields_core (P:=VI) (ρ:=Tryz.mN) Tryz.NV V0 s w hs ha λc hc=>QK (ht c hc)) ?_;rintro e w' ⟨rfl,rfl⟩;refine⟨_,rfl,⟨b8 _ _,?_⟩,jl _ _⟩;have hl:(fieldsD s).length=(Lib.fields s.data.toList).length:=by simp[fieldsD]
 refine⟨VC ⟨w.heap.size,0,VD⟩,(Lib.fields s.data.toList).length,by rw[hl],by omega,by omega,.inr ⟨_,rfl,rfl,λi hi=>?_⟩⟩;have hi':i<(Lib.fields s.data.toList).length:=by omega
 rw[bF rfl];refine⟨[.string ⟨(Lib.fields s.data.toList)[i].toArray⟩],⟨_,_,_,rfl,World.alloc_heap_new w _,?_⟩,?_⟩
 ·have hn1:Rep.n StrD=1:=rfl;rw[hn1,SX,Tj];show List.take 1 (List.drop i ((Lib.fields s.data.toList).map λl=>Value.string ⟨l.toArray⟩))=_;rw[SD (by simpa using hi')];simp
 show[Value.string _]=[Value.string _];simp[fieldsD]
def qJ:ByteArray:=⟨#[108,105,32,108,105,119,32,97,100,100,32,115,117,98,32,109,117,108,32,97,110,100,32,111,114,32,120,111,114,32,115,104,108,32,115,104,114,32,115,97,114,32,101,113,32,108,116,32,108,116,117,32,100,105,118,32,97,100,100,105,32,115,117,98,105,32,97,110,100,105,32,115,104,108,105,32,115,104,114,105,32,115,97,114,105,32,109,97,100,100,32,108,100,32,108,100,97,32,108,100,120,32,108,100,108,32,115,116,32,115,116,97,32,115,116,120,32,115,116,108,32,99,97,108,108,32,109,117,108,119,32,98,110,122,32,98,101,113,32,98,108,116,32,98,108,116,117,32,106,116]⟩
def yc(pat:Int):ByteArray:=if 1<=pat/\pat<=37 then((fieldsD qJ).getD (pat-1).toNat ⟨⟨#[]⟩⟩).v else⟨#[]⟩
theorem pQ:(fieldsD qJ).length=37:=by kernel_rfl
theorem E9 : ∀(j:Nat) b,qJ.data.toList[j]? = VC b->b.toNat<128:=by
 have h:qJ.data.toList.all (λb=>decide (b.toNat<128))=true:=by kernel_rfl
 exact λj b hb=>by simpa using SR.1 h b (SE hb)
theorem FQ:(fieldsD qJ).all (λs=>!(s.v.toList == (⟨#[]⟩:ByteArray).toList))=true:=by kernel_rfl
instance:Inhabited StrD:=⟨⟨⟨#[]⟩⟩⟩
theorem JB{pat:Int}:((yc pat).toList == (⟨#[]⟩:ByteArray).toList)=!inR pat 1 37:=by
 unfold yc;by_cases h:1<=pat/\pat<=37
 ·rw[if_pos h];have hlt:(pat-1).toNat<(fieldsD qJ).length:=by rw[pQ];omega
  have:=SR.1 FQ _ (S9 hlt);rw[TX,SJ hlt,Vh];have e:inR pat 1 37=true:=by simp[inR,h.1,h.2]
  rw[e];simpa using this
 rw[if_neg h];have e:inR pat 1 37=false:=by unfold inR;simpa using h
 rw[e];exact beq_self_eq_true _
theorem zZ{pat:Int}:(yc pat).toList.isEmpty=!inR pat 1 37:=by have h:=JB (pat:=pat);rw[show(⟨#[]⟩:ByteArray).toList=[] by kernel_rfl]at h;rw[<-h];cases (yc pat).toList<;>rfl
theorem MC{pat:Int}{h:Heap}(ht:Tab h)(hp:I64 pat):ay VI 134 #[Vz VA pat] h (λu h'=>(vw h).le (vw h')/\u = .string (yc pat)):=by
 refine ao (args:=[Vz VA pat]) follows Tryz.func134 E.tp Vu λK hK=>?_;dsimp only[L.tp,lkF,lkG];refine aa λz hz=>?_;simp;subst hz;refine aa λz hz=>?_;simp;refine ah V0 (IU (s:=qJ) ht (of_decide_eq_true V0) E9 (by rw[pQ];decide)) ?_;rintro u h1 ⟨hle,hu⟩;have hl:=hu.len (K:=vw h1);rw[pQ]at hl;subst hz;refine aa λz hz=>?_;by_cases c1:pat<1
 ·simp[c1];exact hK _ _ ⟨hle,by unfold yc;rw[if_neg V4]⟩
 by_cases c2:37<pat
 ·simp[c1,hl,c2];exact hK _ _ ⟨hle,by unfold yc;rw[if_neg V4]⟩
 have hlt:(pat-1).toNat<(fieldsD qJ).length:=by rw[pQ];omega
 have hx:=hu.idx1 (k:=.i64) (i:=pat-1) rfl V4 (by rw[pQ];omega);have hc:=(hu.at hlt).str;rw[show(pat-1).toNat*Rep.n StrD=(pat-1).toNat from SX _]at hc;have et:(pat-1).toNat=pat.toNat-1:=by omega
 have hc:aq (vw h1) ((slA u).add (pat.toNat-1))=VC (.string ((fieldsD qJ)[(pat-1).toNat]).v):=by rw[<-et];exact hc
 have ew:IntKind.i64.wrap (pat-1)=pat-1:=bj (by have:=hp.1;omega) (by have:=hp.2;omega);simp[c1,hl,c2];subst hz;simp[ew,hx,hc];refine hK _ _ ⟨hle,?_⟩;unfold yc;rw[if_pos V4,TX,SJ hlt,Vh];simp only[et]
def eH(t:aS):Int:=if inR t.pat 1 37=VH then 20 else if inR t.cost 0 1000=VH then 22 else 0
def nI:Nat->List aS->Int × Int
 | _,[]=>(0,0)
 | n,t::l=>if eH t=0 then nI (n+1) l else(eH t,n)
def jq(l:List aS):Int × Int:=if 1024<l.length then(2,0) else nI 0 l
theorem yp : ∀{l:List aS} {n:Nat},(∀t∈l,eH t=0)->nI n l=(0,0)
 | [],_,_=>rfl
 | t::l,n,h=>by unfold nI;rw[if_pos (h t (Sg ..))];exact yp λt ht=>h t (Sa _ ht)
theorem zN : ∀{l:List aS} {n k:Nat},(hk:k<l.length)->(∀t∈l.take k,eH t=0)->eH (nth l k)≠0->nI n l=(eH (nth l k),((n+k:Nat):Int))
 | t::l,n,0,_,_,h=>by unfold nI;have h:eH t≠0:=h;rw[if_neg h];rfl
 | t::l,n,k+1,hk,h1,h2=>by unfold nI;rw[if_pos (h1 t V5)];have h2':eH (nth l k)≠0:=h2;have:=zN (n:=n+1) (k:=k) (by simpa using hk) (λt ht=>h1 t (by simp[ht])) h2';rw[this];have e:nth (t::l) (k+1)=nth l k:=rfl;rw[e,show n+1+k=n+(k+1) by omega]
theorem HW{l:List aS}{v:Value}{h:Heap}{W:View}(hW:W.le (vw h))(hv:SlRd W v l)(ht:Tab h):ay VI 89 #[v] h (λu h'=>(vw h).le (vw h')/\u = .tuple #[Vz VA (jq l).1,Vz VA (jq l).2]):=by
 refine ao (args:=[v]) follows Tryz.func89 E.fm Vu λK hK=>?_;dsimp only[L.fm,lkF,lkG];have c0:=Cx.start hW;have hl:=hv.len (K:=vw h);have bd:=hv.bound;refine aa λz hz=>?_;simp;subst hz;refine aa λz hz=>?_;by_cases c:(1024:Int)<l.length
 ·simp[hl,c];exact hK _ _ ⟨View.le_refl _,by unfold jq;rw[if_pos V4]⟩
 simp[hl,c];subst hz;refine aa λz hz=>?_;simp[hl];refine aF [0,9,10,11] (fun(_:Unit) k=>[v,v,Vz VA l.length,Vz VA k])
  (λ_ k h1=>(∀t∈l.take k,eH t=0)/\∃W1,W.le W1/\Cx W h W1 h1 λ_=>VD) l.length ()
  rfl V4 rfl ⟨by simp,W,View.le_refl _,c0⟩ (λ_ _=>rfl) (λv i h1 hk m=>by simp) ?_ ?_
 ·rintro _ k h1 hk ⟨hb,W1,hW1,c1⟩ K2 hK2;obtain⟨ut,hut,rut⟩:=(hv.mono hW1).wh rfl (N:=2) rfl hk;refine aa λy hy=>?_;simp(disch:=omega)[((hv.mono hW1).mono c1.wle).idxn (N:=2) rfl,hut _ c1.wle];refine c1.eu (α:=aS) rut (n:=2) (z:=zz1) V0 rfl rfl V0 V8 V8 λB h2 W2 hW2 c2 at2 hle2=>?_;have q0:=(at2.part aS.BI);have q1:=(at2.part aS.C5);have r0:=q0.rng;have q0:aq W2 ⟨B,0,VD⟩=VC (Vz VA (nth l k).pat):=by simpa using q0.int
  have q1:aq W2 ⟨B,1,VD⟩=VC (Vz VA (nth l k).cost):=by simpa using q1.int
  have ht2:=ht.mono c2.le0;have hbk:eH (nth l k)≠0->jq l=(eH (nth l k),(k:Int)):=λhne=>by unfold jq;rw[if_neg V4,zN hk hb hne,Tj]
  have htk:eH (nth l k)=0->∀t∈l.take (k+1),eH t=0:=λhe t hm=>by
   rw[Si hk,R1,RY,<-az hk]at hm;rcases hm with hm | rfl
   ·exact hb t hm
   exact he
  generalize nth l k=tl at *;subst hy;simp only[aX];refine aa λy hy=>?_;simp[ae c2.wle q0];refine ah V0 (MC ht2 V9) ?_;rintro _ h3 ⟨hle3,rfl⟩;have c3:=c2.ext hle3;have hW3:=c2.up (h':=h3);subst hy;cases e1:inR tl.pat 1 37 with
  | false=>
   have e2:eH tl=20:=by unfold eH;rw[if_pos e1]
   have e3:=hbk (by rw[e2];decide);simp[LJ,zZ,e1];exact hK _ _ ⟨c3.le0,by rw[e3,e2]⟩
  | true=>
   simp[LJ,zZ,e1];simp[ae (Vx hW3 c3.wle) q1];refine ah V0 kE ?_;rintro _ h3 ⟨rfl,rfl⟩;cases e4:inR tl.cost 0 1000 with
   | false=>
    have e2:eH tl=22:=by unfold eH;rw[if_neg (by simp[e1]),if_pos e4]
    have e3:=hbk (by rw[e2];decide);simp;exact hK _ _ ⟨c3.le0,by rw[e3,e2]⟩
   | true=>
    have e2:eH tl=0:=by unfold eH;rw[if_neg (by simp[e1]),if_neg (by simp[e4])]
    simp;exact hK2 () _ _ rfl rfl ⟨htk e2,_,Vx hW1 (Vx hW2 hW3),c3⟩
 rintro _ h1 ⟨hb,W1,hW1,c1⟩;rw[SF]at hb;simp;subst hz;simp;refine hK _ _ ⟨c1.le0,?_⟩;unfold jq;rw[if_neg V4,yp hb]
open Go.ChangeShapes Go.WideShapes Go.ChangeAt Go.RowKit
abbrev EY : List (String × DataW Unit) := [("unicode.White_Space", Rows.laid_unicode_White_Space), ("strings.asciiSpace", Rows.laid_strings_asciiSpace)]
theorem gSp: Tryz.prog.globalNamed "strings.asciiSpace" = VC (Tryz.mN.g 0) := by kernel_rfl
theorem PK:(Rows.laid_strings_asciiSpace:DataW Unit)=Lib.tabData .u8 Lib.asciiSpaceTab:=by kernel_rfl
abbrev spT:TypeId:=308
abbrev spE:TypeId:=5
theorem EL{W:World}(h:laidMetH VI EY W):Tab W.heap:=by
 rw[MakeChecks.laidMetH_plain _ _ _ V0]at h;obtain⟨ps,⟨g0,t0,cs0,f0,p0,q0,hg0,ht0,hv0,hd0,⟨g1,t1,cs1,f1,p1,q1,hg1,ht1,hv1,hd1,_,_⟩,_⟩,_,_⟩:=h;obtain rfl:=Option.some.inj (gSp.symm.trans hg1);have hty:(Tryz.prog.globals[Tryz.mN.g 0]?).map (·.type)=VC spT:=by kernel_rfl
 obtain rfl:=Option.some.inj (hty.symm.trans ht1);rw[PK]at hd1;have htab : Lib.TabIs VI W "strings.asciiSpace" .u8 Lib.asciiSpaceTab := by unfold Lib.TabIs;rw[hv1,<-Lib.cells_of_tab (n:=256) (e:=spE) V0 V0 V0 V0 hd1]
 intro c hc;have:=htab.cell gSp c (by rw[Lib.asciiSpaceTab_length];exact hc);rw[Lib.asciiSpaceTab_at c hc]at this;obtain⟨-,a,T,fz,h1,h2⟩:=Bu this;unfold aq vw;simp only[h1];simpa using h2
theorem KN(os:Os)(args:Array Value):laidMetH VI EY ((World.doorLaid VI 400 os).forCall (λ_ _=>0) ⟨#[],args,[]⟩).memory:=
 laidMetH_of_parts3 (fuel:=8) (laidMet_of_run' 8 V0 V0) V0 V0
section
abbrev Wh:=Int->Option (Int × Int)
def Hq(can:Int->Int->Bool):Option (Int × Int)->Bool
 | none=>VG
 | some w=>can w.1 w.2
def yT(can:Int->Int->Bool)(wh:Wh)(l:List Int):Bool:=l.all λv=>Hq can (wh v)
def Li(can:Int->Int->Bool)(wh:Wh):Option FitD->Bool
 | none=>VH
 | some x=>yT can wh x.takes
def canP(f:ak)(has:Int->Bool)(wh:Wh)(can:Int->Int->Bool)(b i pat:Int):Bool:=has pat&&Li can wh (tryS (eh f b i 0) pat)
def canS(f:ak)(has:Int->Bool)(wh:Wh):Nat->Int->Int->Bool
 | 0,_,_=>VH
 | n+1,b,i=>(List.range 38).any λk=>canP f has wh (canS f has wh n) b i (k:Int)
theorem F3{f:ak}{t:db}{pat:Int}(h:¬(0<=pat/\pat<38)):gz f t pat=none:=by unfold gz;rw[if_neg V4,if_neg V4,if_neg V4,if_neg V4,if_neg V4,if_neg V4]
theorem Ic{s:cG}{pat:Int}(h:¬(0<=pat/\pat<38)):tryS s pat=none:=by
 unfold tryS;split
 ·exact F3 h
 unfold patS;rw[if_neg V4]
theorem Fm{f:ak}{has:Int->Bool}{wh:Wh}{n:Nat}{b i:Int}:canS f has wh (n+1) b i=VG↔∃pat,canP f has wh (canS f has wh n) b i pat=true:=by
 unfold canS;rw[UR];constructor
 ·rintro⟨k,_,hk⟩;exact⟨_,hk⟩
 rintro⟨pat,hp⟩;by_cases h:0<=pat/\pat<38
 ·refine⟨pat.toNat,TA.2 V4,?_⟩;rw[SB h.1];exact hp
 unfold canP at hp;rw[Ic h]at hp;simp[Li]at hp
def twoV(w:Int × Int):Value:=.agg #[Vz VA w.1,Vz VA w.2]
structure Cv(W:View)(F H Q C r1 r2:Nat)(f:ak)(has:Int->Bool)(wh:Wh):Prop where
 fc:At W ⟨F,0,VD⟩ f
 hasR : ∀p,has p=VG->I64 p
 hasC:aq W ⟨H,0,VD⟩=VC (.map (VC r1))
 hasM : ∀h,W.le (vw h)->dh (.int .i64) h r1 (mapB has)
 whC:aq W ⟨Q,0,VD⟩=VC (.map (VC r2))
 whR : ∀v w,wh v=VC w->I64 w.1/\I64 w.2
 whM : ∀h,W.le (vw h)->dh (.int .i64) h r2 (mapE twoV wh)
 can:aq W ⟨C,0,VD⟩=VC (.func (.func 91) #[] #[ptr F,ptr H,ptr Q,ptr C])
theorem Cv.mono{W W':View}{F H Q C r1 r2:Nat}{f:ak}{has:Int->Bool}{wh:Wh}(c:Cv W F H Q C r1 r2 f has wh)(h:W.le W'):Cv W' F H Q C r1 r2 f has wh:=
 ⟨c.fc.mono h,c.hasR,ae h c.hasC,λg hg=>c.hasM g (Vx h hg),ae h c.whC,c.whR,λg hg=>c.whM g (Vx h hg),ae h c.can⟩
def Down(f:ak)(wh:Wh):Prop:=∀b i pat x v w,de f b i=VG->tryS (eh f b i 0) pat=VC x->v∈x.takes->wh v=VC w->de f w.1 w.2=VG/\w.2<i
theorem Ij{s:Int->Bool}{u v:Value}(hk:MapKept.IsKey (.int .i64) u)(h:mapB s u=VC v): ∃p:Int,u = Vz VA p/\s p=VG/\v = .bool true:=by
 cases u<;>simp[MapKept.IsKey]at hk;rename_i k p;subst hk;rw[D8]at h;split at h
 ·rename_i hs;cases h;exact⟨p,rfl,hs,rfl⟩
 cases h
theorem zr{h h':Heap}{b r:Nat}{left:List (Value × Value)}(m:It h b r left)(hle:(vw h).le (vw h')):It h' b r left:=by
 have l:=m.lt;have e : ∀k,k<h.size->h'[k]? = h[k]?:=λk hk=>by have:=hle k h[k] (Sv hk);rw[Sv hk];exact this
 exact m.same (e _ l.1) (e _ l.2.1)
theorem Ju{f:ak}{has:Int->Bool}{wh:Wh}(m:jV f)(hsm:SmF f)(hM : ∀i∈ft f,i.op=15\/i.op=16->iu)(hd:Down f wh) : ∀(n:Nat) {b i:Int} {Fb H Q C r1 r2:Nat} {W:View} {h:Heap},Cv W Fb H Q C r1 r2 f has wh->W.le (vw h)->de f b i=VG->i<n->
  ay VI 91 #[Vz VA b,Vz VA i,ptr Fb,ptr H,ptr Q,ptr C] h (λu h'=>(vw h).le (vw h')/\u = .bool (canS f has wh n b i))
 | 0,b,i,Fb,H,Q,C,r1,r2,W,h,cv,hW,hpl,hi=>by simp[de]at hpl;omega
 | n+1,b,i,Fb,H,Q,C,r1,r2,W,h,cv,hW,hpl,hi=>by
  have ih:=@Ju f has wh m hsm hM hd n;refine ao (args:=[Vz VA b,Vz VA i,ptr Fb,ptr H,ptr Q,ptr C]) follows Tryz.func91 E.cS Vu λK hK=>?_;dsimp only[L.cS,lkF,lkG];have c0:=Cx.start hW;refine aa λz hz=>?_;simp;subst hz;refine aa λz hz=>?_;obtain⟨uf,huf,ruf⟩:=cv.fc.ldN rfl (N:=2) rfl;have hr:=oL ruf;simp[huf _ hW];refine ah V0 (Kw (b:=b) (p:=i) hW ruf (by constructor<;>decide)) ?_;rintro _ h1 ⟨hle1,vs,rfl,hvs⟩;have c1:=c0.ext hle1;have hW1:=c0.up (h':=h1);have hpS:pE f b i 0=eh f b i 0:=by unfold pE;rw[hpl,if_pos rfl]
  rw[hpS]at hvs;simp;refine c1.eu (α:=cG) hvs (n:=13) (z:=.agg rI.toArray) V0 rfl rfl V0 V8 V8 λB h2 W2 hW2 c2 at2 hle2=>?_;have cv2:=cv.mono (Vx hW1 hW2);subst hz;refine aa λz hz=>?_;refine aa λy hy=>?_;simp[ae c2.wle cv2.hasC];refine yd U.iF rfl (cv2.hasM h2 c2.wle) λh3 left hle3 hs3 it3 nd3 key3 mem3=>?_;have hall : ∀u v,(u,v)∈left->∃p:Int,u = Vz VA p/\has p=true:=λu v hu=>by obtain⟨p,e1,e2,-⟩:=Ij (key3 u v hu) ((mem3 u v (key3 u v hu)).1 hu);exact⟨p,e1,e2⟩
  have hrest : ∀p:Int,has p=VG->(∃v,(Vz VA p,v)∈left):=λp hp=>⟨.bool VG,(mem3 _ _ cM).2 (by rw[D8,hp,if_pos rfl])⟩;have hr3:W2 h2.size=none:=View.bS c2.wle (RX _);have hs0:h.size<=h2.size:=bL c2.le0;have c3:Cx W h W2 h3 λ_=>none:=⟨Owns.start (Vx c2.wle hle3),c2.old,Vx c2.le0 hle3,λ_ _ _ e=>by cases e⟩;obtain⟨r,hr0⟩ : ∃r,r=h2.size:=⟨_,rfl⟩;rw[<-hr0]at it3 hr3 hs0 ⊢;subst hy;simp only[aX];refine js [0,1,2,3,4,5,9,26] (λmm ρ hx=>∃(left:List (Value × Value)) (Wx:View),mm=left.length/\ρ=[(0,Vz VA b),(1,Vz VA i),(2,ptr Fb),(3,ptr H),(4,ptr Q),(5,ptr C),(9,ptr B),(26,ptr r)]/\W2.le Wx/\Cx W h Wx hx (λ_=>VD)/\Wx r=VD/\It hx r1 r left/\
   (∀u v,(u,v)∈left->∃p:Int,u = Vz VA p/\has p=VG)/\(∀p:Int,has p=VG->(∃v,(Vz VA p,v)∈left)\/canP f has wh (canS f has wh n) b i p=VH)) left.length
   ⟨left,W2,rfl,rfl,View.le_refl _,c3,hr3,it3,hall,λp hp=>.inl (hrest p hp)⟩ ?_;clear hall hrest it3 nd3 key3 mem3 c3;rintro mm ρ hx ⟨left,Wx,rfl,rfl,lx,cx,hrx,itx,hall,hrest⟩ K2 hK2;refine aa λy hy=>?_;simp;refine zj rfl itx ?_ ?_
  ·rintro rfl;have hno:canS f has wh (n+1) b i=false:=by
    cases e:canS f has wh (n+1) b i with
    | false=>rfl
    | true=>
     obtain⟨p,hp⟩:=Fm.1 e;have hh:has p=true:=by unfold canP at hp;simp at hp;exact hp.1
     rcases hrest p hh with⟨v,hv⟩ | hv
     ·cases hv
     rw[hp]at hv;cases hv
   simp;subst hy;simp;subst hz;simp;exact hK _ _ ⟨cx.le0,by rw[hno]⟩
  intro a p q h4 el hs4 ho4 it4;obtain⟨pat,e1,e2⟩:=hall p.1 p.2 (by rw[el];simp);have hpe:p=(Vz VA pat,p.2):=by rw[<-e1]
  have le4 : ∀X:View,X.le (vw hx)->X r=VD->X.le (vw h4):=λX hX hn b o hb=>by show h4[b]? = VC o;rw[ho4 b (by rintro rfl;rw[hn]at hb;cases hb)];exact hX b o hb
  have le04:(vw h).le (vw h4):=λb o hb=>by have hlt:=View.lt (View.le_refl (vw h)) hb;show h4[b]? = VC o;rw[ho4 b V4];exact cx.le0 b o hb
  have hW4:=le4 Wx cx.wle hrx;have c4:Cx W h Wx h4 λ_=>none:=⟨Owns.start hW4,cx.old,le04,λ_ _ _ e=>by cases e⟩;have hrest4 : ∀p:Int,p≠pat->has p=VG->(∃v,(Vz VA p,v)∈a++q)\/canP f has wh (canS f has wh n) b i p=false:=λp' hne hp'=>by
   rcases hrest p' hp' with⟨v,hv⟩ | hv
   ·rw[el,R1,Sp]at hv;rcases hv with hv | hv | hv
    ·exact .inl ⟨v,R1.2 (.inl hv)⟩
    ·rw[hpe]at hv;simp at hv;exact absurd hv.1 hne
    exact .inl ⟨v,R1.2 (.inr hv)⟩
   exact .inr hv
  have hall4 : ∀u v,(u,v)∈a++q->∃p:Int,u = Vz VA p/\has p=true:=λu v hu=>hall u v (by rw[el,R1,Sp];rcases R1.1 hu with hu | hu<;>simp[hu]);have hlen:(a++q).length<left.length:=by rw[el];simp
  have at4:=at2.mono lx;have cv4:=cv2.mono lx;clear hrest hall itx cx;simp;subst hy;refine aa λy hy=>?_;refine aV V5 ?_;simp;subst hy;simp only[aX];refine aa λy hy=>?_;simp;refine Ft rfl it4 ?_;simp[e1];subst hy;refine aa λy hy=>?_;obtain⟨us,hus,rus⟩:=at4.ldN rfl (N:=13) rfl;simp[hus _ c4.wle];refine ah V0 (CY c4.wle rus m hsm hr hM hpl (cv.hasR _ e2)) ?_;rintro _ h5 ⟨hle5,vf,x,rfl,hvf,hxx⟩;have c5:=c4.ext hle5;have hW5:=c4.up (h':=h5);have it5:=zr it4.it hle5;simp;refine cW (X:=grow Wx h4 h5) (α:=FitD) (z:=.agg fitZ.toArray) V0 rfl V0 hvf V8 V8 λh6 hle6 hs6 hat6=>?_;have c6:=c5.ext hle6;have hW6:=c5.up (h':=h6);have at6:=hat6 _ hW6 (cg (RX _));have hr6:grow (grow Wx h4 h5) h5 h6 r=none:=by rw[hZ (zr it4.it hle5).lt.2.1,hZ it4.it.lt.2.1];exact hrx
  generalize grow (grow Wx h4 h5) h5 h6=W6 at *;generalize h5.size=B3 at *;have it6:=zr it5 hle6;subst hy;refine aa λy hy=>?_;have pt:=(at6.part FitD.Hl).sl;obtain⟨vt,k1,s1⟩:=pt;have k1:aq W6 ⟨B3,0,VD⟩=VC vt:=by simpa using k1
  refine aa λw hw=>?_;simp[ae c6.wle k1,s1.len];subst hw;simp only[aX];have bt:=s1.bound;obtain⟨okS,hok⟩ : ∃okS:Nat->Bool,okS=λj=>(tryS (eh f b i 0) pat).isSome&&yT (canS f has wh n) wh (x.takes.take j):=⟨_,rfl⟩;have ok0:(tryS (eh f b i 0) pat).isSome=okS 0:=by rw[hok];simp[yT]
  have okJ : ∀j,j<x.takes.length->okS (j+1)=(okS j&&Hq (canS f has wh n) (wh (nth x.takes j))):=λj hj=>by rw[hok];simp only[yT];rw[Si hj,List.all_append,az hj];simp[Vn]
  have okE:okS x.takes.length=canP f has wh (canS f has wh n) b i pat:=by
   rw[hok];simp only[SF];unfold canP;rw[e2];cases hq:tryS (eh f b i 0) pat with
   | none=>rfl
   | some y=>rw[hxx y hq];rfl
  have okV : ∀j,j<x.takes.length->okS j=VG->∀w,wh (nth x.takes j)=VC w->de f w.1 w.2=VG/\w.2<i:=λj hj ho w hw=>by rw[hok]at ho;simp only[Se]at ho;obtain⟨y,hy⟩:=Vd.1 ho.1;have:=hxx y hy;subst this;exact hd b i pat x _ w hpl hy (bh hj) hw
  rw[ok0];clear hok ok0;refine aF [0,1,2,3,4,5,9,11,12,13,26,38,39,40] (fun(_:Unit) j=>[Vz VA b,Vz VA i,ptr Fb,ptr H,ptr Q,ptr C,ptr B,Vz VA pat,ptr B3,.bool (okS j),ptr r,vt,Vz VA x.takes.length,Vz VA j])
   (λ_ j h7=>∃W7,W6.le W7/\Cx W h W7 h7 (λ_=>VD)/\W7 r=VD/\It h7 r1 r (a++q)) x.takes.length ()
   rfl V4 rfl ⟨W6,View.le_refl _,c6,hr6,it6⟩ (λ_ _=>rfl) (λv i h1 hk m=>by simp) ?_ ?_
  ·rintro _ j h7 hj ⟨W7,lW7,c7,hr7,it7⟩ K3 hK3;have s7:=s1.mono (Vx lW7 c7.wle);have cv7:=(cv4.mono hW5).mono (Vx hW6 lW7);have okj:=okJ j hj;have okv:=okV j hj;refine aa λw hw=>?_;simp(disch:=omega)[s7.idx1 rfl,s7.int Vw];subst hw;generalize nth x.takes j=vv at *;refine aa λw hw=>?_;simp[ae c7.wle cv7.whC];refine oM (f:=mapE twoV wh) (z:=zz1) (k:=T.int) (e:=T.oC) (d:=.int .i64) (r:=r2) (u:=Vz VA vv) U.iC U.int V0 rfl rfl cM (cv7.whM h7 c7.wle) ?_;have wr:Rd W7 (((wh vv).map twoV).getD (.agg #[Vz VA 0,Vz VA 0])) ((wh vv).getD (0,0)):=by
    cases hv:wh vv with
    | none=>exact tq.2 ⟨rfl,by decide,by decide⟩
    | some w=>exact tq.2 ⟨rfl,(cv7.whR vv w hv).1,(cv7.whR vv w hv).2⟩
   simp;refine cW (X:=W7) (α:=Int × Int) (z:=zz1) V0 rfl V0 wr V8 V8 λh8 hle8 hs8 hat8=>?_;have c8:=c7.ext hle8;have hW8:=c7.up (h':=h8);have at8:=hat8 _ hW8 (cg (RX _));have it8:=zr it7 hle8;have hr8:grow W7 h7 h8 r=none:=by rw[hZ it7.lt.2.1];exact hr7
   generalize grow W7 h7 h8=W8 at *;generalize h7.size=B4 at *;subst hw;refine aa λw hw=>?_;cases ho:okS j with
   | false=>rw[ho]at okj;simp;subst hw;simp;exact hK3 () _ _ rfl (by simp[aY,okj]) ⟨W8,Vx lW7 hW8,c8,hr8,it8⟩
   | true=>
    rw[ho]at okj;cases hv:wh vv with
    | none=>rw[hv]at okj;simp;subst hw;simp;exact hK3 () _ _ rfl (by simp[aY,okj,Hq]) ⟨W8,Vx lW7 hW8,c8,hr8,it8⟩
    | some ww=>
     rw[hv]at okj at8;obtain⟨g1,g2⟩:=okv ho ww hv;have at8:At W8 ⟨B4,0,VD⟩ ww:=at8;obtain⟨cs,q1,q2,-⟩:=at8;have x0:aq W8 ⟨B4,0,VD⟩=VC (Vz VA ww.1):=by have:=kO q1 (i:=0) (v:=Vz VA ww.1) (by rw[q2];rfl);simpa using this
     have x1:aq W8 ⟨B4,1,VD⟩=VC (Vz VA ww.2):=by have:=kO q1 (i:=1) (v:=Vz VA ww.2) (by rw[q2];rfl);simpa using this
     have cv8:=cv7.mono hW8;simp;subst hw;have y0:Bn.ev (.aidx 2 1) (ptz B4) (Vz VA 0)=VC (ptz B4):=rfl;have y1:Bn.ev (.aidx 2 1) (ptz B4) (Vz VA 1)=VC (VF (VC ⟨B4,1,VD⟩)):=rfl;simp[ae c8.wle cv8.can,ae c8.wle x0,ae c8.wle x1,y0,y1];refine bW (ops:=[.tmp 56,.tmp 58]) (caps:=#[ptr Fb,ptr H,ptr Q,ptr C]) rfl V0 (ih (b:=ww.1) (i:=ww.2) cv8 c8.wle g1 V4) ?_;rintro _ h9 ⟨hle9,rfl⟩;have c9:=c8.ext hle9;have hW9:=c8.up (h':=h9);refine hK3 () _ _ rfl (by simp[aY,okj,Hq]) ⟨_,Vx lW7 (Vx hW8 hW9),c9,?_,zr it8 hle9⟩;rw[hZ it8.lt.2.1];exact hr8
  rintro _ h7 ⟨W7,lW7,c7,hr7,it7⟩;rw[okE];simp;subst hy;cases hcp:canP f has wh (canS f has wh n) b i pat with
  | true=>have hyes:canS f has wh (n+1) b i=true:=Fm.2 ⟨pat,hcp⟩;simp;exact hK _ _ ⟨c7.le0,by rw[hyes]⟩
  | false=>
   simp;refine hK2 (a++q).length _ _ hlen ⟨a++q,W7,rfl,rfl,Vx lx (Vx hW5 (Vx hW6 lW7)),c7,hr7,it7,hall4,λp' hp'=>?_⟩;by_cases hne:p'=pat
   ·exact .inr (hne▸hcp)
   exact hrest4 p' hne hp'
end
end Go.Lft
namespace Go.Lft
theorem Fx{po:OP}{P:Program}{ty t e rt:TypeId}{us:List (Nat × Value)}{h:Heap}{K:Value->Heap->Prop}{a b c d:Int}{ki:IntKind}{x y:Operand}(hu:P.underlying t=VC (.array 2 e))(he:P.underlying e=VC (.int ki))(hs:da P e=VC 1)(ha:pH P e=VC VH)(hgd:P.eqGuardType P.depth t=VH)
  (hx:asg us x = .agg #[.int ki a,.int ki b]) (hy:asg us y = .agg #[.int ki c,.int ki d]) (hk:K (.bool (a == c&&b == d)) h):@step po P (.binOp .eql t x y rt) ty us h K:=by refine dr (cO λw hw=>⟨_,w,?_,Same.refl _,by rw[hw];exact hk⟩);simp only[bQ,execOp,hx,hy];simp[eqGuard,binOp,EZ hu he hs ha,program,Sem.run,hgd]
structure Mq(V:View)(h0:Heap)(W:View)(h:Heap)(r:Nat)(g:Value->Option Value):Prop where
 c:Cx V h0 W h λ_=>VD
 av:W r=VD
 lo:h0.size<=r
 m:dh (.int .i64) h r g
section
variable{po po2:OP}{V W:View}{h0 h h':Heap}{r:Nat}{g g':Value->Option Value}
theorem Mq.ext(k:Mq V h0 W h r g)(hle:(vw h).le (vw h')):Mq V h0 (grow W h h') h' r g:=⟨k.c.ext hle,by rw[hZ k.m.lt];exact k.av,k.lo,k.m.ext hle⟩
theorem Mq.up(k:Mq V h0 W h r g):W.le (grow W h h'):=k.c.up
theorem Mq.wle(k:Mq V h0 W h r g):W.le (vw h):=k.c.wle
theorem Mq.upd(k:Mq V h0 W h r g)(ho : ∀b,b≠r->h'[b]? = h[b]?)(hm:dh (.int .i64) h' r g'):Mq V h0 W h' r g':=
 ⟨⟨Owns.start λb o hb=>by
   show h'[b]? = VC o;rw[ho b (by rintro rfl;rw[k.av]at hb;cases hb)];exact k.wle b o hb,k.c.old,λb o hb=>by
   have hlt:=View.lt (View.le_refl (vw h0)) hb;have:=k.lo;show h'[b]? = VC o;rw[ho b V4];exact k.c.le0 b o hb,λ_ _ _ e=>by cases e⟩,k.av,k.lo,hm⟩
theorem Mq.eu{α:Type}[Rep α]{P:Program}{ty:TypeId}{us:List (Nat × Value)}{t ty2:TypeId}{n:Nat}{z:Value}{x y:Operand}{us2:Value->List (Nat × Value)}{v:Value}{d:α}{K:Value->Heap->Prop}(k:Mq V h0 W h r g)(hv:Rd W v d)(hz:(P.info? t).map (·.zero)=VC (VC z))(hN:Rep.n α=n)(hzc:z.cells.size=n)(hsz:da P t=VC n)
  (hx : ∀p,asg (us2 p) x=p) (hy : ∀p,asg (us2 p) y=v) (hk : ∀B h' W',W.le W'->Mq V h0 W' h' r g->At W' ⟨B,0,VD⟩ d->(vw h).le (vw h')->K (ptz B) h') :
  @Lft.step po P (.alloc t) ty us h λp h2=>@Lft.step po2 P (.store t x y) ty2 (us2 p) h2 λ_ h3=>K p h3:=by subst hN;refine cW (X:=W) hz hzc hsz hv hx hy λh1 hle hs hat=>?_;exact hk _ _ _ k.up (k.ext hle) (hat _ k.up (cg (RX _))) hle
theorem Mq.freeze(k:Mq V h0 W h r g) : ∃W',W.le W'/\Cx V h0 W' h (λ_=>VD)/\(∀g2:Heap,W'.le (vw g2)->dh (.int .i64) g2 r g):=by
 obtain⟨es,cl,e1,e2⟩:=k.m.ex;have hle:W.le (W.set r (.map es cl)):=λb o hb=>by unfold View.set;rw[if_neg (by rintro rfl;rw[k.av]at hb;cases hb)];exact hb
 have hw:(W.set r (.map es cl)).le (vw h):=λb o hb=>by
  unfold View.set at hb;split at hb
  ·rename_i e;subst e;cases hb;exact e1
  exact k.wle b o hb
 refine⟨_,hle,⟨Owns.start hw,λb o hb hx=>?_,k.c.le0,λ_ _ _ e=>by cases e⟩,λg2 hg2=>⟨es,cl,hg2 r _ (by unfold View.set;rw[if_pos rfl]),e2⟩⟩;unfold View.set at hx;have:=k.lo;rw[if_neg V4]at hx;exact k.c.old b o hb hx
end
def hasS(l:List aS):Int->Bool:=λp=>decide (p=0)||l.any λt=>decide (t.pat=p)
def na(f:ak)(b k:Nat)(wh:Wh):Wh:=
 if(!decide ((nth (nth f.blocks b).ins k).op=16)&&!decide ((nth (nth f.blocks b).ins k).op=18))&&cJ f (nth (nth f.blocks b).ins k).dst then putM wh (nth (nth f.blocks b).ins k).dst ((b:Int),(k:Int)) else wh
def whTo(f:ak)(n:Nat):Wh:=Lft.up (λb wh=>Lft.up (na f b) (nth f.blocks b).ins.length wh) n (λ_=>VD)
def whS(f:ak):Wh:=whTo f f.blocks.length
theorem BQ{f:ak}{n:Nat}:whTo f (n+1)=Lft.up (na f n) (nth f.blocks n).ins.length (whTo f n):=rfl
theorem qR : ∀{l:List aS} {n:Nat},(nI n l).1=0->∀t∈l,eH t=0
 | [],_,_,t,ht=>by cases ht
 | a::l,n,h,t,ht=>by
  unfold nI at h;split at h
  ·rename_i e;rcases Sp.1 ht with rfl | ht
   ·exact e
   exact qR h t ht
  rename_i e;exact absurd h e
theorem BA{l:List aS}(h:(jq l).1=0){t:aS}(ht:t∈l):inR t.pat 1 37=true:=by
 unfold jq at h;split at h
 ·cases h
 have:=qR h t ht;unfold eH at this;cases e:inR t.pat 1 37 with
 | true=>rfl
 | false=>rw[if_pos e]at this;cases this
theorem MI{l:List aS}(h:(jq l).1=0){p:Int}(hp:hasS l p=VG):I64 p:=by
 unfold hasS at hp;simp at hp;rcases hp with rfl | ⟨t,ht,rfl⟩
 ·constructor<;>decide
 have:=BA h ht;simp[inR]at this;constructor<;>omega
def WhAt(f:ak)(v:Int)(w:Int × Int):Prop:=∃b k:Nat,b<f.blocks.length/\k<(nth f.blocks b).ins.length/\w=((b:Int),(k:Int))/\(nth (nth f.blocks b).ins k).dst=v/\(nth (nth f.blocks b).ins k).op≠16/\(nth (nth f.blocks b).ins k).op≠18/\cJ f v=VG
theorem H3{f:ak}{b k:Nat}{g:Wh}(hb:b<f.blocks.length)(hk:k<(nth f.blocks b).ins.length)(hg : ∀v w,g v=VC w->WhAt f v w) : ∀v w,na f b k g v=VC w->WhAt f v w:=by
 intro v w h;unfold na at h;split at h
 ·rename_i c;simp at c;unfold putM at h;split at h
  ·rename_i e;cases h;exact⟨b,k,hb,hk,rfl,e.symm,c.1.1,c.1.2,e▸c.2⟩
  exact hg v w h
 exact hg v w h
theorem HG{f:ak} : ∀{n:Nat},n<=f.blocks.length->∀v w,whTo f n v=VC w->WhAt f v w
 | 0,_,v,w,h=>by cases h
 | n+1,hn,v,w,h=>by
  rw[BQ]at h;have key : ∀k,k<=(nth f.blocks n).ins.length->∀v w,Lft.up (na f n) k (whTo f n) v=VC w->WhAt f v w:=by
   intro k;induction k with
   | zero=>exact λ_ v w h=>HG V4 v w h
   | succ k ih=>exact λhk=>H3 V4 V4 (ih V4)
  exact key _ (RX _) v w h
theorem JF{f:ak}{v:Int}{w:Int × Int}(h:whS f v=VC w):WhAt f v w:=HG (RX _) v w h
theorem Po{f:ak}(hsm:SmF f){v:Int}{w:Int × Int}(h:whS f v=VC w):I64 w.1/\I64 w.2:=by obtain⟨b,k,hb,hk,rfl,-⟩:=JF h;have h1:=hsm.len;have h2:=(hsm.blk b hb).ins;refine⟨⟨?_,?_⟩,?_,?_⟩<;>simp only<;>omega
def pR(f:ak)(wh:Wh)(b i:Nat):Bool:=!(decide (i<(nth f.blocks b).ins.length)&&(!decide ((nth (nth f.blocks b).ins i).op=16)&&decide (wh (nth (nth f.blocks b).ins i).dst=VC ((b:Int),(i:Int)))))
def vR(f:ak)(has:Int->Bool)(b i:Nat):Bool:=pR f (whS f) b i&&!canS f has (whS f) (i+1) b i
def xm(f:ak)(has:Int->Bool)(b:Nat):Option Nat:=(List.range ((nth f.blocks b).ins.length+1)).find? (vR f has b)
def ou(f:ak)(has:Int->Bool):Option (Nat × Nat):=(List.range f.blocks.length).findSome? λb=>(xm f has b).map λi=>(b,i)
def Oy:Option (Nat × Nat)->Int × Int × Int
 | none=>(0,0,0)
 | some w=>(21,w.1,w.2)
def eW(l:List aS)(f:ak):Int × Int × Int:=if(jq l).1≠0 then((jq l).1,0,0) else if pG f=VH then(1,0,0) else Oy (ou f (hasS l))
theorem find_range{p:Nat->Bool}{n i:Nat}(hi:i<n)(h1:(List.range i).find? p=VD)(h2:p i=VG):(List.range n).find? p=VC i:=by obtain⟨d,rfl⟩ : ∃d,n=i+(d+1):=⟨n-i-1,by omega⟩;rw[List.range_add,UI,h1,Ud,Vj];simp[h2]
theorem yU{α:Type}{p:Nat->Option α}{n i:Nat}{a:α}(hi:i<n)(h1:(List.range i).findSome? p=VD)(h2:p i=VC a):(List.range n).findSome? p=VC a:=by obtain⟨d,rfl⟩ : ∃d,n=i+(d+1):=⟨n-i-1,by omega⟩;rw[List.range_add,Uj,h1,Ud,Vj];simp[h2]
def Looks(ρ:Env)(l:List (Nat × Value)):Prop:=∀p∈l,Lft.look ρ p.1=VC p.2
set_option maxHeartbeats 4000000 in
theorem BX{l:List aS}{f:ak}{vl vf:Value}{h:Heap}{W:View}(hW:W.le (vw h))(hl:SlRd W vl l)(hf:Rd W vf f)(hsm:SmF f)(ht:Tab h)(hM : ∀i∈ft f,i.op=15\/i.op=16->iu)(hd:pG f=VG->Down f (whS f)) :
  ay VI 46 #[vl,vf] h (λu h'=>(vw h).le (vw h')/\u = .tuple #[Vz VA (eW l f).1,Vz VA (eW l f).2.1,Vz VA (eW l f).2.2]):=by
 refine ao (args:=[vl,vf]) follows Tryz.func46 E.bG Vu λK hK=>?_;dsimp only[L.bG,lkF,lkG];have c0:=Cx.start hW;refine aa λz hz=>?_;simp;refine c0.ef rfl hf λF1 h1 W1 hW1 c1 at1 hle1=>?_;subst hz;refine aa λz hz=>?_;refine aa λy hy=>?_;simp;refine ah V0 (HW c1.wle (hl.mono hW1) (ht.mono c1.le0)) ?_;rintro _ h2 ⟨hle2,rfl⟩;have c2:=c1.ext hle2;have hW2:=c1.up (h':=h2);simp;subst hy;refine aa λy hy=>?_;simp;subst hy;by_cases e1:(jq l).1=0
 ·simp[e1];subst hz;refine aa λz hz=>?_;refine aa λy hy=>?_;obtain⟨uf,huf,ruf⟩:=at1.ldN rfl (N:=2) rfl;simp[huf _ (Vx hW2 c2.wle)];refine ah V0 (zd (ruf.mono (Vx hW2 c2.wle)) hsm) ?_;rintro _ h3 ⟨rfl,hle3⟩;have c3:=c2.ext hle3;have hW3:=c2.up (h':=h3);subst hy;cases hrt:pG f with
  | false=>
   have hrt2:decide ((mP f).1=0)=false:=hrt;have e:eW l f=(1,0,0):=by unfold eW;rw[if_neg (by rw[e1];simp),if_pos hrt]
   simp[hrt2];exact hK _ _ ⟨c3.le0,by rw[e]⟩
  | true=>
   have hrt2:decide ((mP f).1=0)=true:=hrt;have hcov:eW l f=Oy (ou f (hasS l)):=by unfold eW;rw[if_neg (by rw[e1];simp),if_neg (by simp[hrt])]
   rw[hcov]at hK;have m:=jH hrt;have hd:=hd hrt;simp[hrt2];subst hz;refine aa λz hz=>?_;simp;refine lU ?_;have m3:dh (.int .i64) (h3.push (.map #[] 0)) h3.size λ_=>none:=dh.none V5;have q3:=b8 h3 (.map #[] 0);have av3:grow (grow W1 h1 h2) h2 h3 h3.size=none:=View.bS c3.wle (RX _);have hs3:h.size<=h3.size:=bL c3.le0;have hW13:W1.le (grow (grow W1 h1 h2) h2 h3):=Vx hW2 hW3;generalize grow (grow W1 h1 h2) h2 h3=W3 at *;generalize h3.push (.map #[] 0)=h4 at *;obtain⟨r1,hr1⟩ : ∃r,r=h3.size:=⟨_,rfl⟩;rw[<-hr1]at m3 av3 hs3 ⊢;have k4:Mq W h W3 h4 r1 λ_=>none:=⟨⟨Owns.start (Vx c3.wle q3),c3.old,Vx c3.le0 q3,λ_ _ _ e=>by cases e⟩,av3,hs3,m3⟩;refine kS (.inr rfl) (t:=T.iF) (k:=T.int) (e:=T.bool) (u:=Vz VA 0) U.iF U.int rfl rfl rfl cM k4.m (mapB (hasS [])) (by simp[hasS]) (λu hu=>?_) λh5 hs5 ho5 hm5=>?_
   ·cases u with
    | int k j=>cases k<;>first | rfl | (simp[hasS];intro e;exact hu (by rw[e]))
    | _=>rfl
   have k5:=k4.upd ho5 hm5;refine gA (n:=1) (z:=.map VD) (v:=.map (VC r1)) V0 rfl V0 rfl Vs V8 V8 λh6 hle6 hs6 hb6=>?_;have k6:=k5.ext hle6;have hW6:=k5.up (h':=h6);have x9:aq (grow W3 h5 h6) ⟨h5.size,0,VD⟩=VC (.map (VC r1)):=cell_of (by rw[cg (RX _)];exact hb6) rfl;generalize grow W3 h5 h6=W6 at *;generalize h5.size=B9 at *;subst hz;refine aa λz hz=>?_;refine aa λy hy=>?_;have hl6:=hl.mono (Vx hW1 (Vx hW13 hW6));have bl:=hl.bound;simp[hl6.len];subst hy;refine aF [0,1,3,9,37,38,39] (fun(_:Unit) k=>[vl,vf,ptr F1,ptr B9,vl,Vz VA l.length,Vz VA k])
    (λ_ k hx=>∃Wx,W6.le Wx/\Mq W h Wx hx r1 (mapB (hasS (l.take k)))) l.length ()
    rfl V4 rfl ⟨W6,View.le_refl _,k6⟩ (λ_ _=>rfl) (λv i h1 hk m=>by simp) ?_ ?_
   ·rintro _ k hx hk ⟨Wx,lx,kx⟩ K2 hK2;obtain⟨ut,hut,rut⟩:=(hl6.mono lx).wh rfl (N:=2) rfl hk;refine aa λy hy=>?_;simp(disch:=omega)[((hl6.mono lx).mono kx.wle).idxn (N:=2) rfl,hut _ kx.wle];refine kx.eu (α:=aS) rut (n:=2) (z:=zz1) V0 rfl rfl V0 V8 V8 λB h7 W7 hW7 k7 at7 hle7=>?_;have q0:aq W7 ⟨B,0,VD⟩=VC (Vz VA (nth l k).pat):=by simpa using(at7.part aS.BI).int
    subst hy;simp[ae k7.wle q0,ae (Vx lx (Vx hW7 k7.wle)) x9];have hst : ∀p,hasS (l.take (k+1)) p=if p=(nth l k).pat then VG else hasS (l.take k) p:=λp=>by
     unfold hasS;rw[Si hk,List.any_append,az hk];by_cases e:p=l[k].pat
     ·simp[e]
     simp[e,Ne.symm e]
    obtain⟨g1,g2⟩:=Ko (f:=hasS (l.take k)) (g:=hasS (l.take (k+1))) (j:=(nth l k).pat) hst;refine kS (.inl rfl) (t:=T.iF) (k:=T.int) (e:=T.bool) (u:=Vz VA (nth l k).pat) U.iF U.int rfl rfl rfl cM k7.m (mapB (hasS (l.take (k+1)))) g1 g2 λh8 hs8 ho8 hm8=>?_;exact hK2 () _ _ rfl rfl ⟨W7,Vx lx hW7,k7.upd ho8 hm8⟩
   rintro _ h7 ⟨W7,l7,k7⟩;rw[SF]at k7;obtain⟨W8,l8,c8,hasM⟩:=k7.freeze;clear k4 k5 k6 k7 m3 hm5 ho5;have x9:=ae (Vx l7 l8) x9;have l18:W1.le W8:=Vx hW13 (Vx hW6 (Vx l7 l8));have at8:=at1.mono l18;simp;subst hz;refine aa λz hz=>?_;simp;refine lU ?_;have m9:dh (.int .i64) (h7.push (.map #[] 0)) h7.size (mapE twoV λ_=>VD):=by rw[mj];exact dh.none V5
   have q9:=b8 h7 (.map #[] 0);have av9:W8 h7.size=none:=View.bS c8.wle (RX _);have hs9:h.size<=h7.size:=bL c8.le0;generalize h7.push (.map #[] 0)=h9 at *;obtain⟨r2,hr2⟩ : ∃r,r=h7.size:=⟨_,rfl⟩;rw[<-hr2]at m9 av9 hs9 ⊢;have k9:Mq W h W8 h9 r2 (mapE twoV λ_=>VD):=⟨⟨Owns.start (Vx c8.wle q9),c8.old,Vx c8.le0 q9,λ_ _ _ e=>by cases e⟩,av9,hs9,m9⟩;refine gA (n:=1) (z:=.map VD) (v:=.map (VC r2)) V0 rfl V0 rfl Vs V8 V8 λh10 hle10 hs10 hb10=>?_;have k10:=k9.ext hle10;have hW10:=k9.up (h':=h10);have x12:aq (grow W8 h9 h10) ⟨h9.size,0,VD⟩=VC (.map (VC r2)):=cell_of (by rw[cg (RX _)];exact hb10) rfl;have l110:=Vx l18 hW10;have x9:=ae hW10 x9;have hasM:=fun(g2:Heap) (hg:(grow W8 h9 h10).le (vw g2))=>hasM g2 (Vx hW10 hg);generalize grow W8 h9 h10=W10 at *;generalize h9.size=B12 at *;have at10:=at1.mono l110
   clear k9 m9 c8 at8 hle10 hb10 q9;subst hz;refine aa λz hz=>?_;refine aa λy hy=>?_;obtain⟨-,vb,hb1,hb2⟩:=fh at10;have bdf:=hb2.bound;simp[ae k10.wle hb1,hb2.len];subst hy;obtain⟨uf',huf',ruf'⟩:=at10.ldN rfl (N:=2) rfl;have smlen:=hsm.len;refine aF [0,1,3,9,12,37,38,39,49,50,51] (fun(_:Unit) b=>[vl,vf,ptr F1,ptr B9,ptr B12,vl,Vz VA l.length,Vz VA l.length,vb,Vz VA f.blocks.length,Vz VA b])
    (λ_ b hx=>∃Wx,W10.le Wx/\Mq W h Wx hx r2 (mapE twoV (whTo f b))) f.blocks.length ()
    rfl V4 rfl ⟨W10,View.le_refl _,k10⟩ (λ_ _=>rfl) (λv i h1 hk m=>by simp) ?_ ?_
   ·rintro _ b hx hb ⟨Wx,lx,kx⟩ K2 hK2;obtain⟨ub,hub,rub⟩:=(hb2.mono lx).wh rfl (N:=6) rfl hb;have sb:=hsm.blk b hb;refine aa λy hy=>?_;simp(disch:=omega)[((hb2.mono lx).mono kx.wle).idxn (N:=6) rfl,hub _ kx.wle];refine kx.eu (α:=BlkD) rub (n:=6) (z:=zz3) V0 rfl rfl V0 V8 V8 λB2 h11 W11 hW11 k11 at11 hle11=>?_;subst hy;refine aa λy hy=>?_;obtain⟨vp,vi,va,vt,-,si,-⟩:=mD at11;have bi:=si.2.bound;simp[ae k11.wle si.1,si.2.len];subst hy;refine aF [0,1,3,9,12,13,14,37,38,39,49,50,51,57,58,59] (fun(_:Unit) k=>[vl,vf,ptr F1,ptr B9,ptr B12,Vz VA b,ptr B2,vl,Vz VA l.length,Vz VA l.length,vb,Vz VA f.blocks.length,Vz VA b,vi,Vz VA (nth f.blocks b).ins.length,Vz VA k])
     (λ_ k hy=>∃Wy,W11.le Wy/\Mq W h Wy hy r2 (mapE twoV (Lft.up (na f b) k (whTo f b)))) (nth f.blocks b).ins.length ()
     rfl V4 rfl ⟨W11,View.le_refl _,k11⟩ (λ_ _=>rfl) (λv i h1 hk m=>by simp) ?_ ?_
    ·rintro _ k h12 hk ⟨Wy,ly,ky⟩ K3 hK3;have hst:Lft.up (na f b) (k+1) (whTo f b)=if(!decide ((nth (nth f.blocks b).ins k).op=16)&&!decide ((nth (nth f.blocks b).ins k).op=18))&&cJ f (nth (nth f.blocks b).ins k).dst then putM (Lft.up (na f b) k (whTo f b)) (nth (nth f.blocks b).ins k).dst ((b:Int),(k:Int)) else Lft.up (na f b) k (whTo f b):=rfl;obtain⟨ui,hui,rui⟩:=(si.2.mono ly).wh rfl (N:=5) rfl hk;refine aa λy hy=>?_;simp(disch:=omega)[((si.2.mono ly).mono ky.wle).idxn (N:=5) rfl,hui _ ky.wle];refine ky.eu (α:=InsD) rui (n:=5) (z:=zz5) V0 rfl rfl V0 V8 V8 λB4 h13 W13 hW13 k13 at13 hle13=>?_;obtain⟨q0,q1,-⟩:=nC at13;have r1:=(at13.part InsD.iG).rng;have l1013:W10.le W13:=Vx lx (Vx hW11 (Vx ly hW13));generalize Lft.up (na f b) k (whTo f b)=g at *;generalize nth (nth f.blocks b).ins k=ii at *;have q0:=ae k13.wle q0;have q1':=q1;have q1:=ae k13.wle q1;subst hy;refine aa λy hy=>?_;have skip : ∀(h14:Heap) (W14:View),W13.le W14->Mq W h W14 h14 r2 (mapE twoV g)->Lft.up (na f b) (k+1) (whTo f b)=g->∃Wy,W11.le Wy/\Mq W h Wy h14 r2 (mapE twoV (Lft.up (na f b) (k+1) (whTo f b))):=λh14 W14 l14 k14 e=>⟨W14,Vx ly (Vx hW13 l14),by rw[e];exact k14⟩;by_cases o16:ii.op=16
     ·rw[if_neg (by simp[o16])]at hst;simp[q0,o16];subst hy;simp;exact hK3 () _ _ rfl rfl (skip _ _ Vw k13 hst)
     by_cases o18:ii.op=18
     ·rw[if_neg (by simp[o18])]at hst;simp[q0,o18];subst hy;simp;exact hK3 () _ _ rfl rfl (skip _ _ Vw k13 hst)
     simp[q0,o16,o18,q1,huf' _ (Vx l1013 k13.wle)];refine ah V0 (ta (ruf'.mono (Vx l1013 k13.wle)) hsm r1) ?_;rintro _ h14 ⟨rfl,hle14⟩;have k14:=k13.ext hle14;have hW14:=k13.up (h':=h14);cases hfo:cJ f ii.dst with
     | false=>rw[if_neg (by simp[hfo])]at hst;subst hy;simp;exact hK3 () _ _ rfl rfl (skip _ _ hW14 k14 hst)
     | true=>rw[if_pos (by simp[o16,o18,hfo])]at hst;subst hy;simp[ae (Vx l1013 (Vx hW14 k14.wle)) x12,ae (Vx hW14 k14.wle) q1'];refine aA (z:=zz1) (places:=zpd) (vs:=[(0,Vz VA b),(1,Vz VA k)]) (cs:=#[Vz VA b,Vz VA k]) V0 V0 V5 V0 ?_;refine kS (.inl rfl) (t:=T.iC) (k:=T.int) (e:=T.oC) (u:=Vz VA ii.dst) (v:=twoV ((b:Int),(k:Int))) U.iC U.int rfl rfl rfl cM k14.m (mapE twoV (putM g ii.dst ((b:Int),(k:Int)))) gX.1 gX.2 λh15 hs15 ho15 hm15=>?_;exact hK3 () _ _ rfl rfl ⟨_,Vx ly (Vx hW13 hW14),by rw[hst];exact k14.upd ho15 hm15⟩
    rintro _ h12 ⟨Wy,ly,ky⟩;exact hK2 () _ _ rfl rfl ⟨Wy,Vx lx (Vx hW11 ly),by rw[BQ];exact ky⟩
   rintro _ h11 ⟨W11,l11,k11⟩;obtain⟨W12,l12,c12,whM⟩:=k11.freeze;have whM : ∀g2:Heap,W12.le (vw g2)->dh (.int .i64) g2 r2 (mapE twoV (whS f)):=whM;have x9:=ae (Vx l11 l12) x9;have x12:=ae (Vx l11 l12) x12;have l1012:=Vx l11 l12;clear k10 k11;simp;subst hz;refine aa λz hz=>?_;simp;refine dQ (z:=.nilFunc) V0 ?_;have q13:=b8 h11 (.cells (Value.nilFunc).cells T.gh);have b13:(h11.push (.cells (Value.nilFunc).cells T.gh))[h11.size]? = VC (.cells (Value.nilFunc).cells T.gh (0,0)):=by simp
   generalize h11.push (.cells (Value.nilFunc).cells T.gh)=h13 at *;subst hz;refine aa λz hz=>?_;simp;refine eJ (g:=h11.size) (o:=0) (n:=1) (v:=.func (.func 91) #[] #[ptr F1,ptr B9,ptr B12,ptr h11.size]) (cur:=(Value.nilFunc).cells) (e:=T.gh) V0 rfl rfl rfl Vs b13 (by simp[Value.cells]) λh14 hs14 ⟨row,hr14,he14⟩ ho14=>?_;have hrow:row=(Value.func (.func 91) #[] #[ptr F1,ptr B9,ptr B12,ptr h11.size]).cells:=by rw[<-Array.toList_inj,he14];simp[Value.cells]
   rw[hrow]at hr14;have le14:(vw h11).le (vw h14):=λb o hb=>by have hlt:=View.lt (View.le_refl (vw h11)) hb;show h14[b]? = _;rw[ho14 b V4];exact q13 b o hb
   have c14:=c12.ext le14;have hW14:=c12.up (h':=h14);have x17:aq (grow W12 h11 h14) ⟨h11.size,0,VD⟩=VC (.func (.func 91) #[] #[ptr F1,ptr B9,ptr B12,ptr h11.size]):=cell_of (by rw[cg (RX _)];exact hr14) rfl;have l1014:=Vx l1012 hW14;have cv:Cv (grow W12 h11 h14) F1 B9 B12 h11.size r1 r2 f (hasS l) (whS f):=⟨at10.mono l1014,λp hp=>MI e1 hp,ae hW14 x9,λg2 hg=>hasM g2 (Vx l1014 hg),ae hW14 x12,λv w hw=>Po hsm hw,λg2 hg=>whM g2 (Vx hW14 hg),x17⟩;have hb1:=ae l1014 hb1;have hb2:=hb2.mono l1014;generalize grow W12 h11 h14=W14 at *;generalize h11.size=C at *;clear hr14 ho14 he14 b13 q13 le14 x9 x12 x17 hasM whM;subst hz;refine aa λz hz=>?_;refine aa λy hy=>?_;simp[ae c14.wle hb1,hb2.len];subst hy;refine aF [0,1,3,9,12,17,37,38,39,49,50,51,88,89,90] (fun(_:Unit) b=>[vl,vf,ptr F1,ptr B9,ptr B12,ptr C,vl,Vz VA l.length,Vz VA l.length,vb,Vz VA f.blocks.length,Vz VA f.blocks.length,vb,Vz VA f.blocks.length,Vz VA b])
    (λ_ b hx=>∃Wx,W14.le Wx/\Cx W h Wx hx (λ_=>VD)/\((List.range b).findSome? λb=>(xm f (hasS l) b).map λi=>(b,i))=VD) f.blocks.length ()
    rfl V4 rfl ⟨W14,View.le_refl _,c14,rfl⟩ (λ_ _=>rfl) (λv i h1 hk m=>by simp) ?_ ?_
   ·rintro _ b hx hb ⟨Wx,lx,cx,hno⟩ K2 hK2;obtain⟨ub,hub,rub⟩:=(hb2.mono lx).wh rfl (N:=6) rfl hb;have sb:=hsm.blk b hb;have sbi:=sb.ins;simp only[aX];refine aa λy hy=>?_;simp(disch:=omega)[((hb2.mono lx).mono cx.wle).idxn (N:=6) rfl,hub _ cx.wle];refine cx.eu (α:=BlkD) rub (n:=6) (z:=zz3) V0 rfl rfl V0 V8 V8 λB2 h15 W15 hW15 c15 at15 hle15=>?_;subst hy;refine aa λy hy=>?_;obtain⟨vp,vi,va,vt,-,si,-⟩:=mD at15;have bi:=si.2.bound;simp(disch:=omega)[ae c15.wle si.1,si.2.len];subst hy;have eN:((nth f.blocks b).ins.length:Int)+1=(((nth f.blocks b).ins.length+1:Nat):Int):=by omega
    rw[eN];have l1415:=Vx lx hW15;refine aF [0,1,3,9,12,17,18,19,37,38,39,49,50,51,88,89,90,98,99] (fun(_:Unit) i=>[vl,vf,ptr F1,ptr B9,ptr B12,ptr C,Vz VA b,ptr B2,vl,Vz VA l.length,Vz VA l.length,vb,Vz VA f.blocks.length,Vz VA f.blocks.length,vb,Vz VA f.blocks.length,Vz VA b,Vz VA (((nth f.blocks b).ins.length+1:Nat):Int),Vz VA i])
     (λ_ i hx=>∃Wx,W15.le Wx/\Cx W h Wx hx (λ_=>VD)/\(List.range i).find? (vR f (hasS l) b)=VD) ((nth f.blocks b).ins.length+1) ()
     rfl V4 rfl ⟨W15,View.le_refl _,c15,rfl⟩ (λ_ _=>rfl) (λv i h1 hk m=>by simp) ?_ ?_
    ·rintro _ i h16 hi ⟨W16,l16,c16,hno2⟩ K3 hK3;have si16:=si.2.mono l16;have x0:=ae (Vx l16 c16.wle) si.1;have cv16:=cv.mono (Vx l1415 l16);simp only[aX];refine aa λy hy=>?_;simp;subst hy;refine aa λy hy=>?_;simp;subst hy;refine aa λy hy=>?_;refine gP (λρ h17=>∃W17,W16.le W17/\Cx W h W17 h17 (λ_=>VD)/\Looks ρ [(0,vl),(1,vf),(3,ptr F1),(9,ptr B9),(12,ptr B12),(17,ptr C),(18,Vz VA b),(19,ptr B2),(20,Vz VA i),(21,.bool (pR f (whS f) b i)),(37,vl),(38,Vz VA l.length),(39,Vz VA l.length),(49,vb),(50,Vz VA f.blocks.length),(51,Vz VA f.blocks.length),(88,vb),(89,Vz VA f.blocks.length),(90,Vz VA b),(98,Vz VA (((nth f.blocks b).ins.length+1:Nat):Int)),(99,Vz VA i)]) ?_ ?_
     ·intro K4 hK4;refine aa λx hx=>?_;by_cases ci:i<(nth f.blocks b).ins.length
      ·have hii:((i:Int)<((nth f.blocks b).ins.length:Int)):=by omega
       have ax:=(si16.at ci);rw[<-az ci]at ax;have q0:=ae c16.wle (ax.part InsD.xG).int;have q1:=(ax.part InsD.iG).int;have hx5:=si16.idxn (k:=.i64) (N:=5) rfl (i:=(i:Int)) V4 V4;generalize hii2:nth (nth f.blocks b).ins i=ii at *;have q0:aq (vw h16) (((slA vi).add (i*5)).add 0)=VC (Vz VA ii.op):=q0;have q1:aq W16 (((slA vi).add (i*5)).add 1)=VC (Vz VA ii.dst):=q1;have hx5:Bn.ev (.idx 5) vi (Vz VA (i:Int))=VC (VF (VC ((slA vi).add (i*5)))):=by simpa using hx5
       by_cases o16:ii.op=16
       ·have hn:pR f (whS f) b i=true:=by unfold pR;rw[hii2];simp[o16]
        simp[x0,si16.len,hii,hx5,q0,o16];subst hx;simp;exact hK4 _ _ ⟨W16,View.le_refl _,c16,by rw[hn];simp[Looks]⟩
       have hn:pR f (whS f) b i=!decide (whS f ii.dst=VC ((b:Int),(i:Int))):=by unfold pR;rw[hii2];simp[o16,ci]
       simp[x0,si16.len,hii,hx5,q0,o16];subst hx;refine aV V5 ?_;refine aa λx hx=>?_;have wr:Rd W16 (((whS f ii.dst).map twoV).getD (.agg #[Vz VA 0,Vz VA 0])) ((whS f ii.dst).getD (0,0)):=by
        cases hv:whS f ii.dst with
        | none=>exact tq.2 ⟨rfl,by decide,by decide⟩
        | some w=>exact tq.2 ⟨rfl,(cv16.whR ii.dst w hv).1,(cv16.whR ii.dst w hv).2⟩
       have hww:((whS f ii.dst).map twoV).getD (.agg #[Vz VA 0,Vz VA 0])=twoV ((whS f ii.dst).getD (0,0)):=by cases whS f ii.dst<;>rfl
       refine gP (λρ h17=>∃B22,Cx W h W16 h17 (λ_=>VD)/\Un.ev (vw h17) (.bI 2) (ptr B22)=VC (twoV ((whS f ii.dst).getD (0,0)))/\Looks ρ [(0,vl),(1,vf),(3,ptr F1),(9,ptr B9),(12,ptr B12),(17,ptr C),(18,Vz VA b),(19,ptr B2),(20,Vz VA i),(21,.bool VG),(22,ptr B22),(23,.bool (whS f ii.dst).isSome),(37,vl),(38,Vz VA l.length),(39,Vz VA l.length),(49,vb),(50,Vz VA f.blocks.length),(51,Vz VA f.blocks.length),(88,vb),(89,Vz VA f.blocks.length),(90,Vz VA b),(98,Vz VA (((nth f.blocks b).ins.length+1:Nat):Int)),(99,Vz VA i)]) ?_ ?_
       ·intro K5 hK5;refine aN W16 c16.wle ?_;have q1:=q1;refine ju ?_ ?_
        ·simp[cv16.whC,si.1,si.1,ae l16 si.1,hx5,q1];refine oM (f:=mapE twoV (whS f)) (z:=zz1) (k:=T.int) (e:=T.oC) (d:=.int .i64) (r:=r2) (u:=Vz VA ii.dst) U.iC U.int V0 rfl rfl cM (cv16.whM h16 c16.wle) ?_;simp;refine c16.cV (k:=(0,0)) (n:=1) (z:=.agg #[Vz VA 0,Vz VA 0]) rfl V0 rfl V6 Vs λB22 h17 hle17 c17=>?_;refine c17.bJ (k:=(0,0)) (n:=1) Own.an wr rfl rfl V0 rfl rfl λh18 l18 hl18 c18=>?_;have hall:=c18.all (k:=(0,0)) (n:=1) (l:=l18) (B:=B22) (e:=T.oC) Own.an;refine hK5 _ _ ⟨B22,⟨c18.own.sub λk i e=>by(cases e),c18.old,c18.le0,λ_ _ _ e=>by cases e⟩,?_,by simp[Looks]⟩;rw[<-hww,hl18];exact hall
        simp[cv16.whC,si.1,ae l16 si.1,hx5,q1];refine c16.cV (k:=(0,0)) (n:=1) (z:=.agg #[Vz VA 0,Vz VA 0]) rfl V0 rfl V6 Vs λB22 h17 hle17 c17=>?_;refine⟨c17.wle,?_⟩;refine oM (f:=mapE twoV (whS f)) (z:=zz1) (k:=T.int) (e:=T.oC) (d:=.int .i64) (r:=r2) (u:=Vz VA ii.dst) U.iC U.int V0 rfl rfl cM (cv16.whM h17 c17.wle) ?_;simp;refine c17.bJ (k:=(0,0)) (n:=1) Own.an wr rfl rfl V0 rfl rfl λh18 l18 hl18 c18=>?_;have hall:=c18.all (k:=(0,0)) (n:=1) (l:=l18) (B:=B22) (e:=T.oC) Own.an;refine hK5 _ _ ⟨B22,⟨c18.own.sub λk i e=>by(cases e),c18.old,c18.le0,λ_ _ _ e=>by cases e⟩,?_,by simp[Looks]⟩;rw[<-hww,hl18];exact hall
       rintro ρ h17 ⟨B22,c17,x22,L⟩;have L0:=L (0,vl) V5;have L1:=L (1,vf) V5;have L3:=L (3,ptr F1) V5;have L9:=L (9,ptr B9) V5;have L12:=L (12,ptr B12) V5;have L17:=L (17,ptr C) V5;have L18:=L (18,Vz VA b) V5;have L19:=L (19,ptr B2) V5;have L20:=L (20,Vz VA i) V5;have L21:=L (21,.bool VG) V5;have L22:=L (22,ptr B22) V5;have L23:=L (23,.bool (whS f ii.dst).isSome) V5;have L37:=L (37,vl) V5;have L38:=L (38,Vz VA l.length) V5;have L39:=L (39,Vz VA l.length) V5;have L49:=L (49,vb) V5;have L50:=L (50,Vz VA f.blocks.length) V5;have L51:=L (51,Vz VA f.blocks.length) V5;have L88:=L (88,vb) V5;have L89:=L (89,Vz VA f.blocks.length) V5;have L90:=L (90,Vz VA b) V5;have L98:=L (98,Vz VA (((nth f.blocks b).ins.length+1:Nat):Int)) V5;have L99:=L (99,Vz VA i) V5;simp only at L0 L1 L3 L9 L12 L17 L18 L19 L20 L21 L22 L23 L37 L38 L39 L49 L50 L51 L88 L89 L90 L98 L99;subst hx;refine aa λx hx=>?_;cases hv:whS f ii.dst with
       | none=>
        have hn:pR f (whS f) b i=true:=by rw[hn,hv];rfl
        rw[hv]at L23;simp[af,ag,L0,L1,L3,L9,L12,L17,L18,L19,L20,L21,L22,L23,L37,L38,L39,L49,L50,L51,L88,L89,L90,L98,L99];subst hx;simp[af,ag,L0,L1,L3,L9,L12,L17,L18,L19,L20,L21,L22,L23,L37,L38,L39,L49,L50,L51,L88,L89,L90,L98,L99];exact hK4 _ _ ⟨W16,View.le_refl _,c17,by rw[hn];simp[Looks,af,ag,L0,L1,L3,L9,L12,L17,L18,L19,L20,L21,L22,L23,L37,L38,L39,L49,L50,L51,L88,L89,L90,L98,L99]⟩
       | some w=>
        have hn:pR f (whS f) b i=!(w.1 == (b:Int)&&w.2 == (i:Int)):=by rw[hn,hv];obtain⟨w1,w2⟩:=w;rw[SI];simp
        rw[hv]at L23 x22;have x22:Un.ev (vw h17) (.bI 2) (ptr B22)=VC (.agg #[Vz VA w.1,Vz VA w.2]):=x22;simp[af,ag,L0,L1,L3,L9,L12,L17,L18,L19,L20,L21,L22,L23,L37,L38,L39,L49,L50,L51,L88,L89,L90,L98,L99,x22];refine aA (z:=zz1) (places:=zpd) (vs:=[(0,Vz VA b),(1,Vz VA i)]) (cs:=#[Vz VA b,Vz VA i]) V0 V0 V5 V0 ?_;refine Fx (t:=T.oC) (e:=T.int) (a:=w.1) (b:=w.2) (c:=(b:Int)) (d:=(i:Int)) (ki:=.i64) U.oC U.int V0 V0 V0 rfl rfl ?_;subst hx;cases he:(w.1 == (b:Int)&&w.2 == (i:Int))with
        | false=>rw[he]at hn;simp[af,ag,L0,L1,L3,L9,L12,L17,L18,L19,L20,L21,L22,L23,L37,L38,L39,L49,L50,L51,L88,L89,L90,L98,L99];exact hK4 _ _ ⟨W16,View.le_refl _,c17,by rw[hn];simp[Looks,af,ag,L0,L1,L3,L9,L12,L17,L18,L19,L20,L21,L22,L23,L37,L38,L39,L49,L50,L51,L88,L89,L90,L98,L99]⟩
        | true=>rw[he]at hn;simp[af,ag,L0,L1,L3,L9,L12,L17,L18,L19,L20,L21,L22,L23,L37,L38,L39,L49,L50,L51,L88,L89,L90,L98,L99];exact hK4 _ _ ⟨W16,View.le_refl _,c17,by rw[hn];simp[Looks,af,ag,L0,L1,L3,L9,L12,L17,L18,L19,L20,L21,L22,L23,L37,L38,L39,L49,L50,L51,L88,L89,L90,L98,L99]⟩
      have hn:pR f (whS f) b i=true:=by unfold pR;simp[ci]
      have hii:¬((i:Int)<((nth f.blocks b).ins.length:Int)):=by omega
      simp[x0,si16.len,hii];subst hx;simp;exact hK4 _ _ ⟨W16,View.le_refl _,c16,by rw[hn];simp[Looks]⟩
     rintro ρ h17 ⟨W17,l17,c17,L⟩;have L0:=L (0,vl) V5;have L1:=L (1,vf) V5;have L3:=L (3,ptr F1) V5;have L9:=L (9,ptr B9) V5;have L12:=L (12,ptr B12) V5;have L17:=L (17,ptr C) V5;have L18:=L (18,Vz VA b) V5;have L19:=L (19,ptr B2) V5;have L20:=L (20,Vz VA i) V5;have L21:=L (21,.bool (pR f (whS f) b i)) V5;have L37:=L (37,vl) V5;have L38:=L (38,Vz VA l.length) V5;have L39:=L (39,Vz VA l.length) V5;have L49:=L (49,vb) V5;have L50:=L (50,Vz VA f.blocks.length) V5;have L51:=L (51,Vz VA f.blocks.length) V5;have L88:=L (88,vb) V5;have L89:=L (89,Vz VA f.blocks.length) V5;have L90:=L (90,Vz VA b) V5;have L98:=L (98,Vz VA (((nth f.blocks b).ins.length+1:Nat):Int)) V5;have L99:=L (99,Vz VA i) V5;simp only at L0 L1 L3 L9 L12 L17 L18 L19 L20 L21 L37 L38 L39 L49 L50 L51 L88 L89 L90 L98 L99;have cv17:=cv16.mono l17;have hplc:de f b i=true:=by simp[de];omega
     have hstep : ∀X,vR f (hasS l) b i=X->X=VH->(List.range (i+1)).find? (vR f (hasS l) b)=none:=λX hX hf=>by rw[TD,UI,hno2,Ud,List.find?_singleton,hX,hf];rfl
     subst hy;refine aa λy hy=>?_;cases hn:pR f (whS f) b i with
     | false=>rw[hn]at L21;simp[af,ag,L0,L1,L3,L9,L12,L17,L18,L19,L20,L21,L37,L38,L39,L49,L50,L51,L88,L89,L90,L98,L99];subst hy;simp[af,ag,L0,L1,L3,L9,L12,L17,L18,L19,L20,L21,L37,L38,L39,L49,L50,L51,L88,L89,L90,L98,L99];refine hK3 () _ _ (by simp[af,ag,L0,L1,L3,L9,L12,L17,L18,L19,L20,L21,L37,L38,L39,L49,L50,L51,L88,L89,L90,L98,L99]) (by simp[aY,af,ag,L0,L1,L3,L9,L12,L17,L18,L19,L20,L21,L37,L38,L39,L49,L50,L51,L88,L89,L90,L98,L99]) ⟨W17,Vx l16 l17,c17,hstep _ rfl (by unfold vR;rw[hn];rfl)⟩
     | true=>
      rw[hn]at L21;simp[af,ag,L0,L1,L3,L9,L12,L17,L18,L19,L20,L21,L37,L38,L39,L49,L50,L51,L88,L89,L90,L98,L99,ae c17.wle cv17.can];refine bW (ops:=[.tmp 138,.tmp 139]) (caps:=#[ptr F1,ptr B9,ptr B12,ptr C]) rfl V0 (Ju m hsm hM hd (i+1) (b:=(b:Int)) (i:=(i:Int)) cv17 c17.wle hplc V4) ?_;rintro _ h18 ⟨hle18,rfl⟩;have c18:=c17.ext hle18;have hW18:=c17.up (h':=h18);simp[af,ag,L0,L1,L3,L9,L12,L17,L18,L19,L20,L21,L37,L38,L39,L49,L50,L51,L88,L89,L90,L98,L99];subst hy;cases hcn:canS f (hasS l) (whS f) (i+1) b i with
      | true=>simp[af,ag,L0,L1,L3,L9,L12,L17,L18,L19,L20,L21,L37,L38,L39,L49,L50,L51,L88,L89,L90,L98,L99];refine hK3 () _ _ (by simp[af,ag,L0,L1,L3,L9,L12,L17,L18,L19,L20,L21,L37,L38,L39,L49,L50,L51,L88,L89,L90,L98,L99]) (by simp[aY,af,ag,L0,L1,L3,L9,L12,L17,L18,L19,L20,L21,L37,L38,L39,L49,L50,L51,L88,L89,L90,L98,L99]) ⟨_,Vx l16 (Vx l17 hW18),c18,hstep _ rfl (by unfold vR;rw[hn,hcn];rfl)⟩
      | false=>
       have hbad:vR f (hasS l) b i=true:=by unfold vR;rw[hn,hcn];rfl
       have hrow:xm f (hasS l) b=VC i:=by unfold xm;exact find_range hi hno2 hbad
       have hfirst:ou f (hasS l)=VC (b,i):=by unfold ou;exact yU hb hno (by rw[hrow];rfl)
       rw[hfirst]at hK;simp[af,ag,L0,L1,L3,L9,L12,L17,L18,L19,L20,L21,L37,L38,L39,L49,L50,L51,L88,L89,L90,L98,L99];exact hK _ _ ⟨c18.le0,rfl⟩
    rintro _ h16 ⟨W16,l16,c16,hno2⟩;refine hK2 () _ _ rfl rfl ⟨W16,Vx l1415 l16,c16,?_⟩;rw[TD,Uj,hno,Ud];simp[xm,hno2]
   rintro _ hx ⟨Wx,lx,cx,hno⟩;have e:ou f (hasS l)=none:=hno;rw[e]at hK;simp;subst hz;simp;exact hK _ _ ⟨cx.le0,rfl⟩
 have e:eW l f=((jq l).1,0,0):=by unfold eW;rw[if_pos e1]
 simp[e1];exact hK _ _ ⟨c2.le0,by rw[e]⟩
theorem vu{val:Int}{x:Int × Int}{l:List Th}: ∀{y:WL},x∈l.foldl (tg val) y↔x∈y\/∃t∈l,x=(t.blk,t.place)/\val∈t.tks:=by
 induction l with
 | nil=>simp
 | cons t l ih=>
  intro y;rw[Sx,ih,tg,tU];simp only[Sp,exists_eq_or_imp];constructor
  ·rintro((h | h) | h)
   ·exact .inl h
   ·exact .inr (.inl h)
   exact .inr (.inr h)
  rintro(h | h | h)
  ·exact .inl (.inl h)
  ·exact .inl (.inr h)
  exact .inr h
theorem mC{f:ak}{v:Int}(h:cJ f v=VG){t t':Th}(ht:t∈aC f)(ht':t'∈aC f)(hm:v∈t.mks)(hk:v∈t'.tks):t.blk=t'.blk/\t.place<t'.place:=by
 unfold cJ jw at h;simp only[Se]at h;have hb:=h.1;unfold nB at hb;simp at hb;obtain⟨⟨⟨⟨b1,b2⟩,b3⟩,b4⟩,b5⟩:=hb;have m1:(t.blk,t.place)∈lJ v (aC f):=lE.2 (.inr ⟨t,ht,rfl,hm⟩);have m2:(t'.blk,t'.place)∈kD v (aC f):=vu.2 (.inr ⟨t',ht',rfl,hk⟩);have one : ∀{l:WL} {x:Int × Int},l.length=1->x∈l->nth l 0=x:=by
  intro l x hl hx;match l,hl with
  | [y],_=>simp at hx;rw[hx];rfl
 have e1:=one V4 m1;have e2:=one V4 m2;rw[e1,e2]at b4;rw[e1,e2]at b5;exact⟨b4,by simpa using b5⟩
theorem dF{f:ak}{b k:Nat}(hb:b<f.blocks.length)(hk:k<(nth f.blocks b).ins.length):insT f b k∈aC f:=fe.2 ⟨b,hb,gC.2 (.inr (.inl ⟨k,hk,rfl⟩))⟩
theorem wT{f:ak}{b:Nat}(hb:b<f.blocks.length):endT f b∈aC f:=fe.2 ⟨b,hb,gC.2 (.inr (.inr rfl))⟩
def ownArgs(s:cG):List Int:=if s.term then s.t.args else s.i.args
def zi(f:ak)(args:List Int)(v:Int):Prop:=∃v2 op,v2∈args/\(aK f v2 op).2=VG/\v∈(aK f v2 op).1.args
theorem wD{l:List Int}{v:Int}(h:v∈l.drop 1):v∈l:=List.mem_of_mem_drop h
theorem wF{f:ak}{i:InsD}{m lo hi sg:Int}{x:FitD}(hl:1<=i.args.length)(h:immS f i m lo hi sg=VC x){v:Int}(hv:v∈x.takes):v∈i.args:=by
 unfold immS at h;split at h
 ·cases h;simp at hv;subst hv;exact bh V4
 cases h
theorem Dy{f:ak}{i:InsD}{temp op pl su:Int}{k:Nat}{x:FitD}(hall : ∀i∈ft f,xd i)(hl:1<=i.args.length)(h:memS f i temp op pl su k=VC x){v:Int}(hv:v∈x.takes):v∈i.args\/zi f i.args v:=by
 have h0:nth i.args 0∈i.args:=bh V4;have hin : ∀{j},(aK f (nth i.args 0) 2).2=VG->j<2->zi f i.args (nth (aK f (nth i.args 0) 2).1.args j):=fun{j} hb hj=>by obtain⟨m1,m2,-⟩:=fk hb;have:=(hall _ m1).two V4;exact⟨_,2,h0,hb,bh V4⟩
 match k with
 | 0=>
  simp only[memS]at h;split at h
  ·cases h;rcases Sp.1 hv with rfl | hv
   ·exact .inl h0
   exact .inl (wD hv)
  cases h
 | 1=>
  simp only[memS]at h;split at h
  ·rename_i c;split at h
   ·cases h;rcases Sp.1 hv with rfl | hv
    ·exact .inr (hin c V6)
    exact .inl (wD hv)
   cases h
  cases h
 | 2=>
  simp only[memS]at h;split at h
  ·rename_i c;simp only[Se]at c;cases h;rcases Sp.1 hv with rfl | hv
   ·exact .inr (hin c.1 V6)
   rcases Sp.1 hv with rfl | hv
   ·exact .inr (hin c.1 V6)
   exact .inl (wD hv)
  cases h
 | k+3=>
  simp only[memS]at h;cases h;rcases Sp.1 hv with rfl | hv
  ·exact .inl h0
  exact .inl (wD hv)
theorem GF{s:cG}{pat:Int}{x:FitD}(hok:np s)(ht:zp s.t)(h:tryS s pat=VC x){v:Int}(hv:v∈x.takes):v∈ownArgs s\/zi s.f (ownArgs s) v:=by
 unfold tryS at h;unfold ownArgs;cases htm:s.term with
 | true=>
  rw[htm,if_pos rfl]at h;rw[if_pos rfl];unfold gz at h;split at h
  ·cases h;cases hv
  split at h
  ·cases h;exact .inl hv
  split at h
  ·cases h;cases hv
  split at h
  ·cases h;exact .inl hv
  split at h
  ·rename_i c;split at h
   ·rename_i c2;cases h;exact .inr ⟨_,_,bh (ht.one (.inl c.2)),c2,hv⟩
   cases h
  split at h
  ·cases h;exact .inl hv
  cases h
 | false=>
  rw[htm,if_neg V5]at h;rw[if_neg V5];unfold patS at h;split at h
  ·rename_i c;obtain⟨c1,c2,c3⟩:=c;have hp1:1<=pat.toNat/\pat.toNat<=32:=by omega
   generalize pat.toNat=p at *;have len:16<=p->p<=30->1<=s.i.args.length:=by
    intro h2 h30;have hopr:(2<=s.i.op/\s.i.op<=14)\/s.i.op=16\/s.i.op=15:=by
     rw[c3];unfold opOf;repeat' split
     all_goals omega
    rcases hopr with q | q | q
    ·have:=hok.one.two (.inl q);omega
    ·have:=hok.one.two (.inr (.inl q));omega
    exact hok.one.one q
   unfold doS at h;by_cases p1:p=1
   ·rw[if_pos p1]at h;by_cases q:inR s.i.imm.v (-32768) 32767=VG
    ·rw[if_pos q]at h;cases h;cases hv
    rw[if_neg q]at h;cases h
   rw[if_neg p1]at h;by_cases p2:p=2
   ·rw[if_pos p2]at h;cases h;cases hv
   rw[if_neg p2]at h;by_cases p15:p<=15
   ·rw[if_pos p15]at h;cases h;exact .inl hv
   rw[if_neg p15]at h;by_cases p16:p=16
   ·rw[if_pos p16]at h;exact .inl (wF (len V4 V4) h hv)
   rw[if_neg p16]at h;by_cases p17:p=17
   ·rw[if_pos p17]at h;exact .inl (wF (len V4 V4) h hv)
   rw[if_neg p17]at h;by_cases p18:p=18
   ·rw[if_pos p18]at h;exact .inl (wF (len V4 V4) h hv)
   rw[if_neg p18]at h;by_cases p21:p<=21
   ·rw[if_pos p21]at h;exact .inl (wF (len V4 V4) h hv)
   rw[if_neg p21]at h;by_cases p22:p=22
   ·rw[if_pos p22]at h;by_cases q:(aK s.f (nth s.i.args 0) 4).2=VG
    ·rw[if_pos q]at h;have l1:=len V4 V4;have l2:=hok.one.two (by rw[c3,p22];exact .inl V6);obtain⟨m1,m2,-⟩:=fk q;have l3:=(hok.all _ m1).two V4;cases h;rcases Sp.1 hv with rfl | hv
     ·exact .inr ⟨_,_,bh V4,q,bh V4⟩
     rcases Sp.1 hv with rfl | hv
     ·exact .inr ⟨_,_,bh V4,q,bh V4⟩
     rcases Sp.1 hv with rfl | hv
     ·exact .inl (bh V4)
     cases hv
    rw[if_neg q]at h;cases h
   rw[if_neg p22]at h;by_cases p26:p<=26
   ·rw[if_pos p26]at h;exact Dy hok.all (len V4 V4) h hv
   rw[if_neg p26]at h;by_cases p30:p<=30
   ·rw[if_pos p30]at h;exact Dy hok.all (len V4 V4) h hv
   rw[if_neg p30]at h;by_cases p31:p=31
   ·rw[if_pos p31]at h;cases h;exact .inl hv
   rw[if_neg p31]at h;cases h;exact .inl hv
  cases h
theorem HF{f:ak}(m:jV f)(hsm:SmF f)(hr : ∀i∈ft f,-2147483648<=i.imm.v/\i.imm.v<=2147483647):Down f (whS f):=by
 intro b i pat x v w hpl hx hv hw;obtain⟨h1,h2,h3,h4⟩:=y9 (temp:=0) m hsm hr hpl;obtain⟨b',k',hb',hk',rfl,hd,ho16,ho18,hfo⟩:=JF hw;simp[de]at hpl;obtain⟨⟨⟨g1,g2⟩,g3⟩,g4⟩:=hpl;have hb:b.toNat<f.blocks.length:=by omega
 have made : ∀{b k:Nat} {u:Int},b<f.blocks.length->k<(nth f.blocks b).ins.length->(nth (nth f.blocks b).ins k).dst=u->(nth (nth f.blocks b).ins k).op≠16->u∈(insT f b k).mks:=by intro b k u hb hk hd ho;show u∈bz (nth (nth f.blocks b).ins k);unfold bz;rw[if_neg ho];split<;>simp[hd]
 have hmk:=made hb' hk' hd ho16;obtain⟨t,ht,htb,htp,hta⟩ : ∃t∈aC f,t.blk=b/\t.place=i/\t.tks=ownArgs (eh f b i 0):=by
  unfold ownArgs eh;by_cases e:i=(nth f.blocks b.toNat).ins.length
  ·rw[if_pos e,if_pos rfl];exact⟨_,wT hb,by show((b.toNat:Nat):Int)=b;omega,by show(((nth f.blocks b.toNat).ins.length:Nat):Int)=i;omega,rfl⟩
  rw[if_neg e,if_neg V5];exact⟨_,dF hb (k:=i.toNat) V4,by show((b.toNat:Nat):Int)=b;omega,by show((i.toNat:Nat):Int)=i;omega,rfl⟩
 have key : ∃t2∈aC f,t2.blk=b/\t2.place<=i/\v∈t2.tks:=by
  rcases GF h1 h2 hx hv with hv | ⟨v2,op,hv2,hf2,hv⟩
  ·exact⟨t,ht,htb,by omega,by rw[hta];exact hv⟩
  rw[h4]at hf2 hv;obtain⟨m1,m2,m3,m4,m5⟩:=fk hf2;obtain⟨b2,k2,hb2,hk2,e2⟩:=oz.1 m1;rw[e2]at m4 m5 hv;have hm2:=made hb2 hk2 m4 m5;obtain⟨q1,q2⟩:=mC m3 (dF hb2 hk2) ht hm2 (by rw[hta];exact hv2);exact⟨_,dF hb2 hk2,by rw[q1,htb],by rw[htp]at q2;omega,hv⟩
 obtain⟨t2,ht2,e1,e2,e3⟩:=key;obtain⟨q1,q2⟩:=mC hfo (dF hb' hk') ht2 hmk e3;have q1:(b':Int)=t2.blk:=q1;have q2:(k':Int)<t2.place:=q2;refine⟨?_,by simp only;omega⟩;simp[de];omega
def dU:List Int:=[1,2,1,1,3,1,1,1,1,1,1,1,1,1,12,1,1,1,1,1,1,3,2,2,2,4,1,1,1,3,6,4,1,1,1,1,2]
def allT:List aS:=rows (λi=>⟨(i:Int)+1,nth dU i⟩) 37
theorem Df{W:View}{p c:Int}(hp:I64 p)(hc:I64 c):Rd W (.agg #[Vz VA p,Vz VA c]) (⟨p,c⟩:aS):=by unfold Rd;rw[if_pos (show Rep.agg aS=VG from rfl)];exact⟨_,rfl,[Vz VA p],[Vz VA c],rfl,⟨rfl,hp⟩,rfl,hc⟩
theorem Ah{W:View} : ∀{l:List Int},(∀x∈l,I64 x)->sw W (l.map λc=>Vz VA c) l
 | [],_=>trivial
 | x::l,h=>⟨bu.2 ⟨rfl,h x (Sg ..)⟩,Ah λy hy=>h y (Sa _ hy)⟩
theorem xv: ∀x∈dU,1<=x/\x<=12:=by
 have h:dU.all (λx=>decide (1<=x)&&decide (x<=12))=true:=by kernel_rfl
 exact λx hx=>by simpa using SR.1 h x hx
theorem JJ{h:Heap}:ay VI 27 #[] h (λu h'=>(vw h).le (vw h')/\SlRd (vw h') u allT):=by
 refine ao (args:=[]) follows Tryz.func27 E.iJ Vu λK hK=>?_;dsimp only[L.iJ,lkF,lkG];refine aa λz hz=>?_;simp;subst hz;refine aa λz hz=>?_;simp;subst hz;refine aa λz hz=>?_;simp;refine qM (α:=Int) (ds:=dU) (vs:=dU.map λc=>Vz VA c) (X:=nothing) El.aZ V0 (Ah λx hx=>by have:=xv x hx;constructor<;>omega) rfl V6 V6 λuc h1 hle1 hs1 huc hb1=>?_;have huc:=huc (vw h1) (cB) rfl;have hl:=huc.len (K:=vw h1);have hl37:dU.length=37:=rfl;rw[hl37]at hl;simp[hl];refine aF [0,1,4,5,6] (fun(vo:Value) k=>[VE VD 0 0,vo,uc,Vz VA 37,Vz VA k])
   (λvo k h2=>Mine nothing h1 h2 nothing T.fM vo (rows (λi=>(⟨(i:Int)+1,nth dU i⟩:aS)) k)) 37 (VE VD 0 0)
   rfl V4 rfl (Mine.start cB) (λ_ _=>rfl) (λv i h1 hk m=>by simp) ?_ ?_
 ·rintro vo k h2 hk m K2 hK2;have hle:=m.old;have e1:=huc.idx1 (k:=.i64) (i:=(k:Int)) rfl V4 (by rw[hl37];omega);have e2:=ae hle (huc.int Vw (i:=k) (by rw[hl37];omega));simp only[Sn]at e1;have hc:=xv _ (bh (l:=dU) (i:=k) (by rw[hl37];omega));have ew:IntKind.i64.wrap ((k:Int)+1)=(k:Int)+1:=bj V4 V4;refine aa λy hy=>?_;simp[e1,e2];subst hy;simp[ew];refine aA (t:=T.fM) (z:=zz1) (places:=zpd) (vs:=[(0,Vz VA ((k:Int)+1)),(1,Vz VA (nth dU k))]) (cs:=#[Vz VA ((k:Int)+1),Vz VA (nth dU k)]) V0 V0 V5 V0 ?_;refine m.push (u:=.agg #[Vz VA ((k:Int)+1),Vz VA (nth dU k)]) El.ku V5 (Df (by constructor<;>omega) (by constructor<;>omega)) Vt Vt V8 V8 λu v' h5 m'=>?_;refine hK2 v' _ _ rfl rfl ?_;rw[fJ];exact m'
 rintro vo h2 m;simp;subst hz;simp;exact hK _ _ ⟨Vx hle1 m.old,m.now⟩
theorem Mw{a b:List Int}{va vb:Value}{h:Heap}(ha:SlRd (vw h) va a)(hb:SlRd (vw h) vb b):
  ay VI 33 #[va,vb] h (λu h'=>u = .bool (decide (a=b))/\h'=h):=by
 refine ao (args:=[va,vb]) follows Tryz.func33 E.fq Vu λK hK=>?_;have hbd:=ha.bound;dsimp only[L.fq,lkF,lkG];refine aa λz hz=>?_;simp;subst hz;refine aa λz hz=>?_;by_cases hl:a.length=b.length
 ·have hl':(a.length:Int)=b.length:=by omega
  simp[ha.len,hb.len,hl'];subst hz;refine aa λz hz=>?_;simp;refine dy [0,1,4,5] (fun(_:Unit) i=>[va,vb,.bool VH,Vz VA i]) (λ_ i h3=>h3=h/\∀j,j<i->nth a j=nth b j) a.length ()
   rfl V4 rfl ⟨rfl,λj hj=>by omega⟩ (λ_ _=>rfl) (λv k h3 hk m=>by simp[ha.len]) ?_ ?_
  ·rintro _ i h hlti ⟨rfl,hpre⟩ K2 hK2;have e1:=ha.idx1 rfl (k:=.i64) (i:=(i:Int)) V4 V4;have e2:=hb.idx1 rfl (k:=.i64) (i:=(i:Int)) V4 V4;have e3:=ha.int Vw (i:=i) hlti;have e4:=hb.int Vw (i:=i) V4;simp only[Sn]at e1 e2;by_cases e:nth a i=nth b i
   ·simp[e1,e2,e3,e4,e];refine hK2 () _ _ rfl rfl ⟨rfl,λj hj=>?_⟩;rcases Sb j i with q | q
    ·exact hpre j q
    have:j=i:=by omega
    subst this;exact e
   simp[e1,e2,e3,e4,e];exact hK _ _ ⟨by rw[decide_eq_false];rintro rfl;exact e rfl,rfl⟩
  rintro _ h ⟨rfl,hpre⟩;have he:a=b:=TJ hl λj h1 h2=>by have:=hpre j h1;rwa [az h1,az h2]at this
  simp;subst hz;simp;exact hK _ _ ⟨by rw[decide_eq_true he],rfl⟩
 have hl':¬(a.length:Int)=b.length:=by omega
 simp[ha.len,hb.len,hl'];exact hK _ _ ⟨by rw[decide_eq_false];rintro rfl;exact hl rfl,rfl⟩
section
variable{f:ak}{i:InsD}{b p pat t t':Int}
theorem HE:patS f i t 26=if i.op=15 then VC ⟨nth i.args 0::i.args.drop 1,[],[⟨4,t,0,0,0,0,i.imm,[]⟩,gM i 15 24 ⟨25,0,0,nth i.args 0,t,0,⟨0⟩,[]⟩],cT⟩ else none:=by
 unfold patS;by_cases h:i.op=15
 ·rw[if_pos ⟨by decide,by decide,h⟩,if_pos h];rfl
 rw[if_neg (λc=>h c.2.2),if_neg h]
theorem HN:patS f i t 30=if i.op=16 then VC ⟨nth i.args 0::i.args.drop 1,[],[⟨4,t,0,0,0,0,i.imm,[]⟩,gM i 16 26 ⟨27,0,0,nth i.args 0,t,0,⟨0⟩,[]⟩],cT⟩ else none:=by
 unfold patS;by_cases h:i.op=16
 ·rw[if_pos ⟨by decide,by decide,h⟩,if_pos h];rfl
 rw[if_neg (λc=>h c.2.2),if_neg h]
theorem BC{x:db}(hp:pat=26\/pat=30):gz f x pat=none:=by unfold gz;rw[if_neg V4,if_neg V4,if_neg V4,if_neg V4,if_neg V4,if_neg V4]
theorem IS(hp:pat=26\/pat=30):(dV f b p pat t=VD/\dV f b p pat t'=VD)\/(p<(nth f.blocks b.toNat).ins.length/\0<=p/\0<=b/\b<f.blocks.length/\∃x y c2 c2',dV f b p pat t=VC x/\dV f b p pat t'=VC y/\x.fin=y.fin/\
  x.code=[⟨4,t,0,0,0,0,(nth (nth f.blocks b.toNat).ins p.toNat).imm,[]⟩,c2]/\y.code=[⟨4,t',0,0,0,0,(nth (nth f.blocks b.toNat).ins p.toNat).imm,[]⟩,c2']/\c2.b=t/\c2'.b=t'):=by
 unfold dV;by_cases c:(de f b p&&pG f)=VG
 ·rw[if_pos c,if_pos c];have c1:de f b p=true:=by simp at c;exact c.1
  simp[de]at c1;unfold tryS eh;by_cases e:p=(nth f.blocks b.toNat).ins.length
  ·rw[if_pos e,if_pos e];exact .inl ⟨BC hp,BC hp⟩
  rw[if_neg e,if_neg e];simp only[Ts,if_false];rcases hp with rfl | rfl
  ·rw[HE,HE];by_cases o:(nth (nth f.blocks b.toNat).ins p.toNat).op=15
   ·rw[if_pos o,if_pos o];exact .inr ⟨by omega,by omega,by omega,by omega,_,_,_,_,rfl,rfl,rfl,rfl,rfl,rfl,rfl⟩
   rw[if_neg o,if_neg o];exact .inl ⟨rfl,rfl⟩
  rw[HN,HN];by_cases o:(nth (nth f.blocks b.toNat).ins p.toNat).op=16
  ·rw[if_pos o,if_pos o];exact .inr ⟨by omega,by omega,by omega,by omega,_,_,_,_,rfl,rfl,rfl,rfl,rfl,rfl,rfl⟩
  rw[if_neg o,if_neg o];exact .inl ⟨rfl,rfl⟩
 rw[if_neg c,if_neg c];exact .inl ⟨rfl,rfl⟩
end
theorem GM{H:View}{op dst two:Int}{va:Value}{l:List Int}{imm:I32}(h1:I64 op)(h2:I64 dst)(h3:I64 two)(h4:SlRd H va l)(h5:-2147483648<=imm.v/\imm.v<=2147483647):Rd H (.agg #[Vz VA op,Vz VA dst,Vz VA two,va,Vz VB imm.v]) (InsD.mk op dst two l imm):=
 ⟨_,rfl,[Vz VA op],_,rfl,⟨rfl,h1⟩,[Vz VA dst],_,rfl,⟨rfl,h2⟩,[Vz VA two],_,rfl,⟨rfl,h3⟩,[va],_,rfl,⟨va,rfl,h4⟩,rfl,h5⟩
theorem NI{H:View}{vp vi va vt:Value}{p:List PhiD}{i:List InsD}{a t:List Int}{kd:Int}{imm:I32}(h1:SlRd H vp p)(h2:SlRd H vi i)(h3:SlRd H va a)(h4:SlRd H vt t)(h5:I64 kd)(h6:-2147483648<=imm.v/\imm.v<=2147483647):Rd H (.agg #[vp,vi,Vz VA kd,va,vt,Vz VB imm.v]) (BlkD.mk p i ⟨kd,a,t,imm⟩):=
 ⟨_,rfl,[vp],_,rfl,⟨vp,rfl,h1⟩,[vi],_,rfl,⟨vi,rfl,h2⟩,[Vz VA kd],_,rfl,⟨rfl,h5⟩,[va],_,rfl,⟨va,rfl,h3⟩,[vt],_,rfl,⟨vt,rfl,h4⟩,rfl,h6⟩
variable{vb:Value}
theorem Ex{H:View}{p:Int}{l:List BlkD}(h1:I64 p)(h2:SlRd H vb l):Rd H (.agg #[Vz VA p,vb]) (ak.mk p l):=
 ⟨_,rfl,[Vz VA p],_,rfl,⟨rfl,h1⟩,vb,rfl,h2⟩
theorem SlRd.ex{α:Type}[Rep α]{H:View}{v:Value}{l:List α}(s:SlRd H v l): ∃a n c,v = .slice a n c:=let ⟨a,c,e,_⟩:=s;⟨a,_,c,e⟩
theorem PV{a:List Int}{va:Value}{h:Heap}(ha:SlRd (vw h) va a)(hb:SlRd (vw h) vb a):ay VI 33 #[va,vb] h (λu h'=>u = .bool VG/\h'=h):=
 (Mw ha hb).mono λu h' ⟨h1,h2⟩=>⟨by rw[h1,decide_eq_true rfl],h2⟩
section
variable{s:List Int}{M:Nat}{vs:Value}{W:View}{h:Heap}{o:Own}{m:MS}
theorem MkB.boxed{vl:Value}{lb:List BlkM}(bb:MkB M vs m o vb vl lb)(m':MS)(h1:m'.blocks=m.blocks)(h2:m'.live=m.live):MkB M vs m' (o.upd (0,0) (bx T.bE M (RawN.mk (n:=5) (mkL vs m'.at_ m'.ps vb m'.next vl)))) vb vl lb:=
 ⟨rfl,by rw[h2];exact bb.live,bb.blk,by rw[h1];exact bb.len,by rw[h1];exact bb.term,by rw[h1];exact λi hi=>bb.phis i hi,by rw[h1];exact λi hi=>bb.ins i hi⟩
end
def jr(R:Nat)(i10:Own):Own:=λk=>if k=(8,0) then bx T.gB R (RawN.mk (n:=1) [Vz VA 0,VE VD 0 0]) else if 10<=k.1 then i10 k else VD
structure FnB(o:Own)(vb:Value)(lb:List BlkM)(f:ak):Prop where
 blk:o (0,2)=it T.fi vb lb
 len:lb.length=f.blocks.length
 term : ∀i,i<f.blocks.length->(nth lb i).term=(nth f.blocks i).term
 phis : ∀i,i<f.blocks.length->o (1,i)=it T.iZ (nth lb i).phis.v (nth f.blocks i).phis
 ins : ∀i,i<f.blocks.length->o (2,i)=it T.fj (nth lb i).ins.v (nth f.blocks i).ins
theorem Pl{H:View}{lb:List BlkM}{f:ak}(h0:SlRd H vb lb)(hl:lb.length=f.blocks.length)(ht : ∀i,i<f.blocks.length->(nth lb i).term=(nth f.blocks i).term)(h1 : ∀i,i<f.blocks.length->SlRd H (nth lb i).phis.v (nth f.blocks i).phis)(h2 : ∀i,i<f.blocks.length->SlRd H (nth lb i).ins.v (nth f.blocks i).ins):SlRd H vb f.blocks:=by refine CG h0 rfl hl λi g1 g2 cs hr=>?_;have:=DS hr (p:=(nth f.blocks i).phis) (i:=(nth f.blocks i).ins) (by have:=h1 i g2;rwa [az g1]at this) (by have:=h2 i g2;rwa [az g1]at this);have ht:=ht i g2;rw[az g1]at ht;rw[ht]at this;rw[<-az g2];exact this
theorem FnB.freeze{W:View}{h:Heap}{o o0:Own}{lb:List BlkM}{f:ak}(b:FnB o vb lb f)(w:Owns W h o)(ho : ∀k:Key,3<=k.1->o k=o0 k)(ho0 : ∀k:Key,k.1<3->o0 k=VD): ∃W',W.le W'/\Owns W' h o0/\SlRd W' vb f.blocks:=by
 obtain⟨W17,hW17,w17,fr⟩:=w.AN (λk=>decide (k.1<3));refine⟨W17,hW17,w17.sub λk i hk=>?_,Pl (fr (k:=(0,2)) V5 b.blk) b.len b.term (λi hi=>fr (k:=(1,i)) V5 (b.phis i hi)) λi hi=>fr (k:=(2,i)) V5 (b.ins i hi)⟩;rcases Sb k.1 3 with e | e
 ·rw[ho0 k e]at hk;cases hk
 have h2:¬k.1<3:=by omega
 simp only[h2,decide_false,Ts,if_false];rw[ho k e];exact hk
theorem Lg{s:List Int}{vs:Value}{h:Heap}{W:View}{o0:Own}(w0:Owns W h o0)(ho0 : ∀k:Key,k.1<10->o0 k=VD)(hs:SlRd W vs s):
  ay VI 11 #[vs] h (λu h'=>∃W' o vb lb,W.le W'/\Owns W' h' o/\(∀k:Key,3<=k.1->o k=o0 k)/\FnB o vb lb (sZ s)/\u = .agg #[Vz VA (sZ s).params,vb]):=by
 refine ao (args:=[vs]) follows Tryz.func11 E.au Vu λK hK=>?_;have hs0:=hs;obtain⟨sa,sc,rfl,_⟩:=hs0;dsimp only[L.au,lkF,lkG];refine aa λz hz=>?_;simp;refine w0.cV (k:=(8,0)) (n:=1) (z:=.agg #[Vz VA 0,VE VD 0 0]) (ho0 _ V6) V0 rfl V6 Vs λh1 q1 w1=>?_;generalize h.size=R at w1;subst hz;refine aa λz hz=>?_;simp;refine aA (z:=zz12) (places:=[(0,1),(1,1),(2,2),(4,1),(5,1)]) (vs:=[(0,.slice sa s.length sc)]) (cs:=#[.slice sa s.length sc,Vz VA 0,Vz VA 0,VE VD 0 0,Vz VA 0,VE VD 0 0]) V0 V0 V5 V0 ?_;generalize s.length=sl at hs;refine ef rfl ?_;have hbx:(h1.push (.cells (Value.agg #[.slice sa sl sc,Vz VA 0,Vz VA 0,VE VD 0 0,Vz VA 0,VE VD 0 0]).cells T.bE))[h1.size]? = VC (.cells (Value.agg #[.slice sa sl sc,Vz VA 0,Vz VA 0,VE VD 0 0,Vz VA 0,VE VD 0 0]).cells T.bE (0,0)):=by simp
 have hle2:=b8 h1 (.cells (Value.agg #[.slice sa sl sc,Vz VA 0,Vz VA 0,VE VD 0 0,Vz VA 0,VE VD 0 0]).cells T.bE);have hbg : ∀b,(VE (VC ⟨h1.size,0,VD⟩) 1 1).ownBlock=VC b->h1.size<=b:=λb hb=>by simp only[Value.ownBlock,RW]at hb;omega
 show LC.wp VI z _ _ (h1.push (.cells (Value.agg #[.slice sa sl sc,Vz VA 0,Vz VA 0,VE VD 0 0,Vz VA 0,VE VD 0 0]).cells T.bE));generalize h1.push (.cells (Value.agg #[.slice sa sl sc,Vz VA 0,Vz VA 0,VE VD 0 0,Vz VA 0,VE VD 0 0]).cells T.bE)=h2 at hbx hle2;have w2:=w1.add (k:=(0,0)) ((Own.aB V5).trans (ho0 _ V6)) (iL (W:=W) (d:=RawN.mk (n:=5) [.slice sa sl sc,Vz VA 0,Vz VA 0,VE VD 0 0,Vz VA 0,VE VD 0 0]) hbx (j9 rfl Vr) V6) hle2 hbg;generalize h1.size=M at w2;generalize hvs:Value.slice sa sl sc=vs at hs w2;obtain⟨m0,hm0⟩ : ∃m0:MS,m0=⟨0,0,[],0,[]⟩:=⟨_,rfl⟩;obtain⟨o2,ho2⟩ : ∃o2:Own,o2=λk=>if k=(0,0) then bx T.bE M (RawN.mk (n:=5) (mkL vs 0 0 (VE VD 0 0) 0 (VE VD 0 0))) else if k=(0,1) then it T.int (VE VD 0 0) ([]:List Int) else if k=(0,2) then it T.fi (VE VD 0 0) ([]:List BlkM) else jr R o0 k:=⟨_,rfl⟩;have w2:Owns W h2 o2:=w2.nils λk i hk=>by
  rw[ho2]at hk;dsimp only at hk;split at hk
  ·rename_i e;rw[e];exact .inl hk
  rename_i e0;split at hk
  ·cases hk;exact .inr ⟨rfl,OwnT.nil (α:=Int) _ _ _⟩
  split at hk
  ·cases hk;exact .inr ⟨rfl,OwnT.nil (α:=BlkM) _ _ _⟩
  refine .inl ?_;rw[Own.aB e0];by_cases e8:k=(8,0)
  ·subst e8;exact hk
  rw[Own.aB e8];unfold jr at hk;rw[if_neg e8]at hk;split at hk
  ·exact hk
  cases hk
 have w2:Mk s M vs W h2 o2 m0:=⟨w2,hs,VE VD 0 0,VE VD 0 0,[],by rw[ho2,hm0];rfl,by rw[ho2,hm0];rfl,by rw[ho2];rfl,by rw[hm0];rfl,λi hi=>by rw[hm0]at hi;simp at hi,λi hi=>by rw[hm0]at hi;simp at hi,λi hi=>by rw[hm0]at hi;simp at hi⟩;have f2 : ∀k:Key,3<=k.1->o2 k=jr R o0 k:=λk hk=>by rw[ho2];dsimp only;rw[if_neg (by rintro rfl;simp at hk),if_neg (by rintro rfl;simp at hk),if_neg (by rintro rfl;simp at hk)]
 clear w1 hbx hbg hle2 q1 ho2;subst hz;refine aa λz hz=>?_;simp;refine ah V0 (w2.take (by rw[hm0];decide) (n:=5) V6 V6) ?_;rintro _ h3 ⟨rfl,o3,w3,f3⟩;have tv:=bU (s:=s) (at_:=m0.at_) (n:=5) V6;obtain⟨vb,vl,lb,bb⟩:=w3.box;refine w3.own.dT (k:=(0,0)) (n:=5) (i:=2) (e:=T.bE) (B:=M) (l:=mkL vs m0.took.at_ m0.took.ps vb m0.took.next vl) bb.box V6 V0 rfl rfl rfl λh4 w4 _=>?_;have b4:=bb.boxed ⟨m0.took.at_,aG s m0.at_ 5,m0.took.blocks,m0.took.next,m0.took.live⟩ rfl rfl;subst hz;refine aa λz hz=>?_;have w4:Mk s M vs W h4 _ _:=⟨w4,w3.src,vb,vl,lb,b4⟩;have rd:=w4.reads b4;simp[rd.ps];refine w4.own.dT (k:=(0,0)) (n:=5) (i:=4) (e:=T.bE) (B:=M) (l:=mkL vs m0.took.at_ (aG s m0.at_ 5) vb m0.took.next vl) b4.box V6 V0 rfl rfl rfl λh5 w5 _=>?_;have b5:=b4.boxed ⟨m0.took.at_,aG s m0.at_ 5,m0.took.blocks,aG s m0.at_ 5,m0.took.live⟩ rfl rfl;have w5:Mk s M vs W h5 _ _:=⟨w5,w3.src,vb,vl,lb,b5⟩;obtain⟨o5,ho5⟩ : ∃o5,o5=(o3.upd (0,0) (bx T.bE M (RawN.mk (n:=5) (mkL vs m0.took.at_ (aG s m0.at_ 5) vb m0.took.next vl)))).upd (0,0) (bx T.bE M (RawN.mk (n:=5) (mkL vs m0.took.at_ (aG s m0.at_ 5) vb (aG s m0.at_ 5) vl))):=⟨_,rfl⟩;have f5 : ∀k:Key,3<=k.1->o5 k=jr R o0 k:=λk hk=>by rw[ho5,Own.aB (by rintro rfl;simp at hk),Own.aB (by rintro rfl;simp at hk),f3 k hk,f2 k hk]
 rw[hm0]at w5;have w5:Mk s M vs W h5 o5 ⟨1,aG s 0 5,[],aG s 0 5,[]⟩:=by rw[ho5,hm0];exact w5
 clear b5 b4 rd w4 bb w3 f3 w2 f2 ho5 hvs;subst hz;refine aa λz hz=>?_;simp;refine ah V0 (w5.take (show 1<=_ by omega) (n:=9) V6 V6) ?_;rintro _ h6 ⟨rfl,o6,w6,f6⟩;have w6:Mk s M vs W h6 o6 (yu s):=w6;have f6 : ∀k:Key,3<=k.1->o6 k=jr R o0 k:=λk hk=>(f6 k hk).trans (f5 k hk);clear w5 f5;have hN:=I6 (s:=s);obtain⟨n1,n2⟩:=fT (s:=s);have hw:IntKind.i64.wrap (1+aG s 1 9)=(aT s:Nat):=by rw[hN];exact bj V4 V4
 simp[hw];subst hz;refine aa λz hz=>?_;simp;refine ah V0 (GI (ri:=jr R o0) w6 (λk hk=>f6 k V4) (λk h1 h2=>(f6 k h1).trans (by unfold jr;rw[if_neg (by rintro rfl;simp at h2),if_neg V4])) (n:=aT s) EC V4 n1 V4) ?_;rintro vt h7 ⟨W7,o7,g7,w7,r7,e7,st⟩;have w7:Mk s M vs W7 h7 o7 (fA s).2:=w7;have st:SlRd W7 vt (fA s).1:=st;have f7 : ∀k:Key,3<=k.1->o7 k=jr R o0 k:=λk hk=>by
  by_cases e:8<=k.1
  ·exact r7 k e
  rw[e7 k hk V4];unfold jr;rw[if_neg (by rintro rfl;simp at e),if_neg V4]
 clear r7 e7 w6 f6;have k1:=Cd (s:=s);have s4:=uL (s:=s);subst hz;refine aa λz hz=>?_;simp;refine oZ (α:=BlkM) (W:=W7) (k:=.i64) (n:=aT s) (d:=⟨⟨VE VD 0 0⟩,⟨VE VD 0 0⟩,⟨0,[],[],⟨0⟩⟩⟩) El.oQ V7 V7 ⟨[VE VD 0 0],_,rfl,⟨rfl,rfl⟩,[VE VD 0 0],_,rfl,⟨rfl,rfl⟩,[Vz VA 0],_,rfl,⟨rfl,by decide,by decide⟩,[VE VD 0 0],_,rfl,⟨_,rfl,aL⟩,[VE VD 0 0],_,rfl,⟨_,rfl,aL⟩,rfl,by decide,by decide⟩ V4 V4 λvb8 h8 ob8 m8 hle8 hb8=>?_;obtain⟨vb,vl,lb,bb⟩:=w7.box;have wa:=w7.own.sub (o':=o7.upd (0,2) VD) λj i hj=>by
  unfold Own.upd at hj;split at hj
  ·cases hj
  exact hj
 have wb:=wa.add (k:=(0,2)) Own.an ob8 hle8 (λb hb=>by rw[hb8]at hb;cases hb;exact RX _);have hv8:=(wb.cells (k:=(0,2)) Own.an).2;obtain⟨o8,ho8⟩ : ∃o8:Own,o8=λk=>if k.1=1/\k.2<aT s then it T.iZ (VE VD 0 0) ([]:List PhiD) else if k.1=2/\k.2<aT s then it T.fj (VE VD 0 0) ([]:List InsD) else o7.upd (0,2) (it T.fi vb8 (List.replicate (aT s) (BlkM.mk ⟨VE VD 0 0⟩ ⟨VE VD 0 0⟩ ⟨0,[],[],⟨0⟩⟩))) k:=⟨_,rfl⟩;have w8:Owns W7 h8 o8:=wb.nils λk i hk=>by
  rw[ho8]at hk;dsimp only at hk;split at hk
  ·cases hk;exact .inr ⟨rfl,OwnT.nil (α:=PhiD) _ _ _⟩
  split at hk
  ·cases hk;exact .inr ⟨rfl,OwnT.nil (α:=InsD) _ _ _⟩
  refine .inl ?_;by_cases e:k=(0,2)
  ·subst e;rw[Own.an]at hk ⊢;exact hk
  rw[Own.aB e]at hk;rw[Own.aB e,Own.aB e];exact hk
 have c8 : ∀k:Key,¬(k.1=1/\k.2<aT s)->¬(k.1=2/\k.2<aT s)->o8 k=o7.upd (0,2) (it T.fi vb8 (List.replicate (aT s) (BlkM.mk ⟨VE VD 0 0⟩ ⟨VE VD 0 0⟩ ⟨0,[],[],⟨0⟩⟩))) k:=λk h1 h2=>by rw[ho8];dsimp only;rw[if_neg h1,if_neg h2]
 refine w8.dT (k:=(0,0)) (n:=5) (i:=3) (e:=T.bE) (B:=M) (l:=mkL vs (fA s).2.at_ (fA s).2.ps vb (fA s).2.next vl) (by rw[c8 _ V5 V5,Own.aB V5];exact bb.box) V6 V0 rfl rfl hv8 λh9 w9 _=>?_;obtain⟨o9,ho9⟩ : ∃o9:Own,o9=o8.upd (0,0) (bx T.bE M (RawN.mk (n:=5) (mkL vs (fA s).2.at_ (fA s).2.ps vb8 (fA s).2.next vl))):=⟨_,rfl⟩;have w9:Owns W7 h9 o9:=by rw[ho9];exact w9
 have b9:MkB M vs { (fA s).2 with blocks:=List.replicate (aT s) sL } o9 vb8 vl (List.replicate (aT s) (BlkM.mk ⟨VE VD 0 0⟩ ⟨VE VD 0 0⟩ ⟨0,[],[],⟨0⟩⟩)):=by
  rw[ho9];refine⟨rfl,?_,?_,by simp,λi hi=>?_,λi hi=>?_,λi hi=>?_⟩
  ·rw[Own.aB V5,c8 _ V5 V5,Own.aB V5];exact bb.live
  ·rw[Own.aB V5,c8 _ V5 V5,Own.an]
  ·have hi:i<aT s:=by simpa using hi
   rw[aD hi,aD hi];rfl
  ·have hi:i<aT s:=by simpa using hi
   rw[Own.aB V5,ho8];dsimp only;rw[if_pos ⟨rfl,hi⟩,aD hi,aD hi];rfl
  have hi:i<aT s:=by simpa using hi
  rw[Own.aB V5,ho8];dsimp only;rw[if_neg V5,if_pos ⟨rfl,hi⟩,aD hi,aD hi];rfl
 have x9:Nx s M vs W7 h9 (jr R o0) { (fA s).2 with blocks:=List.replicate (aT s) sL }:=⟨W7,o9,View.le_refl _,⟨w9,w7.src,vb8,vl,_,b9⟩,λk hk=>by rw[ho9,Own.aB (by rintro rfl;simp at hk),c8 _ V4 V4,Own.aB (by rintro rfl;simp at hk)];exact f7 k hk⟩;clear b9 w9 ho9 c8 w8 ho8 wb wa hv8 bb ob8 m8 hle8 hb8 w7 f7;subst hz;refine aa λz hz=>?_;refine aa λy hy=>?_;simp;subst hy;refine NZ (vr:=ptz R) st k1.len x9 V5 V4 (by simp[aY,af,ag]) λh10 x10=>?_;have x10:Nx s M vs W7 h10 (jr R o0) (ny s):=x10;clear x9;simp;subst hz;refine aa λz hz=>?_;simp;obtain⟨Wa,oa,ga,wa,fa⟩:=x10;refine oZ (α:=Int) (W:=Wa) (k:=.i64) (n:=aT s) (d:=0) El.aZ V7 V7 ⟨rfl,by decide,by decide⟩ V4 V4 λvp h11 ob11 m11 hle11 hb11=>?_;have x11:Nx s M vs W7 h11 ((jr R o0).upd (5,0) (it T.int vp (List.replicate (aT s) (0:Int)))) (ny s):=by
  have w11:=wa.own.add (k:=(5,0)) ((fa _ V6).trans rfl) ob11 hle11 (λb hb=>by rw[hb11]at hb;cases hb;exact RX _);obtain⟨vb,vl,lb,bb⟩:=wa.box;refine⟨Wa,_,ga,⟨w11,wa.src,vb,vl,lb,bb.frame λq hq=>Own.aB (by rintro rfl;simp at hq)⟩,λq hq=>?_⟩;unfold Own.upd;split
  ·rfl
  exact fa q hq
 clear wa fa ob11 m11 hb11;subst hz;refine aa λz hz=>?_;refine aa λy hy=>?_;simp;subst hy;obtain⟨z2,g2⟩:=D9 (s:=s);have p0:Ph (aT s) 200 0 (List.replicate (aT s) (0:Int),ny s):=by
  have hz : ∀j,nth (List.replicate (aT s) (0:Int)) j=0:=λj=>by
   rcases Sb j (aT s)with hj | hj
   ·rw[aD hj]
   rw[bK (by simpa using hj)];rfl
  exact⟨z2,by simp,λj _=>hz j,λj=>by show 0<=nth (List.replicate _ (0:Int)) j/\nth (List.replicate _ (0:Int)) j<=3;rw[hz];omega⟩
 refine NM (x0:=(List.replicate (aT s) (0:Int),ny s)) (vr:=ptz R) (vt:=vt) (vp:=vp) x11 p0 n1 V4 V4 (by simp[aY,af,ag]) λh12 x12=>?_;have x12:Nx s M vs W7 h12 ((jr R o0).upd (5,0) (it T.int vp (gL s).1)) (gL s).2:=x12;obtain⟨ph,pc,g3⟩:=sv (s:=s);clear p0 x11 z2 g2;simp;subst hz;refine aa λz hz=>?_;simp;obtain⟨Wa,oa,ga,wa,fa⟩:=x12;refine oZ (α:=Bool) (W:=Wa) (k:=.i64) (n:=aT s) (d:=false) El.qG V7 V7 rfl V4 V4 λvd h13 ob13 m13 hle13 hb13=>?_;have x13:Nx s M vs W7 h13 (((jr R o0).upd (5,0) (it T.int vp (gL s).1)).upd (6,0) (it T.bool vd (List.replicate (aT s) VH))) (gL s).2:=by
  have w13:=wa.own.add (k:=(6,0)) ((fa _ V6).trans rfl) ob13 hle13 (λb hb=>by rw[hb13]at hb;cases hb;exact RX _);obtain⟨vb,vl,lb,bb⟩:=wa.box;refine⟨Wa,_,ga,⟨w13,wa.src,vb,vl,lb,bb.frame λq hq=>Own.aB (by rintro rfl;simp at hq)⟩,λq hq=>?_⟩;unfold Own.upd;split
  ·rfl
  exact fa q hq
 clear wa fa ob13 m13 hb13;subst hz;refine aa λz hz=>?_;refine aa λy hy=>?_;simp;subst hy;refine Ms (a:=16000) (p:=27) (x0:=(List.replicate (aT s) VH,(gL s).2)) (vr:=ptz R) (vp:=vp) x13 st k1.len rfl rfl rfl Ed n2 V4 V4 V4 (by simp[aY,af,ag]) λh14 x14=>?_;have x14:Nx s M vs W7 h14 (((jr R o0).upd (5,0) (it T.int vp (gL s).1)).upd (6,0) (it T.bool vd (pM s).1)) (pM s).2:=x14;obtain⟨q4,pc4⟩:=zz (s:=s);clear x13 pc g3;simp;subst hz;refine aa λz hz=>?_;refine aa λy hy=>?_;simp;subst hy;refine JP (vr:=ptz R) (vt:=vt) (vp:=vp) (vd:=vd) (lp:=(gL s).1) x14 ((Own.aB V5).trans Own.an) rfl rfl q4 pc4 ph.len ph.rng n1 n2 V4 V4 V4 V4 (by simp[aY,af,ag]) λh15 x15=>?_;have x15:Nx s M vs W7 h15 (((jr R o0).upd (5,0) (it T.int vp (gL s).1)).upd (6,0) (it T.bool vd (pM s).1)) (iK s):=x15;have q5:=rM (s:=s);clear x14 q4 pc4 ph;simp;subst hz;refine aa λz hz=>?_;obtain⟨Wa,oa,ga,wa,fa⟩:=x15;obtain⟨vb,vl,lb,bb⟩:=wa.box;have rd:=wa.reads bb;simp[rd.f];have hvb:vb.oneCell'=true:=rd.blk.cells.2;refine wa.own.cz (k:=(8,0)) (α:=RawN 1) (β:=RawN 1) Part.all (B:=R) (D:=RawN.mk (n:=1) [Vz VA 0,VE VD 0 0]) (d:=RawN.mk (n:=1) [Vz VA (iK s).ps,vb]) ((fa _ V6).trans rfl) V0 rfl rfl (j9 rfl (by intro c hc;simp only[Sp,Uq,or_false]at hc;rcases hc with rfl | rfl<;>first | rfl | exact hvb)) λh16 w16 _=>?_;have c16:=w16.zF (k:=(8,0)) (n:=1) (l:=[Vz VA (iK s).ps,vb]) Own.an;have c16:Un.ev (vw h16) (.bI 2) (ptz R)=VC (.agg #[Vz VA (iK s).ps,vb]):=c16;have b16:=bb.frame (o':=oa.upd (8,0) (bx T.gB R (RawN.mk (n:=1) [Vz VA (iK s).ps,vb]))) λq hq=>Own.aB (by rintro rfl;simp at hq);have w16:Mk s M vs Wa h16 _ (iK s):=⟨w16,wa.src,vb,vl,lb,b16⟩;have rd16:=w16.reads b16;subst hz;simp[c16];refine hK _ _ ⟨Wa,λk=>if 3<=k.1 then o0 k else if k=(0,2)\/k.1=1\/k.1=2 then oa k else VD,vb,lb,Vx g7 ga,w16.own.sub λk i hk=>?_,λk hk=>if_pos hk,⟨?_,b16.len,b16.term,λi hi=>?_,λi hi=>?_⟩,rfl⟩
 ·split at hk
  ·rename_i e3;rcases Sb k.1 10 with e | e
   ·rw[ho0 k e]at hk;cases hk
   have h1:oa k=o0 k:=(fa k V4).trans (by rw[Own.aB (by rintro rfl;simp at e),Own.aB (by rintro rfl;simp at e)];unfold jr;rw[if_neg (by rintro rfl;simp at e),if_pos e]);rw[Own.aB (by rintro rfl;simp at e),h1];exact hk
  rename_i e3;split at hk
  ·rw[Own.aB (by rintro rfl;simp at e3)];exact hk
  cases hk
 ·have:=b16.blk;rw[Own.aB V5]at this;simpa using this
 ·have:=b16.phis i hi;rw[Own.aB V5]at this;exact(by simp:_=oa (1,i)).trans this
 have:=b16.ins i hi;rw[Own.aB V5]at this;exact(by simp:_=oa (2,i)).trans this
theorem Ml{s:List Int}{vs:Value}{h:Heap}{W:View}{o0:Own}(w0:Owns W h o0)(ho0 : ∀k:Key,k.1<10->o0 k=VD)(hs:SlRd W vs s):
  ay VI 11 #[vs] h (λu h'=>∃W',W.le W'/\Owns W' h' o0/\Rd W' u (sZ s)):=by refine(Lg w0 ho0 hs).mono ?_;rintro u h' ⟨W1,o,vb,lb,hW,w,ho,b,rfl⟩;obtain⟨W2,hW2,w2,sb⟩:=b.freeze w ho λk hk=>ho0 k V4;have mp:=xS (s:=s);have mi:I64 (sZ s).params:=V9;exact⟨W2,Vx hW hW2,w2,⟨_,rfl,[Vz VA (sZ s).params],[vb],rfl,⟨rfl,mi⟩,vb,rfl,sb⟩⟩
end Go.Lft
namespace Go.Lft
section
variable{po po2:OP}{W:View}{h h':Heap}{o:Own}{k:Key}{P:Program}{ty:TypeId}{us:List (Nat × Value)}
theorem Owns.kg{α:Type}[Rep α]{e:TypeId}{B:Nat}{d:α}(w:Owns W h o)(hk:o k=bx e B d) : ∃W',W.le W'/\Owns W' h (o.upd k VD)/\At W' ⟨B,0,VD⟩ d:=by obtain⟨w1,s1⟩:=w.freeze (v:=VE (VC ⟨B,0,VD⟩) 1 1) (l:=[d]) hk;refine⟨_,ij (w.av k _ hk),w1,?_⟩;have:=s1.at (i:=0) V5;simpa[slA,Addr.z]using this
end
theorem LN{h:Heap}:ay VI 45 #[] h (λu h'=>(vw h).le (vw h')/\u = .agg (dU.map λc=>Vz VA c).toArray):=by refine ao (args:=[]) follows Tryz.func45 E.pb Vu λK hK=>?_;dsimp only[L.pb,lkF,lkG];have c0:=Cx.start (h:=h) (View.le_refl (vw h));refine aa λz hz=>?_;simp;refine c0.cV (k:=(0,0)) (n:=36) (z:=.agg (List.replicate 37 (Vz VA 0)).toArray) rfl V0 V0 V6 (by have:(Value.agg (List.replicate 37 (Vz VA 0)).toArray).cells.toList=List.replicate 37 (Vz VA 0):=rfl;rw[this];intro c hc;rw[List.eq_of_mem_replicate hc];rfl) λR h1 hle1 c1=>?_;subst hz;refine aa λz hz=>?_;simp;refine aA (t:=T.HJ) (z:=.agg (List.replicate 37 (Vz VA 0)).toArray) (places:=(List.range 37).map λi=>(i,1)) (vs:=(((dU.map λc=>Vz VA c).zipIdx 0).map λp=>(p.2,p.1))) (cs:=(dU.map λc=>Vz VA c).toArray) V0 V0 V0 V0 ?_;refine c1.uq (k:=(0,0)) (n:=36) (l':=dU.map λc=>Vz VA c) V7 V0 V5 V5 rfl (λc hc=>by obtain⟨x,_,rfl⟩:=SZ.1 hc;rfl) λh2 c2=>?_;subst hz;have hall:=c2.all (k:=(0,0)) (n:=36) (l:=dU.map λc=>Vz VA c) (B:=R) (e:=T.HJ) V7;simp at hall;simp[hall];exact hK _ _ ⟨c2.le0,by simp⟩
section
variable{po po2:OP}{V W:View}{h0 h h':Heap}{o:Own}{k:Key}{P:Program}{ty:TypeId}{us:List (Nat × Value)}
theorem Cx.JI{α:Type}[Rep α]{t:TypeId}{x:Operand}{v:Value}{d:α}{K:Value->Heap->Prop}(c:Cx V h0 W h o)(hk:o k=VD)(hx:asg us x=v)(hv:Rd W v d)(hn:Rep.n α<=1000)
  (hK : ∀B h',(vw h).le (vw h')->Cx V h0 W h' (o.upd k (bx t B d))->K (ptz B) h'):@step po P (.box t x) ty us h K:=by
 refine _root_.Go.Lft.ef hx ?_;have q1:=b8 h (.cells v.cells t);have b2:(h.push (.cells v.cells t))[h.size]? = VC (.cells v.cells t (0,0)):=by simp
 generalize h.push (.cells v.cells t)=h2 at q1 b2;refine hK _ _ q1 ⟨c.own.add hk (iL b2 hv hn) q1 λb hb=>by simp only[Value.ownBlock,RW]at hb;omega,c.old,Vx c.le0 q1,λj i b hj hb=>?_⟩;by_cases e:j=k
 ·subst e;rw[Own.an]at hj;cases hj;cases hb;exact bL c.le0
 rw[Own.aB e]at hj;exact c.new j i b hj hb
theorem Cx.cz{α β:Type}[Rep α][Rep β]{off:Nat}{g:α->β}{s:α->β->α}(p:Part α β off g s){e t:TypeId}{x y:Operand}{B:Nat}{D:α}{u:Value}{d:β}{K:Value->Heap->Prop}(c:Cx V h0 W h o)(hk:o k=bx e B D)(hsz:da P t=VC (Rep.n β))(hx:asg us x = VF (VC ⟨B,off,.none⟩))(hy:asg us y=u)(hr:Rd W u d)
  (hK : ∀h',Cx V h0 W h' (o.upd k (bx e B (s D d)))->K undef h'):@step po P (.store t x y) ty us h K:=
 c.own.kP p hk hsz hx hy hr λh2 w hX=>hK _ ⟨w,c.old,hX _ c.le0 (View.bS Vw (c.new k _ B hk rfl)),λj i b hj hb=>by
  by_cases e:j=k
  ·subst e;rw[Own.an]at hj;cases hj;exact c.new _ _ b hk hb
  rw[Own.aB e]at hj;exact c.new j i b hj hb⟩
theorem Cx.OO{α:Type}[Rep α]{e:TypeId}{B:Nat}{d:α}(c:Cx V h0 W h o)(hk:o k=bx e B d)(ha:Rep.agg α=VG){N:Nat}(hN:Rep.n α=N) : ∃u,Un.ev (vw h) (.bI N) (ptz B)=VC u/\Rd W u d:=by
 subst hN;obtain⟨cs,hcs,hr⟩:=c.own.atW hk;have h1:=Rep.len hr;have:=gm hcs (Rep.n α) 0 #[] V4;refine⟨.agg cs.toArray,?_,?_⟩
 ·simp only[Un.ev,vP,SA];rw[this];simp[<-h1]
 unfold Rd;rw[if_pos ha];exact⟨_,rfl,by simpa using hr⟩
theorem Cx.QX{α:Type}[Rep α]{e:TypeId}{B:Nat}{d:α}(c:Cx V h0 W h o)(hk:o k=bx e B d):At (vw h) ⟨B,0,VD⟩ d:=c.own.at hk
end
section
variable{V:View}{h:Heap}{S I O P Q LL TT:Nat}{s:cG}{op plain sum:Int}
abbrev yr:List Value:=[Vz VA 0,Vz VA 0,Vz VA 0,Vz VA 0,Vz VA 0,Vz VA 0,Vz VB 0,VE VD 0 0]
theorem yO{W:View}{m:aU}{vm:Value}(mx:Mx V S I O P Q LL TT s op plain sum)(hV:V.le W)(hW:W.le (vw h))(hm:Rd W vm m)(ho:op=15\/2<=s.i.args.length) :
  ay VI 225 #[vm,ptr O,ptr I,ptr P] h (λu h'=>(vw h).le (vw h')/\Rd (grow W h h') u (gM s.i op plain m)):=by
 refine ao (args:=[vm,ptr O,ptr I,ptr P]) follows Tryz.func225 E.iE Vu λK hK=>?_;dsimp only[L.iE,lkF,lkG];have c0:=Cx.start hW;refine aa λz hz=>?_;simp;refine c0.JI (k:=(0,1)) rfl rfl hm V6 λM h1 hle1 c1=>?_;refine c1.cV (k:=(0,0)) (n:=7) (z:=.agg yr.toArray) V7 V0 rfl V6 Vs λR h2 hle2 c2=>?_;subst hz;have hk1:(Own.upd (Own.upd (λ_=>VD) (0,1) (bx T.du M m)) (0,0) (bx T.du R (RawN.mk (n:=7) (Value.agg yr.toArray).cells.toList))) (0,1)=bx T.du M m:=rfl;have vh:V.le (vw h2):=Vx hV c2.wle;have e1:=ae vh mx.op;have e2:=ae vh mx.plain;have i1:=(mx.ct.ins.part InsD.iG);have r1:=i1.rng;have i1:aq (vw h2) ⟨I,1,VD⟩=VC (Vz VA s.i.dst):=ae vh (by simpa using i1.int);obtain⟨va,i3,hva⟩:=(mx.ct.ins.part InsD.e9).sl;have i3:aq (vw h2) ⟨I,3,VD⟩=VC va:=ae vh (by simpa using i3);refine aa λz hz=>?_;have fin : ∀(h3:Heap) (m3:aU),Cx W h W h3 (Own.upd (Own.upd (Own.upd (λ_=>VD) (0,1) (bx T.du M m)) (0,0) (bx T.du R (RawN.mk (n:=7) (Value.agg yr.toArray).cells.toList))) (0,1) (bx T.du M m3))->gM s.i op plain m=m3->∀ρ:Env,Lft.look ρ 4=VC (ptr M)->Lft.look ρ 5=VC (ptr R)->LC.wp VI z (dR [.un (.bI 8) (.tmp 5)] K) ρ h3:=λh3 m3 c3 he ρ h4 h5=>by rw[hz];refine aa λy hy=>?_;obtain⟨u,hu,ru⟩:=c3.OO (k:=(0,1)) (e:=T.du) (B:=M) (d:=m3) rfl rfl (N:=8) rfl;simp[h4,h5,hu];refine c3.bJ (α:=aU) (k:=(0,0)) (n:=7) V7 ru rfl rfl V0 V5 V5 λh6 l6 hl6 c6=>?_;rw[hy];have hall:=c6.all (k:=(0,0)) (n:=7) (l:=l6) (B:=R) (e:=T.du) V7;simp at hall;simp[hall,af,ag,h5];refine hK _ _ ⟨c6.le0,?_⟩;rw[he,<-hl6];exact ru.mono c6.fin
 by_cases h15:op=15
 ·simp[e1,h15,i1];refine c2.cz (k:=(0,1)) (α:=aU) aU.Qf (D:=m) (d:=s.i.dst) hk1 V0 V5 V5 (bu.2 ⟨rfl,r1⟩) λh3 c3=>?_;exact fin _ _ c3 (by unfold gM;rw[if_pos h15]) _ V5 V5
 have ha:2<=s.i.args.length:=by omega
 have q1:=hva.idx1 (k:=.i64) (i:=1) rfl V6 V4;have d1:=ae vh (hva.int (View.le_refl V) (i:=1) V4);have ar:=hva.rng (i:=1) V4;have m0:=ae Vw (((c2.QX hk1).part aU.xG)).int;simp at m0 q1 d1;by_cases hp:m.op=plain
 ·simp[e1,h15,e2,m0,hp,i3,q1,d1];refine c2.cz (k:=(0,1)) (α:=aU) aU.Ry (D:=m) (d:=nth s.i.args 1) hk1 V0 V5 V5 (bu.2 ⟨rfl,ar⟩) λh3 c3=>?_;exact fin _ _ c3 (by unfold gM;rw[if_neg h15,if_pos hp]) _ V5 V5
 simp[e1,h15,e2,m0,hp,i3,q1,d1];refine c2.cz (k:=(0,1)) (α:=aU) aU.RV (D:=m) (d:=nth s.i.args 1) hk1 V0 V5 V5 (bu.2 ⟨rfl,ar⟩) λh3 c3=>?_;exact fin _ _ c3 (by unfold gM;rw[if_neg h15,if_neg hp]) _ V5 V5
end
theorem HT{W:View}{h:Heap}{e:TypeId}{B n:Nat}{l:List Int}(hb:h[B]? = VC (.cells (l.map λc=>Vz VA c).toArray e (0,0)))(hr : ∀x∈l,-9223372036854775808<=x/\x<=9223372036854775807)(hn:l.length=n)(h2:n<=1000000) :
  OwnT W h e (VE (VC ⟨B,0,.none⟩) n n) l:=by
 subst hn;refine⟨by omega,l.map λc=>Vz VA c,⟨by simp[Rep.n],.inr ⟨B,l.length,_,rfl,hb,RX _,by simp[maxLen];omega,by simp[Rep.n],?_⟩⟩,λi hi=>?_⟩
 ·rw[Sr (by simp[Rep.n])]
 show(List.take 1 (List.drop (i*1) (l.map λc=>Vz VA c))=[Vz VA l[i]])/\_;rw[SX];refine⟨?_,hr _ (S9 hi)⟩;rw[SD (by simpa using hi)];simp
theorem AU : ∀{l:List Int},(l.map λc=>Vz VA c).flatMap (λv=>v.cells.toList)=l.map λc=>Vz VA c
 | []=>rfl
 | x::l=>by rw[S8,TH,AU];rfl
section
variable{po po2:OP}{V W:View}{h0 h h':Heap}{o:Own}{k:Key}{P:Program}{ty:TypeId}{us:List (Nat × Value)}
theorem Cx.yS{t e n:Nat}{bytes:Nat}{z:Value}{ps:Array (Nat × Operand)}{l:List Int}{K:Value->Heap->Prop}(c:Cx V h0 W h o)(hk:o k=VD)(hT:eU P t e 1 bytes z)
  (hp:ps.map (λp=>(p.1,asg us p.2))=(((l.map λc=>Vz VA c).zipIdx 0).map λp=>(p.2,p.1)).toArray) (hr : ∀x∈l,-9223372036854775808<=x/\x<=9223372036854775807) (hn:l.length=n) (h2:n<=1000)
  (hK : ∀u h',(vw h).le (vw h')->Cx V h0 W h' (o.upd k (it e u l))->K u h'):@step po P (.buildSlice t n ps) ty us h K:=by
 obtain⟨B,h1,hB⟩:=pz (s:=1) (l.map λc=>Vz VA c) 0 ((Array.range (n*1)).map (z.cells[· % z.cells.size]!)) (λv hv=>by obtain⟨c,_,rfl⟩:=SZ.1 hv;rfl) Vt;have hB:B=(l.map λc=>Vz VA c).toArray:=by rw[<-Array.toList_inj,hB];simp only[Um,T8,SV,AU]
 subst hB;refine vU (size:=1) hT V4 hp h1 ?_;have q1:=b8 h (.cells (l.map λc=>Vz VA c).toArray e);have b2:(h.push (.cells (l.map λc=>Vz VA c).toArray e))[h.size]? = VC (.cells (l.map λc=>Vz VA c).toArray e (0,0)):=by simp
 generalize h.push (.cells (l.map λc=>Vz VA c).toArray e)=h3 at q1 b2;refine hK _ _ q1 ⟨c.own.add hk (HT b2 hr hn V4) q1 λb hb=>by simp only[Value.ownBlock,RW]at hb;omega,c.old,Vx c.le0 q1,λj i b hj hb=>?_⟩;by_cases e:j=k
 ·subst e;rw[Own.an]at hj;cases hj;cases hb;exact bL c.le0
 rw[Own.aB e]at hj;exact c.new j i b hj hb
theorem Cx.gK{α:Type}[Rep α]{e e2:TypeId}{v v':Value}{l l':List α}(c:Cx V h0 W h o)(hk:o k=it e v l)(o2:OwnT W h' e2 v' l')(m:lO h h' v v'):Cx V h0 W h' (o.upd k (it e2 v' l')):=by
 refine⟨c.own.gK hk o2 m,c.old,?_,λj i b hj hb=>?_⟩
 ·exact m.kept.view c.le0 λb hb=>View.bS Vw (c.new k _ b hk hb)
 by_cases e:j=k
 ·subst e;rw[Own.an]at hj;cases hj;rcases m.at_ with q | q
  ·exact c.new _ _ b hk (q▸hb)
  have hb:v'.ownBlock=VC b:=hb;rw[q]at hb;cases hb;exact bL c.le0
 rw[Own.aB e]at hj;exact c.new j i b hj hb
theorem Cx.freeze{α:Type}[Rep α]{e:TypeId}{v:Value}{l:List α}(c:Cx V h0 W h o)(hk:o k=it e v l) : ∃W',W.le W'/\Cx V h0 W' h (o.upd k VD)/\SlRd W' v l:=by
 obtain⟨w1,s1⟩:=c.own.freeze hk;refine⟨_,ij (c.own.av k _ hk),⟨w1,λb x hb hx=>?_,c.le0,λj i b hj hb=>?_⟩,s1⟩
 ·unfold View.plus at hx;split at hx
  ·rename_i e1;have:=c.new k _ b hk e1;omega
  exact c.old b x hb hx
 by_cases e:j=k
 ·subst e;rw[Own.an]at hj;cases hj
 rw[Own.aB e]at hj;exact c.new j i b hj hb
end
section
variable{V:View}{h:Heap}{S I O P Q LL TT:Nat}{s:cG}{op plain sum:Int}
theorem yI{W:View}{l:List Int}{vl:Value}(mx:Mx V S I O P Q LL TT s op plain sum)(hV:V.le W)(hW:W.le (vw h))(ho:OwnT W h T.int vl l)(hl:l.length<=10)(h1:1<=s.i.args.length)(h2:s.i.args.length<=1000000) :
  ay VI 226 #[vl,ptr I] h (λu h'=>OwnT W h' T.int u (l++s.i.args.drop 1)/\lO h h' vl u):=by refine ao (args:=[vl,ptr I]) follows Tryz.func226 E.iy Vu λK hK=>?_;dsimp only[L.iy,lkF,lkG];obtain⟨va,i3,hva⟩:=(mx.ct.ins.part InsD.e9).sl;have i3:aq (vw h) ⟨I,3,VD⟩=VC va:=ae (Vx hV hW) (by simpa using i3);obtain⟨u,hu,su⟩:=hva.drop (n:=1) h1 (kd:=.i64);have hu:Bn.ev (.lo 1) va (Vz VA 1)=VC u:=hu;refine aa λz hz=>?_;simp;subst hz;refine aa λz hz=>?_;simp[i3,hu];refine dA (α:=Int) (e:=T.int) (l:=l) (l2:=s.i.args.drop 1) El.aZ V5 V5 ho ((su.mono hV).src hW) Vt Vt λv2 h2 o2 mv=>?_;subst hz;simp;exact hK _ _ ⟨o2,mv⟩
end
section
variable{V:View}{h:Heap}{S I O P Q LL TT:Nat}{s:cG}{op plain sum:Int}
set_option maxHeartbeats 4000000 in
theorem NQ(mx:Mx V S I O P Q LL TT s op plain sum)(hV:V.le (vw h))(hok:np s)(hop:s.i.op=op)(ho:op=15\/op=16)(hp0:0<=plain/\plain<=100):
    ay VI 227 #[ptr LL,ptr P,ptr I,ptr TT] h (λu h'=>cu V h h' u (memS s.f s.i s.temp op plain sum 0)):=by
  refine ao (args:=[ptr LL,ptr P,ptr I,ptr TT]) follows Tryz.func227 E.dG Vu λK hK=>?_
  dsimp only[L.dG,lkF,lkG]
  have c0:=Cx.start hV
  have l1:1<=s.i.args.length:=by
    rcases ho with q | q
    · exact hok.one.one (hop.trans q)
    · have:=hok.one.two (.inr (.inl (hop.trans q)));omega
  have l2:op=15\/2<=s.i.args.length:=ho.imp id λq=>hok.one.two (.inr (.inl (hop.trans q)))
  refine aa λz hz=>?_
  simp
  refine c0.cV (k:=(0,0)) (n:=7) (z:=.agg fitZ.toArray) rfl V0 rfl V6 Vs λR hb hleb cb=>?_
  subst hz
  have i4:=(mx.ct.ins.part InsD.lL)
  have r4:=i4.sP
  have i4:aq V ⟨I,4,VD⟩=VC (Vz VB s.i.imm.v):=by simpa using i4.i32
  obtain⟨va,i3,hva⟩:=(mx.ct.ins.part InsD.e9).sl
  have i3:aq V ⟨I,3,VD⟩=VC va:=by simpa using i3
  have a0:=hva.rng (i:=0) V4
  have most:=hok.one.most
  have q0:=hva.idx1 (k:=.i64) (i:=0) rfl V6 V4
  have d0:=hva.int (View.le_refl V) (i:=0) V4
  simp at q0
  have eL:=mx.laid
  have eT:=mx.with_
  have eP:=mx.plain
  have hm : ∀X,Rd X (.agg #[Vz VA plain,Vz VA 0,Vz VA 0,Vz VA (nth s.i.args 0),Vz VA 0,Vz VA 0,Vz VB s.i.imm.v,VE VD 0 0]) (⟨plain,0,0,nth s.i.args 0,0,0,s.i.imm,[]⟩:aU):=λX=>jZ Vt r4 aL
  have ew:IntKind.i64.wrap s.i.imm.v=s.i.imm.v:=bj V4 V4
  have fin : ∀(W:View) (hx:Heap) (o:Own) (l9:List Value),Cx V h W hx o->Rd W (.agg l9.toArray) (⟨nth s.i.args 0::s.i.args.drop 1,[],[gM s.i op plain ⟨plain,0,0,nth s.i.args 0,0,0,s.i.imm,[]⟩],cT⟩:FitD)->K (.tuple #[.agg l9.toArray,.bool (inR (IntKind.i64.wrap s.i.imm.v) 0 255)]) hx:=λW hx o l9 c hr=>
    hK _ _ (cu.of c hr (by rw[ew];simp only[memS];split<;>simp_all) λy e=>by
      simp only[memS]at e
      split at e<;>cases e
      rfl)
  clear hK
  refine aa λz hz=>?_
  refine aN V cb.wle ?_
  have c:=cb
  have hWV:V.le V:=View.le_refl _
  repeat' (first
    | refine ju ?_ ?_
    | (refine dg λy hy=>?_
       simp[i3,i4,q0,d0,eL,eT,eP]
       first
       | refine aA (t:=T.du) (z:=.agg yr.toArray) (places:=zpb) (vs:=[(0,Vz VA plain),(3,Vz VA (nth s.i.args 0)),(6,Vz VB s.i.imm.v)]) (cs:=#[Vz VA plain,Vz VA 0,Vz VA 0,Vz VA (nth s.i.args 0),Vz VA 0,Vz VA 0,Vz VB s.i.imm.v,VE VD 0 0]) V0 V0 V5 V0 ?_
       | (refine c.yS (k:=(0,2)) (n:=1) (l:=[nth s.i.args 0]) V7 El.aZ ?_ ?_ rfl V6 λuA h hle c=>?_
          · simp;done
          · simp;omega)
       | refine c.cV (k:=(0,1)) (n:=7) (z:=.agg fitZ.toArray) V7 V0 rfl V6 Vs λR2 h hle c=>?_
       | (refine bW (ops:=[.tmp 17]) (caps:=#[ptr O,ptr I,ptr P]) rfl V0 (yO mx Vv c.wle (hm _) l2) ?_
          rintro um h ⟨hle,hum⟩
          have hW:=c.up (h':=h)
          have c:=c.ext hle)
       | (refine bW (ops:=[.tmp 24]) (caps:=#[ptr I]) rfl V0 (yI mx Vv c.wle (c.own.get (k:=(0,2)) (v:=uA) (l:=[nth s.i.args 0]) V7) V5 l1 V4) ?_
          rintro uw h ⟨own2,mv⟩
          have c:=c.gK (k:=(0,2)) (v:=uA) (l:=[nth s.i.args 0]) V7 own2 mv
          obtain⟨W,hW,c,huA⟩:=c.freeze (k:=(0,2)) (v:=uw) (l:=[nth s.i.args 0]++s.i.args.drop 1) V7)
       | (refine ah V0 (mh c.wle (hum.mono Vv) (huA.mono Vv) aL) ?_
          rintro _ h ⟨hle,vf,rfl,hvf⟩
          have hW:=c.up (h':=h)
          have c:=c.ext hle)
       | refine c.bJ (k:=(0,1)) (n:=7) (l:=fitZ) V7 (hvf.mono Vv) rfl rfl V0 rfl rfl λh l9 hl9 c=>?_
       try refine⟨Vx Vv c.wle,?_⟩
       subst hy))
  all_goals
    simp
    rw[hz]
    subst hl9
    have hall:=c.all (k:=(0,1)) (n:=7) (l:=l9) (B:=R2) (e:=T.bf) V7
    simp at hall
    refine aa λx hx=>?_
    refine aN (vw h) Vw ?_
    simp[hall,ae (Vx Vv c.wle) i4]
    refine ah V0 kE ?_
    rintro _ h ⟨rfl,rfl⟩
    refine⟨View.le_refl _,?_⟩
    refine c.bJ (k:=(0,0)) (n:=7) (l:=fitZ) V7 (hvf.mono Vv) rfl rfl V0 rfl rfl λh9 l9' hl9' c9=>?_
    rw[hx]
    have hall:=c9.all (k:=(0,0)) (n:=7) (l:=l9') (B:=R) (e:=T.bf) V7
    simp at hall
    simp[hall]
    exact fin _ _ _ _ c9 (hl9'▸hvf.mono Vv)
end
section
variable{po po2:OP}{V W:View}{h0 h h':Heap}{o:Own}{k:Key}{P:Program}{ty:TypeId}{us:List (Nat × Value)}
theorem Hv{α:Type}[Rep α]{t e:Nat}{bytes:Nat}{z v:Value}{x:Operand}{d:α}{K:Value->Heap->Prop}(hT:eU P t e (Rep.n α) bytes z)(hx:asg us x=v)(hr:Rd W v d)(hn:Rep.n α<=1000)
  (hk : ∀h',(vw h).le (vw h')->OwnT W h' e (VE (VC ⟨h.size,0,VD⟩) 1 1) [d]->K (VE (VC ⟨h.size,0,VD⟩) 1 1) h'):@step po P (.buildSlice t 1 #[(0,x)]) ty us h K:=by
 have hc:=gn hr;obtain⟨B,h1,hB⟩:=pz (s:=Rep.n α) [v] 0 ((Array.range (1*Rep.n α)).map (z.cells[· % z.cells.size]!)) (λu hu=>by simp at hu;subst hu;exact hc.2.1) V5;have hB:B=v.cells:=by rw[<-Array.toList_inj,hB];simp
 subst hB;refine vU (size:=Rep.n α) (vs:=[(0,v)]) hT V4 (by simp[hx]) h1 ?_;have q1:=b8 h (.cells v.cells e);have b2:(h.push (.cells v.cells e))[h.size]? = VC (.cells v.cells e (0,0)):=by simp
 generalize h.push (.cells v.cells e)=h3 at q1 b2;exact hk _ q1 (iL b2 hr hn)
theorem Cx.add{α:Type}[Rep α]{e:TypeId}{v:Value}{l:List α}(c:Cx V h0 W h o)(hk:o k=VD)(o2:OwnT W h' e v l)(hle:(vw h).le (vw h'))(hb : ∀b,v.ownBlock=VC b->h.size<=b):Cx V h0 W h' (o.upd k (it e v l)):=
 ⟨c.own.add hk o2 hle hb,c.old,Vx c.le0 hle,λj i b hj hb'=>by
  by_cases e:j=k
  ·subst e;rw[Own.an]at hj;cases hj;exact St (bL c.le0) (hb b hb')
  rw[Own.aB e]at hj;exact c.new j i b hj hb'⟩
end
theorem GR{α:Type}[Rep α]{H:View}{v:Value}{l:List α}(s:SlRd H v l) : ∃a n c,v = .slice a n c:=let ⟨a,c,e,_⟩:=s;⟨a,_,c,e⟩
theorem MM{v0 v1 v2:Value}{m:aU}{takes inner:List Int}{h:Heap}{W:View}(hW:W.le (vw h))(h0:Rd W v0 m)(h1:SlRd W v1 takes)(h2:SlRd W v2 inner) :
  ay VI 190 #[v0,v1,v2] h (λu h'=>(vw h).le (vw h')/\∃b,u = .tuple #[.agg #[v1,v2,VE (VC ⟨b,0,VD⟩) 1 1,Vz VA 0,Vz VA 0,Vz VA 0,VE VD 0 0,Vz VB 0],.bool VG]/\OwnT W h' T.du (VE (VC ⟨b,0,VD⟩) 1 1) [m]/\h.size<=b):=by
 refine ao (args:=[v0,v1,v2]) follows Tryz.func190 E.pY Vu λK hK=>?_;dsimp only[L.pY,lkF,lkG];have c0:=Cx.start hW;refine aa λz hz=>?_;simp;refine c0.JI (k:=(0,1)) rfl rfl h0 V6 λB ha hlea ca=>?_;refine ca.cV (k:=(0,0)) (n:=7) (z:=.agg fitZ.toArray) V7 V0 rfl V6 Vs λR hb hleb cb=>?_;subst hz;obtain⟨um,hum,hmr⟩:=cb.OO (k:=(0,1)) (e:=T.du) (B:=B) (d:=m) rfl rfl (N:=8) rfl;refine aa λz hz=>?_;simp[hum];refine Hv (α:=aU) (W:=W) (v:=um) El.kI V5 hmr V6 λhc hlec own=>?_;have cc:=cb.add (k:=(0,2)) V7 own hlec λb hb=>by simp only[Value.ownBlock,RW]at hb;omega
 obtain⟨a1,n1,k1,rfl⟩:=GR h1;obtain⟨a2,n2,k2,rfl⟩:=GR h2;refine aA (z:=.agg fitZ.toArray) (places:=zpc) (vs:=[(0,.slice a1 n1 k1),(1,.slice a2 n2 k2),(2,VE (VC ⟨hb.size,0,VD⟩) 1 1)]) (cs:=#[.slice a1 n1 k1,.slice a2 n2 k2,VE (VC ⟨hb.size,0,VD⟩) 1 1,Vz VA 0,Vz VA 0,Vz VA 0,VE VD 0 0,Vz VB 0]) V0 V0 V5 V0 ?_;refine cc.uq (k:=(0,0)) (n:=7) (l':=[.slice a1 n1 k1,.slice a2 n2 k2,VE (VC ⟨hb.size,0,VD⟩) 1 1,Vz VA 0,Vz VA 0,Vz VA 0,VE VD 0 0,Vz VB 0]) V7 V0 V5 V5 rfl Vr λhd cd=>?_;subst hz;have hall:=cd.all (k:=(0,0)) (n:=7) (l:=[.slice a1 n1 k1,.slice a2 n2 k2,VE (VC ⟨hb.size,0,VD⟩) 1 1,Vz VA 0,Vz VA 0,Vz VA 0,VE VD 0 0,Vz VB 0]) (B:=R) (e:=T.bf) V7;simp at hall;simp[hall];refine hK _ _ ⟨cd.le0,_,rfl,cd.own.get (k:=(0,2)) V7,?_⟩;have q1:=bL hlea;have q2:=bL hleb;omega
section
variable{V:View}{h:Heap}{S I O P Q LL TT:Nat}{s:cG}{op plain sum:Int}
set_option maxHeartbeats 4000000 in
theorem Mm(mx:Mx V S I O P Q LL TT s op plain sum)(hV:V.le (vw h))(hok:np s)(hop:s.i.op=op)(ho:op=15\/op=16)(hp0:0<=sum/\sum<=100)(ht:-9223372036854775808<=s.temp/\s.temp<=9223372036854775807):
    ay VI 230 #[ptr S,ptr I,ptr TT,ptr LL,ptr Q] h (λu h'=>cu V h h' u (memS s.f s.i s.temp op plain sum 3)):=by
  refine ao (args:=[ptr S,ptr I,ptr TT,ptr LL,ptr Q]) follows Tryz.func230 E.dH Vu λK hK=>?_
  dsimp only[L.dH,lkF,lkG]
  have c0:=Cx.start hV
  have l1:1<=s.i.args.length:=by
    rcases ho with q | q
    · exact hok.one.one (hop.trans q)
    · have:=hok.one.two (.inr (.inl (hop.trans q)));omega
  have l2:op=15\/2<=s.i.args.length:=ho.imp id λq=>hok.one.two (.inr (.inl (hop.trans q)))
  refine aa λz hz=>?_
  simp
  refine c0.cV (k:=(0,0)) (n:=7) (z:=.agg fitZ.toArray) rfl V0 rfl V6 Vs λR hb hleb cb=>?_
  subst hz
  have i4:=(mx.ct.ins.part InsD.lL)
  have r4:=i4.sP
  have i4:aq V ⟨I,4,VD⟩=VC (Vz VB s.i.imm.v):=by simpa using i4.i32
  obtain⟨va,i3,hva⟩:=(mx.ct.ins.part InsD.e9).sl
  have i3:aq V ⟨I,3,VD⟩=VC va:=by simpa using i3
  have s12:aq V ⟨S,12,VD⟩=VC (Vz VA s.temp):=by simpa using(mx.ct.site.part cG.Gm).int
  have a0:=hva.rng (i:=0) V4
  have most:=hok.one.most
  have q0:=hva.idx1 (k:=.i64) (i:=0) rfl V6 V4
  have d0:=hva.int (View.le_refl V) (i:=0) V4
  simp at q0
  have eL:=mx.laid
  have eT:=mx.with_
  have eQ:=mx.sum
  have hm : ∀X,Rd X (.agg #[Vz VA 4,Vz VA s.temp,Vz VA 0,Vz VA 0,Vz VA 0,Vz VA 0,Vz VB s.i.imm.v,VE VD 0 0]) (⟨4,s.temp,0,0,0,0,s.i.imm,[]⟩:aU):=λX=>jZ Vt r4 aL
  have hm2 : ∀X,Rd X (.agg #[Vz VA sum,Vz VA 0,Vz VA 0,Vz VA (nth s.i.args 0),Vz VA s.temp,Vz VA 0,Vz VB 0,VE VD 0 0]) (⟨sum,0,0,nth s.i.args 0,s.temp,0,⟨0⟩,[]⟩:aU):=λX=>jZ (imm:=⟨0⟩) Vt V5 aL
  have fin : ∀(W:View) (hx:Heap) (o:Own) (l9:List Value),Cx V h W hx o->Rd W (.agg l9.toArray) (⟨nth s.i.args 0::s.i.args.drop 1,[],[⟨4,s.temp,0,0,0,0,s.i.imm,[]⟩,gM s.i op plain ⟨sum,0,0,nth s.i.args 0,s.temp,0,⟨0⟩,[]⟩],cT⟩:FitD)->K (.tuple #[.agg l9.toArray,.bool VG]) hx:=λW hx o l9 c hr=>
    hK _ _ (cu.of c hr rfl λy e=>by simp only[memS]at e;cases e;rfl)
  clear hK
  refine aa λz hz=>?_
  refine aN V cb.wle ?_
  have c:=cb
  have hWV:V.le V:=View.le_refl _
  repeat' (first
    | refine ju ?_ ?_
    | (refine dg λy hy=>?_
       simp[i3,i4,s12,q0,d0,eL,eT,eQ]
       first
       | refine aA (t:=T.du) (z:=.agg yr.toArray) (places:=zpb) (vs:=[(0,Vz VA 4),(1,Vz VA s.temp),(6,Vz VB s.i.imm.v)]) (cs:=#[Vz VA 4,Vz VA s.temp,Vz VA 0,Vz VA 0,Vz VA 0,Vz VA 0,Vz VB s.i.imm.v,VE VD 0 0]) V0 V0 V5 V0 ?_
       | (refine c.yS (k:=(0,2)) (n:=1) (l:=[nth s.i.args 0]) V7 El.aZ ?_ ?_ rfl V6 λuA h hle c=>?_
          · simp;done
          · simp;omega)
       | refine c.cV (k:=(0,1)) (n:=7) (z:=.agg fitZ.toArray) V7 V0 rfl V6 Vs λR2 h hle c=>?_
       | (refine bW (ops:=[.tmp 20]) (caps:=#[ptr I]) rfl V0 (yI mx Vv c.wle (c.own.get (k:=(0,2)) (v:=uA) (l:=[nth s.i.args 0]) V7) V5 l1 V4) ?_
          rintro uw h ⟨own2,mv⟩
          have c:=c.gK (k:=(0,2)) (v:=uA) (l:=[nth s.i.args 0]) V7 own2 mv
          obtain⟨W,hW,c,huA⟩:=c.freeze (k:=(0,2)) (v:=uw) (l:=[nth s.i.args 0]++s.i.args.drop 1) V7)
       | (refine ah V0 (MM c.wle (hm _) (huA.mono Vv) aL) ?_
          rintro _ h ⟨hle,b3,rfl,own3,hb3⟩
          have c:=c.add (k:=(0,3)) V7 own3 hle λb hb=>by simp only[Value.ownBlock,RW]at hb;omega)
       | (obtain⟨a5,n5,k5,rfl⟩:=GR huA
          refine c.uq (k:=(0,1)) (n:=7) (l:=fitZ) (l':=[.slice a5 n5 k5,VE VD 0 0,VE (VC ⟨b3,0,VD⟩) 1 1,Vz VA 0,Vz VA 0,Vz VA 0,VE VD 0 0,Vz VB 0]) V7 V0 rfl rfl rfl Vr λh c=>?_)
       try refine⟨Vx Vv c.wle,?_⟩
       subst hy))
  all_goals
    simp
    rw[hz]
    refine aa λx hx=>?_
    have hcode:=c.own.raw (k:=(0,1)) (e:=T.bf) (B:=R2) (n:=7) (l:=[.slice a5 n5 k5,VE VD 0 0,VE (VC ⟨b3,0,VD⟩) 1 1,Vz VA 0,Vz VA 0,Vz VA 0,VE VD 0 0,Vz VB 0]) V7 (i:=2) V6
    simp only[List.getD_cons_succ,List.getD_cons_zero]at hcode
    have hVh:=Vx (show V.le _ from Vv) c.wle
    refine aN (vw h) Vw ?_
    refine dg λy hy=>?_
    simp[hcode,ae hVh i3,ae hVh s12,q0,ae hVh d0,ae hVh eL,ae hVh eQ]
    refine aA (t:=T.du) (z:=.agg yr.toArray) (places:=zpb) (vs:=[(0,Vz VA sum),(3,Vz VA (nth s.i.args 0)),(4,Vz VA s.temp)]) (cs:=#[Vz VA sum,Vz VA 0,Vz VA 0,Vz VA (nth s.i.args 0),Vz VA s.temp,Vz VA 0,Vz VB 0,VE VD 0 0]) V0 V0 V5 V0 ?_
    refine⟨View.le_refl _,?_⟩
    subst hy
    refine dg λy hy=>?_
    simp
    refine bW (ops:=[.tmp 35]) (caps:=#[ptr O,ptr I,ptr P]) rfl V0 (yO mx Vv c.wle (hm2 _) l2) ?_
    rintro um h7 ⟨hle7,hum⟩
    have hW7:=c.up (h':=h7)
    have c7:=c.ext hle7
    refine⟨hle7,?_⟩
    subst hy
    refine dg λy hy=>?_
    simp
    refine c7.nf (α:=aU) (n:=1) (vs:=[um]) (ds:=[gM s.i op plain ⟨sum,0,0,nth s.i.args 0,s.temp,0,⟨0⟩,[]⟩]) El.kI V5 ⟨hum,trivial⟩ rfl V6 V6 λu8 h8 W8 hW8 c8 s8 hle8=>?_
    refine⟨Vx hle7 hle8,?_⟩
    subst hy
    refine dg λy hy=>?_
    simp
    refine dA (α:=aU) (v:=VE (VC ⟨b3,0,VD⟩) 1 1) (u:=u8) (l:=[(⟨4,s.temp,0,0,0,0,s.i.imm,[]⟩:aU)]) (l2:=[gM s.i op plain ⟨sum,0,0,nth s.i.args 0,s.temp,0,⟨0⟩,[]⟩]) El.kI V5 V5 (c8.own.get (k:=(0,3)) V7) (s8.src c8.wle) V5 V5 λv9 h9 o9 mv9=>?_
    have c9:=c8.gK (k:=(0,3)) V7 o9 mv9
    obtain⟨W9,hW9,c10,s10⟩:=c9.freeze (k:=(0,3)) (v:=v9) V7
    obtain⟨a9,n9,k9,rfl⟩:=GR s10
    subst hy
    refine dg λy hy=>?_
    simp
    refine c10.dT (k:=(0,1)) (n:=7) (i:=2) (u:=.slice a9 n9 k9) (e:=T.bf) (B:=R2) (l:=[.slice a5 n5 k5,VE VD 0 0,VE (VC ⟨b3,0,VD⟩) 1 1,Vz VA 0,Vz VA 0,Vz VA 0,VE VD 0 0,Vz VB 0]) V7 V6 V0 V5 V5 rfl λh11 c11=>?_
    subst hy
    simp
    subst hx
    have hall:=c11.all (k:=(0,1)) (n:=7) (B:=R2) (e:=T.bf) (l:=[.slice a5 n5 k5,VE VD 0 0,.slice a9 n9 k9,Vz VA 0,Vz VA 0,Vz VA 0,VE VD 0 0,Vz VB 0]) V7
    simp at hall
    refine aa λx hx=>?_
    simp[hall]
    have hfit:Rd W9 (.agg #[.slice a5 n5 k5,VE VD 0 0,.slice a9 n9 k9,Vz VA 0,Vz VA 0,Vz VA 0,VE VD 0 0,Vz VB 0]) (⟨nth s.i.args 0::s.i.args.drop 1,[],[⟨4,s.temp,0,0,0,0,s.i.imm,[]⟩,gM s.i op plain ⟨sum,0,0,nth s.i.args 0,s.temp,0,⟨0⟩,[]⟩],cT⟩:FitD):=
      nY (v1:=.slice a5 n5 k5) (v2:=VE VD 0 0) (v3:=.slice a9 n9 k9) (huA.mono Vv) aL s10 (ml V5 V6 aL)
    refine c11.bJ (k:=(0,0)) (n:=7) (l:=fitZ) V7 hfit rfl rfl V0 V5 V5 λh12 l12 hl12 c12=>?_
    rw[hx]
    have hall:=c12.all (k:=(0,0)) (n:=7) (l:=l12) (B:=R) (e:=T.bf) V7
    simp at hall
    simp[hall]
    exact fin _ _ _ _ c12 (hl12▸hfit)
end
section
variable{po po2:OP}{V W:View}{h0 h h':Heap}{o:Own}{k:Key}{P:Program}{ty:TypeId}{us:List (Nat × Value)}
theorem Cx.dQ{α:Type}[Rep α]{t:TypeId}{z:Value}{d:α}{K:Value->Heap->Prop}(c:Cx V h0 W h o)(hk:o k=VD)(hz:(P.info? t).map (·.zero)=VC (VC z))(hr:Rd W (.agg z.cells) d)(hn:Rep.n α<=1000)
  (hK : ∀B h',(vw h).le (vw h')->Cx V h0 W h' (o.upd k (bx t B d))->K (ptz B) h'):@step po P (.alloc t) ty us h K:=by
 refine _root_.Go.Lft.dQ hz ?_;have q1:=b8 h (.cells z.cells t);have b2:(h.push (.cells z.cells t))[h.size]? = VC (.cells z.cells t (0,0)):=by simp
 generalize h.push (.cells z.cells t)=h2 at q1 b2;have hz2:(Value.agg z.cells).cells=z.cells:=rfl;refine hK _ _ q1 ⟨c.own.add hk (iL (v:=.agg z.cells) (by rw[hz2];exact b2) hr hn) q1 λb hb=>by simp only[Value.ownBlock,RW]at hb;omega,c.old,Vx c.le0 q1,λj i b hj hb=>?_⟩;by_cases e:j=k
 ·subst e;rw[Own.an]at hj;cases hj;cases hb;exact bL c.le0
 rw[Own.aB e]at hj;exact c.new j i b hj hb
theorem Own.fE{a b:Option Item}:(o.upd k a).upd k b=o.upd k b:=by funext q;unfold Own.upd;split<;>rfl
theorem Own.vW{a:Option Item}(hk:o k=VD):(o.upd k a).upd k VD=o:=by
 funext q;unfold Own.upd;split
 ·rename_i e;subst e;exact hk.symm
 rfl
theorem Cx.kg{α:Type}[Rep α]{e:TypeId}{B:Nat}{d:α}(c:Cx V h0 W h o)(hk:o k=bx e B d) : ∃W',W.le W'/\Cx V h0 W' h (o.upd k VD)/\At W' ⟨B,0,VD⟩ d:=by obtain⟨W',h1,h2,h3⟩:=c.freeze (v:=VE (VC ⟨B,0,VD⟩) 1 1) (l:=[d]) hk;refine⟨W',h1,h2,?_⟩;have:=h3.at (i:=0) V5;simpa[slA,Addr.z]using this
end
abbrev insZ:List Value:=[Vz VA 0,Vz VA 0,Vz VA 0,VE VD 0 0,Vz VB 0]
section
variable{V:View}{h:Heap}{S I O P Q LL TT:Nat}{s:cG}{op plain sum:Int}
set_option maxHeartbeats 4000000 in
theorem MU(mx:Mx V S I O P Q LL TT s op plain sum)(hV:V.le (vw h))(hok:np s)(hop:s.i.op=op)(ho:op=15\/op=16)(hp0:0<=sum/\sum<=100) :
    ay VI 229 #[ptr S,ptr I,ptr LL,ptr Q,ptr TT] h (λu h'=>cu V h h' u (memS s.f s.i s.temp op plain sum 2)):=by
  refine ao (args:=[ptr S,ptr I,ptr LL,ptr Q,ptr TT]) follows Tryz.func229 E.dK Vu λK hK=>?_
  dsimp only[L.dK,lkF,lkG]
  have c0:=Cx.start hV
  have l1:1<=s.i.args.length:=by
    rcases ho with q | q
    · exact hok.one.one (hop.trans q)
    · have:=hok.one.two (.inr (.inl (hop.trans q)));omega
  have l2:op=15\/2<=s.i.args.length:=ho.imp id λq=>hok.one.two (.inr (.inl (hop.trans q)))
  refine aa λz hz=>?_
  simp
  refine c0.cV (k:=(0,0)) (n:=7) (z:=.agg fitZ.toArray) rfl V0 rfl V6 Vs λR hb hleb cb=>?_
  subst hz
  have i4:=(mx.ct.ins.part InsD.lL)
  have r4:=i4.sP
  have i4:aq V ⟨I,4,VD⟩=VC (Vz VB s.i.imm.v):=by simpa using i4.i32
  obtain⟨va,i3,hva⟩:=(mx.ct.ins.part InsD.e9).sl
  have i3:aq V ⟨I,3,VD⟩=VC va:=by simpa using i3
  have a0:=hva.rng (i:=0) V4
  have most:=hok.one.most
  have q0:=hva.idx1 (k:=.i64) (i:=0) rfl V6 V4
  have d0:=hva.int (View.le_refl V) (i:=0) V4
  simp at q0
  obtain⟨us,hus,rus⟩:=mx.ct.site.ldN rfl (N:=13) rfl
  have hus:=hus V Vw
  have hfm:=fk (f:=s.f) (v:=nth s.i.args 0) (op:=2)
  have hdo:memS s.f s.i s.temp op plain sum 2=if(aK s.f (nth s.i.args 0) 2).2&&decide (s.i.imm.v=0) then
      VC ⟨nth (aK s.f (nth s.i.args 0) 2).1.args 0::nth (aK s.f (nth s.i.args 0) 2).1.args 1::s.i.args.drop 1,[nth s.i.args 0],
        [gM s.i op plain ⟨sum,0,0,nth (aK s.f (nth s.i.args 0) 2).1.args 0,nth (aK s.f (nth s.i.args 0) 2).1.args 1,0,⟨0⟩,[]⟩],cT⟩
    else none:=rfl
  have hF:=@pI s us (nth s.i.args 0) 2
  generalize (aK s.f (nth s.i.args 0) 2).1=m at *
  generalize (aK s.f (nth s.i.args 0) 2).2=b at *
  refine aa λz hz=>?_
  have rest : ∀(W:View) (hx:Heap) (B2:Nat) (ρ:Env),V.le W->Cx V h W hx (Own.upd (λ_=>VD) (0,0) (bx T.bf R (RawN.mk (n:=7) fitZ)))->At W ⟨B2,0,VD⟩ m->
      Lft.look ρ 0=VC (ptr S)->Lft.look ρ 1=VC (ptr I)->Lft.look ρ 2=VC (ptr LL)->Lft.look ρ 3=VC (ptr Q)->Lft.look ρ 4=VC (ptr TT)->Lft.look ρ 5=VC (ptr R)->Lft.look ρ 7=VC (ptr B2)->Lft.look ρ 8=VC (.bool b)->
      LC.wp VI z (dR [.un (.bI 8) (.tmp 5),.tmp 6] K) ρ hx:=by
    intro W hx B2 ρ hVW c hat g0 g1 g2 g3 g4 g5 g7 g8
    rw[hz]
    refine aa λx hx'=>?_
    have none_ : ∀(hy:Heap) (o:Own) (l9:List Value),Cx V h W hy o->Rd W (.agg l9.toArray) LS->(b&&decide (s.i.imm.v=0))=VH->K (.tuple #[.agg l9.toArray,.bool VH]) hy:=λhy o l9 c hr e=>
      hK _ _ (cu.of c hr (by rw[hdo,e];rfl) λy e2=>by rw[hdo,e]at e2;cases e2)
    cases b with
    | false=>
      simp[g8,af,ag,g5]
      refine aA (t:=T.bf) (z:=.agg fitZ.toArray) (places:=zpc) (vs:=[]) (cs:=fitZ.toArray) V0 V0 V5 V0 ?_
      refine c.bJ (k:=(0,0)) (n:=7) (l:=fitZ) V7 gD rfl rfl V0 V5 V5 λh9 l9 hl9 c9=>?_
      have hall:=c9.all (k:=(0,0)) (n:=7) (l:=l9) (B:=R) (e:=T.bf) V7
      simp at hall
      simp[hall]
      exact none_ _ _ _ c9 (hl9▸gD) rfl
    | true=>
      by_cases e0:s.i.imm.v=0
      · obtain⟨m1,m2,-⟩:=hfm rfl
        have hma:=(hok.all _ m1).two V4
        obtain⟨vb,j3,hvb⟩:=(hat.part InsD.e9).sl
        have j3:aq W ⟨B2,3,VD⟩=VC vb:=by simpa using j3
        have b0:=hvb.rng (i:=0) V4
        have b1:=hvb.rng (i:=1) V4
        have q2:=hvb.idx1 (k:=.i64) (i:=0) rfl V6 V4
        have q3:=hvb.idx1 (k:=.i64) (i:=1) rfl V6 V4
        have d2:=hvb.int (View.le_refl W) (i:=0) V4
        have d3:=hvb.int (View.le_refl W) (i:=1) V4
        simp at q2 q3
        have i4':=ae hVW i4
        have i3:=ae hVW i3
        have d0:=ae hVW d0
        have eL:=ae hVW mx.laid
        have eT:=ae hVW mx.with_
        have eQ:=ae hVW mx.sum
        have mx:=mx.mono hVW
        simp[g0,g1,g2,g3,g4,g5,g7,g8,af,ag,ae c.wle i4',e0]
        rw[hx'];clear hx'
        have hm : ∀X,Rd X (.agg #[Vz VA sum,Vz VA 0,Vz VA 0,Vz VA (nth m.args 0),Vz VA (nth m.args 1),Vz VA 0,Vz VB 0,VE VD 0 0]) (⟨sum,0,0,nth m.args 0,nth m.args 1,0,⟨0⟩,[]⟩:aU):=λX=>jZ (imm:=⟨0⟩) Vt V5 aL
        have fin : ∀(W:View) (hx:Heap) (o:Own) (l9:List Value),Cx V h W hx o->Rd W (.agg l9.toArray) (⟨nth m.args 0::nth m.args 1::s.i.args.drop 1,[nth s.i.args 0],[gM s.i op plain ⟨sum,0,0,nth m.args 0,nth m.args 1,0,⟨0⟩,[]⟩],cT⟩:FitD)->K (.tuple #[.agg l9.toArray,.bool VG]) hx:=λW hx o l9 c hr=>
          hK _ _ (cu.of c hr (by rw[hdo];simp[e0]) λy e=>by rw[hdo,e0]at e;cases e;rfl)
        clear none_ hK
        refine aa λx hx'=>?_
        refine aN W c.wle ?_
        have hWV:W.le W:=View.le_refl _
        repeat' (first
          | refine ju ?_ ?_
          | (refine dg λy hy=>?_
             simp[g0,g1,g2,g3,g4,g5,g7,g8,af,ag,i3,j3,q0,q2,q3,d0,d2,d3,eL,eT,eQ]
             first
             | refine aA (t:=T.du) (z:=.agg yr.toArray) (places:=zpb) (vs:=[(0,Vz VA sum),(3,Vz VA (nth m.args 0)),(4,Vz VA (nth m.args 1))]) (cs:=#[Vz VA sum,Vz VA 0,Vz VA 0,Vz VA (nth m.args 0),Vz VA (nth m.args 1),Vz VA 0,Vz VB 0,VE VD 0 0]) V0 V0 V5 V0 ?_
             | (refine c.yS (k:=(0,2)) (n:=2) (l:=[nth m.args 0,nth m.args 1]) V7 El.aZ ?_ ?_ rfl V6 λuA h hle c=>?_
                · simp;done
                · simp;omega)
             | (refine c.nf (α:=Int) (n:=1) (vs:=[Vz VA (nth s.i.args 0)]) (ds:=[nth s.i.args 0]) El.aZ ?_ ⟨bu.2 ⟨rfl,a0⟩,trivial⟩ rfl V6 V6 λuB h W hW c huB hle=>?_
                · simp;done)
             | (refine bW (ops:=[.tmp 36]) (caps:=#[ptr O,ptr I,ptr P]) rfl V0 (yO mx Vv c.wle (hm _) l2) ?_
                rintro um h ⟨hle,hum⟩
                have hW:=c.up (h':=h)
                have c:=c.ext hle)
             | (refine bW (ops:=[.tmp 47]) (caps:=#[ptr I]) rfl V0 (yI mx Vv c.wle (c.own.get (k:=(0,2)) (v:=uA) (l:=[nth m.args 0,nth m.args 1]) V7) V5 l1 V4) ?_
                rintro uw h ⟨own2,mv⟩
                have c:=c.gK (k:=(0,2)) (v:=uA) (l:=[nth m.args 0,nth m.args 1]) V7 own2 mv
                obtain⟨W,hW,c,huA⟩:=c.freeze (k:=(0,2)) (v:=uw) (l:=[nth m.args 0,nth m.args 1]++s.i.args.drop 1) V7)
             | (refine ah V0 (mh c.wle (hum.mono Vv) (huA.mono Vv) (huB.mono Vv)) ?_
                rintro _ h ⟨hle,vf,rfl,hvf⟩
                have hW:=c.up (h':=h)
                have c:=c.ext hle)
             | refine c.bJ (k:=(0,0)) (n:=7) (l:=fitZ) V7 hvf rfl rfl V0 V5 V5 λh l9 hl9 c=>?_
             try refine⟨Vx Vv c.wle,?_⟩
             subst hy))
        all_goals
          simp[g0,g1,g2,g3,g4,g5,g7,g8,af,ag]
          rw[hx']
          have hall:=c.all (k:=(0,0)) (n:=7) (l:=l9) (B:=R) (e:=T.bf) V7
          simp at hall
          simp[g0,g1,g2,g3,g4,g5,g7,g8,af,ag,hall]
          exact fin _ _ _ _ c (hl9▸hvf)
      · simp[g0,g1,g2,g3,g4,g5,g7,g8,af,ag,ae c.wle (ae hVW i4),e0]
        refine aA (t:=T.bf) (z:=.agg fitZ.toArray) (places:=zpc) (vs:=[]) (cs:=fitZ.toArray) V0 V0 V5 V0 ?_
        refine c.bJ (k:=(0,0)) (n:=7) (l:=fitZ) V7 gD rfl rfl V0 V5 V5 λh9 l9 hl9 c9=>?_
        have hall:=c9.all (k:=(0,0)) (n:=7) (l:=l9) (B:=R) (e:=T.bf) V7
        simp at hall
        simp[hall]
        exact none_ _ _ _ c9 (hl9▸gD) (by simp[e0])
  refine aN V cb.wle ?_
  have c:=cb
  refine ju ?_ ?_
  · refine dg λy hy=>?_
    simp[hus,i3,q0,d0]
    refine ah V0 (hF c.wle rus hok.sm a0) ?_
    rintro _ h1 ⟨hle1,vm,rfl,hvm⟩
    have hW1:=c.up (h':=h1)
    have c:=c.ext hle1
    subst hy
    refine dg λy hy=>?_
    simp
    refine c.dQ (k:=(0,4)) (z:=.agg insZ.toArray) (d:=iH) V7 V0 oe V6 λB2 h2 hle2 c=>?_
    subst hy
    refine dg λy hy=>?_
    simp
    refine c.cz Part.all (k:=(0,4)) (D:=iH) (d:=m) V7 V0 V5 V5 hvm λh3 c=>?_
    subst hy
    simp
    obtain⟨W4,hW4,c,hat⟩:=c.kg (k:=(0,4)) (B:=B2) (d:=m) V7
    rw[Own.fE,Own.vW V7]at c
    exact rest _ _ _ _ (Vx hW1 hW4) c hat rfl rfl rfl rfl rfl rfl rfl rfl
  · refine dg λy hy=>?_
    simp[hus,i3,q0,d0]
    refine c.dQ (k:=(0,4)) (z:=.agg insZ.toArray) (d:=iH) V7 V0 oe V6 λB2 h2 hle2 c=>?_
    refine⟨c.wle,?_⟩
    subst hy
    refine dg λy hy=>?_
    simp
    refine ah V0 (hF c.wle rus hok.sm a0) ?_
    rintro _ h1 ⟨hle1,vm,rfl,hvm⟩
    have hW1:=c.up (h':=h1)
    have c:=c.ext hle1
    subst hy
    refine dg λy hy=>?_
    simp
    refine c.cz Part.all (k:=(0,4)) (D:=iH) (d:=m) V7 V0 V5 V5 hvm λh3 c=>?_
    subst hy
    simp
    obtain⟨W4,hW4,c,hat⟩:=c.kg (k:=(0,4)) (B:=B2) (d:=m) V7
    rw[Own.fE,Own.vW V7]at c
    exact rest _ _ _ _ (Vx hW1 hW4) c hat rfl rfl rfl rfl rfl rfl rfl rfl
end
def Hb(subs:List (Array Bool × Reg))(l:Array Bool):Option Reg:=(subs.find? λp=>p.1 == l).map (·.2)
theorem Ja{subs:List (Array Bool × Reg)}{l:Array Bool}{R:Reg}(h:Hb subs l=VC R):(l,R)∈subs:=by
 unfold Hb at h;rw[Sc]at h;obtain⟨p,hp,rfl⟩:=h;have h1:=Vk hp;have h2:=T0 hp;have:p.1=l:=by simpa using h1
 subst this;exact h2
def Of(P:Program)(N:Nat)(ops:Array Oper)(live:List Nat)(l0:Option Nat)(listed:Array Bool)(subs:List (Array Bool × Reg)):Option Reg:=
 match rA P ops l0 ops.size listed with
 | none=>VD
 | some (qs,l1)=>match rdy ops l1 with
  | []=>Dh P N ops live (oD ops qs)
  | rs=>jX (λi=>match ops[i]? with
   | none=>VD
   | some o=>match Hb subs (l1.setIfInBounds i VG)with
    | some next=>xL P N ops live (oD ops qs) o (An ops (l1.setIfInBounds i VG)) (l0 == VC i) next
    | none=>VD) rs
theorem uh{f g:Nat->Option Reg}(h : ∀i X,f i=VC X->g i=VC X) : ∀{rs:List Nat} {R:Reg},jX f rs=VC R->jX g rs=VC R
 | [],_,e=>by cases e
 | [i],_,e=>h i _ e
 | i::j::rs,R,e=>by
  unfold jX at e ⊢;cases h1:f i with
  | none=>rw[h1]at e;cases e
  | some x=>
   cases h2:jX f (j::rs)with
   | none=>rw[h1,h2]at e;cases e
   | some y=>rw[h1,h2]at e;rw[h i x h1,uh h h2];exact e
theorem bY{P:Program}{N:Nat}{ops:Array Oper}{live:List Nat}{l0:Option Nat}{listed:Array Bool}{subs:List (Array Bool × Reg)}{R:Reg}{f:Nat}(h:Of P N ops live l0 listed subs=VC R)(hs : ∀p∈subs,regD P N ops live l0 f p.1=VC p.2):regD P N ops live l0 (f+1) listed=VC R:=by
 unfold Of at h;unfold regD;split at h
 ·cases h
 rename_i qs l1 hq;rw[hq];simp only;split at h
 ·rename_i hr;rw[hr];exact h
 rename_i hne;split
 ·rename_i hr;exact absurd hr hne
 refine uh (λi X e=>?_) h;cases ho:ops[i]? with
 | none=>rw[ho]at e;cases e
 | some o=>
  rw[ho]at e;simp only at e ⊢;cases hb:Hb subs (l1.setIfInBounds i VG)with
  | none=>rw[hb]at e;cases e
  | some next=>rw[hb]at e;rw[hs _ (Ja hb)];exact e
def seqL:Code->Code | .seq x _=>x | x=>x
def seqR:Code->Code | .seq _ y=>y | x=>x
def N4:Code->Bool | .seq _ _=>VG | _=>VH
def opsR:Code->Array Oper | .region _ ops _=>ops | _=>#[]
def GO:Code->Bool | .region _ ops d=>d&&ops.all λo=>ez o.op | _=>VH
theorem lS{P:Program}{N:Nat}{lv lr:List Nat}{b:Bool}{c:Code}{x y:LC}(hc:N4 c=VG)(h1:eE P N lv lr b (seqL c)=VC x)(h2:eE P N lv lr b (seqR c)=VC y):eE P N lv lr b c=VC (.seq x y):=by cases c<;>simp[N4]at hc;simp only[seqL,seqR]at h1 h2;simp only[eE,h1,h2]
theorem CL{P:Program}{N:Nat}{lv lr:List Nat}{b:Bool}{c:Code}{R:Reg}{l0:Option Nat}{n:Nat}(hc:GO c=VG)(h0:EN P (opsR c)=l0)(hn:(opsR c).size=n)(h:regD P N (opsR c) lv l0 (n+1) (Array.replicate n VH)=VC R):eE P N lv lr b c=VC (.reg VG R):=by subst h0;subst hn;cases c<;>simp[GO]at hc;simp only[opsR]at h;simp only[eE];rw[if_pos hc.1,if_pos (by simpa using hc.2),h];rfl
def xD(fn:Func):Code:=fn.body.getD .skip
theorem Nr{P:Program}{fn:Func}{res:List E}{x:LC}{lv lr:List Nat}{n:Nat}(hb:fn.body.isSome=VG)(hr:fn.results.toList.mapM (resE P)=VC res)(h1:mJ (xD fn)++xo fn (xD fn)=lv)(h2:xo fn (xD fn)=lr)(hn:fn.ntmps=n)(h:eE P n lv lr VH (xD fn)=VC x):aP P fn=VC ⟨res,x⟩:=by
 subst h1;subst h2;subst hn;unfold xD at h;unfold aP;cases hb':fn.body with
 | none=>rw[hb']at hb;cases hb
 | some c=>rw[hb']at h;simp only[Vh]at h;simp only[hr,h]
section
set_option maxRecDepth 100000
noncomputable def L.ab.q0.ops:Array Oper:=opsR (seqL (seqR (seqR (seqR (seqR (xD Tryz.f228))))))
def L.ab.q0.r0:Reg:=(.fin [11] [] [(.tmp 65)])
def L.ab.q0.r1:Reg:=by apply(fun{b:Reg}(_:b=s [] [] (w [10,64]) (.store 190 (a 10) (a 64)) L.ab.q0.r0)=>b);simp only[sh];rfl
def L.ab.q0.r2:Reg:=by apply(fun{b:Reg}(_:b=l [33,64,65] [(64,.un (.ext 0) (t 63)),(65,.un (.ext 1) (t 63))] [] (.alloc 190) 0 10 L.ab.q0.r1)=>b);simp only[sh];rfl
def L.ab.q0.r3:Reg:=by apply(fun{b:Reg}(_:b=s [33,64,65] [(65,.un (.ext 1) (t 63))] [(10,t 10),(64,.un (.ext 0) (t 63))] (.store 190 (a 10) (a 64)) L.ab.q0.r0)=>b);simp only[sh];rfl
def L.ab.q0.r4:Reg:=by apply(fun{b:Reg}(_:b=.loud [] [] (w [46,53,62]) VD [] VG (x 190 [46,53,62] [59,22,22]) 191 (VC 63) VG L.ab.q0.r3)=>b);simp only[sh];rfl
def L.ab.q0.r5:Reg:=by apply(fun{b:Reg}(_:b=.both (.loud [] [] (w [46,53,62]) VD [] VG (x 190 [46,53,62] [59,22,22]) 191 (VC 63) VG L.ab.q0.r2) (p [] (.alloc 190) 0 10 L.ab.q0.r4))=>b);simp only[sh];rfl
def L.ab.q0.r6:Reg:=by apply(fun{b:Reg}(_:b=p (w [57,61]) (.buildSlice 22 2 #[(0,a 57),(1,a 61)]) 22 62 L.ab.q0.r4)=>b);simp only[sh];rfl
def L.ab.q0.r7:Reg:=by apply(fun{b:Reg}(_:b=.both (p (w [57,61]) (.buildSlice 22 2 #[(0,a 57),(1,a 61)]) 22 62 L.ab.q0.r5) (p [] (.alloc 190) 0 10 L.ab.q0.r6))=>b);simp only[sh];rfl
def L.ab.q0.r8:Reg:=by apply(fun{b:Reg}(_:b=p (w [47,52]) (.call ⟨.value (a 47),#[a 52],#[22]⟩) 22 53 L.ab.q0.r4)=>b);simp only[sh];rfl
def L.ab.q0.r9:Reg:=by apply(fun{b:Reg}(_:b=.both (p (w [47,52]) (.call ⟨.value (a 47),#[a 52],#[22]⟩) 22 53 L.ab.q0.r5) (p [] (.alloc 190) 0 10 L.ab.q0.r8))=>b);simp only[sh];rfl
def L.ab.q0.r10:Reg:=by apply(fun{b:Reg}(_:b=.both (p (w [47,52]) (.call ⟨.value (a 47),#[a 52],#[22]⟩) 22 53 L.ab.q0.r6) (p (w [57,61]) (.buildSlice 22 2 #[(0,a 57),(1,a 61)]) 22 62 L.ab.q0.r8))=>b);simp only[sh];rfl
def L.ab.q0.r11:Reg:=by apply(fun{b:Reg}(_:b=.both (p (w [47,52]) (.call ⟨.value (a 47),#[a 52],#[22]⟩) 22 53 L.ab.q0.r7) (.both (p (w [57,61]) (.buildSlice 22 2 #[(0,a 57),(1,a 61)]) 22 62 L.ab.q0.r9) (p [] (.alloc 190) 0 10 L.ab.q0.r10)))=>b);simp only[sh];rfl
def L.ab.q0.r12:Reg:=by apply(fun{b:Reg}(_:b=p (w [51]) (.buildSlice 22 1 #[(0,a 51)]) 22 52 L.ab.q0.r8)=>b);simp only[sh];rfl
def L.ab.q0.r13:Reg:=by apply(fun{b:Reg}(_:b=.both (p (w [51]) (.buildSlice 22 1 #[(0,a 51)]) 22 52 L.ab.q0.r9) (p [] (.alloc 190) 0 10 L.ab.q0.r12))=>b);simp only[sh];rfl
def L.ab.q0.r14:Reg:=by apply(fun{b:Reg}(_:b=.both (p (w [51]) (.buildSlice 22 1 #[(0,a 51)]) 22 52 L.ab.q0.r10) (p (w [57,61]) (.buildSlice 22 2 #[(0,a 57),(1,a 61)]) 22 62 L.ab.q0.r12))=>b);simp only[sh];rfl
def L.ab.q0.r15:Reg:=by apply(fun{b:Reg}(_:b=.both (p (w [51]) (.buildSlice 22 1 #[(0,a 51)]) 22 52 L.ab.q0.r11) (.both (p (w [57,61]) (.buildSlice 22 2 #[(0,a 57),(1,a 61)]) 22 62 L.ab.q0.r13) (p [] (.alloc 190) 0 10 L.ab.q0.r14)))=>b);simp only[sh];rfl
def L.ab.q0.r16:Reg:=by apply(fun{b:Reg}(_:b=p (w [34,45]) (.call ⟨.value (a 34),#[a 45],#[59]⟩) 59 46 L.ab.q0.r8)=>b);simp only[sh];rfl
def L.ab.q0.r17:Reg:=by apply(fun{b:Reg}(_:b=.both (p (w [34,45]) (.call ⟨.value (a 34),#[a 45],#[59]⟩) 59 46 L.ab.q0.r9) (p [] (.alloc 190) 0 10 L.ab.q0.r16))=>b);simp only[sh];rfl
def L.ab.q0.r18:Reg:=by apply(fun{b:Reg}(_:b=.both (p (w [34,45]) (.call ⟨.value (a 34),#[a 45],#[59]⟩) 59 46 L.ab.q0.r10) (p (w [57,61]) (.buildSlice 22 2 #[(0,a 57),(1,a 61)]) 22 62 L.ab.q0.r16))=>b);simp only[sh];rfl
def L.ab.q0.r19:Reg:=by apply(fun{b:Reg}(_:b=.both (p (w [34,45]) (.call ⟨.value (a 34),#[a 45],#[59]⟩) 59 46 L.ab.q0.r11) (.both (p (w [57,61]) (.buildSlice 22 2 #[(0,a 57),(1,a 61)]) 22 62 L.ab.q0.r17) (p [] (.alloc 190) 0 10 L.ab.q0.r18)))=>b);simp only[sh];rfl
def L.ab.q0.r20:Reg:=by apply(fun{b:Reg}(_:b=.both (p (w [34,45]) (.call ⟨.value (a 34),#[a 45],#[59]⟩) 59 46 L.ab.q0.r12) (p (w [51]) (.buildSlice 22 1 #[(0,a 51)]) 22 52 L.ab.q0.r16))=>b);simp only[sh];rfl
def L.ab.q0.r21:Reg:=by apply(fun{b:Reg}(_:b=.both (p (w [34,45]) (.call ⟨.value (a 34),#[a 45],#[59]⟩) 59 46 L.ab.q0.r13) (.both (p (w [51]) (.buildSlice 22 1 #[(0,a 51)]) 22 52 L.ab.q0.r17) (p [] (.alloc 190) 0 10 L.ab.q0.r20)))=>b);simp only[sh];rfl
def L.ab.q0.r22:Reg:=by apply(fun{b:Reg}(_:b=.both (p (w [34,45]) (.call ⟨.value (a 34),#[a 45],#[59]⟩) 59 46 L.ab.q0.r14) (.both (p (w [51]) (.buildSlice 22 1 #[(0,a 51)]) 22 52 L.ab.q0.r18) (p (w [57,61]) (.buildSlice 22 2 #[(0,a 57),(1,a 61)]) 22 62 L.ab.q0.r20)))=>b);simp only[sh];rfl
def L.ab.q0.r23:Reg:=by apply(fun{b:Reg}(_:b=.both (p (w [34,45]) (.call ⟨.value (a 34),#[a 45],#[59]⟩) 59 46 L.ab.q0.r15) (.both (p (w [51]) (.buildSlice 22 1 #[(0,a 51)]) 22 52 L.ab.q0.r19) (.both (p (w [57,61]) (.buildSlice 22 2 #[(0,a 57),(1,a 61)]) 22 62 L.ab.q0.r21) (p [] (.alloc 190) 0 10 L.ab.q0.r22))))=>b);simp only[sh];rfl
def L.ab.q0.r24:Reg:=by apply(fun{b:Reg}(_:b=p (w [35,39,44]) (.build 59 #[(0,a 35),(3,a 39),(6,a 44)]) 59 45 L.ab.q0.r16)=>b);simp only[sh];rfl
def L.ab.q0.r25:Reg:=by apply(fun{b:Reg}(_:b=.both (p (w [35,39,44]) (.build 59 #[(0,a 35),(3,a 39),(6,a 44)]) 59 45 L.ab.q0.r17) (p [] (.alloc 190) 0 10 L.ab.q0.r24))=>b);simp only[sh];rfl
def L.ab.q0.r26:Reg:=by apply(fun{b:Reg}(_:b=.both (p (w [35,39,44]) (.build 59 #[(0,a 35),(3,a 39),(6,a 44)]) 59 45 L.ab.q0.r18) (p (w [57,61]) (.buildSlice 22 2 #[(0,a 57),(1,a 61)]) 22 62 L.ab.q0.r24))=>b);simp only[sh];rfl
def L.ab.q0.r27:Reg:=by apply(fun{b:Reg}(_:b=.both (p (w [35,39,44]) (.build 59 #[(0,a 35),(3,a 39),(6,a 44)]) 59 45 L.ab.q0.r19) (.both (p (w [57,61]) (.buildSlice 22 2 #[(0,a 57),(1,a 61)]) 22 62 L.ab.q0.r25) (p [] (.alloc 190) 0 10 L.ab.q0.r26)))=>b);simp only[sh];rfl
def L.ab.q0.r28:Reg:=by apply(fun{b:Reg}(_:b=.both (p (w [35,39,44]) (.build 59 #[(0,a 35),(3,a 39),(6,a 44)]) 59 45 L.ab.q0.r20) (p (w [51]) (.buildSlice 22 1 #[(0,a 51)]) 22 52 L.ab.q0.r24))=>b);simp only[sh];rfl
def L.ab.q0.r29:Reg:=by apply(fun{b:Reg}(_:b=.both (p (w [35,39,44]) (.build 59 #[(0,a 35),(3,a 39),(6,a 44)]) 59 45 L.ab.q0.r21) (.both (p (w [51]) (.buildSlice 22 1 #[(0,a 51)]) 22 52 L.ab.q0.r25) (p [] (.alloc 190) 0 10 L.ab.q0.r28)))=>b);simp only[sh];rfl
def L.ab.q0.r30:Reg:=by apply(fun{b:Reg}(_:b=.both (p (w [35,39,44]) (.build 59 #[(0,a 35),(3,a 39),(6,a 44)]) 59 45 L.ab.q0.r22) (.both (p (w [51]) (.buildSlice 22 1 #[(0,a 51)]) 22 52 L.ab.q0.r26) (p (w [57,61]) (.buildSlice 22 2 #[(0,a 57),(1,a 61)]) 22 62 L.ab.q0.r28)))=>b);simp only[sh];rfl
def L.ab.q0.r31:Reg:=by apply(fun{b:Reg}(_:b=.both (l [34,35,36,37,38,39,40,41,42,43,44,47,48,49,50,51,54,55,56,57,58,59,60,61] [(34,d (t 2)),(47,d (t 4)),(51,d (i 1 (g 3 (t 7)) (c 0))),(57,d (i 1 (g 3 (t 1)) (c 0))),(61,d (i 1 (g 3 (t 7)) (c 1)))] [(35,d (t 3)),(39,d (i 1 (g 3 (t 7)) (c 0))),(44,o (.un (.conv .i32) (t 9)) (g 4 (t 1)))] (.build 59 #[(0,a 35),(3,a 39),(6,a 44)]) 59 45 L.ab.q0.r23) (.both (l [34,35,36,37,38,39,40,41,42,43,44,47,48,49,50,51,54,55,56,57,58,59,60,61] [(34,d (t 2)),(35,d (t 3)),(39,d (i 1 (g 3 (t 7)) (c 0))),(44,o (.un (.conv .i32) (t 9)) (g 4 (t 1))),(47,d (t 4)),(57,d (i 1 (g 3 (t 1)) (c 0))),(61,d (i 1 (g 3 (t 7)) (c 1)))] [(51,d (i 1 (g 3 (t 7)) (c 0)))] (.buildSlice 22 1 #[(0,a 51)]) 22 52 L.ab.q0.r27) (.both (l [34,35,36,37,38,39,40,41,42,43,44,47,48,49,50,51,54,55,56,57,58,59,60,61] [(34,d (t 2)),(35,d (t 3)),(39,d (i 1 (g 3 (t 7)) (c 0))),(44,o (.un (.conv .i32) (t 9)) (g 4 (t 1))),(47,d (t 4)),(51,d (i 1 (g 3 (t 7)) (c 0)))] [(57,d (i 1 (g 3 (t 1)) (c 0))),(61,d (i 1 (g 3 (t 7)) (c 1)))] (.buildSlice 22 2 #[(0,a 57),(1,a 61)]) 22 62 L.ab.q0.r29) (l [34,35,36,37,38,39,40,41,42,43,44,47,48,49,50,51,54,55,56,57,58,59,60,61] [(34,d (t 2)),(35,d (t 3)),(39,d (i 1 (g 3 (t 7)) (c 0))),(44,o (.un (.conv .i32) (t 9)) (g 4 (t 1))),(47,d (t 4)),(51,d (i 1 (g 3 (t 7)) (c 0))),(57,d (i 1 (g 3 (t 1)) (c 0))),(61,d (i 1 (g 3 (t 7)) (c 1)))] [] (.alloc 190) 0 10 L.ab.q0.r30))))=>b);simp only[sh];rfl
theorem E.ab.q0r0:regD VI 76 L.ab.q0.ops [22,5,6,1,0,8,5,7,4,9,3,2,10] (VC 29) 29 (Vy 36 34359738367)=VC L.ab.q0.r0:=bY (subs:=[]) V0 (λ_ h=>by cases h)
theorem E.ab.q0r1:regD VI 76 L.ab.q0.ops [22,5,6,1,0,8,5,7,4,9,3,2,10] (VC 29) 30 (Vy 36 17179869183)=VC L.ab.q0.r1:=bY (subs:=[((Vy 36 34359738367),L.ab.q0.r0)]) V0 (RZ.2 ⟨E.ab.q0r0,λ_ h=>by cases h⟩)
theorem E.ab.q0r2:regD VI 76 L.ab.q0.ops [22,5,6,1,0,8,5,7,4,9,3,2,10] (VC 29) 31 (Vy 36 1073741823)=VC L.ab.q0.r2:=bY (subs:=[((Vy 36 17179869183),L.ab.q0.r1)]) V0 (RZ.2 ⟨E.ab.q0r1,λ_ h=>by cases h⟩)
theorem E.ab.q0r3:regD VI 76 L.ab.q0.ops [22,5,6,1,0,8,5,7,4,9,3,2,10] (VC 29) 30 (Vy 36 9663676415)=VC L.ab.q0.r3:=bY (subs:=[((Vy 36 34359738367),L.ab.q0.r0)]) V0 (RZ.2 ⟨E.ab.q0r0,λ_ h=>by cases h⟩)
theorem E.ab.q0r4:regD VI 76 L.ab.q0.ops [22,5,6,1,0,8,5,7,4,9,3,2,10] (VC 29) 31 (Vy 36 9126805503)=VC L.ab.q0.r4:=bY (subs:=[((Vy 36 9663676415),L.ab.q0.r3)]) V0 (RZ.2 ⟨E.ab.q0r3,λ_ h=>by cases h⟩)
theorem E.ab.q0r5:regD VI 76 L.ab.q0.ops [22,5,6,1,0,8,5,7,4,9,3,2,10] (VC 29) 32 (Vy 36 536870911)=VC L.ab.q0.r5:=bY (subs:=[((Vy 36 1073741823),L.ab.q0.r2),((Vy 36 9126805503),L.ab.q0.r4)]) V0 (RZ.2 ⟨E.ab.q0r2,RZ.2 ⟨E.ab.q0r4,λ_ h=>by cases h⟩⟩)
theorem E.ab.q0r6:regD VI 76 L.ab.q0.ops [22,5,6,1,0,8,5,7,4,9,3,2,10] (VC 29) 32 (Vy 36 8858370047)=VC L.ab.q0.r6:=bY (subs:=[((Vy 36 9126805503),L.ab.q0.r4)]) V0 (RZ.2 ⟨E.ab.q0r4,λ_ h=>by cases h⟩)
theorem E.ab.q0r7:regD VI 76 L.ab.q0.ops [22,5,6,1,0,8,5,7,4,9,3,2,10] (VC 29) 33 (Vy 36 268435455)=VC L.ab.q0.r7:=bY (subs:=[((Vy 36 536870911),L.ab.q0.r5),((Vy 36 8858370047),L.ab.q0.r6)]) V0 (RZ.2 ⟨E.ab.q0r5,RZ.2 ⟨E.ab.q0r6,λ_ h=>by cases h⟩⟩)
theorem E.ab.q0r8:regD VI 76 L.ab.q0.ops [22,5,6,1,0,8,5,7,4,9,3,2,10] (VC 29) 32 (Vy 36 9126281215)=VC L.ab.q0.r8:=bY (subs:=[((Vy 36 9126805503),L.ab.q0.r4)]) V0 (RZ.2 ⟨E.ab.q0r4,λ_ h=>by cases h⟩)
theorem E.ab.q0r9:regD VI 76 L.ab.q0.ops [22,5,6,1,0,8,5,7,4,9,3,2,10] (VC 29) 33 (Vy 36 536346623)=VC L.ab.q0.r9:=bY (subs:=[((Vy 36 536870911),L.ab.q0.r5),((Vy 36 9126281215),L.ab.q0.r8)]) V0 (RZ.2 ⟨E.ab.q0r5,RZ.2 ⟨E.ab.q0r8,λ_ h=>by cases h⟩⟩)
theorem E.ab.Jk:regD VI 76 L.ab.q0.ops [22,5,6,1,0,8,5,7,4,9,3,2,10] (VC 29) 33 (Vy 36 8857845759)=VC L.ab.q0.r10:=bY (subs:=[((Vy 36 8858370047),L.ab.q0.r6),((Vy 36 9126281215),L.ab.q0.r8)]) V0 (RZ.2 ⟨E.ab.q0r6,RZ.2 ⟨E.ab.q0r8,λ_ h=>by cases h⟩⟩)
theorem E.ab.OG:regD VI 76 L.ab.q0.ops [22,5,6,1,0,8,5,7,4,9,3,2,10] (VC 29) 34 (Vy 36 267911167)=VC L.ab.q0.r11:=bY (subs:=[((Vy 36 268435455),L.ab.q0.r7),((Vy 36 536346623),L.ab.q0.r9),((Vy 36 8857845759),L.ab.q0.r10)]) V0 (RZ.2 ⟨E.ab.q0r7,RZ.2 ⟨E.ab.q0r9,RZ.2 ⟨E.ab.Jk,λ_ h=>by cases h⟩⟩⟩)
theorem E.ab.JQ:regD VI 76 L.ab.q0.ops [22,5,6,1,0,8,5,7,4,9,3,2,10] (VC 29) 33 (Vy 36 9126019071)=VC L.ab.q0.r12:=bY (subs:=[((Vy 36 9126281215),L.ab.q0.r8)]) V0 (RZ.2 ⟨E.ab.q0r8,λ_ h=>by cases h⟩)
theorem E.ab.On:regD VI 76 L.ab.q0.ops [22,5,6,1,0,8,5,7,4,9,3,2,10] (VC 29) 34 (Vy 36 536084479)=VC L.ab.q0.r13:=bY (subs:=[((Vy 36 536346623),L.ab.q0.r9),((Vy 36 9126019071),L.ab.q0.r12)]) V0 (RZ.2 ⟨E.ab.q0r9,RZ.2 ⟨E.ab.JQ,λ_ h=>by cases h⟩⟩)
theorem E.ab.Oj:regD VI 76 L.ab.q0.ops [22,5,6,1,0,8,5,7,4,9,3,2,10] (VC 29) 34 (Vy 36 8857583615)=VC L.ab.q0.r14:=bY (subs:=[((Vy 36 8857845759),L.ab.q0.r10),((Vy 36 9126019071),L.ab.q0.r12)]) V0 (RZ.2 ⟨E.ab.Jk,RZ.2 ⟨E.ab.JQ,λ_ h=>by cases h⟩⟩)
theorem E.ab.QZ:regD VI 76 L.ab.q0.ops [22,5,6,1,0,8,5,7,4,9,3,2,10] (VC 29) 35 (Vy 36 267649023)=VC L.ab.q0.r15:=bY (subs:=[((Vy 36 267911167),L.ab.q0.r11),((Vy 36 536084479),L.ab.q0.r13),((Vy 36 8857583615),L.ab.q0.r14)]) V0 (RZ.2 ⟨E.ab.OG,RZ.2 ⟨E.ab.On,RZ.2 ⟨E.ab.Oj,λ_ h=>by cases h⟩⟩⟩)
theorem E.ab.Ht:regD VI 76 L.ab.q0.ops [22,5,6,1,0,8,5,7,4,9,3,2,10] (VC 29) 33 (Vy 36 9126277119)=VC L.ab.q0.r16:=bY (subs:=[((Vy 36 9126281215),L.ab.q0.r8)]) V0 (RZ.2 ⟨E.ab.q0r8,λ_ h=>by cases h⟩)
theorem E.ab.Jp:regD VI 76 L.ab.q0.ops [22,5,6,1,0,8,5,7,4,9,3,2,10] (VC 29) 34 (Vy 36 536342527)=VC L.ab.q0.r17:=bY (subs:=[((Vy 36 536346623),L.ab.q0.r9),((Vy 36 9126277119),L.ab.q0.r16)]) V0 (RZ.2 ⟨E.ab.q0r9,RZ.2 ⟨E.ab.Ht,λ_ h=>by cases h⟩⟩)
theorem E.ab.Ka:regD VI 76 L.ab.q0.ops [22,5,6,1,0,8,5,7,4,9,3,2,10] (VC 29) 34 (Vy 36 8857841663)=VC L.ab.q0.r18:=bY (subs:=[((Vy 36 8857845759),L.ab.q0.r10),((Vy 36 9126277119),L.ab.q0.r16)]) V0 (RZ.2 ⟨E.ab.Jk,RZ.2 ⟨E.ab.Ht,λ_ h=>by cases h⟩⟩)
theorem E.ab.Ol:regD VI 76 L.ab.q0.ops [22,5,6,1,0,8,5,7,4,9,3,2,10] (VC 29) 35 (Vy 36 267907071)=VC L.ab.q0.r19:=bY (subs:=[((Vy 36 267911167),L.ab.q0.r11),((Vy 36 536342527),L.ab.q0.r17),((Vy 36 8857841663),L.ab.q0.r18)]) V0 (RZ.2 ⟨E.ab.OG,RZ.2 ⟨E.ab.Jp,RZ.2 ⟨E.ab.Ka,λ_ h=>by cases h⟩⟩⟩)
theorem E.ab.Ll:regD VI 76 L.ab.q0.ops [22,5,6,1,0,8,5,7,4,9,3,2,10] (VC 29) 34 (Vy 36 9126014975)=VC L.ab.q0.r20:=bY (subs:=[((Vy 36 9126019071),L.ab.q0.r12),((Vy 36 9126277119),L.ab.q0.r16)]) V0 (RZ.2 ⟨E.ab.JQ,RZ.2 ⟨E.ab.Ht,λ_ h=>by cases h⟩⟩)
theorem E.ab.OD:regD VI 76 L.ab.q0.ops [22,5,6,1,0,8,5,7,4,9,3,2,10] (VC 29) 35 (Vy 36 536080383)=VC L.ab.q0.r21:=bY (subs:=[((Vy 36 536084479),L.ab.q0.r13),((Vy 36 536342527),L.ab.q0.r17),((Vy 36 9126014975),L.ab.q0.r20)]) V0 (RZ.2 ⟨E.ab.On,RZ.2 ⟨E.ab.Jp,RZ.2 ⟨E.ab.Ll,λ_ h=>by cases h⟩⟩⟩)
theorem E.ab.N8:regD VI 76 L.ab.q0.ops [22,5,6,1,0,8,5,7,4,9,3,2,10] (VC 29) 35 (Vy 36 8857579519)=VC L.ab.q0.r22:=bY (subs:=[((Vy 36 8857583615),L.ab.q0.r14),((Vy 36 8857841663),L.ab.q0.r18),((Vy 36 9126014975),L.ab.q0.r20)]) V0 (RZ.2 ⟨E.ab.Oj,RZ.2 ⟨E.ab.Ka,RZ.2 ⟨E.ab.Ll,λ_ h=>by cases h⟩⟩⟩)
theorem E.ab.QL:regD VI 76 L.ab.q0.ops [22,5,6,1,0,8,5,7,4,9,3,2,10] (VC 29) 36 (Vy 36 267644927)=VC L.ab.q0.r23:=bY (subs:=[((Vy 36 267649023),L.ab.q0.r15),((Vy 36 267907071),L.ab.q0.r19),((Vy 36 536080383),L.ab.q0.r21),((Vy 36 8857579519),L.ab.q0.r22)]) V0 (RZ.2 ⟨E.ab.QZ,RZ.2 ⟨E.ab.Ol,RZ.2 ⟨E.ab.OD,RZ.2 ⟨E.ab.N8,λ_ h=>by cases h⟩⟩⟩⟩)
theorem E.ab.K6:regD VI 76 L.ab.q0.ops [22,5,6,1,0,8,5,7,4,9,3,2,10] (VC 29) 34 (Vy 36 9126275071)=VC L.ab.q0.r24:=bY (subs:=[((Vy 36 9126277119),L.ab.q0.r16)]) V0 (RZ.2 ⟨E.ab.Ht,λ_ h=>by cases h⟩)
theorem E.ab.Om:regD VI 76 L.ab.q0.ops [22,5,6,1,0,8,5,7,4,9,3,2,10] (VC 29) 35 (Vy 36 536340479)=VC L.ab.q0.r25:=bY (subs:=[((Vy 36 536342527),L.ab.q0.r17),((Vy 36 9126275071),L.ab.q0.r24)]) V0 (RZ.2 ⟨E.ab.Jp,RZ.2 ⟨E.ab.K6,λ_ h=>by cases h⟩⟩)
theorem E.ab.Oz:regD VI 76 L.ab.q0.ops [22,5,6,1,0,8,5,7,4,9,3,2,10] (VC 29) 35 (Vy 36 8857839615)=VC L.ab.q0.r26:=bY (subs:=[((Vy 36 8857841663),L.ab.q0.r18),((Vy 36 9126275071),L.ab.q0.r24)]) V0 (RZ.2 ⟨E.ab.Ka,RZ.2 ⟨E.ab.K6,λ_ h=>by cases h⟩⟩)
theorem E.ab.QV:regD VI 76 L.ab.q0.ops [22,5,6,1,0,8,5,7,4,9,3,2,10] (VC 29) 36 (Vy 36 267905023)=VC L.ab.q0.r27:=bY (subs:=[((Vy 36 267907071),L.ab.q0.r19),((Vy 36 536340479),L.ab.q0.r25),((Vy 36 8857839615),L.ab.q0.r26)]) V0 (RZ.2 ⟨E.ab.Ol,RZ.2 ⟨E.ab.Om,RZ.2 ⟨E.ab.Oz,λ_ h=>by cases h⟩⟩⟩)
theorem E.ab.OJ:regD VI 76 L.ab.q0.ops [22,5,6,1,0,8,5,7,4,9,3,2,10] (VC 29) 35 (Vy 36 9126012927)=VC L.ab.q0.r28:=bY (subs:=[((Vy 36 9126014975),L.ab.q0.r20),((Vy 36 9126275071),L.ab.q0.r24)]) V0 (RZ.2 ⟨E.ab.Ll,RZ.2 ⟨E.ab.K6,λ_ h=>by cases h⟩⟩)
theorem E.ab.QD:regD VI 76 L.ab.q0.ops [22,5,6,1,0,8,5,7,4,9,3,2,10] (VC 29) 36 (Vy 36 536078335)=VC L.ab.q0.r29:=bY (subs:=[((Vy 36 536080383),L.ab.q0.r21),((Vy 36 536340479),L.ab.q0.r25),((Vy 36 9126012927),L.ab.q0.r28)]) V0 (RZ.2 ⟨E.ab.OD,RZ.2 ⟨E.ab.Om,RZ.2 ⟨E.ab.OJ,λ_ h=>by cases h⟩⟩⟩)
theorem E.ab.Qk:regD VI 76 L.ab.q0.ops [22,5,6,1,0,8,5,7,4,9,3,2,10] (VC 29) 36 (Vy 36 8857577471)=VC L.ab.q0.r30:=bY (subs:=[((Vy 36 8857579519),L.ab.q0.r22),((Vy 36 8857839615),L.ab.q0.r26),((Vy 36 9126012927),L.ab.q0.r28)]) V0 (RZ.2 ⟨E.ab.N8,RZ.2 ⟨E.ab.Oz,RZ.2 ⟨E.ab.OJ,λ_ h=>by cases h⟩⟩⟩)
theorem E.ab.Ql:regD VI 76 L.ab.q0.ops [22,5,6,1,0,8,5,7,4,9,3,2,10] (VC 29) 37 (Array.replicate 36 VH)=VC L.ab.q0.r31:=bY (subs:=[((Vy 36 267644927),L.ab.q0.r23),((Vy 36 267905023),L.ab.q0.r27),((Vy 36 536078335),L.ab.q0.r29),((Vy 36 8857577471),L.ab.q0.r30)]) V0 (RZ.2 ⟨E.ab.QL,RZ.2 ⟨E.ab.QV,RZ.2 ⟨E.ab.QD,RZ.2 ⟨E.ab.Qk,λ_ h=>by cases h⟩⟩⟩⟩)
def L.ab:LFn:=
⟨[(.un (.bI 8) (.tmp 5)),(.tmp 6)],
 (.seq
 (.reg VH (.loud [] [] [] VD [] VH (.alloc 190) 0 (VC 5) VG
  (.fin [6] [(6,(.con (.bool VH)))] [])))
 (.seq
 (.reg VG (.both
  (.loud [13,14,15,16,17] [] [(13,(.un (.bI 13) (.tmp 0))),(17,(.un .load (.bin (.idx 1) (.un .load (.un (.fld 3) (.tmp 1))) (.con (Vz VA 0)))))] VD [] VG (.call ⟨.value (.func 186),#[(.tmp 13),(.tmp 17),(.const (Vz VA 2))],#[186,3,3]⟩) 244 (VC 18) VG
   (.loud [12,19,20] [(19,(.un (.ext 0) (.tmp 18))),(20,(.un (.ext 1) (.tmp 18)))] [] VD [] VH (.alloc 102) 0 (VC 7) VG
    (.loud [] [] [(7,(.tmp 7)),(19,(.tmp 19))] VD [] VH (.store 102 (.tmp 7) (.tmp 19)) 0 VD VH
     (.fin [8] [(8,(.tmp 20))] []))))
  (.loud [13,14,15,16,17] [(13,(.un (.bI 13) (.tmp 0))),(17,(.un .load (.bin (.idx 1) (.un .load (.un (.fld 3) (.tmp 1))) (.con (Vz VA 0)))))] [] VD [] VH (.alloc 102) 0 (VC 7) VG
   (.loud [] [] [(13,(.tmp 13)),(17,(.tmp 17))] VD [] VG (.call ⟨.value (.func 186),#[(.tmp 13),(.tmp 17),(.const (Vz VA 2))],#[186,3,3]⟩) 244 (VC 18) VG
    (.loud [12,19,20] [(20,(.un (.ext 1) (.tmp 18)))] [(7,(.tmp 7)),(19,(.un (.ext 0) (.tmp 18)))] VD [] VH (.store 102 (.tmp 7) (.tmp 19)) 0 VD VH
     (.fin [8] [(8,(.tmp 20))] []))))))
 (.seq
 (.seq
 (.reg VH (.fin [21,22] [(22,(.un .not (.tmp 8)))] []))
 (.cond (.tmp 22) [22]
  (.seq
  (.reg VH (.loud [] [] [] VD [] VH (.build 190 #[]) 190 (VC 23) VG
   (.loud [] [] [(5,(.tmp 5)),(23,(.tmp 23))] VD [] VH (.store 190 (.tmp 5) (.tmp 23)) 0 VD VH
    (.fin [6] [(6,(.con (.bool VH)))] []))))
  .ret)
  .skip))
 (.seq
 (.reg VG (.loud [25,26,27,28,29] [] [(25,(.un (.bI 13) (.tmp 0))),(29,(.un .load (.bin (.idx 1) (.un .load (.un (.fld 3) (.tmp 7))) (.con (Vz VA 1)))))] VD [] VG (.call ⟨.value (.func 195),#[(.tmp 25),(.tmp 29),(.const (Vz VA (-2147483648))),(.const (Vz VA 2147483647))],#[186,3,3,3]⟩) 120 (VC 30) VG
  (.fin [24,31,32,9,8] [(9,(.un (.ext 0) (.tmp 30))),(8,(.un (.ext 1) (.tmp 30)))] [])))
 (.seq
 (.reg VG L.ab.q0.r31)
 (.seq
 (.reg VG (.loud [66,67,68,69,70,71,72,73] [(66,(.un (.bI 8) (.tmp 10))),(68,(.tmp 8))] [(73,(.gd (.tmp 8) VG (.bin (.arith .add) (.tmp 9) (.un (.conv .i64) (.un .load (.un (.fld 4) (.tmp 1)))))))] (VC ((.tmp 8),VG)) [] VH (.call ⟨.value (.func 135),#[(.tmp 73),(.const (Vz VA 0)),(.const (Vz VA 255))],#[3,3,3]⟩) 4 (VC 74) VG
  (.loud [75] [(75,(.ite (.tmp 68) (.tmp 74) (.con (.bool VH))))] [(5,(.tmp 5)),(66,(.tmp 66))] VD [] VG (.store 190 (.tmp 5) (.tmp 66)) 0 VD VH
   (.fin [6] [(6,(.tmp 75))] []))))
 .ret))))))⟩
theorem E.ab:aP VI Tryz.f228=VC L.ab:=Nr (lv:=[22,5,6,1,0,8,5,7,4,9,3,2,10]) (lr:=[5,6,1,0,8,5,7,4,9,3,2,10]) (n:=76) V0 V0 V0 V0 V0
 (lS V0 V0
 (lS V0 V0
 (lS V0 V0
 (lS V0 V0
 (lS V0 (CL (l0:=(VC 29)) (n:=36) V0 V0 V0 E.ab.Ql)
 (lS V0 V0
 V0))))))
end
theorem wrap32_in{a:Int}(h0:-2147483648<=a)(h1:a<=2147483647):IntKind.i32.wrap a=a:=by unfold IntKind.wrap;simp[IntKind.signed,IntKind.bits];omega
section
variable{V:View}{h:Heap}{S I O P Q LL TT:Nat}{s:cG}{op plain sum:Int}
set_option maxHeartbeats 4000000 in
theorem ML(mx:Mx V S I O P Q LL TT s op plain sum)(hV:V.le (vw h))(hok:np s)(hop:s.i.op=op)(ho:op=15\/op=16)(hp0:0<=plain/\plain<=100):
    ay VI 228 #[ptr S,ptr I,ptr LL,ptr P,ptr TT] h (λu h'=>cu V h h' u (memS s.f s.i s.temp op plain sum 1)):=by
  refine ao (args:=[ptr S,ptr I,ptr LL,ptr P,ptr TT]) follows Tryz.func228 E.ab Vu λK hK=>?_
  dsimp only[L.ab,lkF,lkG]
  have c0:=Cx.start hV
  have l1:1<=s.i.args.length:=by
    rcases ho with q | q
    · exact hok.one.one (hop.trans q)
    · have:=hok.one.two (.inr (.inl (hop.trans q)));omega
  have l2:op=15\/2<=s.i.args.length:=ho.imp id λq=>hok.one.two (.inr (.inl (hop.trans q)))
  refine aa λz hz=>?_
  simp
  refine c0.cV (k:=(0,0)) (n:=7) (z:=.agg fitZ.toArray) rfl V0 rfl V6 Vs λR hb hleb cb=>?_
  subst hz
  have i4:=(mx.ct.ins.part InsD.lL)
  have r4:=i4.sP
  have i4:aq V ⟨I,4,VD⟩=VC (Vz VB s.i.imm.v):=by simpa using i4.i32
  obtain⟨va,i3,hva⟩:=(mx.ct.ins.part InsD.e9).sl
  have i3:aq V ⟨I,3,VD⟩=VC va:=by simpa using i3
  have a0:=hva.rng (i:=0) V4
  have most:=hok.one.most
  have q0:=hva.idx1 (k:=.i64) (i:=0) rfl V6 V4
  have d0:=hva.int (View.le_refl V) (i:=0) V4
  simp at q0
  obtain⟨us,hus,rus⟩:=mx.ct.site.ldN rfl (N:=13) rfl
  have hus:=hus V Vw
  have hfm:=fk (f:=s.f) (v:=nth s.i.args 0) (op:=2)
  have hdo:memS s.f s.i s.temp op plain sum 1=if(aK s.f (nth s.i.args 0) 2).2 then
      if(fu s.f (nth (aK s.f (nth s.i.args 0) 2).1.args 1) (-2147483648) 2147483647).2&&inR ((fu s.f (nth (aK s.f (nth s.i.args 0) 2).1.args 1) (-2147483648) 2147483647).1+s.i.imm.v) 0 255 then
        VC ⟨nth (aK s.f (nth s.i.args 0) 2).1.args 0::s.i.args.drop 1,[nth s.i.args 0,nth (aK s.f (nth s.i.args 0) 2).1.args 1],
          [gM s.i op plain ⟨plain,0,0,nth (aK s.f (nth s.i.args 0) 2).1.args 0,0,0,w32 ((fu s.f (nth (aK s.f (nth s.i.args 0) 2).1.args 1) (-2147483648) 2147483647).1+s.i.imm.v),[]⟩],cT⟩
      else VD
    else none:=rfl
  have hF:=@pI s us (nth s.i.args 0) 2
  generalize (aK s.f (nth s.i.args 0) 2).1=m at *
  generalize (aK s.f (nth s.i.args 0) 2).2=b at *
  refine aa λz hz=>?_
  have rest : ∀(W:View) (hx:Heap) (B2:Nat) (ρ:Env),V.le W->Cx V h W hx (Own.upd (λ_=>VD) (0,0) (bx T.bf R (RawN.mk (n:=7) fitZ)))->At W ⟨B2,0,VD⟩ m->
      Lft.look ρ 0=VC (ptr S)->Lft.look ρ 1=VC (ptr I)->Lft.look ρ 2=VC (ptr LL)->Lft.look ρ 3=VC (ptr P)->Lft.look ρ 4=VC (ptr TT)->Lft.look ρ 5=VC (ptr R)->Lft.look ρ 7=VC (ptr B2)->Lft.look ρ 8=VC (.bool b)->
      LC.wp VI z (dR [.un (.bI 8) (.tmp 5),.tmp 6] K) ρ hx:=by
    intro W hx B2 ρ hVW c hat g0 g1 g2 g3 g4 g5 g7 g8
    rw[hz]
    refine aa λx hx'=>?_
    have none_ : ∀(hy:Heap) (o:Own) (l9:List Value),Cx V h W hy o->Rd W (.agg l9.toArray) LS->b=VH->K (.tuple #[.agg l9.toArray,.bool VH]) hy:=λhy o l9 c hr e=>
      hK _ _ (cu.of c hr (by rw[hdo,e];rfl) λy e2=>by rw[hdo,e]at e2;cases e2)
    cases b with
    | false=>
      simp[g0,g1,g2,g3,g4,g5,g7,af,ag,g8]
      refine aA (t:=T.bf) (z:=.agg fitZ.toArray) (places:=zpc) (vs:=[]) (cs:=fitZ.toArray) V0 V0 V5 V0 ?_
      refine c.bJ (k:=(0,0)) (n:=7) (l:=fitZ) V7 gD rfl rfl V0 V5 V5 λh9 l9 hl9 c9=>?_
      have hall:=c9.all (k:=(0,0)) (n:=7) (l:=l9) (B:=R) (e:=T.bf) V7
      simp at hall
      simp[hall]
      exact none_ _ _ _ c9 (hl9▸gD) rfl
    | true=>
      obtain⟨m1,m2,-⟩:=hfm rfl
      have hma:=(hok.all _ m1).two V4
      obtain⟨vb,j3,hvb⟩:=(hat.part InsD.e9).sl
      have j3:aq W ⟨B2,3,VD⟩=VC vb:=by simpa using j3
      have b0:=hvb.rng (i:=0) V4
      have b1:=hvb.rng (i:=1) V4
      have q2:=hvb.idx1 (k:=.i64) (i:=0) rfl V6 V4
      have q3:=hvb.idx1 (k:=.i64) (i:=1) rfl V6 V4
      have d2:=hvb.int (View.le_refl W) (i:=0) V4
      have d3:=hvb.int (View.le_refl W) (i:=1) V4
      simp at q2 q3
      have i4:=ae hVW i4
      have i3:=ae hVW i3
      have d0:=ae hVW d0
      have hus:=dW (ρ:=λ_=>VD) (e:=.un (.bI 13) (.con (ptz S))) hVW (v:=us) (by simpa using hus)
      have hus:Un.ev W (.bI 13) (ptz S)=VC us:=by simpa using hus
      have rus:=rus.mono hVW
      have eL:=ae hVW mx.laid
      have eT:=ae hVW mx.with_
      have eP:=ae hVW mx.plain
      have mx:=mx.mono hVW
      simp[g0,g1,g2,g3,g4,g5,g7,af,ag,g8]
      rw[hx'];clear hx' x
      refine aa λx hx'=>?_
      refine aN W c.wle ?_
      simp[g0,g1,g2,g3,g4,g5,g7,af,ag,hus,j3,q3,d3]
      refine ah V0 (yo c.wle rus hok.sm b1) ?_
      rintro _ hc ⟨hle,rfl⟩
      have rk:-2147483648<=(fu s.f (nth m.args 1) (-2147483648) 2147483647).1/\(fu s.f (nth m.args 1) (-2147483648) 2147483647).1<=2147483647:=Ag hok.rng
      generalize (fu s.f (nth m.args 1) (-2147483648) 2147483647).1=k at *
      generalize (fu s.f (nth m.args 1) (-2147483648) 2147483647).2=ok at *
      have cc:Cx V h W hc _:=⟨c.own.ext' hle,c.old,Vx c.le0 hle,c.new⟩
      simp[g0,g1,g2,g3,g4,g5,g7,af,ag]
      rw[hx'];clear hx' x
      have ei:IntKind.i32.wrap k=k:=wrap32_in rk.1 rk.2
      have e2:IntKind.i64.wrap s.i.imm.v=s.i.imm.v:=bj V4 V4
      have e3:IntKind.i64.wrap (k+s.i.imm.v)=k+s.i.imm.v:=bj V4 V4
      have hm : ∀X,Rd X (.agg #[Vz VA plain,Vz VA 0,Vz VA 0,Vz VA (nth m.args 0),Vz VA 0,Vz VA 0,Vz VB (IntKind.i32.wrap (k+s.i.imm.v)),VE VD 0 0]) (⟨plain,0,0,nth m.args 0,0,0,w32 (k+s.i.imm.v),[]⟩:aU):=λX=>jZ (imm:=w32 (k+s.i.imm.v)) Vt (HB _) aL
      have fin : ∀(W:View) (hx:Heap) (o:Own) (l9:List Value),Cx V h W hx o->Rd W (.agg l9.toArray) (⟨nth m.args 0::s.i.args.drop 1,[nth s.i.args 0,nth m.args 1],[gM s.i op plain ⟨plain,0,0,nth m.args 0,0,0,w32 (k+s.i.imm.v),[]⟩],cT⟩:FitD)->K (.tuple #[.agg l9.toArray,.bool (ok&&inR (k+s.i.imm.v) 0 255)]) hx:=λW hx o l9 c hr=>
        hK _ _ (cu.of c hr (by rw[hdo];cases ok&&inR (k+s.i.imm.v) 0 255<;>rfl) λy e=>by
          rw[hdo,if_pos rfl]at e
          split at e
          · cases e;rfl
          · cases e)
      clear none_ hK hdo hF hfm hus
      refine aa λx hx'=>?_
      have tl : ∀(h2:Heap) (W2:View) (o:Own) (R2:Nat) (l9:List Value) (ρ2:Env),W.le W2->Cx V h W2 h2 o->o (0,0)=bx T.bf R (RawN.mk (n:=7) fitZ)->o (0,1)=bx T.bf R2 (RawN.mk (n:=7) l9)->Rd W2 (.agg l9.toArray) (⟨nth m.args 0::s.i.args.drop 1,[nth s.i.args 0,nth m.args 1],[gM s.i op plain ⟨plain,0,0,nth m.args 0,0,0,w32 (k+s.i.imm.v),[]⟩],cT⟩:FitD)->
          Lft.look ρ2 1=VC (ptr I)->Lft.look ρ2 5=VC (ptr R)->Lft.look ρ2 8=VC (.bool ok)->Lft.look ρ2 9=VC (Vz VA k)->Lft.look ρ2 10=VC (ptr R2)->LC.wp VI x (dR [.un (.bI 8) (.tmp 5),.tmp 6] K) ρ2 h2:=by
        intro h2 W2 o R2 l9 ρ2 hW2 c ho1 ho2 hr f1 f5 f8 f9 f10
        rw[hx']
        refine aa λv hv=>?_
        have hall:=c.all (k:=(0,1)) (n:=7) (l:=l9) (B:=R2) (e:=T.bf) ho2
        simp at hall
        refine aN (vw h2) Vw ?_
        have last : ∀(b:Bool) (ρ3:Env),Lft.look ρ3 5=VC (ptr R)->Lft.look ρ3 6=VC (.bool (ok&&inR (k+s.i.imm.v) 0 255))->∀h3 l3,Cx V h W2 h3 (o.upd (0,0) (bx T.bf R (RawN.mk (n:=7) l3)))->Value.agg l9.toArray=Value.agg l3.toArray->LC.wp VI v (dR [.un (.bI 8) (.tmp 5),.tmp 6] K) ρ3 h3:=λb ρ3 k5 k6 h3 l3 c3 el=>by
          rw[hv]
          have hall:=c3.all (k:=(0,0)) (n:=7) (l:=l3) (B:=R) (e:=T.bf) Own.an
          simp at hall
          simp[k5,k6,hall]
          exact fin _ _ _ _ c3 (el▸hr)
        refine dg λy hy=>?_
        cases ok with
        | false=>
          simp[f1,f5,f8,f9,f10,af,ag,hall,ae (Vx hW2 c.wle) i4,e2,e3]
          subst hy
          refine dg λy hy=>?_
          simp[f1,f5,f8,f9,f10,af,ag]
          refine c.bJ (k:=(0,0)) (n:=7) (l:=fitZ) ho1 hr rfl rfl V0 V5 V5 λh4 l4 hl4 c4=>?_
          subst hy
          simp[f1,f5,f8,f9,f10,af,ag]
          exact last VH _ (by simp[f1,f5,f8,f9,f10,af,ag]) (by simp[f1,f5,f8,f9,f10,af,ag]) _ _ c4 hl4
        | true=>
          simp[f1,f5,f8,f9,f10,af,ag,hall,ae (Vx hW2 c.wle) i4,e2,e3]
          refine ah V0 kE ?_
          rintro _ h3 ⟨rfl,rfl⟩
          refine⟨View.le_refl _,?_⟩
          subst hy
          refine dg λy hy=>?_
          simp[f1,f5,f8,f9,f10,af,ag]
          refine c.bJ (k:=(0,0)) (n:=7) (l:=fitZ) ho1 hr rfl rfl V0 V5 V5 λh4 l4 hl4 c4=>?_
          subst hy
          simp[f1,f5,f8,f9,f10,af,ag]
          exact last VH _ (by simp[f1,f5,f8,f9,f10,af,ag]) (by simp[f1,f5,f8,f9,f10,af,ag]) _ _ c4 hl4
      clear fin
      have c:=cc
      refine aN W c.wle ?_
      have hWV:W.le W:=View.le_refl _
      repeat' (first
        | refine ju ?_ ?_
        | (refine dg λy hy=>?_
           simp[g0,g1,g2,g3,g4,g5,g7,af,ag,i3,i4,j3,q0,q2,q3,d0,d2,d3,eL,eT,eP,ei]
           first
           | refine aA (t:=T.du) (z:=.agg yr.toArray) (places:=zpb) (vs:=[(0,Vz VA plain),(3,Vz VA (nth m.args 0)),(6,Vz VB (IntKind.i32.wrap (k+s.i.imm.v)))]) (cs:=#[Vz VA plain,Vz VA 0,Vz VA 0,Vz VA (nth m.args 0),Vz VA 0,Vz VA 0,Vz VB (IntKind.i32.wrap (k+s.i.imm.v)),VE VD 0 0]) V0 V0 V5 V0 ?_
           | (refine c.yS (k:=(0,2)) (n:=1) (l:=[nth m.args 0]) V7 El.aZ ?_ ?_ rfl V6 λuA h hle c=>?_
              · simp;done
              · simp;omega)
           | (refine c.nf (α:=Int) (n:=2) (vs:=[Vz VA (nth s.i.args 0),Vz VA (nth m.args 1)]) (ds:=[nth s.i.args 0,nth m.args 1]) El.aZ ?_ ⟨bu.2 ⟨rfl,a0⟩,bu.2 ⟨rfl,b1⟩,trivial⟩ rfl V6 V6 λuB h W hW c huB hle=>?_
              · simp;done)
           | (refine bW (ops:=[.tmp 45]) (caps:=#[ptr O,ptr I,ptr P]) rfl V0 (yO mx Vv c.wle (hm _) l2) ?_
              rintro um h ⟨hle,hum⟩
              have hW:=c.up (h':=h)
              have c:=c.ext hle)
           | (refine bW (ops:=[.tmp 52]) (caps:=#[ptr I]) rfl V0 (yI mx Vv c.wle (c.own.get (k:=(0,2)) (v:=uA) (l:=[nth m.args 0]) V7) V5 l1 V4) ?_
              rintro uw h ⟨own2,mv⟩
              have c:=c.gK (k:=(0,2)) (v:=uA) (l:=[nth m.args 0]) V7 own2 mv
              obtain⟨W,hW,c,huA⟩:=c.freeze (k:=(0,2)) (v:=uw) (l:=[nth m.args 0]++s.i.args.drop 1) V7)
           | refine c.cV (k:=(0,1)) (n:=7) (z:=.agg fitZ.toArray) V7 V0 rfl V6 Vs λR2 h hle c=>?_
           | (refine ah V0 (mh c.wle (hum.mono Vv) (huA.mono Vv) (huB.mono Vv)) ?_
              rintro _ h ⟨hle,vf,rfl,hvf⟩
              have hW:=c.up (h':=h)
              have c:=c.ext hle)
           | refine c.bJ (k:=(0,1)) (n:=7) (l:=fitZ) V7 (hvf.mono Vv) rfl rfl V0 V5 V5 λh l9 hl9 c=>?_
           try refine⟨Vx Vv c.wle,?_⟩
           subst hy))
      all_goals
        simp[g0,g1,g2,g3,g4,g5,g7,af,ag,L.ab.q0.r0]
        exact tl _ _ _ _ _ _ Vv c V7 V7 (hl9▸hvf.mono Vv) (by simp[g0,g1,g2,g3,g4,g5,g7,af,ag]) (by simp[g0,g1,g2,g3,g4,g5,g7,af,ag]) (by simp[g0,g1,g2,g3,g4,g5,g7,af,ag]) (by simp[g0,g1,g2,g3,g4,g5,g7,af,ag]) (by simp[g0,g1,g2,g3,g4,g5,g7,af,ag])
  refine aN V cb.wle ?_
  have c:=cb
  refine ju ?_ ?_
  · refine dg λy hy=>?_
    simp[hus,i3,q0,d0]
    refine ah V0 (hF c.wle rus hok.sm a0) ?_
    rintro _ h1 ⟨hle1,vm,rfl,hvm⟩
    have hW1:=c.up (h':=h1)
    have c:=c.ext hle1
    subst hy
    refine dg λy hy=>?_
    simp
    refine c.dQ (k:=(0,4)) (z:=.agg insZ.toArray) (d:=iH) V7 V0 oe V6 λB2 h2 hle2 c=>?_
    subst hy
    refine dg λy hy=>?_
    simp
    refine c.cz Part.all (k:=(0,4)) (D:=iH) (d:=m) V7 V0 V5 V5 hvm λh3 c=>?_
    subst hy
    simp
    obtain⟨W4,hW4,c,hat⟩:=c.kg (k:=(0,4)) (B:=B2) (d:=m) V7
    rw[Own.fE,Own.vW V7]at c
    exact rest _ _ _ _ (Vx hW1 hW4) c hat rfl rfl rfl rfl rfl rfl rfl rfl
  · refine dg λy hy=>?_
    simp[hus,i3,q0,d0]
    refine c.dQ (k:=(0,4)) (z:=.agg insZ.toArray) (d:=iH) V7 V0 oe V6 λB2 h2 hle2 c=>?_
    refine⟨c.wle,?_⟩
    subst hy
    refine dg λy hy=>?_
    simp
    refine ah V0 (hF c.wle rus hok.sm a0) ?_
    rintro _ h1 ⟨hle1,vm,rfl,hvm⟩
    have hW1:=c.up (h':=h1)
    have c:=c.ext hle1
    subst hy
    refine dg λy hy=>?_
    simp
    refine c.cz Part.all (k:=(0,4)) (D:=iH) (d:=m) V7 V0 V5 V5 hvm λh3 c=>?_
    subst hy
    simp
    obtain⟨W4,hW4,c,hat⟩:=c.kg (k:=(0,4)) (B:=B2) (d:=m) V7
    rw[Own.fE,Own.vW V7]at c
    exact rest _ _ _ _ (Vx hW1 hW4) c hat rfl rfl rfl rfl rfl rfl rfl rfl
end
theorem O2:iu:=λV h s S I O P Q L T op plain sum mx hV hok hop ho hne hp hs ht=>⟨NQ mx hV hok hop ho hp,ML mx hV hok hop ho hp,MU mx hV hok hop ho hs,Mm mx hV hok hop ho hs ht⟩
variable{pp:PP}{P:Program}{Q:Post}{ρ:Env}{h:Heap}{kl:List Nat}{c:Nat}{e:E}{a b x:LC}
theorem dc{i:Nat}(hx:x.wp P (eY i Q) ρ h):LC.wp P (.block i x) Q ρ h:=hx
theorem JU{v:Value}(hk:ρ.all (λp=>!kl.contains p.1&&!(p.1 == c))=VG):cK (setE (cK ρ kl) c v) [c]=ρ:=by have h:=SR.1 hk;simp only[Se,Tm,beq_eq_false_iff_ne,ne_eq]at h;have h1:cK ρ kl=ρ:=nU λp hp=>(h p hp).1;rw[h1];exact nZ λp hp=>(h p hp).2
theorem DY(v:Bool)(hk:ρ.all (λp=>!kl.contains p.1&&!(p.1 == c))=VG)(he:ev (look ρ) (vw h) e=VC (.bool v))(hx:LC.wp P (bif v then a else b) Q ρ h) :
  LC.wp P (.seq (.reg VH (.fin kl [(c,e)] [])) (.cond (.tmp c) [c] a b)) Q ρ h:=by
 rw[wI,nK];refine⟨[(c,.bool v)],?_,trivial,?_⟩
 ·simp only[part];simp[evP,he]
 simp only[dC,fL];rw[oE];have hl:ev (look (setE (cK ρ kl) c (.bool v))) (vw h) (.tmp c)=VC (.bool v):=by simp[af]
 rw[hl,JU hk];cases v
 ·simpa using hx
 simpa using hx
theorem kz(hk:ρ.all (λp=>!kl.contains p.1&&!(p.1 == c))=VG)(he:ev (look ρ) (vw h) e=VC (.bool VG))(hx:LC.wp P a Q ρ h) :
  LC.wp P (.seq (.reg VH (.fin kl [(c,e)] [])) (.cond (.tmp c) [c] a b)) Q ρ h:=DY VG hk he hx
theorem kq(hk:ρ.all (λp=>!kl.contains p.1&&!(p.1 == c))=VG)(he:ev (look ρ) (vw h) e=VC (.bool VH))(hx:LC.wp P b Q ρ h) :
  LC.wp P (.seq (.reg VH (.fin kl [(c,e)] [])) (.cond (.tmp c) [c] a b)) Q ρ h:=DY VH hk he hx
end Go.Lft
namespace Go.Lft
variable{pp:PP}{P:Program}{Q:Post}{ρ:Env}{h:Heap}{kl:List Nat}{c:Nat}{e:E}{a b x:LC}
def Slk(ρ:Env)(l:List (Nat × Value)):Prop:=∀p∈l,look ρ p.1=VC p.2
theorem ff{p:Nat × Value}{l:List (Nat × Value)}:Slk ρ (p::l)↔look ρ p.1=VC p.2/\Slk ρ l:=by unfold Slk;simp
theorem gw:Slk ρ []↔True:=by unfold Slk;simp
end Go.Lft
namespace Go.Lft
variable{pp:PP}{P:Program}{Q:Post}{ρ:Env}{h:Heap}{kl:List Nat}{c:Nat}{e:E}{a b x:LC}
end Go.Lft
