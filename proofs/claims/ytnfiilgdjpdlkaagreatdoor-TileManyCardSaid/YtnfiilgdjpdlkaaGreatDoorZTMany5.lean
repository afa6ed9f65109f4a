/- For every input TileMany returns true: a table may have 1024 tiles, and not one more. No condition. -/
import Derived.Test.YtnfiilgdjpdlkaaGreatDoorZTMany4
import Derived.Shelf.Strings.Fields
import Derived.Test.YtnfiilgdjpdlkaaGreatDoorRows
import Derived.Lib.LaidTab
import Derived.LaidMore
import Derived.Test.YtnfiilgdjpdlkaaGreatDoorCards
import Derived.Test.YtnfiilgdjpdlkaaGreatDoorTie
import Derived.SevenTiedAt
set_option linter.unusedSimpArgs false
set_option linter.unusedVariables false
namespace Go.Proofs
open Go.Shelf
def Tryz.gw:Go.Shelf.Ren:=⟨fun | 157=>41 | 229=>65 | 199=>66 | 261=>114 | 311=>136 | 312=>137 | n=>n,fun | 9=>9 | 31=>105 | 3=>3 | 5=>5 | 4=>4 | 119=>140 | 0=>0 | 40=>142 | 152=>176 | 21=>21 | 154=>178 | 51=>151 | 141=>180 | 196=>204 | 193=>201 | 198=>207 | 49=>205 | 194=>202 | 201=>210 | 226=>220 | 46=>76 | 227=>221 | n=>n,fun | 0=>0 | 6=>1 | n=>n⟩
theorem Tryz.Ad:Go.Proofs.Lays.n157 Tryz.prog Tryz.gw:={
 mixed:=by kernel_rfl
 f157:=Tryz.func41.trans (congrArg some (by kernel_rfl))
 f199:=Tryz.func66.trans (congrArg some (by kernel_rfl))
 f229:=Tryz.func65.trans (congrArg some (by kernel_rfl))
 f261:=Tryz.func114.trans (congrArg some (by kernel_rfl))
 f311:=Tryz.func136.trans (congrArg some (by kernel_rfl))
 f312:=Tryz.func137.trans (congrArg some (by kernel_rfl))
 t0:=Tryz.underlying0
 a0:=Tryz.isAgg0
 z0:=Tryz.sizeOf0
 v0:=Tryz.zeroValue0
 t3:=Tryz.underlying3
 a3:=Tryz.isAgg3
 z3:=Tryz.sizeOf3
 v3:=Tryz.zeroValue3
 t4:=Tryz.underlying4
 a4:=Tryz.isAgg4
 z4:=Tryz.sizeOf4
 v4:=Tryz.zeroValue4
 t5:=Tryz.underlying5
 a5:=Tryz.isAgg5
 z5:=Tryz.sizeOf5
 v5:=Tryz.zeroValue5
 t9:=Tryz.underlying9
 a9:=Tryz.isAgg9
 z9:=Tryz.sizeOf9
 v9:=Tryz.zeroValue9
 t21:=Tryz.underlying21
 a21:=Tryz.isAgg21
 z21:=Tryz.sizeOf21
 v21:=Tryz.zeroValue21
 t31:=Tryz.underlying105
 a31:=Tryz.isAgg105
 z31:=Tryz.sizeOf105
 v31:=Tryz.zeroValue105
 t40:=Tryz.underlying142
 a40:=Tryz.isAgg142
 z40:=Tryz.sizeOf142
 v40:=Tryz.zeroValue142
 t46:=Tryz.underlying76
 a46:=Tryz.isAgg76
 z46:=Tryz.sizeOf76
 v46:=Tryz.zeroValue76
 t49:=Tryz.underlying205
 a49:=Tryz.isAgg205
 z49:=Tryz.sizeOf205
 v49:=Tryz.zeroValue205
 t51:=Tryz.underlying151
 a51:=Tryz.isAgg151
 z51:=Tryz.sizeOf151
 v51:=Tryz.zeroValue151
 t119:=Tryz.underlying140
 a119:=Tryz.isAgg140
 z119:=Tryz.sizeOf140
 t141:=Tryz.underlying180
 a141:=Tryz.isAgg180
 z141:=Tryz.sizeOf180
 v141:=Tryz.zeroValue180
 t152:=Tryz.underlying176
 a152:=Tryz.isAgg176
 z152:=Tryz.sizeOf176
 v152:=Tryz.zeroValue176
 t154:=Tryz.underlying178
 a154:=Tryz.isAgg178
 z154:=Tryz.sizeOf178
 v154:=Tryz.zeroValue178
 t193:=Tryz.underlying201
 a193:=Tryz.isAgg201
 z193:=Tryz.sizeOf201
 v193:=Tryz.zeroValue201
 t194:=Tryz.underlying202
 a194:=Tryz.isAgg202
 z194:=Tryz.sizeOf202
 v194:=Tryz.zeroValue202
 t196:=Tryz.underlying204
 a196:=Tryz.isAgg204
 z196:=Tryz.sizeOf204
 v196:=Tryz.zeroValue204
 t198:=Tryz.underlying207
 a198:=Tryz.isAgg207
 z198:=Tryz.sizeOf207
 v198:=Tryz.zeroValue207
 t201:=Tryz.underlying210
 a201:=Tryz.isAgg210
 z201:=Tryz.sizeOf210
 v201:=Tryz.zeroValue210
 t226:=Tryz.underlying220
 a226:=Tryz.isAgg220
 z226:=Tryz.sizeOf220
 v226:=Tryz.zeroValue220
 t227:=Tryz.underlying221
 a227:=Tryz.isAgg221
 z227:=Tryz.sizeOf221
 v227:=Tryz.zeroValue221
 g0:=by kernel_rfl
 g6:=by kernel_rfl }
end Go.Proofs
namespace Go.Lft
open Go
structure StrD where
 v:ByteArray
instance:Rep StrD where
 n:=1
 agg:=false
 rd:=fun _ cs d=>cs=[.string d.v]
 mono:=fun _ h=>h
 len:=fun h=>by rw[h];rfl
 one:=fun _=>rfl
 flat:=fun h u hu=>by rw[h]at hu;simp at hu;subst hu;rfl
 pos:=FE
 dB:=fun h=>h
theorem At.str {H:View} {a:Addr} {d:StrD} (h:At H a d):ag H a=some (.string d.v):=by
 obtain⟨u,h1,h2⟩:=h.load rfl;have:u = .string d.v:=by unfold Rd at h2;simpa[Rep.agg,Rep.rd]using h2
 rw[this]at h1;exact h1
end Go.Lft
namespace Go.Proofs.YtnfiilgdjpdlkaaGreatDoor
open Go Go.Lft
def Tab (h:Heap):Prop:=∀c:Nat,c<256->ag (vw h) ⟨Tryz.gw.g 0,c,none⟩=some (.int .u8 (if Lib.isSp (UInt8.ofNat c) then 1 else 0))
theorem Tab.mono {h h':Heap} (t:Tab h) (hle:(vw h).le (vw h')):Tab h':=fun c hc=>ab hle (t c hc)
theorem CF {w:World} {b o:Nat} {v:Value} (h:ag (vw w.heap) ⟨b,o,none⟩=some v):w.cell? ⟨b,o,none⟩=some v:=by
 unfold ag at h;unfold World.cell?;simp only[vw]at h;cases hb:w.heap[b]? with
 | none=>rw[hb]at h;simp at h
 | some x=>rw[hb]at h;cases x<;>simp_all
def fQ (s:ByteArray):List StrD:=(Lib.fields s.data.toList).map fun l=>⟨⟨l.toArray⟩⟩
theorem qu {s:ByteArray} {h:Heap} (ht:Tab h) (hs:s.size<4294967281) (ha : ∀(j:Nat) b,s.data.toList[j]? = some b->b.toNat<128) (hn:(fQ s).length<=1000000) :
  aj Tryz.prog N.strings_Fields #[.string s] h (fun u h'=>(vw h).le (vw h')/\SlRd (vw h') u (fQ s)):=by
 intro w hw;subst hw;refine Calls.mono (Any.strings_Fields_core (P:=Tryz.prog) (ρ:=Tryz.gw) Tryz.Ad (by kernel_rfl) s w hs ha fun c hc=>CF (ht c hc)) ?_;rintro e w' ⟨rfl,rfl⟩;refine⟨_,rfl,⟨bG _ _,?_⟩,eM _ _⟩;have hl:(fQ s).length=(Lib.fields s.data.toList).length:=by simp[fQ]
 refine⟨some ⟨w.heap.size,0,none⟩,(Lib.fields s.data.toList).length,by rw[hl],by omega,by omega,.inr ⟨_,rfl,rfl,fun i hi=>?_⟩⟩;have hi':i<(Lib.fields s.data.toList).length:=by omega
 rw[aM rfl];refine⟨[.string ⟨(Lib.fields s.data.toList)[i].toArray⟩],⟨_,_,_,rfl,World.alloc_heap_new w _,?_⟩,?_⟩
 ·have hn1:Rep.n StrD=1:=rfl;rw[hn1,Ea,Em];show List.take 1 (List.drop i ((Lib.fields s.data.toList).map fun l=>Value.string ⟨l.toArray⟩))=_;rw[DU (by simpa using hi')];simp
 show[Value.string _]=[Value.string _];simp[fQ]
def iL:ByteArray:=⟨#[108,105,32,108,105,119,32,97,100,100,32,115,117,98,32,109,117,108,32,97,110,100,32,111,114,32,120,111,114,32,115,104,108,32,115,104,114,32,115,97,114,32,101,113,32,108,116,32,108,116,117,32,100,105,118,32,97,100,100,105,32,115,117,98,105,32,97,110,100,105,32,115,104,108,105,32,115,104,114,105,32,115,97,114,105,32,109,97,100,100,32,108,100,32,108,100,97,32,108,100,120,32,108,100,108,32,115,116,32,115,116,97,32,115,116,120,32,115,116,108,32,99,97,108,108,32,109,117,108,119,32,98,110,122,32,98,101,113,32,98,108,116,32,98,108,116,117,32,106,116]⟩
def mL (pat:Int):ByteArray:=if 1<=pat/\pat<=37 then((fQ iL).getD (pat-1).toNat ⟨⟨#[]⟩⟩).v else⟨#[]⟩
theorem fT:(fQ iL).length=37:=by kernel_rfl
theorem nE : ∀(j:Nat) b,iL.data.toList[j]? = some b->b.toNat<128:=by
 have h:iL.data.toList.all (fun b=>decide (b.toNat<128))=true:=by kernel_rfl
 exact fun j b hb=>by simpa using D3.1 h b (DY hb)
theorem vJ:(fQ iL).all (fun s=>!(s.v.toList == (⟨#[]⟩:ByteArray).toList))=true:=by kernel_rfl
instance:Inhabited StrD:=⟨⟨⟨#[]⟩⟩⟩
theorem yw {pat:Int}:((mL pat).toList == (⟨#[]⟩:ByteArray).toList)=!inR pat 1 37:=by
 unfold mL;by_cases h:1<=pat/\pat<=37
 ·rw[if_pos h];have hlt:(pat-1).toNat<(fQ iL).length:=by rw[fT];omega
  have:=D3.1 vJ _ (Ez hlt);rw[E1,Ee hlt,Option.getD_some];have e:inR pat 1 37=true:=by simp[inR,h.1,h.2]
  rw[e];simpa using this
 rw[if_neg h];have e:inR pat 1 37=false:=by unfold inR;simpa using h
 rw[e];exact beq_self_eq_true _
theorem ph {pat:Int}:(mL pat).toList.isEmpty=!inR pat 1 37:=by have h:=yw (pat:=pat);rw[show(⟨#[]⟩:ByteArray).toList=[] by kernel_rfl]at h;rw[<-h];cases (mL pat).toList<;>rfl
theorem wz {pat:Int} {h:Heap} (ht:Tab h) (hp:I64 pat):aj Tryz.prog N.eU #[.int .i64 pat] h (fun u h'=>(vw h).le (vw h')/\u = .string (mL pat)):=by
 refine ah (args:=[.int .i64 pat]) follows F.eU E.eU (Dv (by kernel_rfl)) fun K hK=>?_;dsimp only[L.eU];refine aa fun z hz=>?_;simp;subst hz;refine aa fun z hz=>?_;simp;refine af (by kernel_rfl) (qu (s:=iL) ht (of_decide_eq_true (by kernel_rfl)) nE (by rw[fT];decide)) ?_;rintro u h1 ⟨hle,hu⟩;have hl:=hu.len (K:=vw h1);rw[fT]at hl;subst hz;refine aa fun z hz=>?_;by_cases c1:pat<1
 ·simp[c1];exact hK _ _ ⟨hle,by unfold mL;rw[if_neg (by omega)]⟩
 by_cases c2:37<pat
 ·simp[c1,hl,c2];exact hK _ _ ⟨hle,by unfold mL;rw[if_neg (by omega)]⟩
 have hlt:(pat-1).toNat<(fQ iL).length:=by rw[fT];omega
 have hx:=hu.idx1 (k:=.i64) (i:=pat-1) rfl (by omega) (by rw[fT];omega);have hc:=(hu.at hlt).str;rw[show(pat-1).toNat*Rep.n StrD=(pat-1).toNat from Ea _]at hc;have et:(pat-1).toNat=pat.toNat-1:=by omega
 have hc:ag (vw h1) ((slA u).add (pat.toNat-1))=some (.string ((fQ iL)[(pat-1).toNat]).v):=by rw[<-et];exact hc
 have ew:IntKind.i64.wrap (pat-1)=pat-1:=cj (by have:=hp.1;omega) (by have:=hp.2;omega);simp[c1,hl,c2];subst hz;simp[ew,hx,hc];refine hK _ _ ⟨hle,?_⟩;unfold mL;rw[if_pos (by omega),E1,Ee hlt,Option.getD_some];simp only[et]
theorem pI {h:Heap} (ht:Tab h):aj Tryz.prog N.db #[] h (fun u h'=>(vw h).le (vw h')/\u = .int .i64 37):=by refine ah (args:=[]) follows F.db E.db (Dv (by kernel_rfl)) fun K hK=>?_;dsimp only[L.db];refine aa fun z hz=>?_;simp;subst hz;refine aa fun z hz=>?_;simp;refine af (by kernel_rfl) (qu (s:=iL) ht (of_decide_eq_true (by kernel_rfl)) nE (by rw[fT];decide)) ?_;rintro u h1 ⟨hle,hu⟩;have hl:=hu.len (K:=vw h1);rw[fT]at hl;simp[hl];subst hz;simp;exact hK _ _ ⟨hle,rfl⟩
def bF (t:bP):Int:=if inR t.pat 1 37=false then 20 else if inR t.cost 0 1000=false then 22 else 0
def gL:Nat->List bP->Int × Int
 | _,[]=>(0,0)
 | n,t::l=>if bF t=0 then gL (n+1) l else(bF t,n)
def eh (l:List bP):Int × Int:=if 1024<l.length then(2,0) else gL 0 l
theorem jQ : ∀{l:List bP} {n:Nat},(∀t∈l,bF t=0)->gL n l=(0,0)
 | [],_,_=>rfl
 | t::l,n,h=>by unfold gL;rw[if_pos (h t (Dz ..))];exact jQ fun t ht=>h t (DB _ ht)
theorem lL : ∀{l:List bP} {n k:Nat},(hk:k<l.length)->(∀t∈l.take k,bF t=0)->bF (nth l k)≠0->gL n l=(bF (nth l k),((n+k:Nat):Int))
 | t::l,n,0,_,_,h=>by unfold gL;have h:bF t≠0:=h;rw[if_neg h];rfl
 | t::l,n,k+1,hk,h1,h2=>by unfold gL;rw[if_pos (h1 t (by simp))];have h2':bF (nth l k)≠0:=h2;have:=lL (n:=n+1) (k:=k) (by simpa using hk) (fun t ht=>h1 t (by simp[ht])) h2';rw[this];have e:nth (t::l) (k+1)=nth l k:=rfl;rw[e,show n+1+k=n+(k+1) by omega]
theorem kS {l:List bP} {v:Value} {h:Heap} {W:View} (hW:W.le (vw h)) (hv:SlRd W v l) (ht:Tab h):aj Tryz.prog N.du #[v] h (fun u h'=>(vw h).le (vw h')/\u = .tuple #[.int .i64 (eh l).1,.int .i64 (eh l).2]):=by
 refine ah (args:=[v]) follows F.du E.du (Dv (by kernel_rfl)) fun K hK=>?_;dsimp only[L.du];have c0:=Cx.start hW;have hl:=hv.len (K:=vw h);have bd:=hv.bound;refine aa fun z hz=>?_;simp;subst hz;refine aa fun z hz=>?_;by_cases c:(1024:Int)<l.length
 ·simp[hl,c];exact hK _ _ ⟨View.le_refl _,by unfold eh;rw[if_pos (by omega)]⟩
 simp[hl,c];subst hz;refine aa fun z hz=>?_;simp[hl];refine ao [0,9,10,11] (fun(_:Unit) k=>[v,v,.int .i64 l.length,.int .i64 k])
  (fun _ k h1=>(∀t∈l.take k,bF t=0)/\∃W1,W.le W1/\Cx W h W1 h1 fun _=>none) l.length ()
  rfl (by omega) rfl ⟨by simp,W,View.le_refl _,c0⟩ (fun _ _=>rfl) (fun v i h1 hk m=>by simp) ?_ ?_
 ·rintro _ k h1 hk ⟨hb,W1,hW1,c1⟩ K2 hK2;obtain⟨ut,hut,rut⟩:=(hv.mono hW1).wh rfl (N:=2) rfl hk;refine aa fun y hy=>?_;simp(disch:=omega)[((hv.mono hW1).mono c1.wle).idxn (N:=2) rfl,hut _ c1.wle];refine c1.da (α:=bP) rut (n:=2) (z:=.agg #[.int .i64 0,.int .i64 0]) (by kernel_rfl) rfl rfl (by kernel_rfl) (fun _=>by simp) (fun _=>by simp) fun B h2 W2 hW2 c2 at2 hle2=>?_;have q0:=(at2.part bP.wy);have q1:=(at2.part bP.zr);have r0:=q0.rng;have q0:ag W2 ⟨B,0,none⟩=some (.int .i64 (nth l k).pat):=by simpa using q0.int
  have q1:ag W2 ⟨B,1,none⟩=some (.int .i64 (nth l k).cost):=by simpa using q1.int
  have ht2:=ht.mono c2.le0;have hbk:bF (nth l k)≠0->eh l=(bF (nth l k),(k:Int)):=fun hne=>by unfold eh;rw[if_neg (by omega),lL hk hb hne,Em]
  have htk:bF (nth l k)=0->∀t∈l.take (k+1),bF t=0:=fun he t hm=>by
   rw[DK hk,DE,DF,<-aq hk]at hm;rcases hm with hm | rfl
   ·exact hb t hm
   exact he
  generalize nth l k=tl at *;subst hy;simp only[fw];refine aa fun y hy=>?_;simp[ab c2.wle q0];refine af (by kernel_rfl) (wz ht2 ⟨by omega,by omega⟩) ?_;rintro _ h3 ⟨hle3,rfl⟩;have c3:=c2.ext hle3;have hW3:=c2.up (h':=h3);subst hy;cases e1:inR tl.pat 1 37 with
  | false=>
   have e2:bF tl=20:=by unfold bF;rw[if_pos e1]
   have e3:=hbk (by rw[e2];decide);simp[yN,ph,e1];exact hK _ _ ⟨c3.le0,by rw[e3,e2]⟩
  | true=>
   simp[yN,ph,e1];simp[ab (View.le_trans hW3 c3.wle) q1];refine af (by kernel_rfl) iv ?_;rintro _ h3 ⟨rfl,rfl⟩;cases e4:inR tl.cost 0 1000 with
   | false=>
    have e2:bF tl=22:=by unfold bF;rw[if_neg (by simp[e1]),if_pos e4]
    have e3:=hbk (by rw[e2];decide);simp;exact hK _ _ ⟨c3.le0,by rw[e3,e2]⟩
   | true=>
    have e2:bF tl=0:=by unfold bF;rw[if_neg (by simp[e1]),if_neg (by simp[e4])]
    simp;exact hK2 () _ _ rfl rfl ⟨htk e2,_,View.le_trans hW1 (View.le_trans hW2 hW3),c3⟩
 rintro _ h1 ⟨hb,W1,hW1,c1⟩;rw[Ep]at hb;simp;subst hz;simp;refine hK _ _ ⟨c1.le0,?_⟩;unfold eh;rw[if_neg (by omega),jQ hb]
end Go.Proofs.YtnfiilgdjpdlkaaGreatDoor
namespace Go.Proofs.YtnfiilgdjpdlkaaGreatDoor
open Go Go.Lft Go.ChangeShapes Go.WideShapes Go.ChangeAt Go.RowKit
abbrev sP : List (String × DataW Unit) := [("unicode.White_Space", Rows.laid_unicode_White_Space), ("strings.asciiSpace", Rows.laid_strings_asciiSpace)]
theorem gSp: Tryz.prog.globalNamed "strings.asciiSpace" = some (Tryz.gw.g 0) := by kernel_rfl
theorem Bb:(Rows.laid_strings_asciiSpace:DataW Unit)=Lib.tabData .u8 Lib.asciiSpaceTab:=by kernel_rfl
abbrev spT:TypeId:=140
abbrev spE:TypeId:=5
theorem tq{W:World}(h:laidMetH Tryz.prog sP W):Tab W.heap:=by
 rw[MakeChecks.laidMetH_plain _ _ _ (by kernel_rfl)]at h;obtain⟨ps,⟨g0,t0,cs0,f0,p0,q0,hg0,ht0,hv0,hd0,⟨g1,t1,cs1,f1,p1,q1,hg1,ht1,hv1,hd1,_,_⟩,_⟩,_,_⟩:=h;obtain rfl:=Option.some.inj (gSp.symm.trans hg1);have hty:(Tryz.prog.globals[Tryz.gw.g 0]?).map (·.type)=some spT:=by kernel_rfl
 obtain rfl:=Option.some.inj (hty.symm.trans ht1);rw[Bb]at hd1;have htab : Lib.TabIs Tryz.prog W "strings.asciiSpace" .u8 Lib.asciiSpaceTab := by unfold Lib.TabIs;rw[hv1,<-Lib.cells_of_tab (n:=256) (e:=spE) (by kernel_rfl) (by kernel_rfl) (by kernel_rfl) (by kernel_rfl) hd1]
 intro c hc;have:=htab.cell gSp c (by rw[Lib.asciiSpaceTab_length];exact hc);rw[Lib.asciiSpaceTab_at c hc]at this;obtain⟨-,a,T,fz,h1,h2⟩:=xW this;unfold ag vw;simp only[h1];simpa using h2
theorem za(os:Os)(args:Array Value):laidMetH Tryz.prog sP ((World.doorLaid Tryz.prog 400 os).forCall (fun _ _=>0) ⟨#[],args,[]⟩).memory:=
 laidMetH_of_parts3 (fuel:=8) (laidMet_of_run' 8 (by kernel_rfl) (by kernel_rfl)) (by kernel_rfl) (by kernel_rfl)
section
open Go Go.Lft
abbrev Wh:=Int->Option (Int × Int)
def vU (can:Int->Int->Bool):Option (Int × Int)->Bool
 | none=>true
 | some w=>can w.1 w.2
def oa (can:Int->Int->Bool) (wh:Wh) (l:List Int):Bool:=l.all fun v=>vU can (wh v)
def zf (can:Int->Int->Bool) (wh:Wh):Option FitD->Bool
 | none=>false
 | some x=>oa can wh x.takes
def canP (f:ae) (has:Int->Bool) (wh:Wh) (can:Int->Int->Bool) (b i pat:Int):Bool:=has pat&&zf can wh (tryS (dw f b i 0) pat)
def canS (f:ae) (has:Int->Bool) (wh:Wh):Nat->Int->Int->Bool
 | 0,_,_=>false
 | n+1,b,i=>(List.range 38).any fun k=>canP f has wh (canS f has wh n) b i (k:Int)
theorem tV{f:ae}{t:cL}{pat:Int}(h:¬(0<=pat/\pat<38)):e7 f t pat=none:=by unfold e7;rw[if_neg (by omega),if_neg (by omega),if_neg (by omega),if_neg (by omega),if_neg (by omega),if_neg (by omega)]
theorem xc{s:bf}{pat:Int}(h:¬(0<=pat/\pat<38)):tryS s pat=none:=by
 unfold tryS;split
 ·exact tV h
 unfold patS;rw[if_neg (by omega)]
theorem s9{f:ae}{has:Int->Bool}{wh:Wh}{n:Nat}{b i:Int}:canS f has wh (n+1) b i=true↔∃pat,canP f has wh (canS f has wh n) b i pat=true:=by
 unfold canS;rw[FD];constructor
 ·rintro⟨k,_,hk⟩;exact⟨_,hk⟩
 rintro⟨pat,hp⟩;by_cases h:0<=pat/\pat<38
 ·refine⟨pat.toNat,EC.2 (by omega),?_⟩;rw[DI h.1];exact hp
 unfold canP at hp;rw[xc h]at hp;simp[zf]at hp
def twoV (w:Int × Int):Value:=.agg #[.int .i64 w.1,.int .i64 w.2]
structure Cv (W:View) (F H Q C r1 r2:Nat) (f:ae) (has:Int->Bool) (wh:Wh):Prop where
 fc:At W ⟨F,0,none⟩ f
 hasR : ∀p,has p=true->I64 p
 hasC:ag W ⟨H,0,none⟩=some (.map (some r1))
 hasM : ∀h,W.le (vw h)->cA (.int .i64) h r1 (mapB has)
 whC:ag W ⟨Q,0,none⟩=some (.map (some r2))
 whR : ∀v w,wh v=some w->I64 w.1/\I64 w.2
 whM : ∀h,W.le (vw h)->cA (.int .i64) h r2 (mapE twoV wh)
 can:ag W ⟨C,0,none⟩=some (.func (.func N.aQ) #[] #[ptr F,ptr H,ptr Q,ptr C])
theorem Cv.mono {W W':View} {F H Q C r1 r2:Nat} {f:ae} {has:Int->Bool} {wh:Wh} (c:Cv W F H Q C r1 r2 f has wh) (h:W.le W'):Cv W' F H Q C r1 r2 f has wh:=
 ⟨c.fc.mono h,c.hasR,ab h c.hasC,fun g hg=>c.hasM g (View.le_trans h hg),ab h c.whC,c.whR,fun g hg=>c.whM g (View.le_trans h hg),ab h c.can⟩
def Down (f:ae) (wh:Wh):Prop:=∀b i pat x v w,cC f b i=true->tryS (dw f b i 0) pat=some x->v∈x.takes->wh v=some w->cC f w.1 w.2=true/\w.2<i
theorem wY{s:Int->Bool}{u v:Value}(hk:MapKept.IsKey (.int .i64) u)(h:mapB s u=some v): ∃p:Int,u = .int .i64 p/\s p=true/\v = .bool true:=by
 cases u<;>simp[MapKept.IsKey]at hk;rename_i k p;subst hk;rw[tA]at h;split at h
 ·rename_i hs;cases h;exact⟨p,rfl,hs,rfl⟩
 cases h
theorem pz{h h':Heap}{b r:Nat}{left:List (Value × Value)}(m:It h b r left)(hle:(vw h).le (vw h')):It h' b r left:=by
 have l:=m.lt;have e : ∀k,k<h.size->h'[k]? = h[k]?:=fun k hk=>by have:=hle k h[k] (DJ hk);rw[DJ hk];exact this
 exact m.same (e _ l.1) (e _ l.2.1)
theorem yc {f:ae} {has:Int->Bool} {wh:Wh} (m:jC f) (hsm:SmF f) (hM : ∀i∈dr f,i.op=15\/i.op=16->jt) (hd:Down f wh) : ∀(n:Nat) {b i:Int} {Fb H Q C r1 r2:Nat} {W:View} {h:Heap},Cv W Fb H Q C r1 r2 f has wh->W.le (vw h)->cC f b i=true->i<n->
  aj Tryz.prog N.aQ #[.int .i64 b,.int .i64 i,ptr Fb,ptr H,ptr Q,ptr C] h (fun u h'=>(vw h).le (vw h')/\u = .bool (canS f has wh n b i))
 | 0,b,i,Fb,H,Q,C,r1,r2,W,h,cv,hW,hpl,hi=>by simp[cC]at hpl;omega
 | n+1,b,i,Fb,H,Q,C,r1,r2,W,h,cv,hW,hpl,hi=>by
  have ih:=@yc f has wh m hsm hM hd n;refine ah (args:=[.int .i64 b,.int .i64 i,ptr Fb,ptr H,ptr Q,ptr C]) follows F.aQ E.aQ (Dv (by kernel_rfl)) fun K hK=>?_;dsimp only[L.aQ];have c0:=Cx.start hW
  refine aa fun z hz=>?_;simp;subst hz;refine aa fun z hz=>?_;obtain⟨uf,huf,ruf⟩:=cv.fc.ldN rfl (N:=2) rfl;have hr:=rm ruf;simp[huf _ hW];refine af (by kernel_rfl) (zv (b:=b) (p:=i) hW ruf (by constructor<;>decide)) ?_;rintro _ h1 ⟨hle1,vs,rfl,hvs⟩;have c1:=c0.ext hle1;have hW1:=c0.up (h':=h1);have hpS:iS f b i 0=dw f b i 0:=by unfold iS;rw[hpl,if_pos rfl]
  rw[hpS]at hvs;simp;refine c1.da (α:=bf) hvs (n:=13) (z:=.agg jF.toArray) (by kernel_rfl) rfl rfl (by kernel_rfl) (fun _=>by simp) (fun _=>by simp) fun B h2 W2 hW2 c2 at2 hle2=>?_;have cv2:=cv.mono (View.le_trans hW1 hW2);subst hz;refine aa fun z hz=>?_;refine aa fun y hy=>?_;simp[ab c2.wle cv2.hasC];refine tv U.fl rfl (cv2.hasM h2 c2.wle) fun h3 left hle3 hs3 it3 nd3 key3 mem3=>?_;have hall : ∀u v,(u,v)∈left->∃p:Int,u = .int .i64 p/\has p=true:=fun u v hu=>by obtain⟨p,e1,e2,-⟩:=wY (key3 u v hu) ((mem3 u v (key3 u v hu)).1 hu);exact⟨p,e1,e2⟩
  have hrest : ∀p:Int,has p=true->(∃v,(Value.int .i64 p,v)∈left):=fun p hp=>⟨.bool true,(mem3 _ _ dz).2 (by rw[tA,hp,if_pos rfl])⟩;have hr3:W2 h2.size=none:=View.cJ c2.wle (Dy _)
  have hs0:h.size<=h2.size:=cO c2.le0;have c3:Cx W h W2 h3 fun _=>none:=⟨Owns.start (View.le_trans c2.wle hle3),c2.old,View.le_trans c2.le0 hle3,fun _ _ _ e=>by cases e⟩;obtain⟨r,hr0⟩ : ∃r,r=h2.size:=⟨_,rfl⟩;rw[<-hr0]at it3 hr3 hs0 ⊢;subst hy;simp only[fw];refine je [0,1,2,3,4,5,9,26] (fun mm ρ hx=>∃(left:List (Value × Value)) (Wx:View),mm=left.length/\ρ=[(0,.int .i64 b),(1,.int .i64 i),(2,ptr Fb),(3,ptr H),(4,ptr Q),(5,ptr C),(9,ptr B),(26,ptr r)]/\W2.le Wx/\Cx W h Wx hx (fun _=>none)/\Wx r=none/\It hx r1 r left/\
   (∀u v,(u,v)∈left->∃p:Int,u = .int .i64 p/\has p=true)/\(∀p:Int,has p=true->(∃v,(Value.int .i64 p,v)∈left)\/canP f has wh (canS f has wh n) b i p=false)) left.length
   ⟨left,W2,rfl,rfl,View.le_refl _,c3,hr3,it3,hall,fun p hp=>.inl (hrest p hp)⟩ ?_;clear hall hrest it3 nd3 key3 mem3 c3;rintro mm ρ hx ⟨left,Wx,rfl,rfl,lx,cx,hrx,itx,hall,hrest⟩ K2 hK2;refine aa fun y hy=>?_;simp;refine vy rfl itx ?_ ?_
  ·rintro rfl;have hno:canS f has wh (n+1) b i=false:=by
    cases e:canS f has wh (n+1) b i with
    | false=>rfl
    | true=>
     obtain⟨p,hp⟩:=s9.1 e;have hh:has p=true:=by unfold canP at hp;simp at hp;exact hp.1
     rcases hrest p hh with⟨v,hv⟩ | hv
     ·cases hv
     rw[hp]at hv;cases hv
   simp;subst hy;simp;subst hz;simp;exact hK _ _ ⟨cx.le0,by rw[hno]⟩
  intro a p q h4 el hs4 ho4 it4;obtain⟨pat,e1,e2⟩:=hall p.1 p.2 (by rw[el];simp);have hpe:p=(.int .i64 pat,p.2):=by rw[<-e1]
  have le4 : ∀X:View,X.le (vw hx)->X r=none->X.le (vw h4):=fun X hX hn b o hb=>by show h4[b]? = some o;rw[ho4 b (by rintro rfl;rw[hn]at hb;cases hb)];exact hX b o hb
  have le04:(vw h).le (vw h4):=fun b o hb=>by have hlt:=View.lt (View.le_refl (vw h)) hb;show h4[b]? = some o;rw[ho4 b (by omega)];exact cx.le0 b o hb
  have hW4:=le4 Wx cx.wle hrx;have c4:Cx W h Wx h4 fun _=>none:=⟨Owns.start hW4,cx.old,le04,fun _ _ _ e=>by cases e⟩;have hrest4 : ∀p:Int,p≠pat->has p=true->(∃v,(Value.int .i64 p,v)∈a++q)\/canP f has wh (canS f has wh n) b i p=false:=fun p' hne hp'=>by
   rcases hrest p' hp' with⟨v,hv⟩ | hv
   ·rw[el,DE,DL]at hv;rcases hv with hv | hv | hv
    ·exact .inl ⟨v,DE.2 (.inl hv)⟩
    ·rw[hpe]at hv;simp at hv;exact absurd hv.1 hne
    exact .inl ⟨v,DE.2 (.inr hv)⟩
   exact .inr hv
  have hall4 : ∀u v,(u,v)∈a++q->∃p:Int,u = .int .i64 p/\has p=true:=fun u v hu=>hall u v (by rw[el,DE,DL];rcases DE.1 hu with hu | hu<;>simp[hu]);have hlen:(a++q).length<left.length:=by rw[el];simp
  have at4:=at2.mono lx;have cv4:=cv2.mono lx;clear hrest hall itx cx;simp;subst hy;refine aa fun y hy=>?_;refine gj (by simp) ?_;simp;subst hy;simp only[fw];refine aa fun y hy=>?_;simp;refine yM rfl it4 ?_;simp[e1];subst hy;refine aa fun y hy=>?_;obtain⟨us,hus,rus⟩:=at4.ldN rfl (N:=13) rfl;simp[hus _ c4.wle];refine af (by kernel_rfl) (rj c4.wle rus m hsm hr hM hpl (cv.hasR _ e2)) ?_;rintro _ h5 ⟨hle5,vf,x,rfl,hvf,hxx⟩;have c5:=c4.ext hle5
  have hW5:=c4.up (h':=h5);have it5:=pz it4.it hle5;simp;refine dc (X:=grow Wx h4 h5) (α:=FitD) (z:=.agg fitZ.toArray) (by kernel_rfl) rfl (by kernel_rfl) hvf (fun _=>by simp) (fun _=>by simp) fun h6 hle6 hs6 hat6=>?_;have c6:=c5.ext hle6
  have hW6:=c5.up (h':=h6);have at6:=hat6 _ hW6 (dm (Dy _));have hr6:grow (grow Wx h4 h5) h5 h6 r=none:=by rw[eS (pz it4.it hle5).lt.2.1,eS it4.it.lt.2.1];exact hrx
  generalize grow (grow Wx h4 h5) h5 h6=W6 at *;generalize h5.size=B3 at *;have it6:=pz it5 hle6;subst hy;refine aa fun y hy=>?_;have pt:=(at6.part FitD.vZ).sl
  obtain⟨vt,k1,s1⟩:=pt;have k1:ag W6 ⟨B3,0,none⟩=some vt:=by simpa using k1
  refine aa fun w hw=>?_;simp[ab c6.wle k1,s1.len];subst hw;simp only[fw];have bt:=s1.bound;obtain⟨okS,hok⟩ : ∃okS:Nat->Bool,okS=fun j=>(tryS (dw f b i 0) pat).isSome&&oa (canS f has wh n) wh (x.takes.take j):=⟨_,rfl⟩;have ok0:(tryS (dw f b i 0) pat).isSome=okS 0:=by rw[hok];simp[oa]
  have okJ : ∀j,j<x.takes.length->okS (j+1)=(okS j&&vU (canS f has wh n) (wh (nth x.takes j))):=fun j hj=>by rw[hok];simp only[oa];rw[DK hj,List.all_append,aq hj];simp[Gd]
  have okE:okS x.takes.length=canP f has wh (canS f has wh n) b i pat:=by
   rw[hok];simp only[Ep];unfold canP;rw[e2];cases hq:tryS (dw f b i 0) pat with
   | none=>rfl
   | some y=>rw[hxx y hq];rfl
  have okV : ∀j,j<x.takes.length->okS j=true->∀w,wh (nth x.takes j)=some w->cC f w.1 w.2=true/\w.2<i:=fun j hj ho w hw=>by rw[hok]at ho;simp only[DC]at ho;obtain⟨y,hy⟩:=F3.1 ho.1;have:=hxx y hy;subst this;exact hd b i pat x _ w hpl hy (bT hj) hw
  rw[ok0];clear hok ok0;refine ao [0,1,2,3,4,5,9,11,12,13,26,38,39,40] (fun(_:Unit) j=>[.int .i64 b,.int .i64 i,ptr Fb,ptr H,ptr Q,ptr C,ptr B,.int .i64 pat,ptr B3,.bool (okS j),ptr r,vt,.int .i64 x.takes.length,.int .i64 j])
   (fun _ j h7=>∃W7,W6.le W7/\Cx W h W7 h7 (fun _=>none)/\W7 r=none/\It h7 r1 r (a++q)) x.takes.length ()
   rfl (by omega) rfl ⟨W6,View.le_refl _,c6,hr6,it6⟩ (fun _ _=>rfl) (fun v i h1 hk m=>by simp) ?_ ?_
  ·rintro _ j h7 hj ⟨W7,lW7,c7,hr7,it7⟩ K3 hK3;have s7:=s1.mono (View.le_trans lW7 c7.wle);have cv7:=(cv4.mono hW5).mono (View.le_trans hW6 lW7);have okj:=okJ j hj;have okv:=okV j hj;refine aa fun w hw=>?_;simp(disch:=omega)[s7.idx1 rfl,s7.int (View.le_refl _)];subst hw;generalize nth x.takes j=vv at *;refine aa fun w hw=>?_;simp[ab c7.wle cv7.whC];refine iE (f:=mapE twoV wh) (z:=.agg #[.int .i64 0,.int .i64 0]) (k:=T.int) (e:=T.iz) (d:=.int .i64) (r:=r2) (u:=.int .i64 vv) U.en U.int (by kernel_rfl) rfl rfl dz (cv7.whM h7 c7.wle) ?_;have wr:Rd W7 (((wh vv).map twoV).getD (.agg #[.int .i64 0,.int .i64 0])) ((wh vv).getD (0,0)):=by
    cases hv:wh vv with
    | none=>exact kF.2 ⟨rfl,by decide,by decide⟩
    | some w=>exact kF.2 ⟨rfl,(cv7.whR vv w hv).1,(cv7.whR vv w hv).2⟩
   simp;refine dc (X:=W7) (α:=Int × Int) (z:=.agg #[.int .i64 0,.int .i64 0]) (by kernel_rfl) rfl (by kernel_rfl) wr (fun _=>by simp) (fun _=>by simp) fun h8 hle8 hs8 hat8=>?_;have c8:=c7.ext hle8;have hW8:=c7.up (h':=h8);have at8:=hat8 _ hW8 (dm (Dy _));have it8:=pz it7 hle8;have hr8:grow W7 h7 h8 r=none:=by rw[eS it7.lt.2.1];exact hr7
   generalize grow W7 h7 h8=W8 at *;generalize h7.size=B4 at *;subst hw;refine aa fun w hw=>?_;cases ho:okS j with
   | false=>rw[ho]at okj;simp;subst hw;simp;exact hK3 () _ _ rfl (by simp[dA,okj]) ⟨W8,View.le_trans lW7 hW8,c8,hr8,it8⟩
   | true=>
    rw[ho]at okj;cases hv:wh vv with
    | none=>rw[hv]at okj;simp;subst hw;simp;exact hK3 () _ _ rfl (by simp[dA,okj,vU]) ⟨W8,View.le_trans lW7 hW8,c8,hr8,it8⟩
    | some ww=>
     rw[hv]at okj at8;obtain⟨g1,g2⟩:=okv ho ww hv;have at8:At W8 ⟨B4,0,none⟩ ww:=at8;obtain⟨cs,q1,q2,-⟩:=at8;have x0:ag W8 ⟨B4,0,none⟩=some (.int .i64 ww.1):=by have:=fD q1 (i:=0) (v:=.int .i64 ww.1) (by rw[q2];rfl);simpa using this
     have x1:ag W8 ⟨B4,1,none⟩=some (.int .i64 ww.2):=by have:=fD q1 (i:=1) (v:=.int .i64 ww.2) (by rw[q2];rfl);simpa using this
     have cv8:=cv7.mono hW8;simp;subst hw;have y0:Bn.ev (.aidx 2 1) (.pointer (some ⟨B4,0,none⟩)) (.int .i64 0)=some (.pointer (some ⟨B4,0,none⟩)):=rfl;have y1:Bn.ev (.aidx 2 1) (.pointer (some ⟨B4,0,none⟩)) (.int .i64 1)=some (.pointer (some ⟨B4,1,none⟩)):=rfl;simp[ab c8.wle cv8.can,ab c8.wle x0,ab c8.wle x1,y0,y1];refine bL (ops:=[.tmp 56,.tmp 58]) (caps:=#[ptr Fb,ptr H,ptr Q,ptr C]) rfl (by kernel_rfl) (ih (b:=ww.1) (i:=ww.2) cv8 c8.wle g1 (by omega)) ?_;rintro _ h9 ⟨hle9,rfl⟩;have c9:=c8.ext hle9;have hW9:=c8.up (h':=h9);refine hK3 () _ _ rfl (by simp[dA,okj,vU]) ⟨_,View.le_trans lW7 (View.le_trans hW8 hW9),c9,?_,pz it8 hle9⟩;rw[eS it8.lt.2.1];exact hr8
  rintro _ h7 ⟨W7,lW7,c7,hr7,it7⟩;rw[okE];simp;subst hy;cases hcp:canP f has wh (canS f has wh n) b i pat with
  | true=>have hyes:canS f has wh (n+1) b i=true:=s9.2 ⟨pat,hcp⟩;simp;exact hK _ _ ⟨c7.le0,by rw[hyes]⟩
  | false=>
   simp;refine hK2 (a++q).length _ _ hlen ⟨a++q,W7,rfl,rfl,View.le_trans lx (View.le_trans hW5 (View.le_trans hW6 lW7)),c7,hr7,it7,hall4,fun p' hp'=>?_⟩;by_cases hne:p'=pat
   ·exact .inr (hne▸hcp)
   exact hrest4 p' hne hp'
end
end Go.Proofs.YtnfiilgdjpdlkaaGreatDoor
namespace Go.Lft
open Go
theorem uP {po:OP} {P:Program} {ty t e rt:TypeId} {us:List (Nat × Value)} {h:Heap} {K:Value->Heap->Prop} {a b c d:Int} {ki:IntKind} {x y:Operand} (hu:P.underlying t=some (.array 2 e)) (he:P.underlying e=some (.int ki)) (hs:cH P e=some 1) (ha:iM P e=some false) (hgd:P.eqGuardType P.depth t=false)
  (hx:asg us x = .agg #[.int ki a,.int ki b]) (hy:asg us y = .agg #[.int ki c,.int ki d]) (hk:K (.bool (a == c&&b == d)) h):@step po P (.binOp .eql t x y rt) ty us h K:=by refine cf (bE fun w hw=>⟨_,w,?_,Same.refl _,by rw[hw];exact hk⟩);simp only[aL,execOp,hx,hy];simp[eqGuard,binOp,rY hu he hs ha,program,Sem.run,hgd]
end Go.Lft
namespace Go.Proofs.YtnfiilgdjpdlkaaGreatDoor
open Go Go.Lft
structure Mq (V:View) (h0:Heap) (W:View) (h:Heap) (r:Nat) (g:Value->Option Value):Prop where
 c:Cx V h0 W h fun _=>none
 av:W r=none
 lo:h0.size<=r
 m:cA (.int .i64) h r g
section
variable {po po2:OP} {V W:View} {h0 h h':Heap} {r:Nat} {g g':Value->Option Value}
theorem Mq.ext (k:Mq V h0 W h r g) (hle:(vw h).le (vw h')):Mq V h0 (grow W h h') h' r g:=⟨k.c.ext hle,by rw[eS k.m.lt];exact k.av,k.lo,k.m.ext hle⟩
theorem Mq.up (k:Mq V h0 W h r g):W.le (grow W h h'):=k.c.up
theorem Mq.wle (k:Mq V h0 W h r g):W.le (vw h):=k.c.wle
theorem Mq.upd (k:Mq V h0 W h r g) (ho : ∀b,b≠r->h'[b]? = h[b]?) (hm:cA (.int .i64) h' r g'):Mq V h0 W h' r g':=
 ⟨⟨Owns.start fun b o hb=>by
   show h'[b]? = some o;rw[ho b (by rintro rfl;rw[k.av]at hb;cases hb)];exact k.wle b o hb,k.c.old,fun b o hb=>by
   have hlt:=View.lt (View.le_refl (vw h0)) hb;have:=k.lo;show h'[b]? = some o;rw[ho b (by omega)];exact k.c.le0 b o hb,fun _ _ _ e=>by cases e⟩,k.av,k.lo,hm⟩
theorem Mq.da {α:Type} [Rep α] {P:Program} {ty:TypeId} {us:List (Nat × Value)} {t ty2:TypeId} {n:Nat} {z:Value} {x y:Operand} {us2:Value->List (Nat × Value)} {v:Value} {d:α} {K:Value->Heap->Prop} (k:Mq V h0 W h r g) (hv:Rd W v d) (hz:(P.info? t).map (·.zero)=some (some z)) (hN:Rep.n α=n) (hzc:z.cells.size=n) (hsz:cH P t=some n)
  (hx : ∀p,asg (us2 p) x=p) (hy : ∀p,asg (us2 p) y=v) (hk : ∀B h' W',W.le W'->Mq V h0 W' h' r g->At W' ⟨B,0,none⟩ d->(vw h).le (vw h')->K (.pointer (some ⟨B,0,none⟩)) h') :
  @Lft.step po P (.alloc t) ty us h fun p h2=>@Lft.step po2 P (.store t x y) ty2 (us2 p) h2 fun _ h3=>K p h3:=by subst hN;refine dc (X:=W) hz hzc hsz hv hx hy fun h1 hle hs hat=>?_;exact hk _ _ _ k.up (k.ext hle) (hat _ k.up (dm (Dy _))) hle
theorem Mq.freeze (k:Mq V h0 W h r g) : ∃W',W.le W'/\Cx V h0 W' h (fun _=>none)/\(∀g2:Heap,W'.le (vw g2)->cA (.int .i64) g2 r g):=by
 obtain⟨es,cl,e1,e2⟩:=k.m.ex;have hle:W.le (W.set r (.map es cl)):=fun b o hb=>by unfold View.set;rw[if_neg (by rintro rfl;rw[k.av]at hb;cases hb)];exact hb
 have hw:(W.set r (.map es cl)).le (vw h):=fun b o hb=>by
  unfold View.set at hb;split at hb
  ·rename_i e;subst e;cases hb;exact e1
  exact k.wle b o hb
 refine⟨_,hle,⟨Owns.start hw,fun b o hb hx=>?_,k.c.le0,fun _ _ _ e=>by cases e⟩,fun g2 hg2=>⟨es,cl,hg2 r _ (by unfold View.set;rw[if_pos rfl]),e2⟩⟩;unfold View.set at hx;have:=k.lo;rw[if_neg (by omega)]at hx;exact k.c.old b o hb hx
end
def hasS (l:List bP):Int->Bool:=fun p=>decide (p=0)||l.any fun t=>decide (t.pat=p)
def gF (f:ae) (b k:Nat) (wh:Wh):Wh:=
 if(!decide ((nth (nth f.blocks b).ins k).op=16)&&!decide ((nth (nth f.blocks b).ins k).op=18))&&dC f (nth (nth f.blocks b).ins k).dst then putM wh (nth (nth f.blocks b).ins k).dst ((b:Int),(k:Int)) else wh
def whTo (f:ae) (n:Nat):Wh:=Lft.up (fun b wh=>Lft.up (gF f b) (nth f.blocks b).ins.length wh) n (fun _=>none)
def whS (f:ae):Wh:=whTo f f.blocks.length
theorem qv {f:ae} {n:Nat}:whTo f (n+1)=Lft.up (gF f n) (nth f.blocks n).ins.length (whTo f n):=rfl
theorem mE : ∀{l:List bP} {n:Nat},(gL n l).1=0->∀t∈l,bF t=0
 | [],_,_,t,ht=>by cases ht
 | a::l,n,h,t,ht=>by
  unfold gL at h;split at h
  ·rename_i e;rcases DL.1 ht with rfl | ht
   ·exact e
   exact mE h t ht
  rename_i e;exact absurd h e
theorem xt {l:List bP} (h:(eh l).1=0) {t:bP} (ht:t∈l):inR t.pat 1 37=true:=by
 unfold eh at h;split at h
 ·cases h
 have:=mE h t ht;unfold bF at this;cases e:inR t.pat 1 37 with
 | true=>rfl
 | false=>rw[if_pos e]at this;cases this
theorem zS {l:List bP} (h:(eh l).1=0) {p:Int} (hp:hasS l p=true):I64 p:=by
 unfold hasS at hp;simp at hp;rcases hp with rfl | ⟨t,ht,rfl⟩
 ·constructor<;>decide
 have:=xt h ht;simp[inR]at this;constructor<;>omega
def WhAt (f:ae) (v:Int) (w:Int × Int):Prop:=∃b k:Nat,b<f.blocks.length/\k<(nth f.blocks b).ins.length/\w=((b:Int),(k:Int))/\(nth (nth f.blocks b).ins k).dst=v/\(nth (nth f.blocks b).ins k).op≠16/\(nth (nth f.blocks b).ins k).op≠18/\dC f v=true
theorem xS {f:ae} {b k:Nat} {g:Wh} (hb:b<f.blocks.length) (hk:k<(nth f.blocks b).ins.length) (hg : ∀v w,g v=some w->WhAt f v w) : ∀v w,gF f b k g v=some w->WhAt f v w:=by
 intro v w h;unfold gF at h;split at h
 ·rename_i c;simp at c;unfold putM at h;split at h
  ·rename_i e;cases h;exact⟨b,k,hb,hk,rfl,e.symm,c.1.1,c.1.2,e▸c.2⟩
  exact hg v w h
 exact hg v w h
theorem wF {f:ae} : ∀{n:Nat},n<=f.blocks.length->∀v w,whTo f n v=some w->WhAt f v w
 | 0,_,v,w,h=>by cases h
 | n+1,hn,v,w,h=>by
  rw[qv]at h;have key : ∀k,k<=(nth f.blocks n).ins.length->∀v w,Lft.up (gF f n) k (whTo f n) v=some w->WhAt f v w:=by
   intro k;induction k with
   | zero=>exact fun _ v w h=>wF (by omega) v w h
   | succ k ih=>exact fun hk=>xS (by omega) (by omega) (ih (by omega))
  exact key _ (Dy _) v w h
theorem yv {f:ae} {v:Int} {w:Int × Int} (h:whS f v=some w):WhAt f v w:=wF (Dy _) v w h
theorem A6 {f:ae} (hsm:SmF f) {v:Int} {w:Int × Int} (h:whS f v=some w):I64 w.1/\I64 w.2:=by obtain⟨b,k,hb,hk,rfl,-⟩:=yv h;have h1:=hsm.len;have h2:=(hsm.blk b hb).ins;refine⟨⟨?_,?_⟩,?_,?_⟩<;>simp only<;>omega
def jH (f:ae) (wh:Wh) (b i:Nat):Bool:=!(decide (i<(nth f.blocks b).ins.length)&&(!decide ((nth (nth f.blocks b).ins i).op=16)&&decide (wh (nth (nth f.blocks b).ins i).dst=some ((b:Int),(i:Int)))))
def nW (f:ae) (has:Int->Bool) (b i:Nat):Bool:=jH f (whS f) b i&&!canS f has (whS f) (i+1) b i
def oM (f:ae) (has:Int->Bool) (b:Nat):Option Nat:=(List.range ((nth f.blocks b).ins.length+1)).find? (nW f has b)
def kz (f:ae) (has:Int->Bool):Option (Nat × Nat):=(List.range f.blocks.length).findSome? fun b=>(oM f has b).map fun i=>(b,i)
def AN:Option (Nat × Nat)->Int × Int × Int
 | none=>(0,0,0)
 | some w=>(21,w.1,w.2)
def fj (l:List bP) (f:ae):Int × Int × Int:=if(eh l).1≠0 then((eh l).1,0,0) else if jz f=false then(1,0,0) else AN (kz f (hasS l))
theorem find_range {p:Nat->Bool} {n i:Nat} (hi:i<n) (h1:(List.range i).find? p=none) (h2:p i=true):(List.range n).find? p=some i:=by obtain⟨d,rfl⟩ : ∃d,n=i+(d+1):=⟨n-i-1,by omega⟩;rw[List.range_add,Ft,h1,EN,F8];simp[h2]
theorem pH {α:Type} {p:Nat->Option α} {n i:Nat} {a:α} (hi:i<n) (h1:(List.range i).findSome? p=none) (h2:p i=some a):(List.range n).findSome? p=some a:=by obtain⟨d,rfl⟩ : ∃d,n=i+(d+1):=⟨n-i-1,by omega⟩;rw[List.range_add,EV,h1,EN,F8];simp[h2]
def Looks (ρ:Env) (l:List (Nat × Value)):Prop:=∀p∈l,Lft.look ρ p.1=some p.2
set_option maxHeartbeats 4000000 in
theorem wX {l:List bP} {f:ae} {vl vf:Value} {h:Heap} {W:View} (hW:W.le (vw h)) (hl:SlRd W vl l) (hf:Rd W vf f) (hsm:SmF f) (ht:Tab h) (hM : ∀i∈dr f,i.op=15\/i.op=16->jt) (hd:jz f=true->Down f (whS f)) :
  aj Tryz.prog N.aW #[vl,vf] h (fun u h'=>(vw h).le (vw h')/\u = .tuple #[.int .i64 (fj l f).1,.int .i64 (fj l f).2.1,.int .i64 (fj l f).2.2]):=by
 refine ah (args:=[vl,vf]) follows F.aW E.aW (Dv (by kernel_rfl)) fun K hK=>?_;dsimp only[L.aW];have c0:=Cx.start hW;refine aa fun z hz=>?_;simp;refine c0.cS rfl hf fun F1 h1 W1 hW1 c1 at1 hle1=>?_;subst hz;refine aa fun z hz=>?_;refine aa fun y hy=>?_;simp;refine af (by kernel_rfl) (kS c1.wle (hl.mono hW1) (ht.mono c1.le0)) ?_;rintro _ h2 ⟨hle2,rfl⟩;have c2:=c1.ext hle2
 have hW2:=c1.up (h':=h2);simp;subst hy;refine aa fun y hy=>?_;simp;subst hy;by_cases e1:(eh l).1=0
 ·simp[e1];subst hz;refine aa fun z hz=>?_;refine aa fun y hy=>?_;obtain⟨uf,huf,ruf⟩:=at1.ldN rfl (N:=2) rfl;simp[huf _ (View.le_trans hW2 c2.wle)];refine af (by kernel_rfl) (oH (ruf.mono (View.le_trans hW2 c2.wle)) hsm) ?_;rintro _ h3 ⟨rfl,hle3⟩;have c3:=c2.ext hle3;have hW3:=c2.up (h':=h3);subst hy;cases hrt:jz f with
  | false=>
   have hrt2:decide ((gx f).1=0)=false:=hrt;have e:fj l f=(1,0,0):=by unfold fj;rw[if_neg (by rw[e1];simp),if_pos hrt]
   simp[hrt2];exact hK _ _ ⟨c3.le0,by rw[e]⟩
  | true=>
   have hrt2:decide ((gx f).1=0)=true:=hrt;have hcov:fj l f=AN (kz f (hasS l)):=by unfold fj;rw[if_neg (by rw[e1];simp),if_neg (by simp[hrt])]
   rw[hcov]at hK;have m:=kI hrt;have hd:=hd hrt;simp[hrt2];subst hz;refine aa fun z hz=>?_;simp;refine gY ?_;have m3:cA (.int .i64) (h3.push (.map #[] 0)) h3.size fun _=>none:=cA.none (by simp)
   have q3:=bG h3 (.map #[] 0);have av3:grow (grow W1 h1 h2) h2 h3 h3.size=none:=View.cJ c3.wle (Dy _);have hs3:h.size<=h3.size:=cO c3.le0;have hW13:W1.le (grow (grow W1 h1 h2) h2 h3):=View.le_trans hW2 hW3;generalize grow (grow W1 h1 h2) h2 h3=W3 at *;generalize h3.push (.map #[] 0)=h4 at *;obtain⟨r1,hr1⟩ : ∃r,r=h3.size:=⟨_,rfl⟩;rw[<-hr1]at m3 av3 hs3 ⊢;have k4:Mq W h W3 h4 r1 fun _=>none:=⟨⟨Owns.start (View.le_trans c3.wle q3),c3.old,View.le_trans c3.le0 q3,fun _ _ _ e=>by cases e⟩,av3,hs3,m3⟩;refine fX (.inr rfl) (t:=T.fl) (k:=T.int) (e:=T.bool) (u:=.int .i64 0) U.fl U.int rfl rfl rfl dz k4.m (mapB (hasS [])) (by simp[hasS]) (fun u hu=>?_) fun h5 hs5 ho5 hm5=>?_
   ·cases u with
    | int k j=>cases k<;>first | rfl | (simp[hasS];intro e;exact hu (by rw[e]))
    | _=>rfl
   have k5:=k4.upd ho5 hm5;refine gp (n:=1) (z:=.map none) (v:=.map (some r1)) (by kernel_rfl) rfl (by kernel_rfl) rfl (by simp[Value.cells,Value.oneCell']) (fun _=>by simp) (fun _=>by simp) fun h6 hle6 hs6 hb6=>?_;have k6:=k5.ext hle6
   have hW6:=k5.up (h':=h6);have x9:ag (grow W3 h5 h6) ⟨h5.size,0,none⟩=some (.map (some r1)):=cell_of (by rw[dm (Dy _)];exact hb6) rfl;generalize grow W3 h5 h6=W6 at *;generalize h5.size=B9 at *;subst hz;refine aa fun z hz=>?_;refine aa fun y hy=>?_;have hl6:=hl.mono (View.le_trans hW1 (View.le_trans hW13 hW6))
   have bl:=hl.bound;simp[hl6.len];subst hy;refine ao [0,1,3,9,37,38,39] (fun(_:Unit) k=>[vl,vf,ptr F1,ptr B9,vl,.int .i64 l.length,.int .i64 k])
    (fun _ k hx=>∃Wx,W6.le Wx/\Mq W h Wx hx r1 (mapB (hasS (l.take k)))) l.length ()
    rfl (by omega) rfl ⟨W6,View.le_refl _,k6⟩ (fun _ _=>rfl) (fun v i h1 hk m=>by simp) ?_ ?_
   ·rintro _ k hx hk ⟨Wx,lx,kx⟩ K2 hK2;obtain⟨ut,hut,rut⟩:=(hl6.mono lx).wh rfl (N:=2) rfl hk;refine aa fun y hy=>?_;simp(disch:=omega)[((hl6.mono lx).mono kx.wle).idxn (N:=2) rfl,hut _ kx.wle];refine kx.da (α:=bP) rut (n:=2) (z:=.agg #[.int .i64 0,.int .i64 0]) (by kernel_rfl) rfl rfl (by kernel_rfl) (fun _=>by simp) (fun _=>by simp) fun B h7 W7 hW7 k7 at7 hle7=>?_;have q0:ag W7 ⟨B,0,none⟩=some (.int .i64 (nth l k).pat):=by simpa using(at7.part bP.wy).int
    subst hy;simp[ab k7.wle q0,ab (View.le_trans lx (View.le_trans hW7 k7.wle)) x9];have hst : ∀p,hasS (l.take (k+1)) p=if p=(nth l k).pat then true else hasS (l.take k) p:=fun p=>by
     unfold hasS;rw[DK hk,List.any_append,aq hk];by_cases e:p=l[k].pat
     ·simp[e]
     simp[e,Ne.symm e]
    obtain⟨g1,g2⟩:=yz (f:=hasS (l.take k)) (g:=hasS (l.take (k+1))) (j:=(nth l k).pat) hst;refine fX (.inl rfl) (t:=T.fl) (k:=T.int) (e:=T.bool) (u:=.int .i64 (nth l k).pat) U.fl U.int rfl rfl rfl dz k7.m (mapB (hasS (l.take (k+1)))) g1 g2 fun h8 hs8 ho8 hm8=>?_;exact hK2 () _ _ rfl rfl ⟨W7,View.le_trans lx hW7,k7.upd ho8 hm8⟩
   rintro _ h7 ⟨W7,l7,k7⟩;rw[Ep]at k7;obtain⟨W8,l8,c8,hasM⟩:=k7.freeze;clear k4 k5 k6 k7 m3 hm5 ho5;have x9:=ab (View.le_trans l7 l8) x9;have l18:W1.le W8:=View.le_trans hW13 (View.le_trans hW6 (View.le_trans l7 l8));have at8:=at1.mono l18;simp;subst hz;refine aa fun z hz=>?_;simp;refine gY ?_;have m9:cA (.int .i64) (h7.push (.map #[] 0)) h7.size (mapE twoV fun _=>none):=by rw[kL];exact cA.none (by simp)
   have q9:=bG h7 (.map #[] 0);have av9:W8 h7.size=none:=View.cJ c8.wle (Dy _);have hs9:h.size<=h7.size:=cO c8.le0;generalize h7.push (.map #[] 0)=h9 at *;obtain⟨r2,hr2⟩ : ∃r,r=h7.size:=⟨_,rfl⟩;rw[<-hr2]at m9 av9 hs9 ⊢;have k9:Mq W h W8 h9 r2 (mapE twoV fun _=>none):=⟨⟨Owns.start (View.le_trans c8.wle q9),c8.old,View.le_trans c8.le0 q9,fun _ _ _ e=>by cases e⟩,av9,hs9,m9⟩;refine gp (n:=1) (z:=.map none) (v:=.map (some r2)) (by kernel_rfl) rfl (by kernel_rfl) rfl (by simp[Value.cells,Value.oneCell']) (fun _=>by simp) (fun _=>by simp) fun h10 hle10 hs10 hb10=>?_;have k10:=k9.ext hle10
   have hW10:=k9.up (h':=h10);have x12:ag (grow W8 h9 h10) ⟨h9.size,0,none⟩=some (.map (some r2)):=cell_of (by rw[dm (Dy _)];exact hb10) rfl;have l110:=View.le_trans l18 hW10;have x9:=ab hW10 x9;have hasM:=fun(g2:Heap) (hg:(grow W8 h9 h10).le (vw g2))=>hasM g2 (View.le_trans hW10 hg);generalize grow W8 h9 h10=W10 at *;generalize h9.size=B12 at *;have at10:=at1.mono l110
   clear k9 m9 c8 at8 hle10 hb10 q9;subst hz;refine aa fun z hz=>?_;refine aa fun y hy=>?_;obtain⟨-,vb,hb1,hb2⟩:=j9 at10;have bdf:=hb2.bound;simp[ab k10.wle hb1,hb2.len];subst hy;obtain⟨uf',huf',ruf'⟩:=at10.ldN rfl (N:=2) rfl;have smlen:=hsm.len;refine ao [0,1,3,9,12,37,38,39,49,50,51] (fun(_:Unit) b=>[vl,vf,ptr F1,ptr B9,ptr B12,vl,.int .i64 l.length,.int .i64 l.length,vb,.int .i64 f.blocks.length,.int .i64 b])
    (fun _ b hx=>∃Wx,W10.le Wx/\Mq W h Wx hx r2 (mapE twoV (whTo f b))) f.blocks.length ()
    rfl (by omega) rfl ⟨W10,View.le_refl _,k10⟩ (fun _ _=>rfl) (fun v i h1 hk m=>by simp) ?_ ?_
   ·rintro _ b hx hb ⟨Wx,lx,kx⟩ K2 hK2;obtain⟨ub,hub,rub⟩:=(hb2.mono lx).wh rfl (N:=6) rfl hb;have sb:=hsm.blk b hb;refine aa fun y hy=>?_;simp(disch:=omega)[((hb2.mono lx).mono kx.wle).idxn (N:=6) rfl,hub _ kx.wle];refine kx.da (α:=BlkD) rub (n:=6) (z:=.agg #[.slice none 0 0,.slice none 0 0,.int .i64 0,.slice none 0 0,.slice none 0 0,.int .i32 0]) (by kernel_rfl) rfl rfl (by kernel_rfl) (fun _=>by simp) (fun _=>by simp) fun B2 h11 W11 hW11 k11 at11 hle11=>?_;subst hy;refine aa fun y hy=>?_;obtain⟨vp,vi,va,vt,-,si,-⟩:=gS at11;have bi:=si.2.bound
    simp[ab k11.wle si.1,si.2.len];subst hy;refine ao [0,1,3,9,12,13,14,37,38,39,49,50,51,57,58,59] (fun(_:Unit) k=>[vl,vf,ptr F1,ptr B9,ptr B12,.int .i64 b,ptr B2,vl,.int .i64 l.length,.int .i64 l.length,vb,.int .i64 f.blocks.length,.int .i64 b,vi,.int .i64 (nth f.blocks b).ins.length,.int .i64 k])
     (fun _ k hy=>∃Wy,W11.le Wy/\Mq W h Wy hy r2 (mapE twoV (Lft.up (gF f b) k (whTo f b)))) (nth f.blocks b).ins.length ()
     rfl (by omega) rfl ⟨W11,View.le_refl _,k11⟩ (fun _ _=>rfl) (fun v i h1 hk m=>by simp) ?_ ?_
    ·rintro _ k h12 hk ⟨Wy,ly,ky⟩ K3 hK3;have hst:Lft.up (gF f b) (k+1) (whTo f b)=if(!decide ((nth (nth f.blocks b).ins k).op=16)&&!decide ((nth (nth f.blocks b).ins k).op=18))&&dC f (nth (nth f.blocks b).ins k).dst then putM (Lft.up (gF f b) k (whTo f b)) (nth (nth f.blocks b).ins k).dst ((b:Int),(k:Int)) else Lft.up (gF f b) k (whTo f b):=rfl;obtain⟨ui,hui,rui⟩:=(si.2.mono ly).wh rfl (N:=5) rfl hk;refine aa fun y hy=>?_;simp(disch:=omega)[((si.2.mono ly).mono ky.wle).idxn (N:=5) rfl,hui _ ky.wle];refine ky.da (α:=InsD) rui (n:=5) (z:=.agg #[.int .i64 0,.int .i64 0,.int .i64 0,.slice none 0 0,.int .i32 0]) (by kernel_rfl) rfl rfl (by kernel_rfl) (fun _=>by simp) (fun _=>by simp) fun B4 h13 W13 hW13 k13 at13 hle13=>?_;obtain⟨q0,q1,-⟩:=iF at13;have r1:=(at13.part InsD.gK).rng
     have l1013:W10.le W13:=View.le_trans lx (View.le_trans hW11 (View.le_trans ly hW13));generalize Lft.up (gF f b) k (whTo f b)=g at *;generalize nth (nth f.blocks b).ins k=ii at *;have q0:=ab k13.wle q0;have q1':=q1;have q1:=ab k13.wle q1;subst hy;refine aa fun y hy=>?_;have skip : ∀(h14:Heap) (W14:View),W13.le W14->Mq W h W14 h14 r2 (mapE twoV g)->Lft.up (gF f b) (k+1) (whTo f b)=g->∃Wy,W11.le Wy/\Mq W h Wy h14 r2 (mapE twoV (Lft.up (gF f b) (k+1) (whTo f b))):=fun h14 W14 l14 k14 e=>⟨W14,View.le_trans ly (View.le_trans hW13 l14),by rw[e];exact k14⟩
     by_cases o16:ii.op=16
     ·rw[if_neg (by simp[o16])]at hst;simp[q0,o16];subst hy;simp;exact hK3 () _ _ rfl rfl (skip _ _ (View.le_refl _) k13 hst)
     by_cases o18:ii.op=18
     ·rw[if_neg (by simp[o18])]at hst;simp[q0,o18];subst hy;simp;exact hK3 () _ _ rfl rfl (skip _ _ (View.le_refl _) k13 hst)
     simp[q0,o16,o18,q1,huf' _ (View.le_trans l1013 k13.wle)];refine af (by kernel_rfl) (nO (ruf'.mono (View.le_trans l1013 k13.wle)) hsm r1) ?_;rintro _ h14 ⟨rfl,hle14⟩;have k14:=k13.ext hle14;have hW14:=k13.up (h':=h14);cases hfo:dC f ii.dst with
     | false=>rw[if_neg (by simp[hfo])]at hst;subst hy;simp;exact hK3 () _ _ rfl rfl (skip _ _ hW14 k14 hst)
     | true=>rw[if_pos (by simp[o16,o18,hfo])]at hst;subst hy;simp[ab (View.le_trans l1013 (View.le_trans hW14 k14.wle)) x12,ab (View.le_trans hW14 k14.wle) q1'];refine an (z:=.agg #[.int .i64 0,.int .i64 0]) (places:=[(0,1),(1,1)]) (vs:=[(0,.int .i64 b),(1,.int .i64 k)]) (cs:=#[.int .i64 b,.int .i64 k]) (by kernel_rfl) (by kernel_rfl) (by simp) (by rfl) ?_;refine fX (.inl rfl) (t:=T.en) (k:=T.int) (e:=T.iz) (u:=.int .i64 ii.dst) (v:=twoV ((b:Int),(k:Int))) U.en U.int rfl rfl rfl dz k14.m (mapE twoV (putM g ii.dst ((b:Int),(k:Int)))) fg.1 fg.2 fun h15 hs15 ho15 hm15=>?_;exact hK3 () _ _ rfl rfl ⟨_,View.le_trans ly (View.le_trans hW13 hW14),by rw[hst];exact k14.upd ho15 hm15⟩
    rintro _ h12 ⟨Wy,ly,ky⟩;exact hK2 () _ _ rfl rfl ⟨Wy,View.le_trans lx (View.le_trans hW11 ly),by rw[qv];exact ky⟩
   rintro _ h11 ⟨W11,l11,k11⟩;obtain⟨W12,l12,c12,whM⟩:=k11.freeze;have whM : ∀g2:Heap,W12.le (vw g2)->cA (.int .i64) g2 r2 (mapE twoV (whS f)):=whM;have x9:=ab (View.le_trans l11 l12) x9;have x12:=ab (View.le_trans l11 l12) x12;have l1012:=View.le_trans l11 l12;clear k10 k11;simp;subst hz;refine aa fun z hz=>?_;simp;refine dF (z:=.nilFunc) (by kernel_rfl) ?_;have q13:=bG h11 (.cells (Value.nilFunc).cells T.dM)
   have b13:(h11.push (.cells (Value.nilFunc).cells T.dM))[h11.size]? = some (.cells (Value.nilFunc).cells T.dM (0,0)):=by simp
   generalize h11.push (.cells (Value.nilFunc).cells T.dM)=h13 at *;subst hz;refine aa fun z hz=>?_;simp;refine dk (g:=h11.size) (o:=0) (n:=1) (v:=.func (.func N.aQ) #[] #[ptr F1,ptr B9,ptr B12,ptr h11.size]) (cur:=(Value.nilFunc).cells) (e:=T.dM) (by kernel_rfl) rfl rfl rfl (by simp[Value.cells,Value.oneCell']) b13 (by simp[Value.cells]) fun h14 hs14 ⟨row,hr14,he14⟩ ho14=>?_;have hrow:row=(Value.func (.func N.aQ) #[] #[ptr F1,ptr B9,ptr B12,ptr h11.size]).cells:=by rw[<-Array.toList_inj,he14];simp[Value.cells]
   rw[hrow]at hr14;have le14:(vw h11).le (vw h14):=fun b o hb=>by have hlt:=View.lt (View.le_refl (vw h11)) hb;show h14[b]? = _;rw[ho14 b (by omega)];exact q13 b o hb
   have c14:=c12.ext le14;have hW14:=c12.up (h':=h14);have x17:ag (grow W12 h11 h14) ⟨h11.size,0,none⟩=some (.func (.func N.aQ) #[] #[ptr F1,ptr B9,ptr B12,ptr h11.size]):=cell_of (by rw[dm (Dy _)];exact hr14) rfl;have l1014:=View.le_trans l1012 hW14;have cv:Cv (grow W12 h11 h14) F1 B9 B12 h11.size r1 r2 f (hasS l) (whS f):=⟨at10.mono l1014,fun p hp=>zS e1 hp,ab hW14 x9,fun g2 hg=>hasM g2 (View.le_trans l1014 hg),ab hW14 x12,fun v w hw=>A6 hsm hw,fun g2 hg=>whM g2 (View.le_trans hW14 hg),x17⟩;have hb1:=ab l1014 hb1;have hb2:=hb2.mono l1014;generalize grow W12 h11 h14=W14 at *;generalize h11.size=C at *;clear hr14 ho14 he14 b13 q13 le14 x9 x12 x17 hasM whM;subst hz;refine aa fun z hz=>?_;refine aa fun y hy=>?_;simp[ab c14.wle hb1,hb2.len];subst hy;refine ao [0,1,3,9,12,17,37,38,39,49,50,51,88,89,90] (fun(_:Unit) b=>[vl,vf,ptr F1,ptr B9,ptr B12,ptr C,vl,.int .i64 l.length,.int .i64 l.length,vb,.int .i64 f.blocks.length,.int .i64 f.blocks.length,vb,.int .i64 f.blocks.length,.int .i64 b])
    (fun _ b hx=>∃Wx,W14.le Wx/\Cx W h Wx hx (fun _=>none)/\((List.range b).findSome? fun b=>(oM f (hasS l) b).map fun i=>(b,i))=none) f.blocks.length ()
    rfl (by omega) rfl ⟨W14,View.le_refl _,c14,rfl⟩ (fun _ _=>rfl) (fun v i h1 hk m=>by simp) ?_ ?_
   ·rintro _ b hx hb ⟨Wx,lx,cx,hno⟩ K2 hK2;obtain⟨ub,hub,rub⟩:=(hb2.mono lx).wh rfl (N:=6) rfl hb;have sb:=hsm.blk b hb;have sbi:=sb.ins;simp only[fw];refine aa fun y hy=>?_;simp(disch:=omega)[((hb2.mono lx).mono cx.wle).idxn (N:=6) rfl,hub _ cx.wle];refine cx.da (α:=BlkD) rub (n:=6) (z:=.agg #[.slice none 0 0,.slice none 0 0,.int .i64 0,.slice none 0 0,.slice none 0 0,.int .i32 0]) (by kernel_rfl) rfl rfl (by kernel_rfl) (fun _=>by simp) (fun _=>by simp) fun B2 h15 W15 hW15 c15 at15 hle15=>?_;subst hy;refine aa fun y hy=>?_;obtain⟨vp,vi,va,vt,-,si,-⟩:=gS at15;have bi:=si.2.bound
    simp(disch:=omega)[ab c15.wle si.1,si.2.len];subst hy;have eN:((nth f.blocks b).ins.length:Int)+1=(((nth f.blocks b).ins.length+1:Nat):Int):=by omega
    rw[eN];have l1415:=View.le_trans lx hW15;refine ao [0,1,3,9,12,17,18,19,37,38,39,49,50,51,88,89,90,98,99] (fun(_:Unit) i=>[vl,vf,ptr F1,ptr B9,ptr B12,ptr C,.int .i64 b,ptr B2,vl,.int .i64 l.length,.int .i64 l.length,vb,.int .i64 f.blocks.length,.int .i64 f.blocks.length,vb,.int .i64 f.blocks.length,.int .i64 b,.int .i64 (((nth f.blocks b).ins.length+1:Nat):Int),.int .i64 i])
     (fun _ i hx=>∃Wx,W15.le Wx/\Cx W h Wx hx (fun _=>none)/\(List.range i).find? (nW f (hasS l) b)=none) ((nth f.blocks b).ins.length+1) ()
     rfl (by omega) rfl ⟨W15,View.le_refl _,c15,rfl⟩ (fun _ _=>rfl) (fun v i h1 hk m=>by simp) ?_ ?_
    ·rintro _ i h16 hi ⟨W16,l16,c16,hno2⟩ K3 hK3;have si16:=si.2.mono l16;have x0:=ab (View.le_trans l16 c16.wle) si.1;have cv16:=cv.mono (View.le_trans l1415 l16);simp only[fw];refine aa fun y hy=>?_;simp;subst hy;refine aa fun y hy=>?_;simp;subst hy;refine aa fun y hy=>?_;refine fJ (fun ρ h17=>∃W17,W16.le W17/\Cx W h W17 h17 (fun _=>none)/\Looks ρ [(0,vl),(1,vf),(3,ptr F1),(9,ptr B9),(12,ptr B12),(17,ptr C),(18,.int .i64 b),(19,ptr B2),(20,.int .i64 i),(21,.bool (jH f (whS f) b i)),(37,vl),(38,.int .i64 l.length),(39,.int .i64 l.length),(49,vb),(50,.int .i64 f.blocks.length),(51,.int .i64 f.blocks.length),(88,vb),(89,.int .i64 f.blocks.length),(90,.int .i64 b),(98,.int .i64 (((nth f.blocks b).ins.length+1:Nat):Int)),(99,.int .i64 i)]) ?_ ?_
     ·intro K4 hK4;refine aa fun x hx=>?_;by_cases ci:i<(nth f.blocks b).ins.length
      ·have hii:((i:Int)<((nth f.blocks b).ins.length:Int)):=by omega
       have ax:=(si16.at ci);rw[<-aq ci]at ax;have q0:=ab c16.wle (ax.part InsD.pM).int;have q1:=(ax.part InsD.gK).int;have hx5:=si16.idxn (k:=.i64) (N:=5) rfl (i:=(i:Int)) (by omega) (by omega);generalize hii2:nth (nth f.blocks b).ins i=ii at *;have q0:ag (vw h16) (((slA vi).add (i*5)).add 0)=some (.int .i64 ii.op):=q0;have q1:ag W16 (((slA vi).add (i*5)).add 1)=some (.int .i64 ii.dst):=q1;have hx5:Bn.ev (.idx 5) vi (.int .i64 (i:Int))=some (.pointer (some ((slA vi).add (i*5)))):=by simpa using hx5
       by_cases o16:ii.op=16
       ·have hn:jH f (whS f) b i=true:=by unfold jH;rw[hii2];simp[o16]
        simp[x0,si16.len,hii,hx5,q0,o16];subst hx;simp;exact hK4 _ _ ⟨W16,View.le_refl _,c16,by rw[hn];simp[Looks]⟩
       have hn:jH f (whS f) b i=!decide (whS f ii.dst=some ((b:Int),(i:Int))):=by unfold jH;rw[hii2];simp[o16,ci]
       simp[x0,si16.len,hii,hx5,q0,o16];subst hx;refine gj (by simp) ?_;refine aa fun x hx=>?_;have wr:Rd W16 (((whS f ii.dst).map twoV).getD (.agg #[.int .i64 0,.int .i64 0])) ((whS f ii.dst).getD (0,0)):=by
        cases hv:whS f ii.dst with
        | none=>exact kF.2 ⟨rfl,by decide,by decide⟩
        | some w=>exact kF.2 ⟨rfl,(cv16.whR ii.dst w hv).1,(cv16.whR ii.dst w hv).2⟩
       have hww:((whS f ii.dst).map twoV).getD (.agg #[.int .i64 0,.int .i64 0])=twoV ((whS f ii.dst).getD (0,0)):=by cases whS f ii.dst<;>rfl
       refine fJ (fun ρ h17=>∃B22,Cx W h W16 h17 (fun _=>none)/\Un.ev (vw h17) (.ak 2) (ptr B22)=some (twoV ((whS f ii.dst).getD (0,0)))/\Looks ρ [(0,vl),(1,vf),(3,ptr F1),(9,ptr B9),(12,ptr B12),(17,ptr C),(18,.int .i64 b),(19,ptr B2),(20,.int .i64 i),(21,.bool true),(22,ptr B22),(23,.bool (whS f ii.dst).isSome),(37,vl),(38,.int .i64 l.length),(39,.int .i64 l.length),(49,vb),(50,.int .i64 f.blocks.length),(51,.int .i64 f.blocks.length),(88,vb),(89,.int .i64 f.blocks.length),(90,.int .i64 b),(98,.int .i64 (((nth f.blocks b).ins.length+1:Nat):Int)),(99,.int .i64 i)]) ?_ ?_
       ·intro K5 hK5;refine bR W16 c16.wle ?_;have q1:=q1;refine jY ?_ ?_
        ·simp[cv16.whC,si.1,si.1,ab l16 si.1,hx5,q1];refine iE (f:=mapE twoV (whS f)) (z:=.agg #[.int .i64 0,.int .i64 0]) (k:=T.int) (e:=T.iz) (d:=.int .i64) (r:=r2) (u:=.int .i64 ii.dst) U.en U.int (by kernel_rfl) rfl rfl dz (cv16.whM h16 c16.wle) ?_;simp;refine c16.cU (k:=(0,0)) (n:=1) (z:=.agg #[.int .i64 0,.int .i64 0]) rfl (by kernel_rfl) rfl (by decide) (by simp[Value.cells,Value.oneCell']) fun B22 h17 hle17 c17=>?_;refine c17.bC (k:=(0,0)) (n:=1) Own.aw wr rfl rfl (by kernel_rfl) rfl rfl fun h18 l18 hl18 c18=>?_;have hall:=c18.all (k:=(0,0)) (n:=1) (l:=l18) (B:=B22) (e:=T.iz) Own.aw;refine hK5 _ _ ⟨B22,⟨c18.own.sub fun k i e=>by(cases e),c18.old,c18.le0,fun _ _ _ e=>by cases e⟩,?_,by simp[Looks]⟩;rw[<-hww,hl18];exact hall
        simp[cv16.whC,si.1,ab l16 si.1,hx5,q1];refine c16.cU (k:=(0,0)) (n:=1) (z:=.agg #[.int .i64 0,.int .i64 0]) rfl (by kernel_rfl) rfl (by decide) (by simp[Value.cells,Value.oneCell']) fun B22 h17 hle17 c17=>?_;refine⟨c17.wle,?_⟩;refine iE (f:=mapE twoV (whS f)) (z:=.agg #[.int .i64 0,.int .i64 0]) (k:=T.int) (e:=T.iz) (d:=.int .i64) (r:=r2) (u:=.int .i64 ii.dst) U.en U.int (by kernel_rfl) rfl rfl dz (cv16.whM h17 c17.wle) ?_;simp;refine c17.bC (k:=(0,0)) (n:=1) Own.aw wr rfl rfl (by kernel_rfl) rfl rfl fun h18 l18 hl18 c18=>?_;have hall:=c18.all (k:=(0,0)) (n:=1) (l:=l18) (B:=B22) (e:=T.iz) Own.aw;refine hK5 _ _ ⟨B22,⟨c18.own.sub fun k i e=>by(cases e),c18.old,c18.le0,fun _ _ _ e=>by cases e⟩,?_,by simp[Looks]⟩;rw[<-hww,hl18];exact hall
       rintro ρ h17 ⟨B22,c17,x22,L⟩;have L0:=L (0,vl) (by simp);have L1:=L (1,vf) (by simp);have L3:=L (3,ptr F1) (by simp);have L9:=L (9,ptr B9) (by simp);have L12:=L (12,ptr B12) (by simp);have L17:=L (17,ptr C) (by simp);have L18:=L (18,.int .i64 b) (by simp);have L19:=L (19,ptr B2) (by simp);have L20:=L (20,.int .i64 i) (by simp);have L21:=L (21,.bool true) (by simp);have L22:=L (22,ptr B22) (by simp);have L23:=L (23,.bool (whS f ii.dst).isSome) (by simp);have L37:=L (37,vl) (by simp);have L38:=L (38,.int .i64 l.length) (by simp);have L39:=L (39,.int .i64 l.length) (by simp);have L49:=L (49,vb) (by simp);have L50:=L (50,.int .i64 f.blocks.length) (by simp);have L51:=L (51,.int .i64 f.blocks.length) (by simp);have L88:=L (88,vb) (by simp);have L89:=L (89,.int .i64 f.blocks.length) (by simp);have L90:=L (90,.int .i64 b) (by simp);have L98:=L (98,.int .i64 (((nth f.blocks b).ins.length+1:Nat):Int)) (by simp);have L99:=L (99,.int .i64 i) (by simp);simp only at L0 L1 L3 L9 L12 L17 L18 L19 L20 L21 L22 L23 L37 L38 L39 L49 L50 L51 L88 L89 L90 L98 L99;subst hx;refine aa fun x hx=>?_;cases hv:whS f ii.dst with
       | none=>
        have hn:jH f (whS f) b i=true:=by rw[hn,hv];rfl
        rw[hv]at L23;simp[aI,aY,L0,L1,L3,L9,L12,L17,L18,L19,L20,L21,L22,L23,L37,L38,L39,L49,L50,L51,L88,L89,L90,L98,L99];subst hx;simp[aI,aY,L0,L1,L3,L9,L12,L17,L18,L19,L20,L21,L22,L23,L37,L38,L39,L49,L50,L51,L88,L89,L90,L98,L99];exact hK4 _ _ ⟨W16,View.le_refl _,c17,by rw[hn];simp[Looks,aI,aY,L0,L1,L3,L9,L12,L17,L18,L19,L20,L21,L22,L23,L37,L38,L39,L49,L50,L51,L88,L89,L90,L98,L99]⟩
       | some w=>
        have hn:jH f (whS f) b i=!(w.1 == (b:Int)&&w.2 == (i:Int)):=by rw[hn,hv];obtain⟨w1,w2⟩:=w;rw[DQ];simp
        rw[hv]at L23 x22;have x22:Un.ev (vw h17) (.ak 2) (ptr B22)=some (.agg #[.int .i64 w.1,.int .i64 w.2]):=x22;simp[aI,aY,L0,L1,L3,L9,L12,L17,L18,L19,L20,L21,L22,L23,L37,L38,L39,L49,L50,L51,L88,L89,L90,L98,L99,x22];refine an (z:=.agg #[.int .i64 0,.int .i64 0]) (places:=[(0,1),(1,1)]) (vs:=[(0,.int .i64 b),(1,.int .i64 i)]) (cs:=#[.int .i64 b,.int .i64 i]) (by kernel_rfl) (by kernel_rfl) (by simp) (by rfl) ?_;refine uP (t:=T.iz) (e:=T.int) (a:=w.1) (b:=w.2) (c:=(b:Int)) (d:=(i:Int)) (ki:=.i64) U.iz U.int (by kernel_rfl) (by kernel_rfl) (by kernel_rfl) rfl rfl ?_;subst hx;cases he:(w.1 == (b:Int)&&w.2 == (i:Int))with
        | false=>rw[he]at hn;simp[aI,aY,L0,L1,L3,L9,L12,L17,L18,L19,L20,L21,L22,L23,L37,L38,L39,L49,L50,L51,L88,L89,L90,L98,L99];exact hK4 _ _ ⟨W16,View.le_refl _,c17,by rw[hn];simp[Looks,aI,aY,L0,L1,L3,L9,L12,L17,L18,L19,L20,L21,L22,L23,L37,L38,L39,L49,L50,L51,L88,L89,L90,L98,L99]⟩
        | true=>rw[he]at hn;simp[aI,aY,L0,L1,L3,L9,L12,L17,L18,L19,L20,L21,L22,L23,L37,L38,L39,L49,L50,L51,L88,L89,L90,L98,L99];exact hK4 _ _ ⟨W16,View.le_refl _,c17,by rw[hn];simp[Looks,aI,aY,L0,L1,L3,L9,L12,L17,L18,L19,L20,L21,L22,L23,L37,L38,L39,L49,L50,L51,L88,L89,L90,L98,L99]⟩
      have hn:jH f (whS f) b i=true:=by unfold jH;simp[ci]
      have hii:¬((i:Int)<((nth f.blocks b).ins.length:Int)):=by omega
      simp[x0,si16.len,hii];subst hx;simp;exact hK4 _ _ ⟨W16,View.le_refl _,c16,by rw[hn];simp[Looks]⟩
     rintro ρ h17 ⟨W17,l17,c17,L⟩;have L0:=L (0,vl) (by simp);have L1:=L (1,vf) (by simp);have L3:=L (3,ptr F1) (by simp);have L9:=L (9,ptr B9) (by simp);have L12:=L (12,ptr B12) (by simp);have L17:=L (17,ptr C) (by simp);have L18:=L (18,.int .i64 b) (by simp);have L19:=L (19,ptr B2) (by simp);have L20:=L (20,.int .i64 i) (by simp);have L21:=L (21,.bool (jH f (whS f) b i)) (by simp);have L37:=L (37,vl) (by simp);have L38:=L (38,.int .i64 l.length) (by simp);have L39:=L (39,.int .i64 l.length) (by simp);have L49:=L (49,vb) (by simp);have L50:=L (50,.int .i64 f.blocks.length) (by simp);have L51:=L (51,.int .i64 f.blocks.length) (by simp);have L88:=L (88,vb) (by simp);have L89:=L (89,.int .i64 f.blocks.length) (by simp);have L90:=L (90,.int .i64 b) (by simp);have L98:=L (98,.int .i64 (((nth f.blocks b).ins.length+1:Nat):Int)) (by simp);have L99:=L (99,.int .i64 i) (by simp);simp only at L0 L1 L3 L9 L12 L17 L18 L19 L20 L21 L37 L38 L39 L49 L50 L51 L88 L89 L90 L98 L99;have cv17:=cv16.mono l17;have hplc:cC f b i=true:=by simp[cC];omega
     have hstep : ∀X,nW f (hasS l) b i=X->X=false->(List.range (i+1)).find? (nW f (hasS l) b)=none:=fun X hX hf=>by rw[ER,Ft,hno2,EN,List.find?_singleton,hX,hf];rfl
     subst hy;refine aa fun y hy=>?_;cases hn:jH f (whS f) b i with
     | false=>rw[hn]at L21;simp[aI,aY,L0,L1,L3,L9,L12,L17,L18,L19,L20,L21,L37,L38,L39,L49,L50,L51,L88,L89,L90,L98,L99];subst hy;simp[aI,aY,L0,L1,L3,L9,L12,L17,L18,L19,L20,L21,L37,L38,L39,L49,L50,L51,L88,L89,L90,L98,L99];refine hK3 () _ _ (by simp[aI,aY,L0,L1,L3,L9,L12,L17,L18,L19,L20,L21,L37,L38,L39,L49,L50,L51,L88,L89,L90,L98,L99]) (by simp[dA,aI,aY,L0,L1,L3,L9,L12,L17,L18,L19,L20,L21,L37,L38,L39,L49,L50,L51,L88,L89,L90,L98,L99]) ⟨W17,View.le_trans l16 l17,c17,hstep _ rfl (by unfold nW;rw[hn];rfl)⟩
     | true=>
      rw[hn]at L21;simp[aI,aY,L0,L1,L3,L9,L12,L17,L18,L19,L20,L21,L37,L38,L39,L49,L50,L51,L88,L89,L90,L98,L99,ab c17.wle cv17.can];refine bL (ops:=[.tmp 138,.tmp 139]) (caps:=#[ptr F1,ptr B9,ptr B12,ptr C]) rfl (by kernel_rfl) (yc m hsm hM hd (i+1) (b:=(b:Int)) (i:=(i:Int)) cv17 c17.wle hplc (by omega)) ?_;rintro _ h18 ⟨hle18,rfl⟩;have c18:=c17.ext hle18;have hW18:=c17.up (h':=h18);simp[aI,aY,L0,L1,L3,L9,L12,L17,L18,L19,L20,L21,L37,L38,L39,L49,L50,L51,L88,L89,L90,L98,L99];subst hy;cases hcn:canS f (hasS l) (whS f) (i+1) b i with
      | true=>simp[aI,aY,L0,L1,L3,L9,L12,L17,L18,L19,L20,L21,L37,L38,L39,L49,L50,L51,L88,L89,L90,L98,L99];refine hK3 () _ _ (by simp[aI,aY,L0,L1,L3,L9,L12,L17,L18,L19,L20,L21,L37,L38,L39,L49,L50,L51,L88,L89,L90,L98,L99]) (by simp[dA,aI,aY,L0,L1,L3,L9,L12,L17,L18,L19,L20,L21,L37,L38,L39,L49,L50,L51,L88,L89,L90,L98,L99]) ⟨_,View.le_trans l16 (View.le_trans l17 hW18),c18,hstep _ rfl (by unfold nW;rw[hn,hcn];rfl)⟩
      | false=>
       have hbad:nW f (hasS l) b i=true:=by unfold nW;rw[hn,hcn];rfl
       have hrow:oM f (hasS l) b=some i:=by unfold oM;exact find_range hi hno2 hbad
       have hfirst:kz f (hasS l)=some (b,i):=by unfold kz;exact pH hb hno (by rw[hrow];rfl)
       rw[hfirst]at hK;simp[aI,aY,L0,L1,L3,L9,L12,L17,L18,L19,L20,L21,L37,L38,L39,L49,L50,L51,L88,L89,L90,L98,L99];exact hK _ _ ⟨c18.le0,rfl⟩
    rintro _ h16 ⟨W16,l16,c16,hno2⟩;refine hK2 () _ _ rfl rfl ⟨W16,View.le_trans l1415 l16,c16,?_⟩;rw[ER,EV,hno,EN];simp[oM,hno2]
   rintro _ hx ⟨Wx,lx,cx,hno⟩;have e:kz f (hasS l)=none:=hno;rw[e]at hK;simp;subst hz;simp;exact hK _ _ ⟨cx.le0,rfl⟩
 have e:fj l f=((eh l).1,0,0):=by unfold fj;rw[if_pos e1]
 simp[e1];exact hK _ _ ⟨c2.le0,by rw[e]⟩
end Go.Proofs.YtnfiilgdjpdlkaaGreatDoor
namespace Go.Proofs.YtnfiilgdjpdlkaaGreatDoor
open Go Go.Lft
theorem uD{val:Int}{x:Int × Int}{l:List Th}: ∀{y:WL},x∈l.foldl (og val) y↔x∈y\/∃t∈l,x=(t.blk,t.place)/\val∈t.tks:=by
 induction l with
 | nil=>simp
 | cons t l ih=>
  intro y;rw[DS,ih,og,lj];simp only[DL,exists_eq_or_imp];constructor
  ·rintro((h | h) | h)
   ·exact .inl h
   ·exact .inr (.inl h)
   exact .inr (.inr h)
  rintro(h | h | h)
  ·exact .inl (.inl h)
  ·exact .inl (.inr h)
  exact .inr h
theorem lq{f:ae}{v:Int}(h:dC f v=true){t t':Th}(ht:t∈aK f)(ht':t'∈aK f)(hm:v∈t.mks)(hk:v∈t'.tks):t.blk=t'.blk/\t.place<t'.place:=by
 unfold dC gV at h;simp only[DC]at h;have hb:=h.1;unfold jj at hb;simp at hb;obtain⟨⟨⟨⟨b1,b2⟩,b3⟩,b4⟩,b5⟩:=hb;have m1:(t.blk,t.place)∈km v (aK f):=mB.2 (.inr ⟨t,ht,rfl,hm⟩);have m2:(t'.blk,t'.place)∈iQ v (aK f):=uD.2 (.inr ⟨t',ht',rfl,hk⟩);have one : ∀{l:WL} {x:Int × Int},l.length=1->x∈l->nth l 0=x:=by
  intro l x hl hx;match l,hl with
  | [y],_=>simp at hx;rw[hx];rfl
 have e1:=one (by omega) m1;have e2:=one (by omega) m2;rw[e1,e2]at b4;rw[e1,e2]at b5;exact⟨b4,by simpa using b5⟩
theorem kJ{f:ae}{b k:Nat}(hb:b<f.blocks.length)(hk:k<(nth f.blocks b).ins.length):insT f b k∈aK f:=fi.2 ⟨b,hb,gq.2 (.inr (.inl ⟨k,hk,rfl⟩))⟩
theorem xe{f:ae}{b:Nat}(hb:b<f.blocks.length):endT f b∈aK f:=fi.2 ⟨b,hb,gq.2 (.inr (.inr rfl))⟩
def ownArgs (s:bf):List Int:=if s.term then s.t.args else s.i.args
def oT (f:ae) (args:List Int) (v:Int):Prop:=∃v2 op,v2∈args/\(aD f v2 op).2=true/\v∈(aD f v2 op).1.args
theorem my{l:List Int}{v:Int}(h:v∈l.drop 1):v∈l:=List.mem_of_mem_drop h
theorem mz{f:ae}{i:InsD}{m lo hi sg:Int}{x:FitD}(hl:1<=i.args.length)(h:immS f i m lo hi sg=some x){v:Int}(hv:v∈x.takes):v∈i.args:=by
 unfold immS at h;split at h
 ·cases h;simp at hv;subst hv;exact bT (by omega)
 cases h
theorem rR{f:ae}{i:InsD}{temp op pl su:Int}{k:Nat}{x:FitD}(hall : ∀i∈dr f,oF i)(hl:1<=i.args.length)(h:memS f i temp op pl su k=some x){v:Int}(hv:v∈x.takes):v∈i.args\/oT f i.args v:=by
 have h0:nth i.args 0∈i.args:=bT (by omega);have hin : ∀{j},(aD f (nth i.args 0) 2).2=true->j<2->oT f i.args (nth (aD f (nth i.args 0) 2).1.args j):=fun{j} hb hj=>by obtain⟨m1,m2,-⟩:=jf hb;have:=(hall _ m1).two (by omega);exact⟨_,2,h0,hb,bT (by omega)⟩
 match k with
 | 0=>
  simp only[memS]at h;split at h
  ·cases h;rcases DL.1 hv with rfl | hv
   ·exact .inl h0
   exact .inl (my hv)
  cases h
 | 1=>
  simp only[memS]at h;split at h
  ·rename_i c;split at h
   ·cases h;rcases DL.1 hv with rfl | hv
    ·exact .inr (hin c (by decide))
    exact .inl (my hv)
   cases h
  cases h
 | 2=>
  simp only[memS]at h;split at h
  ·rename_i c;simp only[DC]at c;cases h;rcases DL.1 hv with rfl | hv
   ·exact .inr (hin c.1 (by decide))
   rcases DL.1 hv with rfl | hv
   ·exact .inr (hin c.1 (by decide))
   exact .inl (my hv)
  cases h
 | k+3=>
  simp only[memS]at h;cases h;rcases DL.1 hv with rfl | hv
  ·exact .inl h0
  exact .inl (my hv)
theorem uC{s:bf}{pat:Int}{x:FitD}(hok:jW s)(ht:pk s.t)(h:tryS s pat=some x){v:Int}(hv:v∈x.takes):v∈ownArgs s\/oT s.f (ownArgs s) v:=by
 unfold tryS at h;unfold ownArgs;cases htm:s.term with
 | true=>
  rw[htm,if_pos rfl]at h;rw[if_pos rfl];unfold e7 at h;split at h
  ·cases h;cases hv
  split at h
  ·cases h;exact .inl hv
  split at h
  ·cases h;cases hv
  split at h
  ·cases h;exact .inl hv
  split at h
  ·rename_i c;split at h
   ·rename_i c2;cases h;exact .inr ⟨_,_,bT (ht.one (.inl c.2)),c2,hv⟩
   cases h
  split at h
  ·cases h;exact .inl hv
  cases h
 | false=>
  rw[htm,if_neg (by simp)]at h;rw[if_neg (by simp)];unfold patS at h;split at h
  ·rename_i c;obtain⟨c1,c2,c3⟩:=c;have hp1:1<=pat.toNat/\pat.toNat<=32:=by omega
   generalize pat.toNat=p at *;have len:16<=p->p<=30->1<=s.i.args.length:=by
    intro h2 h30;have hopr:(2<=s.i.op/\s.i.op<=14)\/s.i.op=16\/s.i.op=15:=by
     rw[c3];unfold opOf;repeat' split
     all_goals omega
    rcases hopr with q | q | q
    ·have:=hok.one.two (.inl q);omega
    ·have:=hok.one.two (.inr (.inl q));omega
    exact hok.one.one q
   unfold doS at h;by_cases p1:p=1
   ·rw[if_pos p1]at h;by_cases q:inR s.i.imm.v (-32768) 32767=true
    ·rw[if_pos q]at h;cases h;cases hv
    rw[if_neg q]at h;cases h
   rw[if_neg p1]at h;by_cases p2:p=2
   ·rw[if_pos p2]at h;cases h;cases hv
   rw[if_neg p2]at h;by_cases p15:p<=15
   ·rw[if_pos p15]at h;cases h;exact .inl hv
   rw[if_neg p15]at h;by_cases p16:p=16
   ·rw[if_pos p16]at h;exact .inl (mz (len (by omega) (by omega)) h hv)
   rw[if_neg p16]at h;by_cases p17:p=17
   ·rw[if_pos p17]at h;exact .inl (mz (len (by omega) (by omega)) h hv)
   rw[if_neg p17]at h;by_cases p18:p=18
   ·rw[if_pos p18]at h;exact .inl (mz (len (by omega) (by omega)) h hv)
   rw[if_neg p18]at h;by_cases p21:p<=21
   ·rw[if_pos p21]at h;exact .inl (mz (len (by omega) (by omega)) h hv)
   rw[if_neg p21]at h;by_cases p22:p=22
   ·rw[if_pos p22]at h;by_cases q:(aD s.f (nth s.i.args 0) 4).2=true
    ·rw[if_pos q]at h;have l1:=len (by omega) (by omega);have l2:=hok.one.two (by rw[c3,p22];exact .inl (by decide));obtain⟨m1,m2,-⟩:=jf q;have l3:=(hok.all _ m1).two (by omega);cases h;rcases DL.1 hv with rfl | hv
     ·exact .inr ⟨_,_,bT (by omega),q,bT (by omega)⟩
     rcases DL.1 hv with rfl | hv
     ·exact .inr ⟨_,_,bT (by omega),q,bT (by omega)⟩
     rcases DL.1 hv with rfl | hv
     ·exact .inl (bT (by omega))
     cases hv
    rw[if_neg q]at h;cases h
   rw[if_neg p22]at h;by_cases p26:p<=26
   ·rw[if_pos p26]at h;exact rR hok.all (len (by omega) (by omega)) h hv
   rw[if_neg p26]at h;by_cases p30:p<=30
   ·rw[if_pos p30]at h;exact rR hok.all (len (by omega) (by omega)) h hv
   rw[if_neg p30]at h;by_cases p31:p=31
   ·rw[if_pos p31]at h;cases h;exact .inl hv
   rw[if_neg p31]at h;cases h;exact .inl hv
  cases h
theorem z7{f:ae}(m:jC f)(hsm:SmF f)(hr : ∀i∈dr f,-2147483648<=i.imm.v/\i.imm.v<=2147483647):Down f (whS f):=by
 intro b i pat x v w hpl hx hv hw;obtain⟨h1,h2,h3,h4⟩:=sI (temp:=0) m hsm hr hpl;obtain⟨b',k',hb',hk',rfl,hd,ho16,ho18,hfo⟩:=yv hw;simp[cC]at hpl;obtain⟨⟨⟨g1,g2⟩,g3⟩,g4⟩:=hpl;have hb:b.toNat<f.blocks.length:=by omega
 have made : ∀{b k:Nat} {u:Int},b<f.blocks.length->k<(nth f.blocks b).ins.length->(nth (nth f.blocks b).ins k).dst=u->(nth (nth f.blocks b).ins k).op≠16->u∈(insT f b k).mks:=by intro b k u hb hk hd ho;show u∈gH (nth (nth f.blocks b).ins k);unfold gH;rw[if_neg ho];split<;>simp[hd]
 have hmk:=made hb' hk' hd ho16;obtain⟨t,ht,htb,htp,hta⟩ : ∃t∈aK f,t.blk=b/\t.place=i/\t.tks=ownArgs (dw f b i 0):=by
  unfold ownArgs dw;by_cases e:i=(nth f.blocks b.toNat).ins.length
  ·rw[if_pos e,if_pos rfl];exact⟨_,xe hb,by show((b.toNat:Nat):Int)=b;omega,by show(((nth f.blocks b.toNat).ins.length:Nat):Int)=i;omega,rfl⟩
  rw[if_neg e,if_neg (by simp)];exact⟨_,kJ hb (k:=i.toNat) (by omega),by show((b.toNat:Nat):Int)=b;omega,by show((i.toNat:Nat):Int)=i;omega,rfl⟩
 have key : ∃t2∈aK f,t2.blk=b/\t2.place<=i/\v∈t2.tks:=by
  rcases uC h1 h2 hx hv with hv | ⟨v2,op,hv2,hf2,hv⟩
  ·exact⟨t,ht,htb,by omega,by rw[hta];exact hv⟩
  rw[h4]at hf2 hv;obtain⟨m1,m2,m3,m4,m5⟩:=jf hf2;obtain⟨b2,k2,hb2,hk2,e2⟩:=jq.1 m1;rw[e2]at m4 m5 hv;have hm2:=made hb2 hk2 m4 m5;obtain⟨q1,q2⟩:=lq m3 (kJ hb2 hk2) ht hm2 (by rw[hta];exact hv2);exact⟨_,kJ hb2 hk2,by rw[q1,htb],by rw[htp]at q2;omega,hv⟩
 obtain⟨t2,ht2,e1,e2,e3⟩:=key;obtain⟨q1,q2⟩:=lq hfo (kJ hb' hk') ht2 hmk e3;have q1:(b':Int)=t2.blk:=q1;have q2:(k':Int)<t2.place:=q2;refine⟨?_,by simp only;omega⟩;simp[cC];omega
def ir:List Int:=[1,2,1,1,3,1,1,1,1,1,1,1,1,1,12,1,1,1,1,1,1,3,2,2,2,4,1,1,1,3,6,4,1,1,1,1,2]
def allT:List bP:=rows (fun i=>⟨(i:Int)+1,nth ir i⟩) 37
theorem mc{W:View}{p c:Int}(hp:I64 p)(hc:I64 c):Rd W (.agg #[.int .i64 p,.int .i64 c]) (⟨p,c⟩:bP):=by unfold Rd;rw[if_pos (show Rep.agg bP=true from rfl)];exact⟨_,rfl,[.int .i64 p],[.int .i64 c],rfl,⟨rfl,hp⟩,rfl,hc⟩
theorem oK {W:View} : ∀{l:List Int},(∀x∈l,I64 x)->lp W (l.map fun c=>.int .i64 c) l
 | [],_=>trivial
 | x::l,h=>⟨bh.2 ⟨rfl,h x (Dz ..)⟩,oK fun y hy=>h y (DB _ hy)⟩
theorem qD: ∀x∈ir,1<=x/\x<=12:=by
 have h:ir.all (fun x=>decide (1<=x)&&decide (x<=12))=true:=by kernel_rfl
 exact fun x hx=>by simpa using D3.1 h x hx
theorem A5{h:Heap}:aj Tryz.prog N.eI #[] h (fun u h'=>(vw h).le (vw h')/\SlRd (vw h') u allT):=by
 refine ah (args:=[]) follows F.eI E.eI (Dv (by kernel_rfl)) fun K hK=>?_;dsimp only[L.eI];refine aa fun z hz=>?_;simp;subst hz;refine aa fun z hz=>?_;simp;subst hz;refine aa fun z hz=>?_;simp;refine gm (α:=Int) (ds:=ir) (vs:=ir.map fun c=>.int .i64 c) (X:=nothing) El.ck (by kernel_rfl) (oK fun x hx=>by have:=qD x hx;constructor<;>omega) rfl (by decide) (by decide) fun uc h1 hle1 hs1 huc hb1=>?_;have huc:=huc (vw h1) (bO) rfl;have hl:=huc.len (K:=vw h1);have hl37:ir.length=37:=rfl;rw[hl37]at hl;simp[hl];refine ao [0,1,4,5,6] (fun(vo:Value) k=>[.slice none 0 0,vo,uc,.int .i64 37,.int .i64 k])
   (fun vo k h2=>Mine nothing h1 h2 nothing T.fI vo (rows (fun i=>(⟨(i:Int)+1,nth ir i⟩:bP)) k)) 37 (.slice none 0 0)
   rfl (by omega) rfl (Mine.start bO) (fun _ _=>rfl) (fun v i h1 hk m=>by simp) ?_ ?_
 ·rintro vo k h2 hk m K2 hK2;have hle:=m.old;have e1:=huc.idx1 (k:=.i64) (i:=(k:Int)) rfl (by omega) (by rw[hl37];omega);have e2:=ab hle (huc.int (View.le_refl _) (i:=k) (by rw[hl37];omega));simp only[DN]at e1;have hc:=qD _ (bT (l:=ir) (i:=k) (by rw[hl37];omega));have ew:IntKind.i64.wrap ((k:Int)+1)=(k:Int)+1:=cj (by omega) (by omega);refine aa fun y hy=>?_;simp[e1,e2];subst hy;simp[ew];refine an (t:=T.fI) (z:=.agg #[.int .i64 0,.int .i64 0]) (places:=[(0,1),(1,1)]) (vs:=[(0,.int .i64 ((k:Int)+1)),(1,.int .i64 (nth ir k))]) (cs:=#[.int .i64 ((k:Int)+1),.int .i64 (nth ir k)]) (by kernel_rfl) (by kernel_rfl) (by simp) (by rfl) ?_;refine m.push (u:=.agg #[.int .i64 ((k:Int)+1),.int .i64 (nth ir k)]) El.ft (by simp) (mc (by constructor<;>omega) (by constructor<;>omega)) (by simp;omega) (by simp;omega) (fun _=>by simp) (fun _=>by simp) fun u v' h5 m'=>?_;refine hK2 v' _ _ rfl rfl ?_;rw[fA];exact m'
 rintro vo h2 m;simp;subst hz;simp;exact hK _ _ ⟨View.le_trans hle1 m.old,m.now⟩
variable{va vb:Value}
theorem vW{a b:List Int}{h:Heap}(ha:SlRd (vw h) va a)(hb:SlRd (vw h) vb b):
  aj Tryz.prog N.dh #[va,vb] h (fun u h'=>u = .bool (decide (a=b))/\h'=h):=by
 refine ah (args:=[va,vb]) follows F.dh E.dh (Dv (by kernel_rfl)) fun K hK=>?_;have hbd:=ha.bound;dsimp only[L.dh];refine aa fun z hz=>?_;simp;subst hz;refine aa fun z hz=>?_;by_cases hl:a.length=b.length
 ·have hl':(a.length:Int)=b.length:=by omega
  simp[ha.len,hb.len,hl'];subst hz;refine aa fun z hz=>?_;simp;refine re [0,1,4,5] (fun(_:Unit) i=>[va,vb,.bool false,.int .i64 i]) (fun _ i h3=>h3=h/\∀j,j<i->nth a j=nth b j) a.length ()
   rfl (by omega) rfl ⟨rfl,fun j hj=>by omega⟩ (fun _ _=>rfl) (fun v k h3 hk m=>by simp[ha.len]) ?_ ?_
  ·rintro _ i h hlti ⟨rfl,hpre⟩ K2 hK2;have e1:=ha.idx1 rfl (k:=.i64) (i:=(i:Int)) (by omega) (by omega);have e2:=hb.idx1 rfl (k:=.i64) (i:=(i:Int)) (by omega) (by omega);have e3:=ha.int (View.le_refl _) (i:=i) hlti;have e4:=hb.int (View.le_refl _) (i:=i) (by omega);simp only[DN]at e1 e2;by_cases e:nth a i=nth b i
   ·simp[e1,e2,e3,e4,e];refine hK2 () _ _ rfl rfl ⟨rfl,fun j hj=>?_⟩;rcases DA j i with q | q
    ·exact hpre j q
    have:j=i:=by omega
    subst this;exact e
   simp[e1,e2,e3,e4,e];exact hK _ _ ⟨by rw[decide_eq_false];rintro rfl;exact e rfl,rfl⟩
  rintro _ h ⟨rfl,hpre⟩;have he:a=b:=EA hl fun j h1 h2=>by have:=hpre j h1;rwa [aq h1,aq h2]at this
  simp;subst hz;simp;exact hK _ _ ⟨by rw[decide_eq_true he],rfl⟩
 have hl':¬(a.length:Int)=b.length:=by omega
 simp[ha.len,hb.len,hl'];exact hK _ _ ⟨by rw[decide_eq_false];rintro rfl;exact hl rfl,rfl⟩
def pG (a b:aU):Bool:=decide (a.op=b.op)&&decide (a.d=b.d)&&decide (a.e=b.e)&&decide (a.a=b.a)&&decide (a.b=b.b)&&decide (a.c=b.c)&&decide (a.imm.v=b.imm.v)&&decide (a.args=b.args)
theorem xk{a b:aU}:pG a b=true↔a=b:=by unfold pG;obtain⟨a1,a2,a3,a4,a5,a6,⟨a7⟩,a8⟩:=a;obtain⟨b1,b2,b3,b4,b5,b6,⟨b7⟩,b8⟩:=b;simp[and_assoc]
variable{H:View}
theorem mX{ρ:Nat->Option Value}{a b:E}{p q:Bool}(ha:ev ρ H a=some (.bool p))(hb:p=true->ev ρ H b=some (.bool q)):ev ρ H (.ite a b (.con (.bool false)))=some (.bool (p&&q)):=by
 cases p with
 | true=>simp[ha,hb rfl]
 | false=>simp[ha]
theorem lA{ρ:Nat->Option Value}{a b:E}{k:IntKind}{x y:Int}(ha:ev ρ H a=some (.int k x))(hb:ev ρ H b=some (.int k y)):ev ρ H (.bin (.cmp .eql) a b)=some (.bool (decide (x=y))):=by simp[ha,hb]
theorem eE{ρ:Nat->Option Value}{n off B:Nat}{v:Value}(h2:ρ n=some (.pointer (some ⟨B,0,none⟩)))(hc:ag H (Addr.add ⟨B,0,none⟩ off)=some v):ev ρ H (.un .load (.un (.fld off) (.tmp n)))=some v:=by simp[h2];simpa using hc
theorem tz{a b:aU}{h:Heap}{W:View}(hW:W.le (vw h))(ha:Rd W va a)(hb:Rd W vb b):
  aj Tryz.prog N.cW #[va,vb] h (fun u h'=>u = .bool (pG a b)/\(vw h).le (vw h')):=by
 refine ah (args:=[va,vb]) follows F.cW E.cW (Dv (by kernel_rfl)) fun K hK=>?_;dsimp only[L.cW];have c0:=Cx.start hW;refine aa fun z hz=>?_;simp;refine c0.cS rfl ha fun A h1 W1 hW1 c1 at1 hle1=>?_;refine c1.cS rfl (hb.mono hW1) fun B h2 W2 hW2 c2 at2 hle2=>?_;have at1:=at1.mono hW2
 subst hz;have a0:=ab c2.wle (at1.part aU.pM).int;have a1:=ab c2.wle (at1.part aU.Dr).int;have a2:=ab c2.wle (at1.part aU.Ds).int;have a3:=ab c2.wle (at1.part aU.CM).int;have a4:=ab c2.wle (at1.part aU.Dn).int;have a5:=ab c2.wle (at1.part aU.Dp).int;have b0:=ab c2.wle (at2.part aU.pM).int;have b1:=ab c2.wle (at2.part aU.Dr).int;have b2:=ab c2.wle (at2.part aU.Ds).int;have b3:=ab c2.wle (at2.part aU.CM).int;have b4:=ab c2.wle (at2.part aU.Dn).int;have b5:=ab c2.wle (at2.part aU.Dp).int;obtain⟨ua,ka,sa⟩:=(at1.part aU.fm).sl;obtain⟨ub,kb,sb⟩:=(at2.part aU.fm).sl;refine aa fun z hz=>?_;generalize hc:(E.ite (E.ite (E.ite (E.ite (E.ite (E.ite _ _ _) _ _) _ _) _ _) _ _) _ _)=c;have a6:=ab c2.wle (at1.part aU.iy).i32
 have b6:=ab c2.wle (at2.part aU.iy).i32;have hcv : ∀ρ:Nat->Option Value,ρ 2=some (.pointer (some ⟨A,0,none⟩))->ρ 3=some (.pointer (some ⟨B,0,none⟩))->ev ρ (vw h2) c=some (.bool (decide (a.op=b.op)&&decide (a.d=b.d)&&decide (a.e=b.e)&&decide (a.a=b.a)&&decide (a.b=b.b)&&decide (a.c=b.c)&&decide (a.imm.v=b.imm.v))):=fun ρ r2 r3=>by rw[<-hc];exact mX (mX (mX (mX (mX (mX (lA (eE r2 a0) (eE r3 b0)) fun _=>(lA (eE r2 a1) (eE r3 b1))) fun _=>(lA (eE r2 a2) (eE r3 b2))) fun _=>(lA (eE r2 a3) (eE r3 b3))) fun _=>(lA (eE r2 a4) (eE r3 b4))) fun _=>(lA (eE r2 a5) (eE r3 b5))) fun _=>(lA (eE r2 a6) (eE r3 b6))
 have hka:=ab c2.wle ka;have hkb:=ab c2.wle kb;simp at hka hkb;have key:pG a b=((decide (a.op=b.op)&&decide (a.d=b.d)&&decide (a.e=b.e)&&decide (a.a=b.a)&&decide (a.b=b.b)&&decide (a.c=b.c)&&decide (a.imm.v=b.imm.v))&&decide (a.args=b.args)):=rfl;rw[key]at hK;clear key;generalize (decide (a.op=b.op)&&decide (a.d=b.d)&&decide (a.e=b.e)&&decide (a.a=b.a)&&decide (a.b=b.b)&&decide (a.c=b.c)&&decide (a.imm.v=b.imm.v))=q at hcv hK;clear hc a0 a1 a2 a3 a4 a5 a6 b0 b1 b2 b3 b4 b5 b6;cases q with
 | false=>simp[hcv];subst hz;simp;exact hK _ _ ⟨rfl,c2.le0⟩
 | true=>simp[hcv,hka,hkb];refine af (by kernel_rfl) (vW (sa.mono c2.wle) (sb.mono c2.wle)) ?_;rintro _ h3 ⟨rfl,rfl⟩;subst hz;simp;exact hK _ _ ⟨by rw[ET],c2.le0⟩
theorem sQ{a b:List aU}{h:Heap}{W:View}(hW:W.le (vw h))(ha:SlRd W va a)(hb:SlRd W vb b):
  aj Tryz.prog N.bV #[va,vb] h (fun u h'=>u = .bool (decide (a=b))/\(vw h).le (vw h')):=by
 refine ah (args:=[va,vb]) follows F.bV E.bV (Dv (by kernel_rfl)) fun K hK=>?_;have hbd:=ha.bound;have c0:=Cx.start hW;dsimp only[L.bV];refine aa fun z hz=>?_;simp;subst hz;refine aa fun z hz=>?_;by_cases hl:a.length=b.length
 ·have hl':(a.length:Int)=b.length:=by omega
  simp[ha.len,hb.len,hl'];subst hz;refine aa fun z hz=>?_;simp;refine re [0,1,4,5] (fun(_:Unit) i=>[va,vb,.bool false,.int .i64 i]) (fun _ i h3=>(∃W3,W.le W3/\Cx W h W3 h3 fun _=>none)/\∀j,j<i->nth a j=nth b j) a.length ()
   rfl (by omega) rfl ⟨⟨W,View.le_refl _,c0⟩,fun j hj=>by omega⟩ (fun _ _=>rfl) (fun v k h3 hk m=>by simp[ha.len]) ?_ ?_
  ·rintro _ i h3 hlti ⟨⟨W3,hW3,c3⟩,hpre⟩ K2 hK2;obtain⟨ua,hua,rua⟩:=(ha.mono hW3).wh rfl (N:=8) rfl hlti;obtain⟨ub,hub,rub⟩:=(hb.mono hW3).wh rfl (N:=8) rfl (i:=i) (by omega);refine aa fun y hy=>?_;refine bR W3 c3.wle ?_;simp(disch:=omega)[(ha.mono hW3).idxn (N:=8) rfl,(hb.mono hW3).idxn (N:=8) rfl,hua _ (View.le_refl _),hub _ (View.le_refl _)];refine af (by kernel_rfl) (tz c3.wle rua rub) ?_;rintro _ h4 ⟨rfl,hle4⟩;have c4:=c3.ext hle4;have e:pG (nth a i) (nth b i)=decide (nth a i=nth b i):=DQ.2 (by rw[xk,decide_eq_true_iff]);by_cases e2:nth a i=nth b i
   ·have e':pG (nth a i) (nth b i)=true:=by rw[e,decide_eq_true e2]
    simp[e'];subst hy;simp;refine hK2 () _ _ rfl rfl ⟨⟨_,View.le_trans hW3 c3.up,c4⟩,fun j hj=>?_⟩;rcases DA j i with q | q
    ·exact hpre j q
    have:j=i:=by omega
    subst this;exact e2
   have e':pG (nth a i) (nth b i)=false:=by rw[e,decide_eq_false e2]
   simp[e'];subst hy;simp;exact hK _ _ ⟨by rw[decide_eq_false];rintro rfl;exact e2 rfl,c4.le0⟩
  rintro _ h3 ⟨⟨W3,hW3,c3⟩,hpre⟩;have he:a=b:=EA hl fun j h1 h2=>by have:=hpre j h1;rwa [aq h1,aq h2]at this
  simp;subst hz;simp;exact hK _ _ ⟨by rw[decide_eq_true he],c3.le0⟩
 have hl':¬(a.length:Int)=b.length:=by omega
 simp[ha.len,hb.len,hl'];exact hK _ _ ⟨by rw[decide_eq_false];rintro rfl;exact hl rfl,View.le_refl _⟩
theorem vV{op dst two:Int}{l:List Int}{imm:I32}(h1:I64 op)(h2:I64 dst)(h3:I64 two)(h4:SlRd H va l)(h5:-2147483648<=imm.v/\imm.v<=2147483647):Rd H (.agg #[.int .i64 op,.int .i64 dst,.int .i64 two,va,.int .i32 imm.v]) (InsD.mk op dst two l imm):=
 ⟨_,rfl,[.int .i64 op],_,rfl,⟨rfl,h1⟩,[.int .i64 dst],_,rfl,⟨rfl,h2⟩,[.int .i64 two],_,rfl,⟨rfl,h3⟩,[va],_,rfl,⟨va,rfl,h4⟩,rfl,h5⟩
theorem zV{vp vi vt:Value}{p:List PhiD}{i:List InsD}{a t:List Int}{kd:Int}{imm:I32}(h1:SlRd H vp p)(h2:SlRd H vi i)(h3:SlRd H va a)(h4:SlRd H vt t)(h5:I64 kd)(h6:-2147483648<=imm.v/\imm.v<=2147483647):Rd H (.agg #[vp,vi,.int .i64 kd,va,vt,.int .i32 imm.v]) (BlkD.mk p i ⟨kd,a,t,imm⟩):=
 ⟨_,rfl,[vp],_,rfl,⟨vp,rfl,h1⟩,[vi],_,rfl,⟨vi,rfl,h2⟩,[.int .i64 kd],_,rfl,⟨rfl,h5⟩,[va],_,rfl,⟨va,rfl,h3⟩,[vt],_,rfl,⟨vt,rfl,h4⟩,rfl,h6⟩
theorem tu{p:Int}{l:List BlkD}(h1:I64 p)(h2:SlRd H vb l):Rd H (.agg #[.int .i64 p,vb]) (ae.mk p l):=
 ⟨_,rfl,[.int .i64 p],_,rfl,⟨rfl,h1⟩,vb,rfl,h2⟩
theorem SlRd.ex{α:Type}[Rep α]{v:Value}{l:List α}(s:SlRd H v l): ∃a n c,v = .slice a n c:=let ⟨a,c,e,_⟩:=s;⟨a,_,c,e⟩
def twoF:ae:=⟨2,[⟨[],[⟨1,2,0,[],⟨5⟩⟩,⟨2,3,0,[1,2],⟨0⟩⟩],⟨4,[3],[],⟨0⟩⟩⟩]⟩
theorem Bk{h:Heap}{W:View}(hW:W.le (vw h)):aj Tryz.prog N.eB #[] h (fun u h'=>(vw h).le (vw h')/\Rd (grow W h h') u twoF):=by
 refine ah (args:=[]) follows F.eB E.eB (Dv (by kernel_rfl)) fun K hK=>?_;dsimp only[L.eB];have c0:=Cx.start hW;refine aa fun z hz=>?_;simp;refine c0.cU (k:=(0,0)) (n:=1) (z:=.agg #[.int .i64 0,.slice none 0 0]) rfl (by kernel_rfl) rfl (by decide) (by simp[Value.cells,Value.oneCell']) fun R h1 hle1 c1=>?_;subst hz;refine aa fun z hz=>?_;simp;refine an (t:=T.fk) (z:=.agg #[.int .i64 0,.int .i64 0,.int .i64 0,.slice none 0 0,.int .i32 0]) (places:=[(0,1),(1,1),(2,1),(3,1),(4,1)]) (vs:=[(0,.int .i64 1),(1,.int .i64 2),(4,.int .i32 5)]) (cs:=#[.int .i64 1,.int .i64 2,.int .i64 0,.slice none 0 0,.int .i32 5]) (by kernel_rfl) (by kernel_rfl) (by simp) (by rfl) ?_;refine c1.jh (α:=Int) (vs:=[.int .i64 1,.int .i64 2]) (ds:=[1,2]) El.ck (by kernel_rfl) ⟨bh.2 ⟨rfl,by decide⟩,bh.2 ⟨rfl,by decide⟩,trivial⟩ rfl (by decide) (by decide) fun u2 h2 W2 hW2 c2 s2 hle2=>?_;obtain⟨b2,n2,k2,rfl⟩:=SlRd.ex s2;refine an (t:=T.fk) (z:=.agg #[.int .i64 0,.int .i64 0,.int .i64 0,.slice none 0 0,.int .i32 0]) (places:=[(0,1),(1,1),(2,1),(3,1),(4,1)]) (vs:=[(0,.int .i64 2),(1,.int .i64 3),(3,(.slice b2 n2 k2))]) (cs:=#[.int .i64 2,.int .i64 3,.int .i64 0,(.slice b2 n2 k2),.int .i32 0]) (by kernel_rfl) (by kernel_rfl) (by simp) (by simp[Instr.fill,Value.cells]) ?_;refine c2.jh (α:=InsD) (vs:=[.agg #[.int .i64 1,.int .i64 2,.int .i64 0,.slice none 0 0,.int .i32 5],.agg #[.int .i64 2,.int .i64 3,.int .i64 0,(.slice b2 n2 k2),.int .i32 0]]) (ds:=[⟨1,2,0,[],⟨5⟩⟩,⟨2,3,0,[1,2],⟨0⟩⟩]) El.mV (by simp) ⟨vV ⟨by decide,by decide⟩ ⟨by decide,by decide⟩ ⟨by decide,by decide⟩ aF (by decide),vV ⟨by decide,by decide⟩ ⟨by decide,by decide⟩ ⟨by decide,by decide⟩ s2 (by decide),trivial⟩ rfl (by decide) (by decide) fun u3 h3 W3 hW3 c3 s3 hle3=>?_;obtain⟨b3,n3,k3,rfl⟩:=SlRd.ex s3;refine c3.jh (α:=Int) (vs:=[.int .i64 3]) (ds:=[3]) El.ck (by kernel_rfl) ⟨bh.2 ⟨rfl,by decide⟩,trivial⟩ rfl (by decide) (by decide) fun u4 h4 W4 hW4 c4 s4 hle4=>?_;obtain⟨b4,n4,k4,rfl⟩:=SlRd.ex s4;refine an (t:=T.zk) (z:=.agg #[.int .i64 0,.slice none 0 0,.slice none 0 0,.int .i32 0]) (places:=[(0,1),(1,1),(2,1),(3,1)]) (vs:=[(0,.int .i64 4),(1,(.slice b4 n4 k4))]) (cs:=#[.int .i64 4,(.slice b4 n4 k4),.slice none 0 0,.int .i32 0]) (by kernel_rfl) (by kernel_rfl) (by simp) (by simp[Instr.fill,Value.cells]) ?_;refine an (t:=T.qp) (z:=.agg #[.slice none 0 0,.slice none 0 0,.int .i64 0,.slice none 0 0,.slice none 0 0,.int .i32 0]) (places:=[(0,1),(1,1),(2,4)]) (vs:=[(1,(.slice b3 n3 k3)),(2,.agg #[.int .i64 4,(.slice b4 n4 k4),.slice none 0 0,.int .i32 0])]) (cs:=#[.slice none 0 0,(.slice b3 n3 k3),.int .i64 4,(.slice b4 n4 k4),.slice none 0 0,.int .i32 0]) (by kernel_rfl) (by kernel_rfl) (by simp) (by simp[Instr.fill,Value.cells]) ?_;refine c4.jh (α:=BlkD) (vs:=[.agg #[.slice none 0 0,(.slice b3 n3 k3),.int .i64 4,(.slice b4 n4 k4),.slice none 0 0,.int .i32 0]]) (ds:=twoF.blocks) El.jZ (by simp) ⟨zV aF (s3.mono hW4) s4 aF ⟨by decide,by decide⟩ (by decide),trivial⟩ rfl (by decide) (by decide) fun u5 h5 W5 hW5 c5 s5 hle5=>?_;obtain⟨b5,n5,k5,rfl⟩:=SlRd.ex s5;refine an (t:=T.ig) (z:=.agg #[.int .i64 0,.slice none 0 0]) (places:=[(0,1),(1,1)]) (vs:=[(0,.int .i64 2),(1,(.slice b5 n5 k5))]) (cs:=#[.int .i64 2,(.slice b5 n5 k5)]) (by kernel_rfl) (by kernel_rfl) (by simp) (by simp[Instr.fill,Value.cells]) ?_;refine c5.bC (α:=ae) (k:=(0,0)) (n:=1) (by rfl) (tu (p:=2) ⟨by decide,by decide⟩ s5) rfl rfl (by kernel_rfl) (by simp) (by simp) fun h6 l6 hl6 c6=>?_;subst hz;have hall:=c6.all (k:=(0,0)) (n:=1) (l:=l6) (B:=R) (e:=T.ig) (by rfl)
 simp at hall;simp[hall];refine hK _ _ ⟨c6.le0,?_⟩;rw[<-hl6];exact(tu (p:=2) ⟨by decide,by decide⟩ s5).mono c6.fin
theorem xo:jz twoF=true:=by kernel_rfl
theorem rQ:SmF twoF:=by
 refine⟨by decide,fun i hi=>?_⟩;have hi:i<1:=hi;obtain rfl:i=0:=by omega
 refine⟨by decide,by decide,by decide,by decide,fun j hj=>absurd hj (Nat.not_lt_zero _),fun j hj=>?_⟩;have hj:j<2:=hj;rcases j with _ | _ | j
 ·decide
 ·decide
 omega
theorem qL: ∀i∈dr twoF,i.op=15\/i.op=16->jt:=by intro i hi ho;have:dr twoF=[⟨1,2,0,[],⟨5⟩⟩,⟨2,3,0,[1,2],⟨0⟩⟩]:=rfl;rw[this]at hi;simp at hi;rcases hi with rfl | rfl<;>simp at ho
theorem yh:Down twoF (whS twoF):=z7 (kI xo) rQ (by intro i hi;have:dr twoF=[⟨1,2,0,[],⟨5⟩⟩,⟨2,3,0,[1,2],⟨0⟩⟩]:=rfl;rw[this]at hi;simp at hi;rcases hi with rfl | rfl<;>simp)
theorem BJ:fa twoF 0 1 16=some ⟨[1],[2],[⟨18,3,0,1,0,0,⟨5⟩,[]⟩],dJ⟩:=by kernel_rfl
theorem CB:fa twoF 0 1 3=some ⟨[1,2],[],[⟨5,3,0,1,2,0,⟨0⟩,[]⟩],dJ⟩:=by kernel_rfl
theorem BG:fa twoF 0 1 17=none:=by kernel_rfl
theorem zF:gD twoF 0 1 16 9=some ⟨[1],[2],[⟨18,3,0,1,0,0,⟨5⟩,[]⟩],dJ⟩:=by kernel_rfl
theorem Bz:gD twoF 0 2 0 9=some ⟨[3],[],[],⟨7,3,0,[],⟨0⟩⟩⟩:=by kernel_rfl
theorem Aa:eh [⟨1,0⟩,⟨38,0⟩]=(20,1):=by kernel_rfl
theorem Bx:fj [⟨1,0⟩] twoF=(21,0,2):=by kernel_rfl
theorem Ay:fj [⟨16,0⟩] twoF=(0,0,0):=by kernel_rfl
theorem BB:mL 16=⟨#[97,100,100,105]⟩:=by kernel_rfl
theorem two'{h:Heap}:aj Tryz.prog N.eB #[] h (fun u h'=>(vw h).le (vw h')/\Rd (vw h') u twoF):=
 (Bk (View.le_refl _)).mono fun u h' ⟨h1,h2⟩=>⟨h1,h2.mono (iJ h1)⟩
theorem uv{a:List Int}{h:Heap}(ha:SlRd (vw h) va a)(hb:SlRd (vw h) vb a):aj Tryz.prog N.dh #[va,vb] h (fun u h'=>u = .bool true/\h'=h):=
 (vW ha hb).mono fun u h' ⟨h1,h2⟩=>⟨by rw[h1,decide_eq_true rfl],h2⟩
theorem Ba{a:List aU}{h:Heap}(ha:SlRd (vw h) va a)(hb:SlRd (vw h) vb a):aj Tryz.prog N.bV #[va,vb] h (fun u h'=>u = .bool true/\(vw h).le (vw h')):=
 (sQ (View.le_refl _) ha hb).mono fun u h' ⟨h1,h2⟩=>⟨by rw[h1,decide_eq_true rfl],h2⟩
theorem nu{v:Value}{pat:Int}{h:Heap}(hv:Rd (vw h) v twoF)(hp:I64 pat){r:Option FitD}(hr:fa twoF 0 1 pat=r):
  aj Tryz.prog N.dT #[v,.int .i64 0,.int .i64 1,.int .i64 pat] h (fun u h'=>(vw h).le (vw h')/\∃v1 v2,u = .tuple #[v1,v2,.bool r.isSome]/\SlRd (vw h') v1 (wu r)/\SlRd (vw h') v2 (wT r)):=by rw[<-hr];exact yo (View.le_refl _) hv rQ qL hp
theorem tJ{v:Value}{p pat:Int}{h:Heap}(hv:Rd (vw h) v twoF)(hp:I64 pat){r:Option FitD}(hr:gD twoF 0 p pat 9=r):
  aj Tryz.prog N.ey #[v,.int .i64 0,.int .i64 p,.int .i64 pat,.int .i64 9] h (fun u h'=>(vw h).le (vw h')/\∃v1 v2,u = .tuple #[v1,v2,.bool r.isSome]/\SlRd (vw h') v1 (y7 r)/\Rd (vw h') v2 (AI r)):=by rw[<-hr];exact Ai (View.le_refl _) hv rQ qL hp ⟨by decide,by decide⟩
theorem pC{l:List bP}{vl v:Value}{h:Heap}(hl:SlRd (vw h) vl l)(hv:Rd (vw h) v twoF)(ht:Tab h){r:Int × Int × Int}(hr:fj l twoF=r):
  aj Tryz.prog N.aW #[vl,v] h (fun u h'=>(vw h).le (vw h')/\u = .tuple #[.int .i64 r.1,.int .i64 r.2.1,.int .i64 r.2.2]):=by rw[<-hr];exact wX (View.le_refl _) hl hv rQ ht qL fun _=>yh
theorem xz{h:Heap}(ht:Tab h):aj Tryz.prog N.dI #[] h (fun u h'=>(vw h).le (vw h')/\u = .bool true):=by
 refine ah (args:=[]) follows F.dI E.dI (Dv (by kernel_rfl)) fun K hK=>?_;dsimp only[L.dI];refine aa fun z hz=>?_;simp;subst hz;refine aa fun z hz=>?_;simp;refine af (by kernel_rfl) two' ?_;rintro u26 h1 ⟨le1,r1⟩;refine af (by kernel_rfl) (nu r1 ⟨by decide,by decide⟩ BJ) ?_;rintro _ h2 ⟨le2,va,vb,rfl,sa,sb⟩;simp;subst hz;refine aa fun z hz=>?_;simp;refine af (by kernel_rfl) two' ?_;rintro u32 h3 ⟨le3,r3⟩;refine af (by kernel_rfl) (nu r3 ⟨by decide,by decide⟩ CB) ?_;rintro _ h4 ⟨le4,vc,vd,rfl,sc,sd⟩;simp;subst hz;refine aa fun z hz=>?_;simp;refine af (by kernel_rfl) two' ?_;rintro u38 h5 ⟨le5,r5⟩;refine af (by kernel_rfl) (nu r5 ⟨by decide,by decide⟩ BG) ?_;rintro _ h6 ⟨le6,ve,vf,rfl,se,sf⟩;simp;subst hz;refine aa fun z hz=>?_;simp;refine af (by kernel_rfl) two' ?_;rintro u44 h7 ⟨le7,r7⟩;refine af (by kernel_rfl) (tJ r7 ⟨by decide,by decide⟩ zF) ?_;rintro _ h8 ⟨le8,vg,vh,rfl,sg,sh⟩;simp;refine dc (X:=vw h8) (z:=.agg endZ.toArray) (by kernel_rfl) rfl (by kernel_rfl) sh (fun _=>by simp) (fun _=>by simp) fun h9 le9 _ _=>?_;subst hz;refine aa fun z hz=>?_;simp;refine af (by kernel_rfl) two' ?_;rintro u50 h10 ⟨le10,r10⟩;refine af (by kernel_rfl) (tJ r10 ⟨by decide,by decide⟩ Bz) ?_;rintro _ h11 ⟨le11,vi,vj,rfl,si,sj⟩;simp;refine dc (X:=vw h11) (z:=.agg endZ.toArray) (by kernel_rfl) rfl (by kernel_rfl) sj (fun _=>by simp) (fun _=>by simp) fun h12 le12 _ at12=>?_;have at12:At (vw h12) ⟨h11.size,0,none⟩ (⟨7,3,0,[],⟨0⟩⟩:EndD):=at12 (vw h12) le12 rfl;have e0:=(at12.part EndD.pM).int;have e1:=(at12.part EndD.CM).int;generalize h11.size=B at e0 e1;simp at e0 e1;subst hz;have la:(vw h).le (vw h12):=View.le_trans le1 (View.le_trans le2 (View.le_trans le3 (View.le_trans le4 (View.le_trans le5 (View.le_trans le6 (View.le_trans le7 (View.le_trans le8 (View.le_trans le9 (View.le_trans le10 (View.le_trans le11 le12))))))))));refine aa fun z hz=>?_;simp;refine an (t:=T.fI) (z:=.agg #[.int .i64 0,.int .i64 0]) (places:=[(0,1),(1,1)]) (vs:=[(0,.int .i64 1)]) (cs:=#[.int .i64 1,.int .i64 0]) (by kernel_rfl) (by kernel_rfl) (by simp) (by rfl) ?_;refine an (t:=T.fI) (z:=.agg #[.int .i64 0,.int .i64 0]) (places:=[(0,1),(1,1)]) (vs:=[(0,.int .i64 38)]) (cs:=#[.int .i64 38,.int .i64 0]) (by kernel_rfl) (by kernel_rfl) (by simp) (by rfl) ?_;refine gm (α:=bP) (ds:=[⟨1,0⟩,⟨38,0⟩]) (vs:=[.agg #[.int .i64 1,.int .i64 0],.agg #[.int .i64 38,.int .i64 0]]) (X:=nothing) El.ft (by simp) ⟨mc ⟨by decide,by decide⟩ ⟨by decide,by decide⟩,mc ⟨by decide,by decide⟩ ⟨by decide,by decide⟩,trivial⟩ rfl (by decide) (by decide) fun u58 h13 le13 _ s13 _=>?_;have s13:=s13 (vw h13) bO rfl
 have t13:Tab h13:=ht.mono (View.le_trans la le13);refine af (by kernel_rfl) (kS (View.le_refl _) s13 t13) ?_;rw[Aa];rintro _ h14 ⟨le14,rfl⟩;simp;subst hz;refine aa fun z hz=>?_;simp;refine an (t:=T.fI) (z:=.agg #[.int .i64 0,.int .i64 0]) (places:=[(0,1),(1,1)]) (vs:=[(0,.int .i64 1)]) (cs:=#[.int .i64 1,.int .i64 0]) (by kernel_rfl) (by kernel_rfl) (by simp) (by rfl) ?_;refine gm (α:=bP) (ds:=[⟨1,0⟩]) (vs:=[.agg #[.int .i64 1,.int .i64 0]]) (X:=nothing) El.ft (by simp) ⟨mc ⟨by decide,by decide⟩ ⟨by decide,by decide⟩,trivial⟩ rfl (by decide) (by decide) fun u64 h15 le15 _ s15 _=>?_;have s15:=s15 (vw h15) bO rfl
 refine af (by kernel_rfl) two' ?_;rintro u65 h16 ⟨le16,r16⟩;refine af (by kernel_rfl) (pC (s15.mono le16) r16 (t13.mono (View.le_trans le14 (View.le_trans le15 le16))) Bx) ?_;rintro _ h17 ⟨le17,rfl⟩;simp;subst hz;refine aa fun z hz=>?_;simp;refine an (t:=T.fI) (z:=.agg #[.int .i64 0,.int .i64 0]) (places:=[(0,1),(1,1)]) (vs:=[(0,.int .i64 16)]) (cs:=#[.int .i64 16,.int .i64 0]) (by kernel_rfl) (by kernel_rfl) (by simp) (by rfl) ?_;refine gm (α:=bP) (ds:=[⟨16,0⟩]) (vs:=[.agg #[.int .i64 16,.int .i64 0]]) (X:=nothing) El.ft (by simp) ⟨mc ⟨by decide,by decide⟩ ⟨by decide,by decide⟩,trivial⟩ rfl (by decide) (by decide) fun u72 h18 le18 _ s18 _=>?_;have s18:=s18 (vw h18) bO rfl;refine af (by kernel_rfl) two' ?_;rintro u73 h19 ⟨le19,r19⟩;have l1219:(vw h12).le (vw h19):=View.le_trans le13 (View.le_trans le14 (View.le_trans le15 (View.le_trans le16 (View.le_trans le17 (View.le_trans le18 le19)))));refine af (by kernel_rfl) (pC (s18.mono le19) r19 (ht.mono (View.le_trans la l1219)) Ay) ?_;rintro _ h20 ⟨le20,rfl⟩;have l1220:=View.le_trans l1219 le20;simp;subst hz;refine aa fun z hz=>?_;have l212:(vw h2).le (vw h12):=View.le_trans le3 (View.le_trans le4 (View.le_trans le5 (View.le_trans le6 (View.le_trans le7 (View.le_trans le8 (View.le_trans le9 (View.le_trans le10 (View.le_trans le11 le12))))))))
 have l412:(vw h4).le (vw h12):=View.le_trans le5 (View.le_trans le6 (View.le_trans le7 (View.le_trans le8 (View.le_trans le9 (View.le_trans le10 (View.le_trans le11 le12))))));have l812:(vw h8).le (vw h12):=View.le_trans le9 (View.le_trans le10 (View.le_trans le11 le12));have sa:=(sa.mono l212).mono l1220;have sb:=(sb.mono l212).mono l1220;have sc:=(sc.mono l412).mono l1220;have sd:=(sd.mono l412).mono l1220;have sg:=(sg.mono l812).mono l1220;have e0:=ab l1220 e0;have e1:=ab l1220 e1;have la:=View.le_trans la l1220;clear le1 le2 le3 le4 le5 le6 le7 le8 le9 le10 le11 le12 le13 le14 le15 le16 le17 le18 le19 le20 l212 l412 l812 l1219 l1220;refine qq fun y hy=>?_;simp;refine gm (α:=Int) (ds:=[1]) (vs:=[.int .i64 1]) (X:=nothing) El.ck (by kernel_rfl) ⟨bh.2 ⟨rfl,by decide⟩,trivial⟩ rfl (by decide) (by decide) fun u79 h21 le21 _ s21 _=>?_;have s21:=s21 (vw h21) bO rfl
 subst hy;refine dL fun y hy=>?_;simp;refine af (by kernel_rfl) (uv (sa.mono le21) s21) ?_;rintro _ h21 ⟨rfl,rfl⟩;subst hy;refine dL fun y hy=>?_;simp;refine gm (α:=Int) (ds:=[2]) (vs:=[.int .i64 2]) (X:=nothing) El.ck (by kernel_rfl) ⟨bh.2 ⟨rfl,by decide⟩,trivial⟩ rfl (by decide) (by decide) fun u83 h22 le22 _ s22 _=>?_;have s22:=s22 (vw h22) bO rfl;subst hy;refine dL fun y hy=>?_;simp;refine af (by kernel_rfl) (uv (sb.mono (View.le_trans le21 le22)) s22) ?_;rintro _ h22 ⟨rfl,rfl⟩;subst hy;refine dL fun y hy=>?_;simp;refine gm (α:=Int) (ds:=[1,2]) (vs:=[.int .i64 1,.int .i64 2]) (X:=nothing) El.ck (by kernel_rfl) ⟨bh.2 ⟨rfl,by decide⟩,bh.2 ⟨rfl,by decide⟩,trivial⟩ rfl (by decide) (by decide) fun u91 h23 le23 _ s23 _=>?_;have s23:=s23 (vw h23) bO rfl
 subst hy;refine dL fun y hy=>?_;simp;refine af (by kernel_rfl) (uv (sc.mono (View.le_trans le21 (View.le_trans le22 le23))) s23) ?_;rintro _ h23 ⟨rfl,rfl⟩;have l23:=View.le_trans le21 (View.le_trans le22 le23);subst hy;have sd':SlRd (vw h23) vd ([]:List Int):=sd.mono l23;have hd:=sd'.len (K:=vw h23);simp at hd;simp[hd];subst hz;refine aa fun z hz=>?_;have sg':SlRd (vw h23) vg [(⟨18,3,0,1,0,0,⟨5⟩,[]⟩:aU)]:=sg.mono l23
 have e0:=ab l23 e0;have e1:=ab l23 e1;have la:=View.le_trans la l23;clear sa sb sc sd sd' sg hd l23 le21 le22 le23 s21 s22 s23;refine qq fun y hy=>?_;simp;refine an (t:=T.sO) (z:=.agg #[.int .i64 0,.int .i64 0,.int .i64 0,.int .i64 0,.int .i64 0,.int .i64 0,.int .i32 0,.slice none 0 0]) (places:=[(0,1),(1,1),(2,1),(3,1),(4,1),(5,1),(6,1),(7,1)]) (vs:=[(0,.int .i64 18),(1,.int .i64 3),(3,.int .i64 1),(6,.int .i32 5)]) (cs:=#[.int .i64 18,.int .i64 3,.int .i64 0,.int .i64 1,.int .i64 0,.int .i64 0,.int .i32 5,.slice none 0 0]) (by kernel_rfl) (by kernel_rfl) (by simp) (by rfl) ?_;subst hy;refine dL fun y hy=>?_;simp;refine gm (α:=aU) (ds:=[⟨18,3,0,1,0,0,⟨5⟩,[]⟩]) (vs:=[.agg #[.int .i64 18,.int .i64 3,.int .i64 0,.int .i64 1,.int .i64 0,.int .i64 0,.int .i32 5,.slice none 0 0]]) (X:=nothing) El.jx (by simp) ⟨iH (by decide) (by decide) aF,trivial⟩ rfl (by decide) (by decide) fun u113 h24 le24 _ s24 _=>?_;have s24:=s24 (vw h24) bO rfl
 subst hy;refine dL fun y hy=>?_;simp;refine af (by kernel_rfl) (Ba (sg'.mono le24) s24) ?_;rintro _ h25 ⟨rfl,le25⟩;have l25:=View.le_trans le24 le25;have e0:=ab l25 e0;have e1:=ab l25 e1;subst hy;refine dL fun y hy=>?_;simp[e0,e1];refine af (by kernel_rfl) (pI (ht.mono (View.le_trans la l25))) ?_;rintro _ h26 ⟨le26,rfl⟩;subst hy;refine dL fun y hy=>?_;simp;refine af (by kernel_rfl) A5 ?_;rintro ua h27 ⟨le27,sall⟩;have hl:=sall.len (K:=vw h27)
 have e37:allT.length=37:=rfl;rw[e37]at hl;have l27:=View.le_trans l25 (View.le_trans le26 le27);subst hy;refine dL fun y hy=>?_;simp[hl];refine af (by kernel_rfl) (wz (pat:=16) (ht.mono (View.le_trans la l27)) ⟨by decide,by decide⟩) ?_;rw[BB];rintro _ h28 ⟨le28,rfl⟩;subst hy;simp[show(Bn.eqS false).ev (.string ⟨#[97,100,100,105]⟩) (.string ⟨#[97,100,100,105]⟩)=some (.bool true) from by kernel_rfl];subst hz;simp;exact hK _ _ ⟨View.le_trans la (View.le_trans l27 le28),rfl⟩
def nJ (v:Value) (l:List bP):Own:=fun k=>if k=(0,0) then it T.fI v l else none
theorem ue{v v':Value}{l l':List bP}{q:Key}:(nJ v l).upd (0,0) (it T.fI v' l') q=nJ v' l' q:=by
 unfold nJ Own.upd;by_cases h1:q=(0,0)
 ·subst h1;rfl
 simp only[h1,if_false]
theorem sT{a b c:Int}(ha:I64 a)(hb:I64 b)(hc:I64 c){h:Heap}(ht:Tab h):aj Tryz.prog N.cn #[.int .i64 a,.int .i64 b,.int .i64 c] h (fun u h'=>u = .bool true/\(vw h).le (vw h')):=by
 refine ah (args:=[.int .i64 a,.int .i64 b,.int .i64 c]) follows F.cn E.cn (Dv (by kernel_rfl)) fun K hK=>?_;dsimp only[L.cn];refine aa fun z hz=>?_;simp;subst hz;refine aa fun z hz=>?_;simp;refine af (by kernel_rfl) (xz ht) ?_;rintro _ h1 ⟨le1,rfl⟩;have ht1:=ht.mono le1;obtain⟨r1,e1,l1⟩:=AO (x:=a);obtain⟨r2,e2,l2⟩:=AO (x:=b);obtain⟨n,hn⟩ : ∃n:Nat,n=1+r1 % 1100:=⟨_,rfl⟩;obtain⟨p,hp⟩ : ∃p:Nat,p=1+r2 % 37:=⟨_,rfl⟩;have n1:1<=n/\n<=1100:=by omega
 have p1:1<=p/\p<=37:=by omega
 have wn:IntKind.i64.wrap (1+(r1:Int).tmod 1100)=(n:Int):=by rw[show(r1:Int).tmod 1100=((r1 % 1100:Nat):Int) from rfl,cj (by omega) (by omega)];omega
 have wp:IntKind.i64.wrap (1+(r2:Int).tmod 37)=(p:Int):=by rw[show(r2:Int).tmod 37=((r2 % 37:Nat):Int) from rfl,cj (by omega) (by omega)];omega
 subst hz;refine aa fun z hz=>?_;simp[e1,wn];subst hz;refine aa fun z hz=>?_;simp[e2,wp];clear wn wp e1 e2 hn hp l1 l2;subst hz;refine aa fun z hz=>?_;simp;refine qZ (α:=bP) (k:=.i64) (W:=vw h1) (n:=n) (d:=⟨0,0⟩) El.ft (by simp) (by simp) ⟨[.int .i64 0],[.int .i64 0],rfl,⟨rfl,by decide⟩,rfl,by decide⟩ (by omega) (by omega) fun v h2 o2 _ le2 hb2=>?_;have w2:Owns (vw h1) h2 (nJ v (rows (fun _=>(⟨p,0⟩:bP)) 0++List.replicate (n-0) ⟨0,0⟩)):=((Owns.start (h:=h1) (View.le_refl (vw h1))).add (k:=(0,0)) rfl o2 le2 (fun b hb=>by rw[hb2]at hb;cases hb;exact Dy _)).congr fun q=>by
  unfold nJ Own.upd;by_cases h1:q=(0,0)
  ·subst h1;rfl
  simp only[h1,if_false]
 subst hz;refine aa fun z hz=>?_;simp;refine re [0,1,2,6,7,8,9] (fun(_:Unit) k=>[.int .i64 n,.int .i64 p,.int .i64 c,.bool false,.bool true,v,.int .i64 k])
  (fun _ k h3=>Owns (vw h1) h3 (nJ v (rows (fun _=>(⟨p,0⟩:bP)) k++List.replicate (n-k) ⟨0,0⟩))) n ()
  rfl (by omega) rfl w2 (fun _ _=>rfl) (fun v k h3 hk _=>by simp) ?_ ?_
 ·rintro _ k h3 hk w3 K2 hK2;have s3:=w3.now (k:=(0,0)) (v:=v) (l:=rows (fun _=>(⟨p,0⟩:bP)) k++List.replicate (n-k) ⟨0,0⟩) rfl;simp(disch:=(first | omega | (simp;omega))) [s3.idxn (N:=2) rfl];refine w3.od (k:=(0,0)) (α:=bP) bP.wy (v:=v) (l:=rows (fun _=>(⟨p,0⟩:bP)) k++List.replicate (n-k) ⟨0,0⟩) (i:=k) (d:=(p:Int)) rfl (by kernel_rfl) rfl rfl (by simp;omega) (bh.2 ⟨rfl,by constructor<;>omega⟩) fun h4 w4 _=>?_;refine hK2 () _ _ rfl rfl (w4.congr fun q=>?_);rw[ue];have e:(rows (fun _=>(⟨p,0⟩:bP)) k++List.replicate (n-k) ⟨0,0⟩)[k]'(by simp;omega)=(⟨0,0⟩:bP):=by rw[FW (by simp)];simp
  rw[e,mf hk]
 rintro _ h3 w3;have hl0:rows (fun _=>(⟨p,0⟩:bP)) n++List.replicate (n-n) ⟨0,0⟩=rows (fun _=>(⟨p,0⟩:bP)) n:=by simp
 rw[hl0]at w3;obtain⟨l,hl⟩ : ∃l,l=rows (fun _=>(⟨p,0⟩:bP)) n:=⟨_,rfl⟩;have hll:l.length=n:=by rw[hl];simp
 have hat : ∀i,(hi:i<l.length)->l[i]=⟨p,0⟩:=fun i hi=>by subst hl;simp[rows]
 have hgood : ∀k,∀t∈l.take k,bF t=0:=fun k t ht=>by obtain⟨i,hi,rfl⟩:=DO (List.mem_of_mem_take ht);rw[hat i hi];unfold bF;simp[inR];omega
 rw[<-hl]at w3;clear hl hl0;simp;subst hz;refine aa fun z hz=>?_;have s3:=w3.now (k:=(0,0)) (v:=v) (l:=l) rfl;have hN:((n:Int)-1).toNat=n-1:=by omega
 have wn1:IntKind.i64.wrap ((n:Int)-1)=(n:Int)-1:=cj (by omega) (by omega);simp(disch:=omega)[s3.idxn (N:=2) rfl,wn1,hN];refine w3.od (k:=(0,0)) (α:=bP) bP.zr (v:=v) (l:=l) (i:=n-1) (d:=c) rfl (by kernel_rfl) rfl rfl (by omega) (bh.2 ⟨rfl,hc⟩) fun h4 w4 _=>?_;rw[hat _ (by omega)]at w4;have w4:Owns (vw h1) h4 (nJ v (l.set (n-1) ⟨p,c⟩)):=w4.congr fun q=>ue.symm
 have s4:=w4.now (k:=(0,0)) (v:=v) (l:=l.set (n-1) ⟨p,c⟩) rfl;subst hz;refine aa fun z hz=>?_;simp;refine af (by kernel_rfl) (kS (View.le_refl _) s4 (ht1.mono w4.wle)) ?_;rintro _ h5 ⟨le5,rfl⟩;have w5:=w4.ext le5
 simp;subst hz;have tab : ∀t:bP,n<=1024->bF t≠0->eh (l.set (n-1) t)=(bF t,(n:Int)-1):=fun t hn hne=>by
  unfold eh;have hk:nth (l.set (n-1) t) (n-1)=t:=by rw[aq (by simp;omega)];simp
  rw[if_neg (by simp;omega),lL (k:=n-1) (by simp;omega) (fun t' ht'=>by rw[E5 (Dy _)]at ht';exact hgood _ _ ht') (by rw[hk];exact hne),hk];congr 1;omega
 have tab0 : ∀t:bP,n<=1024->bF t=0->eh (l.set (n-1) t)=(0,0):=fun t hn he=>by
  unfold eh;rw[if_neg (by simp;omega)];refine jQ fun t' ht'=>?_;rcases E4 ht' with h | rfl
  ·exact hgood l.length t' (by rw[Ep];exact h)
  exact he
 refine aa fun z hz=>?_;by_cases c1:1024<n
 ·have e:eh (l.set (n-1) ⟨p,c⟩)=(2,0):=by unfold eh;rw[if_pos (by simp;omega)]
  have c1':(1024:Int)<n:=by omega
  simp[c1',e];exact hK _ _ ⟨rfl,View.le_trans le1 (View.le_trans (dg w4.wle) w5.wle)⟩
 have c1':¬(1024:Int)<n:=by omega
 by_cases c2:c<0
 ·have eb:bF ⟨(p:Int),c⟩=22:=by unfold bF inR;simp;omega
  have e:=tab ⟨p,c⟩ (by omega) (by rw[eb];decide);rw[eb]at e;simp[c1',c2,e,wn1];exact hK _ _ ⟨rfl,View.le_trans le1 (View.le_trans (dg w4.wle) w5.wle)⟩
 by_cases c3:1000<c
 ·have eb:bF ⟨(p:Int),c⟩=22:=by unfold bF inR;simp;omega
  have e:=tab ⟨p,c⟩ (by omega) (by rw[eb];decide);rw[eb]at e;simp[c1',c2,c3,e,wn1];exact hK _ _ ⟨rfl,View.le_trans le1 (View.le_trans (dg w4.wle) w5.wle)⟩
 have eb:bF ⟨(p:Int),c⟩=0:=by unfold bF inR;simp;omega
 have e:=tab0 ⟨p,c⟩ (by omega) eb;simp[c1',c2,c3,e];subst hz;refine aa fun z hz=>?_;have s5:=w5.now (k:=(0,0)) (v:=v) (l:=l.set (n-1) ⟨p,c⟩) rfl
 have wp1:IntKind.i64.wrap (37+(p:Int))=37+(p:Int):=cj (by omega) (by omega);simp(disch:=(first | omega | (simp;omega))) [s5.idxn (N:=2) rfl,wn1,hN,wp1];refine w5.od (k:=(0,0)) (α:=bP) bP.wy (v:=v) (l:=l.set (n-1) ⟨p,c⟩) (i:=n-1) (d:=37+(p:Int)) rfl (by kernel_rfl) rfl rfl (by simp;omega) (bh.2 ⟨rfl,by constructor<;>omega⟩) fun h6 w6 _=>?_;have eg:(l.set (n-1) ⟨(p:Int),c⟩)[n-1]'(by simp;omega)=(⟨p,c⟩:bP):=by simp
 rw[eg,List.set_set]at w6;have w6:Owns _ h6 (nJ v (l.set (n-1) ⟨37+(p:Int),c⟩)):=w6.congr fun q=>ue.symm;have s6:=w6.now (k:=(0,0)) (v:=v) (l:=l.set (n-1) ⟨37+(p:Int),c⟩) rfl
 subst hz;refine aa fun z hz=>?_;simp;refine af (by kernel_rfl) (kS (View.le_refl _) s6 (ht1.mono (View.le_trans (dg w4.wle) w6.wle))) ?_;have eb6:bF ⟨37+(p:Int),c⟩=20:=by unfold bF inR;simp;omega
 have e6:=tab ⟨37+(p:Int),c⟩ (by omega) (by rw[eb6];decide);rw[eb6]at e6;rw[e6];rintro _ h7 ⟨le7,rfl⟩;simp;subst hz;simp[wn1];exact hK _ _ ⟨rfl,View.le_trans le1 (View.le_trans (View.le_trans (dg w4.wle) w6.wle) le7)⟩
section
open Go Go.Lft Go.ChangeShapes Go.WideShapes Go.ChangeAt Go.RowKit
theorem Tryz.ix:Tryz.f8.params = #[T.int,T.int,T.int]:=by kernel_rfl
theorem n0(os:Os)(started:os.Started)(H:Type)(enc:TypeId × Value->H):
  ReturnsInHanded {} Tryz.checked os 8 .any (fun w args=>(Rows.tileManySpec.pre enc Tryz.prog Tryz.f8 [] false w args/\laidMetH Tryz.prog sP w)/\sizedMet enc Tryz.prog Tryz.f8 (OpenSpec.ofChange Rows.tileManySpec) false w args) (Rows.tileManySpec.post enc Tryz.prog Tryz.f8 false true false false):=
 Cd (C:=Tryz.checked) (X:=fun w=>laidMetH Tryz.prog sP w) (F:=Tab) (fun _ _ hh h=>h.of_heap hh) (fun _ h=>tq h) Tryz.own started (by kernel_rfl) Tryz.func8 rfl
  (ChangeSpec.witness_shaped (enc:=enc) (C:=Tryz.checked) (os:=os) (X:=fun w _=>laidMetH Tryz.prog sP w) false (World.doorLaid Tryz.prog 400 os) #[.int .i64 0,.int .i64 0,.int .i64 0] 8 rfl (World.shaped_of_RefB (by kernel_rfl) (by kernel_rfl)) (by kernel_rfl) (by kernel_rfl) (by kernel_rfl) (za os _))
  Tryz.laidOut (fun t ht=>by rw[Tryz.ix]at ht;simp only[DL,FC,or_false]at ht;rcases ht with rfl | rfl | rfl<;>exact⟨by kernel_rfl,of_decide_eq_true (by kernel_rfl)⟩) rfl
  (fun ds hds=>by
   match ds,hds with
   | [a,b,c],_=>rfl) rfl (tb:=4) (by kernel_rfl) Tryz.ix rtI rtI rtI fun h v1 x1 v2 x2 v3 x3 ht h1 h2 h3=>by rw[(bh.1 h1).1,(bh.1 h2).1,(bh.1 h3).1];exact sT (bh.1 h1).2 (bh.1 h2).2 (bh.1 h3).2 ht
theorem rz:Rows.TileManySaid:=
 OpenClaim.holds_of_wide 8 Tryz.f8 rfl rfl rfl rfl rfl rfl rfl ⟨rfl,rfl,rfl,rfl,rfl⟩ rfl rfl rfl rfl rfl (by kernel_rfl) Tryz.func8 (by kernel_rfl)
  (of_decide_eq_true (by kernel_rfl)) (by unfold Func.isWrapper;first | (rw[if_pos (by decide +kernel)];kernel_rfl) | (rw[if_neg (by decide +kernel)];exact⟨rfl,rfl⟩))
  (fun os started H enc _=>n0 os started H enc)
theorem tilemany_holds:Rows.TileManyCardSaid:=
 Claim7.holds_tied_plain_at .later [] [.listed,.data] true Rows.tileManyCard.stood.harness true
  rz (fun _ h=>by cases h) (by kernel_rfl) (fun _ h=>by cases h) tileMany_row_tie rfl ⟨rfl,rfl⟩ (by kernel_rfl) rfl
  (fun f fn hf hfn=>by
   obtain rfl : f = 8 := Option.some.inj ((show Tryz.prog.funcNamed "jacquard/jacquardlaw06.TileMany" = some 8 by kernel_rfl).symm.trans hf) |>.symm;obtain rfl:fn=Tryz.f8:=(Option.some.inj (Tryz.func8.symm.trans hfn)).symm;exact⟨by kernel_rfl,fun j t ht=>by
    rw[Tryz.ix]at ht;have hm:t∈[T.int,T.int,T.int]:=by simpa using Array.mem_of_getElem? ht
    have hall:([T.int,T.int,T.int].all fun u=>!Tryz.prog.wantsStandIn u)=true:=by kernel_rfl
    exact(show Tryz.prog.wantsStandIn t=false by simpa using D3.1 hall t hm)⟩)
  (by kernel_rfl)
end
end Go.Proofs.YtnfiilgdjpdlkaaGreatDoor
