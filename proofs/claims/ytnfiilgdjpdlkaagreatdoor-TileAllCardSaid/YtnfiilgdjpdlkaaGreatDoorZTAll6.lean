/- A part of the proof: ShelfF, Oo, Ub, Op, Oq, Or, Os, Qi, Ot, Ou, Nb, Qh, Nc, Nd. -/
import Derived.Test.YtnfiilgdjpdlkaaGreatDoorZTAll5
import Derived.Shelf.Strings.Fields
import Derived.Test.YtnfiilgdjpdlkaaGreatDoorRows
import Derived.Lib.LaidTab
import Derived.LaidMore
set_option linter.unusedSimpArgs false
set_option linter.unusedVariables false
namespace Go.Proofs
open Go.Shelf
def Tryz.kO:Go.Shelf.Ren:=⟨fun | 157=>41 | 229=>65 | 199=>66 | 261=>114 | 311=>136 | 312=>137 | n=>n,fun | 9=>9 | 31=>105 | 3=>3 | 5=>5 | 4=>4 | 119=>140 | 0=>0 | 40=>142 | 152=>176 | 21=>21 | 154=>178 | 51=>151 | 141=>180 | 196=>204 | 193=>201 | 198=>207 | 49=>205 | 194=>202 | 201=>210 | 226=>220 | 46=>76 | 227=>221 | n=>n,fun | 0=>0 | 6=>1 | n=>n⟩
theorem Tryz.Gw:Go.Proofs.Lays.n157 Tryz.prog Tryz.kO:={
 mixed:=by kernel_rfl
 f157:=Tryz.func41.trans (congrArg some Ya)
 f199:=Tryz.func66.trans (congrArg some Ya)
 f229:=Tryz.func65.trans (congrArg some Ya)
 f261:=Tryz.func114.trans (congrArg some Ya)
 f311:=Tryz.func136.trans (congrArg some Ya)
 f312:=Tryz.func137.trans (congrArg some Ya)
 t0:=Tryz.underlying0
 a0:=Tryz.isAgg0
 z0:=Tryz.sizeOf0
 v0:=Tryz.zeroValue0
 t3:=Tryz.underlying3
 a3:=Tryz.isAgg3
 z3:=Tryz.sizeOf3
 v3:=Tryz.zeroValue3
 t4:=Tryz.underlying4
 a4:=Tryz.isAgg4
 z4:=Tryz.sizeOf4
 v4:=Tryz.zeroValue4
 t5:=Tryz.underlying5
 a5:=Tryz.isAgg5
 z5:=Tryz.sizeOf5
 v5:=Tryz.zeroValue5
 t9:=Tryz.underlying9
 a9:=Tryz.isAgg9
 z9:=Tryz.sizeOf9
 v9:=Tryz.zeroValue9
 t21:=Tryz.underlying21
 a21:=Tryz.isAgg21
 z21:=Tryz.sizeOf21
 v21:=Tryz.zeroValue21
 t31:=Tryz.underlying105
 a31:=Tryz.isAgg105
 z31:=Tryz.sizeOf105
 v31:=Tryz.zeroValue105
 t40:=Tryz.underlying142
 a40:=Tryz.isAgg142
 z40:=Tryz.sizeOf142
 v40:=Tryz.zeroValue142
 t46:=Tryz.underlying76
 a46:=Tryz.isAgg76
 z46:=Tryz.sizeOf76
 v46:=Tryz.zeroValue76
 t49:=Tryz.underlying205
 a49:=Tryz.isAgg205
 z49:=Tryz.sizeOf205
 v49:=Tryz.zeroValue205
 t51:=Tryz.underlying151
 a51:=Tryz.isAgg151
 z51:=Tryz.sizeOf151
 v51:=Tryz.zeroValue151
 t119:=Tryz.underlying140
 a119:=Tryz.isAgg140
 z119:=Tryz.sizeOf140
 t141:=Tryz.underlying180
 a141:=Tryz.isAgg180
 z141:=Tryz.sizeOf180
 v141:=Tryz.zeroValue180
 t152:=Tryz.underlying176
 a152:=Tryz.isAgg176
 z152:=Tryz.sizeOf176
 v152:=Tryz.zeroValue176
 t154:=Tryz.underlying178
 a154:=Tryz.isAgg178
 z154:=Tryz.sizeOf178
 v154:=Tryz.zeroValue178
 t193:=Tryz.underlying201
 a193:=Tryz.isAgg201
 z193:=Tryz.sizeOf201
 v193:=Tryz.zeroValue201
 t194:=Tryz.underlying202
 a194:=Tryz.isAgg202
 z194:=Tryz.sizeOf202
 v194:=Tryz.zeroValue202
 t196:=Tryz.underlying204
 a196:=Tryz.isAgg204
 z196:=Tryz.sizeOf204
 v196:=Tryz.zeroValue204
 t198:=Tryz.underlying207
 a198:=Tryz.isAgg207
 z198:=Tryz.sizeOf207
 v198:=Tryz.zeroValue207
 t201:=Tryz.underlying210
 a201:=Tryz.isAgg210
 z201:=Tryz.sizeOf210
 v201:=Tryz.zeroValue210
 t226:=Tryz.underlying220
 a226:=Tryz.isAgg220
 z226:=Tryz.sizeOf220
 v226:=Tryz.zeroValue220
 t227:=Tryz.underlying221
 a227:=Tryz.isAgg221
 z227:=Tryz.sizeOf221
 v227:=Tryz.zeroValue221
 g0:=by kernel_rfl
 g6:=by kernel_rfl }
end Go.Proofs
namespace Go.Lft
open Go
structure StrD where
 v:ByteArray
instance:Rep StrD where
 n:=1
 agg:=false
 rd:=λ_ cs d=>cs=[.string d.v]
 mono:=λ_ h=>h
 len:=λh=>by rw[h];rfl
 one:=λ_=>rfl
 flat:=λh u hu=>by rw[h]at hu;simp at hu;subst hu;rfl
 pos:=OB
 fM:=λh=>h
theorem At.str {H:View} {a:Addr} {d:StrD} (h:At H a d):ao H a=some (.string d.v):=by
 obtain⟨u,h1,h2⟩:=h.load rfl;have:u = .string d.v:=by unfold Rd at h2;simpa[Rep.agg,Rep.rd]using h2
 rw[this]at h1;exact h1
end Go.Lft
namespace Go.Proofs.YtnfiilgdjpdlkaaGreatDoor
open Go Go.Lft
def Tab (h:Heap):Prop:=∀c:Nat,c<256->ao (vw h) ⟨Tryz.kO.g 0,c,none⟩=some (.int .u8 (if Lib.isSp (UInt8.ofNat c) then 1 else 0))
theorem Tab.mono {h h':Heap} (t:Tab h) (hle:(vw h).le (vw h')):Tab h':=λc hc=>ae hle (t c hc)
theorem JO {w:World} {b o:Nat} {v:Value} (h:ao (vw w.heap) ⟨b,o,none⟩=some v):w.cell? ⟨b,o,none⟩=some v:=by
 unfold ao at h;unfold World.cell?;simp only[vw]at h;cases hb:w.heap[b]? with
 | none=>rw[hb]at h;simp at h
 | some x=>rw[hb]at h;cases x<;>simp_all
def fieldsD (s:ByteArray):List StrD:=(Lib.fields s.data.toList).map λl=>⟨⟨l.toArray⟩⟩
theorem xH {s:ByteArray} {h:Heap} (ht:Tab h) (hs:s.size<4294967281) (ha : ∀(j:Nat) b,s.data.toList[j]? = some b->b.toNat<128) (hn:(fieldsD s).length<=1000000) :
  az Tryz.prog N.strings_Fields #[.string s] h (λu h'=>(vw h).le (vw h')/\SlRd (vw h') u (fieldsD s)):=by
 intro w hw;subst hw;refine Calls.mono (Any.strings_Fields_core (P:=Tryz.prog) (ρ:=Tryz.kO) Tryz.Gw Ya s w hs ha λc hc=>JO (ht c hc)) ?_;rintro e w' ⟨rfl,rfl⟩;refine⟨_,rfl,⟨bV _ _,?_⟩,iD _ _⟩;have hl:(fieldsD s).length=(Lib.fields s.data.toList).length:=by simp[fieldsD]
 refine⟨some ⟨w.heap.size,0,none⟩,(Lib.fields s.data.toList).length,by rw[hl],by omega,by omega,.inr ⟨_,rfl,rfl,λi hi=>?_⟩⟩;have hi':i<(Lib.fields s.data.toList).length:=by omega
 rw[bN rfl];refine⟨[.string ⟨(Lib.fields s.data.toList)[i].toArray⟩],⟨_,_,_,rfl,World.alloc_heap_new w _,?_⟩,?_⟩
 ·have hn1:Rep.n StrD=1:=rfl;rw[hn1,MA,MR];show List.take 1 (List.drop i ((Lib.fields s.data.toList).map λl=>Value.string ⟨l.toArray⟩))=_;rw[LU (by simpa using hi')];simp
 show[Value.string _]=[Value.string _];simp[fieldsD]
def mK:ByteArray:=⟨#[108,105,32,108,105,119,32,97,100,100,32,115,117,98,32,109,117,108,32,97,110,100,32,111,114,32,120,111,114,32,115,104,108,32,115,104,114,32,115,97,114,32,101,113,32,108,116,32,108,116,117,32,100,105,118,32,97,100,100,105,32,115,117,98,105,32,97,110,100,105,32,115,104,108,105,32,115,104,114,105,32,115,97,114,105,32,109,97,100,100,32,108,100,32,108,100,97,32,108,100,120,32,108,100,108,32,115,116,32,115,116,97,32,115,116,120,32,115,116,108,32,99,97,108,108,32,109,117,108,119,32,98,110,122,32,98,101,113,32,98,108,116,32,98,108,116,117,32,106,116]⟩
def pN (pat:Int):ByteArray:=if 1<=pat/\pat<=37 then((fieldsD mK).getD (pat-1).toNat ⟨⟨#[]⟩⟩).v else⟨#[]⟩
theorem j0:(fieldsD mK).length=37:=by kernel_rfl
theorem tq : ∀(j:Nat) b,mK.data.toList[j]? = some b->b.toNat<128:=by
 have h:mK.data.toList.all (λb=>decide (b.toNat<128))=true:=by kernel_rfl
 exact λj b hb=>by simpa using L6.1 h b (L8 hb)
theorem Bl:(fieldsD mK).all (λs=>!(s.v.toList == (⟨#[]⟩:ByteArray).toList))=true:=by kernel_rfl
instance:Inhabited StrD:=⟨⟨⟨#[]⟩⟩⟩
theorem yV {pat:Int}:((pN pat).toList == (⟨#[]⟩:ByteArray).toList)=!inR pat 1 37:=by
 unfold pN;by_cases h:1<=pat/\pat<=37
 ·rw[if_pos h];have hlt:(pat-1).toNat<(fieldsD mK).length:=by rw[j0];omega
  have:=L6.1 Bl _ (LX hlt);rw[NR,LY hlt,O2];have e:inR pat 1 37=true:=by simp[inR,h.1,h.2]
  rw[e];simpa using this
 rw[if_neg h];have e:inR pat 1 37=false:=by unfold inR;simpa using h
 rw[e];exact beq_self_eq_true _
theorem uD {pat:Int}:(pN pat).toList.isEmpty=!inR pat 1 37:=by have h:=yV (pat:=pat);rw[show(⟨#[]⟩:ByteArray).toList=[] by kernel_rfl]at h;rw[<-h];cases (pN pat).toList<;>rfl
theorem yG {pat:Int} {h:Heap} (ht:Tab h) (hp:I64 pat):az Tryz.prog N.iR #[.int .i64 pat] h (λu h'=>(vw h).le (vw h')/\u = .string (pN pat)):=by
 refine aw (args:=[.int .i64 pat]) follows F.iR E.iR (Lm Ya) λK hK=>?_;dsimp only[L.iR,lkF,lkG];refine ab λz hz=>?_;simp;subst hz;refine ab λz hz=>?_;simp;refine ah Ya (xH (s:=mK) ht (of_decide_eq_true Ya) tq (by rw[j0];decide)) ?_;rintro u h1 ⟨hle,hu⟩;have hl:=hu.len (K:=vw h1);rw[j0]at hl;subst hz;refine ab λz hz=>?_;by_cases c1:pat<1
 ·simp[c1];exact hK _ _ ⟨hle,by unfold pN;rw[if_neg Yb]⟩
 by_cases c2:37<pat
 ·simp[c1,hl,c2];exact hK _ _ ⟨hle,by unfold pN;rw[if_neg Yb]⟩
 have hlt:(pat-1).toNat<(fieldsD mK).length:=by rw[j0];omega
 have hx:=hu.idx1 (k:=.i64) (i:=pat-1) rfl Yb (by rw[j0];omega);have hc:=(hu.at hlt).str;rw[show(pat-1).toNat*Rep.n StrD=(pat-1).toNat from MA _]at hc;have et:(pat-1).toNat=pat.toNat-1:=by omega
 have hc:ao (vw h1) ((slA u).add (pat.toNat-1))=some (.string ((fieldsD mK)[(pat-1).toNat]).v):=by rw[<-et];exact hc
 have ew:IntKind.i64.wrap (pat-1)=pat-1:=bZ (by have:=hp.1;omega) (by have:=hp.2;omega);simp[c1,hl,c2];subst hz;simp[ew,hx,hc];refine hK _ _ ⟨hle,?_⟩;unfold pN;rw[if_pos Yb,NR,LY hlt,O2];simp only[et]
theorem pS {h:Heap} (ht:Tab h):az Tryz.prog N.eX #[] h (λu h'=>(vw h).le (vw h')/\u = .int .i64 37):=by refine aw (args:=[]) follows F.eX E.eX (Lm Ya) λK hK=>?_;dsimp only[L.eX,lkF,lkG];refine ab λz hz=>?_;simp;subst hz;refine ab λz hz=>?_;simp;refine ah Ya (xH (s:=mK) ht (of_decide_eq_true Ya) tq (by rw[j0];decide)) ?_;rintro u h1 ⟨hle,hu⟩;have hl:=hu.len (K:=vw h1);rw[j0]at hl;simp[hl];subst hz;simp;exact hK _ _ ⟨hle,rfl⟩
def eY (t:eW):Int:=if inR t.pat 1 37=false then 20 else if inR t.cost 0 1000=false then 22 else 0
def lu:Nat->List eW->Int × Int
 | _,[]=>(0,0)
 | n,t::l=>if eY t=0 then lu (n+1) l else(eY t,n)
def jr (l:List eW):Int × Int:=if 1024<l.length then(2,0) else lu 0 l
theorem td : ∀{l:List eW} {n:Nat},(∀t∈l,eY t=0)->lu n l=(0,0)
 | [],_,_=>rfl
 | t::l,n,h=>by unfold lu;rw[if_pos (h t (LA ..))];exact td λt ht=>h t (LB _ ht)
theorem tS : ∀{l:List eW} {n k:Nat},(hk:k<l.length)->(∀t∈l.take k,eY t=0)->eY (nth l k)≠0->lu n l=(eY (nth l k),((n+k:Nat):Int))
 | t::l,n,0,_,_,h=>by unfold lu;have h:eY t≠0:=h;rw[if_neg h];rfl
 | t::l,n,k+1,hk,h1,h2=>by unfold lu;rw[if_pos (h1 t Sa)];have h2':eY (nth l k)≠0:=h2;have:=tS (n:=n+1) (k:=k) (by simpa using hk) (λt ht=>h1 t (by simp[ht])) h2';rw[this];have e:nth (t::l) (k+1)=nth l k:=rfl;rw[e,show n+1+k=n+(k+1) by omega]
theorem rI {l:List eW} {v:Value} {h:Heap} {W:View} (hW:W.le (vw h)) (hv:SlRd W v l) (ht:Tab h):az Tryz.prog N.dN #[v] h (λu h'=>(vw h).le (vw h')/\u = .tuple #[.int .i64 (jr l).1,.int .i64 (jr l).2]):=by
 refine aw (args:=[v]) follows F.dN E.dN (Lm Ya) λK hK=>?_;dsimp only[L.dN,lkF,lkG];have c0:=Cx.start hW;have hl:=hv.len (K:=vw h);have bd:=hv.bound;refine ab λz hz=>?_;simp;subst hz;refine ab λz hz=>?_;by_cases c:(1024:Int)<l.length
 ·simp[hl,c];exact hK _ _ ⟨View.le_refl _,by unfold jr;rw[if_pos Yb]⟩
 simp[hl,c];subst hz;refine ab λz hz=>?_;simp[hl];refine aS [0,9,10,11] (fun(_:Unit) k=>[v,v,.int .i64 l.length,.int .i64 k])
  (λ_ k h1=>(∀t∈l.take k,eY t=0)/\∃W1,W.le W1/\Cx W h W1 h1 λ_=>none) l.length ()
  rfl Yb rfl ⟨by simp,W,View.le_refl _,c0⟩ (λ_ _=>rfl) (λv i h1 hk m=>by simp) ?_ ?_
 ·rintro _ k h1 hk ⟨hb,W1,hW1,c1⟩ K2 hK2;obtain⟨ut,hut,rut⟩:=(hv.mono hW1).wh rfl (N:=2) rfl hk;refine ab λy hy=>?_;simp(disch:=omega)[((hv.mono hW1).mono c1.wle).idxn (N:=2) rfl,hut _ c1.wle];refine c1.eu (α:=eW) rut (n:=2) (z:=.agg #[.int .i64 0,.int .i64 0]) Ya rfl rfl Ya (λ_=>by simp) (λ_=>by simp) λB h2 W2 hW2 c2 at2 hle2=>?_;have q0:=(at2.part eW.Fz);have q1:=(at2.part eW.E5);have r0:=q0.rng;have q0:ao W2 ⟨B,0,none⟩=some (.int .i64 (nth l k).pat):=by simpa using q0.int
  have q1:ao W2 ⟨B,1,none⟩=some (.int .i64 (nth l k).cost):=by simpa using q1.int
  have ht2:=ht.mono c2.le0;have hbk:eY (nth l k)≠0->jr l=(eY (nth l k),(k:Int)):=λhne=>by unfold jr;rw[if_neg Yb,tS hk hb hne,MR]
  have htk:eY (nth l k)=0->∀t∈l.take (k+1),eY t=0:=λhe t hm=>by
   rw[LG hk,Lt,Lx,<-aC hk]at hm;rcases hm with hm | rfl
   ·exact hb t hm
   exact he
  generalize nth l k=tl at *;subst hy;simp only[aN];refine ab λy hy=>?_;simp[ae c2.wle q0];refine ah Ya (yG ht2 ⟨by omega,by omega⟩) ?_;rintro _ h3 ⟨hle3,rfl⟩;have c3:=c2.ext hle3;have hW3:=c2.up (h':=h3);subst hy;cases e1:inR tl.pat 1 37 with
  | false=>
   have e2:eY tl=20:=by unfold eY;rw[if_pos e1]
   have e3:=hbk (by rw[e2];decide);simp[Bo,uD,e1];exact hK _ _ ⟨c3.le0,by rw[e3,e2]⟩
  | true=>
   simp[Bo,uD,e1];simp[ae (View.le_trans hW3 c3.wle) q1];refine ah Ya js ?_;rintro _ h3 ⟨rfl,rfl⟩;cases e4:inR tl.cost 0 1000 with
   | false=>
    have e2:eY tl=22:=by unfold eY;rw[if_neg (by simp[e1]),if_pos e4]
    have e3:=hbk (by rw[e2];decide);simp;exact hK _ _ ⟨c3.le0,by rw[e3,e2]⟩
   | true=>
    have e2:eY tl=0:=by unfold eY;rw[if_neg (by simp[e1]),if_neg (by simp[e4])]
    simp;exact hK2 () _ _ rfl rfl ⟨htk e2,_,View.le_trans hW1 (View.le_trans hW2 hW3),c3⟩
 rintro _ h1 ⟨hb,W1,hW1,c1⟩;rw[MM]at hb;simp;subst hz;simp;refine hK _ _ ⟨c1.le0,?_⟩;unfold jr;rw[if_neg Yb,td hb]
end Go.Proofs.YtnfiilgdjpdlkaaGreatDoor
namespace Go.Proofs.YtnfiilgdjpdlkaaGreatDoor
open Go Go.Lft Go.ChangeShapes Go.WideShapes Go.ChangeAt Go.RowKit
abbrev zD : List (String × DataW Unit) := [("unicode.White_Space", Rows.laid_unicode_White_Space), ("strings.asciiSpace", Rows.laid_strings_asciiSpace)]
theorem gSp: Tryz.prog.globalNamed "strings.asciiSpace" = some (Tryz.kO.g 0) := by kernel_rfl
theorem I4:(Rows.laid_strings_asciiSpace:DataW Unit)=Lib.tabData .u8 Lib.asciiSpaceTab:=by kernel_rfl
abbrev spT:TypeId:=140
abbrev spE:TypeId:=5
theorem zh{W:World}(h:laidMetH Tryz.prog zD W):Tab W.heap:=by
 rw[MakeChecks.laidMetH_plain _ _ _ Ya]at h;obtain⟨ps,⟨g0,t0,cs0,f0,p0,q0,hg0,ht0,hv0,hd0,⟨g1,t1,cs1,f1,p1,q1,hg1,ht1,hv1,hd1,_,_⟩,_⟩,_,_⟩:=h;obtain rfl:=Option.some.inj (gSp.symm.trans hg1);have hty:(Tryz.prog.globals[Tryz.kO.g 0]?).map (·.type)=some spT:=by kernel_rfl
 obtain rfl:=Option.some.inj (hty.symm.trans ht1);rw[I4]at hd1;have htab : Lib.TabIs Tryz.prog W "strings.asciiSpace" .u8 Lib.asciiSpaceTab := by unfold Lib.TabIs;rw[hv1,<-Lib.cells_of_tab (n:=256) (e:=spE) Ya Ya Ya Ya hd1]
 intro c hc;have:=htab.cell gSp c (by rw[Lib.asciiSpaceTab_length];exact hc);rw[Lib.asciiSpaceTab_at c hc]at this;obtain⟨-,a,T,fz,h1,h2⟩:=wY this;unfold ao vw;simp only[h1];simpa using h2
theorem FU(os:Os)(args:Array Value):laidMetH Tryz.prog zD ((World.doorLaid Tryz.prog 400 os).forCall (λ_ _=>0) ⟨#[],args,[]⟩).memory:=
 laidMetH_of_parts3 (fuel:=8) (laidMet_of_run' 8 Ya Ya) Ya Ya
section
open Go Go.Lft
abbrev Wh:=Int->Option (Int × Int)
def B8 (can:Int->Int->Bool):Option (Int × Int)->Bool
 | none=>true
 | some w=>can w.1 w.2
def pD (can:Int->Int->Bool) (wh:Wh) (l:List Int):Bool:=l.all λv=>B8 can (wh v)
def FE (can:Int->Int->Bool) (wh:Wh):Option FitD->Bool
 | none=>false
 | some x=>pD can wh x.takes
def canP (f:an) (has:Int->Bool) (wh:Wh) (can:Int->Int->Bool) (b i pat:Int):Bool:=has pat&&FE can wh (tryS (fl f b i 0) pat)
def canS (f:an) (has:Int->Bool) (wh:Wh):Nat->Int->Int->Bool
 | 0,_,_=>false
 | n+1,b,i=>(List.range 38).any λk=>canP f has wh (canS f has wh n) b i (k:Int)
theorem Bg{f:an}{t:dD}{pat:Int}(h:¬(0<=pat/\pat<38)):gu f t pat=none:=by unfold gu;rw[if_neg Yb,if_neg Yb,if_neg Yb,if_neg Yb,if_neg Yb,if_neg Yb]
theorem CQ{s:cu}{pat:Int}(h:¬(0<=pat/\pat<38)):tryS s pat=none:=by
 unfold tryS;split
 ·exact Bg h
 unfold patS;rw[if_neg Yb]
theorem wm{f:an}{has:Int->Bool}{wh:Wh}{n:Nat}{b i:Int}:canS f has wh (n+1) b i=true↔∃pat,canP f has wh (canS f has wh n) b i pat=true:=by
 unfold canS;rw[OA];constructor
 ·rintro⟨k,_,hk⟩;exact⟨_,hk⟩
 rintro⟨pat,hp⟩;by_cases h:0<=pat/\pat<38
 ·refine⟨pat.toNat,M8.2 Yb,?_⟩;rw[LQ h.1];exact hp
 unfold canP at hp;rw[CQ h]at hp;simp[FE]at hp
def twoV (w:Int × Int):Value:=.agg #[.int .i64 w.1,.int .i64 w.2]
structure Cv (W:View) (F H Q C r1 r2:Nat) (f:an) (has:Int->Bool) (wh:Wh):Prop where
 fc:At W ⟨F,0,none⟩ f
 hasR : ∀p,has p=true->I64 p
 hasC:ao W ⟨H,0,none⟩=some (.map (some r1))
 hasM : ∀h,W.le (vw h)->dZ (.int .i64) h r1 (mapB has)
 whC:ao W ⟨Q,0,none⟩=some (.map (some r2))
 whR : ∀v w,wh v=some w->I64 w.1/\I64 w.2
 whM : ∀h,W.le (vw h)->dZ (.int .i64) h r2 (mapE twoV wh)
 can:ao W ⟨C,0,none⟩=some (.func (.func N.bs) #[] #[ptr F,ptr H,ptr Q,ptr C])
theorem Cv.mono {W W':View} {F H Q C r1 r2:Nat} {f:an} {has:Int->Bool} {wh:Wh} (c:Cv W F H Q C r1 r2 f has wh) (h:W.le W'):Cv W' F H Q C r1 r2 f has wh:=
 ⟨c.fc.mono h,c.hasR,ae h c.hasC,λg hg=>c.hasM g (View.le_trans h hg),ae h c.whC,c.whR,λg hg=>c.whM g (View.le_trans h hg),ae h c.can⟩
def Down (f:an) (wh:Wh):Prop:=∀b i pat x v w,dA f b i=true->tryS (fl f b i 0) pat=some x->v∈x.takes->wh v=some w->dA f w.1 w.2=true/\w.2<i
theorem DJ{s:Int->Bool}{u v:Value}(hk:MapKept.IsKey (.int .i64) u)(h:mapB s u=some v): ∃p:Int,u = .int .i64 p/\s p=true/\v = .bool true:=by
 cases u<;>simp[MapKept.IsKey]at hk;rename_i k p;subst hk;rw[zf]at h;split at h
 ·rename_i hs;cases h;exact⟨p,rfl,hs,rfl⟩
 cases h
theorem uV{h h':Heap}{b r:Nat}{left:List (Value × Value)}(m:It h b r left)(hle:(vw h).le (vw h')):It h' b r left:=by
 have l:=m.lt;have e : ∀k,k<h.size->h'[k]? = h[k]?:=λk hk=>by have:=hle k h[k] (LK hk);rw[LK hk];exact this
 exact m.same (e _ l.1) (e _ l.2.1)
theorem EI {f:an} {has:Int->Bool} {wh:Wh} (m:ld f) (hsm:SmF f) (hM : ∀i∈fk f,i.op=15\/i.op=16->lL) (hd:Down f wh) : ∀(n:Nat) {b i:Int} {Fb H Q C r1 r2:Nat} {W:View} {h:Heap},Cv W Fb H Q C r1 r2 f has wh->W.le (vw h)->dA f b i=true->i<n->
  az Tryz.prog N.bs #[.int .i64 b,.int .i64 i,ptr Fb,ptr H,ptr Q,ptr C] h (λu h'=>(vw h).le (vw h')/\u = .bool (canS f has wh n b i))
 | 0,b,i,Fb,H,Q,C,r1,r2,W,h,cv,hW,hpl,hi=>by simp[dA]at hpl;omega
 | n+1,b,i,Fb,H,Q,C,r1,r2,W,h,cv,hW,hpl,hi=>by
  have ih:=@EI f has wh m hsm hM hd n;refine aw (args:=[.int .i64 b,.int .i64 i,ptr Fb,ptr H,ptr Q,ptr C]) follows F.bs E.bs (Lm Ya) λK hK=>?_;dsimp only[L.bs,lkF,lkG];have c0:=Cx.start hW;refine ab λz hz=>?_;simp;subst hz;refine ab λz hz=>?_;obtain⟨uf,huf,ruf⟩:=cv.fc.ldN rfl (N:=2) rfl;have hr:=qE ruf;simp[huf _ hW];refine ah Ya (Ej (b:=b) (p:=i) hW ruf (by constructor<;>decide)) ?_;rintro _ h1 ⟨hle1,vs,rfl,hvs⟩;have c1:=c0.ext hle1;have hW1:=c0.up (h':=h1);have hpS:mJ f b i 0=fl f b i 0:=by unfold mJ;rw[hpl,if_pos rfl]
  rw[hpS]at hvs;simp;refine c1.eu (α:=cu) hvs (n:=13) (z:=.agg nR.toArray) Ya rfl rfl Ya (λ_=>by simp) (λ_=>by simp) λB h2 W2 hW2 c2 at2 hle2=>?_;have cv2:=cv.mono (View.le_trans hW1 hW2);subst hz;refine ab λz hz=>?_;refine ab λy hy=>?_;simp[ae c2.wle cv2.hasC];refine Az U.jn rfl (cv2.hasM h2 c2.wle) λh3 left hle3 hs3 it3 nd3 key3 mem3=>?_;have hall : ∀u v,(u,v)∈left->∃p:Int,u = .int .i64 p/\has p=true:=λu v hu=>by obtain⟨p,e1,e2,-⟩:=DJ (key3 u v hu) ((mem3 u v (key3 u v hu)).1 hu);exact⟨p,e1,e2⟩
  have hrest : ∀p:Int,has p=true->(∃v,(Value.int .i64 p,v)∈left):=λp hp=>⟨.bool true,(mem3 _ _ fK).2 (by rw[zf,hp,if_pos rfl])⟩;have hr3:W2 h2.size=none:=View.df c2.wle (Lp _);have hs0:h.size<=h2.size:=cG c2.le0;have c3:Cx W h W2 h3 λ_=>none:=⟨Owns.start (View.le_trans c2.wle hle3),c2.old,View.le_trans c2.le0 hle3,λ_ _ _ e=>by cases e⟩;obtain⟨r,hr0⟩ : ∃r,r=h2.size:=⟨_,rfl⟩;rw[<-hr0]at it3 hr3 hs0 ⊢;subst hy;simp only[aN];refine jR [0,1,2,3,4,5,9,26] (λmm ρ hx=>∃(left:List (Value × Value)) (Wx:View),mm=left.length/\ρ=[(0,.int .i64 b),(1,.int .i64 i),(2,ptr Fb),(3,ptr H),(4,ptr Q),(5,ptr C),(9,ptr B),(26,ptr r)]/\W2.le Wx/\Cx W h Wx hx (λ_=>none)/\Wx r=none/\It hx r1 r left/\
   (∀u v,(u,v)∈left->∃p:Int,u = .int .i64 p/\has p=true)/\(∀p:Int,has p=true->(∃v,(Value.int .i64 p,v)∈left)\/canP f has wh (canS f has wh n) b i p=false)) left.length
   ⟨left,W2,rfl,rfl,View.le_refl _,c3,hr3,it3,hall,λp hp=>.inl (hrest p hp)⟩ ?_;clear hall hrest it3 nd3 key3 mem3 c3;rintro mm ρ hx ⟨left,Wx,rfl,rfl,lx,cx,hrx,itx,hall,hrest⟩ K2 hK2;refine ab λy hy=>?_;simp;refine AZ rfl itx ?_ ?_
  ·rintro rfl;have hno:canS f has wh (n+1) b i=false:=by
    cases e:canS f has wh (n+1) b i with
    | false=>rfl
    | true=>
     obtain⟨p,hp⟩:=wm.1 e;have hh:has p=true:=by unfold canP at hp;simp at hp;exact hp.1
     rcases hrest p hh with⟨v,hv⟩ | hv
     ·cases hv
     rw[hp]at hv;cases hv
   simp;subst hy;simp;subst hz;simp;exact hK _ _ ⟨cx.le0,by rw[hno]⟩
  intro a p q h4 el hs4 ho4 it4;obtain⟨pat,e1,e2⟩:=hall p.1 p.2 (by rw[el];simp);have hpe:p=(.int .i64 pat,p.2):=by rw[<-e1]
  have le4 : ∀X:View,X.le (vw hx)->X r=none->X.le (vw h4):=λX hX hn b o hb=>by show h4[b]? = some o;rw[ho4 b (by rintro rfl;rw[hn]at hb;cases hb)];exact hX b o hb
  have le04:(vw h).le (vw h4):=λb o hb=>by have hlt:=View.lt (View.le_refl (vw h)) hb;show h4[b]? = some o;rw[ho4 b Yb];exact cx.le0 b o hb
  have hW4:=le4 Wx cx.wle hrx;have c4:Cx W h Wx h4 λ_=>none:=⟨Owns.start hW4,cx.old,le04,λ_ _ _ e=>by cases e⟩;have hrest4 : ∀p:Int,p≠pat->has p=true->(∃v,(Value.int .i64 p,v)∈a++q)\/canP f has wh (canS f has wh n) b i p=false:=λp' hne hp'=>by
   rcases hrest p' hp' with⟨v,hv⟩ | hv
   ·rw[el,Lt,LF]at hv;rcases hv with hv | hv | hv
    ·exact .inl ⟨v,Lt.2 (.inl hv)⟩
    ·rw[hpe]at hv;simp at hv;exact absurd hv.1 hne
    exact .inl ⟨v,Lt.2 (.inr hv)⟩
   exact .inr hv
  have hall4 : ∀u v,(u,v)∈a++q->∃p:Int,u = .int .i64 p/\has p=true:=λu v hu=>hall u v (by rw[el,Lt,LF];rcases Lt.1 hu with hu | hu<;>simp[hu]);have hlen:(a++q).length<left.length:=by rw[el];simp
  have at4:=at2.mono lx;have cv4:=cv2.mono lx;clear hrest hall itx cx;simp;subst hy;refine ab λy hy=>?_;refine aD Sa ?_;simp;subst hy;simp only[aN];refine ab λy hy=>?_;simp;refine E9 rfl it4 ?_;simp[e1];subst hy;refine ab λy hy=>?_;obtain⟨us,hus,rus⟩:=at4.ldN rfl (N:=13) rfl;simp[hus _ c4.wle];refine ah Ya (xW c4.wle rus m hsm hr hM hpl (cv.hasR _ e2)) ?_;rintro _ h5 ⟨hle5,vf,x,rfl,hvf,hxx⟩;have c5:=c4.ext hle5;have hW5:=c4.up (h':=h5);have it5:=uV it4.it hle5;simp;refine eK (X:=grow Wx h4 h5) (α:=FitD) (z:=.agg fitZ.toArray) Ya rfl Ya hvf (λ_=>by simp) (λ_=>by simp) λh6 hle6 hs6 hat6=>?_;have c6:=c5.ext hle6;have hW6:=c5.up (h':=h6);have at6:=hat6 _ hW6 (cI (Lp _));have hr6:grow (grow Wx h4 h5) h5 h6 r=none:=by rw[iU (uV it4.it hle5).lt.2.1,iU it4.it.lt.2.1];exact hrx
  generalize grow (grow Wx h4 h5) h5 h6=W6 at *;generalize h5.size=B3 at *;have it6:=uV it5 hle6;subst hy;refine ab λy hy=>?_;have pt:=(at6.part FitD.BS).sl;obtain⟨vt,k1,s1⟩:=pt;have k1:ao W6 ⟨B3,0,none⟩=some vt:=by simpa using k1
  refine ab λw hw=>?_;simp[ae c6.wle k1,s1.len];subst hw;simp only[aN];have bt:=s1.bound;obtain⟨okS,hok⟩ : ∃okS:Nat->Bool,okS=λj=>(tryS (fl f b i 0) pat).isSome&&pD (canS f has wh n) wh (x.takes.take j):=⟨_,rfl⟩;have ok0:(tryS (fl f b i 0) pat).isSome=okS 0:=by rw[hok];simp[pD]
  have okJ : ∀j,j<x.takes.length->okS (j+1)=(okS j&&B8 (canS f has wh n) (wh (nth x.takes j))):=λj hj=>by rw[hok];simp only[pD];rw[LG hj,List.all_append,aC hj];simp[O8]
  have okE:okS x.takes.length=canP f has wh (canS f has wh n) b i pat:=by
   rw[hok];simp only[MM];unfold canP;rw[e2];cases hq:tryS (fl f b i 0) pat with
   | none=>rfl
   | some y=>rw[hxx y hq];rfl
  have okV : ∀j,j<x.takes.length->okS j=true->∀w,wh (nth x.takes j)=some w->dA f w.1 w.2=true/\w.2<i:=λj hj ho w hw=>by rw[hok]at ho;simp only[Ly]at ho;obtain⟨y,hy⟩:=Nu.1 ho.1;have:=hxx y hy;subst this;exact hd b i pat x _ w hpl hy (cr hj) hw
  rw[ok0];clear hok ok0;refine aS [0,1,2,3,4,5,9,11,12,13,26,38,39,40] (fun(_:Unit) j=>[.int .i64 b,.int .i64 i,ptr Fb,ptr H,ptr Q,ptr C,ptr B,.int .i64 pat,ptr B3,.bool (okS j),ptr r,vt,.int .i64 x.takes.length,.int .i64 j])
   (λ_ j h7=>∃W7,W6.le W7/\Cx W h W7 h7 (λ_=>none)/\W7 r=none/\It h7 r1 r (a++q)) x.takes.length ()
   rfl Yb rfl ⟨W6,View.le_refl _,c6,hr6,it6⟩ (λ_ _=>rfl) (λv i h1 hk m=>by simp) ?_ ?_
  ·rintro _ j h7 hj ⟨W7,lW7,c7,hr7,it7⟩ K3 hK3;have s7:=s1.mono (View.le_trans lW7 c7.wle);have cv7:=(cv4.mono hW5).mono (View.le_trans hW6 lW7);have okj:=okJ j hj;have okv:=okV j hj;refine ab λw hw=>?_;simp(disch:=omega)[s7.idx1 rfl,s7.int (View.le_refl _)];subst hw;generalize nth x.takes j=vv at *;refine ab λw hw=>?_;simp[ae c7.wle cv7.whC];refine mB (f:=mapE twoV wh) (z:=.agg #[.int .i64 0,.int .i64 0]) (k:=T.int) (e:=T.lO) (d:=.int .i64) (r:=r2) (u:=.int .i64 vv) U.gN U.int Ya rfl rfl fK (cv7.whM h7 c7.wle) ?_;have wr:Rd W7 (((wh vv).map twoV).getD (.agg #[.int .i64 0,.int .i64 0])) ((wh vv).getD (0,0)):=by
    cases hv:wh vv with
    | none=>exact oT.2 ⟨rfl,by decide,by decide⟩
    | some w=>exact oT.2 ⟨rfl,(cv7.whR vv w hv).1,(cv7.whR vv w hv).2⟩
   simp;refine eK (X:=W7) (α:=Int × Int) (z:=.agg #[.int .i64 0,.int .i64 0]) Ya rfl Ya wr (λ_=>by simp) (λ_=>by simp) λh8 hle8 hs8 hat8=>?_;have c8:=c7.ext hle8;have hW8:=c7.up (h':=h8);have at8:=hat8 _ hW8 (cI (Lp _));have it8:=uV it7 hle8;have hr8:grow W7 h7 h8 r=none:=by rw[iU it7.lt.2.1];exact hr7
   generalize grow W7 h7 h8=W8 at *;generalize h7.size=B4 at *;subst hw;refine ab λw hw=>?_;cases ho:okS j with
   | false=>rw[ho]at okj;simp;subst hw;simp;exact hK3 () _ _ rfl (by simp[ck,okj]) ⟨W8,View.le_trans lW7 hW8,c8,hr8,it8⟩
   | true=>
    rw[ho]at okj;cases hv:wh vv with
    | none=>rw[hv]at okj;simp;subst hw;simp;exact hK3 () _ _ rfl (by simp[ck,okj,B8]) ⟨W8,View.le_trans lW7 hW8,c8,hr8,it8⟩
    | some ww=>
     rw[hv]at okj at8;obtain⟨g1,g2⟩:=okv ho ww hv;have at8:At W8 ⟨B4,0,none⟩ ww:=at8;obtain⟨cs,q1,q2,-⟩:=at8;have x0:ao W8 ⟨B4,0,none⟩=some (.int .i64 ww.1):=by have:=gJ q1 (i:=0) (v:=.int .i64 ww.1) (by rw[q2];rfl);simpa using this
     have x1:ao W8 ⟨B4,1,none⟩=some (.int .i64 ww.2):=by have:=gJ q1 (i:=1) (v:=.int .i64 ww.2) (by rw[q2];rfl);simpa using this
     have cv8:=cv7.mono hW8;simp;subst hw;have y0:Bn.ev (.aidx 2 1) (.pointer (some ⟨B4,0,none⟩)) (.int .i64 0)=some (.pointer (some ⟨B4,0,none⟩)):=rfl;have y1:Bn.ev (.aidx 2 1) (.pointer (some ⟨B4,0,none⟩)) (.int .i64 1)=some (.pointer (some ⟨B4,1,none⟩)):=rfl;simp[ae c8.wle cv8.can,ae c8.wle x0,ae c8.wle x1,y0,y1];refine cj (ops:=[.tmp 56,.tmp 58]) (caps:=#[ptr Fb,ptr H,ptr Q,ptr C]) rfl Ya (ih (b:=ww.1) (i:=ww.2) cv8 c8.wle g1 Yb) ?_;rintro _ h9 ⟨hle9,rfl⟩;have c9:=c8.ext hle9;have hW9:=c8.up (h':=h9);refine hK3 () _ _ rfl (by simp[ck,okj,B8]) ⟨_,View.le_trans lW7 (View.le_trans hW8 hW9),c9,?_,uV it8 hle9⟩;rw[iU it8.lt.2.1];exact hr8
  rintro _ h7 ⟨W7,lW7,c7,hr7,it7⟩;rw[okE];simp;subst hy;cases hcp:canP f has wh (canS f has wh n) b i pat with
  | true=>have hyes:canS f has wh (n+1) b i=true:=wm.2 ⟨pat,hcp⟩;simp;exact hK _ _ ⟨c7.le0,by rw[hyes]⟩
  | false=>
   simp;refine hK2 (a++q).length _ _ hlen ⟨a++q,W7,rfl,rfl,View.le_trans lx (View.le_trans hW5 (View.le_trans hW6 lW7)),c7,hr7,it7,hall4,λp' hp'=>?_⟩;by_cases hne:p'=pat
   ·exact .inr (hne▸hcp)
   exact hrest4 p' hne hp'
end
end Go.Proofs.YtnfiilgdjpdlkaaGreatDoor
namespace Go.Lft
open Go
theorem AN {po:OP} {P:Program} {ty t e rt:TypeId} {us:List (Nat × Value)} {h:Heap} {K:Value->Heap->Prop} {a b c d:Int} {ki:IntKind} {x y:Operand} (hu:P.underlying t=some (.array 2 e)) (he:P.underlying e=some (.int ki)) (hs:db P e=some 1) (ha:mC P e=some false) (hgd:P.eqGuardType P.depth t=false)
  (hx:asg us x = .agg #[.int ki a,.int ki b]) (hy:asg us y = .agg #[.int ki c,.int ki d]) (hk:K (.bool (a == c&&b == d)) h):@step po P (.binOp .eql t x y rt) ty us h K:=by refine dz (cH λw hw=>⟨_,w,?_,Same.refl _,by rw[hw];exact hk⟩);simp only[bW,execOp,hx,hy];simp[eqGuard,binOp,yU hu he hs ha,program,Sem.run,hgd]
end Go.Lft
namespace Go.Proofs.YtnfiilgdjpdlkaaGreatDoor
open Go Go.Lft
structure Mq (V:View) (h0:Heap) (W:View) (h:Heap) (r:Nat) (g:Value->Option Value):Prop where
 c:Cx V h0 W h λ_=>none
 av:W r=none
 lo:h0.size<=r
 m:dZ (.int .i64) h r g
section
variable {po po2:OP} {V W:View} {h0 h h':Heap} {r:Nat} {g g':Value->Option Value}
theorem Mq.ext (k:Mq V h0 W h r g) (hle:(vw h).le (vw h')):Mq V h0 (grow W h h') h' r g:=⟨k.c.ext hle,by rw[iU k.m.lt];exact k.av,k.lo,k.m.ext hle⟩
theorem Mq.up (k:Mq V h0 W h r g):W.le (grow W h h'):=k.c.up
theorem Mq.wle (k:Mq V h0 W h r g):W.le (vw h):=k.c.wle
theorem Mq.upd (k:Mq V h0 W h r g) (ho : ∀b,b≠r->h'[b]? = h[b]?) (hm:dZ (.int .i64) h' r g'):Mq V h0 W h' r g':=
 ⟨⟨Owns.start λb o hb=>by
   show h'[b]? = some o;rw[ho b (by rintro rfl;rw[k.av]at hb;cases hb)];exact k.wle b o hb,k.c.old,λb o hb=>by
   have hlt:=View.lt (View.le_refl (vw h0)) hb;have:=k.lo;show h'[b]? = some o;rw[ho b Yb];exact k.c.le0 b o hb,λ_ _ _ e=>by cases e⟩,k.av,k.lo,hm⟩
theorem Mq.eu {α:Type} [Rep α] {P:Program} {ty:TypeId} {us:List (Nat × Value)} {t ty2:TypeId} {n:Nat} {z:Value} {x y:Operand} {us2:Value->List (Nat × Value)} {v:Value} {d:α} {K:Value->Heap->Prop} (k:Mq V h0 W h r g) (hv:Rd W v d) (hz:(P.info? t).map (·.zero)=some (some z)) (hN:Rep.n α=n) (hzc:z.cells.size=n) (hsz:db P t=some n)
  (hx : ∀p,asg (us2 p) x=p) (hy : ∀p,asg (us2 p) y=v) (hk : ∀B h' W',W.le W'->Mq V h0 W' h' r g->At W' ⟨B,0,none⟩ d->(vw h).le (vw h')->K (.pointer (some ⟨B,0,none⟩)) h') :
  @Lft.step po P (.alloc t) ty us h λp h2=>@Lft.step po2 P (.store t x y) ty2 (us2 p) h2 λ_ h3=>K p h3:=by subst hN;refine eK (X:=W) hz hzc hsz hv hx hy λh1 hle hs hat=>?_;exact hk _ _ _ k.up (k.ext hle) (hat _ k.up (cI (Lp _))) hle
theorem Mq.freeze (k:Mq V h0 W h r g) : ∃W',W.le W'/\Cx V h0 W' h (λ_=>none)/\(∀g2:Heap,W'.le (vw g2)->dZ (.int .i64) g2 r g):=by
 obtain⟨es,cl,e1,e2⟩:=k.m.ex;have hle:W.le (W.set r (.map es cl)):=λb o hb=>by unfold View.set;rw[if_neg (by rintro rfl;rw[k.av]at hb;cases hb)];exact hb
 have hw:(W.set r (.map es cl)).le (vw h):=λb o hb=>by
  unfold View.set at hb;split at hb
  ·rename_i e;subst e;cases hb;exact e1
  exact k.wle b o hb
 refine⟨_,hle,⟨Owns.start hw,λb o hb hx=>?_,k.c.le0,λ_ _ _ e=>by cases e⟩,λg2 hg2=>⟨es,cl,hg2 r _ (by unfold View.set;rw[if_pos rfl]),e2⟩⟩;unfold View.set at hx;have:=k.lo;rw[if_neg Yb]at hx;exact k.c.old b o hb hx
end
def hasS (l:List eW):Int->Bool:=λp=>decide (p=0)||l.any λt=>decide (t.pat=p)
def kU (f:an) (b k:Nat) (wh:Wh):Wh:=
 if(!decide ((nth (nth f.blocks b).ins k).op=16)&&!decide ((nth (nth f.blocks b).ins k).op=18))&&fO f (nth (nth f.blocks b).ins k).dst then putM wh (nth (nth f.blocks b).ins k).dst ((b:Int),(k:Int)) else wh
def whTo (f:an) (n:Nat):Wh:=Lft.up (λb wh=>Lft.up (kU f b) (nth f.blocks b).ins.length wh) n (λ_=>none)
def whS (f:an):Wh:=whTo f f.blocks.length
theorem wJ {f:an} {n:Nat}:whTo f (n+1)=Lft.up (kU f n) (nth f.blocks n).ins.length (whTo f n):=rfl
theorem qM : ∀{l:List eW} {n:Nat},(lu n l).1=0->∀t∈l,eY t=0
 | [],_,_,t,ht=>by cases ht
 | a::l,n,h,t,ht=>by
  unfold lu at h;split at h
  ·rename_i e;rcases LF.1 ht with rfl | ht
   ·exact e
   exact qM h t ht
  rename_i e;exact absurd h e
theorem C2 {l:List eW} (h:(jr l).1=0) {t:eW} (ht:t∈l):inR t.pat 1 37=true:=by
 unfold jr at h;split at h
 ·cases h
 have:=qM h t ht;unfold eY at this;cases e:inR t.pat 1 37 with
 | true=>rfl
 | false=>rw[if_pos e]at this;cases this
theorem Hw {l:List eW} (h:(jr l).1=0) {p:Int} (hp:hasS l p=true):I64 p:=by
 unfold hasS at hp;simp at hp;rcases hp with rfl | ⟨t,ht,rfl⟩
 ·constructor<;>decide
 have:=C2 h ht;simp[inR]at this;constructor<;>omega
def WhAt (f:an) (v:Int) (w:Int × Int):Prop:=∃b k:Nat,b<f.blocks.length/\k<(nth f.blocks b).ins.length/\w=((b:Int),(k:Int))/\(nth (nth f.blocks b).ins k).dst=v/\(nth (nth f.blocks b).ins k).op≠16/\(nth (nth f.blocks b).ins k).op≠18/\fO f v=true
theorem C1 {f:an} {b k:Nat} {g:Wh} (hb:b<f.blocks.length) (hk:k<(nth f.blocks b).ins.length) (hg : ∀v w,g v=some w->WhAt f v w) : ∀v w,kU f b k g v=some w->WhAt f v w:=by
 intro v w h;unfold kU at h;split at h
 ·rename_i c;simp at c;unfold putM at h;split at h
  ·rename_i e;cases h;exact⟨b,k,hb,hk,rfl,e.symm,c.1.1,c.1.2,e▸c.2⟩
  exact hg v w h
 exact hg v w h
theorem BT {f:an} : ∀{n:Nat},n<=f.blocks.length->∀v w,whTo f n v=some w->WhAt f v w
 | 0,_,v,w,h=>by cases h
 | n+1,hn,v,w,h=>by
  rw[wJ]at h;have key : ∀k,k<=(nth f.blocks n).ins.length->∀v w,Lft.up (kU f n) k (whTo f n) v=some w->WhAt f v w:=by
   intro k;induction k with
   | zero=>exact λ_ v w h=>BT Yb v w h
   | succ k ih=>exact λhk=>C1 Yb Yb (ih Yb)
  exact key _ (Lp _) v w h
theorem Es {f:an} {v:Int} {w:Int × Int} (h:whS f v=some w):WhAt f v w:=BT (Lp _) v w h
theorem Jl {f:an} (hsm:SmF f) {v:Int} {w:Int × Int} (h:whS f v=some w):I64 w.1/\I64 w.2:=by obtain⟨b,k,hb,hk,rfl,-⟩:=Es h;have h1:=hsm.len;have h2:=(hsm.blk b hb).ins;refine⟨⟨?_,?_⟩,?_,?_⟩<;>simp only<;>omega
def nV (f:an) (wh:Wh) (b i:Nat):Bool:=!(decide (i<(nth f.blocks b).ins.length)&&(!decide ((nth (nth f.blocks b).ins i).op=16)&&decide (wh (nth (nth f.blocks b).ins i).dst=some ((b:Int),(i:Int)))))
def rh (f:an) (has:Int->Bool) (b i:Nat):Bool:=nV f (whS f) b i&&!canS f has (whS f) (i+1) b i
def rK (f:an) (has:Int->Bool) (b:Nat):Option Nat:=(List.range ((nth f.blocks b).ins.length+1)).find? (rh f has b)
def lG (f:an) (has:Int->Bool):Option (Nat × Nat):=(List.range f.blocks.length).findSome? λb=>(rK f has b).map λi=>(b,i)
def HI:Option (Nat × Nat)->Int × Int × Int
 | none=>(0,0,0)
 | some w=>(21,w.1,w.2)
def ig (l:List eW) (f:an):Int × Int × Int:=if(jr l).1≠0 then((jr l).1,0,0) else if kY f=false then(1,0,0) else HI (lG f (hasS l))
theorem find_range {p:Nat->Bool} {n i:Nat} (hi:i<n) (h1:(List.range i).find? p=none) (h2:p i=true):(List.range n).find? p=some i:=by obtain⟨d,rfl⟩ : ∃d,n=i+(d+1):=⟨n-i-1,by omega⟩;rw[List.range_add,N8,h1,NB,O4];simp[h2]
theorem uZ {α:Type} {p:Nat->Option α} {n i:Nat} {a:α} (hi:i<n) (h1:(List.range i).findSome? p=none) (h2:p i=some a):(List.range n).findSome? p=some a:=by obtain⟨d,rfl⟩ : ∃d,n=i+(d+1):=⟨n-i-1,by omega⟩;rw[List.range_add,NK,h1,NB,O4];simp[h2]
def Looks (ρ:Env) (l:List (Nat × Value)):Prop:=∀p∈l,Lft.look ρ p.1=some p.2
set_option maxHeartbeats 4000000 in
theorem xA {l:List eW} {f:an} {vl vf:Value} {h:Heap} {W:View} (hW:W.le (vw h)) (hl:SlRd W vl l) (hf:Rd W vf f) (hsm:SmF f) (ht:Tab h) (hM : ∀i∈fk f,i.op=15\/i.op=16->lL) (hd:kY f=true->Down f (whS f)) :
  az Tryz.prog N.aQ #[vl,vf] h (λu h'=>(vw h).le (vw h')/\u = .tuple #[.int .i64 (ig l f).1,.int .i64 (ig l f).2.1,.int .i64 (ig l f).2.2]):=by
 refine aw (args:=[vl,vf]) follows F.aQ E.aQ (Lm Ya) λK hK=>?_;dsimp only[L.aQ,lkF,lkG];have c0:=Cx.start hW;refine ab λz hz=>?_;simp;refine c0.dK rfl hf λF1 h1 W1 hW1 c1 at1 hle1=>?_;subst hz;refine ab λz hz=>?_;refine ab λy hy=>?_;simp;refine ah Ya (rI c1.wle (hl.mono hW1) (ht.mono c1.le0)) ?_;rintro _ h2 ⟨hle2,rfl⟩;have c2:=c1.ext hle2;have hW2:=c1.up (h':=h2);simp;subst hy;refine ab λy hy=>?_;simp;subst hy;by_cases e1:(jr l).1=0
 ·simp[e1];subst hz;refine ab λz hz=>?_;refine ab λy hy=>?_;obtain⟨uf,huf,ruf⟩:=at1.ldN rfl (N:=2) rfl;simp[huf _ (View.le_trans hW2 c2.wle)];refine ah Ya (oy (ruf.mono (View.le_trans hW2 c2.wle)) hsm) ?_;rintro _ h3 ⟨rfl,hle3⟩;have c3:=c2.ext hle3;have hW3:=c2.up (h':=h3);subst hy;cases hrt:kY f with
  | false=>
   have hrt2:decide ((jO f).1=0)=false:=hrt;have e:ig l f=(1,0,0):=by unfold ig;rw[if_neg (by rw[e1];simp),if_pos hrt]
   simp[hrt2];exact hK _ _ ⟨c3.le0,by rw[e]⟩
  | true=>
   have hrt2:decide ((jO f).1=0)=true:=hrt;have hcov:ig l f=HI (lG f (hasS l)):=by unfold ig;rw[if_neg (by rw[e1];simp),if_neg (by simp[hrt])]
   rw[hcov]at hK;have m:=lF hrt;have hd:=hd hrt;simp[hrt2];subst hz;refine ab λz hz=>?_;simp;refine lP ?_;have m3:dZ (.int .i64) (h3.push (.map #[] 0)) h3.size λ_=>none:=dZ.none Sa;have q3:=bV h3 (.map #[] 0);have av3:grow (grow W1 h1 h2) h2 h3 h3.size=none:=View.df c3.wle (Lp _);have hs3:h.size<=h3.size:=cG c3.le0;have hW13:W1.le (grow (grow W1 h1 h2) h2 h3):=View.le_trans hW2 hW3;generalize grow (grow W1 h1 h2) h2 h3=W3 at *;generalize h3.push (.map #[] 0)=h4 at *;obtain⟨r1,hr1⟩ : ∃r,r=h3.size:=⟨_,rfl⟩;rw[<-hr1]at m3 av3 hs3 ⊢;have k4:Mq W h W3 h4 r1 λ_=>none:=⟨⟨Owns.start (View.le_trans c3.wle q3),c3.old,View.le_trans c3.le0 q3,λ_ _ _ e=>by cases e⟩,av3,hs3,m3⟩;refine km (.inr rfl) (t:=T.jn) (k:=T.int) (e:=T.bool) (u:=.int .i64 0) U.jn U.int rfl rfl rfl fK k4.m (mapB (hasS [])) (by simp[hasS]) (λu hu=>?_) λh5 hs5 ho5 hm5=>?_
   ·cases u with
    | int k j=>cases k<;>first | rfl | (simp[hasS];intro e;exact hu (by rw[e]))
    | _=>rfl
   have k5:=k4.upd ho5 hm5;refine gM (n:=1) (z:=.map none) (v:=.map (some r1)) Ya rfl Ya rfl (by simp[Value.cells,Value.oneCell']) (λ_=>by simp) (λ_=>by simp) λh6 hle6 hs6 hb6=>?_;have k6:=k5.ext hle6;have hW6:=k5.up (h':=h6);have x9:ao (grow W3 h5 h6) ⟨h5.size,0,none⟩=some (.map (some r1)):=cell_of (by rw[cI (Lp _)];exact hb6) rfl;generalize grow W3 h5 h6=W6 at *;generalize h5.size=B9 at *;subst hz;refine ab λz hz=>?_;refine ab λy hy=>?_;have hl6:=hl.mono (View.le_trans hW1 (View.le_trans hW13 hW6));have bl:=hl.bound;simp[hl6.len];subst hy;refine aS [0,1,3,9,37,38,39] (fun(_:Unit) k=>[vl,vf,ptr F1,ptr B9,vl,.int .i64 l.length,.int .i64 k])
    (λ_ k hx=>∃Wx,W6.le Wx/\Mq W h Wx hx r1 (mapB (hasS (l.take k)))) l.length ()
    rfl Yb rfl ⟨W6,View.le_refl _,k6⟩ (λ_ _=>rfl) (λv i h1 hk m=>by simp) ?_ ?_
   ·rintro _ k hx hk ⟨Wx,lx,kx⟩ K2 hK2;obtain⟨ut,hut,rut⟩:=(hl6.mono lx).wh rfl (N:=2) rfl hk;refine ab λy hy=>?_;simp(disch:=omega)[((hl6.mono lx).mono kx.wle).idxn (N:=2) rfl,hut _ kx.wle];refine kx.eu (α:=eW) rut (n:=2) (z:=.agg #[.int .i64 0,.int .i64 0]) Ya rfl rfl Ya (λ_=>by simp) (λ_=>by simp) λB h7 W7 hW7 k7 at7 hle7=>?_;have q0:ao W7 ⟨B,0,none⟩=some (.int .i64 (nth l k).pat):=by simpa using(at7.part eW.Fz).int
    subst hy;simp[ae k7.wle q0,ae (View.le_trans lx (View.le_trans hW7 k7.wle)) x9];have hst : ∀p,hasS (l.take (k+1)) p=if p=(nth l k).pat then true else hasS (l.take k) p:=λp=>by
     unfold hasS;rw[LG hk,List.any_append,aC hk];by_cases e:p=l[k].pat
     ·simp[e]
     simp[e,Ne.symm e]
    obtain⟨g1,g2⟩:=FV (f:=hasS (l.take k)) (g:=hasS (l.take (k+1))) (j:=(nth l k).pat) hst;refine km (.inl rfl) (t:=T.jn) (k:=T.int) (e:=T.bool) (u:=.int .i64 (nth l k).pat) U.jn U.int rfl rfl rfl fK k7.m (mapB (hasS (l.take (k+1)))) g1 g2 λh8 hs8 ho8 hm8=>?_;exact hK2 () _ _ rfl rfl ⟨W7,View.le_trans lx hW7,k7.upd ho8 hm8⟩
   rintro _ h7 ⟨W7,l7,k7⟩;rw[MM]at k7;obtain⟨W8,l8,c8,hasM⟩:=k7.freeze;clear k4 k5 k6 k7 m3 hm5 ho5;have x9:=ae (View.le_trans l7 l8) x9;have l18:W1.le W8:=View.le_trans hW13 (View.le_trans hW6 (View.le_trans l7 l8));have at8:=at1.mono l18;simp;subst hz;refine ab λz hz=>?_;simp;refine lP ?_;have m9:dZ (.int .i64) (h7.push (.map #[] 0)) h7.size (mapE twoV λ_=>none):=by rw[pk];exact dZ.none Sa
   have q9:=bV h7 (.map #[] 0);have av9:W8 h7.size=none:=View.df c8.wle (Lp _);have hs9:h.size<=h7.size:=cG c8.le0;generalize h7.push (.map #[] 0)=h9 at *;obtain⟨r2,hr2⟩ : ∃r,r=h7.size:=⟨_,rfl⟩;rw[<-hr2]at m9 av9 hs9 ⊢;have k9:Mq W h W8 h9 r2 (mapE twoV λ_=>none):=⟨⟨Owns.start (View.le_trans c8.wle q9),c8.old,View.le_trans c8.le0 q9,λ_ _ _ e=>by cases e⟩,av9,hs9,m9⟩;refine gM (n:=1) (z:=.map none) (v:=.map (some r2)) Ya rfl Ya rfl (by simp[Value.cells,Value.oneCell']) (λ_=>by simp) (λ_=>by simp) λh10 hle10 hs10 hb10=>?_;have k10:=k9.ext hle10;have hW10:=k9.up (h':=h10);have x12:ao (grow W8 h9 h10) ⟨h9.size,0,none⟩=some (.map (some r2)):=cell_of (by rw[cI (Lp _)];exact hb10) rfl;have l110:=View.le_trans l18 hW10;have x9:=ae hW10 x9;have hasM:=fun(g2:Heap) (hg:(grow W8 h9 h10).le (vw g2))=>hasM g2 (View.le_trans hW10 hg);generalize grow W8 h9 h10=W10 at *;generalize h9.size=B12 at *;have at10:=at1.mono l110
   clear k9 m9 c8 at8 hle10 hb10 q9;subst hz;refine ab λz hz=>?_;refine ab λy hy=>?_;obtain⟨-,vb,hb1,hb2⟩:=jI at10;have bdf:=hb2.bound;simp[ae k10.wle hb1,hb2.len];subst hy;obtain⟨uf',huf',ruf'⟩:=at10.ldN rfl (N:=2) rfl;have smlen:=hsm.len;refine aS [0,1,3,9,12,37,38,39,49,50,51] (fun(_:Unit) b=>[vl,vf,ptr F1,ptr B9,ptr B12,vl,.int .i64 l.length,.int .i64 l.length,vb,.int .i64 f.blocks.length,.int .i64 b])
    (λ_ b hx=>∃Wx,W10.le Wx/\Mq W h Wx hx r2 (mapE twoV (whTo f b))) f.blocks.length ()
    rfl Yb rfl ⟨W10,View.le_refl _,k10⟩ (λ_ _=>rfl) (λv i h1 hk m=>by simp) ?_ ?_
   ·rintro _ b hx hb ⟨Wx,lx,kx⟩ K2 hK2;obtain⟨ub,hub,rub⟩:=(hb2.mono lx).wh rfl (N:=6) rfl hb;have sb:=hsm.blk b hb;refine ab λy hy=>?_;simp(disch:=omega)[((hb2.mono lx).mono kx.wle).idxn (N:=6) rfl,hub _ kx.wle];refine kx.eu (α:=BlkD) rub (n:=6) (z:=.agg #[.slice none 0 0,.slice none 0 0,.int .i64 0,.slice none 0 0,.slice none 0 0,.int .i32 0]) Ya rfl rfl Ya (λ_=>by simp) (λ_=>by simp) λB2 h11 W11 hW11 k11 at11 hle11=>?_;subst hy;refine ab λy hy=>?_;obtain⟨vp,vi,va,vt,-,si,-⟩:=kG at11;have bi:=si.2.bound;simp[ae k11.wle si.1,si.2.len];subst hy;refine aS [0,1,3,9,12,13,14,37,38,39,49,50,51,57,58,59] (fun(_:Unit) k=>[vl,vf,ptr F1,ptr B9,ptr B12,.int .i64 b,ptr B2,vl,.int .i64 l.length,.int .i64 l.length,vb,.int .i64 f.blocks.length,.int .i64 b,vi,.int .i64 (nth f.blocks b).ins.length,.int .i64 k])
     (λ_ k hy=>∃Wy,W11.le Wy/\Mq W h Wy hy r2 (mapE twoV (Lft.up (kU f b) k (whTo f b)))) (nth f.blocks b).ins.length ()
     rfl Yb rfl ⟨W11,View.le_refl _,k11⟩ (λ_ _=>rfl) (λv i h1 hk m=>by simp) ?_ ?_
    ·rintro _ k h12 hk ⟨Wy,ly,ky⟩ K3 hK3;have hst:Lft.up (kU f b) (k+1) (whTo f b)=if(!decide ((nth (nth f.blocks b).ins k).op=16)&&!decide ((nth (nth f.blocks b).ins k).op=18))&&fO f (nth (nth f.blocks b).ins k).dst then putM (Lft.up (kU f b) k (whTo f b)) (nth (nth f.blocks b).ins k).dst ((b:Int),(k:Int)) else Lft.up (kU f b) k (whTo f b):=rfl;obtain⟨ui,hui,rui⟩:=(si.2.mono ly).wh rfl (N:=5) rfl hk;refine ab λy hy=>?_;simp(disch:=omega)[((si.2.mono ly).mono ky.wle).idxn (N:=5) rfl,hui _ ky.wle];refine ky.eu (α:=InsD) rui (n:=5) (z:=.agg #[.int .i64 0,.int .i64 0,.int .i64 0,.slice none 0 0,.int .i32 0]) Ya rfl rfl Ya (λ_=>by simp) (λ_=>by simp) λB4 h13 W13 hW13 k13 at13 hle13=>?_;obtain⟨q0,q1,-⟩:=lj at13;have r1:=(at13.part InsD.ix).rng;have l1013:W10.le W13:=View.le_trans lx (View.le_trans hW11 (View.le_trans ly hW13));generalize Lft.up (kU f b) k (whTo f b)=g at *;generalize nth (nth f.blocks b).ins k=ii at *;have q0:=ae k13.wle q0;have q1':=q1;have q1:=ae k13.wle q1;subst hy;refine ab λy hy=>?_;have skip : ∀(h14:Heap) (W14:View),W13.le W14->Mq W h W14 h14 r2 (mapE twoV g)->Lft.up (kU f b) (k+1) (whTo f b)=g->∃Wy,W11.le Wy/\Mq W h Wy h14 r2 (mapE twoV (Lft.up (kU f b) (k+1) (whTo f b))):=λh14 W14 l14 k14 e=>⟨W14,View.le_trans ly (View.le_trans hW13 l14),by rw[e];exact k14⟩;by_cases o16:ii.op=16
     ·rw[if_neg (by simp[o16])]at hst;simp[q0,o16];subst hy;simp;exact hK3 () _ _ rfl rfl (skip _ _ (View.le_refl _) k13 hst)
     by_cases o18:ii.op=18
     ·rw[if_neg (by simp[o18])]at hst;simp[q0,o18];subst hy;simp;exact hK3 () _ _ rfl rfl (skip _ _ (View.le_refl _) k13 hst)
     simp[q0,o16,o18,q1,huf' _ (View.le_trans l1013 k13.wle)];refine ah Ya (sM (ruf'.mono (View.le_trans l1013 k13.wle)) hsm r1) ?_;rintro _ h14 ⟨rfl,hle14⟩;have k14:=k13.ext hle14;have hW14:=k13.up (h':=h14);cases hfo:fO f ii.dst with
     | false=>rw[if_neg (by simp[hfo])]at hst;subst hy;simp;exact hK3 () _ _ rfl rfl (skip _ _ hW14 k14 hst)
     | true=>rw[if_pos (by simp[o16,o18,hfo])]at hst;subst hy;simp[ae (View.le_trans l1013 (View.le_trans hW14 k14.wle)) x12,ae (View.le_trans hW14 k14.wle) q1'];refine ay (z:=.agg #[.int .i64 0,.int .i64 0]) (places:=[(0,1),(1,1)]) (vs:=[(0,.int .i64 b),(1,.int .i64 k)]) (cs:=#[.int .i64 b,.int .i64 k]) Ya Ya Sa Ya ?_;refine km (.inl rfl) (t:=T.gN) (k:=T.int) (e:=T.lO) (u:=.int .i64 ii.dst) (v:=twoV ((b:Int),(k:Int))) U.gN U.int rfl rfl rfl fK k14.m (mapE twoV (putM g ii.dst ((b:Int),(k:Int)))) jg.1 jg.2 λh15 hs15 ho15 hm15=>?_;exact hK3 () _ _ rfl rfl ⟨_,View.le_trans ly (View.le_trans hW13 hW14),by rw[hst];exact k14.upd ho15 hm15⟩
    rintro _ h12 ⟨Wy,ly,ky⟩;exact hK2 () _ _ rfl rfl ⟨Wy,View.le_trans lx (View.le_trans hW11 ly),by rw[wJ];exact ky⟩
   rintro _ h11 ⟨W11,l11,k11⟩;obtain⟨W12,l12,c12,whM⟩:=k11.freeze;have whM : ∀g2:Heap,W12.le (vw g2)->dZ (.int .i64) g2 r2 (mapE twoV (whS f)):=whM;have x9:=ae (View.le_trans l11 l12) x9;have x12:=ae (View.le_trans l11 l12) x12;have l1012:=View.le_trans l11 l12;clear k10 k11;simp;subst hz;refine ab λz hz=>?_;simp;refine ed (z:=.nilFunc) Ya ?_;have q13:=bV h11 (.cells (Value.nilFunc).cells T.gm);have b13:(h11.push (.cells (Value.nilFunc).cells T.gm))[h11.size]? = some (.cells (Value.nilFunc).cells T.gm (0,0)):=by simp
   generalize h11.push (.cells (Value.nilFunc).cells T.gm)=h13 at *;subst hz;refine ab λz hz=>?_;simp;refine fq (g:=h11.size) (o:=0) (n:=1) (v:=.func (.func N.bs) #[] #[ptr F1,ptr B9,ptr B12,ptr h11.size]) (cur:=(Value.nilFunc).cells) (e:=T.gm) Ya rfl rfl rfl (by simp[Value.cells,Value.oneCell']) b13 (by simp[Value.cells]) λh14 hs14 ⟨row,hr14,he14⟩ ho14=>?_;have hrow:row=(Value.func (.func N.bs) #[] #[ptr F1,ptr B9,ptr B12,ptr h11.size]).cells:=by rw[<-Array.toList_inj,he14];simp[Value.cells]
   rw[hrow]at hr14;have le14:(vw h11).le (vw h14):=λb o hb=>by have hlt:=View.lt (View.le_refl (vw h11)) hb;show h14[b]? = _;rw[ho14 b Yb];exact q13 b o hb
   have c14:=c12.ext le14;have hW14:=c12.up (h':=h14);have x17:ao (grow W12 h11 h14) ⟨h11.size,0,none⟩=some (.func (.func N.bs) #[] #[ptr F1,ptr B9,ptr B12,ptr h11.size]):=cell_of (by rw[cI (Lp _)];exact hr14) rfl;have l1014:=View.le_trans l1012 hW14;have cv:Cv (grow W12 h11 h14) F1 B9 B12 h11.size r1 r2 f (hasS l) (whS f):=⟨at10.mono l1014,λp hp=>Hw e1 hp,ae hW14 x9,λg2 hg=>hasM g2 (View.le_trans l1014 hg),ae hW14 x12,λv w hw=>Jl hsm hw,λg2 hg=>whM g2 (View.le_trans hW14 hg),x17⟩;have hb1:=ae l1014 hb1;have hb2:=hb2.mono l1014;generalize grow W12 h11 h14=W14 at *;generalize h11.size=C at *;clear hr14 ho14 he14 b13 q13 le14 x9 x12 x17 hasM whM;subst hz;refine ab λz hz=>?_;refine ab λy hy=>?_;simp[ae c14.wle hb1,hb2.len];subst hy;refine aS [0,1,3,9,12,17,37,38,39,49,50,51,88,89,90] (fun(_:Unit) b=>[vl,vf,ptr F1,ptr B9,ptr B12,ptr C,vl,.int .i64 l.length,.int .i64 l.length,vb,.int .i64 f.blocks.length,.int .i64 f.blocks.length,vb,.int .i64 f.blocks.length,.int .i64 b])
    (λ_ b hx=>∃Wx,W14.le Wx/\Cx W h Wx hx (λ_=>none)/\((List.range b).findSome? λb=>(rK f (hasS l) b).map λi=>(b,i))=none) f.blocks.length ()
    rfl Yb rfl ⟨W14,View.le_refl _,c14,rfl⟩ (λ_ _=>rfl) (λv i h1 hk m=>by simp) ?_ ?_
   ·rintro _ b hx hb ⟨Wx,lx,cx,hno⟩ K2 hK2;obtain⟨ub,hub,rub⟩:=(hb2.mono lx).wh rfl (N:=6) rfl hb;have sb:=hsm.blk b hb;have sbi:=sb.ins;simp only[aN];refine ab λy hy=>?_;simp(disch:=omega)[((hb2.mono lx).mono cx.wle).idxn (N:=6) rfl,hub _ cx.wle];refine cx.eu (α:=BlkD) rub (n:=6) (z:=.agg #[.slice none 0 0,.slice none 0 0,.int .i64 0,.slice none 0 0,.slice none 0 0,.int .i32 0]) Ya rfl rfl Ya (λ_=>by simp) (λ_=>by simp) λB2 h15 W15 hW15 c15 at15 hle15=>?_;subst hy;refine ab λy hy=>?_;obtain⟨vp,vi,va,vt,-,si,-⟩:=kG at15;have bi:=si.2.bound;simp(disch:=omega)[ae c15.wle si.1,si.2.len];subst hy;have eN:((nth f.blocks b).ins.length:Int)+1=(((nth f.blocks b).ins.length+1:Nat):Int):=by omega
    rw[eN];have l1415:=View.le_trans lx hW15;refine aS [0,1,3,9,12,17,18,19,37,38,39,49,50,51,88,89,90,98,99] (fun(_:Unit) i=>[vl,vf,ptr F1,ptr B9,ptr B12,ptr C,.int .i64 b,ptr B2,vl,.int .i64 l.length,.int .i64 l.length,vb,.int .i64 f.blocks.length,.int .i64 f.blocks.length,vb,.int .i64 f.blocks.length,.int .i64 b,.int .i64 (((nth f.blocks b).ins.length+1:Nat):Int),.int .i64 i])
     (λ_ i hx=>∃Wx,W15.le Wx/\Cx W h Wx hx (λ_=>none)/\(List.range i).find? (rh f (hasS l) b)=none) ((nth f.blocks b).ins.length+1) ()
     rfl Yb rfl ⟨W15,View.le_refl _,c15,rfl⟩ (λ_ _=>rfl) (λv i h1 hk m=>by simp) ?_ ?_
    ·rintro _ i h16 hi ⟨W16,l16,c16,hno2⟩ K3 hK3;have si16:=si.2.mono l16;have x0:=ae (View.le_trans l16 c16.wle) si.1;have cv16:=cv.mono (View.le_trans l1415 l16);simp only[aN];refine ab λy hy=>?_;simp;subst hy;refine ab λy hy=>?_;simp;subst hy;refine ab λy hy=>?_;refine iW (λρ h17=>∃W17,W16.le W17/\Cx W h W17 h17 (λ_=>none)/\Looks ρ [(0,vl),(1,vf),(3,ptr F1),(9,ptr B9),(12,ptr B12),(17,ptr C),(18,.int .i64 b),(19,ptr B2),(20,.int .i64 i),(21,.bool (nV f (whS f) b i)),(37,vl),(38,.int .i64 l.length),(39,.int .i64 l.length),(49,vb),(50,.int .i64 f.blocks.length),(51,.int .i64 f.blocks.length),(88,vb),(89,.int .i64 f.blocks.length),(90,.int .i64 b),(98,.int .i64 (((nth f.blocks b).ins.length+1:Nat):Int)),(99,.int .i64 i)]) ?_ ?_
     ·intro K4 hK4;refine ab λx hx=>?_;by_cases ci:i<(nth f.blocks b).ins.length
      ·have hii:((i:Int)<((nth f.blocks b).ins.length:Int)):=by omega
       have ax:=(si16.at ci);rw[<-aC ci]at ax;have q0:=ae c16.wle (ax.part InsD.tB).int;have q1:=(ax.part InsD.ix).int;have hx5:=si16.idxn (k:=.i64) (N:=5) rfl (i:=(i:Int)) Yb Yb;generalize hii2:nth (nth f.blocks b).ins i=ii at *;have q0:ao (vw h16) (((slA vi).add (i*5)).add 0)=some (.int .i64 ii.op):=q0;have q1:ao W16 (((slA vi).add (i*5)).add 1)=some (.int .i64 ii.dst):=q1;have hx5:Bn.ev (.idx 5) vi (.int .i64 (i:Int))=some (.pointer (some ((slA vi).add (i*5)))):=by simpa using hx5
       by_cases o16:ii.op=16
       ·have hn:nV f (whS f) b i=true:=by unfold nV;rw[hii2];simp[o16]
        simp[x0,si16.len,hii,hx5,q0,o16];subst hx;simp;exact hK4 _ _ ⟨W16,View.le_refl _,c16,by rw[hn];simp[Looks]⟩
       have hn:nV f (whS f) b i=!decide (whS f ii.dst=some ((b:Int),(i:Int))):=by unfold nV;rw[hii2];simp[o16,ci]
       simp[x0,si16.len,hii,hx5,q0,o16];subst hx;refine aD Sa ?_;refine ab λx hx=>?_;have wr:Rd W16 (((whS f ii.dst).map twoV).getD (.agg #[.int .i64 0,.int .i64 0])) ((whS f ii.dst).getD (0,0)):=by
        cases hv:whS f ii.dst with
        | none=>exact oT.2 ⟨rfl,by decide,by decide⟩
        | some w=>exact oT.2 ⟨rfl,(cv16.whR ii.dst w hv).1,(cv16.whR ii.dst w hv).2⟩
       have hww:((whS f ii.dst).map twoV).getD (.agg #[.int .i64 0,.int .i64 0])=twoV ((whS f ii.dst).getD (0,0)):=by cases whS f ii.dst<;>rfl
       refine iW (λρ h17=>∃B22,Cx W h W16 h17 (λ_=>none)/\Un.ev (vw h17) (.bM 2) (ptr B22)=some (twoV ((whS f ii.dst).getD (0,0)))/\Looks ρ [(0,vl),(1,vf),(3,ptr F1),(9,ptr B9),(12,ptr B12),(17,ptr C),(18,.int .i64 b),(19,ptr B2),(20,.int .i64 i),(21,.bool true),(22,ptr B22),(23,.bool (whS f ii.dst).isSome),(37,vl),(38,.int .i64 l.length),(39,.int .i64 l.length),(49,vb),(50,.int .i64 f.blocks.length),(51,.int .i64 f.blocks.length),(88,vb),(89,.int .i64 f.blocks.length),(90,.int .i64 b),(98,.int .i64 (((nth f.blocks b).ins.length+1:Nat):Int)),(99,.int .i64 i)]) ?_ ?_
       ·intro K5 hK5;refine aP W16 c16.wle ?_;have q1:=q1;refine gy ?_ ?_
        ·simp[cv16.whC,si.1,si.1,ae l16 si.1,hx5,q1];refine mB (f:=mapE twoV (whS f)) (z:=.agg #[.int .i64 0,.int .i64 0]) (k:=T.int) (e:=T.lO) (d:=.int .i64) (r:=r2) (u:=.int .i64 ii.dst) U.gN U.int Ya rfl rfl fK (cv16.whM h16 c16.wle) ?_;simp;refine c16.cQ (k:=(0,0)) (n:=1) (z:=.agg #[.int .i64 0,.int .i64 0]) rfl Ya rfl Yc (by simp[Value.cells,Value.oneCell']) λB22 h17 hle17 c17=>?_;refine c17.bD (k:=(0,0)) (n:=1) Own.aj wr rfl rfl Ya rfl rfl λh18 l18 hl18 c18=>?_;have hall:=c18.all (k:=(0,0)) (n:=1) (l:=l18) (B:=B22) (e:=T.lO) Own.aj;refine hK5 _ _ ⟨B22,⟨c18.own.sub λk i e=>by(cases e),c18.old,c18.le0,λ_ _ _ e=>by cases e⟩,?_,by simp[Looks]⟩;rw[<-hww,hl18];exact hall
        simp[cv16.whC,si.1,ae l16 si.1,hx5,q1];refine c16.cQ (k:=(0,0)) (n:=1) (z:=.agg #[.int .i64 0,.int .i64 0]) rfl Ya rfl Yc (by simp[Value.cells,Value.oneCell']) λB22 h17 hle17 c17=>?_;refine⟨c17.wle,?_⟩;refine mB (f:=mapE twoV (whS f)) (z:=.agg #[.int .i64 0,.int .i64 0]) (k:=T.int) (e:=T.lO) (d:=.int .i64) (r:=r2) (u:=.int .i64 ii.dst) U.gN U.int Ya rfl rfl fK (cv16.whM h17 c17.wle) ?_;simp;refine c17.bD (k:=(0,0)) (n:=1) Own.aj wr rfl rfl Ya rfl rfl λh18 l18 hl18 c18=>?_;have hall:=c18.all (k:=(0,0)) (n:=1) (l:=l18) (B:=B22) (e:=T.lO) Own.aj;refine hK5 _ _ ⟨B22,⟨c18.own.sub λk i e=>by(cases e),c18.old,c18.le0,λ_ _ _ e=>by cases e⟩,?_,by simp[Looks]⟩;rw[<-hww,hl18];exact hall
       rintro ρ h17 ⟨B22,c17,x22,L⟩;have L0:=L (0,vl) Sa;have L1:=L (1,vf) Sa;have L3:=L (3,ptr F1) Sa;have L9:=L (9,ptr B9) Sa;have L12:=L (12,ptr B12) Sa;have L17:=L (17,ptr C) Sa;have L18:=L (18,.int .i64 b) Sa;have L19:=L (19,ptr B2) Sa;have L20:=L (20,.int .i64 i) Sa;have L21:=L (21,.bool true) Sa;have L22:=L (22,ptr B22) Sa;have L23:=L (23,.bool (whS f ii.dst).isSome) Sa;have L37:=L (37,vl) Sa;have L38:=L (38,.int .i64 l.length) Sa;have L39:=L (39,.int .i64 l.length) Sa;have L49:=L (49,vb) Sa;have L50:=L (50,.int .i64 f.blocks.length) Sa;have L51:=L (51,.int .i64 f.blocks.length) Sa;have L88:=L (88,vb) Sa;have L89:=L (89,.int .i64 f.blocks.length) Sa;have L90:=L (90,.int .i64 b) Sa;have L98:=L (98,.int .i64 (((nth f.blocks b).ins.length+1:Nat):Int)) Sa;have L99:=L (99,.int .i64 i) Sa;simp only at L0 L1 L3 L9 L12 L17 L18 L19 L20 L21 L22 L23 L37 L38 L39 L49 L50 L51 L88 L89 L90 L98 L99;subst hx;refine ab λx hx=>?_;cases hv:whS f ii.dst with
       | none=>
        have hn:nV f (whS f) b i=true:=by rw[hn,hv];rfl
        rw[hv]at L23;simp[af,ag,L0,L1,L3,L9,L12,L17,L18,L19,L20,L21,L22,L23,L37,L38,L39,L49,L50,L51,L88,L89,L90,L98,L99];subst hx;simp[af,ag,L0,L1,L3,L9,L12,L17,L18,L19,L20,L21,L22,L23,L37,L38,L39,L49,L50,L51,L88,L89,L90,L98,L99];exact hK4 _ _ ⟨W16,View.le_refl _,c17,by rw[hn];simp[Looks,af,ag,L0,L1,L3,L9,L12,L17,L18,L19,L20,L21,L22,L23,L37,L38,L39,L49,L50,L51,L88,L89,L90,L98,L99]⟩
       | some w=>
        have hn:nV f (whS f) b i=!(w.1 == (b:Int)&&w.2 == (i:Int)):=by rw[hn,hv];obtain⟨w1,w2⟩:=w;rw[LV];simp
        rw[hv]at L23 x22;have x22:Un.ev (vw h17) (.bM 2) (ptr B22)=some (.agg #[.int .i64 w.1,.int .i64 w.2]):=x22;simp[af,ag,L0,L1,L3,L9,L12,L17,L18,L19,L20,L21,L22,L23,L37,L38,L39,L49,L50,L51,L88,L89,L90,L98,L99,x22];refine ay (z:=.agg #[.int .i64 0,.int .i64 0]) (places:=[(0,1),(1,1)]) (vs:=[(0,.int .i64 b),(1,.int .i64 i)]) (cs:=#[.int .i64 b,.int .i64 i]) Ya Ya Sa Ya ?_;refine AN (t:=T.lO) (e:=T.int) (a:=w.1) (b:=w.2) (c:=(b:Int)) (d:=(i:Int)) (ki:=.i64) U.lO U.int Ya Ya Ya rfl rfl ?_;subst hx;cases he:(w.1 == (b:Int)&&w.2 == (i:Int))with
        | false=>rw[he]at hn;simp[af,ag,L0,L1,L3,L9,L12,L17,L18,L19,L20,L21,L22,L23,L37,L38,L39,L49,L50,L51,L88,L89,L90,L98,L99];exact hK4 _ _ ⟨W16,View.le_refl _,c17,by rw[hn];simp[Looks,af,ag,L0,L1,L3,L9,L12,L17,L18,L19,L20,L21,L22,L23,L37,L38,L39,L49,L50,L51,L88,L89,L90,L98,L99]⟩
        | true=>rw[he]at hn;simp[af,ag,L0,L1,L3,L9,L12,L17,L18,L19,L20,L21,L22,L23,L37,L38,L39,L49,L50,L51,L88,L89,L90,L98,L99];exact hK4 _ _ ⟨W16,View.le_refl _,c17,by rw[hn];simp[Looks,af,ag,L0,L1,L3,L9,L12,L17,L18,L19,L20,L21,L22,L23,L37,L38,L39,L49,L50,L51,L88,L89,L90,L98,L99]⟩
      have hn:nV f (whS f) b i=true:=by unfold nV;simp[ci]
      have hii:¬((i:Int)<((nth f.blocks b).ins.length:Int)):=by omega
      simp[x0,si16.len,hii];subst hx;simp;exact hK4 _ _ ⟨W16,View.le_refl _,c16,by rw[hn];simp[Looks]⟩
     rintro ρ h17 ⟨W17,l17,c17,L⟩;have L0:=L (0,vl) Sa;have L1:=L (1,vf) Sa;have L3:=L (3,ptr F1) Sa;have L9:=L (9,ptr B9) Sa;have L12:=L (12,ptr B12) Sa;have L17:=L (17,ptr C) Sa;have L18:=L (18,.int .i64 b) Sa;have L19:=L (19,ptr B2) Sa;have L20:=L (20,.int .i64 i) Sa;have L21:=L (21,.bool (nV f (whS f) b i)) Sa;have L37:=L (37,vl) Sa;have L38:=L (38,.int .i64 l.length) Sa;have L39:=L (39,.int .i64 l.length) Sa;have L49:=L (49,vb) Sa;have L50:=L (50,.int .i64 f.blocks.length) Sa;have L51:=L (51,.int .i64 f.blocks.length) Sa;have L88:=L (88,vb) Sa;have L89:=L (89,.int .i64 f.blocks.length) Sa;have L90:=L (90,.int .i64 b) Sa;have L98:=L (98,.int .i64 (((nth f.blocks b).ins.length+1:Nat):Int)) Sa;have L99:=L (99,.int .i64 i) Sa;simp only at L0 L1 L3 L9 L12 L17 L18 L19 L20 L21 L37 L38 L39 L49 L50 L51 L88 L89 L90 L98 L99;have cv17:=cv16.mono l17;have hplc:dA f b i=true:=by simp[dA];omega
     have hstep : ∀X,rh f (hasS l) b i=X->X=false->(List.range (i+1)).find? (rh f (hasS l) b)=none:=λX hX hf=>by rw[NI,N8,hno2,NB,List.find?_singleton,hX,hf];rfl
     subst hy;refine ab λy hy=>?_;cases hn:nV f (whS f) b i with
     | false=>rw[hn]at L21;simp[af,ag,L0,L1,L3,L9,L12,L17,L18,L19,L20,L21,L37,L38,L39,L49,L50,L51,L88,L89,L90,L98,L99];subst hy;simp[af,ag,L0,L1,L3,L9,L12,L17,L18,L19,L20,L21,L37,L38,L39,L49,L50,L51,L88,L89,L90,L98,L99];refine hK3 () _ _ (by simp[af,ag,L0,L1,L3,L9,L12,L17,L18,L19,L20,L21,L37,L38,L39,L49,L50,L51,L88,L89,L90,L98,L99]) (by simp[ck,af,ag,L0,L1,L3,L9,L12,L17,L18,L19,L20,L21,L37,L38,L39,L49,L50,L51,L88,L89,L90,L98,L99]) ⟨W17,View.le_trans l16 l17,c17,hstep _ rfl (by unfold rh;rw[hn];rfl)⟩
     | true=>
      rw[hn]at L21;simp[af,ag,L0,L1,L3,L9,L12,L17,L18,L19,L20,L21,L37,L38,L39,L49,L50,L51,L88,L89,L90,L98,L99,ae c17.wle cv17.can];refine cj (ops:=[.tmp 138,.tmp 139]) (caps:=#[ptr F1,ptr B9,ptr B12,ptr C]) rfl Ya (EI m hsm hM hd (i+1) (b:=(b:Int)) (i:=(i:Int)) cv17 c17.wle hplc Yb) ?_;rintro _ h18 ⟨hle18,rfl⟩;have c18:=c17.ext hle18;have hW18:=c17.up (h':=h18);simp[af,ag,L0,L1,L3,L9,L12,L17,L18,L19,L20,L21,L37,L38,L39,L49,L50,L51,L88,L89,L90,L98,L99];subst hy;cases hcn:canS f (hasS l) (whS f) (i+1) b i with
      | true=>simp[af,ag,L0,L1,L3,L9,L12,L17,L18,L19,L20,L21,L37,L38,L39,L49,L50,L51,L88,L89,L90,L98,L99];refine hK3 () _ _ (by simp[af,ag,L0,L1,L3,L9,L12,L17,L18,L19,L20,L21,L37,L38,L39,L49,L50,L51,L88,L89,L90,L98,L99]) (by simp[ck,af,ag,L0,L1,L3,L9,L12,L17,L18,L19,L20,L21,L37,L38,L39,L49,L50,L51,L88,L89,L90,L98,L99]) ⟨_,View.le_trans l16 (View.le_trans l17 hW18),c18,hstep _ rfl (by unfold rh;rw[hn,hcn];rfl)⟩
      | false=>
       have hbad:rh f (hasS l) b i=true:=by unfold rh;rw[hn,hcn];rfl
       have hrow:rK f (hasS l) b=some i:=by unfold rK;exact find_range hi hno2 hbad
       have hfirst:lG f (hasS l)=some (b,i):=by unfold lG;exact uZ hb hno (by rw[hrow];rfl)
       rw[hfirst]at hK;simp[af,ag,L0,L1,L3,L9,L12,L17,L18,L19,L20,L21,L37,L38,L39,L49,L50,L51,L88,L89,L90,L98,L99];exact hK _ _ ⟨c18.le0,rfl⟩
    rintro _ h16 ⟨W16,l16,c16,hno2⟩;refine hK2 () _ _ rfl rfl ⟨W16,View.le_trans l1415 l16,c16,?_⟩;rw[NI,NK,hno,NB];simp[rK,hno2]
   rintro _ hx ⟨Wx,lx,cx,hno⟩;have e:lG f (hasS l)=none:=hno;rw[e]at hK;simp;subst hz;simp;exact hK _ _ ⟨cx.le0,rfl⟩
 have e:ig l f=((jr l).1,0,0):=by unfold ig;rw[if_pos e1]
 simp[e1];exact hK _ _ ⟨c2.le0,by rw[e]⟩
end Go.Proofs.YtnfiilgdjpdlkaaGreatDoor
namespace Go.Proofs.YtnfiilgdjpdlkaaGreatDoor
open Go Go.Lft
theorem AU{val:Int}{x:Int × Int}{l:List Th}: ∀{y:WL},x∈l.foldl (tO val) y↔x∈y\/∃t∈l,x=(t.blk,t.place)/\val∈t.tks:=by
 induction l with
 | nil=>simp
 | cons t l ih=>
  intro y;rw[LW,ih,tO,pO];simp only[LF,exists_eq_or_imp];constructor
  ·rintro((h | h) | h)
   ·exact .inl h
   ·exact .inr (.inl h)
   exact .inr (.inr h)
  rintro(h | h | h)
  ·exact .inl (.inl h)
  ·exact .inl (.inr h)
  exact .inr h
theorem pJ{f:an}{v:Int}(h:fO f v=true){t t':Th}(ht:t∈aJ f)(ht':t'∈aJ f)(hm:v∈t.mks)(hk:v∈t'.tks):t.blk=t'.blk/\t.place<t'.place:=by
 unfold fO lD at h;simp only[Ly]at h;have hb:=h.1;unfold np at hb;simp at hb;obtain⟨⟨⟨⟨b1,b2⟩,b3⟩,b4⟩,b5⟩:=hb;have m1:(t.blk,t.place)∈od v (aJ f):=qB.2 (.inr ⟨t,ht,rfl,hm⟩);have m2:(t'.blk,t'.place)∈mD v (aJ f):=AU.2 (.inr ⟨t',ht',rfl,hk⟩);have one : ∀{l:WL} {x:Int × Int},l.length=1->x∈l->nth l 0=x:=by
  intro l x hl hx;match l,hl with
  | [y],_=>simp at hx;rw[hx];rfl
 have e1:=one Yb m1;have e2:=one Yb m2;rw[e1,e2]at b4;rw[e1,e2]at b5;exact⟨b4,by simpa using b5⟩
theorem oY{f:an}{b k:Nat}(hb:b<f.blocks.length)(hk:k<(nth f.blocks b).ins.length):insT f b k∈aJ f:=jk.2 ⟨b,hb,kF.2 (.inr (.inl ⟨k,hk,rfl⟩))⟩
theorem Dz{f:an}{b:Nat}(hb:b<f.blocks.length):endT f b∈aJ f:=jk.2 ⟨b,hb,kF.2 (.inr (.inr rfl))⟩
def ownArgs (s:cu):List Int:=if s.term then s.t.args else s.i.args
def uJ (f:an) (args:List Int) (v:Int):Prop:=∃v2 op,v2∈args/\(aT f v2 op).2=true/\v∈(aT f v2 op).1.args
theorem rn{l:List Int}{v:Int}(h:v∈l.drop 1):v∈l:=List.mem_of_mem_drop h
theorem q7{f:an}{i:InsD}{m lo hi sg:Int}{x:FitD}(hl:1<=i.args.length)(h:immS f i m lo hi sg=some x){v:Int}(hv:v∈x.takes):v∈i.args:=by
 unfold immS at h;split at h
 ·cases h;simp at hv;subst hv;exact cr Yb
 cases h
theorem zA{f:an}{i:InsD}{temp op pl su:Int}{k:Nat}{x:FitD}(hall : ∀i∈fk f,uR i)(hl:1<=i.args.length)(h:memS f i temp op pl su k=some x){v:Int}(hv:v∈x.takes):v∈i.args\/uJ f i.args v:=by
 have h0:nth i.args 0∈i.args:=cr Yb;have hin : ∀{j},(aT f (nth i.args 0) 2).2=true->j<2->uJ f i.args (nth (aT f (nth i.args 0) 2).1.args j):=fun{j} hb hj=>by obtain⟨m1,m2,-⟩:=kh hb;have:=(hall _ m1).two Yb;exact⟨_,2,h0,hb,cr Yb⟩
 match k with
 | 0=>
  simp only[memS]at h;split at h
  ·cases h;rcases LF.1 hv with rfl | hv
   ·exact .inl h0
   exact .inl (rn hv)
  cases h
 | 1=>
  simp only[memS]at h;split at h
  ·rename_i c;split at h
   ·cases h;rcases LF.1 hv with rfl | hv
    ·exact .inr (hin c Yc)
    exact .inl (rn hv)
   cases h
  cases h
 | 2=>
  simp only[memS]at h;split at h
  ·rename_i c;simp only[Ly]at c;cases h;rcases LF.1 hv with rfl | hv
   ·exact .inr (hin c.1 Yc)
   rcases LF.1 hv with rfl | hv
   ·exact .inr (hin c.1 Yc)
   exact .inl (rn hv)
  cases h
 | k+3=>
  simp only[memS]at h;cases h;rcases LF.1 hv with rfl | hv
  ·exact .inl h0
  exact .inl (rn hv)
theorem AE{s:cu}{pat:Int}{x:FitD}(hok:lJ s)(ht:uY s.t)(h:tryS s pat=some x){v:Int}(hv:v∈x.takes):v∈ownArgs s\/uJ s.f (ownArgs s) v:=by
 unfold tryS at h;unfold ownArgs;cases htm:s.term with
 | true=>
  rw[htm,if_pos rfl]at h;rw[if_pos rfl];unfold gu at h;split at h
  ·cases h;cases hv
  split at h
  ·cases h;exact .inl hv
  split at h
  ·cases h;cases hv
  split at h
  ·cases h;exact .inl hv
  split at h
  ·rename_i c;split at h
   ·rename_i c2;cases h;exact .inr ⟨_,_,cr (ht.one (.inl c.2)),c2,hv⟩
   cases h
  split at h
  ·cases h;exact .inl hv
  cases h
 | false=>
  rw[htm,if_neg Sa]at h;rw[if_neg Sa];unfold patS at h;split at h
  ·rename_i c;obtain⟨c1,c2,c3⟩:=c;have hp1:1<=pat.toNat/\pat.toNat<=32:=by omega
   generalize pat.toNat=p at *;have len:16<=p->p<=30->1<=s.i.args.length:=by
    intro h2 h30;have hopr:(2<=s.i.op/\s.i.op<=14)\/s.i.op=16\/s.i.op=15:=by
     rw[c3];unfold opOf;repeat' split
     all_goals omega
    rcases hopr with q | q | q
    ·have:=hok.one.two (.inl q);omega
    ·have:=hok.one.two (.inr (.inl q));omega
    exact hok.one.one q
   unfold doS at h;by_cases p1:p=1
   ·rw[if_pos p1]at h;by_cases q:inR s.i.imm.v (-32768) 32767=true
    ·rw[if_pos q]at h;cases h;cases hv
    rw[if_neg q]at h;cases h
   rw[if_neg p1]at h;by_cases p2:p=2
   ·rw[if_pos p2]at h;cases h;cases hv
   rw[if_neg p2]at h;by_cases p15:p<=15
   ·rw[if_pos p15]at h;cases h;exact .inl hv
   rw[if_neg p15]at h;by_cases p16:p=16
   ·rw[if_pos p16]at h;exact .inl (q7 (len Yb Yb) h hv)
   rw[if_neg p16]at h;by_cases p17:p=17
   ·rw[if_pos p17]at h;exact .inl (q7 (len Yb Yb) h hv)
   rw[if_neg p17]at h;by_cases p18:p=18
   ·rw[if_pos p18]at h;exact .inl (q7 (len Yb Yb) h hv)
   rw[if_neg p18]at h;by_cases p21:p<=21
   ·rw[if_pos p21]at h;exact .inl (q7 (len Yb Yb) h hv)
   rw[if_neg p21]at h;by_cases p22:p=22
   ·rw[if_pos p22]at h;by_cases q:(aT s.f (nth s.i.args 0) 4).2=true
    ·rw[if_pos q]at h;have l1:=len Yb Yb;have l2:=hok.one.two (by rw[c3,p22];exact .inl Yc);obtain⟨m1,m2,-⟩:=kh q;have l3:=(hok.all _ m1).two Yb;cases h;rcases LF.1 hv with rfl | hv
     ·exact .inr ⟨_,_,cr Yb,q,cr Yb⟩
     rcases LF.1 hv with rfl | hv
     ·exact .inr ⟨_,_,cr Yb,q,cr Yb⟩
     rcases LF.1 hv with rfl | hv
     ·exact .inl (cr Yb)
     cases hv
    rw[if_neg q]at h;cases h
   rw[if_neg p22]at h;by_cases p26:p<=26
   ·rw[if_pos p26]at h;exact zA hok.all (len Yb Yb) h hv
   rw[if_neg p26]at h;by_cases p30:p<=30
   ·rw[if_pos p30]at h;exact zA hok.all (len Yb Yb) h hv
   rw[if_neg p30]at h;by_cases p31:p=31
   ·rw[if_pos p31]at h;cases h;exact .inl hv
   rw[if_neg p31]at h;cases h;exact .inl hv
  cases h
theorem xN{f:an}(m:ld f)(hsm:SmF f)(hr : ∀i∈fk f,-2147483648<=i.imm.v/\i.imm.v<=2147483647):Down f (whS f):=by
 intro b i pat x v w hpl hx hv hw;obtain⟨h1,h2,h3,h4⟩:=An (temp:=0) m hsm hr hpl;obtain⟨b',k',hb',hk',rfl,hd,ho16,ho18,hfo⟩:=Es hw;simp[dA]at hpl;obtain⟨⟨⟨g1,g2⟩,g3⟩,g4⟩:=hpl;have hb:b.toNat<f.blocks.length:=by omega
 have made : ∀{b k:Nat} {u:Int},b<f.blocks.length->k<(nth f.blocks b).ins.length->(nth (nth f.blocks b).ins k).dst=u->(nth (nth f.blocks b).ins k).op≠16->u∈(insT f b k).mks:=by intro b k u hb hk hd ho;show u∈di (nth (nth f.blocks b).ins k);unfold di;rw[if_neg ho];split<;>simp[hd]
 have hmk:=made hb' hk' hd ho16;obtain⟨t,ht,htb,htp,hta⟩ : ∃t∈aJ f,t.blk=b/\t.place=i/\t.tks=ownArgs (fl f b i 0):=by
  unfold ownArgs fl;by_cases e:i=(nth f.blocks b.toNat).ins.length
  ·rw[if_pos e,if_pos rfl];exact⟨_,Dz hb,by show((b.toNat:Nat):Int)=b;omega,by show(((nth f.blocks b.toNat).ins.length:Nat):Int)=i;omega,rfl⟩
  rw[if_neg e,if_neg Sa];exact⟨_,oY hb (k:=i.toNat) Yb,by show((b.toNat:Nat):Int)=b;omega,by show((i.toNat:Nat):Int)=i;omega,rfl⟩
 have key : ∃t2∈aJ f,t2.blk=b/\t2.place<=i/\v∈t2.tks:=by
  rcases AE h1 h2 hx hv with hv | ⟨v2,op,hv2,hf2,hv⟩
  ·exact⟨t,ht,htb,by omega,by rw[hta];exact hv⟩
  rw[h4]at hf2 hv;obtain⟨m1,m2,m3,m4,m5⟩:=kh hf2;obtain⟨b2,k2,hb2,hk2,e2⟩:=nL.1 m1;rw[e2]at m4 m5 hv;have hm2:=made hb2 hk2 m4 m5;obtain⟨q1,q2⟩:=pJ m3 (oY hb2 hk2) ht hm2 (by rw[hta];exact hv2);exact⟨_,oY hb2 hk2,by rw[q1,htb],by rw[htp]at q2;omega,hv⟩
 obtain⟨t2,ht2,e1,e2,e3⟩:=key;obtain⟨q1,q2⟩:=pJ hfo (oY hb' hk') ht2 hmk e3;have q1:(b':Int)=t2.blk:=q1;have q2:(k':Int)<t2.place:=q2;refine⟨?_,by simp only;omega⟩;simp[dA];omega
def fG:List Int:=[1,2,1,1,3,1,1,1,1,1,1,1,1,1,12,1,1,1,1,1,1,3,2,2,2,4,1,1,1,3,6,4,1,1,1,1,2]
def allT:List eW:=rows (λi=>⟨(i:Int)+1,nth fG i⟩) 37
variable{W:View}
theorem rz{p c:Int}(hp:I64 p)(hc:I64 c):Rd W (.agg #[.int .i64 p,.int .i64 c]) (⟨p,c⟩:eW):=by unfold Rd;rw[if_pos (show Rep.agg eW=true from rfl)];exact⟨_,rfl,[.int .i64 p],[.int .i64 c],rfl,⟨rfl,hp⟩,rfl,hc⟩
theorem tW {W:View} : ∀{l:List Int},(∀x∈l,I64 x)->oB W (l.map λc=>.int .i64 c) l
 | [],_=>trivial
 | x::l,h=>⟨bK.2 ⟨rfl,h x (LA ..)⟩,tW λy hy=>h y (LB _ hy)⟩
theorem wZ: ∀x∈fG,1<=x/\x<=12:=by
 have h:fG.all (λx=>decide (1<=x)&&decide (x<=12))=true:=by kernel_rfl
 exact λx hx=>by simpa using L6.1 h x hx
theorem E6{h:Heap}:az Tryz.prog N.fg #[] h (λu h'=>(vw h).le (vw h')/\SlRd (vw h') u allT):=by
 refine aw (args:=[]) follows F.fg E.fg (Lm Ya) λK hK=>?_;dsimp only[L.fg,lkF,lkG];refine ab λz hz=>?_;simp;subst hz;refine ab λz hz=>?_;simp;subst hz;refine ab λz hz=>?_;simp;refine kz (α:=Int) (ds:=fG) (vs:=fG.map λc=>.int .i64 c) (X:=nothing) El.aY Ya (tW λx hx=>by have:=wZ x hx;constructor<;>omega) rfl Yc Yc λuc h1 hle1 hs1 huc hb1=>?_;have huc:=huc (vw h1) (bS) rfl;have hl:=huc.len (K:=vw h1);have hl37:fG.length=37:=rfl;rw[hl37]at hl;simp[hl];refine aS [0,1,4,5,6] (fun(vo:Value) k=>[.slice none 0 0,vo,uc,.int .i64 37,.int .i64 k])
   (λvo k h2=>Mine nothing h1 h2 nothing T.lX vo (rows (λi=>(⟨(i:Int)+1,nth fG i⟩:eW)) k)) 37 (.slice none 0 0)
   rfl Yb rfl (Mine.start bS) (λ_ _=>rfl) (λv i h1 hk m=>by simp) ?_ ?_
 ·rintro vo k h2 hk m K2 hK2;have hle:=m.old;have e1:=huc.idx1 (k:=.i64) (i:=(k:Int)) rfl Yb (by rw[hl37];omega);have e2:=ae hle (huc.int (View.le_refl _) (i:=k) (by rw[hl37];omega));simp only[LN]at e1;have hc:=wZ _ (cr (l:=fG) (i:=k) (by rw[hl37];omega));have ew:IntKind.i64.wrap ((k:Int)+1)=(k:Int)+1:=bZ Yb Yb;refine ab λy hy=>?_;simp[e1,e2];subst hy;simp[ew];refine ay (t:=T.lX) (z:=.agg #[.int .i64 0,.int .i64 0]) (places:=[(0,1),(1,1)]) (vs:=[(0,.int .i64 ((k:Int)+1)),(1,.int .i64 (nth fG k))]) (cs:=#[.int .i64 ((k:Int)+1),.int .i64 (nth fG k)]) Ya Ya Sa Ya ?_;refine m.push (u:=.agg #[.int .i64 ((k:Int)+1),.int .i64 (nth fG k)]) El.kr Sa (rz (by constructor<;>omega) (by constructor<;>omega)) (by simp;omega) (by simp;omega) (λ_=>by simp) (λ_=>by simp) λu v' h5 m'=>?_;refine hK2 v' _ _ rfl rfl ?_;rw[fA];exact m'
 rintro vo h2 m;simp;subst hz;simp;exact hK _ _ ⟨View.le_trans hle1 m.old,m.now⟩
variable{va vb:Value}
theorem Cr{a b:List Int}{h:Heap}(ha:SlRd (vw h) va a)(hb:SlRd (vw h) vb b):
  az Tryz.prog N.dG #[va,vb] h (λu h'=>u = .bool (decide (a=b))/\h'=h):=by
 refine aw (args:=[va,vb]) follows F.dG E.dG (Lm Ya) λK hK=>?_;have hbd:=ha.bound;dsimp only[L.dG,lkF,lkG];refine ab λz hz=>?_;simp;subst hz;refine ab λz hz=>?_;by_cases hl:a.length=b.length
 ·have hl':(a.length:Int)=b.length:=by omega
  simp[ha.len,hb.len,hl'];subst hz;refine ab λz hz=>?_;simp;refine dR [0,1,4,5] (fun(_:Unit) i=>[va,vb,.bool false,.int .i64 i]) (λ_ i h3=>h3=h/\∀j,j<i->nth a j=nth b j) a.length ()
   rfl Yb rfl ⟨rfl,λj hj=>by omega⟩ (λ_ _=>rfl) (λv k h3 hk m=>by simp[ha.len]) ?_ ?_
  ·rintro _ i h hlti ⟨rfl,hpre⟩ K2 hK2;have e1:=ha.idx1 rfl (k:=.i64) (i:=(i:Int)) Yb Yb;have e2:=hb.idx1 rfl (k:=.i64) (i:=(i:Int)) Yb Yb;have e3:=ha.int (View.le_refl _) (i:=i) hlti;have e4:=hb.int (View.le_refl _) (i:=i) Yb;simp only[LN]at e1 e2;by_cases e:nth a i=nth b i
   ·simp[e1,e2,e3,e4,e];refine hK2 () _ _ rfl rfl ⟨rfl,λj hj=>?_⟩;rcases Lr j i with q | q
    ·exact hpre j q
    have:j=i:=by omega
    subst this;exact e
   simp[e1,e2,e3,e4,e];exact hK _ _ ⟨by rw[decide_eq_false];rintro rfl;exact e rfl,rfl⟩
  rintro _ h ⟨rfl,hpre⟩;have he:a=b:=Ng hl λj h1 h2=>by have:=hpre j h1;rwa [aC h1,aC h2]at this
  simp;subst hz;simp;exact hK _ _ ⟨by rw[decide_eq_true he],rfl⟩
 have hl':¬(a.length:Int)=b.length:=by omega
 simp[ha.len,hb.len,hl'];exact hK _ _ ⟨by rw[decide_eq_false];rintro rfl;exact hl rfl,rfl⟩
def vJ (a b:bH):Bool:=decide (a.op=b.op)&&decide (a.d=b.d)&&decide (a.e=b.e)&&decide (a.a=b.a)&&decide (a.b=b.b)&&decide (a.c=b.c)&&decide (a.imm.v=b.imm.v)&&decide (a.args=b.args)
theorem Di{a b:bH}:vJ a b=true↔a=b:=by unfold vJ;obtain⟨a1,a2,a3,a4,a5,a6,⟨a7⟩,a8⟩:=a;obtain⟨b1,b2,b3,b4,b5,b6,⟨b7⟩,b8⟩:=b;simp[and_assoc]
variable{H:View}
theorem sv{ρ:Nat->Option Value}{a b:E}{p q:Bool}(ha:ev ρ H a=some (.bool p))(hb:p=true->ev ρ H b=some (.bool q)):ev ρ H (.ite a b (.con (.bool false)))=some (.bool (p&&q)):=by
 cases p with
 | true=>simp[ha,hb rfl]
 | false=>simp[ha]
theorem qd{ρ:Nat->Option Value}{a b:E}{k:IntKind}{x y:Int}(ha:ev ρ H a=some (.int k x))(hb:ev ρ H b=some (.int k y)):ev ρ H (.bin (.cmp .eql) a b)=some (.bool (decide (x=y))):=by simp[ha,hb]
theorem ir{ρ:Nat->Option Value}{n off B:Nat}{v:Value}(h2:ρ n=some (.pointer (some ⟨B,0,none⟩)))(hc:ao H (Addr.add ⟨B,0,none⟩ off)=some v):ev ρ H (.un .load (.un (.fld off) (.tmp n)))=some v:=by simp[h2];simpa using hc
theorem Al{a b:bH}{h:Heap}(hW:W.le (vw h))(ha:Rd W va a)(hb:Rd W vb b):
  az Tryz.prog N.eG #[va,vb] h (λu h'=>u = .bool (vJ a b)/\(vw h).le (vw h')):=by
 refine aw (args:=[va,vb]) follows F.eG E.eG (Lm Ya) λK hK=>?_;dsimp only[L.eG,lkF,lkG];have c0:=Cx.start hW;refine ab λz hz=>?_;simp;refine c0.dK rfl ha λA h1 W1 hW1 c1 at1 hle1=>?_;refine c1.dK rfl (hb.mono hW1) λB h2 W2 hW2 c2 at2 hle2=>?_;have at1:=at1.mono hW2;subst hz;have a0:=ae c2.wle (at1.part bH.tB).int;have a1:=ae c2.wle (at1.part bH.KH).int;have a2:=ae c2.wle (at1.part bH.K7).int;have a3:=ae c2.wle (at1.part bH.Kr).int;have a4:=ae c2.wle (at1.part bH.KR).int;have a5:=ae c2.wle (at1.part bH.KC).int;have b0:=ae c2.wle (at2.part bH.tB).int;have b1:=ae c2.wle (at2.part bH.KH).int;have b2:=ae c2.wle (at2.part bH.K7).int;have b3:=ae c2.wle (at2.part bH.Kr).int;have b4:=ae c2.wle (at2.part bH.KR).int;have b5:=ae c2.wle (at2.part bH.KC).int;obtain⟨ua,ka,sa⟩:=(at1.part bH.fj).sl;obtain⟨ub,kb,sb⟩:=(at2.part bH.fj).sl;refine ab λz hz=>?_;generalize hc:(E.ite (E.ite (E.ite (E.ite (E.ite (E.ite _ _ _) _ _) _ _) _ _) _ _) _ _)=c;have a6:=ae c2.wle (at1.part bH.jQ).i32;have b6:=ae c2.wle (at2.part bH.jQ).i32;have hcv : ∀ρ:Nat->Option Value,ρ 2=some (.pointer (some ⟨A,0,none⟩))->ρ 3=some (.pointer (some ⟨B,0,none⟩))->ev ρ (vw h2) c=some (.bool (decide (a.op=b.op)&&decide (a.d=b.d)&&decide (a.e=b.e)&&decide (a.a=b.a)&&decide (a.b=b.b)&&decide (a.c=b.c)&&decide (a.imm.v=b.imm.v))):=λρ r2 r3=>by rw[<-hc];exact sv (sv (sv (sv (sv (sv (qd (ir r2 a0) (ir r3 b0)) λ_=>(qd (ir r2 a1) (ir r3 b1))) λ_=>(qd (ir r2 a2) (ir r3 b2))) λ_=>(qd (ir r2 a3) (ir r3 b3))) λ_=>(qd (ir r2 a4) (ir r3 b4))) λ_=>(qd (ir r2 a5) (ir r3 b5))) λ_=>(qd (ir r2 a6) (ir r3 b6))
 have hka:=ae c2.wle ka;have hkb:=ae c2.wle kb;simp at hka hkb;have key:vJ a b=((decide (a.op=b.op)&&decide (a.d=b.d)&&decide (a.e=b.e)&&decide (a.a=b.a)&&decide (a.b=b.b)&&decide (a.c=b.c)&&decide (a.imm.v=b.imm.v))&&decide (a.args=b.args)):=rfl;rw[key]at hK;clear key;generalize (decide (a.op=b.op)&&decide (a.d=b.d)&&decide (a.e=b.e)&&decide (a.a=b.a)&&decide (a.b=b.b)&&decide (a.c=b.c)&&decide (a.imm.v=b.imm.v))=q at hcv hK;clear hc a0 a1 a2 a3 a4 a5 a6 b0 b1 b2 b3 b4 b5 b6;cases q with
 | false=>simp[hcv];subst hz;simp;exact hK _ _ ⟨rfl,c2.le0⟩
 | true=>simp[hcv,hka,hkb];refine ah Ya (Cr (sa.mono c2.wle) (sb.mono c2.wle)) ?_;rintro _ h3 ⟨rfl,rfl⟩;subst hz;simp;exact hK _ _ ⟨by rw[Nv],c2.le0⟩
theorem zj{a b:List bH}{h:Heap}(hW:W.le (vw h))(ha:SlRd W va a)(hb:SlRd W vb b):
  az Tryz.prog N.bX #[va,vb] h (λu h'=>u = .bool (decide (a=b))/\(vw h).le (vw h')):=by
 refine aw (args:=[va,vb]) follows F.bX E.bX (Lm Ya) λK hK=>?_;have hbd:=ha.bound;have c0:=Cx.start hW;dsimp only[L.bX,lkF,lkG];refine ab λz hz=>?_;simp;subst hz;refine ab λz hz=>?_;by_cases hl:a.length=b.length
 ·have hl':(a.length:Int)=b.length:=by omega
  simp[ha.len,hb.len,hl'];subst hz;refine ab λz hz=>?_;simp;refine dR [0,1,4,5] (fun(_:Unit) i=>[va,vb,.bool false,.int .i64 i]) (λ_ i h3=>(∃W3,W.le W3/\Cx W h W3 h3 λ_=>none)/\∀j,j<i->nth a j=nth b j) a.length ()
   rfl Yb rfl ⟨⟨W,View.le_refl _,c0⟩,λj hj=>by omega⟩ (λ_ _=>rfl) (λv k h3 hk m=>by simp[ha.len]) ?_ ?_
  ·rintro _ i h3 hlti ⟨⟨W3,hW3,c3⟩,hpre⟩ K2 hK2;obtain⟨ua,hua,rua⟩:=(ha.mono hW3).wh rfl (N:=8) rfl hlti;obtain⟨ub,hub,rub⟩:=(hb.mono hW3).wh rfl (N:=8) rfl (i:=i) Yb;refine ab λy hy=>?_;refine aP W3 c3.wle ?_;simp(disch:=omega)[(ha.mono hW3).idxn (N:=8) rfl,(hb.mono hW3).idxn (N:=8) rfl,hua _ (View.le_refl _),hub _ (View.le_refl _)];refine ah Ya (Al c3.wle rua rub) ?_;rintro _ h4 ⟨rfl,hle4⟩;have c4:=c3.ext hle4;have e:vJ (nth a i) (nth b i)=decide (nth a i=nth b i):=LV.2 (by rw[Di,decide_eq_true_iff]);by_cases e2:nth a i=nth b i
   ·have e':vJ (nth a i) (nth b i)=true:=by rw[e,decide_eq_true e2]
    simp[e'];subst hy;simp;refine hK2 () _ _ rfl rfl ⟨⟨_,View.le_trans hW3 c3.up,c4⟩,λj hj=>?_⟩;rcases Lr j i with q | q
    ·exact hpre j q
    have:j=i:=by omega
    subst this;exact e2
   have e':vJ (nth a i) (nth b i)=false:=by rw[e,decide_eq_false e2]
   simp[e'];subst hy;simp;exact hK _ _ ⟨by rw[decide_eq_false];rintro rfl;exact e2 rfl,c4.le0⟩
  rintro _ h3 ⟨⟨W3,hW3,c3⟩,hpre⟩;have he:a=b:=Ng hl λj h1 h2=>by have:=hpre j h1;rwa [aC h1,aC h2]at this
  simp;subst hz;simp;exact hK _ _ ⟨by rw[decide_eq_true he],c3.le0⟩
 have hl':¬(a.length:Int)=b.length:=by omega
 simp[ha.len,hb.len,hl'];exact hK _ _ ⟨by rw[decide_eq_false];rintro rfl;exact hl rfl,View.le_refl _⟩
theorem uP{p:Nat}(h1:1<=p)(h2:p<=37):hasS allT (p:Int)=true:=by
 have h:(List.range 38).all (λp=>decide (p=0)||hasS allT (p:Int))=true:=by kernel_rfl
 have:=L6.1 h p (by simp;omega);simp at this;rcases this with e | e
 ·omega
 exact e
theorem all_zero:hasS allT 0=true:=by kernel_rfl
theorem Cu:jr allT=(0,0):=by kernel_rfl
def wx (op:Int):Nat:=if op=1 then 2 else if op<=14 then(op+1).toNat else if op=15 then 26 else if op=16 then 30 else if op=17 then 31 else 32
theorem AF{f:an}{i:InsD}(h:1<=i.op/\i.op<=18):(doS f i 0 (wx i.op)).isSome=true/\opOf (wx i.op)=i.op/\1<=wx i.op/\wx i.op<=32:=by
 obtain⟨h1,h2⟩:=h;obtain⟨n,hn⟩ : ∃n:Nat,i.op=n:=⟨i.op.toNat,by omega⟩;rw[hn];have:n<19:=by omega
 have n0:1<=n:=by omega
 match n,this,n0 with
 | 1,_,_=>exact⟨rfl,by decide,by decide,by decide⟩
 | 2,_,_=>exact⟨rfl,by decide,by decide,by decide⟩
 | 3,_,_=>exact⟨rfl,by decide,by decide,by decide⟩
 | 4,_,_=>exact⟨rfl,by decide,by decide,by decide⟩
 | 5,_,_=>exact⟨rfl,by decide,by decide,by decide⟩
 | 6,_,_=>exact⟨rfl,by decide,by decide,by decide⟩
 | 7,_,_=>exact⟨rfl,by decide,by decide,by decide⟩
 | 8,_,_=>exact⟨rfl,by decide,by decide,by decide⟩
 | 9,_,_=>exact⟨rfl,by decide,by decide,by decide⟩
 | 10,_,_=>exact⟨rfl,by decide,by decide,by decide⟩
 | 11,_,_=>exact⟨rfl,by decide,by decide,by decide⟩
 | 12,_,_=>exact⟨rfl,by decide,by decide,by decide⟩
 | 13,_,_=>exact⟨rfl,by decide,by decide,by decide⟩
 | 14,_,_=>exact⟨rfl,by decide,by decide,by decide⟩
 | 15,_,_=>exact⟨rfl,by decide,by decide,by decide⟩
 | 16,_,_=>exact⟨rfl,by decide,by decide,by decide⟩
 | 17,_,_=>exact⟨rfl,by decide,by decide,by decide⟩
 | 18,_,_=>exact⟨rfl,by decide,by decide,by decide⟩
 | 0,_,h=>omega
 | n+19,h,_=>omega
theorem DE{f:an}{t:dD}(h:1<=t.kind/\t.kind<=5): ∃p:Int,(gu f t p).isSome=true/\(p=0\/p=33\/p=37):=by
 have:t.kind=1\/t.kind=2\/t.kind=3\/t.kind=4\/t.kind=5:=by omega
 rcases this with e | e | e | e | e
 ·exact⟨0,by simp[gu,e],.inl rfl⟩
 ·exact⟨33,by simp[gu,e],.inr (.inl rfl)⟩
 ·exact⟨37,by simp[gu,e],.inr (.inr rfl)⟩
 ·exact⟨0,by simp[gu,e],.inl rfl⟩
 exact⟨0,by simp[gu,e],.inl rfl⟩
theorem Gn{f:an}(m:ld f){b k:Nat}(hb:b<f.blocks.length)(hk:k<(nth f.blocks b).ins.length):1<=(nth (nth f.blocks b).ins k).op/\(nth (nth f.blocks b).ins k).op<=18:=by obtain⟨-,h⟩:=m.insG hb hk;unfold sN at h;simp at h;exact h.1
theorem E1{f:an}(m:ld f){b:Nat}(hb:b<f.blocks.length):1<=(nth f.blocks b).term.kind/\(nth f.blocks b).term.kind<=5:=by
 have h:=(m.endG hb).1;unfold tw at h;by_cases e1:(nth f.blocks b).term.kind=1
 ·omega
 by_cases e2:(nth f.blocks b).term.kind=2
 ·omega
 by_cases e3:(nth f.blocks b).term.kind=3
 ·omega
 by_cases e4:(nth f.blocks b).term.kind=4
 ·omega
 by_cases e5:(nth f.blocks b).term.kind=5
 ·omega
 rw[if_neg e1,if_neg e2,if_neg e3,if_neg e4,if_neg e5]at h;cases h
theorem A5{f:an}(m:ld f){b i:Int}(h:dA f b i=true): ∃p x,hasS allT p=true/\tryS (fl f b i 0) p=some x:=by
 simp[dA]at h;obtain⟨⟨⟨h1,h2⟩,h3⟩,h4⟩:=h;unfold tryS fl;by_cases e:i=(nth f.blocks b.toNat).ins.length
 ·rw[if_pos e];obtain⟨p,hp,hq⟩:=DE (f:=f) (E1 m (b:=b.toNat) Yb);obtain⟨x,hx⟩:=Nu.1 hp;refine⟨p,x,?_,hx⟩;rcases hq with rfl | rfl | rfl
  ·exact all_zero
  ·exact uP (p:=33) Yc Yc
  exact uP (p:=37) Yc Yc
 rw[if_neg e];obtain⟨g1,g2,g3,g4⟩:=AF (f:=f) (Gn m (b:=b.toNat) (k:=i.toNat) Yb Yb);obtain⟨x,hx⟩:=Nu.1 g1;refine⟨(wx (nth (nth f.blocks b.toNat).ins i.toNat).op:Nat),x,uP g3 Yb,?_⟩;show(if false=true then _ else patS _ _ _ _)=_;rw[if_neg Sa];unfold patS;rw[if_pos ⟨by omega,by omega,by rw[LN,g2]⟩,LN];exact hx
theorem Cn {f:an} (m:ld f) (hd:Down f (whS f)) : ∀(n:Nat) (b i:Int),dA f b i=true->i<n->canS f (hasS allT) (whS f) n b i=true
 | 0,b,i,hp,hi=>by simp[dA]at hp;omega
 | n+1,b,i,hp,hi=>by
  obtain⟨p,x,h1,h2⟩:=A5 m hp;refine wm.2 ⟨p,?_⟩;unfold canP;rw[h1,h2,Nv];show pD _ _ x.takes=true;unfold pD;refine L6.2 λv hv=>?_;cases hw:whS f v with
  | none=>rfl
  | some w=>obtain⟨g1,g2⟩:=hd b i p x v w hp h2 hv hw;exact Cn m hd n w.1 w.2 g1 Yb
theorem Bk{f:an}(hsm:SmF f)(hr : ∀i∈fk f,-2147483648<=i.imm.v/\i.imm.v<=2147483647):ig allT f=if kY f=true then(0,0,0) else(1,0,0):=by
 unfold ig;rw[Cu,if_neg Sa];cases h:kY f with
 | false=>rfl
 | true=>
  have m:=lF h;have hd:=xN m hsm hr;have:lG f (hasS allT)=none:=by
   unfold lG;refine List.findSome?_eq_none_iff.2 λb hb=>?_;rw[Option.map_eq_none_iff];unfold rK;refine List.find?_eq_none.2 λi hi=>?_;unfold rh;have hp:dA f b i=true:=by simp at hb hi;simp[dA];omega
   rw[Cn m hd (i+1) b i hp Yb];simp
  rw[this];rfl
theorem BN{op dst two:Int}{l:List Int}{imm:I32}(h1:I64 op)(h2:I64 dst)(h3:I64 two)(h4:SlRd H va l)(h5:-2147483648<=imm.v/\imm.v<=2147483647):Rd H (.agg #[.int .i64 op,.int .i64 dst,.int .i64 two,va,.int .i32 imm.v]) (InsD.mk op dst two l imm):=
 ⟨_,rfl,[.int .i64 op],_,rfl,⟨rfl,h1⟩,[.int .i64 dst],_,rfl,⟨rfl,h2⟩,[.int .i64 two],_,rfl,⟨rfl,h3⟩,[va],_,rfl,⟨va,rfl,h4⟩,rfl,h5⟩
theorem GC{vp vi vt:Value}{p:List PhiD}{i:List InsD}{a t:List Int}{kd:Int}{imm:I32}(h1:SlRd H vp p)(h2:SlRd H vi i)(h3:SlRd H va a)(h4:SlRd H vt t)(h5:I64 kd)(h6:-2147483648<=imm.v/\imm.v<=2147483647):Rd H (.agg #[vp,vi,.int .i64 kd,va,vt,.int .i32 imm.v]) (BlkD.mk p i ⟨kd,a,t,imm⟩):=
 ⟨_,rfl,[vp],_,rfl,⟨vp,rfl,h1⟩,[vi],_,rfl,⟨vi,rfl,h2⟩,[.int .i64 kd],_,rfl,⟨rfl,h5⟩,[va],_,rfl,⟨va,rfl,h3⟩,[vt],_,rfl,⟨vt,rfl,h4⟩,rfl,h6⟩
theorem vC{p:Int}{l:List BlkD}(h1:I64 p)(h2:SlRd H vb l):Rd H (.agg #[.int .i64 p,vb]) (an.mk p l):=
 ⟨_,rfl,[.int .i64 p],_,rfl,⟨rfl,h1⟩,vb,rfl,h2⟩
theorem SlRd.ex{α:Type}[Rep α]{v:Value}{l:List α}(s:SlRd H v l): ∃a n c,v = .slice a n c:=let ⟨a,c,e,_⟩:=s;⟨a,_,c,e⟩
def twoF:an:=⟨2,[⟨[],[⟨1,2,0,[],⟨5⟩⟩,⟨2,3,0,[1,2],⟨0⟩⟩],⟨4,[3],[],⟨0⟩⟩⟩]⟩
theorem IS{h:Heap}(hW:W.le (vw h)):az Tryz.prog N.gY #[] h (λu h'=>(vw h).le (vw h')/\Rd (grow W h h') u twoF):=by refine aw (args:=[]) follows F.gY E.gY (Lm Ya) λK hK=>?_;dsimp only[L.gY,lkF,lkG];have c0:=Cx.start hW;refine ab λz hz=>?_;simp;refine c0.cQ (k:=(0,0)) (n:=1) (z:=.agg #[.int .i64 0,.slice none 0 0]) rfl Ya rfl Yc (by simp[Value.cells,Value.oneCell']) λR h1 hle1 c1=>?_;subst hz;refine ab λz hz=>?_;simp;refine ay (t:=T.eC) (z:=.agg #[.int .i64 0,.int .i64 0,.int .i64 0,.slice none 0 0,.int .i32 0]) (places:=[(0,1),(1,1),(2,1),(3,1),(4,1)]) (vs:=[(0,.int .i64 1),(1,.int .i64 2),(4,.int .i32 5)]) (cs:=#[.int .i64 1,.int .i64 2,.int .i64 0,.slice none 0 0,.int .i32 5]) Ya Ya Sa Ya ?_;refine c1.kR (α:=Int) (vs:=[.int .i64 1,.int .i64 2]) (ds:=[1,2]) El.aY Ya ⟨bK.2 ⟨rfl,by decide⟩,bK.2 ⟨rfl,by decide⟩,trivial⟩ rfl Yc Yc λu2 h2 W2 hW2 c2 s2 hle2=>?_;obtain⟨b2,n2,k2,rfl⟩:=SlRd.ex s2;refine ay (t:=T.eC) (z:=.agg #[.int .i64 0,.int .i64 0,.int .i64 0,.slice none 0 0,.int .i32 0]) (places:=[(0,1),(1,1),(2,1),(3,1),(4,1)]) (vs:=[(0,.int .i64 2),(1,.int .i64 3),(3,(.slice b2 n2 k2))]) (cs:=#[.int .i64 2,.int .i64 3,.int .i64 0,(.slice b2 n2 k2),.int .i32 0]) Ya Ya Sa (by simp[Instr.fill,Value.cells]) ?_;refine c2.kR (α:=InsD) (vs:=[.agg #[.int .i64 1,.int .i64 2,.int .i64 0,.slice none 0 0,.int .i32 5],.agg #[.int .i64 2,.int .i64 3,.int .i64 0,(.slice b2 n2 k2),.int .i32 0]]) (ds:=[⟨1,2,0,[],⟨5⟩⟩,⟨2,3,0,[1,2],⟨0⟩⟩]) El.jE Sa ⟨BN ⟨by decide,by decide⟩ ⟨by decide,by decide⟩ ⟨by decide,by decide⟩ aO Yc,BN ⟨by decide,by decide⟩ ⟨by decide,by decide⟩ ⟨by decide,by decide⟩ s2 Yc,trivial⟩ rfl Yc Yc λu3 h3 W3 hW3 c3 s3 hle3=>?_;obtain⟨b3,n3,k3,rfl⟩:=SlRd.ex s3;refine c3.kR (α:=Int) (vs:=[.int .i64 3]) (ds:=[3]) El.aY Ya ⟨bK.2 ⟨rfl,by decide⟩,trivial⟩ rfl Yc Yc λu4 h4 W4 hW4 c4 s4 hle4=>?_;obtain⟨b4,n4,k4,rfl⟩:=SlRd.ex s4;refine ay (t:=T.jj) (z:=.agg #[.int .i64 0,.slice none 0 0,.slice none 0 0,.int .i32 0]) (places:=[(0,1),(1,1),(2,1),(3,1)]) (vs:=[(0,.int .i64 4),(1,(.slice b4 n4 k4))]) (cs:=#[.int .i64 4,(.slice b4 n4 k4),.slice none 0 0,.int .i32 0]) Ya Ya Sa (by simp[Instr.fill,Value.cells]) ?_;refine ay (t:=T.dh) (z:=.agg #[.slice none 0 0,.slice none 0 0,.int .i64 0,.slice none 0 0,.slice none 0 0,.int .i32 0]) (places:=[(0,1),(1,1),(2,4)]) (vs:=[(1,(.slice b3 n3 k3)),(2,.agg #[.int .i64 4,(.slice b4 n4 k4),.slice none 0 0,.int .i32 0])]) (cs:=#[.slice none 0 0,(.slice b3 n3 k3),.int .i64 4,(.slice b4 n4 k4),.slice none 0 0,.int .i32 0]) Ya Ya Sa (by simp[Instr.fill,Value.cells]) ?_;refine c4.kR (α:=BlkD) (vs:=[.agg #[.slice none 0 0,(.slice b3 n3 k3),.int .i64 4,(.slice b4 n4 k4),.slice none 0 0,.int .i32 0]]) (ds:=twoF.blocks) El.jA Sa ⟨GC aO (s3.mono hW4) s4 aO ⟨by decide,by decide⟩ Yc,trivial⟩ rfl Yc Yc λu5 h5 W5 hW5 c5 s5 hle5=>?_;obtain⟨b5,n5,k5,rfl⟩:=SlRd.ex s5;refine ay (t:=T.cz) (z:=.agg #[.int .i64 0,.slice none 0 0]) (places:=[(0,1),(1,1)]) (vs:=[(0,.int .i64 2),(1,(.slice b5 n5 k5))]) (cs:=#[.int .i64 2,(.slice b5 n5 k5)]) Ya Ya Sa (by simp[Instr.fill,Value.cells]) ?_;refine c5.bD (α:=an) (k:=(0,0)) (n:=1) Ri (vC (p:=2) ⟨by decide,by decide⟩ s5) rfl rfl Ya Sa Sa λh6 l6 hl6 c6=>?_;subst hz;have hall:=c6.all (k:=(0,0)) (n:=1) (l:=l6) (B:=R) (e:=T.cz) Ri;simp at hall;simp[hall];refine hK _ _ ⟨c6.le0,?_⟩;rw[<-hl6];exact(vC (p:=2) ⟨by decide,by decide⟩ s5).mono c6.fin
theorem DO:kY twoF=true:=by kernel_rfl
theorem xL:SmF twoF:=by
 refine⟨by decide,λi hi=>?_⟩;have hi:i<1:=hi;obtain rfl:i=0:=by omega
 refine⟨by decide,by decide,by decide,by decide,λj hj=>absurd hj (Nat.not_lt_zero _),λj hj=>?_⟩;have hj:j<2:=hj;rcases j with _ | _ | j
 ·decide
 ·decide
 omega
theorem yo: ∀i∈fk twoF,i.op=15\/i.op=16->lL:=by intro i hi ho;have:fk twoF=[⟨1,2,0,[],⟨5⟩⟩,⟨2,3,0,[1,2],⟨0⟩⟩]:=rfl;rw[this]at hi;simp at hi;rcases hi with rfl | rfl<;>simp at ho
theorem EV:Down twoF (whS twoF):=xN (lF DO) xL (by intro i hi;have:fk twoF=[⟨1,2,0,[],⟨5⟩⟩,⟨2,3,0,[1,2],⟨0⟩⟩]:=rfl;rw[this]at hi;simp at hi;rcases hi with rfl | rfl<;>simp)
theorem Iy:jc twoF 0 1 16=some ⟨[1],[2],[⟨18,3,0,1,0,0,⟨5⟩,[]⟩],eR⟩:=by kernel_rfl
theorem JS:jc twoF 0 1 3=some ⟨[1,2],[],[⟨5,3,0,1,2,0,⟨0⟩,[]⟩],eR⟩:=by kernel_rfl
theorem Jg:jc twoF 0 1 17=none:=by kernel_rfl
theorem Hm:kN twoF 0 1 16 9=some ⟨[1],[2],[⟨18,3,0,1,0,0,⟨5⟩,[]⟩],eR⟩:=by kernel_rfl
theorem II:kN twoF 0 2 0 9=some ⟨[3],[],[],⟨7,3,0,[],⟨0⟩⟩⟩:=by kernel_rfl
theorem Hc:jr [⟨1,0⟩,⟨38,0⟩]=(20,1):=by kernel_rfl
theorem Jj:ig [⟨1,0⟩] twoF=(21,0,2):=by kernel_rfl
theorem Ha:ig [⟨16,0⟩] twoF=(0,0,0):=by kernel_rfl
theorem Is:pN 16=⟨#[97,100,100,105]⟩:=by kernel_rfl
theorem two'{h:Heap}:az Tryz.prog N.gY #[] h (λu h'=>(vw h).le (vw h')/\Rd (vw h') u twoF):=
 (IS (View.le_refl _)).mono λu h' ⟨h1,h2⟩=>⟨h1,h2.mono (lk h1)⟩
theorem Bw{a:List Int}{h:Heap}(ha:SlRd (vw h) va a)(hb:SlRd (vw h) vb a):az Tryz.prog N.dG #[va,vb] h (λu h'=>u = .bool true/\h'=h):=
 (Cr ha hb).mono λu h' ⟨h1,h2⟩=>⟨by rw[h1,decide_eq_true rfl],h2⟩
theorem IG{a:List bH}{h:Heap}(ha:SlRd (vw h) va a)(hb:SlRd (vw h) vb a):az Tryz.prog N.bX #[va,vb] h (λu h'=>u = .bool true/\(vw h).le (vw h')):=
 (zj (View.le_refl _) ha hb).mono λu h' ⟨h1,h2⟩=>⟨by rw[h1,decide_eq_true rfl],h2⟩
theorem rJ{v:Value}{pat:Int}{h:Heap}(hv:Rd (vw h) v twoF)(hp:I64 pat){r:Option FitD}(hr:jc twoF 0 1 pat=r):
  az Tryz.prog N.gq #[v,.int .i64 0,.int .i64 1,.int .i64 pat] h (λu h'=>(vw h).le (vw h')/\∃v1 v2,u = .tuple #[v1,v2,.bool r.isSome]/\SlRd (vw h') v1 (CI r)/\SlRd (vw h') v2 (B0 r)):=by rw[<-hr];exact Eh (View.le_refl _) hv xL yo hp
theorem y3{v:Value}{p pat:Int}{h:Heap}(hv:Rd (vw h) v twoF)(hp:I64 pat){r:Option FitD}(hr:kN twoF 0 p pat 9=r):
  az Tryz.prog N.gW #[v,.int .i64 0,.int .i64 p,.int .i64 pat,.int .i64 9] h (λu h'=>(vw h).le (vw h')/\∃v1 v2,u = .tuple #[v1,v2,.bool r.isSome]/\SlRd (vw h') v1 (ES r)/\Rd (vw h') v2 (Ig r)):=by rw[<-hr];exact He (View.le_refl _) hv xL yo hp ⟨by decide,by decide⟩
theorem vZ{l:List eW}{vl v:Value}{h:Heap}(hl:SlRd (vw h) vl l)(hv:Rd (vw h) v twoF)(ht:Tab h){r:Int × Int × Int}(hr:ig l twoF=r):
  az Tryz.prog N.aQ #[vl,v] h (λu h'=>(vw h).le (vw h')/\u = .tuple #[.int .i64 r.1,.int .i64 r.2.1,.int .i64 r.2.2]):=by rw[<-hr];exact xA (View.le_refl _) hl hv xL ht yo λ_=>EV
theorem Dp{h:Heap}(ht:Tab h):az Tryz.prog N.ez #[] h (λu h'=>(vw h).le (vw h')/\u = .bool true):=by refine aw (args:=[]) follows F.ez E.ez (Lm Ya) λK hK=>?_;dsimp only[L.ez,lkF,lkG];refine ab λz hz=>?_;simp;subst hz;refine ab λz hz=>?_;simp;refine ah Ya two' ?_;rintro u26 h1 ⟨le1,r1⟩;refine ah Ya (rJ r1 ⟨by decide,by decide⟩ Iy) ?_;rintro _ h2 ⟨le2,va,vb,rfl,sa,sb⟩;simp;subst hz;refine ab λz hz=>?_;simp;refine ah Ya two' ?_;rintro u32 h3 ⟨le3,r3⟩;refine ah Ya (rJ r3 ⟨by decide,by decide⟩ JS) ?_;rintro _ h4 ⟨le4,vc,vd,rfl,sc,sd⟩;simp;subst hz;refine ab λz hz=>?_;simp;refine ah Ya two' ?_;rintro u38 h5 ⟨le5,r5⟩;refine ah Ya (rJ r5 ⟨by decide,by decide⟩ Jg) ?_;rintro _ h6 ⟨le6,ve,vf,rfl,se,sf⟩;simp;subst hz;refine ab λz hz=>?_;simp;refine ah Ya two' ?_;rintro u44 h7 ⟨le7,r7⟩;refine ah Ya (y3 r7 ⟨by decide,by decide⟩ Hm) ?_;rintro _ h8 ⟨le8,vg,vh,rfl,sg,sh⟩;simp;refine eK (X:=vw h8) (z:=.agg endZ.toArray) Ya rfl Ya sh (λ_=>by simp) (λ_=>by simp) λh9 le9 _ _=>?_;subst hz;refine ab λz hz=>?_;simp;refine ah Ya two' ?_;rintro u50 h10 ⟨le10,r10⟩;refine ah Ya (y3 r10 ⟨by decide,by decide⟩ II) ?_;rintro _ h11 ⟨le11,vi,vj,rfl,si,sj⟩;simp;refine eK (X:=vw h11) (z:=.agg endZ.toArray) Ya rfl Ya sj (λ_=>by simp) (λ_=>by simp) λh12 le12 _ at12=>?_;have at12:At (vw h12) ⟨h11.size,0,none⟩ (⟨7,3,0,[],⟨0⟩⟩:EndD):=at12 (vw h12) le12 rfl;have e0:=(at12.part EndD.tB).int;have e1:=(at12.part EndD.Kr).int;generalize h11.size=B at e0 e1;simp at e0 e1;subst hz;have la:(vw h).le (vw h12):=View.le_trans le1 (View.le_trans le2 (View.le_trans le3 (View.le_trans le4 (View.le_trans le5 (View.le_trans le6 (View.le_trans le7 (View.le_trans le8 (View.le_trans le9 (View.le_trans le10 (View.le_trans le11 le12))))))))));refine ab λz hz=>?_;simp;refine ay (t:=T.lX) (z:=.agg #[.int .i64 0,.int .i64 0]) (places:=[(0,1),(1,1)]) (vs:=[(0,.int .i64 1)]) (cs:=#[.int .i64 1,.int .i64 0]) Ya Ya Sa Ya ?_;refine ay (t:=T.lX) (z:=.agg #[.int .i64 0,.int .i64 0]) (places:=[(0,1),(1,1)]) (vs:=[(0,.int .i64 38)]) (cs:=#[.int .i64 38,.int .i64 0]) Ya Ya Sa Ya ?_;refine kz (α:=eW) (ds:=[⟨1,0⟩,⟨38,0⟩]) (vs:=[.agg #[.int .i64 1,.int .i64 0],.agg #[.int .i64 38,.int .i64 0]]) (X:=nothing) El.kr Sa ⟨rz ⟨by decide,by decide⟩ ⟨by decide,by decide⟩,rz ⟨by decide,by decide⟩ ⟨by decide,by decide⟩,trivial⟩ rfl Yc Yc λu58 h13 le13 _ s13 _=>?_;have s13:=s13 (vw h13) bS rfl;have t13:Tab h13:=ht.mono (View.le_trans la le13);refine ah Ya (rI (View.le_refl _) s13 t13) ?_;rw[Hc];rintro _ h14 ⟨le14,rfl⟩;simp;subst hz;refine ab λz hz=>?_;simp;refine ay (t:=T.lX) (z:=.agg #[.int .i64 0,.int .i64 0]) (places:=[(0,1),(1,1)]) (vs:=[(0,.int .i64 1)]) (cs:=#[.int .i64 1,.int .i64 0]) Ya Ya Sa Ya ?_;refine kz (α:=eW) (ds:=[⟨1,0⟩]) (vs:=[.agg #[.int .i64 1,.int .i64 0]]) (X:=nothing) El.kr Sa ⟨rz ⟨by decide,by decide⟩ ⟨by decide,by decide⟩,trivial⟩ rfl Yc Yc λu64 h15 le15 _ s15 _=>?_;have s15:=s15 (vw h15) bS rfl;refine ah Ya two' ?_;rintro u65 h16 ⟨le16,r16⟩;refine ah Ya (vZ (s15.mono le16) r16 (t13.mono (View.le_trans le14 (View.le_trans le15 le16))) Jj) ?_;rintro _ h17 ⟨le17,rfl⟩;simp;subst hz;refine ab λz hz=>?_;simp;refine ay (t:=T.lX) (z:=.agg #[.int .i64 0,.int .i64 0]) (places:=[(0,1),(1,1)]) (vs:=[(0,.int .i64 16)]) (cs:=#[.int .i64 16,.int .i64 0]) Ya Ya Sa Ya ?_;refine kz (α:=eW) (ds:=[⟨16,0⟩]) (vs:=[.agg #[.int .i64 16,.int .i64 0]]) (X:=nothing) El.kr Sa ⟨rz ⟨by decide,by decide⟩ ⟨by decide,by decide⟩,trivial⟩ rfl Yc Yc λu72 h18 le18 _ s18 _=>?_;have s18:=s18 (vw h18) bS rfl;refine ah Ya two' ?_;rintro u73 h19 ⟨le19,r19⟩;have l1219:(vw h12).le (vw h19):=View.le_trans le13 (View.le_trans le14 (View.le_trans le15 (View.le_trans le16 (View.le_trans le17 (View.le_trans le18 le19)))));refine ah Ya (vZ (s18.mono le19) r19 (ht.mono (View.le_trans la l1219)) Ha) ?_;rintro _ h20 ⟨le20,rfl⟩;have l1220:=View.le_trans l1219 le20;simp;subst hz;refine ab λz hz=>?_;have l212:(vw h2).le (vw h12):=View.le_trans le3 (View.le_trans le4 (View.le_trans le5 (View.le_trans le6 (View.le_trans le7 (View.le_trans le8 (View.le_trans le9 (View.le_trans le10 (View.le_trans le11 le12))))))));have l412:(vw h4).le (vw h12):=View.le_trans le5 (View.le_trans le6 (View.le_trans le7 (View.le_trans le8 (View.le_trans le9 (View.le_trans le10 (View.le_trans le11 le12))))));have l812:(vw h8).le (vw h12):=View.le_trans le9 (View.le_trans le10 (View.le_trans le11 le12));have sa:=(sa.mono l212).mono l1220;have sb:=(sb.mono l212).mono l1220;have sc:=(sc.mono l412).mono l1220;have sd:=(sd.mono l412).mono l1220;have sg:=(sg.mono l812).mono l1220;have e0:=ae l1220 e0;have e1:=ae l1220 e1;have la:=View.le_trans la l1220;clear le1 le2 le3 le4 le5 le6 le7 le8 le9 le10 le11 le12 le13 le14 le15 le16 le17 le18 le19 le20 l212 l412 l812 l1219 l1220;refine xF λy hy=>?_;simp;refine kz (α:=Int) (ds:=[1]) (vs:=[.int .i64 1]) (X:=nothing) El.aY Ya ⟨bK.2 ⟨rfl,by decide⟩,trivial⟩ rfl Yc Yc λu79 h21 le21 _ s21 _=>?_;have s21:=s21 (vw h21) bS rfl;subst hy;refine bf λy hy=>?_;simp;refine ah Ya (Bw (sa.mono le21) s21) ?_;rintro _ h21 ⟨rfl,rfl⟩;subst hy;refine bf λy hy=>?_;simp;refine kz (α:=Int) (ds:=[2]) (vs:=[.int .i64 2]) (X:=nothing) El.aY Ya ⟨bK.2 ⟨rfl,by decide⟩,trivial⟩ rfl Yc Yc λu83 h22 le22 _ s22 _=>?_;have s22:=s22 (vw h22) bS rfl;subst hy;refine bf λy hy=>?_;simp;refine ah Ya (Bw (sb.mono (View.le_trans le21 le22)) s22) ?_;rintro _ h22 ⟨rfl,rfl⟩;subst hy;refine bf λy hy=>?_;simp;refine kz (α:=Int) (ds:=[1,2]) (vs:=[.int .i64 1,.int .i64 2]) (X:=nothing) El.aY Ya ⟨bK.2 ⟨rfl,by decide⟩,bK.2 ⟨rfl,by decide⟩,trivial⟩ rfl Yc Yc λu91 h23 le23 _ s23 _=>?_;have s23:=s23 (vw h23) bS rfl;subst hy;refine bf λy hy=>?_;simp;refine ah Ya (Bw (sc.mono (View.le_trans le21 (View.le_trans le22 le23))) s23) ?_;rintro _ h23 ⟨rfl,rfl⟩;have l23:=View.le_trans le21 (View.le_trans le22 le23);subst hy;have sd':SlRd (vw h23) vd ([]:List Int):=sd.mono l23;have hd:=sd'.len (K:=vw h23);simp at hd;simp[hd];subst hz;refine ab λz hz=>?_;have sg':SlRd (vw h23) vg [(⟨18,3,0,1,0,0,⟨5⟩,[]⟩:bH)]:=sg.mono l23;have e0:=ae l23 e0;have e1:=ae l23 e1;have la:=View.le_trans la l23;clear sa sb sc sd sd' sg hd l23 le21 le22 le23 s21 s22 s23;refine xF λy hy=>?_;simp;refine ay (t:=T.ff) (z:=.agg #[.int .i64 0,.int .i64 0,.int .i64 0,.int .i64 0,.int .i64 0,.int .i64 0,.int .i32 0,.slice none 0 0]) (places:=[(0,1),(1,1),(2,1),(3,1),(4,1),(5,1),(6,1),(7,1)]) (vs:=[(0,.int .i64 18),(1,.int .i64 3),(3,.int .i64 1),(6,.int .i32 5)]) (cs:=#[.int .i64 18,.int .i64 3,.int .i64 0,.int .i64 1,.int .i64 0,.int .i64 0,.int .i32 5,.slice none 0 0]) Ya Ya Sa Ya ?_;subst hy;refine bf λy hy=>?_;simp;refine kz (α:=bH) (ds:=[⟨18,3,0,1,0,0,⟨5⟩,[]⟩]) (vs:=[.agg #[.int .i64 18,.int .i64 3,.int .i64 0,.int .i64 1,.int .i64 0,.int .i64 0,.int .i32 5,.slice none 0 0]]) (X:=nothing) El.jt Sa ⟨iK Yc Yc aO,trivial⟩ rfl Yc Yc λu113 h24 le24 _ s24 _=>?_;have s24:=s24 (vw h24) bS rfl;subst hy;refine bf λy hy=>?_;simp;refine ah Ya (IG (sg'.mono le24) s24) ?_;rintro _ h25 ⟨rfl,le25⟩;have l25:=View.le_trans le24 le25;have e0:=ae l25 e0;have e1:=ae l25 e1;subst hy;refine bf λy hy=>?_;simp[e0,e1];refine ah Ya (pS (ht.mono (View.le_trans la l25))) ?_;rintro _ h26 ⟨le26,rfl⟩;subst hy;refine bf λy hy=>?_;simp;refine ah Ya E6 ?_;rintro ua h27 ⟨le27,sall⟩;have hl:=sall.len (K:=vw h27);have e37:allT.length=37:=rfl;rw[e37]at hl;have l27:=View.le_trans l25 (View.le_trans le26 le27);subst hy;refine bf λy hy=>?_;simp[hl];refine ah Ya (yG (pat:=16) (ht.mono (View.le_trans la l27)) ⟨by decide,by decide⟩) ?_;rw[Is];rintro _ h28 ⟨le28,rfl⟩;subst hy;simp[show(Bn.eqS false).ev (.string ⟨#[97,100,100,105]⟩) (.string ⟨#[97,100,100,105]⟩)=some (.bool true) from by kernel_rfl];subst hz;simp;exact hK _ _ ⟨View.le_trans la (View.le_trans l27 le28),rfl⟩
section
variable {s:List Int} {M:Nat} {vs:Value} {W:View} {h:Heap} {o:Own} {m:MS}
theorem MkB.boxed{vl:Value}{lb:List BlkM}(bb:MkB M vs m o vb vl lb)(m':MS)(h1:m'.blocks=m.blocks)(h2:m'.live=m.live):MkB M vs m' (o.upd (0,0) (bx T.aR M (RawN.mk (n:=5) (mkL vs m'.at_ m'.ps vb m'.next vl)))) vb vl lb:=
 ⟨rfl,by rw[h2];exact bb.live,bb.blk,by rw[h1];exact bb.len,by rw[h1];exact bb.term,by rw[h1];exact λi hi=>bb.phis i hi,by rw[h1];exact λi hi=>bb.ins i hi⟩
end
def iG (R:Nat) (i10:Own):Own:=λk=>if k=(8,0) then bx T.cz R (RawN.mk (n:=1) [.int .i64 0,.slice none 0 0]) else if 10<=k.1 then i10 k else none
structure FnB (o:Own) (vb:Value) (lb:List BlkM) (f:an):Prop where
 blk:o (0,2)=it T.dh vb lb
 len:lb.length=f.blocks.length
 term : ∀i,i<f.blocks.length->(nth lb i).term=(nth f.blocks i).term
 phis : ∀i,i<f.blocks.length->o (1,i)=it T.lg (nth lb i).phis.v (nth f.blocks i).phis
 ins : ∀i,i<f.blocks.length->o (2,i)=it T.eC (nth lb i).ins.v (nth f.blocks i).ins
theorem Jn{lb:List BlkM}{f:an}(h0:SlRd H vb lb)(hl:lb.length=f.blocks.length)(ht : ∀i,i<f.blocks.length->(nth lb i).term=(nth f.blocks i).term)(h1 : ∀i,i<f.blocks.length->SlRd H (nth lb i).phis.v (nth f.blocks i).phis)(h2 : ∀i,i<f.blocks.length->SlRd H (nth lb i).ins.v (nth f.blocks i).ins):SlRd H vb f.blocks:=by refine yE h0 rfl hl λi g1 g2 cs hr=>?_;have:=Ag hr (p:=(nth f.blocks i).phis) (i:=(nth f.blocks i).ins) (by have:=h1 i g2;rwa [aC g1]at this) (by have:=h2 i g2;rwa [aC g1]at this);have ht:=ht i g2;rw[aC g1]at ht;rw[ht]at this;rw[<-aC g2];exact this
theorem FnB.freeze{h:Heap}{o o0:Own}{lb:List BlkM}{f:an}(b:FnB o vb lb f)(w:Owns W h o)(ho : ∀k:Key,3<=k.1->o k=o0 k)(ho0 : ∀k:Key,k.1<3->o0 k=none): ∃W',W.le W'/\Owns W' h o0/\SlRd W' vb f.blocks:=by
 obtain⟨W17,hW17,w17,fr⟩:=w.xD (λk=>decide (k.1<3));refine⟨W17,hW17,w17.sub λk i hk=>?_,Jn (fr (k:=(0,2)) Sa b.blk) b.len b.term (λi hi=>fr (k:=(1,i)) Sa (b.phis i hi)) λi hi=>fr (k:=(2,i)) Sa (b.ins i hi)⟩;rcases Lr k.1 3 with e | e
 ·rw[ho0 k e]at hk;cases hk
 have h2:¬k.1<3:=by omega
 simp only[h2,decide_false,MU,if_false];rw[ho k e];exact hk
theorem Ey{s:List Int}{vs:Value}{h:Heap}{o0:Own}(w0:Owns W h o0)(ho0 : ∀k:Key,k.1<10->o0 k=none)(hs:SlRd W vs s):
  az Tryz.prog N.aq #[vs] h (λu h'=>∃W' o vb lb,W.le W'/\Owns W' h' o/\(∀k:Key,3<=k.1->o k=o0 k)/\FnB o vb lb (pR s)/\u = .agg #[.int .i64 (pR s).params,vb]):=by
 refine aw (args:=[vs]) follows F.aq E.aq (Lm Ya) λK hK=>?_;have hs0:=hs;obtain⟨sa,sc,rfl,_⟩:=hs0;dsimp only[L.aq,lkF,lkG];refine ab λz hz=>?_;simp;refine w0.cQ (k:=(8,0)) (n:=1) (z:=.agg #[.int .i64 0,.slice none 0 0]) (ho0 _ Yc) Ya rfl Yc (by simp[Value.cells,Value.oneCell']) λh1 q1 w1=>?_;generalize h.size=R at w1;subst hz;refine ab λz hz=>?_;simp;refine ay (z:=.agg #[.slice none 0 0,.int .i64 0,.int .i64 0,.slice none 0 0,.int .i64 0,.slice none 0 0]) (places:=[(0,1),(1,1),(2,2),(4,1),(5,1)]) (vs:=[(0,.slice sa s.length sc)]) (cs:=#[.slice sa s.length sc,.int .i64 0,.int .i64 0,.slice none 0 0,.int .i64 0,.slice none 0 0]) Ya Ya Sa Ya ?_;generalize s.length=sl at hs;refine dK rfl ?_;have hbx:(h1.push (.cells (Value.agg #[.slice sa sl sc,.int .i64 0,.int .i64 0,.slice none 0 0,.int .i64 0,.slice none 0 0]).cells T.aR))[h1.size]? = some (.cells (Value.agg #[.slice sa sl sc,.int .i64 0,.int .i64 0,.slice none 0 0,.int .i64 0,.slice none 0 0]).cells T.aR (0,0)):=by simp
 have hle2:=bV h1 (.cells (Value.agg #[.slice sa sl sc,.int .i64 0,.int .i64 0,.slice none 0 0,.int .i64 0,.slice none 0 0]).cells T.aR);have hbg : ∀b,(Value.slice (some ⟨h1.size,0,none⟩) 1 1).ownBlock=some b->h1.size<=b:=λb hb=>by simp only[Value.ownBlock,Ln]at hb;omega
 show LC.wp Tryz.prog z _ _ (h1.push (.cells (Value.agg #[.slice sa sl sc,.int .i64 0,.int .i64 0,.slice none 0 0,.int .i64 0,.slice none 0 0]).cells T.aR));generalize h1.push (.cells (Value.agg #[.slice sa sl sc,.int .i64 0,.int .i64 0,.slice none 0 0,.int .i64 0,.slice none 0 0]).cells T.aR)=h2 at hbx hle2;have w2:=w1.add (k:=(0,0)) ((Own.ak Sa).trans (ho0 _ Yc)) (gQ (W:=W) (d:=RawN.mk (n:=5) [.slice sa sl sc,.int .i64 0,.int .i64 0,.slice none 0 0,.int .i64 0,.slice none 0 0]) hbx (lq rfl (by simp[Value.oneCell'])) Yc) hle2 hbg;generalize h1.size=M at w2;generalize hvs:Value.slice sa sl sc=vs at hs w2;obtain⟨m0,hm0⟩ : ∃m0:MS,m0=⟨0,0,[],0,[]⟩:=⟨_,rfl⟩;obtain⟨o2,ho2⟩ : ∃o2:Own,o2=λk=>if k=(0,0) then bx T.aR M (RawN.mk (n:=5) (mkL vs 0 0 (.slice none 0 0) 0 (.slice none 0 0))) else if k=(0,1) then it T.int (.slice none 0 0) ([]:List Int) else if k=(0,2) then it T.dh (.slice none 0 0) ([]:List BlkM) else iG R o0 k:=⟨_,rfl⟩;have w2:Owns W h2 o2:=w2.nils λk i hk=>by
  rw[ho2]at hk;dsimp only at hk;split at hk
  ·rename_i e;rw[e];exact .inl hk
  rename_i e0;split at hk
  ·cases hk;exact .inr ⟨rfl,OwnT.nil (α:=Int) _ _ _⟩
  split at hk
  ·cases hk;exact .inr ⟨rfl,OwnT.nil (α:=BlkM) _ _ _⟩
  refine .inl ?_;rw[Own.ak e0];by_cases e8:k=(8,0)
  ·subst e8;exact hk
  rw[Own.ak e8];unfold iG at hk;rw[if_neg e8]at hk;split at hk
  ·exact hk
  cases hk
 have w2:Mk s M vs W h2 o2 m0:=⟨w2,hs,.slice none 0 0,.slice none 0 0,[],by rw[ho2,hm0];rfl,by rw[ho2,hm0];rfl,by rw[ho2];rfl,by rw[hm0];rfl,λi hi=>by rw[hm0]at hi;simp at hi,λi hi=>by rw[hm0]at hi;simp at hi,λi hi=>by rw[hm0]at hi;simp at hi⟩;have f2 : ∀k:Key,3<=k.1->o2 k=iG R o0 k:=λk hk=>by rw[ho2];dsimp only;rw[if_neg (by rintro rfl;simp at hk),if_neg (by rintro rfl;simp at hk),if_neg (by rintro rfl;simp at hk)]
 clear w1 hbx hbg hle2 q1 ho2;subst hz;refine ab λz hz=>?_;simp;refine ah Ya (w2.take (by rw[hm0];decide) (n:=5) Yc Yc) ?_;rintro _ h3 ⟨rfl,o3,w3,f3⟩;have tv:=cS (s:=s) (at_:=m0.at_) (n:=5) Yc;obtain⟨vb,vl,lb,bb⟩:=w3.box;refine w3.own.dg (k:=(0,0)) (n:=5) (i:=2) (e:=T.aR) (B:=M) (l:=mkL vs m0.took.at_ m0.took.ps vb m0.took.next vl) bb.box Yc Ya rfl rfl rfl λh4 w4 _=>?_;have b4:=bb.boxed ⟨m0.took.at_,aI s m0.at_ 5,m0.took.blocks,m0.took.next,m0.took.live⟩ rfl rfl;subst hz;refine ab λz hz=>?_;have w4:Mk s M vs W h4 _ _:=⟨w4,w3.src,vb,vl,lb,b4⟩;have rd:=w4.reads b4;simp[rd.ps];refine w4.own.dg (k:=(0,0)) (n:=5) (i:=4) (e:=T.aR) (B:=M) (l:=mkL vs m0.took.at_ (aI s m0.at_ 5) vb m0.took.next vl) b4.box Yc Ya rfl rfl rfl λh5 w5 _=>?_;have b5:=b4.boxed ⟨m0.took.at_,aI s m0.at_ 5,m0.took.blocks,aI s m0.at_ 5,m0.took.live⟩ rfl rfl;have w5:Mk s M vs W h5 _ _:=⟨w5,w3.src,vb,vl,lb,b5⟩;obtain⟨o5,ho5⟩ : ∃o5,o5=(o3.upd (0,0) (bx T.aR M (RawN.mk (n:=5) (mkL vs m0.took.at_ (aI s m0.at_ 5) vb m0.took.next vl)))).upd (0,0) (bx T.aR M (RawN.mk (n:=5) (mkL vs m0.took.at_ (aI s m0.at_ 5) vb (aI s m0.at_ 5) vl))):=⟨_,rfl⟩;have f5 : ∀k:Key,3<=k.1->o5 k=iG R o0 k:=λk hk=>by rw[ho5,Own.ak (by rintro rfl;simp at hk),Own.ak (by rintro rfl;simp at hk),f3 k hk,f2 k hk]
 rw[hm0]at w5;have w5:Mk s M vs W h5 o5 ⟨1,aI s 0 5,[],aI s 0 5,[]⟩:=by rw[ho5,hm0];exact w5
 clear b5 b4 rd w4 bb w3 f3 w2 f2 ho5 hvs;subst hz;refine ab λz hz=>?_;simp;refine ah Ya (w5.take (show 1<=_ by omega) (n:=9) Yc Yc) ?_;rintro _ h6 ⟨rfl,o6,w6,f6⟩;have w6:Mk s M vs W h6 o6 (uu s):=w6;have f6 : ∀k:Key,3<=k.1->o6 k=iG R o0 k:=λk hk=>(f6 k hk).trans (f5 k hk);clear w5 f5;have hN:=DK (s:=s);obtain⟨n1,n2⟩:=ke (s:=s);have hw:IntKind.i64.wrap (1+aI s 1 9)=(cm s:Nat):=by rw[hN];exact bZ Yb Yb
 simp[hw];subst hz;refine ab λz hz=>?_;simp;refine ah Ya (BK (ri:=iG R o0) w6 (λk hk=>f6 k Yb) (λk h1 h2=>(f6 k h1).trans (by unfold iG;rw[if_neg (by rintro rfl;simp at h2),if_neg Yb])) (n:=cm s) Ab Yb n1 Yb) ?_;rintro vt h7 ⟨W7,o7,g7,w7,r7,e7,st⟩;have w7:Mk s M vs W7 h7 o7 (ja s).2:=w7;have st:SlRd W7 vt (ja s).1:=st;have f7 : ∀k:Key,3<=k.1->o7 k=iG R o0 k:=λk hk=>by
  by_cases e:8<=k.1
  ·exact r7 k e
  rw[e7 k hk Yb];unfold iG;rw[if_neg (by rintro rfl;simp at e),if_neg Yb]
 clear r7 e7 w6 f6;have k1:=yI (s:=s);have s4:=ue (s:=s);subst hz;refine ab λz hz=>?_;simp;refine nv (α:=BlkM) (W:=W7) (k:=.i64) (n:=cm s) (d:=⟨⟨.slice none 0 0⟩,⟨.slice none 0 0⟩,⟨0,[],[],⟨0⟩⟩⟩) El.jA Ri Ri ⟨[.slice none 0 0],_,rfl,⟨rfl,rfl⟩,[.slice none 0 0],_,rfl,⟨rfl,rfl⟩,[.int .i64 0],_,rfl,⟨rfl,by decide,by decide⟩,[.slice none 0 0],_,rfl,⟨_,rfl,aO⟩,[.slice none 0 0],_,rfl,⟨_,rfl,aO⟩,rfl,by decide,by decide⟩ Yb Yb λvb8 h8 ob8 m8 hle8 hb8=>?_;obtain⟨vb,vl,lb,bb⟩:=w7.box;have wa:=w7.own.sub (o':=o7.upd (0,2) none) λj i hj=>by
  unfold Own.upd at hj;split at hj
  ·cases hj
  exact hj
 have wb:=wa.add (k:=(0,2)) Own.aj ob8 hle8 (λb hb=>by rw[hb8]at hb;cases hb;exact Lp _);have hv8:=(wb.cells (k:=(0,2)) Own.aj).2;obtain⟨o8,ho8⟩ : ∃o8:Own,o8=λk=>if k.1=1/\k.2<cm s then it T.lg (.slice none 0 0) ([]:List PhiD) else if k.1=2/\k.2<cm s then it T.eC (.slice none 0 0) ([]:List InsD) else o7.upd (0,2) (it T.dh vb8 (List.replicate (cm s) (BlkM.mk ⟨.slice none 0 0⟩ ⟨.slice none 0 0⟩ ⟨0,[],[],⟨0⟩⟩))) k:=⟨_,rfl⟩;have w8:Owns W7 h8 o8:=wb.nils λk i hk=>by
  rw[ho8]at hk;dsimp only at hk;split at hk
  ·cases hk;exact .inr ⟨rfl,OwnT.nil (α:=PhiD) _ _ _⟩
  split at hk
  ·cases hk;exact .inr ⟨rfl,OwnT.nil (α:=InsD) _ _ _⟩
  refine .inl ?_;by_cases e:k=(0,2)
  ·subst e;rw[Own.aj]at hk ⊢;exact hk
  rw[Own.ak e]at hk;rw[Own.ak e,Own.ak e];exact hk
 have c8 : ∀k:Key,¬(k.1=1/\k.2<cm s)->¬(k.1=2/\k.2<cm s)->o8 k=o7.upd (0,2) (it T.dh vb8 (List.replicate (cm s) (BlkM.mk ⟨.slice none 0 0⟩ ⟨.slice none 0 0⟩ ⟨0,[],[],⟨0⟩⟩))) k:=λk h1 h2=>by rw[ho8];dsimp only;rw[if_neg h1,if_neg h2]
 refine w8.dg (k:=(0,0)) (n:=5) (i:=3) (e:=T.aR) (B:=M) (l:=mkL vs (ja s).2.at_ (ja s).2.ps vb (ja s).2.next vl) (by rw[c8 _ Sa Sa,Own.ak Sa];exact bb.box) Yc Ya rfl rfl hv8 λh9 w9 _=>?_;obtain⟨o9,ho9⟩ : ∃o9:Own,o9=o8.upd (0,0) (bx T.aR M (RawN.mk (n:=5) (mkL vs (ja s).2.at_ (ja s).2.ps vb8 (ja s).2.next vl))):=⟨_,rfl⟩;have w9:Owns W7 h9 o9:=by rw[ho9];exact w9
 have b9:MkB M vs { (ja s).2 with blocks:=List.replicate (cm s) qU } o9 vb8 vl (List.replicate (cm s) (BlkM.mk ⟨.slice none 0 0⟩ ⟨.slice none 0 0⟩ ⟨0,[],[],⟨0⟩⟩)):=by
  rw[ho9];refine⟨rfl,?_,?_,by simp,λi hi=>?_,λi hi=>?_,λi hi=>?_⟩
  ·rw[Own.ak Sa,c8 _ Sa Sa,Own.ak Sa];exact bb.live
  ·rw[Own.ak Sa,c8 _ Sa Sa,Own.aj]
  ·have hi:i<cm s:=by simpa using hi
   rw[aF hi,aF hi];rfl
  ·have hi:i<cm s:=by simpa using hi
   rw[Own.ak Sa,ho8];dsimp only;rw[if_pos ⟨rfl,hi⟩,aF hi,aF hi];rfl
  have hi:i<cm s:=by simpa using hi
  rw[Own.ak Sa,ho8];dsimp only;rw[if_neg Sa,if_pos ⟨rfl,hi⟩,aF hi,aF hi];rfl
 have x9:Nx s M vs W7 h9 (iG R o0) { (ja s).2 with blocks:=List.replicate (cm s) qU }:=⟨W7,o9,View.le_refl _,⟨w9,w7.src,vb8,vl,_,b9⟩,λk hk=>by rw[ho9,Own.ak (by rintro rfl;simp at hk),c8 _ Yb Yb,Own.ak (by rintro rfl;simp at hk)];exact f7 k hk⟩;clear b9 w9 ho9 c8 w8 ho8 wb wa hv8 bb ob8 m8 hle8 hb8 w7 f7;subst hz;refine ab λz hz=>?_;refine ab λy hy=>?_;simp;subst hy;refine Hv (vr:=.pointer (some ⟨R,0,none⟩)) st k1.len x9 Sa Yb (by simp[ck,af,ag]) λh10 x10=>?_;have x10:Nx s M vs W7 h10 (iG R o0) (rm s):=x10;clear x9;simp;subst hz;refine ab λz hz=>?_;simp;obtain⟨Wa,oa,ga,wa,fa⟩:=x10;refine nv (α:=Int) (W:=Wa) (k:=.i64) (n:=cm s) (d:=0) El.aY Ri Ri ⟨rfl,by decide,by decide⟩ Yb Yb λvp h11 ob11 m11 hle11 hb11=>?_;have x11:Nx s M vs W7 h11 ((iG R o0).upd (5,0) (it T.int vp (List.replicate (cm s) (0:Int)))) (rm s):=by
  have w11:=wa.own.add (k:=(5,0)) ((fa _ Yc).trans rfl) ob11 hle11 (λb hb=>by rw[hb11]at hb;cases hb;exact Lp _);obtain⟨vb,vl,lb,bb⟩:=wa.box;refine⟨Wa,_,ga,⟨w11,wa.src,vb,vl,lb,bb.frame λq hq=>Own.ak (by rintro rfl;simp at hq)⟩,λq hq=>?_⟩;unfold Own.upd;split
  ·rfl
  exact fa q hq
 clear wa fa ob11 m11 hb11;subst hz;refine ab λz hz=>?_;refine ab λy hy=>?_;simp;subst hy;obtain⟨z2,g2⟩:=y9 (s:=s);have p0:Ph (cm s) 200 0 (List.replicate (cm s) (0:Int),rm s):=by
  have hz : ∀j,nth (List.replicate (cm s) (0:Int)) j=0:=λj=>by
   rcases Lr j (cm s)with hj | hj
   ·rw[aF hj]
   rw[dB (by simpa using hj)];rfl
  exact⟨z2,by simp,λj _=>hz j,λj=>by show 0<=nth (List.replicate _ (0:Int)) j/\nth (List.replicate _ (0:Int)) j<=3;rw[hz];omega⟩
 refine Hl (x0:=(List.replicate (cm s) (0:Int),rm s)) (vr:=.pointer (some ⟨R,0,none⟩)) (vt:=vt) (vp:=vp) x11 p0 n1 Yb Yb (by simp[ck,af,ag]) λh12 x12=>?_;have x12:Nx s M vs W7 h12 ((iG R o0).upd (5,0) (it T.int vp (jK s).1)) (jK s).2:=x12;obtain⟨ph,pc,g3⟩:=qF (s:=s);clear p0 x11 z2 g2;simp;subst hz;refine ab λz hz=>?_;simp;obtain⟨Wa,oa,ga,wa,fa⟩:=x12;refine nv (α:=Bool) (W:=Wa) (k:=.i64) (n:=cm s) (d:=false) El.nB Ri Ri rfl Yb Yb λvd h13 ob13 m13 hle13 hb13=>?_;have x13:Nx s M vs W7 h13 (((iG R o0).upd (5,0) (it T.int vp (jK s).1)).upd (6,0) (it T.bool vd (List.replicate (cm s) false))) (jK s).2:=by
  have w13:=wa.own.add (k:=(6,0)) ((fa _ Yc).trans rfl) ob13 hle13 (λb hb=>by rw[hb13]at hb;cases hb;exact Lp _);obtain⟨vb,vl,lb,bb⟩:=wa.box;refine⟨Wa,_,ga,⟨w13,wa.src,vb,vl,lb,bb.frame λq hq=>Own.ak (by rintro rfl;simp at hq)⟩,λq hq=>?_⟩;unfold Own.upd;split
  ·rfl
  exact fa q hq
 clear wa fa ob13 m13 hb13;subst hz;refine ab λz hz=>?_;refine ab λy hy=>?_;simp;subst hy;refine Gv (a:=16000) (p:=27) (x0:=(List.replicate (cm s) false,(jK s).2)) (vr:=.pointer (some ⟨R,0,none⟩)) (vp:=vp) x13 st k1.len rfl rfl rfl zM n2 Yb Yb Yb (by simp[ck,af,ag]) λh14 x14=>?_;have x14:Nx s M vs W7 h14 (((iG R o0).upd (5,0) (it T.int vp (jK s).1)).upd (6,0) (it T.bool vd (xE s).1)) (xE s).2:=x14;obtain⟨q4,pc4⟩:=zd (s:=s);clear x13 pc g3;simp;subst hz;refine ab λz hz=>?_;refine ab λy hy=>?_;simp;subst hy;refine Ei (vr:=.pointer (some ⟨R,0,none⟩)) (vt:=vt) (vp:=vp) (vd:=vd) (lp:=(jK s).1) x14 ((Own.ak Sa).trans Own.aj) rfl rfl q4 pc4 ph.len ph.rng n1 n2 Yb Yb Yb Yb (by simp[ck,af,ag]) λh15 x15=>?_;have x15:Nx s M vs W7 h15 (((iG R o0).upd (5,0) (it T.int vp (jK s).1)).upd (6,0) (it T.bool vd (xE s).1)) (og s):=x15;have q5:=qV (s:=s);clear x14 q4 pc4 ph;simp;subst hz;refine ab λz hz=>?_;obtain⟨Wa,oa,ga,wa,fa⟩:=x15;obtain⟨vb,vl,lb,bb⟩:=wa.box;have rd:=wa.reads bb;simp[rd.f];have hvb:vb.oneCell'=true:=rd.blk.cells.2;refine wa.own.gH (k:=(8,0)) (α:=RawN 1) (β:=RawN 1) Part.all (B:=R) (D:=RawN.mk (n:=1) [.int .i64 0,.slice none 0 0]) (d:=RawN.mk (n:=1) [.int .i64 (og s).ps,vb]) ((fa _ Yc).trans rfl) Ya rfl rfl (lq rfl (by intro c hc;simp only[LF,MN,or_false]at hc;rcases hc with rfl | rfl<;>first | rfl | exact hvb)) λh16 w16 _=>?_;have c16:=w16.lT (k:=(8,0)) (n:=1) (l:=[.int .i64 (og s).ps,vb]) Own.aj;have c16:Un.ev (vw h16) (.bM 2) (.pointer (some ⟨R,0,none⟩))=some (.agg #[.int .i64 (og s).ps,vb]):=c16;have b16:=bb.frame (o':=oa.upd (8,0) (bx T.cz R (RawN.mk (n:=1) [.int .i64 (og s).ps,vb]))) λq hq=>Own.ak (by rintro rfl;simp at hq);have w16:Mk s M vs Wa h16 _ (og s):=⟨w16,wa.src,vb,vl,lb,b16⟩;have rd16:=w16.reads b16;subst hz;simp[c16];refine hK _ _ ⟨Wa,λk=>if 3<=k.1 then o0 k else if k=(0,2)\/k.1=1\/k.1=2 then oa k else none,vb,lb,View.le_trans g7 ga,w16.own.sub λk i hk=>?_,λk hk=>if_pos hk,⟨?_,b16.len,b16.term,λi hi=>?_,λi hi=>?_⟩,rfl⟩
 ·split at hk
  ·rename_i e3;rcases Lr k.1 10 with e | e
   ·rw[ho0 k e]at hk;cases hk
   have h1:oa k=o0 k:=(fa k Yb).trans (by rw[Own.ak (by rintro rfl;simp at e),Own.ak (by rintro rfl;simp at e)];unfold iG;rw[if_neg (by rintro rfl;simp at e),if_pos e]);rw[Own.ak (by rintro rfl;simp at e),h1];exact hk
  rename_i e3;split at hk
  ·rw[Own.ak (by rintro rfl;simp at e3)];exact hk
  cases hk
 ·have:=b16.blk;rw[Own.ak Sa]at this;simpa using this
 ·have:=b16.phis i hi;rw[Own.ak Sa]at this;exact(by simp:_=oa (1,i)).trans this
 have:=b16.ins i hi;rw[Own.ak Sa]at this;exact(by simp:_=oa (2,i)).trans this
theorem Gq{s:List Int}{vs:Value}{h:Heap}{o0:Own}(w0:Owns W h o0)(ho0 : ∀k:Key,k.1<10->o0 k=none)(hs:SlRd W vs s):
  az Tryz.prog N.aq #[vs] h (λu h'=>∃W',W.le W'/\Owns W' h' o0/\Rd W' u (pR s)):=by refine(Ey w0 ho0 hs).mono ?_;rintro u h' ⟨W1,o,vb,lb,hW,w,ho,b,rfl⟩;obtain⟨W2,hW2,w2,sb⟩:=b.freeze w ho λk hk=>ho0 k Yb;have mp:=zP (s:=s);have mi:I64 (pR s).params:=⟨by omega,by omega⟩;exact⟨W2,View.le_trans hW hW2,w2,⟨_,rfl,[.int .i64 (pR s).params],[vb],rfl,⟨rfl,mi⟩,vb,rfl,sb⟩⟩
theorem xt{s:List Int}{v:Value}{h:Heap}{o0:Own}(w0:Owns W h o0)(ho0 : ∀k:Key,k.1<10->o0 k=none)(h21:o0 (21,0)=none)(hs:SlRd W v s):
  az Tryz.prog N.gO #[v] h (λu h'=>∃W',W.le W'/\Owns W' h' o0/\Rd W' u (pR (s.take 200))):=by
 refine aw (args:=[v]) follows F.gO E.gO (Lm Ya) λK hK=>?_;dsimp only[L.gO,lkF,lkG];have hb:=hs.bound;refine ab λz hz=>?_;simp;refine w0.cQ (k:=(21,0)) (n:=1) (z:=.agg #[.int .i64 0,.slice none 0 0]) h21 Ya rfl Yc (by simp[Value.cells,Value.oneCell']) λh1 hle1 w1=>?_;generalize h.size=R at w1;subst hz;refine ab λz hz=>?_;have ho : ∀k:Key,k.1<10->(o0.upd (21,0) (bx T.cz R (RawN.mk (n:=1) (Value.agg #[.int .i64 0,.slice none 0 0]).cells.toList))) k=none:=λk hk=>(Own.ak (by rintro rfl;simp at hk)).trans (ho0 k hk);have fin : ∀(W2:View) (h2:Heap) (u:Value) (ρ:Env),W.le W2->Owns W2 h2 (o0.upd (21,0) (bx T.cz R (RawN.mk (n:=1) (Value.agg #[.int .i64 0,.slice none 0 0]).cells.toList)))->Rd W2 u (pR (s.take 200))->Lft.look ρ 2=some (ptr R)->∀(po:OP) (us:List (Nat × Value)),asg us (.tmp 2)=ptr R->asg us (.tmp 8)=u->
   @Lft.step po Tryz.prog (Op.store 27 (Operand.tmp 2) (Operand.tmp 8)) 0 us h2 λ_ h'=>LC.wp Tryz.prog z (dW [.un (.bM 2) (.tmp 2)] K) ρ h':=λW2 h2 u ρ hW w2 r hl po us e1 e2=>by
  have q:=gT r;obtain⟨cs,rfl,h3⟩:=r;have hl3:=Rep.len h3;refine w2.oL (k:=(21,0)) (n:=1) (l':=cs.toList) Own.aj Ya e1 (by simpa using e2) (by rw[hl3];rfl) (λc hc=>Rep.flat h3 c hc) λh4 w4 _=>?_;rw[hz];have hall:=w4.lT (k:=(21,0)) (n:=1) (e:=T.cz) (B:=R) (l:=cs.toList) Own.aj;simp at hall;simp[hl,hall];refine hK _ _ ⟨W2,hW,w4.sub λj i hj=>?_,⟨_,rfl,h3⟩⟩;have:j≠(21,0):=by rintro rfl;rw[h21]at hj;cases hj
  rw[Own.ak this,Own.ak this];exact hj
 clear hK;have tk : ∃us,Bn.ev .hi v (.int .i64 (if(200:Int)<s.length then 200 else s.length))=some us/\SlRd W us (s.take 200):=by
  by_cases q:(200:Int)<s.length
  ·obtain⟨u,h2,h3⟩:=hs.take (n:=200) Yb (kd:=.i64);exact⟨u,by rw[if_pos q];exact h2,h3⟩
  obtain⟨u,h2,h3⟩:=hs.take (n:=s.length) Yb (kd:=.i64);refine⟨u,by rw[if_neg q];exact h2,?_⟩;rw[Lw Yb];rw[Lw (Lp _)]at h3;exact h3
 obtain⟨us,h2,h3⟩:=tk;simp[hs.len,h2];refine ah Ya (Gq w1 ho h3) ?_;rintro u8 h8 ⟨W8,hW8,w8,r8⟩;exact fin W8 h8 u8 [(0,v),(2,ptr R),(8,u8)] hW8 w8 r8 rfl _ [(2,ptr R),(8,u8)] rfl rfl
end Go.Proofs.YtnfiilgdjpdlkaaGreatDoor
namespace Go.Lft
open Go
variable {po:OP}
theorem CU {P:Program} {t ty e:TypeId} {us:List (Nat × Value)} {h:Heap} {K:Value->Heap->Prop} {x:Operand} {B n sz:Nat} (ht:P.underlying t=some (.array n e)) (hz:db P e=some sz) (hx:asg us x = .pointer (some ⟨B,0,none⟩)) (hk:K (.slice (some ⟨B,0,none⟩) n n) h):step P (.slice t x none none none) ty us h K:=by refine dz (cH λw hw=>⟨.slice (some ⟨B,0,none⟩) n n,w,?_,Same.refl _,by rw[hw];exact hk⟩);have e3:=run_sizeOf (w:=w) hz;simp only[bW,execOp,hx];simp[Instr.sliceAt,Instr.sureAddr,run_underlying ht,Instr.sliceBounds,e3,Addr.add]
end Go.Lft
namespace Go.Proofs.YtnfiilgdjpdlkaaGreatDoor
open Go Go.Lft
structure TB (c:Nat) (x:BlkD):Prop where
 phis:x.phis.length<=c
 ins:x.ins.length<=c
 args:x.term.args.length<=c
 «to»:x.term.to.length<=c
 pin : ∀p∈x.phis,p.ins.length<=c
 iar : ∀i∈x.ins,i.args.length<=c
structure TF (c:Nat) (f:an):Prop where
 len:f.blocks.length<=12
 blk : ∀x∈f.blocks,TB c x
theorem TB.mono {c d:Nat} {x:BlkD} (t:TB c x) (h:c<=d):TB d x:=⟨LM t.phis h,LM t.ins h,LM t.args h,LM t.to h,λp hp=>LM (t.pin p hp) h,λi hi=>LM (t.iar i hi) h⟩
theorem TF.mono {c d:Nat} {f:an} (t:TF c f) (h:c<=d):TF d f:=⟨t.len,λx hx=>(t.blk x hx).mono h⟩
theorem TF.sm {c:Nat} {f:an} (t:TF c f) (h:c<=10000):SmF f:=by refine⟨by have:=t.len;omega,λi hi=>?_⟩;have q:=t.blk _ (cr hi);exact⟨by have:=q.phis;omega,by have:=q.ins;omega,by have:=q.args;omega,by have:=q.to;omega,λk hk=>by have:=q.pin _ (cr hk);omega,λk hk=>by have:=q.iar _ (cr hk);omega⟩
theorem GW {s:List Int}:TF 1000 (pR s):=by have q:=qV (s:=s);have hn:=ke (s:=s);refine⟨by show(og s).blocks.length<=_;rw[q.z.len];omega,λx hx=>?_⟩;obtain⟨j,hj,rfl⟩:=LS hx;have hj:j<(og s).blocks.length:=hj;have g:=q.g j hj;have this:TB 1000 (nth (og s).blocks j):=⟨by have:=q.z.phis j;omega,q.z.ins j,by have:=g.args;omega,g.to,λp hp=>g.phis p hp,λi hi=>by have:=g.ins i hi;omega⟩;rw[aC hj]at this;exact this
structure Tu (R F X:Nat) (i10:Own) (c:Nat) (W0:View) (vbk:Value) (bl:List BlkD) (W:View) (o:Own) (ps:Int) (vp vi va vt:Value) (kd im:Int) (lp:List PhiD) (li:List InsD) (la lt:List Int):Prop where
 le:W0.le W
 res:o (8,0)=bx T.cz R (RawN.mk (n:=1) [.int .i64 0,.slice none 0 0])
 fn:o (8,1)=bx T.cz F (RawN.mk (n:=1) [.int .i64 ps,vbk])
 blk:o (3,0)=it T.dh vbk bl
 box:o (3,1)=bx T.dh X (RawN.mk (n:=5) [vp,vi,.int .i64 kd,va,vt,.int .i32 im])
 ins:o (3,2)=it T.eC vi li
 phis:o (3,3)=it T.lg vp lp
 free:o (4,0)=none
 fr : ∀k:Key,10<=k.1->o k=i10 k
 ra:SlRd W va la
 rt:SlRd W vt lt
 ips:I64 ps
 ikd:I64 kd
 iim:-2147483648<=im/\im<=2147483647
 tb:TB c ⟨lp,li,⟨kd,la,lt,⟨im⟩⟩⟩
def TuE (R F X:Nat) (i10:Own) (c:Nat) (W0:View) (vbk:Value) (bl:List BlkD) (h:Heap):Prop:=∃W o ps vp vi va vt kd im lp li la lt,Tu R F X i10 c W0 vbk bl W o ps vp vi va vt kd im lp li la lt/\Owns W h o
theorem TuE.mono {R F X:Nat} {i10:Own} {c d:Nat} {W0:View} {vbk:Value} {bl:List BlkD} {h:Heap} (t:TuE R F X i10 c W0 vbk bl h) (hd:c<=d):TuE R F X i10 d W0 vbk bl h:=by obtain⟨W,o,ps,vp,vi,va,vt,kd,im,lp,li,la,lt,t,w⟩:=t;exact⟨W,o,ps,vp,vi,va,vt,kd,im,lp,li,la,lt,⟨t.le,t.res,t.fn,t.blk,t.box,t.ins,t.phis,t.free,t.fr,t.ra,t.rt,t.ips,t.ikd,t.iim,t.tb.mono hd⟩,w⟩
section
variable {R F X c:Nat} {i10:Own} {W0 W:View} {vbk:Value} {bl:List BlkD} {h:Heap} {o:Own} {ps:Int} {vp vi va vt:Value} {kd im:Int} {lp:List PhiD} {li:List InsD} {la lt:List Int}
theorem Tu.wider (t:Tu R F X i10 c W0 vbk bl W o ps vp vi va vt kd im lp li la lt) {W':View} (hW:W.le W'):Tu R F X i10 c W0 vbk bl W' o ps vp vi va vt kd im lp li la lt:=
 ⟨View.le_trans t.le hW,t.res,t.fn,t.blk,t.box,t.ins,t.phis,t.free,t.fr,t.ra.mono hW,t.rt.mono hW,t.ips,t.ikd,t.iim,t.tb⟩
theorem Tu.more (t:Tu R F X i10 c W0 vbk bl W o ps vp vi va vt kd im lp li la lt) {d:Nat} (hd:c<=d):Tu R F X i10 d W0 vbk bl W o ps vp vi va vt kd im lp li la lt:=
 ⟨t.le,t.res,t.fn,t.blk,t.box,t.ins,t.phis,t.free,t.fr,t.ra,t.rt,t.ips,t.ikd,t.iim,t.tb.mono hd⟩
variable {po:OP} {ty t2:TypeId} {us:List (Nat × Value)} {x y:Operand} {K:Value->Heap->Prop}
theorem Tu.Dr (t:Tu R F X i10 c W0 vbk bl W o ps vp vi va vt kd im lp li la lt) (w:Owns W h o) {p:Int} (hp:I64 p) (hsz:db Tryz.prog t2=some 1) (hx:asg us x = .pointer (some ⟨F,0,none⟩)) (hy:asg us y = .int .i64 p) (hK : ∀h',TuE R F X i10 c W0 vbk bl h'->K undef h'):@Lft.step po Tryz.prog (.store t2 x y) ty us h K:=
 w.dg (k:=(8,1)) (n:=1) (i:=0) t.fn Yc hsz hx hy rfl λh' w' _=>hK h' ⟨W,_,p,vp,vi,va,vt,kd,im,lp,li,la,lt,⟨t.le,(Own.ak Sa).trans t.res,Own.aj,(Own.ak Sa).trans t.blk,(Own.ak Sa).trans t.box,(Own.ak Sa).trans t.ins,(Own.ak Sa).trans t.phis,(Own.ak Sa).trans t.free,λk hk=>(Own.ak (by rintro rfl;simp at hk)).trans (t.fr k hk),t.ra,t.rt,hp,t.ikd,t.iim,t.tb⟩,w'⟩
theorem Tu.GM (t:Tu R F X i10 c W0 vbk bl W o ps vp vi va vt kd im lp li la lt) (w:Owns W h o) {p:Int} (hp:I64 p) (hsz:db Tryz.prog t2=some 1) (hx:asg us x = .pointer (some ⟨X,2,none⟩)) (hy:asg us y = .int .i64 p) (hK : ∀h',TuE R F X i10 c W0 vbk bl h'->K undef h'):@Lft.step po Tryz.prog (.store t2 x y) ty us h K:=
 w.dg (k:=(3,1)) (n:=5) (i:=2) t.box Yc hsz hx hy rfl λh' w' _=>hK h' ⟨W,_,ps,vp,vi,va,vt,p,im,lp,li,la,lt,⟨t.le,(Own.ak Sa).trans t.res,(Own.ak Sa).trans t.fn,(Own.ak Sa).trans t.blk,Own.aj,(Own.ak Sa).trans t.ins,(Own.ak Sa).trans t.phis,(Own.ak Sa).trans t.free,λk hk=>(Own.ak (by rintro rfl;simp at hk)).trans (t.fr k hk),t.ra,t.rt,t.ips,hp,t.iim,⟨t.tb.phis,t.tb.ins,t.tb.args,t.tb.to,t.tb.pin,t.tb.iar⟩⟩,w'⟩
theorem Tu.Cf (t:Tu R F X i10 c W0 vbk bl W o ps vp vi va vt kd im lp li la lt) (w:Owns W h o) {v:Value} {l:List Int} (hv:SlRd W v l) (hl:l.length<=c) (hsz:db Tryz.prog t2=some 1) (hx:asg us x = .pointer (some ⟨X,4,none⟩)) (hy:asg us y=v) (hK : ∀h',TuE R F X i10 c W0 vbk bl h'->K undef h'):@Lft.step po Tryz.prog (.store t2 x y) ty us h K:=
 w.dg (k:=(3,1)) (n:=5) (i:=4) t.box Yc hsz hx hy hv.cells.2 λh' w' _=>hK h' ⟨W,_,ps,vp,vi,va,v,kd,im,lp,li,la,l,⟨t.le,(Own.ak Sa).trans t.res,(Own.ak Sa).trans t.fn,(Own.ak Sa).trans t.blk,Own.aj,(Own.ak Sa).trans t.ins,(Own.ak Sa).trans t.phis,(Own.ak Sa).trans t.free,λk hk=>(Own.ak (by rintro rfl;simp at hk)).trans (t.fr k hk),t.ra,hv,t.ips,t.ikd,t.iim,⟨t.tb.phis,t.tb.ins,t.tb.args,hl,t.tb.pin,t.tb.iar⟩⟩,w'⟩
theorem Tu.AV {β:Type} [Rep β] {off:Nat} {g:InsD->β} {s:InsD->β->InsD} (p:Part InsD β off g s) (t:Tu R F X i10 c W0 vbk bl W o ps vp vi va vt kd im lp li la lt) (w:Owns W h o) {j:Nat} {v:Value} {d:β} (hj:j<li.length) (hr:Rd W v d) (hs:(s li[j] d).args.length<=c) (hsz:db Tryz.prog t2=some (Rep.n β)) (hx:asg us x = .pointer (some (((slA vi).add (j*5)).add off))) (hy:asg us y=v) (hK : ∀h',TuE R F X i10 c W0 vbk bl h'->K undef h'):@Lft.step po Tryz.prog (.store t2 x y) ty us h K:=
 w.ln (k:=(3,2)) (α:=InsD) p (v:=vi) (l:=li) (i:=j) t.ins hsz hx hy hj hr λh' w' _=>hK h' ⟨W,_,ps,vp,vi,va,vt,kd,im,lp,li.set j (s li[j] d),la,lt,⟨t.le,(Own.ak Sa).trans t.res,(Own.ak Sa).trans t.fn,(Own.ak Sa).trans t.blk,(Own.ak Sa).trans t.box,Own.aj,(Own.ak Sa).trans t.phis,(Own.ak Sa).trans t.free,λk hk=>(Own.ak (by rintro rfl;simp at hk)).trans (t.fr k hk),t.ra,t.rt,t.ips,t.ikd,t.iim,⟨t.tb.phis,by rw[LJ];exact t.tb.ins,t.tb.args,t.tb.to,t.tb.pin,λi hi=>by
   rcases ME hi with q | q
   ·exact t.tb.iar i q
   rw[q];exact hs⟩⟩,w'⟩
theorem Tu.Ez (t:Tu R F X i10 c W0 vbk bl W o ps vp vi va vt kd im lp li la lt) (w:Owns W h o) {j:Nat} {v:Value} {d:List InD} (hj:j<lp.length) (hr:SlRd W v d) (hs:d.length<=c) (hsz:db Tryz.prog t2=some 1) (hx:asg us x = .pointer (some (((slA vp).add (j*2)).add 1))) (hy:asg us y=v) (hK : ∀h',TuE R F X i10 c W0 vbk bl h'->K undef h'):@Lft.step po Tryz.prog (.store t2 x y) ty us h K:=
 w.ln (k:=(3,3)) (α:=PhiD) PhiD.mw (v:=vp) (l:=lp) (i:=j) t.phis hsz hx hy hj (eO.2 hr) λh' w' _=>hK h' ⟨W,_,ps,vp,vi,va,vt,kd,im,lp.set j { lp[j]with ins:=d },li,la,lt,⟨t.le,(Own.ak Sa).trans t.res,(Own.ak Sa).trans t.fn,(Own.ak Sa).trans t.blk,(Own.ak Sa).trans t.box,(Own.ak Sa).trans t.ins,Own.aj,(Own.ak Sa).trans t.free,λk hk=>(Own.ak (by rintro rfl;simp at hk)).trans (t.fr k hk),t.ra,t.rt,t.ips,t.ikd,t.iim,⟨by rw[LJ];exact t.tb.phis,t.tb.ins,t.tb.args,t.tb.to,λi hi=>by
   rcases ME hi with q | q
   ·exact t.tb.pin i q
   rw[q];exact hs,t.tb.iar⟩⟩,w'⟩
theorem Tu.GF (t:Tu R F X i10 c W0 vbk bl W o ps vp vi va vt kd im lp li la lt) {v:Value} {l:List InsD} (w:Owns W h (o.upd (3,2) (it T.eC v l))) (hl:l.length<=c) (ha : ∀i∈l,i.args.length<=c) (hsz:db Tryz.prog t2=some 1) (hx:asg us x = .pointer (some ⟨X,1,none⟩)) (hy:asg us y=v) (hK : ∀h',TuE R F X i10 c W0 vbk bl h'->K undef h'):@Lft.step po Tryz.prog (.store t2 x y) ty us h K:=
 w.dg (k:=(3,1)) (n:=5) (i:=1) ((Own.ak Sa).trans t.box) Yc hsz hx hy (w.cells (k:=(3,2)) Own.aj).2 λh' w' _=>hK h' ⟨W,_,ps,vp,v,va,vt,kd,im,lp,l,la,lt,⟨t.le,(Own.ak Sa).trans ((Own.ak Sa).trans t.res),(Own.ak Sa).trans ((Own.ak Sa).trans t.fn),(Own.ak Sa).trans ((Own.ak Sa).trans t.blk),Own.aj,(Own.ak Sa).trans Own.aj,(Own.ak Sa).trans ((Own.ak Sa).trans t.phis),(Own.ak Sa).trans ((Own.ak Sa).trans t.free),λk hk=>(Own.ak (by rintro rfl;simp at hk)).trans ((Own.ak (by rintro rfl;simp at hk)).trans (t.fr k hk)),t.ra,t.rt,t.ips,t.ikd,t.iim,⟨t.tb.phis,hl,t.tb.args,t.tb.to,t.tb.pin,ha⟩⟩,w'⟩
theorem Tu.Hk (t:Tu R F X i10 c W0 vbk bl W o ps vp vi va vt kd im lp li la lt) {v:Value} {l:List PhiD} (w:Owns W h (o.upd (3,3) (it T.lg v l))) (hl:l.length<=c) (ha : ∀i∈l,i.ins.length<=c) (hsz:db Tryz.prog t2=some 1) (hx:asg us x = .pointer (some ⟨X,0,none⟩)) (hy:asg us y=v) (hK : ∀h',TuE R F X i10 c W0 vbk bl h'->K undef h'):@Lft.step po Tryz.prog (.store t2 x y) ty us h K:=
 w.dg (k:=(3,1)) (n:=5) (i:=0) ((Own.ak Sa).trans t.box) Yc hsz hx hy (w.cells (k:=(3,3)) Own.aj).2 λh' w' _=>hK h' ⟨W,_,ps,v,vi,va,vt,kd,im,l,li,la,lt,⟨t.le,(Own.ak Sa).trans ((Own.ak Sa).trans t.res),(Own.ak Sa).trans ((Own.ak Sa).trans t.fn),(Own.ak Sa).trans ((Own.ak Sa).trans t.blk),Own.aj,(Own.ak Sa).trans ((Own.ak Sa).trans t.ins),(Own.ak Sa).trans Own.aj,(Own.ak Sa).trans ((Own.ak Sa).trans t.free),λk hk=>(Own.ak (by rintro rfl;simp at hk)).trans ((Own.ak (by rintro rfl;simp at hk)).trans (t.fr k hk)),t.ra,t.rt,t.ips,t.ikd,t.iim,⟨hl,t.tb.ins,t.tb.args,t.tb.to,ha,t.tb.iar⟩⟩,w'⟩
end
theorem HD {H:View} {u:Value} {d:BlkD} (h:Rd H u d) : ∃vp vi va vt,u = .agg #[vp,vi,.int .i64 d.term.kind,va,vt,.int .i32 d.term.imm.v]/\SlRd H vp d.phis/\SlRd H vi d.ins/\SlRd H va d.term.args/\SlRd H vt d.term.to/\I64 d.term.kind/\-2147483648<=d.term.imm.v/\d.term.imm.v<=2147483647:=by
 obtain⟨cs,rfl,c1,r1,e1,⟨vp,rfl,h1⟩,c2,r2,e2,⟨vi,rfl,h2⟩,c3,r3,e3,⟨rfl,h3⟩,c4,r4,e4,⟨va,rfl,h4⟩,c5,r5,e5,⟨vt,rfl,h5⟩,h6,h7⟩:=h;subst e5 e4 e3 e2;have he:cs.toList=[vp,vi,.int .i64 d.term.kind,va,vt,.int .i32 d.term.imm.v]:=by rw[e1,h6];rfl
 refine⟨vp,vi,va,vt,?_,h1,h2,h4,h5,h3,h7⟩;rw[<-Array.toList_inj.1 (he.trans rfl:cs.toList = #[vp,vi,Value.int .i64 d.term.kind,va,vt,.int .i32 d.term.imm.v].toList)]
theorem Owns.elW {W:View} {h:Heap} {o:Own} {k:Key} {α:Type} [r:Rep α] {e:TypeId} {v:Value} {l:List α} (w:Owns W h o) (hk:o k=it e v l) {i:Nat} (hi:i<l.length) : ∃cs,fZ (vw h) ((slA v).add (i*Rep.n α)) cs/\cs.length=Rep.n α/\Rep.rd W cs l[i]:=by
 obtain⟨hb,xs,⟨hl,hown⟩,hel⟩:=w.get hk;have h0:=hel i hi;have hle:i*Rep.n α+Rep.n α<=l.length*Rep.n α:=by rw[<-Nat.succ_mul];exact LP _ hi
 have hcl:((xs.drop (i*Rep.n α)).take (Rep.n α)).length=Rep.n α:=by simp;omega
 rcases hown with⟨rfl,hn⟩ | ⟨g,cap,cur,rfl,h2,h3,h4,h5,h6⟩
 ·omega
 have hadd:(slA (.slice (some ⟨g,0,none⟩) l.length cap)).add (i*Rep.n α)=⟨g,i*Rep.n α,none⟩:=by show(⟨g,0,none⟩:Addr).add _=_;simp[Addr.z]
 rw[hadd];refine⟨_,⟨cur,e,(0,0),rfl,h2,?_⟩,hcl,h0⟩;rw[hcl,<-h6,ML,MH,L7 Yb]
theorem Owns.ldW {W:View} {h:Heap} {o:Own} {k:Key} {α:Type} [r:Rep α] {e:TypeId} {v:Value} {l:List α} (w:Owns W h o) (hk:o k=it e v l) (ha:Rep.agg α=true) {N:Nat} (hn:Rep.n α=N) {i:Nat} (hi:i<l.length) : ∃u,Un.ev (vw h) (.bM N) (.pointer (some ((slA v).add (i*N))))=some u/\Rd W u l[i]:=by
 subst hn;obtain⟨cs,h1,h2,h3⟩:=Owns.elW w hk hi;have:=fQ h1 cs.length 0 #[] Yb;refine⟨.agg cs.toArray,?_,?_⟩
 ·simp only[Un.ev,vP,LI];rw[h2]at this;rw[this];simp
 unfold Rd;rw[if_pos ha];exact⟨_,rfl,by simpa using h3⟩
theorem Owns.insW {W:View} {h:Heap} {o:Own} {k:Key} {e:TypeId} {v:Value} {l:List InsD} (w:Owns W h o) (hk:o k=it e v l) {i:Nat} (hi:i<l.length) : ∃va,ao (vw h) (((slA v).add (i*5)).add 3)=some va/\SlRd W va l[i].args:=by obtain⟨cs,h1,h2,h3⟩:=Owns.elW w hk hi;have hn:Rep.n InsD=5:=rfl;rw[hn]at h1;obtain⟨c1,r1,e1,⟨rfl,q1⟩,c2,r2,e2,⟨rfl,q2⟩,c3,r3,e3,⟨rfl,q3⟩,c4,r4,e4,⟨va,rfl,q4⟩,q5,q6⟩:=h3;subst e4 e3 e2 e1;exact⟨va,gJ h1 Ri,q4⟩
theorem Owns.phiW {W:View} {h:Heap} {o:Own} {k:Key} {e:TypeId} {v:Value} {l:List PhiD} (w:Owns W h o) (hk:o k=it e v l) {i:Nat} (hi:i<l.length) : ∃va,ao (vw h) (((slA v).add (i*2)).add 1)=some va/\SlRd W va l[i].ins:=by obtain⟨cs,h1,h2,h3⟩:=Owns.elW w hk hi;have hn:Rep.n PhiD=2:=rfl;rw[hn]at h1;obtain⟨c1,r1,e1,⟨rfl,q1⟩,va,rfl,q4⟩:=h3;subst e1;exact⟨va,gJ h1 Ri,q4⟩
theorem nb {po:OP} {a b:Int} (ha:I64 a) (hb:I64 b) {ty:TypeId} {us:List (Nat × Value)} {h:Heap} {x:Operand} {K:Value->Heap->Prop} (hx:asg us x = .agg #[.int .i64 a,.int .i64 b])
  (hk : ∀h',(vw h).le (vw h')->(∀Y:View,Y h.size=h'[h.size]?->SlRd Y (.slice (some ⟨h.size,0,none⟩) 1 1) [InD.mk a b])->K (.slice (some ⟨h.size,0,none⟩) 1 1) h'):@Lft.step po Tryz.prog (.buildSlice T.ee 1 #[(0,x)]) ty us h K:=by
 refine pg (n:=1) (size:=2) (vs:=[(0,.agg #[.int .i64 a,.int .i64 b])]) (cs:=#[.int .i64 a,.int .i64 b]) El.ee Yc (by simp[hx]) Ya (hk _ (bV _ _) λY hY=>?_);have hb2:Y h.size=some (.cells #[.int .i64 a,.int .i64 b] T.iF (0,0)):=by rw[hY];simp
 refine⟨some ⟨h.size,0,none⟩,1,rfl,Lp _,by simp,.inr ⟨⟨h.size,0,none⟩,rfl,rfl,λi hi=>?_⟩⟩;have:i=0:=by simpa using hi
 subst this;have e:(⟨h.size,0,none⟩:Addr).add (0*Rep.n InD)=⟨h.size,0,none⟩:=by rw[M5];rfl
 rw[e];exact oJ (d:=InD.mk a b) (v:=.agg #[.int .i64 a,.int .i64 b]) (fz:=(0,0)) hb2 (EM ha hb)
theorem Owns.cut {W:View} {h:Heap} {o:Own} {k:Key} {α:Type} [r:Rep α] {e:TypeId} {v:Value} {l:List α} (w:Owns W h o) (hk:o k=it e v l) {N:Nat} (hN:Rep.n α=N) {j:Nat} (hj:j<l.length) : ∃v1 v2,Bn.ev .hi v (.int .i64 j)=some v1/\Bn.ev (.lo N) v (.int .i64 ((j:Int)+1))=some v2/\Owns W h (o.upd k (it e v1 (l.take j)))/\SrcT (vw h) W v2 (l.drop (j+1)):=by
 subst hN;obtain⟨hb,xs,⟨hl,hown⟩,hel⟩:=w.get hk;rcases hown with⟨rfl,hn⟩ | ⟨g,cap,cur,rfl,h2,h3,h4,h5,h6⟩
 ·omega
 have hjn:j*Rep.n α+Rep.n α<=l.length*Rep.n α:=by rw[<-Nat.succ_mul];exact LP _ hj
 have hcn:l.length*Rep.n α<=cap*Rep.n α:=LP _ h3;refine⟨.slice (some ⟨g,0,none⟩) j cap,.slice (if cap=j+1 then some ⟨g,0,none⟩ else(some ⟨g,0,none⟩:Option Addr).map (·.add ((j+1)*Rep.n α))) (l.length-(j+1)) (cap-(j+1)),?_,?_,?_,?_⟩
 ·simp only[Bn.ev,vL,vI,LI];rw[if_pos ⟨by omega,by omega⟩];simp
 ·simp only[Bn.ev,vL,vI,LI];rw[if_pos ⟨by omega,by omega⟩];have:((j:Int)+1).toNat=j+1:=by omega
  simp only[this]
 ·refine w.jf hk (h':=h) (v':=.slice (some ⟨g,0,none⟩) j cap) (l':=l.take j) ⟨by simp;omega,xs.take (j*Rep.n α),⟨?_,.inr ⟨g,cap,cur,?_,h2,?_,h4,h5,?_⟩⟩,λi hi=>?_⟩ ⟨⟨Lp _,λ_ _ _=>rfl⟩,.inl rfl⟩
  ·simp only[LZ];rw[hl];rw[L7 Yb,L7 Yb]
  ·rw[LZ,L7 Yb]
  ·simp;omega
  ·rw[LZ,L7 Yb,<-h6,MH,L7 Yb]
  have him:i<min j l.length:=by simpa using hi
  have hi:i<j/\i<l.length:=⟨by omega,by omega⟩;have:=hel i hi.2;rw[OV];have e2:((xs.take (j*Rep.n α)).drop (i*Rep.n α)).take (Rep.n α)=(xs.drop (i*Rep.n α)).take (Rep.n α):=by
   have h7:i*Rep.n α+Rep.n α<=j*Rep.n α:=by rw[<-Nat.succ_mul];exact LP _ hi.1
   rw[ML,MH,L7 Yb]
  rw[e2];exact this
 have hld:(l.drop (j+1)).length=l.length-(j+1):=by simp
 refine⟨_,_,by rw[hld],?_,xs.drop ((j+1)*Rep.n α),?_,?_,λi hi=>?_⟩
 ·intro hn;split at hn
  ·cases hn
  cases hn
 ·rw[L2,hl,hld,Nat.sub_mul]
 ·intro ad had i x hx;split at had
  ·rename_i hc;have:l.length=j+1:=by omega
   rw[L5 (by rw[hl,this];exact Lp _)]at hx;simp at hx
  simp only[Option.map_some,Ln]at had;subst had;have e3:(((⟨g,0,none⟩:Addr).add ((j+1)*Rep.n α)).add i)=⟨g,(j+1)*Rep.n α+i,none⟩:=by simp[Addr.z]
  rw[e3];have hx2:xs[(j+1)*Rep.n α+i]? = some x:=by rw[Ni]at hx;exact hx
  have hlt:(j+1)*Rep.n α+i<xs.length:=by
   rcases Lr ((j+1)*Rep.n α+i) xs.length with q | q
   ·exact q
   rw[L4 q]at hx2;cases hx2
  have h2v:vw h g=some (.cells cur e (0,0)):=h2;simp only[ao,h2v];rw[<-h6,List.getElem?_take_of_lt Yb]at hx2;simpa using hx2
 have hi:j+1+i<l.length:=by rw[hld]at hi;omega
 have:=hel (j+1+i) hi;rw[NL];rw[M3,show(j+1)*Rep.n α+i*Rep.n α=(j+1+i)*Rep.n α by rw[<-Nat.add_mul]];exact this
end Go.Proofs.YtnfiilgdjpdlkaaGreatDoor
namespace Go.Proofs.YtnfiilgdjpdlkaaGreatDoor
open Go Go.Lft
set_option maxHeartbeats 4000000 in
theorem sJ{f:an}{c:Nat}{v:Value}{q0 q1 q2:Int}{h:Heap}{W:View}{o0:Own}(w0:Owns W h o0)(ho0 : ∀k:Key,k.1<10->o0 k=none)(hv:Rd W v f)(hf:TF c f)(hc:c<=5000)(i0:I64 q0)(i1:I64 q1)(i2:I64 q2):
  az Tryz.prog N.dV #[v,.agg #[.int .i64 q0,.int .i64 q1,.int .i64 q2]] h (λu h'=>∃W' f',W.le W'/\Owns W' h' o0/\TF (c+1) f'/\Rd W' u f'):=by
 refine aw (args:=[v,.agg #[.int .i64 q0,.int .i64 q1,.int .i64 q2]]) follows F.dV E.dV (Lm Ya) λK hK=>?_;dsimp only[L.dV,lkF,lkG];obtain⟨vbs,rfl,ips,sbl⟩ : ∃vbs,v = .agg #[.int .i64 f.params,vbs]/\I64 f.params/\SlRd W vbs f.blocks:=by obtain⟨cs,rfl,c1,r1,e1,⟨rfl,h1⟩,vb,h2,h3⟩:=hv;exact⟨vb,by rw[<-Array.toList_inj.1 ((by rw[e1,h2];rfl):cs.toList = #[Value.int .i64 f.params,vb].toList)],h1,h3⟩
 refine ab λz hz=>?_;simp;refine dK (v:=.agg #[.int .i64 f.params,vbs]) rfl ?_;have hb1:(h.push (.cells (Value.agg #[.int .i64 f.params,vbs]).cells T.cz))[h.size]? = some (.cells (Value.agg #[.int .i64 f.params,vbs]).cells T.cz (0,0)):=by simp
 have hle1:=bV h (.cells (Value.agg #[.int .i64 f.params,vbs]).cells T.cz);generalize h.push (.cells (Value.agg #[.int .i64 f.params,vbs]).cells T.cz)=h1 at hb1 hle1;have hvbs:=sbl.cells.2;have w1:=w0.add (k:=(8,1)) (ho0 _ Yc) (gQ (W:=W) (d:=RawN.mk (n:=1) [.int .i64 f.params,vbs]) hb1 (lq rfl (by intro c hc;simp only[LF,MN,or_false]at hc;rcases hc with rfl | rfl<;>first | rfl | exact hvbs)) Yc) hle1 (λb hb=>by simp only[Value.ownBlock,Ln]at hb;omega);generalize h.size=F at w1;refine dK (v:=.agg #[.int .i64 q0,.int .i64 q1,.int .i64 q2]) rfl ?_;have hb2:(h1.push (.cells (Value.agg #[.int .i64 q0,.int .i64 q1,.int .i64 q2]).cells T.lR))[h1.size]? = some (.cells (Value.agg #[.int .i64 q0,.int .i64 q1,.int .i64 q2]).cells T.lR (0,0)):=by simp
 have hle2:=bV h1 (.cells (Value.agg #[.int .i64 q0,.int .i64 q1,.int .i64 q2]).cells T.lR);generalize h1.push (.cells (Value.agg #[.int .i64 q0,.int .i64 q1,.int .i64 q2]).cells T.lR)=h2 at hb2 hle2;have w2:=w1.ext hle2;have hg2:grow W h1 h2 h1.size=some (.cells (([q0,q1,q2]:List Int).map λx=>Value.int .i64 x).toArray T.lR (0,0)):=by rw[cI (Lp _),hb2];rfl
 have sq:SlRd (grow W h1 h2) (.slice (some ⟨h1.size,0,none⟩) 3 3) [q0,q1,q2]:=AR hg2 rfl Yc (by intro x hx;simp only[LF,MN,or_false]at hx;rcases hx with rfl | rfl | rfl<;>assumption);have hW2:=bP (h':=h2) w1.wle;generalize grow W h1 h2=W2 at w2 sq hW2;generalize h1.size=Q at sq;refine w2.cQ (k:=(8,0)) (n:=1) (z:=.agg #[.int .i64 0,.slice none 0 0]) (by rw[Own.ak Sa];exact ho0 _ Yc) Ya rfl Yc (by simp[Value.cells,Value.oneCell']) λh3 q3 w3=>?_;generalize h2.size=R at w3;have hsb2:=sbl.mono hW2;clear hb1 hle1 hb2 hle2 hg2 w1 w2 q3;subst hz;refine ab λz hz=>?_;simp;refine w3.fe (k:=(3,0)) (α:=BlkD) (by rw[Own.ak Sa,Own.ak Sa];exact ho0 _ Yc) El.jA λv4 h4 hle4 hv4 w4 _=>?_;have c4:ao (vw h4) ⟨F,1,none⟩=some vbs:=w4.raw (k:=(8,1)) (e:=T.cz) (n:=1) (l:=[.int .i64 f.params,vbs]) (by rw[Own.ak Sa,Own.ak Sa,Own.aj];rfl) (i:=1) Yc;simp[c4];have hbl:=hf.len;refine w4.bY (k:=(3,0)) (α:=BlkD) (l:=([]:List BlkD)) (l2:=f.blocks) Own.aj El.jA rfl rfl (hsb2.src w4.wle) (by simp;omega) (by simp;omega) λvbk h5 w5 _=>?_;rw[LR]at w5;have hvk:=(w5.cells (k:=(3,0)) Own.aj).2;subst hz;refine ab λz hz=>?_;simp;refine w5.dg (k:=(8,1)) (n:=1) (i:=1) (e:=T.cz) (B:=F) (l:=[.int .i64 f.params,vbs]) (by rw[Own.ak Sa,Own.ak Sa,Own.ak Sa,Own.aj];rfl) Yc Ya rfl rfl hvk λh6 w6 _=>?_;obtain⟨o6,ho6⟩ : ∃o6:Own,o6=λk=>if k=(8,0) then bx T.cz R (RawN.mk (n:=1) [.int .i64 0,.slice none 0 0]) else if k=(8,1) then bx T.cz F (RawN.mk (n:=1) [.int .i64 f.params,vbk]) else if k=(3,0) then it T.dh vbk f.blocks else o0 k:=⟨_,rfl⟩;have w6:Owns W2 h6 o6:=w6.congr λk=>by
  rw[ho6];unfold Own.upd;repeat' split
  all_goals first | rfl | simp_all
 clear w5 w4 w3 c4;have hlen : ∀{Q:View},Un.ev Q .len vbk=some (.int .i64 f.blocks.length):=fun{Q}=>(w6.now (k:=(3,0)) (v:=vbk) (l:=f.blocks) (by rw[ho6];rfl)).len;subst hz;refine ab λz hz=>?_;refine ab λy hy=>?_;simp[hlen];subst hy;by_cases c0:f.blocks.length=0
 ·have c0':f.blocks=[]:=Ls c0;refine aD (by simp[c0,c0']) ?_;refine ab λy hy=>?_;have ca:=w6.lT (k:=(8,1)) (n:=1) (l:=[.int .i64 f.params,vbk]) (e:=T.cz) (B:=F) (by rw[ho6];rfl);have ca:Un.ev (vw h6) (.bM 2) (.pointer (some ⟨F,0,none⟩))=some (.agg #[.int .i64 f.params,vbk]):=ca;simp[ca];refine w6.gH (k:=(8,0)) (α:=RawN 1) (β:=RawN 1) Part.all (B:=R) (D:=RawN.mk (n:=1) [.int .i64 0,.slice none 0 0]) (d:=RawN.mk (n:=1) [.int .i64 f.params,vbk]) (by rw[ho6];rfl) Ya rfl rfl (lq rfl (by intro c hc;simp only[LF,MN,or_false]at hc;rcases hc with rfl | rfl<;>first | rfl | exact hvk)) λh7 w7 _=>?_;have cb:=w7.lT (k:=(8,0)) (n:=1) (l:=[.int .i64 f.params,vbk]) Own.aj;have cb:Un.ev (vw h7) (.bM 2) (.pointer (some ⟨R,0,none⟩))=some (.agg #[.int .i64 f.params,vbk]):=cb;have sb7:=w7.now (k:=(3,0)) (v:=vbk) (l:=f.blocks) (by rw[Own.ak Sa,ho6];rfl);subst hy;simp[cb];obtain⟨w8,s8⟩:=w7.freeze (k:=(3,0)) (v:=vbk) (l:=f.blocks) (by rw[Own.ak Sa,ho6];rfl);have hW8:=eM (h:=h7) (w7.av (3,0) ⟨_,_,T.dh,vbk,f.blocks⟩ (by rw[Own.ak Sa,ho6];rfl));have w9:=w8.sub (o':=o0) λk i hk=>by
   rcases Lr k.1 10 with e | e
   ·rw[ho0 k e]at hk;cases hk
   rw[Own.ak (by rintro rfl;simp at e),Own.ak (by rintro rfl;simp at e),ho6];dsimp only;rw[if_neg (by rintro rfl;simp at e),if_neg (by rintro rfl;simp at e),if_neg (by rintro rfl;simp at e)];exact hk
  exact hK _ _ ⟨_,f,View.le_trans hW2 hW8,w9,hf.mono Yb,⟨_,rfl,[.int .i64 f.params],[vbk],rfl,⟨rfl,ips⟩,vbk,rfl,s8⟩⟩
 have c0':¬f.blocks=[]:=λe=>c0 (by rw[e];rfl);refine aB (by simp[c0']) ?_;simp;subst hz;refine ab λz hz=>?_;simp;refine CU (n:=3) (e:=T.int) (sz:=1) U.lR Ya rfl ?_;refine ay (z:=.agg #[.slice none 0 0,.int .i64 0,.int .i64 0,.slice none 0 0,.int .i64 0,.slice none 0 0]) (places:=[(0,1),(1,1),(2,2),(4,1),(5,1)]) (vs:=[(0,.slice (some ⟨Q,0,none⟩) 3 3)]) (cs:=#[.slice (some ⟨Q,0,none⟩) 3 3,.int .i64 0,.int .i64 0,.slice none 0 0,.int .i64 0,.slice none 0 0]) Ya Ya Sa Ri ?_;refine dK (v:=.agg #[.slice (some ⟨Q,0,none⟩) 3 3,.int .i64 0,.int .i64 0,.slice none 0 0,.int .i64 0,.slice none 0 0]) rfl ?_;have hbx:(h6.push (.cells (Value.agg #[.slice (some ⟨Q,0,none⟩) 3 3,.int .i64 0,.int .i64 0,.slice none 0 0,.int .i64 0,.slice none 0 0]).cells T.aR))[h6.size]? = some (.cells (Value.agg #[.slice (some ⟨Q,0,none⟩) 3 3,.int .i64 0,.int .i64 0,.slice none 0 0,.int .i64 0,.slice none 0 0]).cells T.aR (0,0)):=by simp
 have hle7:=bV h6 (.cells (Value.agg #[.slice (some ⟨Q,0,none⟩) 3 3,.int .i64 0,.int .i64 0,.slice none 0 0,.int .i64 0,.slice none 0 0]).cells T.aR);generalize h6.push (.cells (Value.agg #[.slice (some ⟨Q,0,none⟩) 3 3,.int .i64 0,.int .i64 0,.slice none 0 0,.int .i64 0,.slice none 0 0]).cells T.aR)=h7 at hbx hle7;have w7:=w6.add (k:=(0,0)) (by rw[ho6];exact ho0 _ Yc) (gQ (W:=W2) (d:=RawN.mk (n:=5) [.slice (some ⟨Q,0,none⟩) 3 3,.int .i64 0,.int .i64 0,.slice none 0 0,.int .i64 0,.slice none 0 0]) hbx (lq rfl (by simp[Value.oneCell'])) Yc) hle7 (λb hb=>by simp only[Value.ownBlock,Ln]at hb;omega);generalize h6.size=M at w7;generalize Value.slice (some ⟨Q,0,none⟩) 3 3=vs at sq w7;obtain⟨o7,ho7⟩ : ∃o7:Own,o7=λk=>if k=(0,0) then bx T.aR M (RawN.mk (n:=5) (mkL vs 0 0 (.slice none 0 0) 0 (.slice none 0 0))) else if k=(0,1) then it T.int (.slice none 0 0) ([]:List Int) else if k=(0,2) then it T.dh (.slice none 0 0) ([]:List BlkM) else o6 k:=⟨_,rfl⟩;have w7:Owns W2 h7 o7:=w7.nils λk i hk=>by
  rw[ho7]at hk;dsimp only at hk;split at hk
  ·rename_i e;rw[e];exact .inl hk
  rename_i e0;split at hk
  ·cases hk;exact .inr ⟨rfl,OwnT.nil (α:=Int) _ _ _⟩
  split at hk
  ·cases hk;exact .inr ⟨rfl,OwnT.nil (α:=BlkM) _ _ _⟩
  refine .inl ?_;rw[Own.ak e0];exact hk
 have w7:Mk [q0,q1,q2] M vs W2 h7 o7 ⟨0,0,[],0,[]⟩:=⟨w7,sq,.slice none 0 0,.slice none 0 0,[],by rw[ho7];rfl,by rw[ho7];rfl,by rw[ho7];rfl,rfl,λi hi=>by simp at hi,λi hi=>by simp at hi,λi hi=>by simp at hi⟩;have f7 : ∀k:Key,3<=k.1->o7 k=o6 k:=λk hk=>by rw[ho7];dsimp only;rw[if_neg (by rintro rfl;simp at hk),if_neg (by rintro rfl;simp at hk),if_neg (by rintro rfl;simp at hk)]
 clear hbx hle7 w6 ho7;subst hz;refine ab λz hz=>?_;simp;refine ah Ya (w7.take Yc (n:=12) Yc Yc) ?_;rintro _ h8 ⟨rfl,o8,w8,f8⟩;obtain⟨t0,t1⟩:=cS (s:=[q0,q1,q2]) (at_:=0) (n:=12) Yc;simp;subst hz;refine ab λz hz=>?_;simp[hlen];refine ah Ya (w8.take Yc (n:=(f.blocks.length:Int)) Yb Yb) ?_;rintro _ h9 ⟨rfl,o9,w9,f9⟩;obtain⟨b0,b1⟩:=cS (s:=[q0,q1,q2]) (at_:=1) (n:=(f.blocks.length:Int)) Yb;subst hz;refine ab λz hz=>?_;simp;refine ah Ya (w9.take Yc (n:=40) Yc Yc) ?_;rintro _ h10 ⟨rfl,o10,w10,f10⟩;obtain⟨n0,n1⟩:=cS (s:=[q0,q1,q2]) (at_:=2) (n:=40) Yc;have e0:MS.at_ ⟨0,0,[],0,[]⟩=0:=rfl;have e1:MS.at_ (MS.took ⟨0,0,[],0,[]⟩)=1:=rfl;have e2:MS.at_ (MS.took (MS.took ⟨0,0,[],0,[]⟩))=2:=rfl;rw[e1,e2];have w10:=w10.own.sub (o':=o6) λk i hk=>by
  have hk3:3<=k.1:=by
   rw[ho6]at hk;dsimp only at hk;split at hk
   ·rename_i e;rw[e];decide
   split at hk
   ·rename_i e;rw[e];decide
   split at hk
   ·rename_i e;rw[e];decide
   rcases Lr k.1 10 with e | e
   ·rw[ho0 k e]at hk;cases hk
   omega
  rw[f10 k hk3,f9 k hk3,f8 k hk3,f7 k hk3];exact hk
 clear f10 f9 f8 f7 w9 w8 w7 e0 e1 e2;generalize aI [q0,q1,q2] 0 12=what at t0 t1;generalize aI [q0,q1,q2] 1 f.blocks.length=bb at b0 b1;generalize aI [q0,q1,q2] 2 40=nn at n0 n1;obtain⟨b,rfl⟩ : ∃b:Nat,bb=b:=⟨bb.toNat,by omega⟩;obtain⟨n,rfl⟩ : ∃n:Nat,nn=n:=⟨nn.toNat,by omega⟩;subst hz;have hbl2:b<f.blocks.length:=by omega
 have tb:=hf.blk _ (LX hbl2);refine ab λz hz=>?_;obtain⟨ux,hux,huxr⟩:=Owns.ldW w10 (k:=(3,0)) (v:=vbk) (l:=f.blocks) (by rw[ho6];rfl) rfl (N:=6) rfl hbl2;have sbk:=w10.now (k:=(3,0)) (v:=vbk) (l:=f.blocks) (by rw[ho6];rfl);obtain⟨vp,vi,va,vt,rfl,rp,ri,ra,rt,ik,im⟩:=HD huxr;generalize f.blocks[b]=xb at tb rp ri ra rt ik im hux huxr;have bp:=rp.cells.2;have bi:=ri.cells.2;have ba:=ra.cells.2;have bt:=rt.cells.2;simp(disch:=omega)[sbk.idxn (N:=6) rfl,hux];refine w10.eu (k:=(3,1)) (n:=5) (l:=[vp,vi,.int .i64 xb.term.kind,va,vt,.int .i32 xb.term.imm.v]) (by rw[ho6];exact ho0 _ Yc) (z:=.agg #[.slice none 0 0,.slice none 0 0,.int .i64 0,.slice none 0 0,.slice none 0 0,.int .i32 0]) Ya rfl Ya rfl Yc (by intro c hc;simp only[LF,MN,or_false]at hc;rcases hc with rfl | rfl | rfl | rfl | rfl | rfl<;>first | rfl | assumption) (λ_=>by simp) (λ_=>by simp) λh11 q11 w11=>?_;generalize h10.size=X at w11;subst hz;refine ab λz hz=>?_;simp;refine w11.fe (k:=(3,2)) (α:=InsD) (by rw[Own.ak Sa,ho6];exact ho0 _ Yc) El.jE λv12 h12 hle12 hv12 w12 _=>?_;have c12:ao (vw h12) ⟨X,1,none⟩=some vi:=w12.raw (k:=(3,1)) (e:=T.dh) (n:=5) (l:=[vp,vi,.int .i64 xb.term.kind,va,vt,.int .i32 xb.term.imm.v]) (by rw[Own.ak Sa,Own.aj]) (i:=1) Yc;simp[c12];refine w12.bY (k:=(3,2)) (α:=InsD) (l:=([]:List InsD)) (l2:=xb.ins) Own.aj El.jE rfl rfl (ri.src w12.wle) (by have:=tb.ins;simp;omega) (by have:=tb.ins;simp;omega) λvi2 h13 w13 _=>?_;rw[LR]at w13;have hvi2:=(w13.cells (k:=(3,2)) Own.aj).2;refine w13.dg (k:=(3,1)) (n:=5) (i:=1) (e:=T.dh) (B:=X) (l:=[vp,vi,.int .i64 xb.term.kind,va,vt,.int .i32 xb.term.imm.v]) (by rw[Own.ak Sa,Own.ak Sa,Own.aj]) Yc Ya rfl rfl hvi2 λh14 w14 _=>?_;subst hz;refine ab λz hz=>?_;simp;refine w14.fe (k:=(3,3)) (α:=PhiD) (by rw[Own.ak Sa,Own.ak Sa,Own.ak Sa,Own.ak Sa,ho6];exact ho0 _ Yc) El.kq λv15 h15 hle15 hv15 w15 _=>?_;have c15:ao (vw h15) ⟨X,0,none⟩=some vp:=w15.raw (k:=(3,1)) (e:=T.dh) (n:=5) (l:=[vp,vi2,.int .i64 xb.term.kind,va,vt,.int .i32 xb.term.imm.v]) (by rw[Own.ak Sa,Own.aj];rfl) (i:=0) Yc;simp[c15];refine w15.bY (k:=(3,3)) (α:=PhiD) (l:=([]:List PhiD)) (l2:=xb.phis) Own.aj El.kq rfl rfl (rp.src w15.wle) (by have:=tb.phis;simp;omega) (by have:=tb.phis;simp;omega) λvp2 h16 w16 _=>?_;rw[LR]at w16;have hvp2:=(w16.cells (k:=(3,3)) Own.aj).2;refine w16.dg (k:=(3,1)) (n:=5) (i:=0) (e:=T.dh) (B:=X) (l:=[vp,vi2,.int .i64 xb.term.kind,va,vt,.int .i32 xb.term.imm.v]) (by rw[Own.ak Sa,Own.ak Sa,Own.aj];rfl) Yc Ya rfl rfl hvp2 λh17 w17 _=>?_;have tu : ∃o,Tu R F X o0 c W2 vbk f.blocks W2 o f.params vp2 vi2 va vt xb.term.kind xb.term.imm.v xb.phis xb.ins xb.term.args xb.term.to/\Owns W2 h17 o:=by
  refine⟨_,⟨View.le_refl _,?_,?_,?_,?_,?_,?_,?_,?_,ra,rt,ips,ik,im,⟨tb.phis,tb.ins,tb.args,tb.to,tb.pin,tb.iar⟩⟩,w17⟩
  ·simp[Own.upd,ho6]
  ·simp[Own.upd,ho6]
  ·simp[Own.upd,ho6]
  ·simp[Own.upd]
  ·simp[Own.upd]
  ·simp[Own.upd]
  ·simp[Own.upd,ho6,ho0]
  intro k hk;repeat rw[Own.ak (by rintro rfl;simp at hk)]
  rw[ho6];dsimp only;rw[if_neg (by rintro rfl;simp at hk),if_neg (by rintro rfl;simp at hk),if_neg (by rintro rfl;simp at hk)]
 clear w17 w16 w15 w14 w13 w12 w11 w10 c15 c12 rp ri hux huxr bp bi ba bt;obtain⟨o17,t,w17⟩:=tu;have hc0 : ∀{i:Nat},i<=5->ao (vw h17) ⟨X,i,none⟩=some ([vp2,vi2,.int .i64 xb.term.kind,va,vt,.int .i32 xb.term.imm.v].getD i undef):=λhi=>w17.raw t.box hi;have x0:ao (vw h17) ⟨X,0,none⟩=some vp2:=hc0 (i:=0) Yc;have x1:ao (vw h17) ⟨X,1,none⟩=some vi2:=hc0 (i:=1) Yc;have x4:ao (vw h17) ⟨X,4,none⟩=some vt:=hc0 (i:=4) Yc;have sI:=w17.now t.ins;have sP:=w17.now t.phis;have sT:=t.rt;have hli : ∀{Q:View},Un.ev Q .len vi2=some (.int .i64 xb.ins.length):=fun{Q}=>sI.len;have hlp : ∀{Q:View},Un.ev Q .len vp2=some (.int .i64 xb.phis.length):=fun{Q}=>sP.len
 have hlt : ∀{Q:View},Un.ev Q .len vt=some (.int .i64 xb.term.to.length):=fun{Q}=>sT.len;have tbi:=tb.ins
 have tbp:=tb.phis;have tbt:=tb.to;clear hc0;subst hz;refine ab λz hz=>?_;simp;subst hz;refine ab λz hz=>?_;obtain⟨j,hj1,hj2⟩ : ∃j:Nat,(0<xb.ins.length->j<xb.ins.length)/\(j:Int)=if 0<xb.ins.length then(n:Int).tmod xb.ins.length else 0:=by
  by_cases c1:0<xb.ins.length
  ·refine⟨((n:Int).tmod xb.ins.length).toNat,λ_=>?_,?_⟩
   ·have:=MK (n:Int) (show(0:Int)<xb.ins.length by omega);have:=MT (xb.ins.length:Int) (show(0:Int)<=n by omega);omega
   rw[if_pos c1];have:=MT (xb.ins.length:Int) (show(0:Int)<=n by omega);omega
  exact⟨0,λq=>absurd q c1,by rw[if_neg c1];rfl⟩
 have sw : ∀ρ:Env,Lft.look ρ 2=some (.pointer (some ⟨F,0,none⟩))->Lft.look ρ 4=some (.pointer (some ⟨R,0,none⟩))->Lft.look ρ 5=some vbk->Lft.look ρ 7=some (.int .i64 what)->Lft.look ρ 8=some (.int .i64 b)->Lft.look ρ 9=some (.int .i64 n)->Lft.look ρ 10=some (.pointer (some ⟨X,0,none⟩))->Lft.look ρ 11=some (.int .i64 j)->LC.wp Tryz.prog z (dW [.un (.bM 2) (.tmp 4)] K) ρ h17:=by
  intro ρ r2 r4 r5 r7 r8 r9 r10 r11;subst hz;refine ab λz hz=>?_;have fin : ∀(h':Heap) (ρ:Env),TuE R F X o0 (c+1) W2 vbk f.blocks h'->Lft.look ρ 2=some (.pointer (some ⟨F,0,none⟩))->Lft.look ρ 4=some (.pointer (some ⟨R,0,none⟩))->Lft.look ρ 5=some vbk->Lft.look ρ 8=some (.int .i64 b)->Lft.look ρ 10=some (.pointer (some ⟨X,0,none⟩))->LC.wp Tryz.prog z (dW [.un (.bM 2) (.tmp 4)] K) ρ h':=by
   intro h' ρ tE r2 r4 r5 r8 r10;subst hz;obtain⟨W,o,ps',vp',vi',va',vt',kd',im',lp',li',la',lt',t,w⟩:=tE;have sbk:=w.now t.blk;have cx:=w.lT (k:=(3,1)) t.box;have cx:Un.ev (vw h') (.bM 6) (.pointer (some ⟨X,0,none⟩))=some (.agg #[vp',vi',.int .i64 kd',va',vt',.int .i32 im']):=cx;obtain⟨wA,sI⟩:=w.freeze t.ins;obtain⟨wB,sP⟩:=wA.freeze ((Own.ak Sa).trans t.phis);have sI:=sI.mono (eM (h:=h') (wA.av _ _ ((Own.ak Sa).trans t.phis)));have hWW:=View.le_trans (eM (h:=h') (w.av _ _ t.ins)) (eM (h:=h') (wA.av _ _ ((Own.ak Sa).trans t.phis)));refine ab λz hz=>?_;simp(disch:=omega)[af,ag,r2,r4,r5,r8,r10,cx,sbk.idxn (N:=6) rfl];refine wB.bD (k:=(3,0)) (α:=BlkD) (v:=vbk) (l:=f.blocks) (i:=b) (d:=⟨lp',li',⟨kd',la',lt',⟨im'⟩⟩⟩) ((Own.ak Sa).trans ((Own.ak Sa).trans t.blk)) Ya rfl rfl Yb (Fl (imm:=⟨im'⟩) sP sI (t.ra.mono hWW) (t.rt.mono hWW) t.ikd t.iim) λh2 w2 _=>?_;subst hz;refine ab λz hz=>?_;have fF:(((o.upd (3,2) none).upd (3,3) none).upd (3,0) (it T.dh vbk (f.blocks.set b ⟨lp',li',⟨kd',la',lt',⟨im'⟩⟩⟩))) (8,1)=bx T.cz F (RawN.mk (n:=1) [.int .i64 ps',vbk]):=by simp[Own.upd,t.fn]
   have fR:(((o.upd (3,2) none).upd (3,3) none).upd (3,0) (it T.dh vbk (f.blocks.set b ⟨lp',li',⟨kd',la',lt',⟨im'⟩⟩⟩))) (8,0)=bx T.cz R (RawN.mk (n:=1) [.int .i64 0,.slice none 0 0]):=by simp[Own.upd,t.res]
   have cF:=w2.lT (k:=(8,1)) fF;have cF:Un.ev (vw h2) (.bM 2) (.pointer (some ⟨F,0,none⟩))=some (.agg #[.int .i64 ps',vbk]):=cF;simp[af,ag,r2,r4,r5,r8,r10,cF];refine w2.gH (k:=(8,0)) (α:=RawN 1) (β:=RawN 1) Part.all (B:=R) (D:=RawN.mk (n:=1) [.int .i64 0,.slice none 0 0]) (d:=RawN.mk (n:=1) [.int .i64 ps',vbk]) fR Ya rfl rfl (lq rfl (by intro c hc;simp only[LF,MN,or_false]at hc;rcases hc with rfl | rfl<;>first | rfl | exact hvk)) λh3 w3 _=>?_;have cb:=w3.lT (k:=(8,0)) (n:=1) (l:=[.int .i64 ps',vbk]) Own.aj;have cb:Un.ev (vw h3) (.bM 2) (.pointer (some ⟨R,0,none⟩))=some (.agg #[.int .i64 ps',vbk]):=cb;have sb3:=w3.now (k:=(3,0)) (v:=vbk) (l:=f.blocks.set b ⟨lp',li',⟨kd',la',lt',⟨im'⟩⟩⟩) (by rw[Own.ak Sa,Own.aj]);subst hz;simp[af,ag,r2,r4,r5,r8,r10,cb];obtain⟨w4,s4⟩:=w3.freeze (k:=(3,0)) (v:=vbk) (l:=f.blocks.set b ⟨lp',li',⟨kd',la',lt',⟨im'⟩⟩⟩) (by rw[Own.ak Sa,Own.aj]);have hW4:=eM (h:=h3) (w3.av (3,0) _ ((Own.ak Sa).trans Own.aj));have w5:=w4.sub (o':=o0) λk i hk=>by
    rcases Lr k.1 10 with e | e
    ·rw[ho0 k e]at hk;cases hk
    rw[Own.ak (by rintro rfl;simp at e),Own.ak (by rintro rfl;simp at e),Own.ak (by rintro rfl;simp at e),Own.ak (by rintro rfl;simp at e),Own.ak (by rintro rfl;simp at e),t.fr k e];exact hk
   refine hK _ _ ⟨_,⟨ps',f.blocks.set b ⟨lp',li',⟨kd',la',lt',⟨im'⟩⟩⟩⟩,View.le_trans hW2 (View.le_trans t.le (View.le_trans hWW hW4)),w5,⟨by show(f.blocks.set b _).length<=_;rw[LJ];exact hf.len,λx hx=>?_⟩,⟨_,rfl,[.int .i64 ps'],[vbk],rfl,⟨rfl,t.ips⟩,vbk,rfl,s4⟩⟩;rcases ME hx with q | q
   ·exact(hf.blk x q).mono Yb
   rw[q];exact t.tb
  refine ab λy hy=>?_;simp[af,ag,r2,r4,r5,r7,r8,r9,r10,r11];subst hy;simp only[aN];refine ab λy hy=>?_;simp[af,ag,r2,r4,r5,r7,r8,r9,r10,r11];subst hy;by_cases w0:what=0
  ·refine aD (by simp[af,ag,w0]) ?_;simp[af,ag,r2,r4,r5,r7,r8,r9,r10,r11];refine t.Dr w17 yi Ya rfl rfl λh2 tE=>?_;refine fin _ _ (tE.mono Yb) ?_ ?_ ?_ ?_ ?_<;>simp[af,ag,r2,r4,r5,r8,r10]
  refine aB (by simp[af,ag,w0]) ?_;refine ab λy hy=>?_;simp[af,ag,r2,r4,r5,r7,r8,r9,r10,r11];subst hy;by_cases w1:what=1
  ·refine aD (by simp[af,ag,w1]) ?_;refine ab λy hy=>?_;simp[af,ag,r2,r4,r5,r7,r8,r9,r10,r11,x1,hli];subst hy;by_cases c1:0<xb.ins.length
   ·have hj:=hj1 c1;refine aD (by simp[af,ag];exact c1) ?_;simp(disch:=omega)[af,ag,r2,r4,r5,r7,r8,r9,r10,r11,x1,sI.idxn (N:=5) rfl];refine t.AV InsD.tB w17 (j:=j) (d:=_) hj (bK.2 ⟨rfl,yi⟩) (t.tb.iar xb.ins[j] (LX hj)) Ya rfl rfl λh2 tE=>?_;refine fin _ _ (tE.mono Yb) ?_ ?_ ?_ ?_ ?_<;>simp[af,ag,r2,r4,r5,r8,r10]
   have he:xb.ins=[]:=Ls Yb;refine aB (by simp[af,ag,he]) ?_;simp;refine fin _ _ (TuE.mono ⟨_,_,_,_,_,_,_,_,_,_,_,_,_,t,w17⟩ Yb) ?_ ?_ ?_ ?_ ?_<;>simp[af,ag,r2,r4,r5,r8,r10]
  refine aB (by simp[af,ag,w1]) ?_;refine ab λy hy=>?_;simp[af,ag,r2,r4,r5,r7,r8,r9,r10,r11];subst hy;by_cases w2:what=2
  ·refine aD (by simp[af,ag,w2]) ?_;refine ab λy hy=>?_;simp[af,ag,r2,r4,r5,r7,r8,r9,r10,r11,x1,hli];subst hy;by_cases c1:0<xb.ins.length
   ·have hj:=hj1 c1;refine aD (by simp[af,ag];exact c1) ?_;simp(disch:=omega)[af,ag,r2,r4,r5,r7,r8,r9,r10,r11,x1,sI.idxn (N:=5) rfl];refine t.AV InsD.ix w17 (j:=j) (d:=(n:Int)) hj (bK.2 ⟨rfl,by constructor<;>omega⟩) (t.tb.iar xb.ins[j] (LX hj)) Ya rfl rfl λh2 tE=>?_;refine fin _ _ (tE.mono Yb) ?_ ?_ ?_ ?_ ?_<;>simp[af,ag,r2,r4,r5,r8,r10]
   have he:xb.ins=[]:=Ls Yb;refine aB (by simp[af,ag,he]) ?_;simp;refine fin _ _ (TuE.mono ⟨_,_,_,_,_,_,_,_,_,_,_,_,_,t,w17⟩ Yb) ?_ ?_ ?_ ?_ ?_<;>simp[af,ag,r2,r4,r5,r8,r10]
  refine aB (by simp[af,ag,w2]) ?_;refine ab λy hy=>?_;simp[af,ag,r2,r4,r5,r7,r8,r9,r10,r11];subst hy;by_cases w3:what=3
  ·refine aD (by simp[af,ag,w3]) ?_;refine ab λy hy=>?_;by_cases c1:0<xb.ins.length
   ·have hj:=hj1 c1;have c1i:(0:Int)<xb.ins.length:=by omega
    obtain⟨va3,ca3,ra3⟩:=Owns.insW w17 t.ins hj;have hta:=t.tb.iar _ (LX hj);simp(disch:=omega)[af,ag,r2,r4,r5,r7,r8,r9,r10,r11,x1,hli,c1,c1i,sI.idxn (N:=5) rfl,ca3,ra3.len];subst hy;by_cases c2:0<xb.ins[j].args.length
    ·refine aD (by simp[af,ag];first | exact c2 | omega) ?_;refine ab λy hy=>?_;simp[af,ag];refine w17.fe (k:=(4,0)) (α:=Int) t.free El.aY λv18 h18 hle18 hv18 w18 _=>?_;simp(disch:=omega)[af,ag,r2,r4,r5,r7,r8,r9,r10,r11,ae hle18 x1,(sI.mono hle18).idxn (N:=5) rfl,ae hle18 ca3];refine w18.bY (k:=(4,0)) (α:=Int) (l:=([]:List Int)) (l2:=xb.ins[j].args) Own.aj El.aY rfl rfl (ra3.src w18.wle) (by simp;omega) (by simp;omega) λv19 h19 w19 _=>?_;rw[LR]at w19;have w19:Owns W2 h19 (o17.upd (4,0) (it T.int v19 xb.ins[j].args)):=w19.congr λq=>by rw[cw]
     subst hy;refine ab λy hy=>?_;have s19:=w19.now (k:=(4,0)) Own.aj;have m0:=MT (xb.ins[j].args.length:Int) (show(0:Int)<=n by omega);have m1:=MK (n:Int) (show(0:Int)<xb.ins[j].args.length by omega);have hne:¬xb.ins[j].args=[]:=λe=>by rw[e]at c2;simp at c2
     simp(disch:=omega)[af,ag,r2,r4,r5,r7,r8,r9,r10,r11,s19.len,hne,s19.idx1 rfl];refine w19.bD (k:=(4,0)) (α:=Int) (v:=v19) (l:=xb.ins[j].args) (i:=((n:Int).tmod xb.ins[j].args.length).toNat) (d:=(n:Int)) Own.aj Ya (by rw[show Rep.n Int=1 from rfl,MA];rfl) rfl Yb (bK.2 ⟨rfl,by constructor<;>omega⟩) λh20 w20 _=>?_;have w20:Owns W2 h20 (o17.upd (4,0) (it T.int v19 (xb.ins[j].args.set ((n:Int).tmod xb.ins[j].args.length).toNat n))):=w20.congr λq=>by rw[cw]
     subst hy;have x1':ao (vw h20) ⟨X,1,none⟩=some vi2:=w20.raw (k:=(3,1)) ((Own.ak Sa).trans t.box) (i:=1) Yc;have sI':=w20.now (k:=(3,2)) ((Own.ak Sa).trans t.ins);obtain⟨w21,s21⟩:=w20.freeze Own.aj;have hWp:=eM (h:=h20) (w20.av _ _ Own.aj);have w21:=w21.congr (o':=o17) λq=>by
      rw[cw];unfold Own.upd;split
      ·rename_i e;rw[e];exact t.free
      rfl
     simp(disch:=omega)[af,ag,r2,r4,r5,r7,r8,r9,r10,r11,x1',sI'.idxn (N:=5) rfl];refine(t.wider hWp).AV InsD.fj w21 (j:=j) (d:=xb.ins[j].args.set ((n:Int).tmod xb.ins[j].args.length).toNat n) hj (eO.2 s21) (by show(List.set _ _ _).length<=_;rw[LJ];exact hta) Ya rfl rfl λh2 tE=>?_;refine fin _ _ (tE.mono Yb) ?_ ?_ ?_ ?_ ?_<;>simp[af,ag,r2,r4,r5,r8,r10]
    refine aB (by simp[af,ag];first | omega | exact Ls Yb) ?_;simp;refine fin _ _ (TuE.mono ⟨_,_,_,_,_,_,_,_,_,_,_,_,_,t,w17⟩ Yb) ?_ ?_ ?_ ?_ ?_<;>simp[af,ag,r2,r4,r5,r8,r10]
   have he:xb.ins=[]:=Ls Yb;have c1i:¬(0:Int)<xb.ins.length:=by omega
   simp[af,ag,r2,r4,r5,r7,r8,r9,r10,r11,x1,hli,c1,c1i];subst hy;refine aB (by simp[af,ag]) ?_;simp;refine fin _ _ (TuE.mono ⟨_,_,_,_,_,_,_,_,_,_,_,_,_,t,w17⟩ Yb) ?_ ?_ ?_ ?_ ?_<;>simp[af,ag,r2,r4,r5,r8,r10]
  refine aB (by simp[af,ag,w3]) ?_;refine ab λy hy=>?_;simp[af,ag,r2,r4,r5,r7,r8,r9,r10,r11];subst hy;by_cases w4:what=4
  ·refine aD (by simp[af,ag,w4]) ?_;simp[af,ag];refine w17.fe (k:=(4,0)) (α:=Int) t.free El.aY λv18 h18 hle18 hv18 w18 _=>?_;simp(disch:=omega)[af,ag,r2,r4,r5,r7,r8,r9,r10,r11,ae hle18 x4];refine w18.bY (k:=(4,0)) (α:=Int) (l:=([]:List Int)) (l2:=xb.term.to) Own.aj El.aY rfl rfl (t.rt.src w18.wle) (by simp;omega) (by simp;omega) λv19 h19 w19 _=>?_;rw[LR]at w19;have w19:Owns W2 h19 (o17.upd (4,0) (it T.int v19 xb.term.to)):=w19.congr λq=>by rw[cw]
   refine w19.ib (k:=(4,0)) (α:=Int) (d:=IntKind.i64.wrap ((n:Int).tmod 12-1)) Own.aj El.aY rfl (bK.2 ⟨rfl,yi⟩) Yb Yb (λ_=>rfl) (λ_=>rfl) λu20 v20 h20 w20 _=>?_;have w20:Owns W2 h20 (o17.upd (4,0) (it T.int v20 (xb.term.to++[IntKind.i64.wrap ((n:Int).tmod 12-1)]))):=w20.congr λq=>by rw[cw]
   obtain⟨w21,s21⟩:=w20.freeze Own.aj;have hWp:=eM (h:=h20) (w20.av _ _ Own.aj);have w21:=w21.congr (o':=o17) λq=>by
    rw[cw];unfold Own.upd;split
    ·rename_i e;rw[e];exact t.free
    rfl
   refine((t.wider hWp).more (d:=c+1) Yb).Cf w21 s21 (by rw[Lv,LO];omega) Ya rfl rfl λh2 tE=>?_;refine fin _ _ tE ?_ ?_ ?_ ?_ ?_<;>simp[af,ag,r2,r4,r5,r8,r10]
  refine aB (by simp[af,ag,w4]) ?_;refine ab λy hy=>?_;simp[af,ag,r2,r4,r5,r7,r8,r9,r10,r11];subst hy;by_cases w5:what=5
  ·refine aD (by simp[af,ag,w5]) ?_;simp[af,ag,r2,r4,r5,r7,r8,r9,r10,r11];have m0:=MT (7:Int) (show(0:Int)<=n by omega);have m1:=MK (n:Int) (show(0:Int)<7 by omega);refine t.GM w17 (p:=(n:Int).tmod 7) (by constructor<;>omega) Ya rfl rfl λh2 tE=>?_;refine fin _ _ (tE.mono Yb) ?_ ?_ ?_ ?_ ?_<;>simp[af,ag,r2,r4,r5,r8,r10]
  refine aB (by simp[af,ag,w5]) ?_;refine ab λy hy=>?_;simp[af,ag,r2,r4,r5,r7,r8,r9,r10,r11];subst hy;by_cases w6:what=6
  ·refine aD (by simp[af,ag,w6]) ?_;refine ab λy hy=>?_;simp[af,ag,r2,r4,r5,r7,r8,r9,r10,r11,x0,hlp];subst hy;by_cases c1:0<xb.phis.length
   ·refine aD (by simp[af,ag];exact c1) ?_;have m0:=MT (xb.phis.length:Int) (show(0:Int)<=n by omega);have m1:=MK (n:Int) (show(0:Int)<xb.phis.length by omega);obtain⟨q,hq⟩ : ∃q:Nat,(n:Int).tmod xb.phis.length=q:=⟨((n:Int).tmod xb.phis.length).toNat,by omega⟩;have hql:q<xb.phis.length:=by omega
    obtain⟨va3,ca3,ra3⟩:=Owns.phiW w17 t.phis hql;have hta:=t.tb.pin _ (LX hql);have hne:¬xb.phis=[]:=λe=>by rw[e]at c1;simp at c1
    have q50:=MT (5:Int) (show(0:Int)<=n by omega);have q51:=MK (n:Int) (show(0:Int)<5 by omega);have ixq:Bn.ev (.idx 2) vp2 (.int .i64 q)=some (.pointer (some ((slA vp2).add (q*2)))):=by have:=sP.idxn (N:=2) rfl (k:=.i64) (i:=q) Yb Yb;simpa using this
    refine aP (vw h17) (View.le_refl _) ?_;simp[af,ag,r2,r4,r5,r7,r8,r9,r10,r11,x0,hlp,hne,hq,ixq,ca3];have A2 : ∀{po2 po3:OP} {W:View} {hh:Heap} {v1 u:Value} {ty ty3:TypeId} {us:List (Nat × Value)} {us3:Value->List (Nat × Value)} {x y c1 c2:Operand} {K2:Value->Value->Heap->Prop},W2.le W->Owns W hh (o17.upd (4,0) (it T.iF v1 xb.phis[q].ins))->SlRd W u [InD.mk ((n:Int).tmod 5) n]->(vw h17).le (vw hh)->Av (vw h17) v1->asg us x=v1->asg us y=u->
      (∀v,asg (us3 v) c1 = .pointer (some (((slA vp2).add (q*2)).add 1)))->(∀v,asg (us3 v) c2=v)->(∀v h',TuE R F X o0 (c+1) W2 vbk f.blocks h'->K2 v undef h')->
      @Lft.step po2 Tryz.prog (.call ⟨.builtin .append,#[x,y],#[T.ee,T.ee]⟩) ty us hh λv h'=>(vw h17).le (vw h')/\@Lft.step po3 Tryz.prog (.store T.ee c1 c2) ty3 (us3 v) h' λw h''=>K2 v w h'':=by
     intro po2 po3 W hh v1 u ty ty3 us us3 x y c1 c2 K2 hW w su le av hx hy hc1 hc2 hK2;refine w.bY (k:=(4,0)) (α:=InD) (l:=xb.phis[q].ins) (l2:=[InD.mk ((n:Int).tmod 5) n]) Own.aj El.ee hx hy (su.src w.wle) (by simp;omega) (by simp;omega) λv2 h2 wb m2=>⟨(m2.view le av).1,?_⟩;have wb:Owns W h2 (o17.upd (4,0) (it T.iF v2 (xb.phis[q].ins++[InD.mk ((n:Int).tmod 5) n]))):=wb.congr λk=>by rw[cw]
     obtain⟨wc,sc⟩:=wb.freeze Own.aj;have hWp:=eM (h:=h2) (wb.av _ _ Own.aj);have wc:=wc.congr (o':=o17) λk=>by
      rw[cw];unfold Own.upd;split
      ·rename_i e;rw[e];exact t.free
      rfl
     exact((t.wider (View.le_trans hW hWp)).more (d:=c+1) Yb).Ez wc (j:=q) hql sc (by rw[Lv,LO];omega) Ya (hc1 v2) (hc2 v2) λh' tE=>hK2 v2 h' tE
    have i5:I64 ((n:Int).tmod 5):=⟨by omega,by omega⟩;have in_:I64 (n:Int):=⟨by omega,by omega⟩;constructor
    ·refine w17.fe (k:=(4,0)) (α:=InD) t.free El.ee λv0 h18 le18 _ w18 av18=>⟨le18,?_⟩;have av18:=av18 (vw h17) (View.le_refl _);constructor
     ·refine w18.bY (k:=(4,0)) (α:=InD) (l:=([]:List InD)) (l2:=xb.phis[q].ins) Own.aj El.ee rfl rfl (ra3.src w18.wle) (by simp;omega) (by simp;omega) λv1 h19 w19 m19=>?_;obtain⟨le19,av19⟩:=m19.view le18 av18;rw[LR]at w19;have w19:Owns W2 h19 (o17.upd (4,0) (it T.iF v1 xb.phis[q].ins)):=w19.congr λk=>by rw[cw]
      refine⟨le19,?_⟩;refine ay (z:=.agg #[.int .i64 0,.int .i64 0]) (places:=[(0,1),(1,1)]) (vs:=[(0,.int .i64 ((n:Int).tmod 5)),(1,.int .i64 n)]) (cs:=#[.int .i64 ((n:Int).tmod 5),.int .i64 n]) Ya Ya Sa Ri ⟨le19,?_⟩;refine nb i5 in_ rfl λh20 le20 su=>⟨View.le_trans le19 le20,?_⟩;refine A2 (bP w19.wle) (w19.ext le20) (su _ (cI (Lp _))) (View.le_trans le19 le20) av19 rfl rfl (λ_=>rfl) (λ_=>rfl) λv h' tE=>?_;refine fin _ _ tE ?_ ?_ ?_ ?_ ?_<;>simp[af,ag,r2,r4,r5,r8,r10]
     refine ay (z:=.agg #[.int .i64 0,.int .i64 0]) (places:=[(0,1),(1,1)]) (vs:=[(0,.int .i64 ((n:Int).tmod 5)),(1,.int .i64 n)]) (cs:=#[.int .i64 ((n:Int).tmod 5),.int .i64 n]) Ya Ya Sa Ri ⟨le18,?_⟩;constructor
     ·refine w18.bY (k:=(4,0)) (α:=InD) (l:=([]:List InD)) (l2:=xb.phis[q].ins) Own.aj El.ee rfl rfl (ra3.src w18.wle) (by simp;omega) (by simp;omega) λv1 h19 w19 m19=>?_;obtain⟨le19,av19⟩:=m19.view le18 av18;rw[LR]at w19;have w19:Owns W2 h19 (o17.upd (4,0) (it T.iF v1 xb.phis[q].ins)):=w19.congr λk=>by rw[cw]
      refine⟨le19,?_⟩;refine nb i5 in_ rfl λh20 le20 su=>⟨View.le_trans le19 le20,?_⟩;refine A2 (bP w19.wle) (w19.ext le20) (su _ (cI (Lp _))) (View.le_trans le19 le20) av19 rfl rfl (λ_=>rfl) (λ_=>rfl) λv h' tE=>?_;refine fin _ _ tE ?_ ?_ ?_ ?_ ?_<;>simp[af,ag,r2,r4,r5,r8,r10]
     refine nb i5 in_ rfl λh20 le20 su=>⟨View.le_trans le18 le20,?_⟩;have w20:=w18.ext le20;have hW20:=bP (h':=h20) w18.wle;have su:=su _ (cI (W:=W2) (Lp _));refine w20.bY (k:=(4,0)) (α:=InD) (l:=([]:List InD)) (l2:=xb.phis[q].ins) Own.aj El.ee rfl rfl ((ra3.mono hW20).src w20.wle) (by simp;omega) (by simp;omega) λv1 h21 w21 m21=>?_;obtain⟨le21,av21⟩:=m21.view (View.le_trans le18 le20) av18;rw[LR]at w21;have w21:=w21.congr (o':=o17.upd (4,0) (it T.iF v1 xb.phis[q].ins)) λk=>by rw[cw]
     refine⟨le21,?_⟩;refine A2 hW20 w21 su le21 av21 rfl rfl (λ_=>rfl) (λ_=>rfl) λv h' tE=>?_;refine fin _ _ tE ?_ ?_ ?_ ?_ ?_<;>simp[af,ag,r2,r4,r5,r8,r10]
    refine ay (z:=.agg #[.int .i64 0,.int .i64 0]) (places:=[(0,1),(1,1)]) (vs:=[(0,.int .i64 ((n:Int).tmod 5)),(1,.int .i64 n)]) (cs:=#[.int .i64 ((n:Int).tmod 5),.int .i64 n]) Ya Ya Sa Ri ⟨View.le_refl _,?_⟩;constructor
    ·refine w17.fe (k:=(4,0)) (α:=InD) t.free El.ee λv0 h18 le18 _ w18 av18=>⟨le18,?_⟩;have av18:=av18 (vw h17) (View.le_refl _);constructor
     ·refine w18.bY (k:=(4,0)) (α:=InD) (l:=([]:List InD)) (l2:=xb.phis[q].ins) Own.aj El.ee rfl rfl (ra3.src w18.wle) (by simp;omega) (by simp;omega) λv1 h19 w19 m19=>?_;obtain⟨le19,av19⟩:=m19.view le18 av18;rw[LR]at w19;have w19:Owns W2 h19 (o17.upd (4,0) (it T.iF v1 xb.phis[q].ins)):=w19.congr λk=>by rw[cw]
      refine⟨le19,?_⟩;refine nb i5 in_ rfl λh20 le20 su=>⟨View.le_trans le19 le20,?_⟩;refine A2 (bP w19.wle) (w19.ext le20) (su _ (cI (Lp _))) (View.le_trans le19 le20) av19 rfl rfl (λ_=>rfl) (λ_=>rfl) λv h' tE=>?_;refine fin _ _ tE ?_ ?_ ?_ ?_ ?_<;>simp[af,ag,r2,r4,r5,r8,r10]
     refine nb i5 in_ rfl λh20 le20 su=>⟨View.le_trans le18 le20,?_⟩;have w20:=w18.ext le20;have hW20:=bP (h':=h20) w18.wle;have su:=su _ (cI (W:=W2) (Lp _));refine w20.bY (k:=(4,0)) (α:=InD) (l:=([]:List InD)) (l2:=xb.phis[q].ins) Own.aj El.ee rfl rfl ((ra3.mono hW20).src w20.wle) (by simp;omega) (by simp;omega) λv1 h21 w21 m21=>?_;obtain⟨le21,av21⟩:=m21.view (View.le_trans le18 le20) av18;rw[LR]at w21;have w21:=w21.congr (o':=o17.upd (4,0) (it T.iF v1 xb.phis[q].ins)) λk=>by rw[cw]
     refine⟨le21,?_⟩;refine A2 hW20 w21 su le21 av21 rfl rfl (λ_=>rfl) (λ_=>rfl) λv h' tE=>?_;refine fin _ _ tE ?_ ?_ ?_ ?_ ?_<;>simp[af,ag,r2,r4,r5,r8,r10]
    refine nb i5 in_ rfl λh18 le18 su=>⟨le18,?_⟩;have w18:=w17.ext le18;have hW18:=bP (h':=h18) w17.wle;have su:=su _ (cI (W:=W2) (Lp _));refine w18.fe (k:=(4,0)) (α:=InD) t.free El.ee λv0 h19 le19 _ w19 av19=>⟨View.le_trans le18 le19,?_⟩;have av19:=av19 (vw h17) le18;refine w19.bY (k:=(4,0)) (α:=InD) (l:=([]:List InD)) (l2:=xb.phis[q].ins) Own.aj El.ee rfl rfl ((ra3.mono hW18).src w19.wle) (by simp;omega) (by simp;omega) λv1 h21 w21 m21=>?_;obtain⟨le21,av21⟩:=m21.view (View.le_trans le18 le19) av19;rw[LR]at w21;have w21:=w21.congr (o':=o17.upd (4,0) (it T.iF v1 xb.phis[q].ins)) λk=>by rw[cw]
    refine⟨le21,?_⟩;refine A2 hW18 w21 su le21 av21 rfl rfl (λ_=>rfl) (λ_=>rfl) λv h' tE=>?_;refine fin _ _ tE ?_ ?_ ?_ ?_ ?_<;>simp[af,ag,r2,r4,r5,r8,r10]
   have he:xb.phis=[]:=Ls Yb;refine aB (by simp[af,ag,he]) ?_;simp;refine fin _ _ (TuE.mono ⟨_,_,_,_,_,_,_,_,_,_,_,_,_,t,w17⟩ Yb) ?_ ?_ ?_ ?_ ?_<;>simp[af,ag,r2,r4,r5,r8,r10]
  refine aB (by simp[af,ag,w6]) ?_;refine ab λy hy=>?_;simp[af,ag,r2,r4,r5,r7,r8,r9,r10,r11];subst hy;by_cases w7:what=7
  ·refine aD (by simp[af,ag,w7]) ?_;refine ab λy hy=>?_;by_cases c1:0<xb.phis.length
   ·have c1i:(0:Int)<xb.phis.length:=by omega
    obtain⟨va3,ca3,ra3⟩:=Owns.phiW w17 t.phis c1;have ca3:ao (vw h17) (((slA vp2).add 0).add 1)=some va3:=by have:=ca3;rwa [M5]at this
    have hta:=t.tb.pin _ (LX c1);have hix : ∀{l:List PhiD},SlRd (vw h17) vp2 l->True:=λ_=>trivial;have ix0:Bn.ev (.idx 2) vp2 (.int .i64 0)=some (.pointer (some ((slA vp2).add 0))):=by have:=sP.idxn (N:=2) rfl (k:=.i64) (i:=0) Yb Yb;simpa using this
    simp(disch:=omega)[af,ag,r2,r4,r5,r7,r8,r9,r10,r11,x0,hlp,c1,c1i,ix0,ca3,ra3.len];subst hy;by_cases c2:0<xb.phis[0].ins.length
    ·refine aD (by simp[af,ag];first | exact c2 | omega) ?_;refine ab λy hy=>?_;simp[af,ag];refine w17.fe (k:=(4,0)) (α:=InD) t.free El.ee λv18 h18 hle18 hv18 w18 _=>?_;simp(disch:=omega)[af,ag,r2,r4,r5,r7,r8,r9,r10,r11,ae hle18 x0,ix0,ae hle18 ca3];refine w18.bY (k:=(4,0)) (α:=InD) (l:=([]:List InD)) (l2:=xb.phis[0].ins) Own.aj El.ee rfl rfl (ra3.src w18.wle) (by simp;omega) (by simp;omega) λv19 h19 w19 _=>?_;rw[LR]at w19;have w19:Owns W2 h19 (o17.upd (4,0) (it T.iF v19 xb.phis[0].ins)):=w19.congr λq=>by rw[cw]
     subst hy;refine ab λy hy=>?_;have s19:=w19.now (k:=(4,0)) Own.aj;have m0:=MT (xb.phis[0].ins.length:Int) (show(0:Int)<=n by omega);have m1:=MK (n:Int) (show(0:Int)<xb.phis[0].ins.length by omega);have hne:¬xb.phis[0].ins=[]:=λe=>by rw[e]at c2;simp at c2
     simp(disch:=omega)[af,ag,r2,r4,r5,r7,r8,r9,r10,r11,s19.len,hne,s19.idxn (N:=2) rfl];refine w19.ln (k:=(4,0)) (α:=InD) InD.zl (v:=v19) (l:=xb.phis[0].ins) (i:=((n:Int).tmod xb.phis[0].ins.length).toNat) (d:=(n:Int)) Own.aj Ya rfl rfl Yb (bK.2 ⟨rfl,by constructor<;>omega⟩) λh20 w20 _=>?_;have w20:Owns W2 h20 (o17.upd (4,0) (it T.iF v19 _)):=w20.congr λq=>by rw[cw]
     subst hy;have x0':ao (vw h20) ⟨X,0,none⟩=some vp2:=w20.raw (k:=(3,1)) ((Own.ak Sa).trans t.box) (i:=0) Yc;obtain⟨w21,s21⟩:=w20.freeze Own.aj;have hWp:=eM (h:=h20) (w20.av _ _ Own.aj);have w21:=w21.congr (o':=o17) λq=>by
      rw[cw];unfold Own.upd;split
      ·rename_i e;rw[e];exact t.free
      rfl
     simp(disch:=omega)[af,ag,r2,r4,r5,r7,r8,r9,r10,r11,x0',ix0];refine(t.wider hWp).Ez w21 (j:=0) c1 s21 (by rw[LJ];exact hta) Ya (by rw[M5];rfl) rfl λh2 tE=>?_;refine fin _ _ (tE.mono Yb) ?_ ?_ ?_ ?_ ?_<;>simp[af,ag,r2,r4,r5,r8,r10]
    have he:xb.phis[0].ins=[]:=Ls Yb;refine aB (by simp[af,ag,he]) ?_;simp;refine fin _ _ (TuE.mono ⟨_,_,_,_,_,_,_,_,_,_,_,_,_,t,w17⟩ Yb) ?_ ?_ ?_ ?_ ?_<;>simp[af,ag,r2,r4,r5,r8,r10]
   have he:xb.phis=[]:=Ls Yb;have c1i:¬(0:Int)<xb.phis.length:=by omega
   simp[af,ag,r2,r4,r5,r7,r8,r9,r10,r11,x0,hlp,c1,c1i];subst hy;refine aB (by simp[af,ag,he]) ?_;simp;refine fin _ _ (TuE.mono ⟨_,_,_,_,_,_,_,_,_,_,_,_,_,t,w17⟩ Yb) ?_ ?_ ?_ ?_ ?_<;>simp[af,ag,r2,r4,r5,r8,r10]
  refine aB (by simp[af,ag,w7]) ?_;refine ab λy hy=>?_;simp[af,ag,r2,r4,r5,r7,r8,r9,r10,r11];subst hy;by_cases w8:what=8
  ·refine aD (by simp[af,ag,w8]) ?_;refine ab λy hy=>?_;simp[af,ag,r2,r4,r5,r7,r8,r9,r10,r11,x1,hli];subst hy;by_cases c1:0<xb.ins.length
   ·have hj:=hj1 c1;refine aD (by simp[af,ag];exact c1) ?_;obtain⟨v1,v2,e1,e2,wc,src⟩:=Owns.cut w17 t.ins (N:=5) rfl hj;have hwj:IntKind.i64.wrap ((j:Int)+1)=(j:Int)+1:=bZ Yb Yb;refine aP (vw h17) (View.le_refl _) ?_;simp[af,ag,r2,r4,r5,r7,r8,r9,r10,r11,x1,e1,e2,hwj];refine wc.bY (k:=(3,2)) (α:=InsD) (l:=xb.ins.take j) (l2:=xb.ins.drop (j+1)) Own.aj El.jE rfl rfl src (by simp;omega) (by simp;omega) λv18 h18 w18 _=>?_;have w18:Owns W2 h18 (o17.upd (3,2) (it T.eC v18 (xb.ins.take j++xb.ins.drop (j+1)))):=w18.congr λq=>by rw[cw]
    refine t.GF w18 (by simp;omega) (λi hi=>by
     rcases Lt.1 hi with q | q
     ·exact t.tb.iar i (OD q)
     exact t.tb.iar i (List.mem_of_mem_drop q)) Ya rfl rfl λh2 tE=>?_;refine fin _ _ (tE.mono Yb) ?_ ?_ ?_ ?_ ?_<;>simp[af,ag,r2,r4,r5,r8,r10]
   have he:xb.ins=[]:=Ls Yb;refine aB (by simp[af,ag,he]) ?_;simp;refine fin _ _ (TuE.mono ⟨_,_,_,_,_,_,_,_,_,_,_,_,_,t,w17⟩ Yb) ?_ ?_ ?_ ?_ ?_<;>simp[af,ag,r2,r4,r5,r8,r10]
  refine aB (by simp[af,ag,w8]) ?_;refine ab λy hy=>?_;simp[af,ag,r2,r4,r5,r7,r8,r9,r10,r11];subst hy;by_cases w9:what=9
  ·refine aD (by simp[af,ag,w9]) ?_;refine ab λy hy=>?_;simp[af,ag,r2,r4,r5,r7,r8,r9,r10,r11,x1,hli];subst hy;by_cases c1:1<xb.ins.length
   ·have hj:=hj1 Yb;refine aD (by simp[af,ag];omega) ?_;have h0i:0<xb.ins.length:=by omega
    obtain⟨u0,hu0,hr0⟩:=Owns.ldW w17 t.ins rfl (N:=5) rfl h0i;obtain⟨uj,huj,hrj⟩:=Owns.ldW w17 t.ins rfl (N:=5) rfl hj;rw[M5]at hu0;obtain⟨va0,rfl,rng0,ra0⟩:=BM hr0;have ix0:Bn.ev (.idx 5) vi2 (.int .i64 0)=some (.pointer (some ((slA vi2).add 0))):=by have:=sI.idxn (N:=5) rfl (k:=.i64) (i:=0) Yb Yb;simpa using this
    refine ab λy hy=>?_;simp(disch:=omega)[af,ag,r2,r4,r5,r7,r8,r9,r10,r11,x1,ix0,hu0];have hva0:=ra0.cells.2;refine w17.eu (k:=(4,0)) (n:=4) (l:=[.int .i64 xb.ins[0].op,.int .i64 xb.ins[0].dst,.int .i64 xb.ins[0].two,va0,.int .i32 xb.ins[0].imm.v]) t.free (z:=.agg #[.int .i64 0,.int .i64 0,.int .i64 0,.slice none 0 0,.int .i32 0]) Ya rfl Ya rfl Yc (by intro c hc;simp only[LF,MN,or_false]at hc;rcases hc with rfl | rfl | rfl | rfl | rfl<;>first | rfl | assumption) (λ_=>by simp) (λ_=>by simp) λh18 q18 w18=>?_;generalize h17.size=Y at w18;have x18:=ae q18 x1;have huj18:Un.ev (vw h18) (.bM 5) (.pointer (some ((slA vi2).add (j*5))))=some uj:=by have:=dY (ρ:=λ_=>none) (e:=.un (.bM 5) (.con (.pointer (some ((slA vi2).add (j*5)))))) q18 (by simpa using huj);simpa using this
    subst hy;refine ab λy hy=>?_;refine aP (vw h18) (View.le_refl _) ?_;simp(disch:=omega)[af,ag,r2,r4,r5,r7,r8,r9,r10,r11,x18,ix0,sI.idxn (N:=5) rfl,huj18];refine w18.bD (k:=(3,2)) (α:=InsD) (v:=vi2) (l:=xb.ins) (i:=0) (d:=xb.ins[j]) ((Own.ak Sa).trans t.ins) Ya (by rw[M5];rfl) rfl h0i hrj λh19 w19 _=>?_;have cY:=w19.lT (k:=(4,0)) (n:=4) ((Own.ak Sa).trans Own.aj);have cY:Un.ev (vw h19) (.bM 5) (.pointer (some ⟨Y,0,none⟩))=some (.agg #[.int .i64 xb.ins[0].op,.int .i64 xb.ins[0].dst,.int .i64 xb.ins[0].two,va0,.int .i32 xb.ins[0].imm.v]):=cY;have x19:ao (vw h19) ⟨X,1,none⟩=some vi2:=w19.raw (k:=(3,1)) ((Own.ak Sa).trans ((Own.ak Sa).trans t.box)) (i:=1) Yc;have s19:=w19.now (k:=(3,2)) Own.aj;subst hy;simp(disch:=first | omega | (simp;omega)) [af,ag,r2,r4,r5,r7,r8,r9,r10,r11,x19,cY,s19.idxn (N:=5) rfl];refine w19.bD (k:=(3,2)) (α:=InsD) (v:=vi2) (l:=xb.ins.set 0 xb.ins[j]) (i:=j) (d:=xb.ins[0]) Own.aj Ya rfl rfl (by rw[LJ];exact hj) hr0 λh20 w20 _=>?_;have w20:Owns W2 h20 (o17.upd (3,2) (it T.eC vi2 ((xb.ins.set 0 xb.ins[j]).set j xb.ins[0]))):=w20.sub λk i hk=>by
     have hk4:k≠(4,0):=by rintro rfl;rw[Own.ak Sa,t.free]at hk;cases hk
     by_cases e:k=(3,2)
     ·subst e;rw[Own.aj]at hk ⊢;exact hk
     rw[Own.ak e]at hk;rw[Own.ak e,Own.ak e,Own.ak hk4];exact hk
    refine fin _ _ (TuE.mono ⟨W2,_,f.params,vp2,vi2,va,vt,xb.term.kind,xb.term.imm.v,xb.phis,(xb.ins.set 0 xb.ins[j]).set j xb.ins[0],xb.term.args,xb.term.to,⟨t.le,(Own.ak Sa).trans t.res,(Own.ak Sa).trans t.fn,(Own.ak Sa).trans t.blk,(Own.ak Sa).trans t.box,Own.aj,(Own.ak Sa).trans t.phis,(Own.ak Sa).trans t.free,λk hk=>(Own.ak (by rintro rfl;simp at hk)).trans (t.fr k hk),t.ra,t.rt,t.ips,t.ikd,t.iim,⟨t.tb.phis,by rw[LJ,LJ];exact t.tb.ins,t.tb.args,t.tb.to,t.tb.pin,λi hi=>?_⟩⟩,w20⟩ Yb) ?_ ?_ ?_ ?_ ?_
    ·rcases ME hi with q | q
     ·rcases ME q with q | q
      ·exact t.tb.iar i q
      rw[q];exact t.tb.iar _ (LX hj)
     rw[q];exact t.tb.iar _ (LX h0i)
    all_goals simp[af,ag,r2,r4,r5,r8,r10]
   refine aB (by simp[af,ag];omega) ?_;simp;refine fin _ _ (TuE.mono ⟨_,_,_,_,_,_,_,_,_,_,_,_,_,t,w17⟩ Yb) ?_ ?_ ?_ ?_ ?_<;>simp[af,ag,r2,r4,r5,r8,r10]
  refine aB (by simp[af,ag,w9]) ?_;refine ab λy hy=>?_;simp[af,ag,r2,r4,r5,r7,r8,r9,r10,r11];subst hy;by_cases w10:what=10
  ·refine aD (by simp[af,ag,w10]) ?_;refine ab λy hy=>?_;simp[af,ag,r2,r4,r5,r7,r8,r9,r10,r11,x4,hlt];subst hy;by_cases c1:0<xb.term.to.length
   ·refine aD (by simp[af,ag];exact c1) ?_;refine ab λy hy=>?_;simp[af,ag];refine w17.fe (k:=(4,0)) (α:=Int) t.free El.aY λv18 h18 hle18 hv18 w18 _=>?_;simp(disch:=omega)[af,ag,r2,r4,r5,r7,r8,r9,r10,r11,ae hle18 x4];refine w18.bY (k:=(4,0)) (α:=Int) (l:=([]:List Int)) (l2:=xb.term.to) Own.aj El.aY rfl rfl (t.rt.src w18.wle) (by simp;omega) (by simp;omega) λv19 h19 w19 _=>?_;rw[LR]at w19;have w19:Owns W2 h19 (o17.upd (4,0) (it T.int v19 xb.term.to)):=w19.congr λq=>by rw[cw]
    subst hy;refine ab λy hy=>?_;have s19:=w19.now (k:=(4,0)) Own.aj;have m0:=MT (xb.term.to.length:Int) (show(0:Int)<=n by omega);have m1:=MK (n:Int) (show(0:Int)<xb.term.to.length by omega);have q0:=MT (11:Int) (show(0:Int)<=n by omega);have q1:=MK (n:Int) (show(0:Int)<11 by omega);have hne:¬xb.term.to=[]:=λe=>by rw[e]at c1;simp at c1
    simp(disch:=omega)[af,ag,r2,r4,r5,r7,r8,r9,r10,r11,s19.len,hne,s19.idx1 rfl];refine w19.bD (k:=(4,0)) (α:=Int) (v:=v19) (l:=xb.term.to) (i:=((n:Int).tmod xb.term.to.length).toNat) (d:=(n:Int).tmod 11) Own.aj Ya (by rw[show Rep.n Int=1 from rfl,MA];rfl) rfl Yb (bK.2 ⟨rfl,by constructor<;>omega⟩) λh20 w20 _=>?_;have w20:Owns W2 h20 (o17.upd (4,0) (it T.int v19 (xb.term.to.set ((n:Int).tmod xb.term.to.length).toNat ((n:Int).tmod 11)))):=w20.congr λq=>by rw[cw]
    subst hy;obtain⟨w21,s21⟩:=w20.freeze Own.aj;have hWp:=eM (h:=h20) (w20.av _ _ Own.aj);have w21:=w21.congr (o':=o17) λq=>by
     rw[cw];unfold Own.upd;split
     ·rename_i e;rw[e];exact t.free
     rfl
    simp(disch:=omega)[af,ag,r2,r4,r5,r7,r8,r9,r10,r11];refine(t.wider hWp).Cf w21 s21 (by rw[LJ];exact t.tb.to) Ya rfl rfl λh2 tE=>?_;refine fin _ _ (tE.mono Yb) ?_ ?_ ?_ ?_ ?_<;>simp[af,ag,r2,r4,r5,r8,r10]
   have he:xb.term.to=[]:=Ls Yb;refine aB (by simp[af,ag,he]) ?_;simp;refine fin _ _ (TuE.mono ⟨_,_,_,_,_,_,_,_,_,_,_,_,_,t,w17⟩ Yb) ?_ ?_ ?_ ?_ ?_<;>simp[af,ag,r2,r4,r5,r8,r10]
  refine aB (by simp[af,ag,w10]) ?_;simp[af,ag,r2,r4,r5,r7,r8,r9,r10,r11,x0];refine ay (z:=.agg #[.int .i64 0,.slice none 0 0]) (places:=[(0,1),(1,1)]) (vs:=[(0,.int .i64 n)]) (cs:=#[.int .i64 n,.slice none 0 0]) Ya Ya Sa Ri ?_;refine w17.ib (k:=(3,3)) (α:=PhiD) (d:=⟨n,[]⟩) t.phis El.kq rfl (z6 ⟨by omega,by omega⟩ aO) Yb Yb (λ_=>rfl) (λ_=>rfl) λu18 v18 h18 w18 _=>?_;refine(t.more (d:=c+1) Yb).Hk w18 (by rw[Lv,LO];omega) (λi hi=>by
   rcases Lt.1 hi with q | q
   ·have:=t.tb.pin i q;omega
   rw[Lx]at q;rw[q];exact NO _) Ya rfl rfl λh2 tE=>?_;refine fin _ _ tE ?_ ?_ ?_ ?_ ?_<;>simp[af,ag,r2,r4,r5,r8,r10]
 refine ab λy hy=>?_;simp[x1,hli];subst hy;by_cases c1:0<xb.ins.length
 ·rw[if_pos c1]at hj2;have hne:¬xb.ins=[]:=λe=>by rw[e]at c1;simp at c1
  refine aD (by simp[hne];exact c1) ?_;simp[x1,hli,hne];refine sw _ ?_ ?_ ?_ ?_ ?_ ?_ ?_ ?_;all_goals simp[hj2]
 rw[if_neg c1]at hj2;have he:xb.ins=[]:=Ls Yb;refine aB (by simp[he]) ?_;simp;refine sw _ ?_ ?_ ?_ ?_ ?_ ?_ ?_ ?_;all_goals simp[hj2]
end Go.Proofs.YtnfiilgdjpdlkaaGreatDoor
