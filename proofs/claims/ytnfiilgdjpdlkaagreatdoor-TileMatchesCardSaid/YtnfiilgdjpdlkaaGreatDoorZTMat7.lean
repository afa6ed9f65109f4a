/- A part of the proof: ShelfF, Oo, Ub, Op, Oq, Or, Os, Qg, Ot, Ou, Nb, Qh, Nc, Nd, Qj, Ud. -/
import Derived.Test.YtnfiilgdjpdlkaaGreatDoorZTMat6
import Derived.Shelf.Strings.Fields
import Derived.Test.YtnfiilgdjpdlkaaGreatDoorRows
import Derived.Lib.LaidTab
import Derived.LaidMore
set_option linter.unusedSimpArgs false
set_option linter.unusedVariables false
open Go.Value renaming int->Sb,slice->Sg,pointer->Si
open Go.IntKind renaming i64->Sc,i32->Sd
open Option renaming some->Se,none->Sf
open Bool renaming true->Sj,false->Sk
open Go.Proofs.Tryz renaming prog->Sn
namespace Go.Proofs
open Go.Shelf
def Tryz.lU:Go.Shelf.Ren:=⟨fun | 157=>41 | 229=>65 | 199=>66 | 261=>114 | 311=>136 | 312=>137 | n=>n,fun | 9=>9 | 31=>105 | 3=>3 | 5=>5 | 4=>4 | 119=>140 | 0=>0 | 40=>142 | 152=>176 | 21=>21 | 154=>178 | 51=>151 | 141=>180 | 196=>204 | 193=>201 | 198=>207 | 49=>205 | 194=>202 | 201=>210 | 226=>220 | 46=>76 | 227=>221 | n=>n,fun | 0=>0 | 6=>1 | n=>n⟩
theorem Tryz.Kh:Go.Proofs.Lays.n157 Sn Tryz.lU:={
 mixed:=by kernel_rfl
 f157:=Tryz.func41.trans (congrArg Se R1)
 f199:=Tryz.func66.trans (congrArg Se R1)
 f229:=Tryz.func65.trans (congrArg Se R1)
 f261:=Tryz.func114.trans (congrArg Se R1)
 f311:=Tryz.func136.trans (congrArg Se R1)
 f312:=Tryz.func137.trans (congrArg Se R1)
 t0:=Tryz.underlying0
 a0:=Tryz.isAgg0
 z0:=Tryz.sizeOf0
 v0:=Tryz.zeroValue0
 t3:=Tryz.underlying3
 a3:=Tryz.isAgg3
 z3:=Tryz.sizeOf3
 v3:=Tryz.zeroValue3
 t4:=Tryz.underlying4
 a4:=Tryz.isAgg4
 z4:=Tryz.sizeOf4
 v4:=Tryz.zeroValue4
 t5:=Tryz.underlying5
 a5:=Tryz.isAgg5
 z5:=Tryz.sizeOf5
 v5:=Tryz.zeroValue5
 t9:=Tryz.underlying9
 a9:=Tryz.isAgg9
 z9:=Tryz.sizeOf9
 v9:=Tryz.zeroValue9
 t21:=Tryz.underlying21
 a21:=Tryz.isAgg21
 z21:=Tryz.sizeOf21
 v21:=Tryz.zeroValue21
 t31:=Tryz.underlying105
 a31:=Tryz.isAgg105
 z31:=Tryz.sizeOf105
 v31:=Tryz.zeroValue105
 t40:=Tryz.underlying142
 a40:=Tryz.isAgg142
 z40:=Tryz.sizeOf142
 v40:=Tryz.zeroValue142
 t46:=Tryz.underlying76
 a46:=Tryz.isAgg76
 z46:=Tryz.sizeOf76
 v46:=Tryz.zeroValue76
 t49:=Tryz.underlying205
 a49:=Tryz.isAgg205
 z49:=Tryz.sizeOf205
 v49:=Tryz.zeroValue205
 t51:=Tryz.underlying151
 a51:=Tryz.isAgg151
 z51:=Tryz.sizeOf151
 v51:=Tryz.zeroValue151
 t119:=Tryz.underlying140
 a119:=Tryz.isAgg140
 z119:=Tryz.sizeOf140
 t141:=Tryz.underlying180
 a141:=Tryz.isAgg180
 z141:=Tryz.sizeOf180
 v141:=Tryz.zeroValue180
 t152:=Tryz.underlying176
 a152:=Tryz.isAgg176
 z152:=Tryz.sizeOf176
 v152:=Tryz.zeroValue176
 t154:=Tryz.underlying178
 a154:=Tryz.isAgg178
 z154:=Tryz.sizeOf178
 v154:=Tryz.zeroValue178
 t193:=Tryz.underlying201
 a193:=Tryz.isAgg201
 z193:=Tryz.sizeOf201
 v193:=Tryz.zeroValue201
 t194:=Tryz.underlying202
 a194:=Tryz.isAgg202
 z194:=Tryz.sizeOf202
 v194:=Tryz.zeroValue202
 t196:=Tryz.underlying204
 a196:=Tryz.isAgg204
 z196:=Tryz.sizeOf204
 v196:=Tryz.zeroValue204
 t198:=Tryz.underlying207
 a198:=Tryz.isAgg207
 z198:=Tryz.sizeOf207
 v198:=Tryz.zeroValue207
 t201:=Tryz.underlying210
 a201:=Tryz.isAgg210
 z201:=Tryz.sizeOf210
 v201:=Tryz.zeroValue210
 t226:=Tryz.underlying220
 a226:=Tryz.isAgg220
 z226:=Tryz.sizeOf220
 v226:=Tryz.zeroValue220
 t227:=Tryz.underlying221
 a227:=Tryz.isAgg221
 z227:=Tryz.sizeOf221
 v227:=Tryz.zeroValue221
 g0:=by kernel_rfl
 g6:=by kernel_rfl }
end Go.Proofs
namespace Go.Lft
open Go
structure StrD where
 v:ByteArray
instance:Rep StrD where
 n:=1
 agg:=false
 rd:=λ_ cs d=>cs=[.string d.v]
 mono:=λ_ h=>h
 len:=λh=>by rw[h];rfl
 one:=λ_=>rfl
 flat:=λh u hu=>by rw[h]at hu;simp at hu;subst hu;rfl
 pos:=Rn
 fP:=λh=>h
theorem At.str {H:View} {a:Addr} {d:StrD} (h:At H a d):ao H a=Se (.string d.v):=by
 obtain⟨u,h1,h2⟩:=h.load rfl;have:u = .string d.v:=by unfold Rd at h2;simpa[Rep.agg,Rep.rd]using h2
 rw[this]at h1;exact h1
end Go.Lft
namespace Go.Proofs.YtnfiilgdjpdlkaaGreatDoor
open Go Go.Lft
def Tab (h:Heap):Prop:=∀c:Nat,c<256->ao (vw h) ⟨Tryz.lU.g 0,c,Sf⟩=Se (.int .u8 (if Lib.isSp (UInt8.ofNat c) then 1 else 0))
theorem Tab.mono {h h':Heap} (t:Tab h) (hle:(vw h).le (vw h')):Tab h':=λc hc=>ae hle (t c hc)
theorem M9 {w:World} {b o:Nat} {v:Value} (h:ao (vw w.heap) ⟨b,o,Sf⟩=Se v):w.cell? ⟨b,o,Sf⟩=Se v:=by
 unfold ao at h;unfold World.cell?;simp only[vw]at h;cases hb:w.heap[b]? with
 | none=>rw[hb]at h;simp at h
 | some x=>rw[hb]at h;cases x<;>simp_all
def fieldsD (s:ByteArray):List StrD:=(Lib.fields s.data.toList).map λl=>⟨⟨l.toArray⟩⟩
theorem yY {s:ByteArray} {h:Heap} (ht:Tab h) (hs:s.size<4294967281) (ha : ∀(j:Nat) b,s.data.toList[j]? = Se b->b.toNat<128) (hn:(fieldsD s).length<=1000000) :
  aA Sn 41 #[.string s] h (λu h'=>(vw h).le (vw h')/\SlRd (vw h') u (fieldsD s)):=by
 intro w hw;subst hw;refine Calls.mono (Any.strings_Fields_core (P:=Sn) (ρ:=Tryz.lU) Tryz.Kh R1 s w hs ha λc hc=>M9 (ht c hc)) ?_;rintro e w' ⟨rfl,rfl⟩;refine⟨_,rfl,⟨bC _ _,?_⟩,iV _ _⟩;have hl:(fieldsD s).length=(Lib.fields s.data.toList).length:=by simp[fieldsD]
 refine⟨Se ⟨w.heap.size,0,Sf⟩,(Lib.fields s.data.toList).length,by rw[hl],by omega,by omega,.inr ⟨_,rfl,rfl,λi hi=>?_⟩⟩;have hi':i<(Lib.fields s.data.toList).length:=by omega
 rw[bS rfl];refine⟨[.string ⟨(Lib.fields s.data.toList)[i].toArray⟩],⟨_,_,_,rfl,World.alloc_heap_new w _,?_⟩,?_⟩
 ·have hn1:Rep.n StrD=1:=rfl;rw[hn1,Pn,PH];show List.take 1 (List.drop i ((Lib.fields s.data.toList).map λl=>Value.string ⟨l.toArray⟩))=_;rw[O4 (by simpa using hi')];simp
 show[Value.string _]=[Value.string _];simp[fieldsD]
def oB:ByteArray:=⟨#[108,105,32,108,105,119,32,97,100,100,32,115,117,98,32,109,117,108,32,97,110,100,32,111,114,32,120,111,114,32,115,104,108,32,115,104,114,32,115,97,114,32,101,113,32,108,116,32,108,116,117,32,100,105,118,32,97,100,100,105,32,115,117,98,105,32,97,110,100,105,32,115,104,108,105,32,115,104,114,105,32,115,97,114,105,32,109,97,100,100,32,108,100,32,108,100,97,32,108,100,120,32,108,100,108,32,115,116,32,115,116,97,32,115,116,120,32,115,116,108,32,99,97,108,108,32,109,117,108,119,32,98,110,122,32,98,101,113,32,98,108,116,32,98,108,116,117,32,106,116]⟩
def tz (pat:Int):ByteArray:=if 1<=pat/\pat<=37 then((fieldsD oB).getD (pat-1).toNat ⟨⟨#[]⟩⟩).v else⟨#[]⟩
theorem kY:(fieldsD oB).length=37:=by kernel_rfl
theorem wQ : ∀(j:Nat) b,oB.data.toList[j]? = Se b->b.toNat<128:=by
 have h:oB.data.toList.all (λb=>decide (b.toNat<128))=true:=by kernel_rfl
 exact λj b hb=>by simpa using O7.1 h b (Pp hb)
theorem DX:(fieldsD oB).all (λs=>!(s.v.toList == (⟨#[]⟩:ByteArray).toList))=true:=by kernel_rfl
instance:Inhabited StrD:=⟨⟨⟨#[]⟩⟩⟩
theorem H6 {pat:Int}:((tz pat).toList == (⟨#[]⟩:ByteArray).toList)=!inR pat 1 37:=by
 unfold tz;by_cases h:1<=pat/\pat<=37
 ·rw[if_pos h];have hlt:(pat-1).toNat<(fieldsD oB).length:=by rw[kY];omega
  have:=O7.1 DX _ (O5 hlt);rw[Qi,Pl hlt,Rm];have e:inR pat 1 37=true:=by simp[inR,h.1,h.2]
  rw[e];simpa using this
 rw[if_neg h];have e:inR pat 1 37=false:=by unfold inR;simpa using h
 rw[e];exact beq_self_eq_true _
theorem xF {pat:Int}:(tz pat).toList.isEmpty=!inR pat 1 37:=by have h:=H6 (pat:=pat);rw[show(⟨#[]⟩:ByteArray).toList=[] by kernel_rfl]at h;rw[<-h];cases (tz pat).toList<;>rfl
theorem E7 {pat:Int} {h:Heap} (ht:Tab h) (hp:I64 pat):aA Sn 20 #[Sb Sc pat] h (λu h'=>(vw h).le (vw h')/\u = .string (tz pat)):=by
 refine au (args:=[Sb Sc pat]) follows Tryz.func20 E.rL S0 λK hK=>?_;dsimp only[L.rL,lkF,lkG];refine aa λz hz=>?_;simp;subst hz;refine aa λz hz=>?_;simp;refine aj R1 (yY (s:=oB) ht (of_decide_eq_true R1) wQ (by rw[kY];decide)) ?_;rintro u h1 ⟨hle,hu⟩;have hl:=hu.len (K:=vw h1);rw[kY]at hl;subst hz;refine aa λz hz=>?_;by_cases c1:pat<1
 ·simp[c1];exact hK _ _ ⟨hle,by unfold tz;rw[if_neg R3]⟩
 by_cases c2:37<pat
 ·simp[c1,hl,c2];exact hK _ _ ⟨hle,by unfold tz;rw[if_neg R3]⟩
 have hlt:(pat-1).toNat<(fieldsD oB).length:=by rw[kY];omega
 have hx:=hu.idx1 (k:=.i64) (i:=pat-1) rfl R3 (by rw[kY];omega);have hc:=(hu.at hlt).str;rw[show(pat-1).toNat*Rep.n StrD=(pat-1).toNat from Pn _]at hc;have et:(pat-1).toNat=pat.toNat-1:=by omega
 have hc:ao (vw h1) ((slA u).add (pat.toNat-1))=Se (.string ((fieldsD oB)[(pat-1).toNat]).v):=by rw[<-et];exact hc
 have ew:IntKind.i64.wrap (pat-1)=pat-1:=bj (by have:=hp.1;omega) (by have:=hp.2;omega);simp[c1,hl,c2];subst hz;simp[ew,hx,hc];refine hK _ _ ⟨hle,?_⟩;unfold tz;rw[if_pos R3,Qi,Pl hlt,Rm];simp only[et]
theorem yQ {h:Heap} (ht:Tab h):aA Sn 24 #[] h (λu h'=>(vw h).le (vw h')/\u = Sb Sc 37):=by refine au (args:=[]) follows Tryz.func24 E.lC S0 λK hK=>?_;dsimp only[L.lC,lkF,lkG];refine aa λz hz=>?_;simp;subst hz;refine aa λz hz=>?_;simp;refine aj R1 (yY (s:=oB) ht (of_decide_eq_true R1) wQ (by rw[kY];decide)) ?_;rintro u h1 ⟨hle,hu⟩;have hl:=hu.len (K:=vw h1);rw[kY]at hl;simp[hl];subst hz;simp;exact hK _ _ ⟨hle,rfl⟩
def eY (t:fw):Int:=if inR t.pat 1 37=Sk then 20 else if inR t.cost 0 1000=Sk then 22 else 0
def mR:Nat->List fw->Int × Int
 | _,[]=>(0,0)
 | n,t::l=>if eY t=0 then mR (n+1) l else(eY t,n)
def kF (l:List fw):Int × Int:=if 1024<l.length then(2,0) else mR 0 l
theorem wO : ∀{l:List fw} {n:Nat},(∀t∈l,eY t=0)->mR n l=(0,0)
 | [],_,_=>rfl
 | t::l,n,h=>by unfold mR;rw[if_pos (h t (OJ ..))];exact wO λt ht=>h t (OL _ ht)
theorem xM : ∀{l:List fw} {n k:Nat},(hk:k<l.length)->(∀t∈l.take k,eY t=0)->eY (nth l k)≠0->mR n l=(eY (nth l k),((n+k:Nat):Int))
 | t::l,n,0,_,_,h=>by unfold mR;have h:eY t≠0:=h;rw[if_neg h];rfl
 | t::l,n,k+1,hk,h1,h2=>by unfold mR;rw[if_pos (h1 t Sa)];have h2':eY (nth l k)≠0:=h2;have:=xM (n:=n+1) (k:=k) (by simpa using hk) (λt ht=>h1 t (by simp[ht])) h2';rw[this];have e:nth (t::l) (k+1)=nth l k:=rfl;rw[e,show n+1+k=n+(k+1) by omega]
theorem zI {l:List fw} {v:Value} {h:Heap} {W:View} (hW:W.le (vw h)) (hv:SlRd W v l) (ht:Tab h):aA Sn 23 #[v] h (λu h'=>(vw h).le (vw h')/\u = .tuple #[Sb Sc (kF l).1,Sb Sc (kF l).2]):=by
 refine au (args:=[v]) follows Tryz.func23 E.fo S0 λK hK=>?_;dsimp only[L.fo,lkF,lkG];have c0:=Cx.start hW;have hl:=hv.len (K:=vw h);have bd:=hv.bound;refine aa λz hz=>?_;simp;subst hz;refine aa λz hz=>?_;by_cases c:(1024:Int)<l.length
 ·simp[hl,c];exact hK _ _ ⟨View.le_refl _,by unfold kF;rw[if_pos R3]⟩
 simp[hl,c];subst hz;refine aa λz hz=>?_;simp[hl];refine aY [0,9,10,11] (fun(_:Unit) k=>[v,v,Sb Sc l.length,Sb Sc k])
  (λ_ k h1=>(∀t∈l.take k,eY t=0)/\∃W1,W.le W1/\Cx W h W1 h1 λ_=>Sf) l.length ()
  rfl R3 rfl ⟨by simp,W,View.le_refl _,c0⟩ (λ_ _=>rfl) (λv i h1 hk m=>by simp) ?_ ?_
 ·rintro _ k h1 hk ⟨hb,W1,hW1,c1⟩ K2 hK2;obtain⟨ut,hut,rut⟩:=(hv.mono hW1).wh rfl (N:=2) rfl hk;refine aa λy hy=>?_;simp(disch:=omega)[((hv.mono hW1).mono c1.wle).idxn (N:=2) rfl,hut _ c1.wle];refine c1.dE (α:=fw) rut (n:=2) (z:=.agg #[Sb Sc 0,Sb Sc 0]) R1 rfl rfl R1 R5 R5 λB h2 W2 hW2 c2 at2 hle2=>?_;have q0:=(at2.part fw.K6);have q1:=(at2.part fw.Lh);have r0:=q0.rng;have q0:ao W2 ⟨B,0,Sf⟩=Se (Sb Sc (nth l k).pat):=by simpa using q0.int
  have q1:ao W2 ⟨B,1,Sf⟩=Se (Sb Sc (nth l k).cost):=by simpa using q1.int
  have ht2:=ht.mono c2.le0;have hbk:eY (nth l k)≠0->kF l=(eY (nth l k),(k:Int)):=λhne=>by unfold kF;rw[if_neg R3,xM hk hb hne,PH]
  have htk:eY (nth l k)=0->∀t∈l.take (k+1),eY t=0:=λhe t hm=>by
   rw[OE hk,OD,OI,<-aB hk]at hm;rcases hm with hm | rfl
   ·exact hb t hm
   exact he
  generalize nth l k=tl at *;subst hy;simp only[aW];refine aa λy hy=>?_;simp[ae c2.wle q0];refine aj R1 (E7 ht2 R6) ?_;rintro _ h3 ⟨hle3,rfl⟩;have c3:=c2.ext hle3;have hW3:=c2.up (h':=h3);subst hy;cases e1:inR tl.pat 1 37 with
  | false=>
   have e2:eY tl=20:=by unfold eY;rw[if_pos e1]
   have e3:=hbk (by rw[e2];decide);simp[HE,xF,e1];exact hK _ _ ⟨c3.le0,by rw[e3,e2]⟩
  | true=>
   simp[HE,xF,e1];simp[ae (S3 hW3 c3.wle) q1];refine aj R1 jU ?_;rintro _ h3 ⟨rfl,rfl⟩;cases e4:inR tl.cost 0 1000 with
   | false=>
    have e2:eY tl=22:=by unfold eY;rw[if_neg (by simp[e1]),if_pos e4]
    have e3:=hbk (by rw[e2];decide);simp;exact hK _ _ ⟨c3.le0,by rw[e3,e2]⟩
   | true=>
    have e2:eY tl=0:=by unfold eY;rw[if_neg (by simp[e1]),if_neg (by simp[e4])]
    simp;exact hK2 () _ _ rfl rfl ⟨htk e2,_,S3 hW1 (S3 hW2 hW3),c3⟩
 rintro _ h1 ⟨hb,W1,hW1,c1⟩;rw[Pj]at hb;simp;subst hz;simp;refine hK _ _ ⟨c1.le0,?_⟩;unfold kF;rw[if_neg R3,wO hb]
end Go.Proofs.YtnfiilgdjpdlkaaGreatDoor
namespace Go.Proofs.YtnfiilgdjpdlkaaGreatDoor
open Go Go.Lft Go.ChangeShapes Go.WideShapes Go.ChangeAt Go.RowKit
abbrev CQ : List (String × DataW Unit) := [("unicode.White_Space", Rows.laid_unicode_White_Space), ("strings.asciiSpace", Rows.laid_strings_asciiSpace)]
theorem gSp: Tryz.prog.globalNamed "strings.asciiSpace" = Se (Tryz.lU.g 0) := by kernel_rfl
theorem LY:(Rows.laid_strings_asciiSpace:DataW Unit)=Lib.tabData .u8 Lib.asciiSpaceTab:=by kernel_rfl
abbrev spT:TypeId:=140
abbrev spE:TypeId:=5
theorem BP{W:World}(h:laidMetH Sn CQ W):Tab W.heap:=by
 rw[MakeChecks.laidMetH_plain _ _ _ R1]at h;obtain⟨ps,⟨g0,t0,cs0,f0,p0,q0,hg0,ht0,hv0,hd0,⟨g1,t1,cs1,f1,p1,q1,hg1,ht1,hv1,hd1,_,_⟩,_⟩,_,_⟩:=h;obtain rfl:=Option.some.inj (gSp.symm.trans hg1);have hty:(Tryz.prog.globals[Tryz.lU.g 0]?).map (·.type)=Se spT:=by kernel_rfl
 obtain rfl:=Option.some.inj (hty.symm.trans ht1);rw[LY]at hd1;have htab : Lib.TabIs Sn W "strings.asciiSpace" .u8 Lib.asciiSpaceTab := by unfold Lib.TabIs;rw[hv1,<-Lib.cells_of_tab (n:=256) (e:=spE) R1 R1 R1 R1 hd1]
 intro c hc;have:=htab.cell gSp c (by rw[Lib.asciiSpaceTab_length];exact hc);rw[Lib.asciiSpaceTab_at c hc]at this;obtain⟨-,a,T,fz,h1,h2⟩:=zJ this;unfold ao vw;simp only[h1];simpa using h2
theorem Iy(os:Os)(args:Array Value):laidMetH Sn CQ ((World.doorLaid Sn 400 os).forCall (λ_ _=>0) ⟨#[],args,[]⟩).memory:=
 laidMetH_of_parts3 (fuel:=8) (laidMet_of_run' 8 R1 R1) R1 R1
section
open Go Go.Lft
abbrev Wh:=Int->Option (Int × Int)
def EA (can:Int->Int->Bool):Option (Int × Int)->Bool
 | none=>Sj
 | some w=>can w.1 w.2
def xq (can:Int->Int->Bool) (wh:Wh) (l:List Int):Bool:=l.all λv=>EA can (wh v)
def HS (can:Int->Int->Bool) (wh:Wh):Option FitD->Bool
 | none=>Sk
 | some x=>xq can wh x.takes
def canP (f:aq) (has:Int->Bool) (wh:Wh) (can:Int->Int->Bool) (b i pat:Int):Bool:=has pat&&HS can wh (tryS (eS f b i 0) pat)
def canS (f:aq) (has:Int->Bool) (wh:Wh):Nat->Int->Int->Bool
 | 0,_,_=>Sk
 | n+1,b,i=>(List.range 38).any λk=>canP f has wh (canS f has wh n) b i (k:Int)
theorem C6{f:aq}{t:cK}{pat:Int}(h:¬(0<=pat/\pat<38)):eA f t pat=none:=by unfold eA;rw[if_neg R3,if_neg R3,if_neg R3,if_neg R3,if_neg R3,if_neg R3]
theorem FY{s:cy}{pat:Int}(h:¬(0<=pat/\pat<38)):tryS s pat=none:=by
 unfold tryS;split
 ·exact C6 h
 unfold patS;rw[if_neg R3]
theorem BQ{f:aq}{has:Int->Bool}{wh:Wh}{n:Nat}{b i:Int}:canS f has wh (n+1) b i=Sj↔∃pat,canP f has wh (canS f has wh n) b i pat=true:=by
 unfold canS;rw[Pz];constructor
 ·rintro⟨k,_,hk⟩;exact⟨_,hk⟩
 rintro⟨pat,hp⟩;by_cases h:0<=pat/\pat<38
 ·refine⟨pat.toNat,P2.2 R3,?_⟩;rw[O0 h.1];exact hp
 unfold canP at hp;rw[FY h]at hp;simp[HS]at hp
def twoV (w:Int × Int):Value:=.agg #[Sb Sc w.1,Sb Sc w.2]
structure Cv (W:View) (F H Q C r1 r2:Nat) (f:aq) (has:Int->Bool) (wh:Wh):Prop where
 fc:At W ⟨F,0,Sf⟩ f
 hasR : ∀p,has p=Sj->I64 p
 hasC:ao W ⟨H,0,Sf⟩=Se (.map (Se r1))
 hasM : ∀h,W.le (vw h)->ee (.int .i64) h r1 (mapB has)
 whC:ao W ⟨Q,0,Sf⟩=Se (.map (Se r2))
 whR : ∀v w,wh v=Se w->I64 w.1/\I64 w.2
 whM : ∀h,W.le (vw h)->ee (.int .i64) h r2 (mapE twoV wh)
 can:ao W ⟨C,0,Sf⟩=Se (.func (.func 43) #[] #[ptr F,ptr H,ptr Q,ptr C])
theorem Cv.mono {W W':View} {F H Q C r1 r2:Nat} {f:aq} {has:Int->Bool} {wh:Wh} (c:Cv W F H Q C r1 r2 f has wh) (h:W.le W'):Cv W' F H Q C r1 r2 f has wh:=
 ⟨c.fc.mono h,c.hasR,ae h c.hasC,λg hg=>c.hasM g (S3 h hg),ae h c.whC,c.whR,λg hg=>c.whM g (S3 h hg),ae h c.can⟩
def Down (f:aq) (wh:Wh):Prop:=∀b i pat x v w,dG f b i=Sj->tryS (eS f b i 0) pat=Se x->v∈x.takes->wh v=Se w->dG f w.1 w.2=Sj/\w.2<i
theorem Ge{s:Int->Bool}{u v:Value}(hk:MapKept.IsKey (.int .i64) u)(h:mapB s u=Se v): ∃p:Int,u = Sb Sc p/\s p=Sj/\v = .bool true:=by
 cases u<;>simp[MapKept.IsKey]at hk;rename_i k p;subst hk;rw[Bf]at h;split at h
 ·rename_i hs;cases h;exact⟨p,rfl,hs,rfl⟩
 cases h
theorem yF{h h':Heap}{b r:Nat}{left:List (Value × Value)}(m:It h b r left)(hle:(vw h).le (vw h')):It h' b r left:=by
 have l:=m.lt;have e : ∀k,k<h.size->h'[k]? = h[k]?:=λk hk=>by have:=hle k h[k] (OV hk);rw[OV hk];exact this
 exact m.same (e _ l.1) (e _ l.2.1)
theorem Hy {f:aq} {has:Int->Bool} {wh:Wh} (m:nY f) (hsm:SmF f) (hM : ∀i∈dV f,i.op=15\/i.op=16->nc) (hd:Down f wh) : ∀(n:Nat) {b i:Int} {Fb H Q C r1 r2:Nat} {W:View} {h:Heap},Cv W Fb H Q C r1 r2 f has wh->W.le (vw h)->dG f b i=Sj->i<n->
  aA Sn 43 #[Sb Sc b,Sb Sc i,ptr Fb,ptr H,ptr Q,ptr C] h (λu h'=>(vw h).le (vw h')/\u = .bool (canS f has wh n b i))
 | 0,b,i,Fb,H,Q,C,r1,r2,W,h,cv,hW,hpl,hi=>by simp[dG]at hpl;omega
 | n+1,b,i,Fb,H,Q,C,r1,r2,W,h,cv,hW,hpl,hi=>by
  have ih:=@Hy f has wh m hsm hM hd n;refine au (args:=[Sb Sc b,Sb Sc i,ptr Fb,ptr H,ptr Q,ptr C]) follows Tryz.func43 E.cQ S0 λK hK=>?_;dsimp only[L.cQ,lkF,lkG];have c0:=Cx.start hW;refine aa λz hz=>?_;simp;subst hz;refine aa λz hz=>?_;obtain⟨uf,huf,ruf⟩:=cv.fc.ldN rfl (N:=2) rfl;have hr:=xa ruf;simp[huf _ hW];refine aj R1 (HW (b:=b) (p:=i) hW ruf (by constructor<;>decide)) ?_;rintro _ h1 ⟨hle1,vs,rfl,hvs⟩;have c1:=c0.ext hle1;have hW1:=c0.up (h':=h1);have hpS:oD f b i 0=eS f b i 0:=by unfold oD;rw[hpl,if_pos rfl]
  rw[hpS]at hvs;simp;refine c1.dE (α:=cy) hvs (n:=13) (z:=.agg qe.toArray) R1 rfl rfl R1 R5 R5 λB h2 W2 hW2 c2 at2 hle2=>?_;have cv2:=cv.mono (S3 hW1 hW2);subst hz;refine aa λz hz=>?_;refine aa λy hy=>?_;simp[ae c2.wle cv2.hasC];refine BM U.jW rfl (cv2.hasM h2 c2.wle) λh3 left hle3 hs3 it3 nd3 key3 mem3=>?_;have hall : ∀u v,(u,v)∈left->∃p:Int,u = Sb Sc p/\has p=true:=λu v hu=>by obtain⟨p,e1,e2,-⟩:=Ge (key3 u v hu) ((mem3 u v (key3 u v hu)).1 hu);exact⟨p,e1,e2⟩
  have hrest : ∀p:Int,has p=Sj->(∃v,(Sb Sc p,v)∈left):=λp hp=>⟨.bool Sj,(mem3 _ _ fN).2 (by rw[Bf,hp,if_pos rfl])⟩;have hr3:W2 h2.size=none:=View.cS c2.wle (N8 _);have hs0:h.size<=h2.size:=cD c2.le0;have c3:Cx W h W2 h3 λ_=>none:=⟨Owns.start (S3 c2.wle hle3),c2.old,S3 c2.le0 hle3,λ_ _ _ e=>by cases e⟩;obtain⟨r,hr0⟩ : ∃r,r=h2.size:=⟨_,rfl⟩;rw[<-hr0]at it3 hr3 hs0 ⊢;subst hy;simp only[aW];refine iy [0,1,2,3,4,5,9,26] (λmm ρ hx=>∃(left:List (Value × Value)) (Wx:View),mm=left.length/\ρ=[(0,Sb Sc b),(1,Sb Sc i),(2,ptr Fb),(3,ptr H),(4,ptr Q),(5,ptr C),(9,ptr B),(26,ptr r)]/\W2.le Wx/\Cx W h Wx hx (λ_=>Sf)/\Wx r=Sf/\It hx r1 r left/\
   (∀u v,(u,v)∈left->∃p:Int,u = Sb Sc p/\has p=Sj)/\(∀p:Int,has p=Sj->(∃v,(Sb Sc p,v)∈left)\/canP f has wh (canS f has wh n) b i p=Sk)) left.length
   ⟨left,W2,rfl,rfl,View.le_refl _,c3,hr3,it3,hall,λp hp=>.inl (hrest p hp)⟩ ?_;clear hall hrest it3 nd3 key3 mem3 c3;rintro mm ρ hx ⟨left,Wx,rfl,rfl,lx,cx,hrx,itx,hall,hrest⟩ K2 hK2;refine aa λy hy=>?_;simp;refine DY rfl itx ?_ ?_
  ·rintro rfl;have hno:canS f has wh (n+1) b i=false:=by
    cases e:canS f has wh (n+1) b i with
    | false=>rfl
    | true=>
     obtain⟨p,hp⟩:=BQ.1 e;have hh:has p=true:=by unfold canP at hp;simp at hp;exact hp.1
     rcases hrest p hh with⟨v,hv⟩ | hv
     ·cases hv
     rw[hp]at hv;cases hv
   simp;subst hy;simp;subst hz;simp;exact hK _ _ ⟨cx.le0,by rw[hno]⟩
  intro a p q h4 el hs4 ho4 it4;obtain⟨pat,e1,e2⟩:=hall p.1 p.2 (by rw[el];simp);have hpe:p=(Sb Sc pat,p.2):=by rw[<-e1]
  have le4 : ∀X:View,X.le (vw hx)->X r=Sf->X.le (vw h4):=λX hX hn b o hb=>by show h4[b]? = Se o;rw[ho4 b (by rintro rfl;rw[hn]at hb;cases hb)];exact hX b o hb
  have le04:(vw h).le (vw h4):=λb o hb=>by have hlt:=View.lt (View.le_refl (vw h)) hb;show h4[b]? = Se o;rw[ho4 b R3];exact cx.le0 b o hb
  have hW4:=le4 Wx cx.wle hrx;have c4:Cx W h Wx h4 λ_=>none:=⟨Owns.start hW4,cx.old,le04,λ_ _ _ e=>by cases e⟩;have hrest4 : ∀p:Int,p≠pat->has p=Sj->(∃v,(Sb Sc p,v)∈a++q)\/canP f has wh (canS f has wh n) b i p=false:=λp' hne hp'=>by
   rcases hrest p' hp' with⟨v,hv⟩ | hv
   ·rw[el,OD,OO]at hv;rcases hv with hv | hv | hv
    ·exact .inl ⟨v,OD.2 (.inl hv)⟩
    ·rw[hpe]at hv;simp at hv;exact absurd hv.1 hne
    exact .inl ⟨v,OD.2 (.inr hv)⟩
   exact .inr hv
  have hall4 : ∀u v,(u,v)∈a++q->∃p:Int,u = Sb Sc p/\has p=true:=λu v hu=>hall u v (by rw[el,OD,OO];rcases OD.1 hu with hu | hu<;>simp[hu]);have hlen:(a++q).length<left.length:=by rw[el];simp
  have at4:=at2.mono lx;have cv4:=cv2.mono lx;clear hrest hall itx cx;simp;subst hy;refine aa λy hy=>?_;refine aD Sa ?_;simp;subst hy;simp only[aW];refine aa λy hy=>?_;simp;refine GN rfl it4 ?_;simp[e1];subst hy;refine aa λy hy=>?_;obtain⟨us,hus,rus⟩:=at4.ldN rfl (N:=13) rfl;simp[hus _ c4.wle];refine aj R1 (Ah c4.wle rus m hsm hr hM hpl (cv.hasR _ e2)) ?_;rintro _ h5 ⟨hle5,vf,x,rfl,hvf,hxx⟩;have c5:=c4.ext hle5;have hW5:=c4.up (h':=h5);have it5:=yF it4.it hle5;simp;refine dB (X:=grow Wx h4 h5) (α:=FitD) (z:=.agg fitZ.toArray) R1 rfl R1 hvf R5 R5 λh6 hle6 hs6 hat6=>?_;have c6:=c5.ext hle6;have hW6:=c5.up (h':=h6);have at6:=hat6 _ hW6 (bI (N8 _));have hr6:grow (grow Wx h4 h5) h5 h6 r=none:=by rw[jo (yF it4.it hle5).lt.2.1,jo it4.it.lt.2.1];exact hrx
  generalize grow (grow Wx h4 h5) h5 h6=W6 at *;generalize h5.size=B3 at *;have it6:=yF it5 hle6;subst hy;refine aa λy hy=>?_;have pt:=(at6.part FitD.Am).sl;obtain⟨vt,k1,s1⟩:=pt;have k1:ao W6 ⟨B3,0,Sf⟩=Se vt:=by simpa using k1
  refine aa λw hw=>?_;simp[ae c6.wle k1,s1.len];subst hw;simp only[aW];have bt:=s1.bound;obtain⟨okS,hok⟩ : ∃okS:Nat->Bool,okS=λj=>(tryS (eS f b i 0) pat).isSome&&xq (canS f has wh n) wh (x.takes.take j):=⟨_,rfl⟩;have ok0:(tryS (eS f b i 0) pat).isSome=okS 0:=by rw[hok];simp[xq]
  have okJ : ∀j,j<x.takes.length->okS (j+1)=(okS j&&EA (canS f has wh n) (wh (nth x.takes j))):=λj hj=>by rw[hok];simp only[xq];rw[OE hj,List.all_append,aB hj];simp[RW]
  have okE:okS x.takes.length=canP f has wh (canS f has wh n) b i pat:=by
   rw[hok];simp only[Pj];unfold canP;rw[e2];cases hq:tryS (eS f b i 0) pat with
   | none=>rfl
   | some y=>rw[hxx y hq];rfl
  have okV : ∀j,j<x.takes.length->okS j=Sj->∀w,wh (nth x.takes j)=Se w->dG f w.1 w.2=Sj/\w.2<i:=λj hj ho w hw=>by rw[hok]at ho;simp only[OA]at ho;obtain⟨y,hy⟩:=P1.1 ho.1;have:=hxx y hy;subst this;exact hd b i pat x _ w hpl hy (bw hj) hw
  rw[ok0];clear hok ok0;refine aY [0,1,2,3,4,5,9,11,12,13,26,38,39,40] (fun(_:Unit) j=>[Sb Sc b,Sb Sc i,ptr Fb,ptr H,ptr Q,ptr C,ptr B,Sb Sc pat,ptr B3,.bool (okS j),ptr r,vt,Sb Sc x.takes.length,Sb Sc j])
   (λ_ j h7=>∃W7,W6.le W7/\Cx W h W7 h7 (λ_=>Sf)/\W7 r=Sf/\It h7 r1 r (a++q)) x.takes.length ()
   rfl R3 rfl ⟨W6,View.le_refl _,c6,hr6,it6⟩ (λ_ _=>rfl) (λv i h1 hk m=>by simp) ?_ ?_
  ·rintro _ j h7 hj ⟨W7,lW7,c7,hr7,it7⟩ K3 hK3;have s7:=s1.mono (S3 lW7 c7.wle);have cv7:=(cv4.mono hW5).mono (S3 hW6 lW7);have okj:=okJ j hj;have okv:=okV j hj;refine aa λw hw=>?_;simp(disch:=omega)[s7.idx1 rfl,s7.int S2];subst hw;generalize nth x.takes j=vv at *;refine aa λw hw=>?_;simp[ae c7.wle cv7.whC];refine oy (f:=mapE twoV wh) (z:=.agg #[Sb Sc 0,Sb Sc 0]) (k:=T.int) (e:=T.nu) (d:=.int .i64) (r:=r2) (u:=Sb Sc vv) U.ib U.int R1 rfl rfl fN (cv7.whM h7 c7.wle) ?_;have wr:Rd W7 (((wh vv).map twoV).getD (.agg #[Sb Sc 0,Sb Sc 0])) ((wh vv).getD (0,0)):=by
    cases hv:wh vv with
    | none=>exact rC.2 ⟨rfl,by decide,by decide⟩
    | some w=>exact rC.2 ⟨rfl,(cv7.whR vv w hv).1,(cv7.whR vv w hv).2⟩
   simp;refine dB (X:=W7) (α:=Int × Int) (z:=.agg #[Sb Sc 0,Sb Sc 0]) R1 rfl R1 wr R5 R5 λh8 hle8 hs8 hat8=>?_;have c8:=c7.ext hle8;have hW8:=c7.up (h':=h8);have at8:=hat8 _ hW8 (bI (N8 _));have it8:=yF it7 hle8;have hr8:grow W7 h7 h8 r=none:=by rw[jo it7.lt.2.1];exact hr7
   generalize grow W7 h7 h8=W8 at *;generalize h7.size=B4 at *;subst hw;refine aa λw hw=>?_;cases ho:okS j with
   | false=>rw[ho]at okj;simp;subst hw;simp;exact hK3 () _ _ rfl (by simp[bD,okj]) ⟨W8,S3 lW7 hW8,c8,hr8,it8⟩
   | true=>
    rw[ho]at okj;cases hv:wh vv with
    | none=>rw[hv]at okj;simp;subst hw;simp;exact hK3 () _ _ rfl (by simp[bD,okj,EA]) ⟨W8,S3 lW7 hW8,c8,hr8,it8⟩
    | some ww=>
     rw[hv]at okj at8;obtain⟨g1,g2⟩:=okv ho ww hv;have at8:At W8 ⟨B4,0,Sf⟩ ww:=at8;obtain⟨cs,q1,q2,-⟩:=at8;have x0:ao W8 ⟨B4,0,Sf⟩=Se (Sb Sc ww.1):=by have:=gw q1 (i:=0) (v:=Sb Sc ww.1) (by rw[q2];rfl);simpa using this
     have x1:ao W8 ⟨B4,1,Sf⟩=Se (Sb Sc ww.2):=by have:=gw q1 (i:=1) (v:=Sb Sc ww.2) (by rw[q2];rfl);simpa using this
     have cv8:=cv7.mono hW8;simp;subst hw;have y0:Bn.ev (.aidx 2 1) (Si (Se ⟨B4,0,Sf⟩)) (Sb Sc 0)=Se (Si (Se ⟨B4,0,Sf⟩)):=rfl;have y1:Bn.ev (.aidx 2 1) (Si (Se ⟨B4,0,Sf⟩)) (Sb Sc 1)=Se (Si (Se ⟨B4,1,Sf⟩)):=rfl;simp[ae c8.wle cv8.can,ae c8.wle x0,ae c8.wle x1,y0,y1];refine cg (ops:=[.tmp 56,.tmp 58]) (caps:=#[ptr Fb,ptr H,ptr Q,ptr C]) rfl R1 (ih (b:=ww.1) (i:=ww.2) cv8 c8.wle g1 R3) ?_;rintro _ h9 ⟨hle9,rfl⟩;have c9:=c8.ext hle9;have hW9:=c8.up (h':=h9);refine hK3 () _ _ rfl (by simp[bD,okj,EA]) ⟨_,S3 lW7 (S3 hW8 hW9),c9,?_,yF it8 hle9⟩;rw[jo it8.lt.2.1];exact hr8
  rintro _ h7 ⟨W7,lW7,c7,hr7,it7⟩;rw[okE];simp;subst hy;cases hcp:canP f has wh (canS f has wh n) b i pat with
  | true=>have hyes:canS f has wh (n+1) b i=true:=BQ.2 ⟨pat,hcp⟩;simp;exact hK _ _ ⟨c7.le0,by rw[hyes]⟩
  | false=>
   simp;refine hK2 (a++q).length _ _ hlen ⟨a++q,W7,rfl,rfl,S3 lx (S3 hW5 (S3 hW6 lW7)),c7,hr7,it7,hall4,λp' hp'=>?_⟩;by_cases hne:p'=pat
   ·exact .inr (hne▸hcp)
   exact hrest4 p' hne hp'
end
end Go.Proofs.YtnfiilgdjpdlkaaGreatDoor
namespace Go.Lft
open Go
theorem C7 {po:OP} {P:Program} {ty t e rt:TypeId} {us:List (Nat × Value)} {h:Heap} {K:Value->Heap->Prop} {a b c d:Int} {ki:IntKind} {x y:Operand} (hu:P.underlying t=Se (.array 2 e)) (he:P.underlying e=Se (.int ki)) (hs:cH P e=Se 1) (ha:oF P e=Se Sk) (hgd:P.eqGuardType P.depth t=Sk)
  (hx:asg us x = .agg #[.int ki a,.int ki b]) (hy:asg us y = .agg #[.int ki c,.int ki d]) (hk:K (.bool (a == c&&b == d)) h):@step po P (.binOp .eql t x y rt) ty us h K:=by refine dv (cG λw hw=>⟨_,w,?_,Same.refl _,by rw[hw];exact hk⟩);simp only[bU,execOp,hx,hy];simp[eqGuard,binOp,CJ hu he hs ha,program,Sem.run,hgd]
end Go.Lft
namespace Go.Proofs.YtnfiilgdjpdlkaaGreatDoor
open Go Go.Lft
structure Mq (V:View) (h0:Heap) (W:View) (h:Heap) (r:Nat) (g:Value->Option Value):Prop where
 c:Cx V h0 W h λ_=>Sf
 av:W r=Sf
 lo:h0.size<=r
 m:ee (.int .i64) h r g
section
variable {po po2:OP} {V W:View} {h0 h h':Heap} {r:Nat} {g g':Value->Option Value}
theorem Mq.ext (k:Mq V h0 W h r g) (hle:(vw h).le (vw h')):Mq V h0 (grow W h h') h' r g:=⟨k.c.ext hle,by rw[jo k.m.lt];exact k.av,k.lo,k.m.ext hle⟩
theorem Mq.up (k:Mq V h0 W h r g):W.le (grow W h h'):=k.c.up
theorem Mq.wle (k:Mq V h0 W h r g):W.le (vw h):=k.c.wle
theorem Mq.upd (k:Mq V h0 W h r g) (ho : ∀b,b≠r->h'[b]? = h[b]?) (hm:ee (.int .i64) h' r g'):Mq V h0 W h' r g':=
 ⟨⟨Owns.start λb o hb=>by
   show h'[b]? = Se o;rw[ho b (by rintro rfl;rw[k.av]at hb;cases hb)];exact k.wle b o hb,k.c.old,λb o hb=>by
   have hlt:=View.lt (View.le_refl (vw h0)) hb;have:=k.lo;show h'[b]? = Se o;rw[ho b R3];exact k.c.le0 b o hb,λ_ _ _ e=>by cases e⟩,k.av,k.lo,hm⟩
theorem Mq.dE {α:Type} [Rep α] {P:Program} {ty:TypeId} {us:List (Nat × Value)} {t ty2:TypeId} {n:Nat} {z:Value} {x y:Operand} {us2:Value->List (Nat × Value)} {v:Value} {d:α} {K:Value->Heap->Prop} (k:Mq V h0 W h r g) (hv:Rd W v d) (hz:(P.info? t).map (·.zero)=Se (Se z)) (hN:Rep.n α=n) (hzc:z.cells.size=n) (hsz:cH P t=Se n)
  (hx : ∀p,asg (us2 p) x=p) (hy : ∀p,asg (us2 p) y=v) (hk : ∀B h' W',W.le W'->Mq V h0 W' h' r g->At W' ⟨B,0,Sf⟩ d->(vw h).le (vw h')->K (Si (Se ⟨B,0,Sf⟩)) h') :
  @Lft.step po P (.alloc t) ty us h λp h2=>@Lft.step po2 P (.store t x y) ty2 (us2 p) h2 λ_ h3=>K p h3:=by subst hN;refine dB (X:=W) hz hzc hsz hv hx hy λh1 hle hs hat=>?_;exact hk _ _ _ k.up (k.ext hle) (hat _ k.up (bI (N8 _))) hle
theorem Mq.freeze (k:Mq V h0 W h r g) : ∃W',W.le W'/\Cx V h0 W' h (λ_=>Sf)/\(∀g2:Heap,W'.le (vw g2)->ee (.int .i64) g2 r g):=by
 obtain⟨es,cl,e1,e2⟩:=k.m.ex;have hle:W.le (W.set r (.map es cl)):=λb o hb=>by unfold View.set;rw[if_neg (by rintro rfl;rw[k.av]at hb;cases hb)];exact hb
 have hw:(W.set r (.map es cl)).le (vw h):=λb o hb=>by
  unfold View.set at hb;split at hb
  ·rename_i e;subst e;cases hb;exact e1
  exact k.wle b o hb
 refine⟨_,hle,⟨Owns.start hw,λb o hb hx=>?_,k.c.le0,λ_ _ _ e=>by cases e⟩,λg2 hg2=>⟨es,cl,hg2 r _ (by unfold View.set;rw[if_pos rfl]),e2⟩⟩;unfold View.set at hx;have:=k.lo;rw[if_neg R3]at hx;exact k.c.old b o hb hx
end
def hasS (l:List fw):Int->Bool:=λp=>decide (p=0)||l.any λt=>decide (t.pat=p)
def me (f:aq) (b k:Nat) (wh:Wh):Wh:=
 if(!decide ((nth (nth f.blocks b).ins k).op=16)&&!decide ((nth (nth f.blocks b).ins k).op=18))&&dP f (nth (nth f.blocks b).ins k).dst then putM wh (nth (nth f.blocks b).ins k).dst ((b:Int),(k:Int)) else wh
def whTo (f:aq) (n:Nat):Wh:=Lft.up (λb wh=>Lft.up (me f b) (nth f.blocks b).ins.length wh) n (λ_=>Sf)
def whS (f:aq):Wh:=whTo f f.blocks.length
theorem zQ {f:aq} {n:Nat}:whTo f (n+1)=Lft.up (me f n) (nth f.blocks n).ins.length (whTo f n):=rfl
theorem tC : ∀{l:List fw} {n:Nat},(mR n l).1=0->∀t∈l,eY t=0
 | [],_,_,t,ht=>by cases ht
 | a::l,n,h,t,ht=>by
  unfold mR at h;split at h
  ·rename_i e;rcases OO.1 ht with rfl | ht
   ·exact e
   exact tC h t ht
  rename_i e;exact absurd h e
theorem Gf {l:List fw} (h:(kF l).1=0) {t:fw} (ht:t∈l):inR t.pat 1 37=true:=by
 unfold kF at h;split at h
 ·cases h
 have:=tC h t ht;unfold eY at this;cases e:inR t.pat 1 37 with
 | true=>rfl
 | false=>rw[if_pos e]at this;cases this
theorem JZ {l:List fw} (h:(kF l).1=0) {p:Int} (hp:hasS l p=Sj):I64 p:=by
 unfold hasS at hp;simp at hp;rcases hp with rfl | ⟨t,ht,rfl⟩
 ·constructor<;>decide
 have:=Gf h ht;simp[inR]at this;constructor<;>omega
def WhAt (f:aq) (v:Int) (w:Int × Int):Prop:=∃b k:Nat,b<f.blocks.length/\k<(nth f.blocks b).ins.length/\w=((b:Int),(k:Int))/\(nth (nth f.blocks b).ins k).dst=v/\(nth (nth f.blocks b).ins k).op≠16/\(nth (nth f.blocks b).ins k).op≠18/\dP f v=Sj
theorem Fp {f:aq} {b k:Nat} {g:Wh} (hb:b<f.blocks.length) (hk:k<(nth f.blocks b).ins.length) (hg : ∀v w,g v=Se w->WhAt f v w) : ∀v w,me f b k g v=Se w->WhAt f v w:=by
 intro v w h;unfold me at h;split at h
 ·rename_i c;simp at c;unfold putM at h;split at h
  ·rename_i e;cases h;exact⟨b,k,hb,hk,rfl,e.symm,c.1.1,c.1.2,e▸c.2⟩
  exact hg v w h
 exact hg v w h
theorem Ei {f:aq} : ∀{n:Nat},n<=f.blocks.length->∀v w,whTo f n v=Se w->WhAt f v w
 | 0,_,v,w,h=>by cases h
 | n+1,hn,v,w,h=>by
  rw[zQ]at h;have key : ∀k,k<=(nth f.blocks n).ins.length->∀v w,Lft.up (me f n) k (whTo f n) v=Se w->WhAt f v w:=by
   intro k;induction k with
   | zero=>exact λ_ v w h=>Ei R3 v w h
   | succ k ih=>exact λhk=>Fp R3 R3 (ih R3)
  exact key _ (N8 _) v w h
theorem Hz {f:aq} {v:Int} {w:Int × Int} (h:whS f v=Se w):WhAt f v w:=Ei (N8 _) v w h
theorem L7 {f:aq} (hsm:SmF f) {v:Int} {w:Int × Int} (h:whS f v=Se w):I64 w.1/\I64 w.2:=by obtain⟨b,k,hb,hk,rfl,-⟩:=Hz h;have h1:=hsm.len;have h2:=(hsm.blk b hb).ins;refine⟨⟨?_,?_⟩,?_,?_⟩<;>simp only<;>omega
def qg (f:aq) (wh:Wh) (b i:Nat):Bool:=!(decide (i<(nth f.blocks b).ins.length)&&(!decide ((nth (nth f.blocks b).ins i).op=16)&&decide (wh (nth (nth f.blocks b).ins i).dst=Se ((b:Int),(i:Int)))))
def wK (f:aq) (has:Int->Bool) (b i:Nat):Bool:=qg f (whS f) b i&&!canS f has (whS f) (i+1) b i
def ye (f:aq) (has:Int->Bool) (b:Nat):Option Nat:=(List.range ((nth f.blocks b).ins.length+1)).find? (wK f has b)
def qI (f:aq) (has:Int->Bool):Option (Nat × Nat):=(List.range f.blocks.length).findSome? λb=>(ye f has b).map λi=>(b,i)
def KK:Option (Nat × Nat)->Int × Int × Int
 | none=>(0,0,0)
 | some w=>(21,w.1,w.2)
def jP (l:List fw) (f:aq):Int × Int × Int:=if(kF l).1≠0 then((kF l).1,0,0) else if mf f=Sk then(1,0,0) else KK (qI f (hasS l))
theorem find_range {p:Nat->Bool} {n i:Nat} (hi:i<n) (h1:(List.range i).find? p=Sf) (h2:p i=Sj):(List.range n).find? p=Se i:=by obtain⟨d,rfl⟩ : ∃d,n=i+(d+1):=⟨n-i-1,by omega⟩;rw[List.range_add,Qy,h1,Qr,RS];simp[h2]
theorem xJ {α:Type} {p:Nat->Option α} {n i:Nat} {a:α} (hi:i<n) (h1:(List.range i).findSome? p=Sf) (h2:p i=Se a):(List.range n).findSome? p=Se a:=by obtain⟨d,rfl⟩ : ∃d,n=i+(d+1):=⟨n-i-1,by omega⟩;rw[List.range_add,QK,h1,Qr,RS];simp[h2]
def Looks (ρ:Env) (l:List (Nat × Value)):Prop:=∀p∈l,Lft.look ρ p.1=Se p.2
set_option maxHeartbeats 4000000 in
theorem FD {l:List fw} {f:aq} {vl vf:Value} {h:Heap} {W:View} (hW:W.le (vw h)) (hl:SlRd W vl l) (hf:Rd W vf f) (hsm:SmF f) (ht:Tab h) (hM : ∀i∈dV f,i.op=15\/i.op=16->nc) (hd:mf f=Sj->Down f (whS f)) :
  aA Sn 26 #[vl,vf] h (λu h'=>(vw h).le (vw h')/\u = .tuple #[Sb Sc (jP l f).1,Sb Sc (jP l f).2.1,Sb Sc (jP l f).2.2]):=by
 refine au (args:=[vl,vf]) follows Tryz.func26 E.bz S0 λK hK=>?_;dsimp only[L.bz,lkF,lkG];have c0:=Cx.start hW;refine aa λz hz=>?_;simp;refine c0.cr rfl hf λF1 h1 W1 hW1 c1 at1 hle1=>?_;subst hz;refine aa λz hz=>?_;refine aa λy hy=>?_;simp;refine aj R1 (zI c1.wle (hl.mono hW1) (ht.mono c1.le0)) ?_;rintro _ h2 ⟨hle2,rfl⟩;have c2:=c1.ext hle2;have hW2:=c1.up (h':=h2);simp;subst hy;refine aa λy hy=>?_;simp;subst hy;by_cases e1:(kF l).1=0
 ·simp[e1];subst hz;refine aa λz hz=>?_;refine aa λy hy=>?_;obtain⟨uf,huf,ruf⟩:=at1.ldN rfl (N:=2) rfl;simp[huf _ (S3 hW2 c2.wle)];refine aj R1 (yk (ruf.mono (S3 hW2 c2.wle)) hsm) ?_;rintro _ h3 ⟨rfl,hle3⟩;have c3:=c2.ext hle3;have hW3:=c2.up (h':=h3);subst hy;cases hrt:mf f with
  | false=>
   have hrt2:decide ((lP f).1=0)=false:=hrt;have e:jP l f=(1,0,0):=by unfold jP;rw[if_neg (by rw[e1];simp),if_pos hrt]
   simp[hrt2];exact hK _ _ ⟨c3.le0,by rw[e]⟩
  | true=>
   have hrt2:decide ((lP f).1=0)=true:=hrt;have hcov:jP l f=KK (qI f (hasS l)):=by unfold jP;rw[if_neg (by rw[e1];simp),if_neg (by simp[hrt])]
   rw[hcov]at hK;have m:=pf hrt;have hd:=hd hrt;simp[hrt2];subst hz;refine aa λz hz=>?_;simp;refine nN ?_;have m3:ee (.int .i64) (h3.push (.map #[] 0)) h3.size λ_=>none:=ee.none Sa;have q3:=bC h3 (.map #[] 0);have av3:grow (grow W1 h1 h2) h2 h3 h3.size=none:=View.cS c3.wle (N8 _);have hs3:h.size<=h3.size:=cD c3.le0;have hW13:W1.le (grow (grow W1 h1 h2) h2 h3):=S3 hW2 hW3;generalize grow (grow W1 h1 h2) h2 h3=W3 at *;generalize h3.push (.map #[] 0)=h4 at *;obtain⟨r1,hr1⟩ : ∃r,r=h3.size:=⟨_,rfl⟩;rw[<-hr1]at m3 av3 hs3 ⊢;have k4:Mq W h W3 h4 r1 λ_=>none:=⟨⟨Owns.start (S3 c3.wle q3),c3.old,S3 c3.le0 q3,λ_ _ _ e=>by cases e⟩,av3,hs3,m3⟩;refine lg (.inr rfl) (t:=T.jW) (k:=T.int) (e:=T.bool) (u:=Sb Sc 0) U.jW U.int rfl rfl rfl fN k4.m (mapB (hasS [])) (by simp[hasS]) (λu hu=>?_) λh5 hs5 ho5 hm5=>?_
   ·cases u with
    | int k j=>cases k<;>first | rfl | (simp[hasS];intro e;exact hu (by rw[e]))
    | _=>rfl
   have k5:=k4.upd ho5 hm5;refine fT (n:=1) (z:=.map Sf) (v:=.map (Se r1)) R1 rfl R1 rfl R8 R5 R5 λh6 hle6 hs6 hb6=>?_;have k6:=k5.ext hle6;have hW6:=k5.up (h':=h6);have x9:ao (grow W3 h5 h6) ⟨h5.size,0,Sf⟩=Se (.map (Se r1)):=cell_of (by rw[bI (N8 _)];exact hb6) rfl;generalize grow W3 h5 h6=W6 at *;generalize h5.size=B9 at *;subst hz;refine aa λz hz=>?_;refine aa λy hy=>?_;have hl6:=hl.mono (S3 hW1 (S3 hW13 hW6));have bl:=hl.bound;simp[hl6.len];subst hy;refine aY [0,1,3,9,37,38,39] (fun(_:Unit) k=>[vl,vf,ptr F1,ptr B9,vl,Sb Sc l.length,Sb Sc k])
    (λ_ k hx=>∃Wx,W6.le Wx/\Mq W h Wx hx r1 (mapB (hasS (l.take k)))) l.length ()
    rfl R3 rfl ⟨W6,View.le_refl _,k6⟩ (λ_ _=>rfl) (λv i h1 hk m=>by simp) ?_ ?_
   ·rintro _ k hx hk ⟨Wx,lx,kx⟩ K2 hK2;obtain⟨ut,hut,rut⟩:=(hl6.mono lx).wh rfl (N:=2) rfl hk;refine aa λy hy=>?_;simp(disch:=omega)[((hl6.mono lx).mono kx.wle).idxn (N:=2) rfl,hut _ kx.wle];refine kx.dE (α:=fw) rut (n:=2) (z:=.agg #[Sb Sc 0,Sb Sc 0]) R1 rfl rfl R1 R5 R5 λB h7 W7 hW7 k7 at7 hle7=>?_;have q0:ao W7 ⟨B,0,Sf⟩=Se (Sb Sc (nth l k).pat):=by simpa using(at7.part fw.K6).int
    subst hy;simp[ae k7.wle q0,ae (S3 lx (S3 hW7 k7.wle)) x9];have hst : ∀p,hasS (l.take (k+1)) p=if p=(nth l k).pat then Sj else hasS (l.take k) p:=λp=>by
     unfold hasS;rw[OE hk,List.any_append,aB hk];by_cases e:p=l[k].pat
     ·simp[e]
     simp[e,Ne.symm e]
    obtain⟨g1,g2⟩:=GJ (f:=hasS (l.take k)) (g:=hasS (l.take (k+1))) (j:=(nth l k).pat) hst;refine lg (.inl rfl) (t:=T.jW) (k:=T.int) (e:=T.bool) (u:=Sb Sc (nth l k).pat) U.jW U.int rfl rfl rfl fN k7.m (mapB (hasS (l.take (k+1)))) g1 g2 λh8 hs8 ho8 hm8=>?_;exact hK2 () _ _ rfl rfl ⟨W7,S3 lx hW7,k7.upd ho8 hm8⟩
   rintro _ h7 ⟨W7,l7,k7⟩;rw[Pj]at k7;obtain⟨W8,l8,c8,hasM⟩:=k7.freeze;clear k4 k5 k6 k7 m3 hm5 ho5;have x9:=ae (S3 l7 l8) x9;have l18:W1.le W8:=S3 hW13 (S3 hW6 (S3 l7 l8));have at8:=at1.mono l18;simp;subst hz;refine aa λz hz=>?_;simp;refine nN ?_;have m9:ee (.int .i64) (h7.push (.map #[] 0)) h7.size (mapE twoV λ_=>Sf):=by rw[rM];exact ee.none Sa
   have q9:=bC h7 (.map #[] 0);have av9:W8 h7.size=none:=View.cS c8.wle (N8 _);have hs9:h.size<=h7.size:=cD c8.le0;generalize h7.push (.map #[] 0)=h9 at *;obtain⟨r2,hr2⟩ : ∃r,r=h7.size:=⟨_,rfl⟩;rw[<-hr2]at m9 av9 hs9 ⊢;have k9:Mq W h W8 h9 r2 (mapE twoV λ_=>Sf):=⟨⟨Owns.start (S3 c8.wle q9),c8.old,S3 c8.le0 q9,λ_ _ _ e=>by cases e⟩,av9,hs9,m9⟩;refine fT (n:=1) (z:=.map Sf) (v:=.map (Se r2)) R1 rfl R1 rfl R8 R5 R5 λh10 hle10 hs10 hb10=>?_;have k10:=k9.ext hle10;have hW10:=k9.up (h':=h10);have x12:ao (grow W8 h9 h10) ⟨h9.size,0,Sf⟩=Se (.map (Se r2)):=cell_of (by rw[bI (N8 _)];exact hb10) rfl;have l110:=S3 l18 hW10;have x9:=ae hW10 x9;have hasM:=fun(g2:Heap) (hg:(grow W8 h9 h10).le (vw g2))=>hasM g2 (S3 hW10 hg);generalize grow W8 h9 h10=W10 at *;generalize h9.size=B12 at *;have at10:=at1.mono l110
   clear k9 m9 c8 at8 hle10 hb10 q9;subst hz;refine aa λz hz=>?_;refine aa λy hy=>?_;obtain⟨-,vb,hb1,hb2⟩:=gP at10;have bdf:=hb2.bound;simp[ae k10.wle hb1,hb2.len];subst hy;obtain⟨uf',huf',ruf'⟩:=at10.ldN rfl (N:=2) rfl;have smlen:=hsm.len;refine aY [0,1,3,9,12,37,38,39,49,50,51] (fun(_:Unit) b=>[vl,vf,ptr F1,ptr B9,ptr B12,vl,Sb Sc l.length,Sb Sc l.length,vb,Sb Sc f.blocks.length,Sb Sc b])
    (λ_ b hx=>∃Wx,W10.le Wx/\Mq W h Wx hx r2 (mapE twoV (whTo f b))) f.blocks.length ()
    rfl R3 rfl ⟨W10,View.le_refl _,k10⟩ (λ_ _=>rfl) (λv i h1 hk m=>by simp) ?_ ?_
   ·rintro _ b hx hb ⟨Wx,lx,kx⟩ K2 hK2;obtain⟨ub,hub,rub⟩:=(hb2.mono lx).wh rfl (N:=6) rfl hb;have sb:=hsm.blk b hb;refine aa λy hy=>?_;simp(disch:=omega)[((hb2.mono lx).mono kx.wle).idxn (N:=6) rfl,hub _ kx.wle];refine kx.dE (α:=BlkD) rub (n:=6) (z:=.agg #[Sg Sf 0 0,Sg Sf 0 0,Sb Sc 0,Sg Sf 0 0,Sg Sf 0 0,Sb Sd 0]) R1 rfl rfl R1 R5 R5 λB2 h11 W11 hW11 k11 at11 hle11=>?_;subst hy;refine aa λy hy=>?_;obtain⟨vp,vi,va,vt,-,si,-⟩:=jr at11;have bi:=si.2.bound;simp[ae k11.wle si.1,si.2.len];subst hy;refine aY [0,1,3,9,12,13,14,37,38,39,49,50,51,57,58,59] (fun(_:Unit) k=>[vl,vf,ptr F1,ptr B9,ptr B12,Sb Sc b,ptr B2,vl,Sb Sc l.length,Sb Sc l.length,vb,Sb Sc f.blocks.length,Sb Sc b,vi,Sb Sc (nth f.blocks b).ins.length,Sb Sc k])
     (λ_ k hy=>∃Wy,W11.le Wy/\Mq W h Wy hy r2 (mapE twoV (Lft.up (me f b) k (whTo f b)))) (nth f.blocks b).ins.length ()
     rfl R3 rfl ⟨W11,View.le_refl _,k11⟩ (λ_ _=>rfl) (λv i h1 hk m=>by simp) ?_ ?_
    ·rintro _ k h12 hk ⟨Wy,ly,ky⟩ K3 hK3;have hst:Lft.up (me f b) (k+1) (whTo f b)=if(!decide ((nth (nth f.blocks b).ins k).op=16)&&!decide ((nth (nth f.blocks b).ins k).op=18))&&dP f (nth (nth f.blocks b).ins k).dst then putM (Lft.up (me f b) k (whTo f b)) (nth (nth f.blocks b).ins k).dst ((b:Int),(k:Int)) else Lft.up (me f b) k (whTo f b):=rfl;obtain⟨ui,hui,rui⟩:=(si.2.mono ly).wh rfl (N:=5) rfl hk;refine aa λy hy=>?_;simp(disch:=omega)[((si.2.mono ly).mono ky.wle).idxn (N:=5) rfl,hui _ ky.wle];refine ky.dE (α:=InsD) rui (n:=5) (z:=.agg #[Sb Sc 0,Sb Sc 0,Sb Sc 0,Sg Sf 0 0,Sb Sd 0]) R1 rfl rfl R1 R5 R5 λB4 h13 W13 hW13 k13 at13 hle13=>?_;obtain⟨q0,q1,-⟩:=fO at13;have r1:=(at13.part InsD.iq).rng;have l1013:W10.le W13:=S3 lx (S3 hW11 (S3 ly hW13));generalize Lft.up (me f b) k (whTo f b)=g at *;generalize nth (nth f.blocks b).ins k=ii at *;have q0:=ae k13.wle q0;have q1':=q1;have q1:=ae k13.wle q1;subst hy;refine aa λy hy=>?_;have skip : ∀(h14:Heap) (W14:View),W13.le W14->Mq W h W14 h14 r2 (mapE twoV g)->Lft.up (me f b) (k+1) (whTo f b)=g->∃Wy,W11.le Wy/\Mq W h Wy h14 r2 (mapE twoV (Lft.up (me f b) (k+1) (whTo f b))):=λh14 W14 l14 k14 e=>⟨W14,S3 ly (S3 hW13 l14),by rw[e];exact k14⟩;by_cases o16:ii.op=16
     ·rw[if_neg (by simp[o16])]at hst;simp[q0,o16];subst hy;simp;exact hK3 () _ _ rfl rfl (skip _ _ S2 k13 hst)
     by_cases o18:ii.op=18
     ·rw[if_neg (by simp[o18])]at hst;simp[q0,o18];subst hy;simp;exact hK3 () _ _ rfl rfl (skip _ _ S2 k13 hst)
     simp[q0,o16,o18,q1,huf' _ (S3 l1013 k13.wle)];refine aj R1 (wR (ruf'.mono (S3 l1013 k13.wle)) hsm r1) ?_;rintro _ h14 ⟨rfl,hle14⟩;have k14:=k13.ext hle14;have hW14:=k13.up (h':=h14);cases hfo:dP f ii.dst with
     | false=>rw[if_neg (by simp[hfo])]at hst;subst hy;simp;exact hK3 () _ _ rfl rfl (skip _ _ hW14 k14 hst)
     | true=>rw[if_pos (by simp[o16,o18,hfo])]at hst;subst hy;simp[ae (S3 l1013 (S3 hW14 k14.wle)) x12,ae (S3 hW14 k14.wle) q1'];refine an (z:=.agg #[Sb Sc 0,Sb Sc 0]) (places:=[(0,1),(1,1)]) (vs:=[(0,Sb Sc b),(1,Sb Sc k)]) (cs:=#[Sb Sc b,Sb Sc k]) R1 R1 Sa R1 ?_;refine lg (.inl rfl) (t:=T.ib) (k:=T.int) (e:=T.nu) (u:=Sb Sc ii.dst) (v:=twoV ((b:Int),(k:Int))) U.ib U.int rfl rfl rfl fN k14.m (mapE twoV (putM g ii.dst ((b:Int),(k:Int)))) jG.1 jG.2 λh15 hs15 ho15 hm15=>?_;exact hK3 () _ _ rfl rfl ⟨_,S3 ly (S3 hW13 hW14),by rw[hst];exact k14.upd ho15 hm15⟩
    rintro _ h12 ⟨Wy,ly,ky⟩;exact hK2 () _ _ rfl rfl ⟨Wy,S3 lx (S3 hW11 ly),by rw[zQ];exact ky⟩
   rintro _ h11 ⟨W11,l11,k11⟩;obtain⟨W12,l12,c12,whM⟩:=k11.freeze;have whM : ∀g2:Heap,W12.le (vw g2)->ee (.int .i64) g2 r2 (mapE twoV (whS f)):=whM;have x9:=ae (S3 l11 l12) x9;have x12:=ae (S3 l11 l12) x12;have l1012:=S3 l11 l12;clear k10 k11;simp;subst hz;refine aa λz hz=>?_;simp;refine db (z:=.nilFunc) R1 ?_;have q13:=bC h11 (.cells (Value.nilFunc).cells T.fY);have b13:(h11.push (.cells (Value.nilFunc).cells T.fY))[h11.size]? = Se (.cells (Value.nilFunc).cells T.fY (0,0)):=by simp
   generalize h11.push (.cells (Value.nilFunc).cells T.fY)=h13 at *;subst hz;refine aa λz hz=>?_;simp;refine eR (g:=h11.size) (o:=0) (n:=1) (v:=.func (.func 43) #[] #[ptr F1,ptr B9,ptr B12,ptr h11.size]) (cur:=(Value.nilFunc).cells) (e:=T.fY) R1 rfl rfl rfl R8 b13 (by simp[Value.cells]) λh14 hs14 ⟨row,hr14,he14⟩ ho14=>?_;have hrow:row=(Value.func (.func 43) #[] #[ptr F1,ptr B9,ptr B12,ptr h11.size]).cells:=by rw[<-Array.toList_inj,he14];simp[Value.cells]
   rw[hrow]at hr14;have le14:(vw h11).le (vw h14):=λb o hb=>by have hlt:=View.lt (View.le_refl (vw h11)) hb;show h14[b]? = _;rw[ho14 b R3];exact q13 b o hb
   have c14:=c12.ext le14;have hW14:=c12.up (h':=h14);have x17:ao (grow W12 h11 h14) ⟨h11.size,0,Sf⟩=Se (.func (.func 43) #[] #[ptr F1,ptr B9,ptr B12,ptr h11.size]):=cell_of (by rw[bI (N8 _)];exact hr14) rfl;have l1014:=S3 l1012 hW14;have cv:Cv (grow W12 h11 h14) F1 B9 B12 h11.size r1 r2 f (hasS l) (whS f):=⟨at10.mono l1014,λp hp=>JZ e1 hp,ae hW14 x9,λg2 hg=>hasM g2 (S3 l1014 hg),ae hW14 x12,λv w hw=>L7 hsm hw,λg2 hg=>whM g2 (S3 hW14 hg),x17⟩;have hb1:=ae l1014 hb1;have hb2:=hb2.mono l1014;generalize grow W12 h11 h14=W14 at *;generalize h11.size=C at *;clear hr14 ho14 he14 b13 q13 le14 x9 x12 x17 hasM whM;subst hz;refine aa λz hz=>?_;refine aa λy hy=>?_;simp[ae c14.wle hb1,hb2.len];subst hy;refine aY [0,1,3,9,12,17,37,38,39,49,50,51,88,89,90] (fun(_:Unit) b=>[vl,vf,ptr F1,ptr B9,ptr B12,ptr C,vl,Sb Sc l.length,Sb Sc l.length,vb,Sb Sc f.blocks.length,Sb Sc f.blocks.length,vb,Sb Sc f.blocks.length,Sb Sc b])
    (λ_ b hx=>∃Wx,W14.le Wx/\Cx W h Wx hx (λ_=>Sf)/\((List.range b).findSome? λb=>(ye f (hasS l) b).map λi=>(b,i))=Sf) f.blocks.length ()
    rfl R3 rfl ⟨W14,View.le_refl _,c14,rfl⟩ (λ_ _=>rfl) (λv i h1 hk m=>by simp) ?_ ?_
   ·rintro _ b hx hb ⟨Wx,lx,cx,hno⟩ K2 hK2;obtain⟨ub,hub,rub⟩:=(hb2.mono lx).wh rfl (N:=6) rfl hb;have sb:=hsm.blk b hb;have sbi:=sb.ins;simp only[aW];refine aa λy hy=>?_;simp(disch:=omega)[((hb2.mono lx).mono cx.wle).idxn (N:=6) rfl,hub _ cx.wle];refine cx.dE (α:=BlkD) rub (n:=6) (z:=.agg #[Sg Sf 0 0,Sg Sf 0 0,Sb Sc 0,Sg Sf 0 0,Sg Sf 0 0,Sb Sd 0]) R1 rfl rfl R1 R5 R5 λB2 h15 W15 hW15 c15 at15 hle15=>?_;subst hy;refine aa λy hy=>?_;obtain⟨vp,vi,va,vt,-,si,-⟩:=jr at15;have bi:=si.2.bound;simp(disch:=omega)[ae c15.wle si.1,si.2.len];subst hy;have eN:((nth f.blocks b).ins.length:Int)+1=(((nth f.blocks b).ins.length+1:Nat):Int):=by omega
    rw[eN];have l1415:=S3 lx hW15;refine aY [0,1,3,9,12,17,18,19,37,38,39,49,50,51,88,89,90,98,99] (fun(_:Unit) i=>[vl,vf,ptr F1,ptr B9,ptr B12,ptr C,Sb Sc b,ptr B2,vl,Sb Sc l.length,Sb Sc l.length,vb,Sb Sc f.blocks.length,Sb Sc f.blocks.length,vb,Sb Sc f.blocks.length,Sb Sc b,Sb Sc (((nth f.blocks b).ins.length+1:Nat):Int),Sb Sc i])
     (λ_ i hx=>∃Wx,W15.le Wx/\Cx W h Wx hx (λ_=>Sf)/\(List.range i).find? (wK f (hasS l) b)=Sf) ((nth f.blocks b).ins.length+1) ()
     rfl R3 rfl ⟨W15,View.le_refl _,c15,rfl⟩ (λ_ _=>rfl) (λv i h1 hk m=>by simp) ?_ ?_
    ·rintro _ i h16 hi ⟨W16,l16,c16,hno2⟩ K3 hK3;have si16:=si.2.mono l16;have x0:=ae (S3 l16 c16.wle) si.1;have cv16:=cv.mono (S3 l1415 l16);simp only[aW];refine aa λy hy=>?_;simp;subst hy;refine aa λy hy=>?_;simp;subst hy;refine aa λy hy=>?_;refine fl (λρ h17=>∃W17,W16.le W17/\Cx W h W17 h17 (λ_=>Sf)/\Looks ρ [(0,vl),(1,vf),(3,ptr F1),(9,ptr B9),(12,ptr B12),(17,ptr C),(18,Sb Sc b),(19,ptr B2),(20,Sb Sc i),(21,.bool (qg f (whS f) b i)),(37,vl),(38,Sb Sc l.length),(39,Sb Sc l.length),(49,vb),(50,Sb Sc f.blocks.length),(51,Sb Sc f.blocks.length),(88,vb),(89,Sb Sc f.blocks.length),(90,Sb Sc b),(98,Sb Sc (((nth f.blocks b).ins.length+1:Nat):Int)),(99,Sb Sc i)]) ?_ ?_
     ·intro K4 hK4;refine aa λx hx=>?_;by_cases ci:i<(nth f.blocks b).ins.length
      ·have hii:((i:Int)<((nth f.blocks b).ins.length:Int)):=by omega
       have ax:=(si16.at ci);rw[<-aB ci]at ax;have q0:=ae c16.wle (ax.part InsD.sU).int;have q1:=(ax.part InsD.iq).int;have hx5:=si16.idxn (k:=.i64) (N:=5) rfl (i:=(i:Int)) R3 R3;generalize hii2:nth (nth f.blocks b).ins i=ii at *;have q0:ao (vw h16) (((slA vi).add (i*5)).add 0)=Se (Sb Sc ii.op):=q0;have q1:ao W16 (((slA vi).add (i*5)).add 1)=Se (Sb Sc ii.dst):=q1;have hx5:Bn.ev (.idx 5) vi (Sb Sc (i:Int))=Se (Si (Se ((slA vi).add (i*5)))):=by simpa using hx5
       by_cases o16:ii.op=16
       ·have hn:qg f (whS f) b i=true:=by unfold qg;rw[hii2];simp[o16]
        simp[x0,si16.len,hii,hx5,q0,o16];subst hx;simp;exact hK4 _ _ ⟨W16,View.le_refl _,c16,by rw[hn];simp[Looks]⟩
       have hn:qg f (whS f) b i=!decide (whS f ii.dst=Se ((b:Int),(i:Int))):=by unfold qg;rw[hii2];simp[o16,ci]
       simp[x0,si16.len,hii,hx5,q0,o16];subst hx;refine aD Sa ?_;refine aa λx hx=>?_;have wr:Rd W16 (((whS f ii.dst).map twoV).getD (.agg #[Sb Sc 0,Sb Sc 0])) ((whS f ii.dst).getD (0,0)):=by
        cases hv:whS f ii.dst with
        | none=>exact rC.2 ⟨rfl,by decide,by decide⟩
        | some w=>exact rC.2 ⟨rfl,(cv16.whR ii.dst w hv).1,(cv16.whR ii.dst w hv).2⟩
       have hww:((whS f ii.dst).map twoV).getD (.agg #[Sb Sc 0,Sb Sc 0])=twoV ((whS f ii.dst).getD (0,0)):=by cases whS f ii.dst<;>rfl
       refine fl (λρ h17=>∃B22,Cx W h W16 h17 (λ_=>Sf)/\Un.ev (vw h17) (.aT 2) (ptr B22)=Se (twoV ((whS f ii.dst).getD (0,0)))/\Looks ρ [(0,vl),(1,vf),(3,ptr F1),(9,ptr B9),(12,ptr B12),(17,ptr C),(18,Sb Sc b),(19,ptr B2),(20,Sb Sc i),(21,.bool Sj),(22,ptr B22),(23,.bool (whS f ii.dst).isSome),(37,vl),(38,Sb Sc l.length),(39,Sb Sc l.length),(49,vb),(50,Sb Sc f.blocks.length),(51,Sb Sc f.blocks.length),(88,vb),(89,Sb Sc f.blocks.length),(90,Sb Sc b),(98,Sb Sc (((nth f.blocks b).ins.length+1:Nat):Int)),(99,Sb Sc i)]) ?_ ?_
       ·intro K5 hK5;refine aI W16 c16.wle ?_;have q1:=q1;refine dT ?_ ?_
        ·simp[cv16.whC,si.1,si.1,ae l16 si.1,hx5,q1];refine oy (f:=mapE twoV (whS f)) (z:=.agg #[Sb Sc 0,Sb Sc 0]) (k:=T.int) (e:=T.nu) (d:=.int .i64) (r:=r2) (u:=Sb Sc ii.dst) U.ib U.int R1 rfl rfl fN (cv16.whM h16 c16.wle) ?_;simp;refine c16.bW (k:=(0,0)) (n:=1) (z:=.agg #[Sb Sc 0,Sb Sc 0]) rfl R1 rfl R4 R8 λB22 h17 hle17 c17=>?_;refine c17.aK (k:=(0,0)) (n:=1) Own.ah wr rfl rfl R1 rfl rfl λh18 l18 hl18 c18=>?_;have hall:=c18.all (k:=(0,0)) (n:=1) (l:=l18) (B:=B22) (e:=T.nu) Own.ah;refine hK5 _ _ ⟨B22,⟨c18.own.sub λk i e=>by(cases e),c18.old,c18.le0,λ_ _ _ e=>by cases e⟩,?_,by simp[Looks]⟩;rw[<-hww,hl18];exact hall
        simp[cv16.whC,si.1,ae l16 si.1,hx5,q1];refine c16.bW (k:=(0,0)) (n:=1) (z:=.agg #[Sb Sc 0,Sb Sc 0]) rfl R1 rfl R4 R8 λB22 h17 hle17 c17=>?_;refine⟨c17.wle,?_⟩;refine oy (f:=mapE twoV (whS f)) (z:=.agg #[Sb Sc 0,Sb Sc 0]) (k:=T.int) (e:=T.nu) (d:=.int .i64) (r:=r2) (u:=Sb Sc ii.dst) U.ib U.int R1 rfl rfl fN (cv16.whM h17 c17.wle) ?_;simp;refine c17.aK (k:=(0,0)) (n:=1) Own.ah wr rfl rfl R1 rfl rfl λh18 l18 hl18 c18=>?_;have hall:=c18.all (k:=(0,0)) (n:=1) (l:=l18) (B:=B22) (e:=T.nu) Own.ah;refine hK5 _ _ ⟨B22,⟨c18.own.sub λk i e=>by(cases e),c18.old,c18.le0,λ_ _ _ e=>by cases e⟩,?_,by simp[Looks]⟩;rw[<-hww,hl18];exact hall
       rintro ρ h17 ⟨B22,c17,x22,L⟩;have L0:=L (0,vl) Sa;have L1:=L (1,vf) Sa;have L3:=L (3,ptr F1) Sa;have L9:=L (9,ptr B9) Sa;have L12:=L (12,ptr B12) Sa;have L17:=L (17,ptr C) Sa;have L18:=L (18,Sb Sc b) Sa;have L19:=L (19,ptr B2) Sa;have L20:=L (20,Sb Sc i) Sa;have L21:=L (21,.bool Sj) Sa;have L22:=L (22,ptr B22) Sa;have L23:=L (23,.bool (whS f ii.dst).isSome) Sa;have L37:=L (37,vl) Sa;have L38:=L (38,Sb Sc l.length) Sa;have L39:=L (39,Sb Sc l.length) Sa;have L49:=L (49,vb) Sa;have L50:=L (50,Sb Sc f.blocks.length) Sa;have L51:=L (51,Sb Sc f.blocks.length) Sa;have L88:=L (88,vb) Sa;have L89:=L (89,Sb Sc f.blocks.length) Sa;have L90:=L (90,Sb Sc b) Sa;have L98:=L (98,Sb Sc (((nth f.blocks b).ins.length+1:Nat):Int)) Sa;have L99:=L (99,Sb Sc i) Sa;simp only at L0 L1 L3 L9 L12 L17 L18 L19 L20 L21 L22 L23 L37 L38 L39 L49 L50 L51 L88 L89 L90 L98 L99;subst hx;refine aa λx hx=>?_;cases hv:whS f ii.dst with
       | none=>
        have hn:qg f (whS f) b i=true:=by rw[hn,hv];rfl
        rw[hv]at L23;simp[af,ag,L0,L1,L3,L9,L12,L17,L18,L19,L20,L21,L22,L23,L37,L38,L39,L49,L50,L51,L88,L89,L90,L98,L99];subst hx;simp[af,ag,L0,L1,L3,L9,L12,L17,L18,L19,L20,L21,L22,L23,L37,L38,L39,L49,L50,L51,L88,L89,L90,L98,L99];exact hK4 _ _ ⟨W16,View.le_refl _,c17,by rw[hn];simp[Looks,af,ag,L0,L1,L3,L9,L12,L17,L18,L19,L20,L21,L22,L23,L37,L38,L39,L49,L50,L51,L88,L89,L90,L98,L99]⟩
       | some w=>
        have hn:qg f (whS f) b i=!(w.1 == (b:Int)&&w.2 == (i:Int)):=by rw[hn,hv];obtain⟨w1,w2⟩:=w;rw[O3];simp
        rw[hv]at L23 x22;have x22:Un.ev (vw h17) (.aT 2) (ptr B22)=Se (.agg #[Sb Sc w.1,Sb Sc w.2]):=x22;simp[af,ag,L0,L1,L3,L9,L12,L17,L18,L19,L20,L21,L22,L23,L37,L38,L39,L49,L50,L51,L88,L89,L90,L98,L99,x22];refine an (z:=.agg #[Sb Sc 0,Sb Sc 0]) (places:=[(0,1),(1,1)]) (vs:=[(0,Sb Sc b),(1,Sb Sc i)]) (cs:=#[Sb Sc b,Sb Sc i]) R1 R1 Sa R1 ?_;refine C7 (t:=T.nu) (e:=T.int) (a:=w.1) (b:=w.2) (c:=(b:Int)) (d:=(i:Int)) (ki:=.i64) U.nu U.int R1 R1 R1 rfl rfl ?_;subst hx;cases he:(w.1 == (b:Int)&&w.2 == (i:Int))with
        | false=>rw[he]at hn;simp[af,ag,L0,L1,L3,L9,L12,L17,L18,L19,L20,L21,L22,L23,L37,L38,L39,L49,L50,L51,L88,L89,L90,L98,L99];exact hK4 _ _ ⟨W16,View.le_refl _,c17,by rw[hn];simp[Looks,af,ag,L0,L1,L3,L9,L12,L17,L18,L19,L20,L21,L22,L23,L37,L38,L39,L49,L50,L51,L88,L89,L90,L98,L99]⟩
        | true=>rw[he]at hn;simp[af,ag,L0,L1,L3,L9,L12,L17,L18,L19,L20,L21,L22,L23,L37,L38,L39,L49,L50,L51,L88,L89,L90,L98,L99];exact hK4 _ _ ⟨W16,View.le_refl _,c17,by rw[hn];simp[Looks,af,ag,L0,L1,L3,L9,L12,L17,L18,L19,L20,L21,L22,L23,L37,L38,L39,L49,L50,L51,L88,L89,L90,L98,L99]⟩
      have hn:qg f (whS f) b i=true:=by unfold qg;simp[ci]
      have hii:¬((i:Int)<((nth f.blocks b).ins.length:Int)):=by omega
      simp[x0,si16.len,hii];subst hx;simp;exact hK4 _ _ ⟨W16,View.le_refl _,c16,by rw[hn];simp[Looks]⟩
     rintro ρ h17 ⟨W17,l17,c17,L⟩;have L0:=L (0,vl) Sa;have L1:=L (1,vf) Sa;have L3:=L (3,ptr F1) Sa;have L9:=L (9,ptr B9) Sa;have L12:=L (12,ptr B12) Sa;have L17:=L (17,ptr C) Sa;have L18:=L (18,Sb Sc b) Sa;have L19:=L (19,ptr B2) Sa;have L20:=L (20,Sb Sc i) Sa;have L21:=L (21,.bool (qg f (whS f) b i)) Sa;have L37:=L (37,vl) Sa;have L38:=L (38,Sb Sc l.length) Sa;have L39:=L (39,Sb Sc l.length) Sa;have L49:=L (49,vb) Sa;have L50:=L (50,Sb Sc f.blocks.length) Sa;have L51:=L (51,Sb Sc f.blocks.length) Sa;have L88:=L (88,vb) Sa;have L89:=L (89,Sb Sc f.blocks.length) Sa;have L90:=L (90,Sb Sc b) Sa;have L98:=L (98,Sb Sc (((nth f.blocks b).ins.length+1:Nat):Int)) Sa;have L99:=L (99,Sb Sc i) Sa;simp only at L0 L1 L3 L9 L12 L17 L18 L19 L20 L21 L37 L38 L39 L49 L50 L51 L88 L89 L90 L98 L99;have cv17:=cv16.mono l17;have hplc:dG f b i=true:=by simp[dG];omega
     have hstep : ∀X,wK f (hasS l) b i=X->X=Sk->(List.range (i+1)).find? (wK f (hasS l) b)=none:=λX hX hf=>by rw[QJ,Qy,hno2,Qr,Rr,hX,hf];rfl
     subst hy;refine aa λy hy=>?_;cases hn:qg f (whS f) b i with
     | false=>rw[hn]at L21;simp[af,ag,L0,L1,L3,L9,L12,L17,L18,L19,L20,L21,L37,L38,L39,L49,L50,L51,L88,L89,L90,L98,L99];subst hy;simp[af,ag,L0,L1,L3,L9,L12,L17,L18,L19,L20,L21,L37,L38,L39,L49,L50,L51,L88,L89,L90,L98,L99];refine hK3 () _ _ (by simp[af,ag,L0,L1,L3,L9,L12,L17,L18,L19,L20,L21,L37,L38,L39,L49,L50,L51,L88,L89,L90,L98,L99]) (by simp[bD,af,ag,L0,L1,L3,L9,L12,L17,L18,L19,L20,L21,L37,L38,L39,L49,L50,L51,L88,L89,L90,L98,L99]) ⟨W17,S3 l16 l17,c17,hstep _ rfl (by unfold wK;rw[hn];rfl)⟩
     | true=>
      rw[hn]at L21;simp[af,ag,L0,L1,L3,L9,L12,L17,L18,L19,L20,L21,L37,L38,L39,L49,L50,L51,L88,L89,L90,L98,L99,ae c17.wle cv17.can];refine cg (ops:=[.tmp 138,.tmp 139]) (caps:=#[ptr F1,ptr B9,ptr B12,ptr C]) rfl R1 (Hy m hsm hM hd (i+1) (b:=(b:Int)) (i:=(i:Int)) cv17 c17.wle hplc R3) ?_;rintro _ h18 ⟨hle18,rfl⟩;have c18:=c17.ext hle18;have hW18:=c17.up (h':=h18);simp[af,ag,L0,L1,L3,L9,L12,L17,L18,L19,L20,L21,L37,L38,L39,L49,L50,L51,L88,L89,L90,L98,L99];subst hy;cases hcn:canS f (hasS l) (whS f) (i+1) b i with
      | true=>simp[af,ag,L0,L1,L3,L9,L12,L17,L18,L19,L20,L21,L37,L38,L39,L49,L50,L51,L88,L89,L90,L98,L99];refine hK3 () _ _ (by simp[af,ag,L0,L1,L3,L9,L12,L17,L18,L19,L20,L21,L37,L38,L39,L49,L50,L51,L88,L89,L90,L98,L99]) (by simp[bD,af,ag,L0,L1,L3,L9,L12,L17,L18,L19,L20,L21,L37,L38,L39,L49,L50,L51,L88,L89,L90,L98,L99]) ⟨_,S3 l16 (S3 l17 hW18),c18,hstep _ rfl (by unfold wK;rw[hn,hcn];rfl)⟩
      | false=>
       have hbad:wK f (hasS l) b i=true:=by unfold wK;rw[hn,hcn];rfl
       have hrow:ye f (hasS l) b=Se i:=by unfold ye;exact find_range hi hno2 hbad
       have hfirst:qI f (hasS l)=Se (b,i):=by unfold qI;exact xJ hb hno (by rw[hrow];rfl)
       rw[hfirst]at hK;simp[af,ag,L0,L1,L3,L9,L12,L17,L18,L19,L20,L21,L37,L38,L39,L49,L50,L51,L88,L89,L90,L98,L99];exact hK _ _ ⟨c18.le0,rfl⟩
    rintro _ h16 ⟨W16,l16,c16,hno2⟩;refine hK2 () _ _ rfl rfl ⟨W16,S3 l1415 l16,c16,?_⟩;rw[QJ,QK,hno,Qr];simp[ye,hno2]
   rintro _ hx ⟨Wx,lx,cx,hno⟩;have e:qI f (hasS l)=none:=hno;rw[e]at hK;simp;subst hz;simp;exact hK _ _ ⟨cx.le0,rfl⟩
 have e:jP l f=((kF l).1,0,0):=by unfold jP;rw[if_pos e1]
 simp[e1];exact hK _ _ ⟨c2.le0,by rw[e]⟩
end Go.Proofs.YtnfiilgdjpdlkaaGreatDoor
namespace Go.Proofs.YtnfiilgdjpdlkaaGreatDoor
open Go Go.Lft
theorem Dd{val:Int}{x:Int × Int}{l:List Th}: ∀{y:WL},x∈l.foldl (pn val) y↔x∈y\/∃t∈l,x=(t.blk,t.place)/\val∈t.tks:=by
 induction l with
 | nil=>simp
 | cons t l ih=>
  intro y;rw[OW,ih,pn,rZ];simp only[OO,exists_eq_or_imp];constructor
  ·rintro((h | h) | h)
   ·exact .inl h
   ·exact .inr (.inl h)
   exact .inr (.inr h)
  rintro(h | h | h)
  ·exact .inl (.inl h)
  ·exact .inl (.inr h)
  exact .inr h
theorem sD{f:aq}{v:Int}(h:dP f v=Sj){t t':Th}(ht:t∈aE f)(ht':t'∈aE f)(hm:v∈t.mks)(hk:v∈t'.tks):t.blk=t'.blk/\t.place<t'.place:=by
 unfold dP jk at h;simp only[OA]at h;have hb:=h.1;unfold mB at hb;simp at hb;obtain⟨⟨⟨⟨b1,b2⟩,b3⟩,b4⟩,b5⟩:=hb;have m1:(t.blk,t.place)∈oA v (aE f):=mK.2 (.inr ⟨t,ht,rfl,hm⟩);have m2:(t'.blk,t'.place)∈oE v (aE f):=Dd.2 (.inr ⟨t',ht',rfl,hk⟩);have one : ∀{l:WL} {x:Int × Int},l.length=1->x∈l->nth l 0=x:=by
  intro l x hl hx;match l,hl with
  | [y],_=>simp at hx;rw[hx];rfl
 have e1:=one R3 m1;have e2:=one R3 m2;rw[e1,e2]at b4;rw[e1,e2]at b5;exact⟨b4,by simpa using b5⟩
theorem mX{f:aq}{b k:Nat}(hb:b<f.blocks.length)(hk:k<(nth f.blocks b).ins.length):insT f b k∈aE f:=gR.2 ⟨b,hb,ji.2 (.inr (.inl ⟨k,hk,rfl⟩))⟩
theorem Gm{f:aq}{b:Nat}(hb:b<f.blocks.length):endT f b∈aE f:=gR.2 ⟨b,hb,ji.2 (.inr (.inr rfl))⟩
def ownArgs (s:cy):List Int:=if s.term then s.t.args else s.i.args
def xu (f:aq) (args:List Int) (v:Int):Prop:=∃v2 op,v2∈args/\(aG f v2 op).2=Sj/\v∈(aG f v2 op).1.args
theorem uv{l:List Int}{v:Int}(h:v∈l.drop 1):v∈l:=List.mem_of_mem_drop h
theorem tG{f:aq}{i:InsD}{m lo hi sg:Int}{x:FitD}(hl:1<=i.args.length)(h:immS f i m lo hi sg=Se x){v:Int}(hv:v∈x.takes):v∈i.args:=by
 unfold immS at h;split at h
 ·cases h;simp at hv;subst hv;exact bw R3
 cases h
theorem C0{f:aq}{i:InsD}{temp op pl su:Int}{k:Nat}{x:FitD}(hall : ∀i∈dV f,qB i)(hl:1<=i.args.length)(h:memS f i temp op pl su k=Se x){v:Int}(hv:v∈x.takes):v∈i.args\/xu f i.args v:=by
 have h0:nth i.args 0∈i.args:=bw R3;have hin : ∀{j},(aG f (nth i.args 0) 2).2=Sj->j<2->xu f i.args (nth (aG f (nth i.args 0) 2).1.args j):=fun{j} hb hj=>by obtain⟨m1,m2,-⟩:=gK hb;have:=(hall _ m1).two R3;exact⟨_,2,h0,hb,bw R3⟩
 match k with
 | 0=>
  simp only[memS]at h;split at h
  ·cases h;rcases OO.1 hv with rfl | hv
   ·exact .inl h0
   exact .inl (uv hv)
  cases h
 | 1=>
  simp only[memS]at h;split at h
  ·rename_i c;split at h
   ·cases h;rcases OO.1 hv with rfl | hv
    ·exact .inr (hin c R4)
    exact .inl (uv hv)
   cases h
  cases h
 | 2=>
  simp only[memS]at h;split at h
  ·rename_i c;simp only[OA]at c;cases h;rcases OO.1 hv with rfl | hv
   ·exact .inr (hin c.1 R4)
   rcases OO.1 hv with rfl | hv
   ·exact .inr (hin c.1 R4)
   exact .inl (uv hv)
  cases h
 | k+3=>
  simp only[memS]at h;cases h;rcases OO.1 hv with rfl | hv
  ·exact .inl h0
  exact .inl (uv hv)
theorem D2{s:cy}{pat:Int}{x:FitD}(hok:nL s)(ht:uK s.t)(h:tryS s pat=Se x){v:Int}(hv:v∈x.takes):v∈ownArgs s\/xu s.f (ownArgs s) v:=by
 unfold tryS at h;unfold ownArgs;cases htm:s.term with
 | true=>
  rw[htm,if_pos rfl]at h;rw[if_pos rfl];unfold eA at h;split at h
  ·cases h;cases hv
  split at h
  ·cases h;exact .inl hv
  split at h
  ·cases h;cases hv
  split at h
  ·cases h;exact .inl hv
  split at h
  ·rename_i c;split at h
   ·rename_i c2;cases h;exact .inr ⟨_,_,bw (ht.one (.inl c.2)),c2,hv⟩
   cases h
  split at h
  ·cases h;exact .inl hv
  cases h
 | false=>
  rw[htm,if_neg Sa]at h;rw[if_neg Sa];unfold patS at h;split at h
  ·rename_i c;obtain⟨c1,c2,c3⟩:=c;have hp1:1<=pat.toNat/\pat.toNat<=32:=by omega
   generalize pat.toNat=p at *;have len:16<=p->p<=30->1<=s.i.args.length:=by
    intro h2 h30;have hopr:(2<=s.i.op/\s.i.op<=14)\/s.i.op=16\/s.i.op=15:=by
     rw[c3];unfold opOf;repeat' split
     all_goals omega
    rcases hopr with q | q | q
    ·have:=hok.one.two (.inl q);omega
    ·have:=hok.one.two (.inr (.inl q));omega
    exact hok.one.one q
   unfold doS at h;by_cases p1:p=1
   ·rw[if_pos p1]at h;by_cases q:inR s.i.imm.v (-32768) 32767=Sj
    ·rw[if_pos q]at h;cases h;cases hv
    rw[if_neg q]at h;cases h
   rw[if_neg p1]at h;by_cases p2:p=2
   ·rw[if_pos p2]at h;cases h;cases hv
   rw[if_neg p2]at h;by_cases p15:p<=15
   ·rw[if_pos p15]at h;cases h;exact .inl hv
   rw[if_neg p15]at h;by_cases p16:p=16
   ·rw[if_pos p16]at h;exact .inl (tG (len R3 R3) h hv)
   rw[if_neg p16]at h;by_cases p17:p=17
   ·rw[if_pos p17]at h;exact .inl (tG (len R3 R3) h hv)
   rw[if_neg p17]at h;by_cases p18:p=18
   ·rw[if_pos p18]at h;exact .inl (tG (len R3 R3) h hv)
   rw[if_neg p18]at h;by_cases p21:p<=21
   ·rw[if_pos p21]at h;exact .inl (tG (len R3 R3) h hv)
   rw[if_neg p21]at h;by_cases p22:p=22
   ·rw[if_pos p22]at h;by_cases q:(aG s.f (nth s.i.args 0) 4).2=Sj
    ·rw[if_pos q]at h;have l1:=len R3 R3;have l2:=hok.one.two (by rw[c3,p22];exact .inl R4);obtain⟨m1,m2,-⟩:=gK q;have l3:=(hok.all _ m1).two R3;cases h;rcases OO.1 hv with rfl | hv
     ·exact .inr ⟨_,_,bw R3,q,bw R3⟩
     rcases OO.1 hv with rfl | hv
     ·exact .inr ⟨_,_,bw R3,q,bw R3⟩
     rcases OO.1 hv with rfl | hv
     ·exact .inl (bw R3)
     cases hv
    rw[if_neg q]at h;cases h
   rw[if_neg p22]at h;by_cases p26:p<=26
   ·rw[if_pos p26]at h;exact C0 hok.all (len R3 R3) h hv
   rw[if_neg p26]at h;by_cases p30:p<=30
   ·rw[if_pos p30]at h;exact C0 hok.all (len R3 R3) h hv
   rw[if_neg p30]at h;by_cases p31:p=31
   ·rw[if_pos p31]at h;cases h;exact .inl hv
   rw[if_neg p31]at h;cases h;exact .inl hv
  cases h
theorem JC{f:aq}(m:nY f)(hsm:SmF f)(hr : ∀i∈dV f,-2147483648<=i.imm.v/\i.imm.v<=2147483647):Down f (whS f):=by
 intro b i pat x v w hpl hx hv hw;obtain⟨h1,h2,h3,h4⟩:=BY (temp:=0) m hsm hr hpl;obtain⟨b',k',hb',hk',rfl,hd,ho16,ho18,hfo⟩:=Hz hw;simp[dG]at hpl;obtain⟨⟨⟨g1,g2⟩,g3⟩,g4⟩:=hpl;have hb:b.toNat<f.blocks.length:=by omega
 have made : ∀{b k:Nat} {u:Int},b<f.blocks.length->k<(nth f.blocks b).ins.length->(nth (nth f.blocks b).ins k).dst=u->(nth (nth f.blocks b).ins k).op≠16->u∈(insT f b k).mks:=by intro b k u hb hk hd ho;show u∈cU (nth (nth f.blocks b).ins k);unfold cU;rw[if_neg ho];split<;>simp[hd]
 have hmk:=made hb' hk' hd ho16;obtain⟨t,ht,htb,htp,hta⟩ : ∃t∈aE f,t.blk=b/\t.place=i/\t.tks=ownArgs (eS f b i 0):=by
  unfold ownArgs eS;by_cases e:i=(nth f.blocks b.toNat).ins.length
  ·rw[if_pos e,if_pos rfl];exact⟨_,Gm hb,by show((b.toNat:Nat):Int)=b;omega,by show(((nth f.blocks b.toNat).ins.length:Nat):Int)=i;omega,rfl⟩
  rw[if_neg e,if_neg Sa];exact⟨_,mX hb (k:=i.toNat) R3,by show((b.toNat:Nat):Int)=b;omega,by show((i.toNat:Nat):Int)=i;omega,rfl⟩
 have key : ∃t2∈aE f,t2.blk=b/\t2.place<=i/\v∈t2.tks:=by
  rcases D2 h1 h2 hx hv with hv | ⟨v2,op,hv2,hf2,hv⟩
  ·exact⟨t,ht,htb,by omega,by rw[hta];exact hv⟩
  rw[h4]at hf2 hv;obtain⟨m1,m2,m3,m4,m5⟩:=gK hf2;obtain⟨b2,k2,hb2,hk2,e2⟩:=gZ.1 m1;rw[e2]at m4 m5 hv;have hm2:=made hb2 hk2 m4 m5;obtain⟨q1,q2⟩:=sD m3 (mX hb2 hk2) ht hm2 (by rw[hta];exact hv2);exact⟨_,mX hb2 hk2,by rw[q1,htb],by rw[htp]at q2;omega,hv⟩
 obtain⟨t2,ht2,e1,e2,e3⟩:=key;obtain⟨q1,q2⟩:=sD hfo (mX hb' hk') ht2 hmk e3;have q1:(b':Int)=t2.blk:=q1;have q2:(k':Int)<t2.place:=q2;refine⟨?_,by simp only;omega⟩;simp[dG];omega
def nb:List Int:=[1,2,1,1,3,1,1,1,1,1,1,1,1,1,12,1,1,1,1,1,1,3,2,2,2,4,1,1,1,3,6,4,1,1,1,1,2]
def allT:List fw:=rows (λi=>⟨(i:Int)+1,nth nb i⟩) 37
theorem tV{W:View}{p c:Int}(hp:I64 p)(hc:I64 c):Rd W (.agg #[Sb Sc p,Sb Sc c]) (⟨p,c⟩:fw):=by unfold Rd;rw[if_pos (show Rep.agg fw=Sj from rfl)];exact⟨_,rfl,[Sb Sc p],[Sb Sc c],rfl,⟨rfl,hp⟩,rfl,hc⟩
theorem xY {W:View} : ∀{l:List Int},(∀x∈l,I64 x)->ni W (l.map λc=>Sb Sc c) l
 | [],_=>trivial
 | x::l,h=>⟨aX.2 ⟨rfl,h x (OJ ..)⟩,xY λy hy=>h y (OL _ hy)⟩
theorem zY: ∀x∈nb,1<=x/\x<=12:=by
 have h:nb.all (λx=>decide (1<=x)&&decide (x<=12))=true:=by kernel_rfl
 exact λx hx=>by simpa using O7.1 h x hx
theorem Lt{h:Heap}:aA Sn 22 #[] h (λu h'=>(vw h).le (vw h')/\SlRd (vw h') u allT):=by
 refine au (args:=[]) follows Tryz.func22 E.iB S0 λK hK=>?_;dsimp only[L.iB,lkF,lkG];refine aa λz hz=>?_;simp;subst hz;refine aa λz hz=>?_;simp;subst hz;refine aa λz hz=>?_;simp;refine lD (α:=Int) (ds:=nb) (vs:=nb.map λc=>Sb Sc c) (X:=nothing) El.aP R1 (xY λx hx=>by have:=zY x hx;constructor<;>omega) rfl R4 R4 λuc h1 hle1 hs1 huc hb1=>?_;have huc:=huc (vw h1) (bQ) rfl;have hl:=huc.len (K:=vw h1);have hl37:nb.length=37:=rfl;rw[hl37]at hl;simp[hl];refine aY [0,1,4,5,6] (fun(vo:Value) k=>[Sg Sf 0 0,vo,uc,Sb Sc 37,Sb Sc k])
   (λvo k h2=>Mine nothing h1 h2 nothing T.nk vo (rows (λi=>(⟨(i:Int)+1,nth nb i⟩:fw)) k)) 37 (Sg Sf 0 0)
   rfl R3 rfl (Mine.start bQ) (λ_ _=>rfl) (λv i h1 hk m=>by simp) ?_ ?_
 ·rintro vo k h2 hk m K2 hK2;have hle:=m.old;have e1:=huc.idx1 (k:=.i64) (i:=(k:Int)) rfl R3 (by rw[hl37];omega);have e2:=ae hle (huc.int S2 (i:=k) (by rw[hl37];omega));simp only[O2]at e1;have hc:=zY _ (bw (l:=nb) (i:=k) (by rw[hl37];omega));have ew:IntKind.i64.wrap ((k:Int)+1)=(k:Int)+1:=bj R3 R3;refine aa λy hy=>?_;simp[e1,e2];subst hy;simp[ew];refine an (t:=T.nk) (z:=.agg #[Sb Sc 0,Sb Sc 0]) (places:=[(0,1),(1,1)]) (vs:=[(0,Sb Sc ((k:Int)+1)),(1,Sb Sc (nth nb k))]) (cs:=#[Sb Sc ((k:Int)+1),Sb Sc (nth nb k)]) R1 R1 Sa R1 ?_;refine m.push (u:=.agg #[Sb Sc ((k:Int)+1),Sb Sc (nth nb k)]) El.lj Sa (tV (by constructor<;>omega) (by constructor<;>omega)) R9 R9 R5 R5 λu v' h5 m'=>?_;refine hK2 v' _ _ rfl rfl ?_;rw[fk];exact m'
 rintro vo h2 m;simp;subst hz;simp;exact hK _ _ ⟨S3 hle1 m.old,m.now⟩
theorem uD{a b:List Int}{va vb:Value}{h:Heap}(ha:SlRd (vw h) va a)(hb:SlRd (vw h) vb b):
  aA Sn 19 #[va,vb] h (λu h'=>u = .bool (decide (a=b))/\h'=h):=by
 refine au (args:=[va,vb]) follows Tryz.func19 E.fq S0 λK hK=>?_;have hbd:=ha.bound;dsimp only[L.fq,lkF,lkG];refine aa λz hz=>?_;simp;subst hz;refine aa λz hz=>?_;by_cases hl:a.length=b.length
 ·have hl':(a.length:Int)=b.length:=by omega
  simp[ha.len,hb.len,hl'];subst hz;refine aa λz hz=>?_;simp;refine bZ [0,1,4,5] (fun(_:Unit) i=>[va,vb,.bool Sk,Sb Sc i]) (λ_ i h3=>h3=h/\∀j,j<i->nth a j=nth b j) a.length ()
   rfl R3 rfl ⟨rfl,λj hj=>by omega⟩ (λ_ _=>rfl) (λv k h3 hk m=>by simp[ha.len]) ?_ ?_
  ·rintro _ i h hlti ⟨rfl,hpre⟩ K2 hK2;have e1:=ha.idx1 rfl (k:=.i64) (i:=(i:Int)) R3 R3;have e2:=hb.idx1 rfl (k:=.i64) (i:=(i:Int)) R3 R3;have e3:=ha.int S2 (i:=i) hlti;have e4:=hb.int S2 (i:=i) R3;simp only[O2]at e1 e2;by_cases e:nth a i=nth b i
   ·simp[e1,e2,e3,e4,e];refine hK2 () _ _ rfl rfl ⟨rfl,λj hj=>?_⟩;rcases Ov j i with q | q
    ·exact hpre j q
    have:j=i:=by omega
    subst this;exact e
   simp[e1,e2,e3,e4,e];exact hK _ _ ⟨by rw[decide_eq_false];rintro rfl;exact e rfl,rfl⟩
  rintro _ h ⟨rfl,hpre⟩;have he:a=b:=PU hl λj h1 h2=>by have:=hpre j h1;rwa [aB h1,aB h2]at this
  simp;subst hz;simp;exact hK _ _ ⟨by rw[decide_eq_true he],rfl⟩
 have hl':¬(a.length:Int)=b.length:=by omega
 simp[ha.len,hb.len,hl'];exact hK _ _ ⟨by rw[decide_eq_false];rintro rfl;exact hl rfl,rfl⟩
def yN (a b:aH):Bool:=decide (a.op=b.op)&&decide (a.d=b.d)&&decide (a.e=b.e)&&decide (a.a=b.a)&&decide (a.b=b.b)&&decide (a.c=b.c)&&decide (a.imm.v=b.imm.v)&&decide (a.args=b.args)
theorem Ff{a b:aH}:yN a b=Sj↔a=b:=by unfold yN;obtain⟨a1,a2,a3,a4,a5,a6,⟨a7⟩,a8⟩:=a;obtain⟨b1,b2,b3,b4,b5,b6,⟨b7⟩,b8⟩:=b;simp[and_assoc]
def Ev (a b:EndD):Bool:=decide (a.op=b.op)&&decide (a.a=b.a)&&decide (a.b=b.b)&&decide (a.imm.v=b.imm.v)&&decide (a.to=b.to)
theorem pj{ρ:Nat->Option Value}{H:View}{a b:E}{p q:Bool}(ha:ev ρ H a=Se (.bool p))(hb:p=Sj->ev ρ H b=Se (.bool q)):ev ρ H (.ite a b (.con (.bool Sk)))=Se (.bool (p&&q)):=by
 cases p with
 | true=>simp[ha,hb rfl]
 | false=>simp[ha]
theorem na{ρ:Nat->Option Value}{H:View}{a b:E}{k:IntKind}{x y:Int}(ha:ev ρ H a=Se (.int k x))(hb:ev ρ H b=Se (.int k y)):ev ρ H (.bin (.cmp .eql) a b)=Se (.bool (decide (x=y))):=by simp[ha,hb]
theorem eO{ρ:Nat->Option Value}{H:View}{n off B:Nat}{v:Value}(h2:ρ n=Se (Si (Se ⟨B,0,Sf⟩)))(hc:ao H (Addr.add ⟨B,0,Sf⟩ off)=Se v):ev ρ H (.un .load (.un (.fld off) (.tmp n)))=Se v:=by simp[h2];simpa using hc
theorem BB{a b:aH}{va vb:Value}{h:Heap}{W:View}(hW:W.le (vw h))(ha:Rd W va a)(hb:Rd W vb b):
  aA Sn 40 #[va,vb] h (λu h'=>u = .bool (yN a b)/\(vw h).le (vw h')):=by
 refine au (args:=[va,vb]) follows Tryz.func40 E.kr S0 λK hK=>?_;dsimp only[L.kr,lkF,lkG];have c0:=Cx.start hW;refine aa λz hz=>?_;simp;refine c0.cr rfl ha λA h1 W1 hW1 c1 at1 hle1=>?_;refine c1.cr rfl (hb.mono hW1) λB h2 W2 hW2 c2 at2 hle2=>?_;have at1:=at1.mono hW2;subst hz;have a0:=ae c2.wle (at1.part aH.sU).int;have a1:=ae c2.wle (at1.part aH.Nv).int;have a2:=ae c2.wle (at1.part aH.Nu).int;have a3:=ae c2.wle (at1.part aH.KA).int;have a4:=ae c2.wle (at1.part aH.Ms).int;have a5:=ae c2.wle (at1.part aH.NA).int;have b0:=ae c2.wle (at2.part aH.sU).int;have b1:=ae c2.wle (at2.part aH.Nv).int;have b2:=ae c2.wle (at2.part aH.Nu).int;have b3:=ae c2.wle (at2.part aH.KA).int;have b4:=ae c2.wle (at2.part aH.Ms).int;have b5:=ae c2.wle (at2.part aH.NA).int;obtain⟨ua,ka,sa⟩:=(at1.part aH.eW).sl;obtain⟨ub,kb,sb⟩:=(at2.part aH.eW).sl;refine aa λz hz=>?_;generalize hc:(E.ite (E.ite (E.ite (E.ite (E.ite (E.ite _ _ _) _ _) _ _) _ _) _ _) _ _)=c;have a6:=ae c2.wle (at1.part aH.gD).i32;have b6:=ae c2.wle (at2.part aH.gD).i32;have hcv : ∀ρ:Nat->Option Value,ρ 2=Se (Si (Se ⟨A,0,Sf⟩))->ρ 3=Se (Si (Se ⟨B,0,Sf⟩))->ev ρ (vw h2) c=Se (.bool (decide (a.op=b.op)&&decide (a.d=b.d)&&decide (a.e=b.e)&&decide (a.a=b.a)&&decide (a.b=b.b)&&decide (a.c=b.c)&&decide (a.imm.v=b.imm.v))):=λρ r2 r3=>by rw[<-hc];exact pj (pj (pj (pj (pj (pj (na (eO r2 a0) (eO r3 b0)) λ_=>(na (eO r2 a1) (eO r3 b1))) λ_=>(na (eO r2 a2) (eO r3 b2))) λ_=>(na (eO r2 a3) (eO r3 b3))) λ_=>(na (eO r2 a4) (eO r3 b4))) λ_=>(na (eO r2 a5) (eO r3 b5))) λ_=>(na (eO r2 a6) (eO r3 b6))
 have hka:=ae c2.wle ka;have hkb:=ae c2.wle kb;simp at hka hkb;have key:yN a b=((decide (a.op=b.op)&&decide (a.d=b.d)&&decide (a.e=b.e)&&decide (a.a=b.a)&&decide (a.b=b.b)&&decide (a.c=b.c)&&decide (a.imm.v=b.imm.v))&&decide (a.args=b.args)):=rfl;rw[key]at hK;clear key;generalize (decide (a.op=b.op)&&decide (a.d=b.d)&&decide (a.e=b.e)&&decide (a.a=b.a)&&decide (a.b=b.b)&&decide (a.c=b.c)&&decide (a.imm.v=b.imm.v))=q at hcv hK;clear hc a0 a1 a2 a3 a4 a5 a6 b0 b1 b2 b3 b4 b5 b6;cases q with
 | false=>simp[hcv];subst hz;simp;exact hK _ _ ⟨rfl,c2.le0⟩
 | true=>simp[hcv,hka,hkb];refine aj R1 (uD (sa.mono c2.wle) (sb.mono c2.wle)) ?_;rintro _ h3 ⟨rfl,rfl⟩;subst hz;simp;exact hK _ _ ⟨by rw[PL],c2.le0⟩
theorem DH{a b:EndD}{va vb:Value}{h:Heap}{W:View}(hW:W.le (vw h))(ha:Rd W va a)(hb:Rd W vb b):
  aA Sn 18 #[va,vb] h (λu h'=>u = .bool (Ev a b)/\(vw h).le (vw h')):=by
 refine au (args:=[va,vb]) follows Tryz.func18 E.lL S0 λK hK=>?_;dsimp only[L.lL,lkF,lkG];have c0:=Cx.start hW;refine aa λz hz=>?_;simp;refine c0.cr rfl ha λA h1 W1 hW1 c1 at1 hle1=>?_;refine c1.cr rfl (hb.mono hW1) λB h2 W2 hW2 c2 at2 hle2=>?_;have at1:=at1.mono hW2;subst hz;have a0:=ae c2.wle (at1.part EndD.sU).int;have a1:=ae c2.wle (at1.part EndD.KA).int;have a2:=ae c2.wle (at1.part EndD.Ms).int;have a4:=ae c2.wle (at1.part EndD.gD).i32;have b0:=ae c2.wle (at2.part EndD.sU).int;have b1:=ae c2.wle (at2.part EndD.KA).int;have b2:=ae c2.wle (at2.part EndD.Ms).int;have b4:=ae c2.wle (at2.part EndD.gD).i32;obtain⟨ua,ka,sa⟩:=(at1.part EndD.yi).sl;obtain⟨ub,kb,sb⟩:=(at2.part EndD.yi).sl;refine aa λz hz=>?_;generalize hc:(E.ite (E.ite (E.ite _ _ _) _ _) _ _)=c;have hcv : ∀ρ:Nat->Option Value,ρ 2=Se (Si (Se ⟨A,0,Sf⟩))->ρ 3=Se (Si (Se ⟨B,0,Sf⟩))->ev ρ (vw h2) c=Se (.bool (decide (a.op=b.op)&&decide (a.a=b.a)&&decide (a.b=b.b)&&decide (a.imm.v=b.imm.v))):=λρ r2 r3=>by rw[<-hc];exact pj (pj (pj (na (eO r2 a0) (eO r3 b0)) λ_=>(na (eO r2 a1) (eO r3 b1))) λ_=>(na (eO r2 a2) (eO r3 b2))) λ_=>(na (eO r2 a4) (eO r3 b4))
 have hka:=ae c2.wle ka;have hkb:=ae c2.wle kb;simp at hka hkb;have key:Ev a b=((decide (a.op=b.op)&&decide (a.a=b.a)&&decide (a.b=b.b)&&decide (a.imm.v=b.imm.v))&&decide (a.to=b.to)):=rfl;rw[key]at hK;clear key;generalize (decide (a.op=b.op)&&decide (a.a=b.a)&&decide (a.b=b.b)&&decide (a.imm.v=b.imm.v))=q at hcv hK;clear hc a0 a1 a2 a4 b0 b1 b2 b4;cases q with
 | false=>simp[hcv];subst hz;simp;exact hK _ _ ⟨rfl,c2.le0⟩
 | true=>simp[hcv,hka,hkb];refine aj R1 (uD (sa.mono c2.wle) (sb.mono c2.wle)) ?_;rintro _ h3 ⟨rfl,rfl⟩;subst hz;simp;exact hK _ _ ⟨by rw[PL],c2.le0⟩
theorem wU{a b:List aH}{va vb:Value}{h:Heap}{W:View}(hW:W.le (vw h))(ha:SlRd W va a)(hb:SlRd W vb b):
  aA Sn 17 #[va,vb] h (λu h'=>u = .bool (decide (a=b))/\(vw h).le (vw h')):=by
 refine au (args:=[va,vb]) follows Tryz.func17 E.dy S0 λK hK=>?_;have hbd:=ha.bound;have c0:=Cx.start hW;dsimp only[L.dy,lkF,lkG];refine aa λz hz=>?_;simp;subst hz;refine aa λz hz=>?_;by_cases hl:a.length=b.length
 ·have hl':(a.length:Int)=b.length:=by omega
  simp[ha.len,hb.len,hl'];subst hz;refine aa λz hz=>?_;simp;refine bZ [0,1,4,5] (fun(_:Unit) i=>[va,vb,.bool Sk,Sb Sc i]) (λ_ i h3=>(∃W3,W.le W3/\Cx W h W3 h3 λ_=>Sf)/\∀j,j<i->nth a j=nth b j) a.length ()
   rfl R3 rfl ⟨⟨W,View.le_refl _,c0⟩,λj hj=>by omega⟩ (λ_ _=>rfl) (λv k h3 hk m=>by simp[ha.len]) ?_ ?_
  ·rintro _ i h3 hlti ⟨⟨W3,hW3,c3⟩,hpre⟩ K2 hK2;obtain⟨ua,hua,rua⟩:=(ha.mono hW3).wh rfl (N:=8) rfl hlti;obtain⟨ub,hub,rub⟩:=(hb.mono hW3).wh rfl (N:=8) rfl (i:=i) R3;refine aa λy hy=>?_;refine aI W3 c3.wle ?_;simp(disch:=omega)[(ha.mono hW3).idxn (N:=8) rfl,(hb.mono hW3).idxn (N:=8) rfl,hua _ S2,hub _ S2];refine aj R1 (BB c3.wle rua rub) ?_;rintro _ h4 ⟨rfl,hle4⟩;have c4:=c3.ext hle4;have e:yN (nth a i) (nth b i)=decide (nth a i=nth b i):=O3.2 (by rw[Ff,decide_eq_true_iff]);by_cases e2:nth a i=nth b i
   ·have e':yN (nth a i) (nth b i)=true:=by rw[e,decide_eq_true e2]
    simp[e'];subst hy;simp;refine hK2 () _ _ rfl rfl ⟨⟨_,S3 hW3 c3.up,c4⟩,λj hj=>?_⟩;rcases Ov j i with q | q
    ·exact hpre j q
    have:j=i:=by omega
    subst this;exact e2
   have e':yN (nth a i) (nth b i)=false:=by rw[e,decide_eq_false e2]
   simp[e'];subst hy;simp;exact hK _ _ ⟨by rw[decide_eq_false];rintro rfl;exact e2 rfl,c4.le0⟩
  rintro _ h3 ⟨⟨W3,hW3,c3⟩,hpre⟩;have he:a=b:=PU hl λj h1 h2=>by have:=hpre j h1;rwa [aB h1,aB h2]at this
  simp;subst hz;simp;exact hK _ _ ⟨by rw[decide_eq_true he],c3.le0⟩
 have hl':¬(a.length:Int)=b.length:=by omega
 simp[ha.len,hb.len,hl'];exact hK _ _ ⟨by rw[decide_eq_false];rintro rfl;exact hl rfl,View.le_refl _⟩
end Go.Proofs.YtnfiilgdjpdlkaaGreatDoor
namespace Go.Lft
open Go
end Go.Lft
namespace Go.Proofs.YtnfiilgdjpdlkaaGreatDoor
open Go Go.Lft
section
variable {f:aq} {i:InsD} {b p pat t t':Int}
theorem H5 : ∀q:Nat,q<=32->q≠26->q≠30->doS f i t q=doS f i t' q
 | 0,_,_,_=>rfl
 | 1,_,_,_=>rfl
 | 2,_,_,_=>rfl
 | 3,_,_,_=>rfl
 | 4,_,_,_=>rfl
 | 5,_,_,_=>rfl
 | 6,_,_,_=>rfl
 | 7,_,_,_=>rfl
 | 8,_,_,_=>rfl
 | 9,_,_,_=>rfl
 | 10,_,_,_=>rfl
 | 11,_,_,_=>rfl
 | 12,_,_,_=>rfl
 | 13,_,_,_=>rfl
 | 14,_,_,_=>rfl
 | 15,_,_,_=>rfl
 | 16,_,_,_=>rfl
 | 17,_,_,_=>rfl
 | 18,_,_,_=>rfl
 | 19,_,_,_=>rfl
 | 20,_,_,_=>rfl
 | 21,_,_,_=>rfl
 | 22,_,_,_=>rfl
 | 23,_,_,_=>rfl
 | 24,_,_,_=>rfl
 | 25,_,_,_=>rfl
 | 26,_,h,_=>absurd rfl h
 | 27,_,_,_=>rfl
 | 28,_,_,_=>rfl
 | 29,_,_,_=>rfl
 | 30,_,_,h=>absurd rfl h
 | 31,_,_,_=>rfl
 | 32,_,_,_=>rfl
 | q+33,h,_,_=>absurd h R3
theorem F9 (h1:pat≠26) (h2:pat≠30):patS f i t pat=patS f i t' pat:=by
 unfold patS;split
 ·rename_i c;exact H5 _ R3 R3 R3
 rfl
theorem D1 (h1:pat≠26) (h2:pat≠30):ed f b p pat t=ed f b p pat t':=by
 unfold ed tryS eS;split
 ·split
  ·rfl
  exact F9 h1 h2
 rfl
theorem EE:patS f i t 26=if i.op=15 then Se ⟨nth i.args 0::i.args.drop 1,[],[⟨4,t,0,0,0,0,i.imm,[]⟩,gg i 15 24 ⟨25,0,0,nth i.args 0,t,0,⟨0⟩,[]⟩],cC⟩ else none:=by
 unfold patS;by_cases h:i.op=15
 ·rw[if_pos ⟨by decide,by decide,h⟩,if_pos h];rfl
 rw[if_neg (λc=>h c.2.2),if_neg h]
theorem ET:patS f i t 30=if i.op=16 then Se ⟨nth i.args 0::i.args.drop 1,[],[⟨4,t,0,0,0,0,i.imm,[]⟩,gg i 16 26 ⟨27,0,0,nth i.args 0,t,0,⟨0⟩,[]⟩],cC⟩ else none:=by
 unfold patS;by_cases h:i.op=16
 ·rw[if_pos ⟨by decide,by decide,h⟩,if_pos h];rfl
 rw[if_neg (λc=>h c.2.2),if_neg h]
end
end Go.Proofs.YtnfiilgdjpdlkaaGreatDoor
namespace Go.Proofs.YtnfiilgdjpdlkaaGreatDoor
open Go Go.Lft
theorem E6{H:View}{op dst two:Int}{va:Value}{l:List Int}{imm:I32}(h1:I64 op)(h2:I64 dst)(h3:I64 two)(h4:SlRd H va l)(h5:-2147483648<=imm.v/\imm.v<=2147483647):Rd H (.agg #[Sb Sc op,Sb Sc dst,Sb Sc two,va,Sb Sd imm.v]) (InsD.mk op dst two l imm):=
 ⟨_,rfl,[Sb Sc op],_,rfl,⟨rfl,h1⟩,[Sb Sc dst],_,rfl,⟨rfl,h2⟩,[Sb Sc two],_,rfl,⟨rfl,h3⟩,[va],_,rfl,⟨va,rfl,h4⟩,rfl,h5⟩
theorem Ju{H:View}{vp vi va vt:Value}{p:List PhiD}{i:List InsD}{a t:List Int}{kd:Int}{imm:I32}(h1:SlRd H vp p)(h2:SlRd H vi i)(h3:SlRd H va a)(h4:SlRd H vt t)(h5:I64 kd)(h6:-2147483648<=imm.v/\imm.v<=2147483647):Rd H (.agg #[vp,vi,Sb Sc kd,va,vt,Sb Sd imm.v]) (BlkD.mk p i ⟨kd,a,t,imm⟩):=
 ⟨_,rfl,[vp],_,rfl,⟨vp,rfl,h1⟩,[vi],_,rfl,⟨vi,rfl,h2⟩,[Sb Sc kd],_,rfl,⟨rfl,h5⟩,[va],_,rfl,⟨va,rfl,h3⟩,[vt],_,rfl,⟨vt,rfl,h4⟩,rfl,h6⟩
variable{vb:Value}
theorem yb{H:View}{p:Int}{l:List BlkD}(h1:I64 p)(h2:SlRd H vb l):Rd H (.agg #[Sb Sc p,vb]) (aq.mk p l):=
 ⟨_,rfl,[Sb Sc p],_,rfl,⟨rfl,h1⟩,vb,rfl,h2⟩
theorem SlRd.ex{α:Type}[Rep α]{H:View}{v:Value}{l:List α}(s:SlRd H v l): ∃a n c,v = .slice a n c:=let ⟨a,c,e,_⟩:=s;⟨a,_,c,e⟩
def twoF:aq:=⟨2,[⟨[],[⟨1,2,0,[],⟨5⟩⟩,⟨2,3,0,[1,2],⟨0⟩⟩],⟨4,[3],[],⟨0⟩⟩⟩]⟩
theorem L8{h:Heap}{W:View}(hW:W.le (vw h)):aA Sn 33 #[] h (λu h'=>(vw h).le (vw h')/\Rd (grow W h h') u twoF):=by refine au (args:=[]) follows Tryz.func33 E.rE S0 λK hK=>?_;dsimp only[L.rE,lkF,lkG];have c0:=Cx.start hW;refine aa λz hz=>?_;simp;refine c0.bW (k:=(0,0)) (n:=1) (z:=.agg #[Sb Sc 0,Sg Sf 0 0]) rfl R1 rfl R4 R8 λR h1 hle1 c1=>?_;subst hz;refine aa λz hz=>?_;simp;refine an (t:=T.dA) (z:=.agg #[Sb Sc 0,Sb Sc 0,Sb Sc 0,Sg Sf 0 0,Sb Sd 0]) (places:=[(0,1),(1,1),(2,1),(3,1),(4,1)]) (vs:=[(0,Sb Sc 1),(1,Sb Sc 2),(4,Sb Sd 5)]) (cs:=#[Sb Sc 1,Sb Sc 2,Sb Sc 0,Sg Sf 0 0,Sb Sd 5]) R1 R1 Sa R1 ?_;refine c1.eF (α:=Int) (vs:=[Sb Sc 1,Sb Sc 2]) (ds:=[1,2]) El.aP R1 ⟨aX.2 ⟨rfl,by decide⟩,aX.2 ⟨rfl,by decide⟩,trivial⟩ rfl R4 R4 λu2 h2 W2 hW2 c2 s2 hle2=>?_;obtain⟨b2,n2,k2,rfl⟩:=SlRd.ex s2;refine an (t:=T.dA) (z:=.agg #[Sb Sc 0,Sb Sc 0,Sb Sc 0,Sg Sf 0 0,Sb Sd 0]) (places:=[(0,1),(1,1),(2,1),(3,1),(4,1)]) (vs:=[(0,Sb Sc 2),(1,Sb Sc 3),(3,(.slice b2 n2 k2))]) (cs:=#[Sb Sc 2,Sb Sc 3,Sb Sc 0,(.slice b2 n2 k2),Sb Sd 0]) R1 R1 Sa (by simp[Instr.fill,Value.cells]) ?_;refine c2.eF (α:=InsD) (vs:=[.agg #[Sb Sc 1,Sb Sc 2,Sb Sc 0,Sg Sf 0 0,Sb Sd 5],.agg #[Sb Sc 2,Sb Sc 3,Sb Sc 0,(.slice b2 n2 k2),Sb Sd 0]]) (ds:=[⟨1,2,0,[],⟨5⟩⟩,⟨2,3,0,[1,2],⟨0⟩⟩]) El.kg Sa ⟨E6 ⟨R4,R4⟩ ⟨R4,R4⟩ ⟨R4,R4⟩ aF R4,E6 ⟨R4,R4⟩ ⟨R4,R4⟩ ⟨R4,R4⟩ s2 R4,trivial⟩ rfl R4 R4 λu3 h3 W3 hW3 c3 s3 hle3=>?_;obtain⟨b3,n3,k3,rfl⟩:=SlRd.ex s3;refine c3.eF (α:=Int) (vs:=[Sb Sc 3]) (ds:=[3]) El.aP R1 ⟨aX.2 ⟨rfl,by decide⟩,trivial⟩ rfl R4 R4 λu4 h4 W4 hW4 c4 s4 hle4=>?_;obtain⟨b4,n4,k4,rfl⟩:=SlRd.ex s4;refine an (t:=T.jI) (z:=.agg #[Sb Sc 0,Sg Sf 0 0,Sg Sf 0 0,Sb Sd 0]) (places:=[(0,1),(1,1),(2,1),(3,1)]) (vs:=[(0,Sb Sc 4),(1,(.slice b4 n4 k4))]) (cs:=#[Sb Sc 4,(.slice b4 n4 k4),Sg Sf 0 0,Sb Sd 0]) R1 R1 Sa (by simp[Instr.fill,Value.cells]) ?_;refine an (t:=T.dh) (z:=.agg #[Sg Sf 0 0,Sg Sf 0 0,Sb Sc 0,Sg Sf 0 0,Sg Sf 0 0,Sb Sd 0]) (places:=[(0,1),(1,1),(2,4)]) (vs:=[(1,(.slice b3 n3 k3)),(2,.agg #[Sb Sc 4,(.slice b4 n4 k4),Sg Sf 0 0,Sb Sd 0])]) (cs:=#[Sg Sf 0 0,(.slice b3 n3 k3),Sb Sc 4,(.slice b4 n4 k4),Sg Sf 0 0,Sb Sd 0]) R1 R1 Sa (by simp[Instr.fill,Value.cells]) ?_;refine c4.eF (α:=BlkD) (vs:=[.agg #[Sg Sf 0 0,(.slice b3 n3 k3),Sb Sc 4,(.slice b4 n4 k4),Sg Sf 0 0,Sb Sd 0]]) (ds:=twoF.blocks) El.kf Sa ⟨Ju aF (s3.mono hW4) s4 aF ⟨R4,R4⟩ R4,trivial⟩ rfl R4 R4 λu5 h5 W5 hW5 c5 s5 hle5=>?_;obtain⟨b5,n5,k5,rfl⟩:=SlRd.ex s5;refine an (t:=T.bY) (z:=.agg #[Sb Sc 0,Sg Sf 0 0]) (places:=[(0,1),(1,1)]) (vs:=[(0,Sb Sc 2),(1,(.slice b5 n5 k5))]) (cs:=#[Sb Sc 2,(.slice b5 n5 k5)]) R1 R1 Sa (by simp[Instr.fill,Value.cells]) ?_;refine c5.aK (α:=aq) (k:=(0,0)) (n:=1) RZ (yb (p:=2) ⟨R4,R4⟩ s5) rfl rfl R1 Sa Sa λh6 l6 hl6 c6=>?_;subst hz;have hall:=c6.all (k:=(0,0)) (n:=1) (l:=l6) (B:=R) (e:=T.bY) RZ;simp at hall;simp[hall];refine hK _ _ ⟨c6.le0,?_⟩;rw[<-hl6];exact(yb (p:=2) ⟨R4,R4⟩ s5).mono c6.fin
theorem FI:mf twoF=true:=by kernel_rfl
theorem AG:SmF twoF:=by
 refine⟨by decide,λi hi=>?_⟩;have hi:i<1:=hi;obtain rfl:i=0:=by omega
 refine⟨by decide,by decide,by decide,by decide,λj hj=>absurd hj (Nat.not_lt_zero _),λj hj=>?_⟩;have hj:j<2:=hj;rcases j with _ | _ | j
 ·decide
 ·decide
 omega
theorem AT: ∀i∈dV twoF,i.op=15\/i.op=16->nc:=by intro i hi ho;have:dV twoF=[⟨1,2,0,[],⟨5⟩⟩,⟨2,3,0,[1,2],⟨0⟩⟩]:=rfl;rw[this]at hi;simp at hi;rcases hi with rfl | rfl<;>simp at ho
theorem G0:Down twoF (whS twoF):=JC (pf FI) AG (by intro i hi;have:dV twoF=[⟨1,2,0,[],⟨5⟩⟩,⟨2,3,0,[1,2],⟨0⟩⟩]:=rfl;rw[this]at hi;simp at hi;rcases hi with rfl | rfl<;>simp)
theorem Lo:e9 twoF 0 1 16=Se ⟨[1],[2],[⟨18,3,0,1,0,0,⟨5⟩,[]⟩],cC⟩:=by kernel_rfl
theorem MJ:e9 twoF 0 1 3=Se ⟨[1,2],[],[⟨5,3,0,1,2,0,⟨0⟩,[]⟩],cC⟩:=by kernel_rfl
theorem Li:e9 twoF 0 1 17=none:=by kernel_rfl
theorem Ke:ed twoF 0 1 16 9=Se ⟨[1],[2],[⟨18,3,0,1,0,0,⟨5⟩,[]⟩],cC⟩:=by kernel_rfl
theorem Lu:ed twoF 0 2 0 9=Se ⟨[3],[],[],⟨7,3,0,[],⟨0⟩⟩⟩:=by kernel_rfl
theorem JO:kF [⟨1,0⟩,⟨38,0⟩]=(20,1):=by kernel_rfl
theorem Me:jP [⟨1,0⟩] twoF=(21,0,2):=by kernel_rfl
theorem I4:jP [⟨16,0⟩] twoF=(0,0,0):=by kernel_rfl
theorem Lz:tz 16=⟨#[97,100,100,105]⟩:=by kernel_rfl
theorem two'{h:Heap}:aA Sn 33 #[] h (λu h'=>(vw h).le (vw h')/\Rd (vw h') u twoF):=
 (L8 S2).mono λu h' ⟨h1,h2⟩=>⟨h1,h2.mono (jl h1)⟩
theorem Dh{a:List Int}{va:Value}{h:Heap}(ha:SlRd (vw h) va a)(hb:SlRd (vw h) vb a):aA Sn 19 #[va,vb] h (λu h'=>u = .bool Sj/\h'=h):=
 (uD ha hb).mono λu h' ⟨h1,h2⟩=>⟨by rw[h1,decide_eq_true rfl],h2⟩
theorem LK{a:List aH}{va:Value}{h:Heap}(ha:SlRd (vw h) va a)(hb:SlRd (vw h) vb a):aA Sn 17 #[va,vb] h (λu h'=>u = .bool Sj/\(vw h).le (vw h')):=
 (wU S2 ha hb).mono λu h' ⟨h1,h2⟩=>⟨by rw[h1,decide_eq_true rfl],h2⟩
theorem vU{v:Value}{pat:Int}{h:Heap}(hv:Rd (vw h) v twoF)(hp:I64 pat){r:Option FitD}(hr:e9 twoF 0 1 pat=r):
  aA Sn 15 #[v,Sb Sc 0,Sb Sc 1,Sb Sc pat] h (λu h'=>(vw h).le (vw h')/\∃v1 v2,u = .tuple #[v1,v2,.bool r.isSome]/\SlRd (vw h') v1 (uy r)/\SlRd (vw h') v2 (tI r)):=by rw[<-hr];exact BX S2 hv AG AT hp
theorem Cz{v:Value}{p pat:Int}{h:Heap}(hv:Rd (vw h) v twoF)(hp:I64 pat){r:Option FitD}(hr:ed twoF 0 p pat 9=r):
  aA Sn 16 #[v,Sb Sc 0,Sb Sc p,Sb Sc pat,Sb Sc 9] h (λu h'=>(vw h).le (vw h')/\∃v1 v2,u = .tuple #[v1,v2,.bool r.isSome]/\SlRd (vw h') v1 (DT r)/\Rd (vw h') v2 (GC r)):=by rw[<-hr];exact Ey S2 hv AG AT hp ⟨R4,R4⟩
theorem yO{l:List fw}{vl v:Value}{h:Heap}(hl:SlRd (vw h) vl l)(hv:Rd (vw h) v twoF)(ht:Tab h){r:Int × Int × Int}(hr:jP l twoF=r):
  aA Sn 26 #[vl,v] h (λu h'=>(vw h).le (vw h')/\u = .tuple #[Sb Sc r.1,Sb Sc r.2.1,Sb Sc r.2.2]):=by rw[<-hr];exact FD S2 hl hv AG ht AT λ_=>G0
theorem FU{h:Heap}(ht:Tab h):aA Sn 11 #[] h (λu h'=>(vw h).le (vw h')/\u = .bool Sj):=by refine au (args:=[]) follows Tryz.func11 E.gT S0 λK hK=>?_;dsimp only[L.gT,lkF,lkG];refine aa λz hz=>?_;simp;subst hz;refine aa λz hz=>?_;simp;refine aj R1 two' ?_;rintro u26 h1 ⟨le1,r1⟩;refine aj R1 (vU r1 ⟨R4,R4⟩ Lo) ?_;rintro _ h2 ⟨le2,va,vb,rfl,sa,sb⟩;simp;subst hz;refine aa λz hz=>?_;simp;refine aj R1 two' ?_;rintro u32 h3 ⟨le3,r3⟩;refine aj R1 (vU r3 ⟨R4,R4⟩ MJ) ?_;rintro _ h4 ⟨le4,vc,vd,rfl,sc,sd⟩;simp;subst hz;refine aa λz hz=>?_;simp;refine aj R1 two' ?_;rintro u38 h5 ⟨le5,r5⟩;refine aj R1 (vU r5 ⟨R4,R4⟩ Li) ?_;rintro _ h6 ⟨le6,ve,vf,rfl,se,sf⟩;simp;subst hz;refine aa λz hz=>?_;simp;refine aj R1 two' ?_;rintro u44 h7 ⟨le7,r7⟩;refine aj R1 (Cz r7 ⟨R4,R4⟩ Ke) ?_;rintro _ h8 ⟨le8,vg,vh,rfl,sg,sh⟩;simp;refine dB (X:=vw h8) (z:=.agg endZ.toArray) R1 rfl R1 sh R5 R5 λh9 le9 _ _=>?_;subst hz;refine aa λz hz=>?_;simp;refine aj R1 two' ?_;rintro u50 h10 ⟨le10,r10⟩;refine aj R1 (Cz r10 ⟨R4,R4⟩ Lu) ?_;rintro _ h11 ⟨le11,vi,vj,rfl,si,sj⟩;simp;refine dB (X:=vw h11) (z:=.agg endZ.toArray) R1 rfl R1 sj R5 R5 λh12 le12 _ at12=>?_;have at12:At (vw h12) ⟨h11.size,0,Sf⟩ (⟨7,3,0,[],⟨0⟩⟩:EndD):=at12 (vw h12) le12 rfl;have e0:=(at12.part EndD.sU).int;have e1:=(at12.part EndD.KA).int;generalize h11.size=B at e0 e1;simp at e0 e1;subst hz;have la:(vw h).le (vw h12):=S3 le1 (S3 le2 (S3 le3 (S3 le4 (S3 le5 (S3 le6 (S3 le7 (S3 le8 (S3 le9 (S3 le10 (S3 le11 le12))))))))));refine aa λz hz=>?_;simp;refine an (t:=T.nk) (z:=.agg #[Sb Sc 0,Sb Sc 0]) (places:=[(0,1),(1,1)]) (vs:=[(0,Sb Sc 1)]) (cs:=#[Sb Sc 1,Sb Sc 0]) R1 R1 Sa R1 ?_;refine an (t:=T.nk) (z:=.agg #[Sb Sc 0,Sb Sc 0]) (places:=[(0,1),(1,1)]) (vs:=[(0,Sb Sc 38)]) (cs:=#[Sb Sc 38,Sb Sc 0]) R1 R1 Sa R1 ?_;refine lD (α:=fw) (ds:=[⟨1,0⟩,⟨38,0⟩]) (vs:=[.agg #[Sb Sc 1,Sb Sc 0],.agg #[Sb Sc 38,Sb Sc 0]]) (X:=nothing) El.lj Sa ⟨tV ⟨R4,R4⟩ ⟨R4,R4⟩,tV ⟨R4,R4⟩ ⟨R4,R4⟩,trivial⟩ rfl R4 R4 λu58 h13 le13 _ s13 _=>?_;have s13:=s13 (vw h13) bQ rfl;have t13:Tab h13:=ht.mono (S3 la le13);refine aj R1 (zI S2 s13 t13) ?_;rw[JO];rintro _ h14 ⟨le14,rfl⟩;simp;subst hz;refine aa λz hz=>?_;simp;refine an (t:=T.nk) (z:=.agg #[Sb Sc 0,Sb Sc 0]) (places:=[(0,1),(1,1)]) (vs:=[(0,Sb Sc 1)]) (cs:=#[Sb Sc 1,Sb Sc 0]) R1 R1 Sa R1 ?_;refine lD (α:=fw) (ds:=[⟨1,0⟩]) (vs:=[.agg #[Sb Sc 1,Sb Sc 0]]) (X:=nothing) El.lj Sa ⟨tV ⟨R4,R4⟩ ⟨R4,R4⟩,trivial⟩ rfl R4 R4 λu64 h15 le15 _ s15 _=>?_;have s15:=s15 (vw h15) bQ rfl;refine aj R1 two' ?_;rintro u65 h16 ⟨le16,r16⟩;refine aj R1 (yO (s15.mono le16) r16 (t13.mono (S3 le14 (S3 le15 le16))) Me) ?_;rintro _ h17 ⟨le17,rfl⟩;simp;subst hz;refine aa λz hz=>?_;simp;refine an (t:=T.nk) (z:=.agg #[Sb Sc 0,Sb Sc 0]) (places:=[(0,1),(1,1)]) (vs:=[(0,Sb Sc 16)]) (cs:=#[Sb Sc 16,Sb Sc 0]) R1 R1 Sa R1 ?_;refine lD (α:=fw) (ds:=[⟨16,0⟩]) (vs:=[.agg #[Sb Sc 16,Sb Sc 0]]) (X:=nothing) El.lj Sa ⟨tV ⟨R4,R4⟩ ⟨R4,R4⟩,trivial⟩ rfl R4 R4 λu72 h18 le18 _ s18 _=>?_;have s18:=s18 (vw h18) bQ rfl;refine aj R1 two' ?_;rintro u73 h19 ⟨le19,r19⟩;have l1219:(vw h12).le (vw h19):=S3 le13 (S3 le14 (S3 le15 (S3 le16 (S3 le17 (S3 le18 le19)))));refine aj R1 (yO (s18.mono le19) r19 (ht.mono (S3 la l1219)) I4) ?_;rintro _ h20 ⟨le20,rfl⟩;have l1220:=S3 l1219 le20;simp;subst hz;refine aa λz hz=>?_;have l212:(vw h2).le (vw h12):=S3 le3 (S3 le4 (S3 le5 (S3 le6 (S3 le7 (S3 le8 (S3 le9 (S3 le10 (S3 le11 le12))))))));have l412:(vw h4).le (vw h12):=S3 le5 (S3 le6 (S3 le7 (S3 le8 (S3 le9 (S3 le10 (S3 le11 le12))))));have l812:(vw h8).le (vw h12):=S3 le9 (S3 le10 (S3 le11 le12));have sa:=(sa.mono l212).mono l1220;have sb:=(sb.mono l212).mono l1220;have sc:=(sc.mono l412).mono l1220;have sd:=(sd.mono l412).mono l1220;have sg:=(sg.mono l812).mono l1220;have e0:=ae l1220 e0;have e1:=ae l1220 e1;have la:=S3 la l1220;clear le1 le2 le3 le4 le5 le6 le7 le8 le9 le10 le11 le12 le13 le14 le15 le16 le17 le18 le19 le20 l212 l412 l812 l1219 l1220;refine zK λy hy=>?_;simp;refine lD (α:=Int) (ds:=[1]) (vs:=[Sb Sc 1]) (X:=nothing) El.aP R1 ⟨aX.2 ⟨rfl,by decide⟩,trivial⟩ rfl R4 R4 λu79 h21 le21 _ s21 _=>?_;have s21:=s21 (vw h21) bQ rfl;subst hy;refine ay λy hy=>?_;simp;refine aj R1 (Dh (sa.mono le21) s21) ?_;rintro _ h21 ⟨rfl,rfl⟩;subst hy;refine ay λy hy=>?_;simp;refine lD (α:=Int) (ds:=[2]) (vs:=[Sb Sc 2]) (X:=nothing) El.aP R1 ⟨aX.2 ⟨rfl,by decide⟩,trivial⟩ rfl R4 R4 λu83 h22 le22 _ s22 _=>?_;have s22:=s22 (vw h22) bQ rfl;subst hy;refine ay λy hy=>?_;simp;refine aj R1 (Dh (sb.mono (S3 le21 le22)) s22) ?_;rintro _ h22 ⟨rfl,rfl⟩;subst hy;refine ay λy hy=>?_;simp;refine lD (α:=Int) (ds:=[1,2]) (vs:=[Sb Sc 1,Sb Sc 2]) (X:=nothing) El.aP R1 ⟨aX.2 ⟨rfl,by decide⟩,aX.2 ⟨rfl,by decide⟩,trivial⟩ rfl R4 R4 λu91 h23 le23 _ s23 _=>?_;have s23:=s23 (vw h23) bQ rfl;subst hy;refine ay λy hy=>?_;simp;refine aj R1 (Dh (sc.mono (S3 le21 (S3 le22 le23))) s23) ?_;rintro _ h23 ⟨rfl,rfl⟩;have l23:=S3 le21 (S3 le22 le23);subst hy;have sd':SlRd (vw h23) vd ([]:List Int):=sd.mono l23;have hd:=sd'.len (K:=vw h23);simp at hd;simp[hd];subst hz;refine aa λz hz=>?_;have sg':SlRd (vw h23) vg [(⟨18,3,0,1,0,0,⟨5⟩,[]⟩:aH)]:=sg.mono l23;have e0:=ae l23 e0;have e1:=ae l23 e1;have la:=S3 la l23;clear sa sb sc sd sd' sg hd l23 le21 le22 le23 s21 s22 s23;refine zK λy hy=>?_;simp;refine an (t:=T.cW) (z:=.agg #[Sb Sc 0,Sb Sc 0,Sb Sc 0,Sb Sc 0,Sb Sc 0,Sb Sc 0,Sb Sd 0,Sg Sf 0 0]) (places:=[(0,1),(1,1),(2,1),(3,1),(4,1),(5,1),(6,1),(7,1)]) (vs:=[(0,Sb Sc 18),(1,Sb Sc 3),(3,Sb Sc 1),(6,Sb Sd 5)]) (cs:=#[Sb Sc 18,Sb Sc 3,Sb Sc 0,Sb Sc 1,Sb Sc 0,Sb Sc 0,Sb Sd 5,Sg Sf 0 0]) R1 R1 Sa R1 ?_;subst hy;refine ay λy hy=>?_;simp;refine lD (α:=aH) (ds:=[⟨18,3,0,1,0,0,⟨5⟩,[]⟩]) (vs:=[.agg #[Sb Sc 18,Sb Sc 3,Sb Sc 0,Sb Sc 1,Sb Sc 0,Sb Sc 0,Sb Sd 5,Sg Sf 0 0]]) (X:=nothing) El.dc Sa ⟨dY R4 R4 aF,trivial⟩ rfl R4 R4 λu113 h24 le24 _ s24 _=>?_;have s24:=s24 (vw h24) bQ rfl;subst hy;refine ay λy hy=>?_;simp;refine aj R1 (LK (sg'.mono le24) s24) ?_;rintro _ h25 ⟨rfl,le25⟩;have l25:=S3 le24 le25;have e0:=ae l25 e0;have e1:=ae l25 e1;subst hy;refine ay λy hy=>?_;simp[e0,e1];refine aj R1 (yQ (ht.mono (S3 la l25))) ?_;rintro _ h26 ⟨le26,rfl⟩;subst hy;refine ay λy hy=>?_;simp;refine aj R1 Lt ?_;rintro ua h27 ⟨le27,sall⟩;have hl:=sall.len (K:=vw h27);have e37:allT.length=37:=rfl;rw[e37]at hl;have l27:=S3 l25 (S3 le26 le27);subst hy;refine ay λy hy=>?_;simp[hl];refine aj R1 (E7 (pat:=16) (ht.mono (S3 la l27)) ⟨R4,R4⟩) ?_;rw[Lz];rintro _ h28 ⟨le28,rfl⟩;subst hy;simp[show(Bn.eqS Sk).ev (.string ⟨#[97,100,100,105]⟩) (.string ⟨#[97,100,100,105]⟩)=Se (.bool Sj) from by kernel_rfl];subst hz;simp;exact hK _ _ ⟨S3 la (S3 l27 le28),rfl⟩
section
variable {s:List Int} {M:Nat} {vs:Value} {W:View} {h:Heap} {o:Own} {m:MS}
theorem MkB.boxed{vl:Value}{lb:List BlkM}(bb:MkB M vs m o vb vl lb)(m':MS)(h1:m'.blocks=m.blocks)(h2:m'.live=m.live):MkB M vs m' (o.upd (0,0) (bx T.bc M (RawN.mk (n:=5) (mkL vs m'.at_ m'.ps vb m'.next vl)))) vb vl lb:=
 ⟨rfl,by rw[h2];exact bb.live,bb.blk,by rw[h1];exact bb.len,by rw[h1];exact bb.term,by rw[h1];exact λi hi=>bb.phis i hi,by rw[h1];exact λi hi=>bb.ins i hi⟩
end
def ja (R:Nat) (i10:Own):Own:=λk=>if k=(8,0) then bx T.bY R (RawN.mk (n:=1) [Sb Sc 0,Sg Sf 0 0]) else if 10<=k.1 then i10 k else Sf
structure FnB (o:Own) (vb:Value) (lb:List BlkM) (f:aq):Prop where
 blk:o (0,2)=it T.dh vb lb
 len:lb.length=f.blocks.length
 term : ∀i,i<f.blocks.length->(nth lb i).term=(nth f.blocks i).term
 phis : ∀i,i<f.blocks.length->o (1,i)=it T.mA (nth lb i).phis.v (nth f.blocks i).phis
 ins : ∀i,i<f.blocks.length->o (2,i)=it T.dA (nth lb i).ins.v (nth f.blocks i).ins
theorem L4{H:View}{lb:List BlkM}{f:aq}(h0:SlRd H vb lb)(hl:lb.length=f.blocks.length)(ht : ∀i,i<f.blocks.length->(nth lb i).term=(nth f.blocks i).term)(h1 : ∀i,i<f.blocks.length->SlRd H (nth lb i).phis.v (nth f.blocks i).phis)(h2 : ∀i,i<f.blocks.length->SlRd H (nth lb i).ins.v (nth f.blocks i).ins):SlRd H vb f.blocks:=by refine Ao h0 rfl hl λi g1 g2 cs hr=>?_;have:=Cw hr (p:=(nth f.blocks i).phis) (i:=(nth f.blocks i).ins) (by have:=h1 i g2;rwa [aB g1]at this) (by have:=h2 i g2;rwa [aB g1]at this);have ht:=ht i g2;rw[aB g1]at ht;rw[ht]at this;rw[<-aB g2];exact this
theorem FnB.freeze{W:View}{h:Heap}{o o0:Own}{lb:List BlkM}{f:aq}(b:FnB o vb lb f)(w:Owns W h o)(ho : ∀k:Key,3<=k.1->o k=o0 k)(ho0 : ∀k:Key,k.1<3->o0 k=Sf): ∃W',W.le W'/\Owns W' h o0/\SlRd W' vb f.blocks:=by
 obtain⟨W17,hW17,w17,fr⟩:=w.yX (λk=>decide (k.1<3));refine⟨W17,hW17,w17.sub λk i hk=>?_,L4 (fr (k:=(0,2)) Sa b.blk) b.len b.term (λi hi=>fr (k:=(1,i)) Sa (b.phis i hi)) λi hi=>fr (k:=(2,i)) Sa (b.ins i hi)⟩;rcases Ov k.1 3 with e | e
 ·rw[ho0 k e]at hk;cases hk
 have h2:¬k.1<3:=by omega
 simp only[h2,decide_false,PS,if_false];rw[ho k e];exact hk
theorem IH{s:List Int}{vs:Value}{h:Heap}{W:View}{o0:Own}(w0:Owns W h o0)(ho0 : ∀k:Key,k.1<10->o0 k=Sf)(hs:SlRd W vs s):
  aA Sn 35 #[vs] h (λu h'=>∃W' o vb lb,W.le W'/\Owns W' h' o/\(∀k:Key,3<=k.1->o k=o0 k)/\FnB o vb lb (sy s)/\u = .agg #[Sb Sc (sy s).params,vb]):=by
 refine au (args:=[vs]) follows Tryz.func35 E.aw S0 λK hK=>?_;have hs0:=hs;obtain⟨sa,sc,rfl,_⟩:=hs0;dsimp only[L.aw,lkF,lkG];refine aa λz hz=>?_;simp;refine w0.bW (k:=(8,0)) (n:=1) (z:=.agg #[Sb Sc 0,Sg Sf 0 0]) (ho0 _ R4) R1 rfl R4 R8 λh1 q1 w1=>?_;generalize h.size=R at w1;subst hz;refine aa λz hz=>?_;simp;refine an (z:=.agg #[Sg Sf 0 0,Sb Sc 0,Sb Sc 0,Sg Sf 0 0,Sb Sc 0,Sg Sf 0 0]) (places:=[(0,1),(1,1),(2,2),(4,1),(5,1)]) (vs:=[(0,.slice sa s.length sc)]) (cs:=#[.slice sa s.length sc,Sb Sc 0,Sb Sc 0,Sg Sf 0 0,Sb Sc 0,Sg Sf 0 0]) R1 R1 Sa R1 ?_;generalize s.length=sl at hs;refine cr rfl ?_;have hbx:(h1.push (.cells (Value.agg #[.slice sa sl sc,Sb Sc 0,Sb Sc 0,Sg Sf 0 0,Sb Sc 0,Sg Sf 0 0]).cells T.bc))[h1.size]? = Se (.cells (Value.agg #[.slice sa sl sc,Sb Sc 0,Sb Sc 0,Sg Sf 0 0,Sb Sc 0,Sg Sf 0 0]).cells T.bc (0,0)):=by simp
 have hle2:=bC h1 (.cells (Value.agg #[.slice sa sl sc,Sb Sc 0,Sb Sc 0,Sg Sf 0 0,Sb Sc 0,Sg Sf 0 0]).cells T.bc);have hbg : ∀b,(Sg (Se ⟨h1.size,0,Sf⟩) 1 1).ownBlock=Se b->h1.size<=b:=λb hb=>by simp only[Value.ownBlock,N7]at hb;omega
 show LC.wp Sn z _ _ (h1.push (.cells (Value.agg #[.slice sa sl sc,Sb Sc 0,Sb Sc 0,Sg Sf 0 0,Sb Sc 0,Sg Sf 0 0]).cells T.bc));generalize h1.push (.cells (Value.agg #[.slice sa sl sc,Sb Sc 0,Sb Sc 0,Sg Sf 0 0,Sb Sc 0,Sg Sf 0 0]).cells T.bc)=h2 at hbx hle2;have w2:=w1.add (k:=(0,0)) ((Own.ak Sa).trans (ho0 _ R4)) (fe (W:=W) (d:=RawN.mk (n:=5) [.slice sa sl sc,Sb Sc 0,Sb Sc 0,Sg Sf 0 0,Sb Sc 0,Sg Sf 0 0]) hbx (mO rfl R7) R4) hle2 hbg;generalize h1.size=M at w2;generalize hvs:Value.slice sa sl sc=vs at hs w2;obtain⟨m0,hm0⟩ : ∃m0:MS,m0=⟨0,0,[],0,[]⟩:=⟨_,rfl⟩;obtain⟨o2,ho2⟩ : ∃o2:Own,o2=λk=>if k=(0,0) then bx T.bc M (RawN.mk (n:=5) (mkL vs 0 0 (Sg Sf 0 0) 0 (Sg Sf 0 0))) else if k=(0,1) then it T.int (Sg Sf 0 0) ([]:List Int) else if k=(0,2) then it T.dh (Sg Sf 0 0) ([]:List BlkM) else ja R o0 k:=⟨_,rfl⟩;have w2:Owns W h2 o2:=w2.nils λk i hk=>by
  rw[ho2]at hk;dsimp only at hk;split at hk
  ·rename_i e;rw[e];exact .inl hk
  rename_i e0;split at hk
  ·cases hk;exact .inr ⟨rfl,OwnT.nil (α:=Int) _ _ _⟩
  split at hk
  ·cases hk;exact .inr ⟨rfl,OwnT.nil (α:=BlkM) _ _ _⟩
  refine .inl ?_;rw[Own.ak e0];by_cases e8:k=(8,0)
  ·subst e8;exact hk
  rw[Own.ak e8];unfold ja at hk;rw[if_neg e8]at hk;split at hk
  ·exact hk
  cases hk
 have w2:Mk s M vs W h2 o2 m0:=⟨w2,hs,Sg Sf 0 0,Sg Sf 0 0,[],by rw[ho2,hm0];rfl,by rw[ho2,hm0];rfl,by rw[ho2];rfl,by rw[hm0];rfl,λi hi=>by rw[hm0]at hi;simp at hi,λi hi=>by rw[hm0]at hi;simp at hi,λi hi=>by rw[hm0]at hi;simp at hi⟩;have f2 : ∀k:Key,3<=k.1->o2 k=ja R o0 k:=λk hk=>by rw[ho2];dsimp only;rw[if_neg (by rintro rfl;simp at hk),if_neg (by rintro rfl;simp at hk),if_neg (by rintro rfl;simp at hk)]
 clear w1 hbx hbg hle2 q1 ho2;subst hz;refine aa λz hz=>?_;simp;refine aj R1 (w2.take (by rw[hm0];decide) (n:=5) R4 R4) ?_;rintro _ h3 ⟨rfl,o3,w3,f3⟩;have tv:=cT (s:=s) (at_:=m0.at_) (n:=5) R4;obtain⟨vb,vl,lb,bb⟩:=w3.box;refine w3.own.cR (k:=(0,0)) (n:=5) (i:=2) (e:=T.bc) (B:=M) (l:=mkL vs m0.took.at_ m0.took.ps vb m0.took.next vl) bb.box R4 R1 rfl rfl rfl λh4 w4 _=>?_;have b4:=bb.boxed ⟨m0.took.at_,aS s m0.at_ 5,m0.took.blocks,m0.took.next,m0.took.live⟩ rfl rfl;subst hz;refine aa λz hz=>?_;have w4:Mk s M vs W h4 _ _:=⟨w4,w3.src,vb,vl,lb,b4⟩;have rd:=w4.reads b4;simp[rd.ps];refine w4.own.cR (k:=(0,0)) (n:=5) (i:=4) (e:=T.bc) (B:=M) (l:=mkL vs m0.took.at_ (aS s m0.at_ 5) vb m0.took.next vl) b4.box R4 R1 rfl rfl rfl λh5 w5 _=>?_;have b5:=b4.boxed ⟨m0.took.at_,aS s m0.at_ 5,m0.took.blocks,aS s m0.at_ 5,m0.took.live⟩ rfl rfl;have w5:Mk s M vs W h5 _ _:=⟨w5,w3.src,vb,vl,lb,b5⟩;obtain⟨o5,ho5⟩ : ∃o5,o5=(o3.upd (0,0) (bx T.bc M (RawN.mk (n:=5) (mkL vs m0.took.at_ (aS s m0.at_ 5) vb m0.took.next vl)))).upd (0,0) (bx T.bc M (RawN.mk (n:=5) (mkL vs m0.took.at_ (aS s m0.at_ 5) vb (aS s m0.at_ 5) vl))):=⟨_,rfl⟩;have f5 : ∀k:Key,3<=k.1->o5 k=ja R o0 k:=λk hk=>by rw[ho5,Own.ak (by rintro rfl;simp at hk),Own.ak (by rintro rfl;simp at hk),f3 k hk,f2 k hk]
 rw[hm0]at w5;have w5:Mk s M vs W h5 o5 ⟨1,aS s 0 5,[],aS s 0 5,[]⟩:=by rw[ho5,hm0];exact w5
 clear b5 b4 rd w4 bb w3 f3 w2 f2 ho5 hvs;subst hz;refine aa λz hz=>?_;simp;refine aj R1 (w5.take (show 1<=_ by omega) (n:=9) R4 R4) ?_;rintro _ h6 ⟨rfl,o6,w6,f6⟩;have w6:Mk s M vs W h6 o6 (yA s):=w6;have f6 : ∀k:Key,3<=k.1->o6 k=ja R o0 k:=λk hk=>(f6 k hk).trans (f5 k hk);clear w5 f5;have hN:=Fa (s:=s);obtain⟨n1,n2⟩:=lu (s:=s);have hw:IntKind.i64.wrap (1+aS s 1 9)=(ck s:Nat):=by rw[hN];exact bj R3 R3
 simp[hw];subst hz;refine aa λz hz=>?_;simp;refine aj R1 (Ee (ri:=ja R o0) w6 (λk hk=>f6 k R3) (λk h1 h2=>(f6 k h1).trans (by unfold ja;rw[if_neg (by rintro rfl;simp at h2),if_neg R3])) (n:=ck s) BD R3 n1 R3) ?_;rintro vt h7 ⟨W7,o7,g7,w7,r7,e7,st⟩;have w7:Mk s M vs W7 h7 o7 (jA s).2:=w7;have st:SlRd W7 vt (jA s).1:=st;have f7 : ∀k:Key,3<=k.1->o7 k=ja R o0 k:=λk hk=>by
  by_cases e:8<=k.1
  ·exact r7 k e
  rw[e7 k hk R3];unfold ja;rw[if_neg (by rintro rfl;simp at e),if_neg R3]
 clear r7 e7 w6 f6;have k1:=Ag (s:=s);have s4:=xC (s:=s);subst hz;refine aa λz hz=>?_;simp;refine mL (α:=BlkM) (W:=W7) (k:=.i64) (n:=ck s) (d:=⟨⟨Sg Sf 0 0⟩,⟨Sg Sf 0 0⟩,⟨0,[],[],⟨0⟩⟩⟩) El.kf RZ RZ ⟨[Sg Sf 0 0],_,rfl,⟨rfl,rfl⟩,[Sg Sf 0 0],_,rfl,⟨rfl,rfl⟩,[Sb Sc 0],_,rfl,⟨rfl,by decide,by decide⟩,[Sg Sf 0 0],_,rfl,⟨_,rfl,aF⟩,[Sg Sf 0 0],_,rfl,⟨_,rfl,aF⟩,rfl,by decide,by decide⟩ R3 R3 λvb8 h8 ob8 m8 hle8 hb8=>?_;obtain⟨vb,vl,lb,bb⟩:=w7.box;have wa:=w7.own.sub (o':=o7.upd (0,2) Sf) λj i hj=>by
  unfold Own.upd at hj;split at hj
  ·cases hj
  exact hj
 have wb:=wa.add (k:=(0,2)) Own.ah ob8 hle8 (λb hb=>by rw[hb8]at hb;cases hb;exact N8 _);have hv8:=(wb.cells (k:=(0,2)) Own.ah).2;obtain⟨o8,ho8⟩ : ∃o8:Own,o8=λk=>if k.1=1/\k.2<ck s then it T.mA (Sg Sf 0 0) ([]:List PhiD) else if k.1=2/\k.2<ck s then it T.dA (Sg Sf 0 0) ([]:List InsD) else o7.upd (0,2) (it T.dh vb8 (List.replicate (ck s) (BlkM.mk ⟨Sg Sf 0 0⟩ ⟨Sg Sf 0 0⟩ ⟨0,[],[],⟨0⟩⟩))) k:=⟨_,rfl⟩;have w8:Owns W7 h8 o8:=wb.nils λk i hk=>by
  rw[ho8]at hk;dsimp only at hk;split at hk
  ·cases hk;exact .inr ⟨rfl,OwnT.nil (α:=PhiD) _ _ _⟩
  split at hk
  ·cases hk;exact .inr ⟨rfl,OwnT.nil (α:=InsD) _ _ _⟩
  refine .inl ?_;by_cases e:k=(0,2)
  ·subst e;rw[Own.ah]at hk ⊢;exact hk
  rw[Own.ak e]at hk;rw[Own.ak e,Own.ak e];exact hk
 have c8 : ∀k:Key,¬(k.1=1/\k.2<ck s)->¬(k.1=2/\k.2<ck s)->o8 k=o7.upd (0,2) (it T.dh vb8 (List.replicate (ck s) (BlkM.mk ⟨Sg Sf 0 0⟩ ⟨Sg Sf 0 0⟩ ⟨0,[],[],⟨0⟩⟩))) k:=λk h1 h2=>by rw[ho8];dsimp only;rw[if_neg h1,if_neg h2]
 refine w8.cR (k:=(0,0)) (n:=5) (i:=3) (e:=T.bc) (B:=M) (l:=mkL vs (jA s).2.at_ (jA s).2.ps vb (jA s).2.next vl) (by rw[c8 _ Sa Sa,Own.ak Sa];exact bb.box) R4 R1 rfl rfl hv8 λh9 w9 _=>?_;obtain⟨o9,ho9⟩ : ∃o9:Own,o9=o8.upd (0,0) (bx T.bc M (RawN.mk (n:=5) (mkL vs (jA s).2.at_ (jA s).2.ps vb8 (jA s).2.next vl))):=⟨_,rfl⟩;have w9:Owns W7 h9 o9:=by rw[ho9];exact w9
 have b9:MkB M vs { (jA s).2 with blocks:=List.replicate (ck s) uG } o9 vb8 vl (List.replicate (ck s) (BlkM.mk ⟨Sg Sf 0 0⟩ ⟨Sg Sf 0 0⟩ ⟨0,[],[],⟨0⟩⟩)):=by
  rw[ho9];refine⟨rfl,?_,?_,by simp,λi hi=>?_,λi hi=>?_,λi hi=>?_⟩
  ·rw[Own.ak Sa,c8 _ Sa Sa,Own.ak Sa];exact bb.live
  ·rw[Own.ak Sa,c8 _ Sa Sa,Own.ah]
  ·have hi:i<ck s:=by simpa using hi
   rw[aL hi,aL hi];rfl
  ·have hi:i<ck s:=by simpa using hi
   rw[Own.ak Sa,ho8];dsimp only;rw[if_pos ⟨rfl,hi⟩,aL hi,aL hi];rfl
  have hi:i<ck s:=by simpa using hi
  rw[Own.ak Sa,ho8];dsimp only;rw[if_neg Sa,if_pos ⟨rfl,hi⟩,aL hi,aL hi];rfl
 have x9:Nx s M vs W7 h9 (ja R o0) { (jA s).2 with blocks:=List.replicate (ck s) uG }:=⟨W7,o9,View.le_refl _,⟨w9,w7.src,vb8,vl,_,b9⟩,λk hk=>by rw[ho9,Own.ak (by rintro rfl;simp at hk),c8 _ R3 R3,Own.ak (by rintro rfl;simp at hk)];exact f7 k hk⟩;clear b9 w9 ho9 c8 w8 ho8 wb wa hv8 bb ob8 m8 hle8 hb8 w7 f7;subst hz;refine aa λz hz=>?_;refine aa λy hy=>?_;simp;subst hy;refine J8 (vr:=Si (Se ⟨R,0,Sf⟩)) st k1.len x9 Sa R3 (by simp[bD,af,ag]) λh10 x10=>?_;have x10:Nx s M vs W7 h10 (ja R o0) (tJ s):=x10;clear x9;simp;subst hz;refine aa λz hz=>?_;simp;obtain⟨Wa,oa,ga,wa,fa⟩:=x10;refine mL (α:=Int) (W:=Wa) (k:=.i64) (n:=ck s) (d:=0) El.aP RZ RZ ⟨rfl,by decide,by decide⟩ R3 R3 λvp h11 ob11 m11 hle11 hb11=>?_;have x11:Nx s M vs W7 h11 ((ja R o0).upd (5,0) (it T.int vp (List.replicate (ck s) (0:Int)))) (tJ s):=by
  have w11:=wa.own.add (k:=(5,0)) ((fa _ R4).trans rfl) ob11 hle11 (λb hb=>by rw[hb11]at hb;cases hb;exact N8 _);obtain⟨vb,vl,lb,bb⟩:=wa.box;refine⟨Wa,_,ga,⟨w11,wa.src,vb,vl,lb,bb.frame λq hq=>Own.ak (by rintro rfl;simp at hq)⟩,λq hq=>?_⟩;unfold Own.upd;split
  ·rfl
  exact fa q hq
 clear wa fa ob11 m11 hb11;subst hz;refine aa λz hz=>?_;refine aa λy hy=>?_;simp;subst hy;obtain⟨z2,g2⟩:=CL (s:=s);have p0:Ph (ck s) 200 0 (List.replicate (ck s) (0:Int),tJ s):=by
  have hz : ∀j,nth (List.replicate (ck s) (0:Int)) j=0:=λj=>by
   rcases Ov j (ck s)with hj | hj
   ·rw[aL hj]
   rw[dx (by simpa using hj)];rfl
  exact⟨z2,by simp,λj _=>hz j,λj=>by show 0<=nth (List.replicate _ (0:Int)) j/\nth (List.replicate _ (0:Int)) j<=3;rw[hz];omega⟩
 refine J0 (x0:=(List.replicate (ck s) (0:Int),tJ s)) (vr:=Si (Se ⟨R,0,Sf⟩)) (vt:=vt) (vp:=vp) x11 p0 n1 R3 R3 (by simp[bD,af,ag]) λh12 x12=>?_;have x12:Nx s M vs W7 h12 ((ja R o0).upd (5,0) (it T.int vp (kq s).1)) (kq s).2:=x12;obtain⟨ph,pc,g3⟩:=tM (s:=s);clear p0 x11 z2 g2;simp;subst hz;refine aa λz hz=>?_;simp;obtain⟨Wa,oa,ga,wa,fa⟩:=x12;refine mL (α:=Bool) (W:=Wa) (k:=.i64) (n:=ck s) (d:=false) El.mg RZ RZ rfl R3 R3 λvd h13 ob13 m13 hle13 hb13=>?_;have x13:Nx s M vs W7 h13 (((ja R o0).upd (5,0) (it T.int vp (kq s).1)).upd (6,0) (it T.bool vd (List.replicate (ck s) Sk))) (kq s).2:=by
  have w13:=wa.own.add (k:=(6,0)) ((fa _ R4).trans rfl) ob13 hle13 (λb hb=>by rw[hb13]at hb;cases hb;exact N8 _);obtain⟨vb,vl,lb,bb⟩:=wa.box;refine⟨Wa,_,ga,⟨w13,wa.src,vb,vl,lb,bb.frame λq hq=>Own.ak (by rintro rfl;simp at hq)⟩,λq hq=>?_⟩;unfold Own.upd;split
  ·rfl
  exact fa q hq
 clear wa fa ob13 m13 hb13;subst hz;refine aa λz hz=>?_;refine aa λy hy=>?_;simp;subst hy;refine Jp (a:=16000) (p:=27) (x0:=(List.replicate (ck s) Sk,(kq s).2)) (vr:=Si (Se ⟨R,0,Sf⟩)) (vp:=vp) x13 st k1.len rfl rfl rfl Cu n2 R3 R3 R3 (by simp[bD,af,ag]) λh14 x14=>?_;have x14:Nx s M vs W7 h14 (((ja R o0).upd (5,0) (it T.int vp (kq s).1)).upd (6,0) (it T.bool vd (zX s).1)) (zX s).2:=x14;obtain⟨q4,pc4⟩:=Cn (s:=s);clear x13 pc g3;simp;subst hz;refine aa λz hz=>?_;refine aa λy hy=>?_;simp;subst hy;refine G2 (vr:=Si (Se ⟨R,0,Sf⟩)) (vt:=vt) (vp:=vp) (vd:=vd) (lp:=(kq s).1) x14 ((Own.ak Sa).trans Own.ah) rfl rfl q4 pc4 ph.len ph.rng n1 n2 R3 R3 R3 R3 (by simp[bD,af,ag]) λh15 x15=>?_;have x15:Nx s M vs W7 h15 (((ja R o0).upd (5,0) (it T.int vp (kq s).1)).upd (6,0) (it T.bool vd (zX s).1)) (q7 s):=x15;have q5:=tL (s:=s);clear x14 q4 pc4 ph;simp;subst hz;refine aa λz hz=>?_;obtain⟨Wa,oa,ga,wa,fa⟩:=x15;obtain⟨vb,vl,lb,bb⟩:=wa.box;have rd:=wa.reads bb;simp[rd.f];have hvb:vb.oneCell'=true:=rd.blk.cells.2;refine wa.own.cA (k:=(8,0)) (α:=RawN 1) (β:=RawN 1) Part.all (B:=R) (D:=RawN.mk (n:=1) [Sb Sc 0,Sg Sf 0 0]) (d:=RawN.mk (n:=1) [Sb Sc (q7 s).ps,vb]) ((fa _ R4).trans rfl) R1 rfl rfl (mO rfl (by intro c hc;simp only[OO,PF,or_false]at hc;rcases hc with rfl | rfl<;>first | rfl | exact hvb)) λh16 w16 _=>?_;have c16:=w16.ny (k:=(8,0)) (n:=1) (l:=[Sb Sc (q7 s).ps,vb]) Own.ah;have c16:Un.ev (vw h16) (.aT 2) (Si (Se ⟨R,0,Sf⟩))=Se (.agg #[Sb Sc (q7 s).ps,vb]):=c16;have b16:=bb.frame (o':=oa.upd (8,0) (bx T.bY R (RawN.mk (n:=1) [Sb Sc (q7 s).ps,vb]))) λq hq=>Own.ak (by rintro rfl;simp at hq);have w16:Mk s M vs Wa h16 _ (q7 s):=⟨w16,wa.src,vb,vl,lb,b16⟩;have rd16:=w16.reads b16;subst hz;simp[c16];refine hK _ _ ⟨Wa,λk=>if 3<=k.1 then o0 k else if k=(0,2)\/k.1=1\/k.1=2 then oa k else Sf,vb,lb,S3 g7 ga,w16.own.sub λk i hk=>?_,λk hk=>if_pos hk,⟨?_,b16.len,b16.term,λi hi=>?_,λi hi=>?_⟩,rfl⟩
 ·split at hk
  ·rename_i e3;rcases Ov k.1 10 with e | e
   ·rw[ho0 k e]at hk;cases hk
   have h1:oa k=o0 k:=(fa k R3).trans (by rw[Own.ak (by rintro rfl;simp at e),Own.ak (by rintro rfl;simp at e)];unfold ja;rw[if_neg (by rintro rfl;simp at e),if_pos e]);rw[Own.ak (by rintro rfl;simp at e),h1];exact hk
  rename_i e3;split at hk
  ·rw[Own.ak (by rintro rfl;simp at e3)];exact hk
  cases hk
 ·have:=b16.blk;rw[Own.ak Sa]at this;simpa using this
 ·have:=b16.phis i hi;rw[Own.ak Sa]at this;exact(by simp:_=oa (1,i)).trans this
 have:=b16.ins i hi;rw[Own.ak Sa]at this;exact(by simp:_=oa (2,i)).trans this
theorem Jl{s:List Int}{vs:Value}{h:Heap}{W:View}{o0:Own}(w0:Owns W h o0)(ho0 : ∀k:Key,k.1<10->o0 k=Sf)(hs:SlRd W vs s):
  aA Sn 35 #[vs] h (λu h'=>∃W',W.le W'/\Owns W' h' o0/\Rd W' u (sy s)):=by refine(IH w0 ho0 hs).mono ?_;rintro u h' ⟨W1,o,vb,lb,hW,w,ho,b,rfl⟩;obtain⟨W2,hW2,w2,sb⟩:=b.freeze w ho λk hk=>ho0 k R3;have mp:=Cj (s:=s);have mi:I64 (sy s).params:=R6;exact⟨W2,S3 hW hW2,w2,⟨_,rfl,[Sb Sc (sy s).params],[vb],rfl,⟨rfl,mi⟩,vb,rfl,sb⟩⟩
theorem zT{s:List Int}{v:Value}{h:Heap}{W:View}{o0:Own}(w0:Owns W h o0)(ho0 : ∀k:Key,k.1<10->o0 k=Sf)(h21:o0 (21,0)=Sf)(hs:SlRd W v s):
  aA Sn 13 #[v] h (λu h'=>∃W',W.le W'/\Owns W' h' o0/\Rd W' u (sy (s.take 200))):=by
 refine au (args:=[v]) follows Tryz.func13 E.pA S0 λK hK=>?_;dsimp only[L.pA,lkF,lkG];have hb:=hs.bound;refine aa λz hz=>?_;simp;refine w0.bW (k:=(21,0)) (n:=1) (z:=.agg #[Sb Sc 0,Sg Sf 0 0]) h21 R1 rfl R4 R8 λh1 hle1 w1=>?_;generalize h.size=R at w1;subst hz;refine aa λz hz=>?_;have ho : ∀k:Key,k.1<10->(o0.upd (21,0) (bx T.bY R (RawN.mk (n:=1) (Value.agg #[Sb Sc 0,Sg Sf 0 0]).cells.toList))) k=none:=λk hk=>(Own.ak (by rintro rfl;simp at hk)).trans (ho0 k hk);have fin : ∀(W2:View) (h2:Heap) (u:Value) (ρ:Env),W.le W2->Owns W2 h2 (o0.upd (21,0) (bx T.bY R (RawN.mk (n:=1) (Value.agg #[Sb Sc 0,Sg Sf 0 0]).cells.toList)))->Rd W2 u (sy (s.take 200))->Lft.look ρ 2=Se (ptr R)->∀(po:OP) (us:List (Nat × Value)),asg us (.tmp 2)=ptr R->asg us (.tmp 8)=u->
   @Lft.step po Sn (Op.store 27 (Operand.tmp 2) (Operand.tmp 8)) 0 us h2 λ_ h'=>LC.wp Sn z (cz [.un (.aT 2) (.tmp 2)] K) ρ h':=λW2 h2 u ρ hW w2 r hl po us e1 e2=>by
  have q:=fV r;obtain⟨cs,rfl,h3⟩:=r;have hl3:=Rep.len h3;refine w2.iS (k:=(21,0)) (n:=1) (l':=cs.toList) Own.ah R1 e1 (by simpa using e2) (by rw[hl3];rfl) (λc hc=>Rep.flat h3 c hc) λh4 w4 _=>?_;rw[hz];have hall:=w4.ny (k:=(21,0)) (n:=1) (e:=T.bY) (B:=R) (l:=cs.toList) Own.ah;simp at hall;simp[hl,hall];refine hK _ _ ⟨W2,hW,w4.sub λj i hj=>?_,⟨_,rfl,h3⟩⟩;have:j≠(21,0):=by rintro rfl;rw[h21]at hj;cases hj
  rw[Own.ak this,Own.ak this];exact hj
 clear hK;have tk : ∃us,Bn.ev .hi v (Sb Sc (if(200:Int)<s.length then 200 else s.length))=Se us/\SlRd W us (s.take 200):=by
  by_cases q:(200:Int)<s.length
  ·obtain⟨u,h2,h3⟩:=hs.take (n:=200) R3 (kd:=.i64);exact⟨u,by rw[if_pos q];exact h2,h3⟩
  obtain⟨u,h2,h3⟩:=hs.take (n:=s.length) R3 (kd:=.i64);refine⟨u,by rw[if_neg q];exact h2,?_⟩;rw[OK R3];rw[OK (N8 _)]at h3;exact h3
 obtain⟨us,h2,h3⟩:=tk;simp[hs.len,h2];refine aj R1 (Jl w1 ho h3) ?_;rintro u8 h8 ⟨W8,hW8,w8,r8⟩;exact fin W8 h8 u8 [(0,v),(2,ptr R),(8,u8)] hW8 w8 r8 rfl _ [(2,ptr R),(8,u8)] rfl rfl
theorem DW{a:EndD}:Ev a a=true:=by simp[Ev]
end Go.Proofs.YtnfiilgdjpdlkaaGreatDoor
namespace Go.Lft
open Go
variable {po:OP}
theorem Gu {P:Program} {t ty e:TypeId} {us:List (Nat × Value)} {h:Heap} {K:Value->Heap->Prop} {x:Operand} {B n sz:Nat} (ht:P.underlying t=Se (.array n e)) (hz:cH P e=Se sz) (hx:asg us x = Si (Se ⟨B,0,Sf⟩)) (hk:K (Sg (Se ⟨B,0,Sf⟩) n n) h):step P (.slice t x Sf Sf Sf) ty us h K:=by refine dv (cG λw hw=>⟨Sg (Se ⟨B,0,Sf⟩) n n,w,?_,Same.refl _,by rw[hw];exact hk⟩);have e3:=run_sizeOf (w:=w) hz;simp only[bU,execOp,hx];simp[Instr.sliceAt,Instr.sureAddr,run_underlying ht,Instr.sliceBounds,e3,Addr.add]
end Go.Lft
namespace Go.Proofs.YtnfiilgdjpdlkaaGreatDoor
open Go Go.Lft
structure TB (c:Nat) (x:BlkD):Prop where
 phis:x.phis.length<=c
 ins:x.ins.length<=c
 args:x.term.args.length<=c
 «to»:x.term.to.length<=c
 pin : ∀p∈x.phis,p.ins.length<=c
 iar : ∀i∈x.ins,i.args.length<=c
structure TF (c:Nat) (f:aq):Prop where
 len:f.blocks.length<=12
 blk : ∀x∈f.blocks,TB c x
theorem TB.mono {c d:Nat} {x:BlkD} (t:TB c x) (h:c<=d):TB d x:=⟨OX t.phis h,OX t.ins h,OX t.args h,OX t.to h,λp hp=>OX (t.pin p hp) h,λi hi=>OX (t.iar i hi) h⟩
theorem TF.mono {c d:Nat} {f:aq} (t:TF c f) (h:c<=d):TF d f:=⟨t.len,λx hx=>(t.blk x hx).mono h⟩
theorem TF.sm {c:Nat} {f:aq} (t:TF c f) (h:c<=10000):SmF f:=by refine⟨by have:=t.len;omega,λi hi=>?_⟩;have q:=t.blk _ (bw hi);exact⟨by have:=q.phis;omega,by have:=q.ins;omega,by have:=q.args;omega,by have:=q.to;omega,λk hk=>by have:=q.pin _ (bw hk);omega,λk hk=>by have:=q.iar _ (bw hk);omega⟩
theorem JR {s:List Int}:TF 1000 (sy s):=by have q:=tL (s:=s);have hn:=lu (s:=s);refine⟨by show(q7 s).blocks.length<=_;rw[q.z.len];omega,λx hx=>?_⟩;obtain⟨j,hj,rfl⟩:=OS hx;have hj:j<(q7 s).blocks.length:=hj;have g:=q.g j hj;have this:TB 1000 (nth (q7 s).blocks j):=⟨by have:=q.z.phis j;omega,q.z.ins j,by have:=g.args;omega,g.to,λp hp=>g.phis p hp,λi hi=>by have:=g.ins i hi;omega⟩;rw[aB hj]at this;exact this
structure Tu (R F X:Nat) (i10:Own) (c:Nat) (W0:View) (vbk:Value) (bl:List BlkD) (W:View) (o:Own) (ps:Int) (vp vi va vt:Value) (kd im:Int) (lp:List PhiD) (li:List InsD) (la lt:List Int):Prop where
 le:W0.le W
 res:o (8,0)=bx T.bY R (RawN.mk (n:=1) [Sb Sc 0,Sg Sf 0 0])
 fn:o (8,1)=bx T.bY F (RawN.mk (n:=1) [Sb Sc ps,vbk])
 blk:o (3,0)=it T.dh vbk bl
 box:o (3,1)=bx T.dh X (RawN.mk (n:=5) [vp,vi,Sb Sc kd,va,vt,Sb Sd im])
 ins:o (3,2)=it T.dA vi li
 phis:o (3,3)=it T.mA vp lp
 free:o (4,0)=Sf
 fr : ∀k:Key,10<=k.1->o k=i10 k
 ra:SlRd W va la
 rt:SlRd W vt lt
 ips:I64 ps
 ikd:I64 kd
 iim:-2147483648<=im/\im<=2147483647
 tb:TB c ⟨lp,li,⟨kd,la,lt,⟨im⟩⟩⟩
def TuE (R F X:Nat) (i10:Own) (c:Nat) (W0:View) (vbk:Value) (bl:List BlkD) (h:Heap):Prop:=∃W o ps vp vi va vt kd im lp li la lt,Tu R F X i10 c W0 vbk bl W o ps vp vi va vt kd im lp li la lt/\Owns W h o
theorem TuE.mono {R F X:Nat} {i10:Own} {c d:Nat} {W0:View} {vbk:Value} {bl:List BlkD} {h:Heap} (t:TuE R F X i10 c W0 vbk bl h) (hd:c<=d):TuE R F X i10 d W0 vbk bl h:=by obtain⟨W,o,ps,vp,vi,va,vt,kd,im,lp,li,la,lt,t,w⟩:=t;exact⟨W,o,ps,vp,vi,va,vt,kd,im,lp,li,la,lt,⟨t.le,t.res,t.fn,t.blk,t.box,t.ins,t.phis,t.free,t.fr,t.ra,t.rt,t.ips,t.ikd,t.iim,t.tb.mono hd⟩,w⟩
section
variable {R F X c:Nat} {i10:Own} {W0 W:View} {vbk:Value} {bl:List BlkD} {h:Heap} {o:Own} {ps:Int} {vp vi va vt:Value} {kd im:Int} {lp:List PhiD} {li:List InsD} {la lt:List Int}
theorem Tu.wider (t:Tu R F X i10 c W0 vbk bl W o ps vp vi va vt kd im lp li la lt) {W':View} (hW:W.le W'):Tu R F X i10 c W0 vbk bl W' o ps vp vi va vt kd im lp li la lt:=
 ⟨S3 t.le hW,t.res,t.fn,t.blk,t.box,t.ins,t.phis,t.free,t.fr,t.ra.mono hW,t.rt.mono hW,t.ips,t.ikd,t.iim,t.tb⟩
theorem Tu.more (t:Tu R F X i10 c W0 vbk bl W o ps vp vi va vt kd im lp li la lt) {d:Nat} (hd:c<=d):Tu R F X i10 d W0 vbk bl W o ps vp vi va vt kd im lp li la lt:=
 ⟨t.le,t.res,t.fn,t.blk,t.box,t.ins,t.phis,t.free,t.fr,t.ra,t.rt,t.ips,t.ikd,t.iim,t.tb.mono hd⟩
variable {po:OP} {ty t2:TypeId} {us:List (Nat × Value)} {x y:Operand} {K:Value->Heap->Prop}
theorem Tu.Gy (t:Tu R F X i10 c W0 vbk bl W o ps vp vi va vt kd im lp li la lt) (w:Owns W h o) {p:Int} (hp:I64 p) (hsz:cH Sn t2=Se 1) (hx:asg us x = Si (Se ⟨F,0,Sf⟩)) (hy:asg us y = Sb Sc p) (hK : ∀h',TuE R F X i10 c W0 vbk bl h'->K undef h'):@Lft.step po Sn (.store t2 x y) ty us h K:=
 w.cR (k:=(8,1)) (n:=1) (i:=0) t.fn R4 hsz hx hy rfl λh' w' _=>hK h' ⟨W,_,p,vp,vi,va,vt,kd,im,lp,li,la,lt,⟨t.le,(Own.ak Sa).trans t.res,Own.ah,(Own.ak Sa).trans t.blk,(Own.ak Sa).trans t.box,(Own.ak Sa).trans t.ins,(Own.ak Sa).trans t.phis,(Own.ak Sa).trans t.free,λk hk=>(Own.ak (by rintro rfl;simp at hk)).trans (t.fr k hk),t.ra,t.rt,hp,t.ikd,t.iim,t.tb⟩,w'⟩
theorem Tu.Jv (t:Tu R F X i10 c W0 vbk bl W o ps vp vi va vt kd im lp li la lt) (w:Owns W h o) {p:Int} (hp:I64 p) (hsz:cH Sn t2=Se 1) (hx:asg us x = Si (Se ⟨X,2,Sf⟩)) (hy:asg us y = Sb Sc p) (hK : ∀h',TuE R F X i10 c W0 vbk bl h'->K undef h'):@Lft.step po Sn (.store t2 x y) ty us h K:=
 w.cR (k:=(3,1)) (n:=5) (i:=2) t.box R4 hsz hx hy rfl λh' w' _=>hK h' ⟨W,_,ps,vp,vi,va,vt,p,im,lp,li,la,lt,⟨t.le,(Own.ak Sa).trans t.res,(Own.ak Sa).trans t.fn,(Own.ak Sa).trans t.blk,Own.ah,(Own.ak Sa).trans t.ins,(Own.ak Sa).trans t.phis,(Own.ak Sa).trans t.free,λk hk=>(Own.ak (by rintro rfl;simp at hk)).trans (t.fr k hk),t.ra,t.rt,t.ips,hp,t.iim,⟨t.tb.phis,t.tb.ins,t.tb.args,t.tb.to,t.tb.pin,t.tb.iar⟩⟩,w'⟩
theorem Tu.Ek (t:Tu R F X i10 c W0 vbk bl W o ps vp vi va vt kd im lp li la lt) (w:Owns W h o) {v:Value} {l:List Int} (hv:SlRd W v l) (hl:l.length<=c) (hsz:cH Sn t2=Se 1) (hx:asg us x = Si (Se ⟨X,4,Sf⟩)) (hy:asg us y=v) (hK : ∀h',TuE R F X i10 c W0 vbk bl h'->K undef h'):@Lft.step po Sn (.store t2 x y) ty us h K:=
 w.cR (k:=(3,1)) (n:=5) (i:=4) t.box R4 hsz hx hy hv.cells.2 λh' w' _=>hK h' ⟨W,_,ps,vp,vi,va,v,kd,im,lp,li,la,l,⟨t.le,(Own.ak Sa).trans t.res,(Own.ak Sa).trans t.fn,(Own.ak Sa).trans t.blk,Own.ah,(Own.ak Sa).trans t.ins,(Own.ak Sa).trans t.phis,(Own.ak Sa).trans t.free,λk hk=>(Own.ak (by rintro rfl;simp at hk)).trans (t.fr k hk),t.ra,hv,t.ips,t.ikd,t.iim,⟨t.tb.phis,t.tb.ins,t.tb.args,hl,t.tb.pin,t.tb.iar⟩⟩,w'⟩
theorem Tu.DE {β:Type} [Rep β] {off:Nat} {g:InsD->β} {s:InsD->β->InsD} (p:Part InsD β off g s) (t:Tu R F X i10 c W0 vbk bl W o ps vp vi va vt kd im lp li la lt) (w:Owns W h o) {j:Nat} {v:Value} {d:β} (hj:j<li.length) (hr:Rd W v d) (hs:(s li[j] d).args.length<=c) (hsz:cH Sn t2=Se (Rep.n β)) (hx:asg us x = Si (Se (((slA vi).add (j*5)).add off))) (hy:asg us y=v) (hK : ∀h',TuE R F X i10 c W0 vbk bl h'->K undef h'):@Lft.step po Sn (.store t2 x y) ty us h K:=
 w.mQ (k:=(3,2)) (α:=InsD) p (v:=vi) (l:=li) (i:=j) t.ins hsz hx hy hj hr λh' w' _=>hK h' ⟨W,_,ps,vp,vi,va,vt,kd,im,lp,li.set j (s li[j] d),la,lt,⟨t.le,(Own.ak Sa).trans t.res,(Own.ak Sa).trans t.fn,(Own.ak Sa).trans t.blk,(Own.ak Sa).trans t.box,Own.ah,(Own.ak Sa).trans t.phis,(Own.ak Sa).trans t.free,λk hk=>(Own.ak (by rintro rfl;simp at hk)).trans (t.fr k hk),t.ra,t.rt,t.ips,t.ikd,t.iim,⟨t.tb.phis,by rw[OR];exact t.tb.ins,t.tb.args,t.tb.to,t.tb.pin,λi hi=>by
   rcases Pw hi with q | q
   ·exact t.tb.iar i q
   rw[q];exact hs⟩⟩,w'⟩
theorem Tu.IG (t:Tu R F X i10 c W0 vbk bl W o ps vp vi va vt kd im lp li la lt) (w:Owns W h o) {j:Nat} {v:Value} {d:List InD} (hj:j<lp.length) (hr:SlRd W v d) (hs:d.length<=c) (hsz:cH Sn t2=Se 1) (hx:asg us x = Si (Se (((slA vp).add (j*2)).add 1))) (hy:asg us y=v) (hK : ∀h',TuE R F X i10 c W0 vbk bl h'->K undef h'):@Lft.step po Sn (.store t2 x y) ty us h K:=
 w.mQ (k:=(3,3)) (α:=PhiD) PhiD.jB (v:=vp) (l:=lp) (i:=j) t.phis hsz hx hy hj (eD.2 hr) λh' w' _=>hK h' ⟨W,_,ps,vp,vi,va,vt,kd,im,lp.set j { lp[j]with ins:=d },li,la,lt,⟨t.le,(Own.ak Sa).trans t.res,(Own.ak Sa).trans t.fn,(Own.ak Sa).trans t.blk,(Own.ak Sa).trans t.box,(Own.ak Sa).trans t.ins,Own.ah,(Own.ak Sa).trans t.free,λk hk=>(Own.ak (by rintro rfl;simp at hk)).trans (t.fr k hk),t.ra,t.rt,t.ips,t.ikd,t.iim,⟨by rw[OR];exact t.tb.phis,t.tb.ins,t.tb.args,t.tb.to,λi hi=>by
   rcases Pw hi with q | q
   ·exact t.tb.pin i q
   rw[q];exact hs,t.tb.iar⟩⟩,w'⟩
theorem Tu.Jx (t:Tu R F X i10 c W0 vbk bl W o ps vp vi va vt kd im lp li la lt) {v:Value} {l:List InsD} (w:Owns W h (o.upd (3,2) (it T.dA v l))) (hl:l.length<=c) (ha : ∀i∈l,i.args.length<=c) (hsz:cH Sn t2=Se 1) (hx:asg us x = Si (Se ⟨X,1,Sf⟩)) (hy:asg us y=v) (hK : ∀h',TuE R F X i10 c W0 vbk bl h'->K undef h'):@Lft.step po Sn (.store t2 x y) ty us h K:=
 w.cR (k:=(3,1)) (n:=5) (i:=1) ((Own.ak Sa).trans t.box) R4 hsz hx hy (w.cells (k:=(3,2)) Own.ah).2 λh' w' _=>hK h' ⟨W,_,ps,vp,v,va,vt,kd,im,lp,l,la,lt,⟨t.le,(Own.ak Sa).trans ((Own.ak Sa).trans t.res),(Own.ak Sa).trans ((Own.ak Sa).trans t.fn),(Own.ak Sa).trans ((Own.ak Sa).trans t.blk),Own.ah,(Own.ak Sa).trans Own.ah,(Own.ak Sa).trans ((Own.ak Sa).trans t.phis),(Own.ak Sa).trans ((Own.ak Sa).trans t.free),λk hk=>(Own.ak (by rintro rfl;simp at hk)).trans ((Own.ak (by rintro rfl;simp at hk)).trans (t.fr k hk)),t.ra,t.rt,t.ips,t.ikd,t.iim,⟨t.tb.phis,hl,t.tb.args,t.tb.to,t.tb.pin,ha⟩⟩,w'⟩
theorem Tu.JN (t:Tu R F X i10 c W0 vbk bl W o ps vp vi va vt kd im lp li la lt) {v:Value} {l:List PhiD} (w:Owns W h (o.upd (3,3) (it T.mA v l))) (hl:l.length<=c) (ha : ∀i∈l,i.ins.length<=c) (hsz:cH Sn t2=Se 1) (hx:asg us x = Si (Se ⟨X,0,Sf⟩)) (hy:asg us y=v) (hK : ∀h',TuE R F X i10 c W0 vbk bl h'->K undef h'):@Lft.step po Sn (.store t2 x y) ty us h K:=
 w.cR (k:=(3,1)) (n:=5) (i:=0) ((Own.ak Sa).trans t.box) R4 hsz hx hy (w.cells (k:=(3,3)) Own.ah).2 λh' w' _=>hK h' ⟨W,_,ps,v,vi,va,vt,kd,im,l,li,la,lt,⟨t.le,(Own.ak Sa).trans ((Own.ak Sa).trans t.res),(Own.ak Sa).trans ((Own.ak Sa).trans t.fn),(Own.ak Sa).trans ((Own.ak Sa).trans t.blk),Own.ah,(Own.ak Sa).trans ((Own.ak Sa).trans t.ins),(Own.ak Sa).trans Own.ah,(Own.ak Sa).trans ((Own.ak Sa).trans t.free),λk hk=>(Own.ak (by rintro rfl;simp at hk)).trans ((Own.ak (by rintro rfl;simp at hk)).trans (t.fr k hk)),t.ra,t.rt,t.ips,t.ikd,t.iim,⟨hl,t.tb.ins,t.tb.args,t.tb.to,ha,t.tb.iar⟩⟩,w'⟩
end
theorem Jz {H:View} {u:Value} {d:BlkD} (h:Rd H u d) : ∃vp vi va vt,u = .agg #[vp,vi,Sb Sc d.term.kind,va,vt,Sb Sd d.term.imm.v]/\SlRd H vp d.phis/\SlRd H vi d.ins/\SlRd H va d.term.args/\SlRd H vt d.term.to/\I64 d.term.kind/\-2147483648<=d.term.imm.v/\d.term.imm.v<=2147483647:=by
 obtain⟨cs,rfl,c1,r1,e1,⟨vp,rfl,h1⟩,c2,r2,e2,⟨vi,rfl,h2⟩,c3,r3,e3,⟨rfl,h3⟩,c4,r4,e4,⟨va,rfl,h4⟩,c5,r5,e5,⟨vt,rfl,h5⟩,h6,h7⟩:=h;subst e5 e4 e3 e2;have he:cs.toList=[vp,vi,Sb Sc d.term.kind,va,vt,Sb Sd d.term.imm.v]:=by rw[e1,h6];rfl
 refine⟨vp,vi,va,vt,?_,h1,h2,h4,h5,h3,h7⟩;rw[<-Array.toList_inj.1 (he.trans rfl:cs.toList = #[vp,vi,Sb Sc d.term.kind,va,vt,Sb Sd d.term.imm.v].toList)]
theorem Owns.elW {W:View} {h:Heap} {o:Own} {k:Key} {α:Type} [r:Rep α] {e:TypeId} {v:Value} {l:List α} (w:Owns W h o) (hk:o k=it e v l) {i:Nat} (hi:i<l.length) : ∃cs,iN (vw h) ((slA v).add (i*Rep.n α)) cs/\cs.length=Rep.n α/\Rep.rd W cs l[i]:=by
 obtain⟨hb,xs,⟨hl,hown⟩,hel⟩:=w.get hk;have h0:=hel i hi;have hle:i*Rep.n α+Rep.n α<=l.length*Rep.n α:=by rw[<-Nat.succ_mul];exact OY _ hi
 have hcl:((xs.drop (i*Rep.n α)).take (Rep.n α)).length=Rep.n α:=by simp;omega
 rcases hown with⟨rfl,hn⟩ | ⟨g,cap,cur,rfl,h2,h3,h4,h5,h6⟩
 ·omega
 have hadd:(slA (Sg (Se ⟨g,0,Sf⟩) l.length cap)).add (i*Rep.n α)=⟨g,i*Rep.n α,Sf⟩:=by show(⟨g,0,Sf⟩:Addr).add _=_;simp[Addr.z]
 rw[hadd];refine⟨_,⟨cur,e,(0,0),rfl,h2,?_⟩,hcl,h0⟩;rw[hcl,<-h6,PK,PE,Pu R3]
theorem Owns.ldW {W:View} {h:Heap} {o:Own} {k:Key} {α:Type} [r:Rep α] {e:TypeId} {v:Value} {l:List α} (w:Owns W h o) (hk:o k=it e v l) (ha:Rep.agg α=Sj) {N:Nat} (hn:Rep.n α=N) {i:Nat} (hi:i<l.length) : ∃u,Un.ev (vw h) (.aT N) (Si (Se ((slA v).add (i*N))))=Se u/\Rd W u l[i]:=by
 subst hn;obtain⟨cs,h1,h2,h3⟩:=Owns.elW w hk hi;have:=fG h1 cs.length 0 #[] R3;refine⟨.agg cs.toArray,?_,?_⟩
 ·simp only[Un.ev,vP,OT];rw[h2]at this;rw[this];simp
 unfold Rd;rw[if_pos ha];exact⟨_,rfl,by simpa using h3⟩
theorem Owns.insW {W:View} {h:Heap} {o:Own} {k:Key} {e:TypeId} {v:Value} {l:List InsD} (w:Owns W h o) (hk:o k=it e v l) {i:Nat} (hi:i<l.length) : ∃va,ao (vw h) (((slA v).add (i*5)).add 3)=Se va/\SlRd W va l[i].args:=by obtain⟨cs,h1,h2,h3⟩:=Owns.elW w hk hi;have hn:Rep.n InsD=5:=rfl;rw[hn]at h1;obtain⟨c1,r1,e1,⟨rfl,q1⟩,c2,r2,e2,⟨rfl,q2⟩,c3,r3,e3,⟨rfl,q3⟩,c4,r4,e4,⟨va,rfl,q4⟩,q5,q6⟩:=h3;subst e4 e3 e2 e1;exact⟨va,gw h1 RZ,q4⟩
theorem Owns.phiW {W:View} {h:Heap} {o:Own} {k:Key} {e:TypeId} {v:Value} {l:List PhiD} (w:Owns W h o) (hk:o k=it e v l) {i:Nat} (hi:i<l.length) : ∃va,ao (vw h) (((slA v).add (i*2)).add 1)=Se va/\SlRd W va l[i].ins:=by obtain⟨cs,h1,h2,h3⟩:=Owns.elW w hk hi;have hn:Rep.n PhiD=2:=rfl;rw[hn]at h1;obtain⟨c1,r1,e1,⟨rfl,q1⟩,va,rfl,q4⟩:=h3;subst e1;exact⟨va,gw h1 RZ,q4⟩
theorem oY {po:OP} {a b:Int} (ha:I64 a) (hb:I64 b) {ty:TypeId} {us:List (Nat × Value)} {h:Heap} {x:Operand} {K:Value->Heap->Prop} (hx:asg us x = .agg #[Sb Sc a,Sb Sc b])
  (hk : ∀h',(vw h).le (vw h')->(∀Y:View,Y h.size=h'[h.size]?->SlRd Y (Sg (Se ⟨h.size,0,Sf⟩) 1 1) [InD.mk a b])->K (Sg (Se ⟨h.size,0,Sf⟩) 1 1) h'):@Lft.step po Sn (.buildSlice T.ef 1 #[(0,x)]) ty us h K:=by
 refine rQ (n:=1) (size:=2) (vs:=[(0,.agg #[Sb Sc a,Sb Sc b])]) (cs:=#[Sb Sc a,Sb Sc b]) El.ef R4 (by simp[hx]) R1 (hk _ (bC _ _) λY hY=>?_);have hb2:Y h.size=Se (.cells #[Sb Sc a,Sb Sc b] T.je (0,0)):=by rw[hY];simp
 refine⟨Se ⟨h.size,0,Sf⟩,1,rfl,N8 _,by simp,.inr ⟨⟨h.size,0,Sf⟩,rfl,rfl,λi hi=>?_⟩⟩;have:i=0:=by simpa using hi
 subst this;have e:(⟨h.size,0,Sf⟩:Addr).add (0*Rep.n InD)=⟨h.size,0,Sf⟩:=by rw[PY];rfl
 rw[e];exact nv (d:=InD.mk a b) (v:=.agg #[Sb Sc a,Sb Sc b]) (fz:=(0,0)) hb2 (Im ha hb)
theorem Owns.cut {W:View} {h:Heap} {o:Own} {k:Key} {α:Type} [r:Rep α] {e:TypeId} {v:Value} {l:List α} (w:Owns W h o) (hk:o k=it e v l) {N:Nat} (hN:Rep.n α=N) {j:Nat} (hj:j<l.length) : ∃v1 v2,Bn.ev .hi v (Sb Sc j)=Se v1/\Bn.ev (.lo N) v (Sb Sc ((j:Int)+1))=Se v2/\Owns W h (o.upd k (it e v1 (l.take j)))/\SrcT (vw h) W v2 (l.drop (j+1)):=by
 subst hN;obtain⟨hb,xs,⟨hl,hown⟩,hel⟩:=w.get hk;rcases hown with⟨rfl,hn⟩ | ⟨g,cap,cur,rfl,h2,h3,h4,h5,h6⟩
 ·omega
 have hjn:j*Rep.n α+Rep.n α<=l.length*Rep.n α:=by rw[<-Nat.succ_mul];exact OY _ hj
 have hcn:l.length*Rep.n α<=cap*Rep.n α:=OY _ h3;refine⟨Sg (Se ⟨g,0,Sf⟩) j cap,.slice (if cap=j+1 then Se ⟨g,0,Sf⟩ else(Se ⟨g,0,Sf⟩:Option Addr).map (·.add ((j+1)*Rep.n α))) (l.length-(j+1)) (cap-(j+1)),?_,?_,?_,?_⟩
 ·simp only[Bn.ev,vL,vI,OT];rw[if_pos R6];simp
 ·simp only[Bn.ev,vL,vI,OT];rw[if_pos R6];have:((j:Int)+1).toNat=j+1:=by omega
  simp only[this]
 ·refine w.iu hk (h':=h) (v':=Sg (Se ⟨g,0,Sf⟩) j cap) (l':=l.take j) ⟨by simp;omega,xs.take (j*Rep.n α),⟨?_,.inr ⟨g,cap,cur,?_,h2,?_,h4,h5,?_⟩⟩,λi hi=>?_⟩ ⟨⟨N8 _,λ_ _ _=>rfl⟩,.inl rfl⟩
  ·simp only[O8];rw[hl];rw[Pu R3,Pu R3]
  ·rw[O8,Pu R3]
  ·simp;omega
  ·rw[O8,Pu R3,<-h6,PE,Pu R3]
  have him:i<min j l.length:=by simpa using hi
  have hi:i<j/\i<l.length:=R6;have:=hel i hi.2;rw[RK];have e2:((xs.take (j*Rep.n α)).drop (i*Rep.n α)).take (Rep.n α)=(xs.drop (i*Rep.n α)).take (Rep.n α):=by
   have h7:i*Rep.n α+Rep.n α<=j*Rep.n α:=by rw[<-Nat.succ_mul];exact OY _ hi.1
   rw[PK,PE,Pu R3]
  rw[e2];exact this
 have hld:(l.drop (j+1)).length=l.length-(j+1):=by simp
 refine⟨_,_,by rw[hld],?_,xs.drop ((j+1)*Rep.n α),?_,?_,λi hi=>?_⟩
 ·intro hn;split at hn
  ·cases hn
  cases hn
 ·rw[O9,hl,hld,Nat.sub_mul]
 ·intro ad had i x hx;split at had
  ·rename_i hc;have:l.length=j+1:=by omega
   rw[O6 (by rw[hl,this];exact N8 _)]at hx;simp at hx
  simp only[Option.map_some,N7]at had;subst had;have e3:(((⟨g,0,Sf⟩:Addr).add ((j+1)*Rep.n α)).add i)=⟨g,(j+1)*Rep.n α+i,Sf⟩:=by simp[Addr.z]
  rw[e3];have hx2:xs[(j+1)*Rep.n α+i]? = Se x:=by rw[P7]at hx;exact hx
  have hlt:(j+1)*Rep.n α+i<xs.length:=by
   rcases Ov ((j+1)*Rep.n α+i) xs.length with q | q
   ·exact q
   rw[Pk q]at hx2;cases hx2
  have h2v:vw h g=Se (.cells cur e (0,0)):=h2;simp only[ao,h2v];rw[<-h6,List.getElem?_take_of_lt R3]at hx2;simpa using hx2
 have hi:j+1+i<l.length:=by rw[hld]at hi;omega
 have:=hel (j+1+i) hi;rw[QL];rw[P6,show(j+1)*Rep.n α+i*Rep.n α=(j+1+i)*Rep.n α by rw[<-Nat.add_mul]];exact this
end Go.Proofs.YtnfiilgdjpdlkaaGreatDoor
namespace Go.Proofs.YtnfiilgdjpdlkaaGreatDoor
open Go Go.Lft
set_option maxHeartbeats 4000000 in
theorem vD{f:aq}{c:Nat}{v:Value}{q0 q1 q2:Int}{h:Heap}{W:View}{o0:Own}(w0:Owns W h o0)(ho0 : ∀k:Key,k.1<10->o0 k=Sf)(hv:Rd W v f)(hf:TF c f)(hc:c<=5000)(i0:I64 q0)(i1:I64 q1)(i2:I64 q2):
  aA Sn 12 #[v,.agg #[Sb Sc q0,Sb Sc q1,Sb Sc q2]] h (λu h'=>∃W' f',W.le W'/\Owns W' h' o0/\TF (c+1) f'/\Rd W' u f'):=by
 refine au (args:=[v,.agg #[Sb Sc q0,Sb Sc q1,Sb Sc q2]]) follows Tryz.func12 E.gu S0 λK hK=>?_;dsimp only[L.gu,lkF,lkG];obtain⟨vbs,rfl,ips,sbl⟩ : ∃vbs,v = .agg #[Sb Sc f.params,vbs]/\I64 f.params/\SlRd W vbs f.blocks:=by obtain⟨cs,rfl,c1,r1,e1,⟨rfl,h1⟩,vb,h2,h3⟩:=hv;exact⟨vb,by rw[<-Array.toList_inj.1 ((by rw[e1,h2];rfl):cs.toList = #[Sb Sc f.params,vb].toList)],h1,h3⟩
 refine aa λz hz=>?_;simp;refine cr (v:=.agg #[Sb Sc f.params,vbs]) rfl ?_;have hb1:(h.push (.cells (Value.agg #[Sb Sc f.params,vbs]).cells T.bY))[h.size]? = Se (.cells (Value.agg #[Sb Sc f.params,vbs]).cells T.bY (0,0)):=by simp
 have hle1:=bC h (.cells (Value.agg #[Sb Sc f.params,vbs]).cells T.bY);generalize h.push (.cells (Value.agg #[Sb Sc f.params,vbs]).cells T.bY)=h1 at hb1 hle1;have hvbs:=sbl.cells.2;have w1:=w0.add (k:=(8,1)) (ho0 _ R4) (fe (W:=W) (d:=RawN.mk (n:=1) [Sb Sc f.params,vbs]) hb1 (mO rfl (by intro c hc;simp only[OO,PF,or_false]at hc;rcases hc with rfl | rfl<;>first | rfl | exact hvbs)) R4) hle1 (λb hb=>by simp only[Value.ownBlock,N7]at hb;omega);generalize h.size=F at w1;refine cr (v:=.agg #[Sb Sc q0,Sb Sc q1,Sb Sc q2]) rfl ?_;have hb2:(h1.push (.cells (Value.agg #[Sb Sc q0,Sb Sc q1,Sb Sc q2]).cells T.lq))[h1.size]? = Se (.cells (Value.agg #[Sb Sc q0,Sb Sc q1,Sb Sc q2]).cells T.lq (0,0)):=by simp
 have hle2:=bC h1 (.cells (Value.agg #[Sb Sc q0,Sb Sc q1,Sb Sc q2]).cells T.lq);generalize h1.push (.cells (Value.agg #[Sb Sc q0,Sb Sc q1,Sb Sc q2]).cells T.lq)=h2 at hb2 hle2;have w2:=w1.ext hle2;have hg2:grow W h1 h2 h1.size=Se (.cells (([q0,q1,q2]:List Int).map λx=>Sb Sc x).toArray T.lq (0,0)):=by rw[bI (N8 _),hb2];rfl
 have sq:SlRd (grow W h1 h2) (Sg (Se ⟨h1.size,0,Sf⟩) 3 3) [q0,q1,q2]:=Dc hg2 rfl R4 (by intro x hx;simp only[OO,PF,or_false]at hx;rcases hx with rfl | rfl | rfl<;>assumption);have hW2:=aR (h':=h2) w1.wle;generalize grow W h1 h2=W2 at w2 sq hW2;generalize h1.size=Q at sq;refine w2.bW (k:=(8,0)) (n:=1) (z:=.agg #[Sb Sc 0,Sg Sf 0 0]) (by rw[Own.ak Sa];exact ho0 _ R4) R1 rfl R4 R8 λh3 q3 w3=>?_;generalize h2.size=R at w3;have hsb2:=sbl.mono hW2;clear hb1 hle1 hb2 hle2 hg2 w1 w2 q3;subst hz;refine aa λz hz=>?_;simp;refine w3.ff (k:=(3,0)) (α:=BlkD) (by rw[Own.ak Sa,Own.ak Sa];exact ho0 _ R4) El.kf λv4 h4 hle4 hv4 w4 _=>?_;have c4:ao (vw h4) ⟨F,1,Sf⟩=Se vbs:=w4.raw (k:=(8,1)) (e:=T.bY) (n:=1) (l:=[Sb Sc f.params,vbs]) (by rw[Own.ak Sa,Own.ak Sa,Own.ah];rfl) (i:=1) R4;simp[c4];have hbl:=hf.len;refine w4.bO (k:=(3,0)) (α:=BlkD) (l:=([]:List BlkD)) (l2:=f.blocks) Own.ah El.kf rfl rfl (hsb2.src w4.wle) R9 R9 λvbk h5 w5 _=>?_;rw[OZ]at w5;have hvk:=(w5.cells (k:=(3,0)) Own.ah).2;subst hz;refine aa λz hz=>?_;simp;refine w5.cR (k:=(8,1)) (n:=1) (i:=1) (e:=T.bY) (B:=F) (l:=[Sb Sc f.params,vbs]) (by rw[Own.ak Sa,Own.ak Sa,Own.ak Sa,Own.ah];rfl) R4 R1 rfl rfl hvk λh6 w6 _=>?_;obtain⟨o6,ho6⟩ : ∃o6:Own,o6=λk=>if k=(8,0) then bx T.bY R (RawN.mk (n:=1) [Sb Sc 0,Sg Sf 0 0]) else if k=(8,1) then bx T.bY F (RawN.mk (n:=1) [Sb Sc f.params,vbk]) else if k=(3,0) then it T.dh vbk f.blocks else o0 k:=⟨_,rfl⟩;have w6:Owns W2 h6 o6:=w6.congr λk=>by
  rw[ho6];unfold Own.upd;repeat' split
  all_goals first | rfl | simp_all
 clear w5 w4 w3 c4;have hlen : ∀{Q:View},Un.ev Q .len vbk=Se (Sb Sc f.blocks.length):=fun{Q}=>(w6.now (k:=(3,0)) (v:=vbk) (l:=f.blocks) (by rw[ho6];rfl)).len;subst hz;refine aa λz hz=>?_;refine aa λy hy=>?_;simp[hlen];subst hy;by_cases c0:f.blocks.length=0
 ·have c0':f.blocks=[]:=OC c0;refine aD (by simp[c0,c0']) ?_;refine aa λy hy=>?_;have ca:=w6.ny (k:=(8,1)) (n:=1) (l:=[Sb Sc f.params,vbk]) (e:=T.bY) (B:=F) (by rw[ho6];rfl);have ca:Un.ev (vw h6) (.aT 2) (Si (Se ⟨F,0,Sf⟩))=Se (.agg #[Sb Sc f.params,vbk]):=ca;simp[ca];refine w6.cA (k:=(8,0)) (α:=RawN 1) (β:=RawN 1) Part.all (B:=R) (D:=RawN.mk (n:=1) [Sb Sc 0,Sg Sf 0 0]) (d:=RawN.mk (n:=1) [Sb Sc f.params,vbk]) (by rw[ho6];rfl) R1 rfl rfl (mO rfl (by intro c hc;simp only[OO,PF,or_false]at hc;rcases hc with rfl | rfl<;>first | rfl | exact hvk)) λh7 w7 _=>?_;have cb:=w7.ny (k:=(8,0)) (n:=1) (l:=[Sb Sc f.params,vbk]) Own.ah;have cb:Un.ev (vw h7) (.aT 2) (Si (Se ⟨R,0,Sf⟩))=Se (.agg #[Sb Sc f.params,vbk]):=cb;have sb7:=w7.now (k:=(3,0)) (v:=vbk) (l:=f.blocks) (by rw[Own.ak Sa,ho6];rfl);subst hy;simp[cb];obtain⟨w8,s8⟩:=w7.freeze (k:=(3,0)) (v:=vbk) (l:=f.blocks) (by rw[Own.ak Sa,ho6];rfl);have hW8:=eH (h:=h7) (w7.av (3,0) ⟨_,_,T.dh,vbk,f.blocks⟩ (by rw[Own.ak Sa,ho6];rfl));have w9:=w8.sub (o':=o0) λk i hk=>by
   rcases Ov k.1 10 with e | e
   ·rw[ho0 k e]at hk;cases hk
   rw[Own.ak (by rintro rfl;simp at e),Own.ak (by rintro rfl;simp at e),ho6];dsimp only;rw[if_neg (by rintro rfl;simp at e),if_neg (by rintro rfl;simp at e),if_neg (by rintro rfl;simp at e)];exact hk
  exact hK _ _ ⟨_,f,S3 hW2 hW8,w9,hf.mono R3,⟨_,rfl,[Sb Sc f.params],[vbk],rfl,⟨rfl,ips⟩,vbk,rfl,s8⟩⟩
 have c0':¬f.blocks=[]:=λe=>c0 (by rw[e];rfl);refine aC (by simp[c0']) ?_;simp;subst hz;refine aa λz hz=>?_;simp;refine Gu (n:=3) (e:=T.int) (sz:=1) U.lq R1 rfl ?_;refine an (z:=.agg #[Sg Sf 0 0,Sb Sc 0,Sb Sc 0,Sg Sf 0 0,Sb Sc 0,Sg Sf 0 0]) (places:=[(0,1),(1,1),(2,2),(4,1),(5,1)]) (vs:=[(0,Sg (Se ⟨Q,0,Sf⟩) 3 3)]) (cs:=#[Sg (Se ⟨Q,0,Sf⟩) 3 3,Sb Sc 0,Sb Sc 0,Sg Sf 0 0,Sb Sc 0,Sg Sf 0 0]) R1 R1 Sa RZ ?_;refine cr (v:=.agg #[Sg (Se ⟨Q,0,Sf⟩) 3 3,Sb Sc 0,Sb Sc 0,Sg Sf 0 0,Sb Sc 0,Sg Sf 0 0]) rfl ?_;have hbx:(h6.push (.cells (Value.agg #[Sg (Se ⟨Q,0,Sf⟩) 3 3,Sb Sc 0,Sb Sc 0,Sg Sf 0 0,Sb Sc 0,Sg Sf 0 0]).cells T.bc))[h6.size]? = Se (.cells (Value.agg #[Sg (Se ⟨Q,0,Sf⟩) 3 3,Sb Sc 0,Sb Sc 0,Sg Sf 0 0,Sb Sc 0,Sg Sf 0 0]).cells T.bc (0,0)):=by simp
 have hle7:=bC h6 (.cells (Value.agg #[Sg (Se ⟨Q,0,Sf⟩) 3 3,Sb Sc 0,Sb Sc 0,Sg Sf 0 0,Sb Sc 0,Sg Sf 0 0]).cells T.bc);generalize h6.push (.cells (Value.agg #[Sg (Se ⟨Q,0,Sf⟩) 3 3,Sb Sc 0,Sb Sc 0,Sg Sf 0 0,Sb Sc 0,Sg Sf 0 0]).cells T.bc)=h7 at hbx hle7;have w7:=w6.add (k:=(0,0)) (by rw[ho6];exact ho0 _ R4) (fe (W:=W2) (d:=RawN.mk (n:=5) [Sg (Se ⟨Q,0,Sf⟩) 3 3,Sb Sc 0,Sb Sc 0,Sg Sf 0 0,Sb Sc 0,Sg Sf 0 0]) hbx (mO rfl R7) R4) hle7 (λb hb=>by simp only[Value.ownBlock,N7]at hb;omega);generalize h6.size=M at w7;generalize Sg (Se ⟨Q,0,Sf⟩) 3 3=vs at sq w7;obtain⟨o7,ho7⟩ : ∃o7:Own,o7=λk=>if k=(0,0) then bx T.bc M (RawN.mk (n:=5) (mkL vs 0 0 (Sg Sf 0 0) 0 (Sg Sf 0 0))) else if k=(0,1) then it T.int (Sg Sf 0 0) ([]:List Int) else if k=(0,2) then it T.dh (Sg Sf 0 0) ([]:List BlkM) else o6 k:=⟨_,rfl⟩;have w7:Owns W2 h7 o7:=w7.nils λk i hk=>by
  rw[ho7]at hk;dsimp only at hk;split at hk
  ·rename_i e;rw[e];exact .inl hk
  rename_i e0;split at hk
  ·cases hk;exact .inr ⟨rfl,OwnT.nil (α:=Int) _ _ _⟩
  split at hk
  ·cases hk;exact .inr ⟨rfl,OwnT.nil (α:=BlkM) _ _ _⟩
  refine .inl ?_;rw[Own.ak e0];exact hk
 have w7:Mk [q0,q1,q2] M vs W2 h7 o7 ⟨0,0,[],0,[]⟩:=⟨w7,sq,Sg Sf 0 0,Sg Sf 0 0,[],by rw[ho7];rfl,by rw[ho7];rfl,by rw[ho7];rfl,rfl,λi hi=>by simp at hi,λi hi=>by simp at hi,λi hi=>by simp at hi⟩;have f7 : ∀k:Key,3<=k.1->o7 k=o6 k:=λk hk=>by rw[ho7];dsimp only;rw[if_neg (by rintro rfl;simp at hk),if_neg (by rintro rfl;simp at hk),if_neg (by rintro rfl;simp at hk)]
 clear hbx hle7 w6 ho7;subst hz;refine aa λz hz=>?_;simp;refine aj R1 (w7.take R4 (n:=12) R4 R4) ?_;rintro _ h8 ⟨rfl,o8,w8,f8⟩;obtain⟨t0,t1⟩:=cT (s:=[q0,q1,q2]) (at_:=0) (n:=12) R4;simp;subst hz;refine aa λz hz=>?_;simp[hlen];refine aj R1 (w8.take R4 (n:=(f.blocks.length:Int)) R3 R3) ?_;rintro _ h9 ⟨rfl,o9,w9,f9⟩;obtain⟨b0,b1⟩:=cT (s:=[q0,q1,q2]) (at_:=1) (n:=(f.blocks.length:Int)) R3;subst hz;refine aa λz hz=>?_;simp;refine aj R1 (w9.take R4 (n:=40) R4 R4) ?_;rintro _ h10 ⟨rfl,o10,w10,f10⟩;obtain⟨n0,n1⟩:=cT (s:=[q0,q1,q2]) (at_:=2) (n:=40) R4;have e0:MS.at_ ⟨0,0,[],0,[]⟩=0:=rfl;have e1:MS.at_ (MS.took ⟨0,0,[],0,[]⟩)=1:=rfl;have e2:MS.at_ (MS.took (MS.took ⟨0,0,[],0,[]⟩))=2:=rfl;rw[e1,e2];have w10:=w10.own.sub (o':=o6) λk i hk=>by
  have hk3:3<=k.1:=by
   rw[ho6]at hk;dsimp only at hk;split at hk
   ·rename_i e;rw[e];decide
   split at hk
   ·rename_i e;rw[e];decide
   split at hk
   ·rename_i e;rw[e];decide
   rcases Ov k.1 10 with e | e
   ·rw[ho0 k e]at hk;cases hk
   omega
  rw[f10 k hk3,f9 k hk3,f8 k hk3,f7 k hk3];exact hk
 clear f10 f9 f8 f7 w9 w8 w7 e0 e1 e2;generalize aS [q0,q1,q2] 0 12=what at t0 t1;generalize aS [q0,q1,q2] 1 f.blocks.length=bb at b0 b1;generalize aS [q0,q1,q2] 2 40=nn at n0 n1;obtain⟨b,rfl⟩ : ∃b:Nat,bb=b:=⟨bb.toNat,by omega⟩;obtain⟨n,rfl⟩ : ∃n:Nat,nn=n:=⟨nn.toNat,by omega⟩;subst hz;have hbl2:b<f.blocks.length:=by omega
 have tb:=hf.blk _ (O5 hbl2);refine aa λz hz=>?_;obtain⟨ux,hux,huxr⟩:=Owns.ldW w10 (k:=(3,0)) (v:=vbk) (l:=f.blocks) (by rw[ho6];rfl) rfl (N:=6) rfl hbl2;have sbk:=w10.now (k:=(3,0)) (v:=vbk) (l:=f.blocks) (by rw[ho6];rfl);obtain⟨vp,vi,va,vt,rfl,rp,ri,ra,rt,ik,im⟩:=Jz huxr;generalize f.blocks[b]=xb at tb rp ri ra rt ik im hux huxr;have bp:=rp.cells.2;have bi:=ri.cells.2;have ba:=ra.cells.2;have bt:=rt.cells.2;simp(disch:=omega)[sbk.idxn (N:=6) rfl,hux];refine w10.dE (k:=(3,1)) (n:=5) (l:=[vp,vi,Sb Sc xb.term.kind,va,vt,Sb Sd xb.term.imm.v]) (by rw[ho6];exact ho0 _ R4) (z:=.agg #[Sg Sf 0 0,Sg Sf 0 0,Sb Sc 0,Sg Sf 0 0,Sg Sf 0 0,Sb Sd 0]) R1 rfl R1 rfl R4 (by intro c hc;simp only[OO,PF,or_false]at hc;rcases hc with rfl | rfl | rfl | rfl | rfl | rfl<;>first | rfl | assumption) R5 R5 λh11 q11 w11=>?_;generalize h10.size=X at w11;subst hz;refine aa λz hz=>?_;simp;refine w11.ff (k:=(3,2)) (α:=InsD) (by rw[Own.ak Sa,ho6];exact ho0 _ R4) El.kg λv12 h12 hle12 hv12 w12 _=>?_;have c12:ao (vw h12) ⟨X,1,Sf⟩=Se vi:=w12.raw (k:=(3,1)) (e:=T.dh) (n:=5) (l:=[vp,vi,Sb Sc xb.term.kind,va,vt,Sb Sd xb.term.imm.v]) (by rw[Own.ak Sa,Own.ah]) (i:=1) R4;simp[c12];refine w12.bO (k:=(3,2)) (α:=InsD) (l:=([]:List InsD)) (l2:=xb.ins) Own.ah El.kg rfl rfl (ri.src w12.wle) (by have:=tb.ins;simp;omega) (by have:=tb.ins;simp;omega) λvi2 h13 w13 _=>?_;rw[OZ]at w13;have hvi2:=(w13.cells (k:=(3,2)) Own.ah).2;refine w13.cR (k:=(3,1)) (n:=5) (i:=1) (e:=T.dh) (B:=X) (l:=[vp,vi,Sb Sc xb.term.kind,va,vt,Sb Sd xb.term.imm.v]) (by rw[Own.ak Sa,Own.ak Sa,Own.ah]) R4 R1 rfl rfl hvi2 λh14 w14 _=>?_;subst hz;refine aa λz hz=>?_;simp;refine w14.ff (k:=(3,3)) (α:=PhiD) (by rw[Own.ak Sa,Own.ak Sa,Own.ak Sa,Own.ak Sa,ho6];exact ho0 _ R4) El.kZ λv15 h15 hle15 hv15 w15 _=>?_;have c15:ao (vw h15) ⟨X,0,Sf⟩=Se vp:=w15.raw (k:=(3,1)) (e:=T.dh) (n:=5) (l:=[vp,vi2,Sb Sc xb.term.kind,va,vt,Sb Sd xb.term.imm.v]) (by rw[Own.ak Sa,Own.ah];rfl) (i:=0) R4;simp[c15];refine w15.bO (k:=(3,3)) (α:=PhiD) (l:=([]:List PhiD)) (l2:=xb.phis) Own.ah El.kZ rfl rfl (rp.src w15.wle) (by have:=tb.phis;simp;omega) (by have:=tb.phis;simp;omega) λvp2 h16 w16 _=>?_;rw[OZ]at w16;have hvp2:=(w16.cells (k:=(3,3)) Own.ah).2;refine w16.cR (k:=(3,1)) (n:=5) (i:=0) (e:=T.dh) (B:=X) (l:=[vp,vi2,Sb Sc xb.term.kind,va,vt,Sb Sd xb.term.imm.v]) (by rw[Own.ak Sa,Own.ak Sa,Own.ah];rfl) R4 R1 rfl rfl hvp2 λh17 w17 _=>?_;have tu : ∃o,Tu R F X o0 c W2 vbk f.blocks W2 o f.params vp2 vi2 va vt xb.term.kind xb.term.imm.v xb.phis xb.ins xb.term.args xb.term.to/\Owns W2 h17 o:=by
  refine⟨_,⟨View.le_refl _,?_,?_,?_,?_,?_,?_,?_,?_,ra,rt,ips,ik,im,⟨tb.phis,tb.ins,tb.args,tb.to,tb.pin,tb.iar⟩⟩,w17⟩
  ·simp[Own.upd,ho6]
  ·simp[Own.upd,ho6]
  ·simp[Own.upd,ho6]
  ·simp[Own.upd]
  ·simp[Own.upd]
  ·simp[Own.upd]
  ·simp[Own.upd,ho6,ho0]
  intro k hk;repeat rw[Own.ak (by rintro rfl;simp at hk)]
  rw[ho6];dsimp only;rw[if_neg (by rintro rfl;simp at hk),if_neg (by rintro rfl;simp at hk),if_neg (by rintro rfl;simp at hk)]
 clear w17 w16 w15 w14 w13 w12 w11 w10 c15 c12 rp ri hux huxr bp bi ba bt;obtain⟨o17,t,w17⟩:=tu;have hc0 : ∀{i:Nat},i<=5->ao (vw h17) ⟨X,i,Sf⟩=Se ([vp2,vi2,Sb Sc xb.term.kind,va,vt,Sb Sd xb.term.imm.v].getD i undef):=λhi=>w17.raw t.box hi;have x0:ao (vw h17) ⟨X,0,Sf⟩=Se vp2:=hc0 (i:=0) R4;have x1:ao (vw h17) ⟨X,1,Sf⟩=Se vi2:=hc0 (i:=1) R4;have x4:ao (vw h17) ⟨X,4,Sf⟩=Se vt:=hc0 (i:=4) R4;have sI:=w17.now t.ins;have sP:=w17.now t.phis;have sT:=t.rt;have hli : ∀{Q:View},Un.ev Q .len vi2=Se (Sb Sc xb.ins.length):=fun{Q}=>sI.len;have hlp : ∀{Q:View},Un.ev Q .len vp2=Se (Sb Sc xb.phis.length):=fun{Q}=>sP.len
 have hlt : ∀{Q:View},Un.ev Q .len vt=Se (Sb Sc xb.term.to.length):=fun{Q}=>sT.len;have tbi:=tb.ins
 have tbp:=tb.phis;have tbt:=tb.to;clear hc0;subst hz;refine aa λz hz=>?_;simp;subst hz;refine aa λz hz=>?_;obtain⟨j,hj1,hj2⟩ : ∃j:Nat,(0<xb.ins.length->j<xb.ins.length)/\(j:Int)=if 0<xb.ins.length then(n:Int).tmod xb.ins.length else 0:=by
  by_cases c1:0<xb.ins.length
  ·refine⟨((n:Int).tmod xb.ins.length).toNat,λ_=>?_,?_⟩
   ·have:=PD (n:Int) (show(0:Int)<xb.ins.length by omega);have:=PR (xb.ins.length:Int) (show(0:Int)<=n by omega);omega
   rw[if_pos c1];have:=PR (xb.ins.length:Int) (show(0:Int)<=n by omega);omega
  exact⟨0,λq=>absurd q c1,by rw[if_neg c1];rfl⟩
 have sw : ∀ρ:Env,Lft.look ρ 2=Se (Si (Se ⟨F,0,Sf⟩))->Lft.look ρ 4=Se (Si (Se ⟨R,0,Sf⟩))->Lft.look ρ 5=Se vbk->Lft.look ρ 7=Se (Sb Sc what)->Lft.look ρ 8=Se (Sb Sc b)->Lft.look ρ 9=Se (Sb Sc n)->Lft.look ρ 10=Se (Si (Se ⟨X,0,Sf⟩))->Lft.look ρ 11=Se (Sb Sc j)->LC.wp Sn z (cz [.un (.aT 2) (.tmp 4)] K) ρ h17:=by
  intro ρ r2 r4 r5 r7 r8 r9 r10 r11;subst hz;refine aa λz hz=>?_;have fin : ∀(h':Heap) (ρ:Env),TuE R F X o0 (c+1) W2 vbk f.blocks h'->Lft.look ρ 2=Se (Si (Se ⟨F,0,Sf⟩))->Lft.look ρ 4=Se (Si (Se ⟨R,0,Sf⟩))->Lft.look ρ 5=Se vbk->Lft.look ρ 8=Se (Sb Sc b)->Lft.look ρ 10=Se (Si (Se ⟨X,0,Sf⟩))->LC.wp Sn z (cz [.un (.aT 2) (.tmp 4)] K) ρ h':=by
   intro h' ρ tE r2 r4 r5 r8 r10;subst hz;obtain⟨W,o,ps',vp',vi',va',vt',kd',im',lp',li',la',lt',t,w⟩:=tE;have sbk:=w.now t.blk;have cx:=w.ny (k:=(3,1)) t.box;have cx:Un.ev (vw h') (.aT 6) (Si (Se ⟨X,0,Sf⟩))=Se (.agg #[vp',vi',Sb Sc kd',va',vt',Sb Sd im']):=cx;obtain⟨wA,sI⟩:=w.freeze t.ins;obtain⟨wB,sP⟩:=wA.freeze ((Own.ak Sa).trans t.phis);have sI:=sI.mono (eH (h:=h') (wA.av _ _ ((Own.ak Sa).trans t.phis)));have hWW:=S3 (eH (h:=h') (w.av _ _ t.ins)) (eH (h:=h') (wA.av _ _ ((Own.ak Sa).trans t.phis)));refine aa λz hz=>?_;simp(disch:=omega)[af,ag,r2,r4,r5,r8,r10,cx,sbk.idxn (N:=6) rfl];refine wB.aK (k:=(3,0)) (α:=BlkD) (v:=vbk) (l:=f.blocks) (i:=b) (d:=⟨lp',li',⟨kd',la',lt',⟨im'⟩⟩⟩) ((Own.ak Sa).trans ((Own.ak Sa).trans t.blk)) R1 rfl rfl R3 (HA (imm:=⟨im'⟩) sP sI (t.ra.mono hWW) (t.rt.mono hWW) t.ikd t.iim) λh2 w2 _=>?_;subst hz;refine aa λz hz=>?_;have fF:(((o.upd (3,2) Sf).upd (3,3) Sf).upd (3,0) (it T.dh vbk (f.blocks.set b ⟨lp',li',⟨kd',la',lt',⟨im'⟩⟩⟩))) (8,1)=bx T.bY F (RawN.mk (n:=1) [Sb Sc ps',vbk]):=by simp[Own.upd,t.fn]
   have fR:(((o.upd (3,2) Sf).upd (3,3) Sf).upd (3,0) (it T.dh vbk (f.blocks.set b ⟨lp',li',⟨kd',la',lt',⟨im'⟩⟩⟩))) (8,0)=bx T.bY R (RawN.mk (n:=1) [Sb Sc 0,Sg Sf 0 0]):=by simp[Own.upd,t.res]
   have cF:=w2.ny (k:=(8,1)) fF;have cF:Un.ev (vw h2) (.aT 2) (Si (Se ⟨F,0,Sf⟩))=Se (.agg #[Sb Sc ps',vbk]):=cF;simp[af,ag,r2,r4,r5,r8,r10,cF];refine w2.cA (k:=(8,0)) (α:=RawN 1) (β:=RawN 1) Part.all (B:=R) (D:=RawN.mk (n:=1) [Sb Sc 0,Sg Sf 0 0]) (d:=RawN.mk (n:=1) [Sb Sc ps',vbk]) fR R1 rfl rfl (mO rfl (by intro c hc;simp only[OO,PF,or_false]at hc;rcases hc with rfl | rfl<;>first | rfl | exact hvk)) λh3 w3 _=>?_;have cb:=w3.ny (k:=(8,0)) (n:=1) (l:=[Sb Sc ps',vbk]) Own.ah;have cb:Un.ev (vw h3) (.aT 2) (Si (Se ⟨R,0,Sf⟩))=Se (.agg #[Sb Sc ps',vbk]):=cb;have sb3:=w3.now (k:=(3,0)) (v:=vbk) (l:=f.blocks.set b ⟨lp',li',⟨kd',la',lt',⟨im'⟩⟩⟩) (by rw[Own.ak Sa,Own.ah]);subst hz;simp[af,ag,r2,r4,r5,r8,r10,cb];obtain⟨w4,s4⟩:=w3.freeze (k:=(3,0)) (v:=vbk) (l:=f.blocks.set b ⟨lp',li',⟨kd',la',lt',⟨im'⟩⟩⟩) (by rw[Own.ak Sa,Own.ah]);have hW4:=eH (h:=h3) (w3.av (3,0) _ ((Own.ak Sa).trans Own.ah));have w5:=w4.sub (o':=o0) λk i hk=>by
    rcases Ov k.1 10 with e | e
    ·rw[ho0 k e]at hk;cases hk
    rw[Own.ak (by rintro rfl;simp at e),Own.ak (by rintro rfl;simp at e),Own.ak (by rintro rfl;simp at e),Own.ak (by rintro rfl;simp at e),Own.ak (by rintro rfl;simp at e),t.fr k e];exact hk
   refine hK _ _ ⟨_,⟨ps',f.blocks.set b ⟨lp',li',⟨kd',la',lt',⟨im'⟩⟩⟩⟩,S3 hW2 (S3 t.le (S3 hWW hW4)),w5,⟨by show(f.blocks.set b _).length<=_;rw[OR];exact hf.len,λx hx=>?_⟩,⟨_,rfl,[Sb Sc ps'],[vbk],rfl,⟨rfl,t.ips⟩,vbk,rfl,s4⟩⟩;rcases Pw hx with q | q
   ·exact(hf.blk x q).mono R3
   rw[q];exact t.tb
  refine aa λy hy=>?_;simp[af,ag,r2,r4,r5,r7,r8,r9,r10,r11];subst hy;simp only[aW];refine aa λy hy=>?_;simp[af,ag,r2,r4,r5,r7,r8,r9,r10,r11];subst hy;by_cases w0:what=0
  ·refine aD (by simp[af,ag,w0]) ?_;simp[af,ag,r2,r4,r5,r7,r8,r9,r10,r11];refine t.Gy w17 AJ R1 rfl rfl λh2 tE=>?_;refine fin _ _ (tE.mono R3) ?_ ?_ ?_ ?_ ?_<;>simp[af,ag,r2,r4,r5,r8,r10]
  refine aC (by simp[af,ag,w0]) ?_;refine aa λy hy=>?_;simp[af,ag,r2,r4,r5,r7,r8,r9,r10,r11];subst hy;by_cases w1:what=1
  ·refine aD (by simp[af,ag,w1]) ?_;refine aa λy hy=>?_;simp[af,ag,r2,r4,r5,r7,r8,r9,r10,r11,x1,hli];subst hy;by_cases c1:0<xb.ins.length
   ·have hj:=hj1 c1;refine aD (by simp[af,ag];exact c1) ?_;simp(disch:=omega)[af,ag,r2,r4,r5,r7,r8,r9,r10,r11,x1,sI.idxn (N:=5) rfl];refine t.DE InsD.sU w17 (j:=j) (d:=_) hj (aX.2 ⟨rfl,AJ⟩) (t.tb.iar xb.ins[j] (O5 hj)) R1 rfl rfl λh2 tE=>?_;refine fin _ _ (tE.mono R3) ?_ ?_ ?_ ?_ ?_<;>simp[af,ag,r2,r4,r5,r8,r10]
   have he:xb.ins=[]:=OC R3;refine aC (by simp[af,ag,he]) ?_;simp;refine fin _ _ (TuE.mono ⟨_,_,_,_,_,_,_,_,_,_,_,_,_,t,w17⟩ R3) ?_ ?_ ?_ ?_ ?_<;>simp[af,ag,r2,r4,r5,r8,r10]
  refine aC (by simp[af,ag,w1]) ?_;refine aa λy hy=>?_;simp[af,ag,r2,r4,r5,r7,r8,r9,r10,r11];subst hy;by_cases w2:what=2
  ·refine aD (by simp[af,ag,w2]) ?_;refine aa λy hy=>?_;simp[af,ag,r2,r4,r5,r7,r8,r9,r10,r11,x1,hli];subst hy;by_cases c1:0<xb.ins.length
   ·have hj:=hj1 c1;refine aD (by simp[af,ag];exact c1) ?_;simp(disch:=omega)[af,ag,r2,r4,r5,r7,r8,r9,r10,r11,x1,sI.idxn (N:=5) rfl];refine t.DE InsD.iq w17 (j:=j) (d:=(n:Int)) hj (aX.2 ⟨rfl,by constructor<;>omega⟩) (t.tb.iar xb.ins[j] (O5 hj)) R1 rfl rfl λh2 tE=>?_;refine fin _ _ (tE.mono R3) ?_ ?_ ?_ ?_ ?_<;>simp[af,ag,r2,r4,r5,r8,r10]
   have he:xb.ins=[]:=OC R3;refine aC (by simp[af,ag,he]) ?_;simp;refine fin _ _ (TuE.mono ⟨_,_,_,_,_,_,_,_,_,_,_,_,_,t,w17⟩ R3) ?_ ?_ ?_ ?_ ?_<;>simp[af,ag,r2,r4,r5,r8,r10]
  refine aC (by simp[af,ag,w2]) ?_;refine aa λy hy=>?_;simp[af,ag,r2,r4,r5,r7,r8,r9,r10,r11];subst hy;by_cases w3:what=3
  ·refine aD (by simp[af,ag,w3]) ?_;refine aa λy hy=>?_;by_cases c1:0<xb.ins.length
   ·have hj:=hj1 c1;have c1i:(0:Int)<xb.ins.length:=by omega
    obtain⟨va3,ca3,ra3⟩:=Owns.insW w17 t.ins hj;have hta:=t.tb.iar _ (O5 hj);simp(disch:=omega)[af,ag,r2,r4,r5,r7,r8,r9,r10,r11,x1,hli,c1,c1i,sI.idxn (N:=5) rfl,ca3,ra3.len];subst hy;by_cases c2:0<xb.ins[j].args.length
    ·refine aD (by simp[af,ag];first | exact c2 | omega) ?_;refine aa λy hy=>?_;simp[af,ag];refine w17.ff (k:=(4,0)) (α:=Int) t.free El.aP λv18 h18 hle18 hv18 w18 _=>?_;simp(disch:=omega)[af,ag,r2,r4,r5,r7,r8,r9,r10,r11,ae hle18 x1,(sI.mono hle18).idxn (N:=5) rfl,ae hle18 ca3];refine w18.bO (k:=(4,0)) (α:=Int) (l:=([]:List Int)) (l2:=xb.ins[j].args) Own.ah El.aP rfl rfl (ra3.src w18.wle) R9 R9 λv19 h19 w19 _=>?_;rw[OZ]at w19;have w19:Owns W2 h19 (o17.upd (4,0) (it T.int v19 xb.ins[j].args)):=w19.congr λq=>by rw[bX]
     subst hy;refine aa λy hy=>?_;have s19:=w19.now (k:=(4,0)) Own.ah;have m0:=PR (xb.ins[j].args.length:Int) (show(0:Int)<=n by omega);have m1:=PD (n:Int) (show(0:Int)<xb.ins[j].args.length by omega);have hne:¬xb.ins[j].args=[]:=λe=>by rw[e]at c2;simp at c2
     simp(disch:=omega)[af,ag,r2,r4,r5,r7,r8,r9,r10,r11,s19.len,hne,s19.idx1 rfl];refine w19.aK (k:=(4,0)) (α:=Int) (v:=v19) (l:=xb.ins[j].args) (i:=((n:Int).tmod xb.ins[j].args.length).toNat) (d:=(n:Int)) Own.ah R1 (by rw[show Rep.n Int=1 from rfl,Pn];rfl) rfl R3 (aX.2 ⟨rfl,by constructor<;>omega⟩) λh20 w20 _=>?_;have w20:Owns W2 h20 (o17.upd (4,0) (it T.int v19 (xb.ins[j].args.set ((n:Int).tmod xb.ins[j].args.length).toNat n))):=w20.congr λq=>by rw[bX]
     subst hy;have x1':ao (vw h20) ⟨X,1,Sf⟩=Se vi2:=w20.raw (k:=(3,1)) ((Own.ak Sa).trans t.box) (i:=1) R4;have sI':=w20.now (k:=(3,2)) ((Own.ak Sa).trans t.ins);obtain⟨w21,s21⟩:=w20.freeze Own.ah;have hWp:=eH (h:=h20) (w20.av _ _ Own.ah);have w21:=w21.congr (o':=o17) λq=>by
      rw[bX];unfold Own.upd;split
      ·rename_i e;rw[e];exact t.free
      rfl
     simp(disch:=omega)[af,ag,r2,r4,r5,r7,r8,r9,r10,r11,x1',sI'.idxn (N:=5) rfl];refine(t.wider hWp).DE InsD.eW w21 (j:=j) (d:=xb.ins[j].args.set ((n:Int).tmod xb.ins[j].args.length).toNat n) hj (eD.2 s21) (by show(List.set _ _ _).length<=_;rw[OR];exact hta) R1 rfl rfl λh2 tE=>?_;refine fin _ _ (tE.mono R3) ?_ ?_ ?_ ?_ ?_<;>simp[af,ag,r2,r4,r5,r8,r10]
    refine aC (by simp[af,ag];first | omega | exact OC R3) ?_;simp;refine fin _ _ (TuE.mono ⟨_,_,_,_,_,_,_,_,_,_,_,_,_,t,w17⟩ R3) ?_ ?_ ?_ ?_ ?_<;>simp[af,ag,r2,r4,r5,r8,r10]
   have he:xb.ins=[]:=OC R3;have c1i:¬(0:Int)<xb.ins.length:=by omega
   simp[af,ag,r2,r4,r5,r7,r8,r9,r10,r11,x1,hli,c1,c1i];subst hy;refine aC (by simp[af,ag]) ?_;simp;refine fin _ _ (TuE.mono ⟨_,_,_,_,_,_,_,_,_,_,_,_,_,t,w17⟩ R3) ?_ ?_ ?_ ?_ ?_<;>simp[af,ag,r2,r4,r5,r8,r10]
  refine aC (by simp[af,ag,w3]) ?_;refine aa λy hy=>?_;simp[af,ag,r2,r4,r5,r7,r8,r9,r10,r11];subst hy;by_cases w4:what=4
  ·refine aD (by simp[af,ag,w4]) ?_;simp[af,ag];refine w17.ff (k:=(4,0)) (α:=Int) t.free El.aP λv18 h18 hle18 hv18 w18 _=>?_;simp(disch:=omega)[af,ag,r2,r4,r5,r7,r8,r9,r10,r11,ae hle18 x4];refine w18.bO (k:=(4,0)) (α:=Int) (l:=([]:List Int)) (l2:=xb.term.to) Own.ah El.aP rfl rfl (t.rt.src w18.wle) R9 R9 λv19 h19 w19 _=>?_;rw[OZ]at w19;have w19:Owns W2 h19 (o17.upd (4,0) (it T.int v19 xb.term.to)):=w19.congr λq=>by rw[bX]
   refine w19.gW (k:=(4,0)) (α:=Int) (d:=IntKind.i64.wrap ((n:Int).tmod 12-1)) Own.ah El.aP rfl (aX.2 ⟨rfl,AJ⟩) R3 R3 (λ_=>rfl) (λ_=>rfl) λu20 v20 h20 w20 _=>?_;have w20:Owns W2 h20 (o17.upd (4,0) (it T.int v20 (xb.term.to++[IntKind.i64.wrap ((n:Int).tmod 12-1)]))):=w20.congr λq=>by rw[bX]
   obtain⟨w21,s21⟩:=w20.freeze Own.ah;have hWp:=eH (h:=h20) (w20.av _ _ Own.ah);have w21:=w21.congr (o':=o17) λq=>by
    rw[bX];unfold Own.upd;split
    ·rename_i e;rw[e];exact t.free
    rfl
   refine((t.wider hWp).more (d:=c+1) R3).Ek w21 s21 (by rw[OH,OU];omega) R1 rfl rfl λh2 tE=>?_;refine fin _ _ tE ?_ ?_ ?_ ?_ ?_<;>simp[af,ag,r2,r4,r5,r8,r10]
  refine aC (by simp[af,ag,w4]) ?_;refine aa λy hy=>?_;simp[af,ag,r2,r4,r5,r7,r8,r9,r10,r11];subst hy;by_cases w5:what=5
  ·refine aD (by simp[af,ag,w5]) ?_;simp[af,ag,r2,r4,r5,r7,r8,r9,r10,r11];have m0:=PR (7:Int) (show(0:Int)<=n by omega);have m1:=PD (n:Int) (show(0:Int)<7 by omega);refine t.Jv w17 (p:=(n:Int).tmod 7) (by constructor<;>omega) R1 rfl rfl λh2 tE=>?_;refine fin _ _ (tE.mono R3) ?_ ?_ ?_ ?_ ?_<;>simp[af,ag,r2,r4,r5,r8,r10]
  refine aC (by simp[af,ag,w5]) ?_;refine aa λy hy=>?_;simp[af,ag,r2,r4,r5,r7,r8,r9,r10,r11];subst hy;by_cases w6:what=6
  ·refine aD (by simp[af,ag,w6]) ?_;refine aa λy hy=>?_;simp[af,ag,r2,r4,r5,r7,r8,r9,r10,r11,x0,hlp];subst hy;by_cases c1:0<xb.phis.length
   ·refine aD (by simp[af,ag];exact c1) ?_;have m0:=PR (xb.phis.length:Int) (show(0:Int)<=n by omega);have m1:=PD (n:Int) (show(0:Int)<xb.phis.length by omega);obtain⟨q,hq⟩ : ∃q:Nat,(n:Int).tmod xb.phis.length=q:=⟨((n:Int).tmod xb.phis.length).toNat,by omega⟩;have hql:q<xb.phis.length:=by omega
    obtain⟨va3,ca3,ra3⟩:=Owns.phiW w17 t.phis hql;have hta:=t.tb.pin _ (O5 hql);have hne:¬xb.phis=[]:=λe=>by rw[e]at c1;simp at c1
    have q50:=PR (5:Int) (show(0:Int)<=n by omega);have q51:=PD (n:Int) (show(0:Int)<5 by omega);have ixq:Bn.ev (.idx 2) vp2 (Sb Sc q)=Se (Si (Se ((slA vp2).add (q*2)))):=by have:=sP.idxn (N:=2) rfl (k:=.i64) (i:=q) R3 R3;simpa using this
    refine aI (vw h17) S2 ?_;simp[af,ag,r2,r4,r5,r7,r8,r9,r10,r11,x0,hlp,hne,hq,ixq,ca3];have A2 : ∀{po2 po3:OP} {W:View} {hh:Heap} {v1 u:Value} {ty ty3:TypeId} {us:List (Nat × Value)} {us3:Value->List (Nat × Value)} {x y c1 c2:Operand} {K2:Value->Value->Heap->Prop},W2.le W->Owns W hh (o17.upd (4,0) (it T.je v1 xb.phis[q].ins))->SlRd W u [InD.mk ((n:Int).tmod 5) n]->(vw h17).le (vw hh)->Av (vw h17) v1->asg us x=v1->asg us y=u->
      (∀v,asg (us3 v) c1 = Si (Se (((slA vp2).add (q*2)).add 1)))->(∀v,asg (us3 v) c2=v)->(∀v h',TuE R F X o0 (c+1) W2 vbk f.blocks h'->K2 v undef h')->
      @Lft.step po2 Sn (.call ⟨.builtin .append,#[x,y],#[T.ef,T.ef]⟩) ty us hh λv h'=>(vw h17).le (vw h')/\@Lft.step po3 Sn (.store T.ef c1 c2) ty3 (us3 v) h' λw h''=>K2 v w h'':=by
     intro po2 po3 W hh v1 u ty ty3 us us3 x y c1 c2 K2 hW w su le av hx hy hc1 hc2 hK2;refine w.bO (k:=(4,0)) (α:=InD) (l:=xb.phis[q].ins) (l2:=[InD.mk ((n:Int).tmod 5) n]) Own.ah El.ef hx hy (su.src w.wle) R9 R9 λv2 h2 wb m2=>⟨(m2.view le av).1,?_⟩;have wb:Owns W h2 (o17.upd (4,0) (it T.je v2 (xb.phis[q].ins++[InD.mk ((n:Int).tmod 5) n]))):=wb.congr λk=>by rw[bX]
     obtain⟨wc,sc⟩:=wb.freeze Own.ah;have hWp:=eH (h:=h2) (wb.av _ _ Own.ah);have wc:=wc.congr (o':=o17) λk=>by
      rw[bX];unfold Own.upd;split
      ·rename_i e;rw[e];exact t.free
      rfl
     exact((t.wider (S3 hW hWp)).more (d:=c+1) R3).IG wc (j:=q) hql sc (by rw[OH,OU];omega) R1 (hc1 v2) (hc2 v2) λh' tE=>hK2 v2 h' tE
    have i5:I64 ((n:Int).tmod 5):=R6;have in_:I64 (n:Int):=R6;constructor
    ·refine w17.ff (k:=(4,0)) (α:=InD) t.free El.ef λv0 h18 le18 _ w18 av18=>⟨le18,?_⟩;have av18:=av18 (vw h17) S2;constructor
     ·refine w18.bO (k:=(4,0)) (α:=InD) (l:=([]:List InD)) (l2:=xb.phis[q].ins) Own.ah El.ef rfl rfl (ra3.src w18.wle) R9 R9 λv1 h19 w19 m19=>?_;obtain⟨le19,av19⟩:=m19.view le18 av18;rw[OZ]at w19;have w19:Owns W2 h19 (o17.upd (4,0) (it T.je v1 xb.phis[q].ins)):=w19.congr λk=>by rw[bX]
      refine⟨le19,?_⟩;refine an (z:=.agg #[Sb Sc 0,Sb Sc 0]) (places:=[(0,1),(1,1)]) (vs:=[(0,Sb Sc ((n:Int).tmod 5)),(1,Sb Sc n)]) (cs:=#[Sb Sc ((n:Int).tmod 5),Sb Sc n]) R1 R1 Sa RZ ⟨le19,?_⟩;refine oY i5 in_ rfl λh20 le20 su=>⟨S3 le19 le20,?_⟩;refine A2 (aR w19.wle) (w19.ext le20) (su _ (bI (N8 _))) (S3 le19 le20) av19 rfl rfl (λ_=>rfl) (λ_=>rfl) λv h' tE=>?_;refine fin _ _ tE ?_ ?_ ?_ ?_ ?_<;>simp[af,ag,r2,r4,r5,r8,r10]
     refine an (z:=.agg #[Sb Sc 0,Sb Sc 0]) (places:=[(0,1),(1,1)]) (vs:=[(0,Sb Sc ((n:Int).tmod 5)),(1,Sb Sc n)]) (cs:=#[Sb Sc ((n:Int).tmod 5),Sb Sc n]) R1 R1 Sa RZ ⟨le18,?_⟩;constructor
     ·refine w18.bO (k:=(4,0)) (α:=InD) (l:=([]:List InD)) (l2:=xb.phis[q].ins) Own.ah El.ef rfl rfl (ra3.src w18.wle) R9 R9 λv1 h19 w19 m19=>?_;obtain⟨le19,av19⟩:=m19.view le18 av18;rw[OZ]at w19;have w19:Owns W2 h19 (o17.upd (4,0) (it T.je v1 xb.phis[q].ins)):=w19.congr λk=>by rw[bX]
      refine⟨le19,?_⟩;refine oY i5 in_ rfl λh20 le20 su=>⟨S3 le19 le20,?_⟩;refine A2 (aR w19.wle) (w19.ext le20) (su _ (bI (N8 _))) (S3 le19 le20) av19 rfl rfl (λ_=>rfl) (λ_=>rfl) λv h' tE=>?_;refine fin _ _ tE ?_ ?_ ?_ ?_ ?_<;>simp[af,ag,r2,r4,r5,r8,r10]
     refine oY i5 in_ rfl λh20 le20 su=>⟨S3 le18 le20,?_⟩;have w20:=w18.ext le20;have hW20:=aR (h':=h20) w18.wle;have su:=su _ (bI (W:=W2) (N8 _));refine w20.bO (k:=(4,0)) (α:=InD) (l:=([]:List InD)) (l2:=xb.phis[q].ins) Own.ah El.ef rfl rfl ((ra3.mono hW20).src w20.wle) R9 R9 λv1 h21 w21 m21=>?_;obtain⟨le21,av21⟩:=m21.view (S3 le18 le20) av18;rw[OZ]at w21;have w21:=w21.congr (o':=o17.upd (4,0) (it T.je v1 xb.phis[q].ins)) λk=>by rw[bX]
     refine⟨le21,?_⟩;refine A2 hW20 w21 su le21 av21 rfl rfl (λ_=>rfl) (λ_=>rfl) λv h' tE=>?_;refine fin _ _ tE ?_ ?_ ?_ ?_ ?_<;>simp[af,ag,r2,r4,r5,r8,r10]
    refine an (z:=.agg #[Sb Sc 0,Sb Sc 0]) (places:=[(0,1),(1,1)]) (vs:=[(0,Sb Sc ((n:Int).tmod 5)),(1,Sb Sc n)]) (cs:=#[Sb Sc ((n:Int).tmod 5),Sb Sc n]) R1 R1 Sa RZ ⟨View.le_refl _,?_⟩;constructor
    ·refine w17.ff (k:=(4,0)) (α:=InD) t.free El.ef λv0 h18 le18 _ w18 av18=>⟨le18,?_⟩;have av18:=av18 (vw h17) S2;constructor
     ·refine w18.bO (k:=(4,0)) (α:=InD) (l:=([]:List InD)) (l2:=xb.phis[q].ins) Own.ah El.ef rfl rfl (ra3.src w18.wle) R9 R9 λv1 h19 w19 m19=>?_;obtain⟨le19,av19⟩:=m19.view le18 av18;rw[OZ]at w19;have w19:Owns W2 h19 (o17.upd (4,0) (it T.je v1 xb.phis[q].ins)):=w19.congr λk=>by rw[bX]
      refine⟨le19,?_⟩;refine oY i5 in_ rfl λh20 le20 su=>⟨S3 le19 le20,?_⟩;refine A2 (aR w19.wle) (w19.ext le20) (su _ (bI (N8 _))) (S3 le19 le20) av19 rfl rfl (λ_=>rfl) (λ_=>rfl) λv h' tE=>?_;refine fin _ _ tE ?_ ?_ ?_ ?_ ?_<;>simp[af,ag,r2,r4,r5,r8,r10]
     refine oY i5 in_ rfl λh20 le20 su=>⟨S3 le18 le20,?_⟩;have w20:=w18.ext le20;have hW20:=aR (h':=h20) w18.wle;have su:=su _ (bI (W:=W2) (N8 _));refine w20.bO (k:=(4,0)) (α:=InD) (l:=([]:List InD)) (l2:=xb.phis[q].ins) Own.ah El.ef rfl rfl ((ra3.mono hW20).src w20.wle) R9 R9 λv1 h21 w21 m21=>?_;obtain⟨le21,av21⟩:=m21.view (S3 le18 le20) av18;rw[OZ]at w21;have w21:=w21.congr (o':=o17.upd (4,0) (it T.je v1 xb.phis[q].ins)) λk=>by rw[bX]
     refine⟨le21,?_⟩;refine A2 hW20 w21 su le21 av21 rfl rfl (λ_=>rfl) (λ_=>rfl) λv h' tE=>?_;refine fin _ _ tE ?_ ?_ ?_ ?_ ?_<;>simp[af,ag,r2,r4,r5,r8,r10]
    refine oY i5 in_ rfl λh18 le18 su=>⟨le18,?_⟩;have w18:=w17.ext le18;have hW18:=aR (h':=h18) w17.wle;have su:=su _ (bI (W:=W2) (N8 _));refine w18.ff (k:=(4,0)) (α:=InD) t.free El.ef λv0 h19 le19 _ w19 av19=>⟨S3 le18 le19,?_⟩;have av19:=av19 (vw h17) le18;refine w19.bO (k:=(4,0)) (α:=InD) (l:=([]:List InD)) (l2:=xb.phis[q].ins) Own.ah El.ef rfl rfl ((ra3.mono hW18).src w19.wle) R9 R9 λv1 h21 w21 m21=>?_;obtain⟨le21,av21⟩:=m21.view (S3 le18 le19) av19;rw[OZ]at w21;have w21:=w21.congr (o':=o17.upd (4,0) (it T.je v1 xb.phis[q].ins)) λk=>by rw[bX]
    refine⟨le21,?_⟩;refine A2 hW18 w21 su le21 av21 rfl rfl (λ_=>rfl) (λ_=>rfl) λv h' tE=>?_;refine fin _ _ tE ?_ ?_ ?_ ?_ ?_<;>simp[af,ag,r2,r4,r5,r8,r10]
   have he:xb.phis=[]:=OC R3;refine aC (by simp[af,ag,he]) ?_;simp;refine fin _ _ (TuE.mono ⟨_,_,_,_,_,_,_,_,_,_,_,_,_,t,w17⟩ R3) ?_ ?_ ?_ ?_ ?_<;>simp[af,ag,r2,r4,r5,r8,r10]
  refine aC (by simp[af,ag,w6]) ?_;refine aa λy hy=>?_;simp[af,ag,r2,r4,r5,r7,r8,r9,r10,r11];subst hy;by_cases w7:what=7
  ·refine aD (by simp[af,ag,w7]) ?_;refine aa λy hy=>?_;by_cases c1:0<xb.phis.length
   ·have c1i:(0:Int)<xb.phis.length:=by omega
    obtain⟨va3,ca3,ra3⟩:=Owns.phiW w17 t.phis c1;have ca3:ao (vw h17) (((slA vp2).add 0).add 1)=Se va3:=by have:=ca3;rwa [PY]at this
    have hta:=t.tb.pin _ (O5 c1);have hix : ∀{l:List PhiD},SlRd (vw h17) vp2 l->True:=λ_=>trivial;have ix0:Bn.ev (.idx 2) vp2 (Sb Sc 0)=Se (Si (Se ((slA vp2).add 0))):=by have:=sP.idxn (N:=2) rfl (k:=.i64) (i:=0) R3 R3;simpa using this
    simp(disch:=omega)[af,ag,r2,r4,r5,r7,r8,r9,r10,r11,x0,hlp,c1,c1i,ix0,ca3,ra3.len];subst hy;by_cases c2:0<xb.phis[0].ins.length
    ·refine aD (by simp[af,ag];first | exact c2 | omega) ?_;refine aa λy hy=>?_;simp[af,ag];refine w17.ff (k:=(4,0)) (α:=InD) t.free El.ef λv18 h18 hle18 hv18 w18 _=>?_;simp(disch:=omega)[af,ag,r2,r4,r5,r7,r8,r9,r10,r11,ae hle18 x0,ix0,ae hle18 ca3];refine w18.bO (k:=(4,0)) (α:=InD) (l:=([]:List InD)) (l2:=xb.phis[0].ins) Own.ah El.ef rfl rfl (ra3.src w18.wle) R9 R9 λv19 h19 w19 _=>?_;rw[OZ]at w19;have w19:Owns W2 h19 (o17.upd (4,0) (it T.je v19 xb.phis[0].ins)):=w19.congr λq=>by rw[bX]
     subst hy;refine aa λy hy=>?_;have s19:=w19.now (k:=(4,0)) Own.ah;have m0:=PR (xb.phis[0].ins.length:Int) (show(0:Int)<=n by omega);have m1:=PD (n:Int) (show(0:Int)<xb.phis[0].ins.length by omega);have hne:¬xb.phis[0].ins=[]:=λe=>by rw[e]at c2;simp at c2
     simp(disch:=omega)[af,ag,r2,r4,r5,r7,r8,r9,r10,r11,s19.len,hne,s19.idxn (N:=2) rfl];refine w19.mQ (k:=(4,0)) (α:=InD) InD.zO (v:=v19) (l:=xb.phis[0].ins) (i:=((n:Int).tmod xb.phis[0].ins.length).toNat) (d:=(n:Int)) Own.ah R1 rfl rfl R3 (aX.2 ⟨rfl,by constructor<;>omega⟩) λh20 w20 _=>?_;have w20:Owns W2 h20 (o17.upd (4,0) (it T.je v19 _)):=w20.congr λq=>by rw[bX]
     subst hy;have x0':ao (vw h20) ⟨X,0,Sf⟩=Se vp2:=w20.raw (k:=(3,1)) ((Own.ak Sa).trans t.box) (i:=0) R4;obtain⟨w21,s21⟩:=w20.freeze Own.ah;have hWp:=eH (h:=h20) (w20.av _ _ Own.ah);have w21:=w21.congr (o':=o17) λq=>by
      rw[bX];unfold Own.upd;split
      ·rename_i e;rw[e];exact t.free
      rfl
     simp(disch:=omega)[af,ag,r2,r4,r5,r7,r8,r9,r10,r11,x0',ix0];refine(t.wider hWp).IG w21 (j:=0) c1 s21 (by rw[OR];exact hta) R1 (by rw[PY];rfl) rfl λh2 tE=>?_;refine fin _ _ (tE.mono R3) ?_ ?_ ?_ ?_ ?_<;>simp[af,ag,r2,r4,r5,r8,r10]
    have he:xb.phis[0].ins=[]:=OC R3;refine aC (by simp[af,ag,he]) ?_;simp;refine fin _ _ (TuE.mono ⟨_,_,_,_,_,_,_,_,_,_,_,_,_,t,w17⟩ R3) ?_ ?_ ?_ ?_ ?_<;>simp[af,ag,r2,r4,r5,r8,r10]
   have he:xb.phis=[]:=OC R3;have c1i:¬(0:Int)<xb.phis.length:=by omega
   simp[af,ag,r2,r4,r5,r7,r8,r9,r10,r11,x0,hlp,c1,c1i];subst hy;refine aC (by simp[af,ag,he]) ?_;simp;refine fin _ _ (TuE.mono ⟨_,_,_,_,_,_,_,_,_,_,_,_,_,t,w17⟩ R3) ?_ ?_ ?_ ?_ ?_<;>simp[af,ag,r2,r4,r5,r8,r10]
  refine aC (by simp[af,ag,w7]) ?_;refine aa λy hy=>?_;simp[af,ag,r2,r4,r5,r7,r8,r9,r10,r11];subst hy;by_cases w8:what=8
  ·refine aD (by simp[af,ag,w8]) ?_;refine aa λy hy=>?_;simp[af,ag,r2,r4,r5,r7,r8,r9,r10,r11,x1,hli];subst hy;by_cases c1:0<xb.ins.length
   ·have hj:=hj1 c1;refine aD (by simp[af,ag];exact c1) ?_;obtain⟨v1,v2,e1,e2,wc,src⟩:=Owns.cut w17 t.ins (N:=5) rfl hj;have hwj:IntKind.i64.wrap ((j:Int)+1)=(j:Int)+1:=bj R3 R3;refine aI (vw h17) S2 ?_;simp[af,ag,r2,r4,r5,r7,r8,r9,r10,r11,x1,e1,e2,hwj];refine wc.bO (k:=(3,2)) (α:=InsD) (l:=xb.ins.take j) (l2:=xb.ins.drop (j+1)) Own.ah El.kg rfl rfl src R9 R9 λv18 h18 w18 _=>?_;have w18:Owns W2 h18 (o17.upd (3,2) (it T.dA v18 (xb.ins.take j++xb.ins.drop (j+1)))):=w18.congr λq=>by rw[bX]
    refine t.Jx w18 R9 (λi hi=>by
     rcases OD.1 hi with q | q
     ·exact t.tb.iar i (Rq q)
     exact t.tb.iar i (List.mem_of_mem_drop q)) R1 rfl rfl λh2 tE=>?_;refine fin _ _ (tE.mono R3) ?_ ?_ ?_ ?_ ?_<;>simp[af,ag,r2,r4,r5,r8,r10]
   have he:xb.ins=[]:=OC R3;refine aC (by simp[af,ag,he]) ?_;simp;refine fin _ _ (TuE.mono ⟨_,_,_,_,_,_,_,_,_,_,_,_,_,t,w17⟩ R3) ?_ ?_ ?_ ?_ ?_<;>simp[af,ag,r2,r4,r5,r8,r10]
  refine aC (by simp[af,ag,w8]) ?_;refine aa λy hy=>?_;simp[af,ag,r2,r4,r5,r7,r8,r9,r10,r11];subst hy;by_cases w9:what=9
  ·refine aD (by simp[af,ag,w9]) ?_;refine aa λy hy=>?_;simp[af,ag,r2,r4,r5,r7,r8,r9,r10,r11,x1,hli];subst hy;by_cases c1:1<xb.ins.length
   ·have hj:=hj1 R3;refine aD (by simp[af,ag];omega) ?_;have h0i:0<xb.ins.length:=by omega
    obtain⟨u0,hu0,hr0⟩:=Owns.ldW w17 t.ins rfl (N:=5) rfl h0i;obtain⟨uj,huj,hrj⟩:=Owns.ldW w17 t.ins rfl (N:=5) rfl hj;rw[PY]at hu0;obtain⟨va0,rfl,rng0,ra0⟩:=Ex hr0;have ix0:Bn.ev (.idx 5) vi2 (Sb Sc 0)=Se (Si (Se ((slA vi2).add 0))):=by have:=sI.idxn (N:=5) rfl (k:=.i64) (i:=0) R3 R3;simpa using this
    refine aa λy hy=>?_;simp(disch:=omega)[af,ag,r2,r4,r5,r7,r8,r9,r10,r11,x1,ix0,hu0];have hva0:=ra0.cells.2;refine w17.dE (k:=(4,0)) (n:=4) (l:=[Sb Sc xb.ins[0].op,Sb Sc xb.ins[0].dst,Sb Sc xb.ins[0].two,va0,Sb Sd xb.ins[0].imm.v]) t.free (z:=.agg #[Sb Sc 0,Sb Sc 0,Sb Sc 0,Sg Sf 0 0,Sb Sd 0]) R1 rfl R1 rfl R4 (by intro c hc;simp only[OO,PF,or_false]at hc;rcases hc with rfl | rfl | rfl | rfl | rfl<;>first | rfl | assumption) R5 R5 λh18 q18 w18=>?_;generalize h17.size=Y at w18;have x18:=ae q18 x1;have huj18:Un.ev (vw h18) (.aT 5) (Si (Se ((slA vi2).add (j*5))))=Se uj:=by have:=dq (ρ:=λ_=>Sf) (e:=.un (.aT 5) (.con (Si (Se ((slA vi2).add (j*5)))))) q18 (by simpa using huj);simpa using this
    subst hy;refine aa λy hy=>?_;refine aI (vw h18) S2 ?_;simp(disch:=omega)[af,ag,r2,r4,r5,r7,r8,r9,r10,r11,x18,ix0,sI.idxn (N:=5) rfl,huj18];refine w18.aK (k:=(3,2)) (α:=InsD) (v:=vi2) (l:=xb.ins) (i:=0) (d:=xb.ins[j]) ((Own.ak Sa).trans t.ins) R1 (by rw[PY];rfl) rfl h0i hrj λh19 w19 _=>?_;have cY:=w19.ny (k:=(4,0)) (n:=4) ((Own.ak Sa).trans Own.ah);have cY:Un.ev (vw h19) (.aT 5) (Si (Se ⟨Y,0,Sf⟩))=Se (.agg #[Sb Sc xb.ins[0].op,Sb Sc xb.ins[0].dst,Sb Sc xb.ins[0].two,va0,Sb Sd xb.ins[0].imm.v]):=cY;have x19:ao (vw h19) ⟨X,1,Sf⟩=Se vi2:=w19.raw (k:=(3,1)) ((Own.ak Sa).trans ((Own.ak Sa).trans t.box)) (i:=1) R4;have s19:=w19.now (k:=(3,2)) Own.ah;subst hy;simp(disch:=first | omega | (simp;omega)) [af,ag,r2,r4,r5,r7,r8,r9,r10,r11,x19,cY,s19.idxn (N:=5) rfl];refine w19.aK (k:=(3,2)) (α:=InsD) (v:=vi2) (l:=xb.ins.set 0 xb.ins[j]) (i:=j) (d:=xb.ins[0]) Own.ah R1 rfl rfl (by rw[OR];exact hj) hr0 λh20 w20 _=>?_;have w20:Owns W2 h20 (o17.upd (3,2) (it T.dA vi2 ((xb.ins.set 0 xb.ins[j]).set j xb.ins[0]))):=w20.sub λk i hk=>by
     have hk4:k≠(4,0):=by rintro rfl;rw[Own.ak Sa,t.free]at hk;cases hk
     by_cases e:k=(3,2)
     ·subst e;rw[Own.ah]at hk ⊢;exact hk
     rw[Own.ak e]at hk;rw[Own.ak e,Own.ak e,Own.ak hk4];exact hk
    refine fin _ _ (TuE.mono ⟨W2,_,f.params,vp2,vi2,va,vt,xb.term.kind,xb.term.imm.v,xb.phis,(xb.ins.set 0 xb.ins[j]).set j xb.ins[0],xb.term.args,xb.term.to,⟨t.le,(Own.ak Sa).trans t.res,(Own.ak Sa).trans t.fn,(Own.ak Sa).trans t.blk,(Own.ak Sa).trans t.box,Own.ah,(Own.ak Sa).trans t.phis,(Own.ak Sa).trans t.free,λk hk=>(Own.ak (by rintro rfl;simp at hk)).trans (t.fr k hk),t.ra,t.rt,t.ips,t.ikd,t.iim,⟨t.tb.phis,by rw[OR,OR];exact t.tb.ins,t.tb.args,t.tb.to,t.tb.pin,λi hi=>?_⟩⟩,w20⟩ R3) ?_ ?_ ?_ ?_ ?_
    ·rcases Pw hi with q | q
     ·rcases Pw q with q | q
      ·exact t.tb.iar i q
      rw[q];exact t.tb.iar _ (O5 hj)
     rw[q];exact t.tb.iar _ (O5 h0i)
    all_goals simp[af,ag,r2,r4,r5,r8,r10]
   refine aC (by simp[af,ag];omega) ?_;simp;refine fin _ _ (TuE.mono ⟨_,_,_,_,_,_,_,_,_,_,_,_,_,t,w17⟩ R3) ?_ ?_ ?_ ?_ ?_<;>simp[af,ag,r2,r4,r5,r8,r10]
  refine aC (by simp[af,ag,w9]) ?_;refine aa λy hy=>?_;simp[af,ag,r2,r4,r5,r7,r8,r9,r10,r11];subst hy;by_cases w10:what=10
  ·refine aD (by simp[af,ag,w10]) ?_;refine aa λy hy=>?_;simp[af,ag,r2,r4,r5,r7,r8,r9,r10,r11,x4,hlt];subst hy;by_cases c1:0<xb.term.to.length
   ·refine aD (by simp[af,ag];exact c1) ?_;refine aa λy hy=>?_;simp[af,ag];refine w17.ff (k:=(4,0)) (α:=Int) t.free El.aP λv18 h18 hle18 hv18 w18 _=>?_;simp(disch:=omega)[af,ag,r2,r4,r5,r7,r8,r9,r10,r11,ae hle18 x4];refine w18.bO (k:=(4,0)) (α:=Int) (l:=([]:List Int)) (l2:=xb.term.to) Own.ah El.aP rfl rfl (t.rt.src w18.wle) R9 R9 λv19 h19 w19 _=>?_;rw[OZ]at w19;have w19:Owns W2 h19 (o17.upd (4,0) (it T.int v19 xb.term.to)):=w19.congr λq=>by rw[bX]
    subst hy;refine aa λy hy=>?_;have s19:=w19.now (k:=(4,0)) Own.ah;have m0:=PR (xb.term.to.length:Int) (show(0:Int)<=n by omega);have m1:=PD (n:Int) (show(0:Int)<xb.term.to.length by omega);have q0:=PR (11:Int) (show(0:Int)<=n by omega);have q1:=PD (n:Int) (show(0:Int)<11 by omega);have hne:¬xb.term.to=[]:=λe=>by rw[e]at c1;simp at c1
    simp(disch:=omega)[af,ag,r2,r4,r5,r7,r8,r9,r10,r11,s19.len,hne,s19.idx1 rfl];refine w19.aK (k:=(4,0)) (α:=Int) (v:=v19) (l:=xb.term.to) (i:=((n:Int).tmod xb.term.to.length).toNat) (d:=(n:Int).tmod 11) Own.ah R1 (by rw[show Rep.n Int=1 from rfl,Pn];rfl) rfl R3 (aX.2 ⟨rfl,by constructor<;>omega⟩) λh20 w20 _=>?_;have w20:Owns W2 h20 (o17.upd (4,0) (it T.int v19 (xb.term.to.set ((n:Int).tmod xb.term.to.length).toNat ((n:Int).tmod 11)))):=w20.congr λq=>by rw[bX]
    subst hy;obtain⟨w21,s21⟩:=w20.freeze Own.ah;have hWp:=eH (h:=h20) (w20.av _ _ Own.ah);have w21:=w21.congr (o':=o17) λq=>by
     rw[bX];unfold Own.upd;split
     ·rename_i e;rw[e];exact t.free
     rfl
    simp(disch:=omega)[af,ag,r2,r4,r5,r7,r8,r9,r10,r11];refine(t.wider hWp).Ek w21 s21 (by rw[OR];exact t.tb.to) R1 rfl rfl λh2 tE=>?_;refine fin _ _ (tE.mono R3) ?_ ?_ ?_ ?_ ?_<;>simp[af,ag,r2,r4,r5,r8,r10]
   have he:xb.term.to=[]:=OC R3;refine aC (by simp[af,ag,he]) ?_;simp;refine fin _ _ (TuE.mono ⟨_,_,_,_,_,_,_,_,_,_,_,_,_,t,w17⟩ R3) ?_ ?_ ?_ ?_ ?_<;>simp[af,ag,r2,r4,r5,r8,r10]
  refine aC (by simp[af,ag,w10]) ?_;simp[af,ag,r2,r4,r5,r7,r8,r9,r10,r11,x0];refine an (z:=.agg #[Sb Sc 0,Sg Sf 0 0]) (places:=[(0,1),(1,1)]) (vs:=[(0,Sb Sc n)]) (cs:=#[Sb Sc n,Sg Sf 0 0]) R1 R1 Sa RZ ?_;refine w17.gW (k:=(3,3)) (α:=PhiD) (d:=⟨n,[]⟩) t.phis El.kZ rfl (Cq R6 aF) R3 R3 (λ_=>rfl) (λ_=>rfl) λu18 v18 h18 w18 _=>?_;refine(t.more (d:=c+1) R3).JN w18 (by rw[OH,OU];omega) (λi hi=>by
   rcases OD.1 hi with q | q
   ·have:=t.tb.pin i q;omega
   rw[OI]at q;rw[q];exact Qw _) R1 rfl rfl λh2 tE=>?_;refine fin _ _ tE ?_ ?_ ?_ ?_ ?_<;>simp[af,ag,r2,r4,r5,r8,r10]
 refine aa λy hy=>?_;simp[x1,hli];subst hy;by_cases c1:0<xb.ins.length
 ·rw[if_pos c1]at hj2;have hne:¬xb.ins=[]:=λe=>by rw[e]at c1;simp at c1
  refine aD (by simp[hne];exact c1) ?_;simp[x1,hli,hne];refine sw _ ?_ ?_ ?_ ?_ ?_ ?_ ?_ ?_;all_goals simp[hj2]
 rw[if_neg c1]at hj2;have he:xb.ins=[]:=OC R3;refine aC (by simp[he]) ?_;simp;refine sw _ ?_ ?_ ?_ ?_ ?_ ?_ ?_ ?_;all_goals simp[hj2]
end Go.Proofs.YtnfiilgdjpdlkaaGreatDoor
namespace Go.Lft
open Go
section
variable {po po2:OP} {W:View} {h h':Heap} {o:Own} {k:Key} {P:Program} {ty:TypeId} {us:List (Nat × Value)}
theorem Owns.uU {α:Type} [Rep α] {t:TypeId} {z:Value} {d:α} {K:Value->Heap->Prop} (w:Owns W h o) (hk:o k=Sf) (hz:(P.info? t).map (·.zero)=Se (Se z)) (hr:Rd W (.agg z.cells) d) (hn:Rep.n α<=1000)
  (hK : ∀B h',(vw h).le (vw h')->Owns W h' (o.upd k (bx t B d))->K (Si (Se ⟨B,0,Sf⟩)) h'):@step po P (.alloc t) ty us h K:=by
 refine _root_.Go.Lft.db hz ?_;have q1:=bC h (.cells z.cells t);have b2:(h.push (.cells z.cells t))[h.size]? = Se (.cells z.cells t (0,0)):=by simp
 generalize h.push (.cells z.cells t)=h2 at q1 b2;have hz2:(Value.agg z.cells).cells=z.cells:=rfl;exact hK _ _ q1 (w.add hk (fe (v:=.agg z.cells) (by rw[hz2];exact b2) hr hn) q1 λb hb=>by simp only[Value.ownBlock,N7]at hb;omega)
theorem Owns.mT {α:Type} [Rep α] {e:TypeId} {B:Nat} {d:α} (w:Owns W h o) (hk:o k=bx e B d) : ∃W',W.le W'/\Owns W' h (o.upd k Sf)/\At W' ⟨B,0,Sf⟩ d:=by obtain⟨w1,s1⟩:=w.freeze (v:=Sg (Se ⟨B,0,Sf⟩) 1 1) (l:=[d]) hk;refine⟨_,eH (w.av k _ hk),w1,?_⟩;have:=s1.at (i:=0) Sa;simpa[slA,Addr.z]using this
end
end Go.Lft
namespace Go.Proofs.YtnfiilgdjpdlkaaGreatDoor
open Go Go.Lft
end Go.Proofs.YtnfiilgdjpdlkaaGreatDoor
namespace Go.Proofs.YtnfiilgdjpdlkaaGreatDoor
open Go Go.Lft Go.ChangeShapes Go.WideShapes Go.ChangeAt Go.RowKit
theorem Ln{P:Program}{t e:TypeId}(ht:P.underlying t=Se (.array 3 e))(he:P.underlying e=Se (.int .i64))(hc:P.cellsOf e=1)(hc2:P.cellsOf t=3):RT P t Q3 where
 cells:=fun{H enc W spare held fuel cs d ps} h _=>by
  obtain⟨xs,m,_,_,hl,hxl,hget⟩:=DataW.trod_array ht h
  rw[hc2]at hl
  match cs,hl with
  | [u,v,w],_=>
   have h0:=hget 0 R3
   have h1:=hget 1 R3
   have h2:=hget 2 R3
   rw[hc,Pl R3]at h0 h1 h2
   obtain⟨a,e1,w1⟩:=trod_int he h0
   obtain⟨b,e2,w2⟩:=trod_int he h1
   obtain⟨c,e3,w3⟩:=trod_int he h2
   simp at e1 e2 e3
   subst e1;subst e2;subst e3
   exact⟨⟨a,b,c⟩,[Sb Sc a],[Sb Sc b,Sb Sc c],rfl,⟨rfl,wf_i64 w1⟩,[Sb Sc b],[Sb Sc c],rfl,⟨rfl,wf_i64 w2⟩,rfl,wf_i64 w3⟩
 val:=fun{W r base v} h=>by
  simp only[Value.okWide,ht]at h
  obtain⟨cs,rfl,_⟩:=h
  exact⟨cs,rfl⟩
theorem rtQ6:RT Sn T.lq Q3:=Ln (e:=T.int) R1 R1 R1 R1
end Go.Proofs.YtnfiilgdjpdlkaaGreatDoor
