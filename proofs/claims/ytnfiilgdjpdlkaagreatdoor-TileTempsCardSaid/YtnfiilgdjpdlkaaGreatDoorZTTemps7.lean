/- A part of the proof: ShelfF, Oo, Ub, Uc, Ox, Oy, Oz, Qa, Qb, Qc, LftDg, Qd, Qe, Qf, Qg, Op, Oq, Or, Os, Ot. -/
import Derived.Test.YtnfiilgdjpdlkaaGreatDoorZTTemps6
import Derived.Shelf.Strings.Fields
import Derived.Test.YtnfiilgdjpdlkaaGreatDoorRows
import Derived.Lib.LaidTab
import Derived.LaidMore
set_option linter.unusedSimpArgs false
set_option linter.unusedVariables false
namespace Go.Proofs
open Go.Shelf
def Tryz.kC:Go.Shelf.Ren:=⟨fun | 157=>41 | 229=>65 | 199=>66 | 261=>114 | 311=>136 | 312=>137 | n=>n,fun | 9=>9 | 31=>105 | 3=>3 | 5=>5 | 4=>4 | 119=>140 | 0=>0 | 40=>142 | 152=>176 | 21=>21 | 154=>178 | 51=>151 | 141=>180 | 196=>204 | 193=>201 | 198=>207 | 49=>205 | 194=>202 | 201=>210 | 226=>220 | 46=>76 | 227=>221 | n=>n,fun | 0=>0 | 6=>1 | n=>n⟩
theorem Tryz.FI:Go.Proofs.Lays.n157 Tryz.prog Tryz.kC:={
 mixed:=by kernel_rfl
 f157:=Tryz.func41.trans (congrArg some (by kernel_rfl))
 f199:=Tryz.func66.trans (congrArg some (by kernel_rfl))
 f229:=Tryz.func65.trans (congrArg some (by kernel_rfl))
 f261:=Tryz.func114.trans (congrArg some (by kernel_rfl))
 f311:=Tryz.func136.trans (congrArg some (by kernel_rfl))
 f312:=Tryz.func137.trans (congrArg some (by kernel_rfl))
 t0:=Tryz.underlying0
 a0:=Tryz.isAgg0
 z0:=Tryz.sizeOf0
 v0:=Tryz.zeroValue0
 t3:=Tryz.underlying3
 a3:=Tryz.isAgg3
 z3:=Tryz.sizeOf3
 v3:=Tryz.zeroValue3
 t4:=Tryz.underlying4
 a4:=Tryz.isAgg4
 z4:=Tryz.sizeOf4
 v4:=Tryz.zeroValue4
 t5:=Tryz.underlying5
 a5:=Tryz.isAgg5
 z5:=Tryz.sizeOf5
 v5:=Tryz.zeroValue5
 t9:=Tryz.underlying9
 a9:=Tryz.isAgg9
 z9:=Tryz.sizeOf9
 v9:=Tryz.zeroValue9
 t21:=Tryz.underlying21
 a21:=Tryz.isAgg21
 z21:=Tryz.sizeOf21
 v21:=Tryz.zeroValue21
 t31:=Tryz.underlying105
 a31:=Tryz.isAgg105
 z31:=Tryz.sizeOf105
 v31:=Tryz.zeroValue105
 t40:=Tryz.underlying142
 a40:=Tryz.isAgg142
 z40:=Tryz.sizeOf142
 v40:=Tryz.zeroValue142
 t46:=Tryz.underlying76
 a46:=Tryz.isAgg76
 z46:=Tryz.sizeOf76
 v46:=Tryz.zeroValue76
 t49:=Tryz.underlying205
 a49:=Tryz.isAgg205
 z49:=Tryz.sizeOf205
 v49:=Tryz.zeroValue205
 t51:=Tryz.underlying151
 a51:=Tryz.isAgg151
 z51:=Tryz.sizeOf151
 v51:=Tryz.zeroValue151
 t119:=Tryz.underlying140
 a119:=Tryz.isAgg140
 z119:=Tryz.sizeOf140
 t141:=Tryz.underlying180
 a141:=Tryz.isAgg180
 z141:=Tryz.sizeOf180
 v141:=Tryz.zeroValue180
 t152:=Tryz.underlying176
 a152:=Tryz.isAgg176
 z152:=Tryz.sizeOf176
 v152:=Tryz.zeroValue176
 t154:=Tryz.underlying178
 a154:=Tryz.isAgg178
 z154:=Tryz.sizeOf178
 v154:=Tryz.zeroValue178
 t193:=Tryz.underlying201
 a193:=Tryz.isAgg201
 z193:=Tryz.sizeOf201
 v193:=Tryz.zeroValue201
 t194:=Tryz.underlying202
 a194:=Tryz.isAgg202
 z194:=Tryz.sizeOf202
 v194:=Tryz.zeroValue202
 t196:=Tryz.underlying204
 a196:=Tryz.isAgg204
 z196:=Tryz.sizeOf204
 v196:=Tryz.zeroValue204
 t198:=Tryz.underlying207
 a198:=Tryz.isAgg207
 z198:=Tryz.sizeOf207
 v198:=Tryz.zeroValue207
 t201:=Tryz.underlying210
 a201:=Tryz.isAgg210
 z201:=Tryz.sizeOf210
 v201:=Tryz.zeroValue210
 t226:=Tryz.underlying220
 a226:=Tryz.isAgg220
 z226:=Tryz.sizeOf220
 v226:=Tryz.zeroValue220
 t227:=Tryz.underlying221
 a227:=Tryz.isAgg221
 z227:=Tryz.sizeOf221
 v227:=Tryz.zeroValue221
 g0:=by kernel_rfl
 g6:=by kernel_rfl }
end Go.Proofs
namespace Go.Lft
open Go
structure StrD where
 v:ByteArray
instance:Rep StrD where
 n:=1
 agg:=false
 rd:=fun _ cs d=>cs=[.string d.v]
 mono:=fun _ h=>h
 len:=fun h=>by rw[h];rfl
 one:=fun _=>rfl
 flat:=fun h u hu=>by rw[h]at hu;simp at hu;subst hu;rfl
 pos:=Nv
 fG:=fun h=>h
theorem At.str {H:View} {a:Addr} {d:StrD} (h:At H a d):aj H a=some (.string d.v):=by
 obtain⟨u,h1,h2⟩:=h.load rfl;have:u = .string d.v:=by unfold Rd at h2;simpa[Rep.agg,Rep.rd]using h2
 rw[this]at h1;exact h1
end Go.Lft
namespace Go.Proofs.YtnfiilgdjpdlkaaGreatDoor
open Go Go.Lft
def Tab (h:Heap):Prop:=∀c:Nat,c<256->aj (vw h) ⟨Tryz.kC.g 0,c,none⟩=some (.int .u8 (if Lib.isSp (UInt8.ofNat c) then 1 else 0))
theorem Tab.mono {h h':Heap} (t:Tab h) (hle:(vw h).le (vw h')):Tab h':=fun c hc=>ae hle (t c hc)
theorem Jv {w:World} {b o:Nat} {v:Value} (h:aj (vw w.heap) ⟨b,o,none⟩=some v):w.cell? ⟨b,o,none⟩=some v:=by
 unfold aj at h;unfold World.cell?;simp only[vw]at h;cases hb:w.heap[b]? with
 | none=>rw[hb]at h;simp at h
 | some x=>rw[hb]at h;cases x<;>simp_all
def fieldsD (s:ByteArray):List StrD:=(Lib.fields s.data.toList).map fun l=>⟨⟨l.toArray⟩⟩
theorem wv {s:ByteArray} {h:Heap} (ht:Tab h) (hs:s.size<4294967281) (ha : ∀(j:Nat) b,s.data.toList[j]? = some b->b.toNat<128) (hn:(fieldsD s).length<=1000000) :
  aw Tryz.prog N.strings_Fields #[.string s] h (fun u h'=>(vw h).le (vw h')/\SlRd (vw h') u (fieldsD s)):=by
 intro w hw;subst hw;refine Calls.mono (Any.strings_Fields_core (P:=Tryz.prog) (ρ:=Tryz.kC) Tryz.FI (by kernel_rfl) s w hs ha fun c hc=>Jv (ht c hc)) ?_;rintro e w' ⟨rfl,rfl⟩;refine⟨_,rfl,⟨bM _ _,?_⟩,ic _ _⟩;have hl:(fieldsD s).length=(Lib.fields s.data.toList).length:=by simp[fieldsD]
 refine⟨some ⟨w.heap.size,0,none⟩,(Lib.fields s.data.toList).length,by rw[hl],by omega,by omega,.inr ⟨_,rfl,rfl,fun i hi=>?_⟩⟩;have hi':i<(Lib.fields s.data.toList).length:=by omega
 rw[bw rfl];refine⟨[.string ⟨(Lib.fields s.data.toList)[i].toArray⟩],⟨_,_,_,rfl,World.alloc_heap_new w _,?_⟩,?_⟩
 ·have hn1:Rep.n StrD=1:=rfl;rw[hn1,Lq,LG];show List.take 1 (List.drop i ((Lib.fields s.data.toList).map fun l=>Value.string ⟨l.toArray⟩))=_;rw[KY (by simpa using hi')];simp
 show[Value.string _]=[Value.string _];simp[fieldsD]
def mf:ByteArray:=⟨#[108,105,32,108,105,119,32,97,100,100,32,115,117,98,32,109,117,108,32,97,110,100,32,111,114,32,120,111,114,32,115,104,108,32,115,104,114,32,115,97,114,32,101,113,32,108,116,32,108,116,117,32,100,105,118,32,97,100,100,105,32,115,117,98,105,32,97,110,100,105,32,115,104,108,105,32,115,104,114,105,32,115,97,114,105,32,109,97,100,100,32,108,100,32,108,100,97,32,108,100,120,32,108,100,108,32,115,116,32,115,116,97,32,115,116,120,32,115,116,108,32,99,97,108,108,32,109,117,108,119,32,98,110,122,32,98,101,113,32,98,108,116,32,98,108,116,117,32,106,116]⟩
def qT (pat:Int):ByteArray:=if 1<=pat/\pat<=37 then((fieldsD mf).getD (pat-1).toNat ⟨⟨#[]⟩⟩).v else⟨#[]⟩
theorem jT:(fieldsD mf).length=37:=by kernel_rfl
theorem sP : ∀(j:Nat) b,mf.data.toList[j]? = some b->b.toNat<128:=by
 have h:mf.data.toList.all (fun b=>decide (b.toNat<128))=true:=by kernel_rfl
 exact fun j b hb=>by simpa using Lo.1 h b (Lm hb)
theorem Bg:(fieldsD mf).all (fun s=>!(s.v.toList == (⟨#[]⟩:ByteArray).toList))=true:=by kernel_rfl
instance:Inhabited StrD:=⟨⟨⟨#[]⟩⟩⟩
theorem D8 {pat:Int}:((qT pat).toList == (⟨#[]⟩:ByteArray).toList)=!inR pat 1 37:=by
 unfold qT;by_cases h:1<=pat/\pat<=37
 ·rw[if_pos h];have hlt:(pat-1).toNat<(fieldsD mf).length:=by rw[jT];omega
  have:=Lo.1 Bg _ (Ly hlt);rw[MU,K6 hlt,NY];have e:inR pat 1 37=true:=by simp[inR,h.1,h.2]
  rw[e];simpa using this
 rw[if_neg h];have e:inR pat 1 37=false:=by unfold inR;simpa using h
 rw[e];exact beq_self_eq_true _
theorem uq {pat:Int}:(qT pat).toList.isEmpty=!inR pat 1 37:=by have h:=D8 (pat:=pat);rw[show(⟨#[]⟩:ByteArray).toList=[] by kernel_rfl]at h;rw[<-h];cases (qT pat).toList<;>rfl
theorem Bu {pat:Int} {h:Heap} (ht:Tab h) (hp:I64 pat):aw Tryz.prog N.iI #[.int .i64 pat] h (fun u h'=>(vw h).le (vw h')/\u = .string (qT pat)):=by
 refine ao (args:=[.int .i64 pat]) follows F.iI E.iI (Kw (by kernel_rfl)) fun K hK=>?_;dsimp only[L.iI];refine ab fun z hz=>?_;simp;subst hz;refine ab fun z hz=>?_;simp;refine af (by kernel_rfl) (wv (s:=mf) ht (of_decide_eq_true (by kernel_rfl)) sP (by rw[jT];decide)) ?_;rintro u h1 ⟨hle,hu⟩;have hl:=hu.len (K:=vw h1);rw[jT]at hl;subst hz;refine ab fun z hz=>?_;by_cases c1:pat<1
 ·simp[c1];exact hK _ _ ⟨hle,by unfold qT;rw[if_neg (by omega)]⟩
 by_cases c2:37<pat
 ·simp[c1,hl,c2];exact hK _ _ ⟨hle,by unfold qT;rw[if_neg (by omega)]⟩
 have hlt:(pat-1).toNat<(fieldsD mf).length:=by rw[jT];omega
 have hx:=hu.idx1 (k:=.i64) (i:=pat-1) rfl (by omega) (by rw[jT];omega);have hc:=(hu.at hlt).str;rw[show(pat-1).toNat*Rep.n StrD=(pat-1).toNat from Lq _]at hc;have et:(pat-1).toNat=pat.toNat-1:=by omega
 have hc:aj (vw h1) ((slA u).add (pat.toNat-1))=some (.string ((fieldsD mf)[(pat-1).toNat]).v):=by rw[<-et];exact hc
 have ew:IntKind.i64.wrap (pat-1)=pat-1:=bE (by have:=hp.1;omega) (by have:=hp.2;omega);simp[c1,hl,c2];subst hz;simp[ew,hx,hc];refine hK _ _ ⟨hle,?_⟩;unfold qT;rw[if_pos (by omega),MU,K6 hlt,NY];simp only[et]
theorem pH {h:Heap} (ht:Tab h):aw Tryz.prog N.eH #[] h (fun u h'=>(vw h).le (vw h')/\u = .int .i64 37):=by refine ao (args:=[]) follows F.eH E.eH (Kw (by kernel_rfl)) fun K hK=>?_;dsimp only[L.eH];refine ab fun z hz=>?_;simp;subst hz;refine ab fun z hz=>?_;simp;refine af (by kernel_rfl) (wv (s:=mf) ht (of_decide_eq_true (by kernel_rfl)) sP (by rw[jT];decide)) ?_;rintro u h1 ⟨hle,hu⟩;have hl:=hu.len (K:=vw h1);rw[jT]at hl;simp[hl];subst hz;simp;exact hK _ _ ⟨hle,rfl⟩
def eG (t:fg):Int:=if inR t.pat 1 37=false then 20 else if inR t.cost 0 1000=false then 22 else 0
def kN:Nat->List fg->Int × Int
 | _,[]=>(0,0)
 | n,t::l=>if eG t=0 then kN (n+1) l else(eG t,n)
def jw (l:List fg):Int × Int:=if 1024<l.length then(2,0) else kN 0 l
theorem sR : ∀{l:List fg} {n:Nat},(∀t∈l,eG t=0)->kN n l=(0,0)
 | [],_,_=>rfl
 | t::l,n,h=>by unfold kN;rw[if_pos (h t (KI ..))];exact sR fun t ht=>h t (KJ _ ht)
theorem tK : ∀{l:List fg} {n k:Nat},(hk:k<l.length)->(∀t∈l.take k,eG t=0)->eG (nth l k)≠0->kN n l=(eG (nth l k),((n+k:Nat):Int))
 | t::l,n,0,_,_,h=>by unfold kN;have h:eG t≠0:=h;rw[if_neg h];rfl
 | t::l,n,k+1,hk,h1,h2=>by unfold kN;rw[if_pos (h1 t (by simp))];have h2':eG (nth l k)≠0:=h2;have:=tK (n:=n+1) (k:=k) (by simpa using hk) (fun t ht=>h1 t (by simp[ht])) h2';rw[this];have e:nth (t::l) (k+1)=nth l k:=rfl;rw[e,show n+1+k=n+(k+1) by omega]
theorem xf {l:List fg} {v:Value} {h:Heap} {W:View} (hW:W.le (vw h)) (hv:SlRd W v l) (ht:Tab h):aw Tryz.prog N.fC #[v] h (fun u h'=>(vw h).le (vw h')/\u = .tuple #[.int .i64 (jw l).1,.int .i64 (jw l).2]):=by
 refine ao (args:=[v]) follows F.fC E.fC (Kw (by kernel_rfl)) fun K hK=>?_;dsimp only[L.fC];have c0:=Cx.start hW;have hl:=hv.len (K:=vw h);have bd:=hv.bound;refine ab fun z hz=>?_;simp;subst hz;refine ab fun z hz=>?_;by_cases c:(1024:Int)<l.length
 ·simp[hl,c];exact hK _ _ ⟨View.le_refl _,by unfold jw;rw[if_pos (by omega)]⟩
 simp[hl,c];subst hz;refine ab fun z hz=>?_;simp[hl];refine aJ [0,9,10,11] (fun(_:Unit) k=>[v,v,.int .i64 l.length,.int .i64 k])
  (fun _ k h1=>(∀t∈l.take k,eG t=0)/\∃W1,W.le W1/\Cx W h W1 h1 fun _=>none) l.length ()
  rfl (by omega) rfl ⟨by simp,W,View.le_refl _,c0⟩ (fun _ _=>rfl) (fun v i h1 hk m=>by simp) ?_ ?_
 ·rintro _ k h1 hk ⟨hb,W1,hW1,c1⟩ K2 hK2;obtain⟨ut,hut,rut⟩:=(hv.mono hW1).wh rfl (N:=2) rfl hk;refine ab fun y hy=>?_;simp(disch:=omega)[((hv.mono hW1).mono c1.wle).idxn (N:=2) rfl,hut _ c1.wle];refine c1.dZ (α:=fg) rut (n:=2) (z:=.agg #[.int .i64 0,.int .i64 0]) (by kernel_rfl) rfl rfl (by kernel_rfl) (fun _=>by simp) (fun _=>by simp) fun B h2 W2 hW2 c2 at2 hle2=>?_;have q0:=(at2.part fg.Hh);have q1:=(at2.part fg.HW);have r0:=q0.rng;have q0:aj W2 ⟨B,0,none⟩=some (.int .i64 (nth l k).pat):=by simpa using q0.int
  have q1:aj W2 ⟨B,1,none⟩=some (.int .i64 (nth l k).cost):=by simpa using q1.int
  have ht2:=ht.mono c2.le0;have hbk:eG (nth l k)≠0->jw l=(eG (nth l k),(k:Int)):=fun hne=>by unfold jw;rw[if_neg (by omega),tK hk hb hne,LG]
  have htk:eG (nth l k)=0->∀t∈l.take (k+1),eG t=0:=fun he t hm=>by
   rw[KM hk,KD,KF,<-az hk]at hm;rcases hm with hm | rfl
   ·exact hb t hm
   exact he
  generalize nth l k=tl at *;subst hy;simp only[aH];refine ab fun y hy=>?_;simp[ae c2.wle q0];refine af (by kernel_rfl) (Bu ht2 ⟨by omega,by omega⟩) ?_;rintro _ h3 ⟨hle3,rfl⟩;have c3:=c2.ext hle3;have hW3:=c2.up (h':=h3);subst hy;cases e1:inR tl.pat 1 37 with
  | false=>
   have e2:eG tl=20:=by unfold eG;rw[if_pos e1]
   have e3:=hbk (by rw[e2];decide);simp[EE,uq,e1];exact hK _ _ ⟨c3.le0,by rw[e3,e2]⟩
  | true=>
   simp[EE,uq,e1];simp[ae (View.le_trans hW3 c3.wle) q1];refine af (by kernel_rfl) je ?_;rintro _ h3 ⟨rfl,rfl⟩;cases e4:inR tl.cost 0 1000 with
   | false=>
    have e2:eG tl=22:=by unfold eG;rw[if_neg (by simp[e1]),if_pos e4]
    have e3:=hbk (by rw[e2];decide);simp;exact hK _ _ ⟨c3.le0,by rw[e3,e2]⟩
   | true=>
    have e2:eG tl=0:=by unfold eG;rw[if_neg (by simp[e1]),if_neg (by simp[e4])]
    simp;exact hK2 () _ _ rfl rfl ⟨htk e2,_,View.le_trans hW1 (View.le_trans hW2 hW3),c3⟩
 rintro _ h1 ⟨hb,W1,hW1,c1⟩;rw[Lz]at hb;simp;subst hz;simp;refine hK _ _ ⟨c1.le0,?_⟩;unfold jw;rw[if_neg (by omega),sR hb]
end Go.Proofs.YtnfiilgdjpdlkaaGreatDoor
namespace Go.Proofs.YtnfiilgdjpdlkaaGreatDoor
open Go Go.Lft Go.ChangeShapes Go.WideShapes Go.ChangeAt Go.RowKit
abbrev zx : List (String × DataW Unit) := [("unicode.White_Space", Rows.laid_unicode_White_Space), ("strings.asciiSpace", Rows.laid_strings_asciiSpace)]
theorem gSp: Tryz.prog.globalNamed "strings.asciiSpace" = some (Tryz.kC.g 0) := by kernel_rfl
theorem H0:(Rows.laid_strings_asciiSpace:DataW Unit)=Lib.tabData .u8 Lib.asciiSpaceTab:=by kernel_rfl
abbrev spT:TypeId:=140
abbrev spE:TypeId:=5
theorem zf{W:World}(h:laidMetH Tryz.prog zx W):Tab W.heap:=by
 rw[MakeChecks.laidMetH_plain _ _ _ (by kernel_rfl)]at h;obtain⟨ps,⟨g0,t0,cs0,f0,p0,q0,hg0,ht0,hv0,hd0,⟨g1,t1,cs1,f1,p1,q1,hg1,ht1,hv1,hd1,_,_⟩,_⟩,_,_⟩:=h;obtain rfl:=Option.some.inj (gSp.symm.trans hg1);have hty:(Tryz.prog.globals[Tryz.kC.g 0]?).map (·.type)=some spT:=by kernel_rfl
 obtain rfl:=Option.some.inj (hty.symm.trans ht1);rw[H0]at hd1;have htab : Lib.TabIs Tryz.prog W "strings.asciiSpace" .u8 Lib.asciiSpaceTab := by unfold Lib.TabIs;rw[hv1,<-Lib.cells_of_tab (n:=256) (e:=spE) (by kernel_rfl) (by kernel_rfl) (by kernel_rfl) (by kernel_rfl) hd1]
 intro c hc;have:=htab.cell gSp c (by rw[Lib.asciiSpaceTab_length];exact hc);rw[Lib.asciiSpaceTab_at c hc]at this;obtain⟨-,a,T,fz,h1,h2⟩:=wI this;unfold aj vw;simp only[h1];simpa using h2
theorem DL(os:Os)(args:Array Value):laidMetH Tryz.prog zx ((World.doorLaid Tryz.prog 400 os).forCall (fun _ _=>0) ⟨#[],args,[]⟩).memory:=
 laidMetH_of_parts3 (fuel:=8) (laidMet_of_run' 8 (by kernel_rfl) (by kernel_rfl)) (by kernel_rfl) (by kernel_rfl)
section
open Go Go.Lft
theorem rtPr:RT Tryz.prog T.gL (Int × Int):=Gm (e:=T.int) (by kernel_rfl) (by kernel_rfl) (by kernel_rfl) (by kernel_rfl)
end
end Go.Proofs.YtnfiilgdjpdlkaaGreatDoor
namespace Go.Lft
open Go
section
variable {po po2:OP} {V W:View} {h0 h h':Heap} {o:Own} {k:Key} {P:Program} {ty:TypeId} {us:List (Nat × Value)}
theorem Cx.DK {α:Type} [Rep α] {t:TypeId} {x:Operand} {v:Value} {d:α} {K:Value->Heap->Prop} (c:Cx V h0 W h o) (hk:o k=none) (hx:asg us x=v) (hv:Rd W v d) (hn:Rep.n α<=1000)
  (hK : ∀B h',(vw h).le (vw h')->Cx V h0 W h' (o.upd k (bx t B d))->K (.pointer (some ⟨B,0,none⟩)) h'):@step po P (.box t x) ty us h K:=by
 refine _root_.Go.Lft.dy hx ?_;have q1:=bM h (.cells v.cells t);have b2:(h.push (.cells v.cells t))[h.size]? = some (.cells v.cells t (0,0)):=by simp
 generalize h.push (.cells v.cells t)=h2 at q1 b2;refine hK _ _ q1 ⟨c.own.add hk (jB b2 hv hn) q1 fun b hb=>by simp only[Value.ownBlock,Kx]at hb;omega,c.old,View.le_trans c.le0 q1,fun j i b hj hb=>?_⟩;by_cases e:j=k
 ·subst e;rw[Own.an]at hj;cases hj;cases hb;exact bW c.le0
 rw[Own.ay e]at hj;exact c.new j i b hj hb
theorem Cx.gZ {α β:Type} [Rep α] [Rep β] {off:Nat} {g:α->β} {s:α->β->α} (p:Part α β off g s) {e t:TypeId} {x y:Operand} {B:Nat} {D:α} {u:Value} {d:β} {K:Value->Heap->Prop} (c:Cx V h0 W h o) (hk:o k=bx e B D) (hsz:dp P t=some (Rep.n β)) (hx:asg us x = .pointer (some ⟨B,off,.none⟩)) (hy:asg us y=u) (hr:Rd W u d)
  (hK : ∀h',Cx V h0 W h' (o.upd k (bx e B (s D d)))->K undef h'):@step po P (.store t x y) ty us h K:=
 c.own.oZ p hk hsz hx hy hr fun h2 w hX=>hK _ ⟨w,c.old,hX _ c.le0 (View.cM (View.le_refl _) (c.new k _ B hk rfl)),fun j i b hj hb=>by
  by_cases e:j=k
  ·subst e;rw[Own.an]at hj;cases hj;exact c.new _ _ b hk hb
  rw[Own.ay e]at hj;exact c.new j i b hj hb⟩
theorem Cx.HC {α:Type} [Rep α] {e:TypeId} {B:Nat} {d:α} (c:Cx V h0 W h o) (hk:o k=bx e B d) (ha:Rep.agg α=true) {N:Nat} (hN:Rep.n α=N) : ∃u,Un.ev (vw h) (.au N) (.pointer (some ⟨B,0,none⟩))=some u/\Rd W u d:=by
 subst hN;obtain⟨cs,hcs,hr⟩:=c.own.atW hk;have h1:=Rep.len hr;have:=gy hcs (Rep.n α) 0 #[] (by omega);refine⟨.agg cs.toArray,?_,?_⟩
 ·simp only[Un.ev,vP,KS];rw[this];simp[<-h1]
 unfold Rd;rw[if_pos ha];exact⟨_,rfl,by simpa using hr⟩
theorem Cx.Jn {α:Type} [Rep α] {e:TypeId} {B:Nat} {d:α} (c:Cx V h0 W h o) (hk:o k=bx e B d):At (vw h) ⟨B,0,none⟩ d:=c.own.at hk
end
end Go.Lft
namespace Go.Proofs.YtnfiilgdjpdlkaaGreatDoor
open Go Go.Lft
section
variable {V:View} {h:Heap} {S I O P Q LL TT:Nat} {s:bN} {op plain sum:Int}
abbrev sV:List Value:=[.int .i64 0,.int .i64 0,.int .i64 0,.int .i64 0,.int .i64 0,.int .i64 0,.int .i32 0,.slice none 0 0]
theorem tz {W:View} {m:aW} {vm:Value} (mx:Mx V S I O P Q LL TT s op plain sum) (hV:V.le W) (hW:W.le (vw h)) (hm:Rd W vm m) (ho:op=15\/2<=s.i.args.length) :
  aw Tryz.prog N.bY #[vm,ptr O,ptr I,ptr P] h (fun u h'=>(vw h).le (vw h')/\Rd (grow W h h') u (iW s.i op plain m)):=by
 refine ao (args:=[vm,ptr O,ptr I,ptr P]) follows F.bY E.bY (Kw (by kernel_rfl)) fun K hK=>?_;dsimp only[L.bY];have c0:=Cx.start hW;refine ab fun z hz=>?_;simp;refine c0.DK (k:=(0,1)) rfl rfl hm (by decide) fun M h1 hle1 c1=>?_;refine c1.cO (k:=(0,0)) (n:=7) (z:=.agg sV.toArray) (by rfl) (by kernel_rfl) rfl (by decide) (by simp[Value.cells,Value.oneCell']) fun R h2 hle2 c2=>?_;subst hz;have hk1:(Own.upd (Own.upd (fun _=>none) (0,1) (bx T.eO M m)) (0,0) (bx T.eO R (RawN.mk (n:=7) (Value.agg sV.toArray).cells.toList))) (0,1)=bx T.eO M m:=rfl
 have vh:V.le (vw h2):=View.le_trans hV c2.wle;have e1:=ae vh mx.op;have e2:=ae vh mx.plain;have i1:=(mx.ct.ins.part InsD.iN);have r1:=i1.rng;have i1:aj (vw h2) ⟨I,1,none⟩=some (.int .i64 s.i.dst):=ae vh (by simpa using i1.int);obtain⟨va,i3,hva⟩:=(mx.ct.ins.part InsD.fj).sl;have i3:aj (vw h2) ⟨I,3,none⟩=some va:=ae vh (by simpa using i3);refine ab fun z hz=>?_;have fin : ∀(h3:Heap) (m3:aW),Cx W h W h3 (Own.upd (Own.upd (Own.upd (fun _=>none) (0,1) (bx T.eO M m)) (0,0) (bx T.eO R (RawN.mk (n:=7) (Value.agg sV.toArray).cells.toList))) (0,1) (bx T.eO M m3))->iW s.i op plain m=m3->∀ρ:Env,Lft.look ρ 4=some (ptr M)->Lft.look ρ 5=some (ptr R)->LC.wp Tryz.prog z (dH [.un (.au 8) (.tmp 5)] K) ρ h3:=fun h3 m3 c3 he ρ h4 h5=>by rw[hz];refine ab fun y hy=>?_;obtain⟨u,hu,ru⟩:=c3.HC (k:=(0,1)) (e:=T.eO) (B:=M) (d:=m3) rfl rfl (N:=8) rfl;simp[h4,h5,hu];refine c3.bh (α:=aW) (k:=(0,0)) (n:=7) (by rfl) ru rfl rfl (by kernel_rfl) (by simp) (by simp) fun h6 l6 hl6 c6=>?_;rw[hy];have hall:=c6.all (k:=(0,0)) (n:=7) (l:=l6) (B:=R) (e:=T.eO) (by rfl);simp at hall;simp[hall,ag,ah,h5];refine hK _ _ ⟨c6.le0,?_⟩;rw[he,<-hl6];exact ru.mono c6.fin
 by_cases h15:op=15
 ·simp[e1,h15,i1];refine c2.gZ (k:=(0,1)) (α:=aW) aW.JJ (D:=m) (d:=s.i.dst) hk1 (by kernel_rfl) (by simp) (by simp) (bC.2 ⟨rfl,r1⟩) fun h3 c3=>?_;exact fin _ _ c3 (by unfold iW;rw[if_pos h15]) _ (by simp) (by simp)
 have ha:2<=s.i.args.length:=by omega
 have q1:=hva.idx1 (k:=.i64) (i:=1) rfl (by decide) (by omega);have d1:=ae vh (hva.int (View.le_refl V) (i:=1) (by omega));have ar:=hva.rng (i:=1) (by omega);have m0:=ae (View.le_refl _) (((c2.Jn hk1).part aW.qw)).int;simp at m0 q1 d1;by_cases hp:m.op=plain
 ·simp[e1,h15,e2,m0,hp,i3,q1,d1];refine c2.gZ (k:=(0,1)) (α:=aW) aW.Hr (D:=m) (d:=nth s.i.args 1) hk1 (by kernel_rfl) (by simp) (by simp) (bC.2 ⟨rfl,ar⟩) fun h3 c3=>?_;exact fin _ _ c3 (by unfold iW;rw[if_neg h15,if_pos hp]) _ (by simp) (by simp)
 simp[e1,h15,e2,m0,hp,i3,q1,d1];refine c2.gZ (k:=(0,1)) (α:=aW) aW.Kc (D:=m) (d:=nth s.i.args 1) hk1 (by kernel_rfl) (by simp) (by simp) (bC.2 ⟨rfl,ar⟩) fun h3 c3=>?_;exact fin _ _ c3 (by unfold iW;rw[if_neg h15,if_neg hp]) _ (by simp) (by simp)
end
end Go.Proofs.YtnfiilgdjpdlkaaGreatDoor
namespace Go.Lft
open Go
theorem Cg {W:View} {h:Heap} {e:TypeId} {B n:Nat} {l:List Int} (hb:h[B]? = some (.cells (l.map fun c=>Value.int .i64 c).toArray e (0,0))) (hr : ∀x∈l,-9223372036854775808<=x/\x<=9223372036854775807) (hn:l.length=n) (h2:n<=1000000) :
  OwnT W h e (.slice (some ⟨B,0,.none⟩) n n) l:=by
 subst hn;refine⟨by omega,l.map fun c=>Value.int .i64 c,⟨by simp[Rep.n],.inr ⟨B,l.length,_,rfl,hb,Kz _,by simp[maxLen];omega,by simp[Rep.n],?_⟩⟩,fun i hi=>?_⟩
 ·rw[KG (by simp[Rep.n])]
 show(List.take 1 (List.drop (i*1) (l.map fun c=>Value.int .i64 c))=[.int .i64 l[i]])/\_;rw[Lq];refine⟨?_,hr _ (Ly hi)⟩;rw[KY (by simpa using hi)];simp
theorem xa : ∀{l:List Int},(l.map fun c=>Value.int .i64 c).flatMap (fun v=>v.cells.toList)=l.map fun c=>Value.int .i64 c
 | []=>rfl
 | x::l=>by rw[LK,MP,xa];rfl
section
variable {po po2:OP} {V W:View} {h0 h h':Heap} {o:Own} {k:Key} {P:Program} {ty:TypeId} {us:List (Nat × Value)}
theorem Cx.tt {t e n:Nat} {bytes:Nat} {z:Value} {ps:Array (Nat × Operand)} {l:List Int} {K:Value->Heap->Prop} (c:Cx V h0 W h o) (hk:o k=none) (hT:fe P t e 1 bytes z)
  (hp:ps.map (fun p=>(p.1,asg us p.2))=(((l.map fun c=>Value.int .i64 c).zipIdx 0).map fun p=>(p.2,p.1)).toArray) (hr : ∀x∈l,-9223372036854775808<=x/\x<=9223372036854775807) (hn:l.length=n) (h2:n<=1000)
  (hK : ∀u h',(vw h).le (vw h')->Cx V h0 W h' (o.upd k (it e u l))->K u h'):@step po P (.buildSlice t n ps) ty us h K:=by
 obtain⟨B,h1,hB⟩:=lQ (s:=1) (l.map fun c=>Value.int .i64 c) 0 ((Array.range (n*1)).map (z.cells[· % z.cells.size]!)) (fun v hv=>by obtain⟨c,_,rfl⟩:=LF.1 hv;rfl) (by simp;omega);have hB:B=(l.map fun c=>Value.int .i64 c).toArray:=by rw[<-Array.toList_inj,hB];simp only[MV,MR,Lr,xa]
 subst hB;refine qp (size:=1) hT (by omega) hp h1 ?_;have q1:=bM h (.cells (l.map fun c=>Value.int .i64 c).toArray e);have b2:(h.push (.cells (l.map fun c=>Value.int .i64 c).toArray e))[h.size]? = some (.cells (l.map fun c=>Value.int .i64 c).toArray e (0,0)):=by simp
 generalize h.push (.cells (l.map fun c=>Value.int .i64 c).toArray e)=h3 at q1 b2;refine hK _ _ q1 ⟨c.own.add hk (Cg b2 hr hn (by omega)) q1 fun b hb=>by simp only[Value.ownBlock,Kx]at hb;omega,c.old,View.le_trans c.le0 q1,fun j i b hj hb=>?_⟩;by_cases e:j=k
 ·subst e;rw[Own.an]at hj;cases hj;cases hb;exact bW c.le0
 rw[Own.ay e]at hj;exact c.new j i b hj hb
theorem Cx.jo {α:Type} [Rep α] {e e2:TypeId} {v v':Value} {l l':List α} (c:Cx V h0 W h o) (hk:o k=it e v l) (o2:OwnT W h' e2 v' l') (m:kD h h' v v'):Cx V h0 W h' (o.upd k (it e2 v' l')):=by
 refine⟨c.own.jo hk o2 m,c.old,?_,fun j i b hj hb=>?_⟩
 ·exact m.kept.view c.le0 fun b hb=>View.cM (View.le_refl _) (c.new k _ b hk hb)
 by_cases e:j=k
 ·subst e;rw[Own.an]at hj;cases hj;rcases m.at_ with q | q
  ·exact c.new _ _ b hk (q▸hb)
  have hb:v'.ownBlock=some b:=hb;rw[q]at hb;cases hb;exact bW c.le0
 rw[Own.ay e]at hj;exact c.new j i b hj hb
theorem Cx.freeze {α:Type} [Rep α] {e:TypeId} {v:Value} {l:List α} (c:Cx V h0 W h o) (hk:o k=it e v l) : ∃W',W.le W'/\Cx V h0 W' h (o.upd k none)/\SlRd W' v l:=by
 obtain⟨w1,s1⟩:=c.own.freeze hk;refine⟨_,jv (c.own.av k _ hk),⟨w1,fun b x hb hx=>?_,c.le0,fun j i b hj hb=>?_⟩,s1⟩
 ·unfold View.plus at hx;split at hx
  ·rename_i e1;have:=c.new k _ b hk e1;omega
  exact c.old b x hb hx
 by_cases e:j=k
 ·subst e;rw[Own.an]at hj;cases hj
 rw[Own.ay e]at hj;exact c.new j i b hj hb
end
end Go.Lft
namespace Go.Proofs.YtnfiilgdjpdlkaaGreatDoor
open Go Go.Lft
section
variable {V:View} {h:Heap} {S I O P Q LL TT:Nat} {s:bN} {op plain sum:Int}
theorem tp {W:View} {l:List Int} {vl:Value} (mx:Mx V S I O P Q LL TT s op plain sum) (hV:V.le W) (hW:W.le (vw h)) (ho:OwnT W h T.int vl l) (hl:l.length<=10) (h1:1<=s.i.args.length) (h2:s.i.args.length<=1000000) :
  aw Tryz.prog N.bZ #[vl,ptr I] h (fun u h'=>OwnT W h' T.int u (l++s.i.args.drop 1)/\kD h h' vl u):=by refine ao (args:=[vl,ptr I]) follows F.bZ E.bZ (Kw (by kernel_rfl)) fun K hK=>?_;dsimp only[L.bZ];obtain⟨va,i3,hva⟩:=(mx.ct.ins.part InsD.fj).sl;have i3:aj (vw h) ⟨I,3,none⟩=some va:=ae (View.le_trans hV hW) (by simpa using i3);obtain⟨u,hu,su⟩:=hva.drop (n:=1) h1 (kd:=.i64);have hu:Bn.ev (.lo 1) va (.int .i64 1)=some u:=hu;refine ab fun z hz=>?_;simp;subst hz;refine ab fun z hz=>?_;simp[i3,hu];refine eu (α:=Int) (e:=T.int) (l:=l) (l2:=s.i.args.drop 1) El.aP (by simp) (by simp) ho ((su.mono hV).src hW) (by simp;omega) (by simp;omega) fun v2 h2 o2 mv=>?_;subst hz;simp;exact hK _ _ ⟨o2,mv⟩
end
end Go.Proofs.YtnfiilgdjpdlkaaGreatDoor
namespace Go.Proofs.YtnfiilgdjpdlkaaGreatDoor
open Go Go.Lft
section
variable {V:View} {h:Heap} {S I O P Q LL TT:Nat} {s:bN} {op plain sum:Int}
set_option maxHeartbeats 4000000 in
theorem G2(mx:Mx V S I O P Q LL TT s op plain sum)(hV:V.le (vw h))(hok:lk s)(hop:s.i.op=op)(ho:op=15\/op=16)(hp0:0<=plain/\plain<=100):
    aw Tryz.prog N.cf #[ptr LL,ptr P,ptr I,ptr TT] h (fun u h'=>bJ V h h' u (memS s.f s.i s.temp op plain sum 0)):=by
  refine ao (args:=[ptr LL,ptr P,ptr I,ptr TT]) follows F.cf E.cf (Kw (by kernel_rfl)) fun K hK=>?_
  dsimp only[L.cf]
  have c0:=Cx.start hV
  have l1:1<=s.i.args.length:=by
    rcases ho with q | q
    · exact hok.one.one (hop.trans q)
    · have:=hok.one.two (.inr (.inl (hop.trans q)));omega
  have l2:op=15\/2<=s.i.args.length:=ho.imp id fun q=>hok.one.two (.inr (.inl (hop.trans q)))
  refine ab fun z hz=>?_
  simp
  refine c0.cO (k:=(0,0)) (n:=7) (z:=.agg fitZ.toArray) rfl (by kernel_rfl) rfl (by decide) (by simp[Value.cells,Value.oneCell']) fun R hb hleb cb=>?_
  subst hz
  have i4:=(mx.ct.ins.part InsD.gP)
  have r4:=i4.oy
  have i4:aj V ⟨I,4,none⟩=some (.int .i32 s.i.imm.v):=by simpa using i4.i32
  obtain⟨va,i3,hva⟩:=(mx.ct.ins.part InsD.fj).sl
  have i3:aj V ⟨I,3,none⟩=some va:=by simpa using i3
  have a0:=hva.rng (i:=0) (by omega)
  have most:=hok.one.most
  have q0:=hva.idx1 (k:=.i64) (i:=0) rfl (by decide) (by omega)
  have d0:=hva.int (View.le_refl V) (i:=0) (by omega)
  simp at q0
  have eL:=mx.laid
  have eT:=mx.with_
  have eP:=mx.plain
  have hm : ∀X,Rd X (.agg #[.int .i64 plain,.int .i64 0,.int .i64 0,.int .i64 (nth s.i.args 0),.int .i64 0,.int .i64 0,.int .i32 s.i.imm.v,.slice none 0 0]) (⟨plain,0,0,nth s.i.args 0,0,0,s.i.imm,[]⟩:aW):=fun X=>iF (by simp;omega) r4 aI
  have ew:IntKind.i64.wrap s.i.imm.v=s.i.imm.v:=bE (by omega) (by omega)
  have fin : ∀(W:View) (hx:Heap) (o:Own) (l9:List Value),Cx V h W hx o->Rd W (.agg l9.toArray) (⟨nth s.i.args 0::s.i.args.drop 1,[],[iW s.i op plain ⟨plain,0,0,nth s.i.args 0,0,0,s.i.imm,[]⟩],eg⟩:FitD)->K (.tuple #[.agg l9.toArray,.bool (inR (IntKind.i64.wrap s.i.imm.v) 0 255)]) hx:=fun W hx o l9 c hr=>
    hK _ _ (bJ.of c hr (by rw[ew];simp only[memS];split<;>simp_all) fun y e=>by
      simp only[memS]at e
      split at e<;>cases e
      rfl)
  clear hK
  refine ab fun z hz=>?_
  refine aS V cb.wle ?_
  have c:=cb
  have hWV:V.le V:=View.le_refl _
  repeat' (first
    | refine iq ?_ ?_
    | (refine bo fun y hy=>?_
       simp[i3,i4,q0,d0,eL,eT,eP]
       first
       | refine aq (t:=T.eO) (z:=.agg sV.toArray) (places:=[(0,1),(1,1),(2,1),(3,1),(4,1),(5,1),(6,1),(7,1)]) (vs:=[(0,.int .i64 plain),(3,.int .i64 (nth s.i.args 0)),(6,.int .i32 s.i.imm.v)]) (cs:=#[.int .i64 plain,.int .i64 0,.int .i64 0,.int .i64 (nth s.i.args 0),.int .i64 0,.int .i64 0,.int .i32 s.i.imm.v,.slice none 0 0]) (by kernel_rfl) (by kernel_rfl) (by simp) (by rfl) ?_
       | (refine c.tt (k:=(0,2)) (n:=1) (l:=[nth s.i.args 0]) (by rfl) El.aP ?_ ?_ rfl (by decide) fun uA h hle c=>?_
          · simp;done
          · simp;omega)
       | refine c.cO (k:=(0,1)) (n:=7) (z:=.agg fitZ.toArray) (by rfl) (by kernel_rfl) rfl (by decide) (by simp[Value.cells,Value.oneCell']) fun R2 h hle c=>?_
       | (refine bI (ops:=[.tmp 17]) (caps:=#[ptr O,ptr I,ptr P]) rfl (by kernel_rfl) (tz mx (by repeat (first | exact View.le_refl _ | assumption | refine View.le_trans ?_ (by assumption))) c.wle (hm _) l2) ?_
          rintro um h ⟨hle,hum⟩
          have hW:=c.up (h':=h)
          have c:=c.ext hle)
       | (refine bI (ops:=[.tmp 24]) (caps:=#[ptr I]) rfl (by kernel_rfl) (tp mx (by repeat (first | exact View.le_refl _ | assumption | refine View.le_trans ?_ (by assumption))) c.wle (c.own.get (k:=(0,2)) (v:=uA) (l:=[nth s.i.args 0]) (by rfl)) (by simp) l1 (by omega)) ?_
          rintro uw h ⟨own2,mv⟩
          have c:=c.jo (k:=(0,2)) (v:=uA) (l:=[nth s.i.args 0]) (by rfl) own2 mv
          obtain⟨W,hW,c,huA⟩:=c.freeze (k:=(0,2)) (v:=uw) (l:=[nth s.i.args 0]++s.i.args.drop 1) (by rfl))
       | (refine af (by kernel_rfl) (jZ c.wle (hum.mono (by repeat (first | exact View.le_refl _ | assumption | refine View.le_trans ?_ (by assumption)))) (huA.mono (by repeat (first | exact View.le_refl _ | assumption | refine View.le_trans ?_ (by assumption)))) aI) ?_
          rintro _ h ⟨hle,vf,rfl,hvf⟩
          have hW:=c.up (h':=h)
          have c:=c.ext hle)
       | refine c.bh (k:=(0,1)) (n:=7) (l:=fitZ) (by rfl) (hvf.mono (by repeat (first | exact View.le_refl _ | assumption | refine View.le_trans ?_ (by assumption)))) rfl rfl (by kernel_rfl) rfl rfl fun h l9 hl9 c=>?_
       try refine⟨View.le_trans (by repeat (first | exact View.le_refl _ | assumption | refine View.le_trans ?_ (by assumption))) c.wle,?_⟩
       subst hy))
  all_goals
    simp
    rw[hz]
    subst hl9
    have hall:=c.all (k:=(0,1)) (n:=7) (l:=l9) (B:=R2) (e:=T.aO) (by rfl)
    simp at hall
    refine ab fun x hx=>?_
    refine aS (vw h) (View.le_refl _) ?_
    simp[hall,ae (View.le_trans (by repeat (first | exact View.le_refl _ | assumption | refine View.le_trans ?_ (by assumption))) c.wle) i4]
    refine af (by kernel_rfl) je ?_
    rintro _ h ⟨rfl,rfl⟩
    refine⟨View.le_refl _,?_⟩
    refine c.bh (k:=(0,0)) (n:=7) (l:=fitZ) (by rfl) (hvf.mono (by repeat (first | exact View.le_refl _ | assumption | refine View.le_trans ?_ (by assumption)))) rfl rfl (by kernel_rfl) rfl rfl fun h9 l9' hl9' c9=>?_
    rw[hx]
    have hall:=c9.all (k:=(0,0)) (n:=7) (l:=l9') (B:=R) (e:=T.aO) (by rfl)
    simp at hall
    simp[hall]
    exact fin _ _ _ _ c9 (hl9'▸hvf.mono (by repeat (first | exact View.le_refl _ | assumption | refine View.le_trans ?_ (by assumption))))
end
end Go.Proofs.YtnfiilgdjpdlkaaGreatDoor
namespace Go.Lft
open Go
section
variable {po po2:OP} {V W:View} {h0 h h':Heap} {o:Own} {k:Key} {P:Program} {ty:TypeId} {us:List (Nat × Value)}
theorem Gp {α:Type} [Rep α] {t e:Nat} {bytes:Nat} {z v:Value} {x:Operand} {d:α} {K:Value->Heap->Prop} (hT:fe P t e (Rep.n α) bytes z) (hx:asg us x=v) (hr:Rd W v d) (hn:Rep.n α<=1000)
  (hk : ∀h',(vw h).le (vw h')->OwnT W h' e (.slice (some ⟨h.size,0,none⟩) 1 1) [d]->K (.slice (some ⟨h.size,0,none⟩) 1 1) h'):@step po P (.buildSlice t 1 #[(0,x)]) ty us h K:=by
 have hc:=gD hr;obtain⟨B,h1,hB⟩:=lQ (s:=Rep.n α) [v] 0 ((Array.range (1*Rep.n α)).map (z.cells[· % z.cells.size]!)) (fun u hu=>by simp at hu;subst hu;exact hc.2.1) (by simp);have hB:B=v.cells:=by rw[<-Array.toList_inj,hB];simp
 subst hB;refine qp (size:=Rep.n α) (vs:=[(0,v)]) hT (by omega) (by simp[hx]) h1 ?_;have q1:=bM h (.cells v.cells e);have b2:(h.push (.cells v.cells e))[h.size]? = some (.cells v.cells e (0,0)):=by simp
 generalize h.push (.cells v.cells e)=h3 at q1 b2;exact hk _ q1 (jB b2 hr hn)
theorem Cx.add {α:Type} [Rep α] {e:TypeId} {v:Value} {l:List α} (c:Cx V h0 W h o) (hk:o k=none) (o2:OwnT W h' e v l) (hle:(vw h).le (vw h')) (hb : ∀b,v.ownBlock=some b->h.size<=b):Cx V h0 W h' (o.upd k (it e v l)):=
 ⟨c.own.add hk o2 hle hb,c.old,View.le_trans c.le0 hle,fun j i b hj hb'=>by
  by_cases e:j=k
  ·subst e;rw[Own.an]at hj;cases hj;exact KU (bW c.le0) (hb b hb')
  rw[Own.ay e]at hj;exact c.new j i b hj hb'⟩
end
end Go.Lft
namespace Go.Proofs.YtnfiilgdjpdlkaaGreatDoor
open Go Go.Lft
theorem BR {α:Type} [Rep α] {H:View} {v:Value} {l:List α} (s:SlRd H v l) : ∃a n c,v = .slice a n c:=let ⟨a,c,e,_⟩:=s;⟨a,_,c,e⟩
theorem F0 {v0 v1 v2:Value} {m:aW} {takes inner:List Int} {h:Heap} {W:View} (hW:W.le (vw h)) (h0:Rd W v0 m) (h1:SlRd W v1 takes) (h2:SlRd W v2 inner) :
  aw Tryz.prog N.gk #[v0,v1,v2] h (fun u h'=>(vw h).le (vw h')/\∃b,u = .tuple #[.agg #[v1,v2,.slice (some ⟨b,0,none⟩) 1 1,.int .i64 0,.int .i64 0,.int .i64 0,.slice none 0 0,.int .i32 0],.bool true]/\OwnT W h' T.eO (.slice (some ⟨b,0,none⟩) 1 1) [m]/\h.size<=b):=by
 refine ao (args:=[v0,v1,v2]) follows F.gk E.gk (Kw (by kernel_rfl)) fun K hK=>?_;dsimp only[L.gk];have c0:=Cx.start hW;refine ab fun z hz=>?_;simp;refine c0.DK (k:=(0,1)) rfl rfl h0 (by decide) fun B ha hlea ca=>?_;refine ca.cO (k:=(0,0)) (n:=7) (z:=.agg fitZ.toArray) (by rfl) (by kernel_rfl) rfl (by decide) (by simp[Value.cells,Value.oneCell']) fun R hb hleb cb=>?_;subst hz;obtain⟨um,hum,hmr⟩:=cb.HC (k:=(0,1)) (e:=T.eO) (B:=B) (d:=m) rfl rfl (N:=8) rfl;refine ab fun z hz=>?_;simp[hum];refine Gp (α:=aW) (W:=W) (v:=um) El.jf (by simp) hmr (by decide) fun hc hlec own=>?_;have cc:=cb.add (k:=(0,2)) (by rfl) own hlec fun b hb=>by simp only[Value.ownBlock,Kx]at hb;omega
 obtain⟨a1,n1,k1,rfl⟩:=BR h1;obtain⟨a2,n2,k2,rfl⟩:=BR h2;refine aq (z:=.agg fitZ.toArray) (places:=[(0,1),(1,1),(2,1),(3,5)]) (vs:=[(0,.slice a1 n1 k1),(1,.slice a2 n2 k2),(2,.slice (some ⟨hb.size,0,none⟩) 1 1)]) (cs:=#[.slice a1 n1 k1,.slice a2 n2 k2,.slice (some ⟨hb.size,0,none⟩) 1 1,.int .i64 0,.int .i64 0,.int .i64 0,.slice none 0 0,.int .i32 0]) (by kernel_rfl) (by kernel_rfl) (by simp) (by rfl) ?_;refine cc.pL (k:=(0,0)) (n:=7) (l':=[.slice a1 n1 k1,.slice a2 n2 k2,.slice (some ⟨hb.size,0,none⟩) 1 1,.int .i64 0,.int .i64 0,.int .i64 0,.slice none 0 0,.int .i32 0]) (by rfl) (by kernel_rfl) (by simp) (by simp) rfl (by simp[Value.oneCell']) fun hd cd=>?_;subst hz;have hall:=cd.all (k:=(0,0)) (n:=7) (l:=[.slice a1 n1 k1,.slice a2 n2 k2,.slice (some ⟨hb.size,0,none⟩) 1 1,.int .i64 0,.int .i64 0,.int .i64 0,.slice none 0 0,.int .i32 0]) (B:=R) (e:=T.aO) (by rfl);simp at hall;simp[hall];refine hK _ _ ⟨cd.le0,_,rfl,cd.own.get (k:=(0,2)) (by rfl),?_⟩;have q1:=bW hlea;have q2:=bW hleb;omega
end Go.Proofs.YtnfiilgdjpdlkaaGreatDoor
namespace Go.Proofs.YtnfiilgdjpdlkaaGreatDoor
open Go Go.Lft
section
variable {V:View} {h:Heap} {S I O P Q LL TT:Nat} {s:bN} {op plain sum:Int}
set_option maxHeartbeats 4000000 in
theorem GY(mx:Mx V S I O P Q LL TT s op plain sum)(hV:V.le (vw h))(hok:lk s)(hop:s.i.op=op)(ho:op=15\/op=16)(hp0:0<=sum/\sum<=100)(ht:-9223372036854775808<=s.temp/\s.temp<=9223372036854775807):
    aw Tryz.prog N.bV #[ptr S,ptr I,ptr TT,ptr LL,ptr Q] h (fun u h'=>bJ V h h' u (memS s.f s.i s.temp op plain sum 3)):=by
  refine ao (args:=[ptr S,ptr I,ptr TT,ptr LL,ptr Q]) follows F.bV E.bV (Kw (by kernel_rfl)) fun K hK=>?_
  dsimp only[L.bV]
  have c0:=Cx.start hV
  have l1:1<=s.i.args.length:=by
    rcases ho with q | q
    · exact hok.one.one (hop.trans q)
    · have:=hok.one.two (.inr (.inl (hop.trans q)));omega
  have l2:op=15\/2<=s.i.args.length:=ho.imp id fun q=>hok.one.two (.inr (.inl (hop.trans q)))
  refine ab fun z hz=>?_
  simp
  refine c0.cO (k:=(0,0)) (n:=7) (z:=.agg fitZ.toArray) rfl (by kernel_rfl) rfl (by decide) (by simp[Value.cells,Value.oneCell']) fun R hb hleb cb=>?_
  subst hz
  have i4:=(mx.ct.ins.part InsD.gP)
  have r4:=i4.oy
  have i4:aj V ⟨I,4,none⟩=some (.int .i32 s.i.imm.v):=by simpa using i4.i32
  obtain⟨va,i3,hva⟩:=(mx.ct.ins.part InsD.fj).sl
  have i3:aj V ⟨I,3,none⟩=some va:=by simpa using i3
  have s12:aj V ⟨S,12,none⟩=some (.int .i64 s.temp):=by simpa using(mx.ct.site.part bN.Au).int
  have a0:=hva.rng (i:=0) (by omega)
  have most:=hok.one.most
  have q0:=hva.idx1 (k:=.i64) (i:=0) rfl (by decide) (by omega)
  have d0:=hva.int (View.le_refl V) (i:=0) (by omega)
  simp at q0
  have eL:=mx.laid
  have eT:=mx.with_
  have eQ:=mx.sum
  have hm : ∀X,Rd X (.agg #[.int .i64 4,.int .i64 s.temp,.int .i64 0,.int .i64 0,.int .i64 0,.int .i64 0,.int .i32 s.i.imm.v,.slice none 0 0]) (⟨4,s.temp,0,0,0,0,s.i.imm,[]⟩:aW):=fun X=>iF (by simp;omega) r4 aI
  have hm2 : ∀X,Rd X (.agg #[.int .i64 sum,.int .i64 0,.int .i64 0,.int .i64 (nth s.i.args 0),.int .i64 s.temp,.int .i64 0,.int .i32 0,.slice none 0 0]) (⟨sum,0,0,nth s.i.args 0,s.temp,0,⟨0⟩,[]⟩:aW):=fun X=>iF (imm:=⟨0⟩) (by simp;omega) (by simp) aI
  have fin : ∀(W:View) (hx:Heap) (o:Own) (l9:List Value),Cx V h W hx o->Rd W (.agg l9.toArray) (⟨nth s.i.args 0::s.i.args.drop 1,[],[⟨4,s.temp,0,0,0,0,s.i.imm,[]⟩,iW s.i op plain ⟨sum,0,0,nth s.i.args 0,s.temp,0,⟨0⟩,[]⟩],eg⟩:FitD)->K (.tuple #[.agg l9.toArray,.bool true]) hx:=fun W hx o l9 c hr=>
    hK _ _ (bJ.of c hr rfl fun y e=>by simp only[memS]at e;cases e;rfl)
  clear hK
  refine ab fun z hz=>?_
  refine aS V cb.wle ?_
  have c:=cb
  have hWV:V.le V:=View.le_refl _
  repeat' (first
    | refine iq ?_ ?_
    | (refine bo fun y hy=>?_
       simp[i3,i4,s12,q0,d0,eL,eT,eQ]
       first
       | refine aq (t:=T.eO) (z:=.agg sV.toArray) (places:=[(0,1),(1,1),(2,1),(3,1),(4,1),(5,1),(6,1),(7,1)]) (vs:=[(0,.int .i64 4),(1,.int .i64 s.temp),(6,.int .i32 s.i.imm.v)]) (cs:=#[.int .i64 4,.int .i64 s.temp,.int .i64 0,.int .i64 0,.int .i64 0,.int .i64 0,.int .i32 s.i.imm.v,.slice none 0 0]) (by kernel_rfl) (by kernel_rfl) (by simp) (by rfl) ?_
       | (refine c.tt (k:=(0,2)) (n:=1) (l:=[nth s.i.args 0]) (by rfl) El.aP ?_ ?_ rfl (by decide) fun uA h hle c=>?_
          · simp;done
          · simp;omega)
       | refine c.cO (k:=(0,1)) (n:=7) (z:=.agg fitZ.toArray) (by rfl) (by kernel_rfl) rfl (by decide) (by simp[Value.cells,Value.oneCell']) fun R2 h hle c=>?_
       | (refine bI (ops:=[.tmp 20]) (caps:=#[ptr I]) rfl (by kernel_rfl) (tp mx (by repeat (first | exact View.le_refl _ | assumption | refine View.le_trans ?_ (by assumption))) c.wle (c.own.get (k:=(0,2)) (v:=uA) (l:=[nth s.i.args 0]) (by rfl)) (by simp) l1 (by omega)) ?_
          rintro uw h ⟨own2,mv⟩
          have c:=c.jo (k:=(0,2)) (v:=uA) (l:=[nth s.i.args 0]) (by rfl) own2 mv
          obtain⟨W,hW,c,huA⟩:=c.freeze (k:=(0,2)) (v:=uw) (l:=[nth s.i.args 0]++s.i.args.drop 1) (by rfl))
       | (refine af (by kernel_rfl) (F0 c.wle (hm _) (huA.mono (by repeat (first | exact View.le_refl _ | assumption | refine View.le_trans ?_ (by assumption)))) aI) ?_
          rintro _ h ⟨hle,b3,rfl,own3,hb3⟩
          have c:=c.add (k:=(0,3)) (by rfl) own3 hle fun b hb=>by simp only[Value.ownBlock,Kx]at hb;omega)
       | (obtain⟨a5,n5,k5,rfl⟩:=BR huA
          refine c.pL (k:=(0,1)) (n:=7) (l:=fitZ) (l':=[.slice a5 n5 k5,.slice none 0 0,.slice (some ⟨b3,0,none⟩) 1 1,.int .i64 0,.int .i64 0,.int .i64 0,.slice none 0 0,.int .i32 0]) (by rfl) (by kernel_rfl) rfl rfl rfl (by simp[Value.oneCell']) fun h c=>?_)
       try refine⟨View.le_trans (by repeat (first | exact View.le_refl _ | assumption | refine View.le_trans ?_ (by assumption))) c.wle,?_⟩
       subst hy))
  all_goals
    simp
    rw[hz]
    refine ab fun x hx=>?_
    have hcode:=c.own.raw (k:=(0,1)) (e:=T.aO) (B:=R2) (n:=7) (l:=[.slice a5 n5 k5,.slice none 0 0,.slice (some ⟨b3,0,none⟩) 1 1,.int .i64 0,.int .i64 0,.int .i64 0,.slice none 0 0,.int .i32 0]) (by rfl) (i:=2) (by decide)
    simp only[List.getD_cons_succ,List.getD_cons_zero]at hcode
    have hVh:=View.le_trans (show V.le _ from(by repeat (first | exact View.le_refl _ | assumption | refine View.le_trans ?_ (by assumption)))) c.wle
    refine aS (vw h) (View.le_refl _) ?_
    refine bo fun y hy=>?_
    simp[hcode,ae hVh i3,ae hVh s12,q0,ae hVh d0,ae hVh eL,ae hVh eQ]
    refine aq (t:=T.eO) (z:=.agg sV.toArray) (places:=[(0,1),(1,1),(2,1),(3,1),(4,1),(5,1),(6,1),(7,1)]) (vs:=[(0,.int .i64 sum),(3,.int .i64 (nth s.i.args 0)),(4,.int .i64 s.temp)]) (cs:=#[.int .i64 sum,.int .i64 0,.int .i64 0,.int .i64 (nth s.i.args 0),.int .i64 s.temp,.int .i64 0,.int .i32 0,.slice none 0 0]) (by kernel_rfl) (by kernel_rfl) (by simp) (by rfl) ?_
    refine⟨View.le_refl _,?_⟩
    subst hy
    refine bo fun y hy=>?_
    simp
    refine bI (ops:=[.tmp 35]) (caps:=#[ptr O,ptr I,ptr P]) rfl (by kernel_rfl) (tz mx (by repeat (first | exact View.le_refl _ | assumption | refine View.le_trans ?_ (by assumption))) c.wle (hm2 _) l2) ?_
    rintro um h7 ⟨hle7,hum⟩
    have hW7:=c.up (h':=h7)
    have c7:=c.ext hle7
    refine⟨hle7,?_⟩
    subst hy
    refine bo fun y hy=>?_
    simp
    refine c7.kG (α:=aW) (n:=1) (vs:=[um]) (ds:=[iW s.i op plain ⟨sum,0,0,nth s.i.args 0,s.temp,0,⟨0⟩,[]⟩]) El.jf (by simp) ⟨hum,trivial⟩ rfl (by decide) (by decide) fun u8 h8 W8 hW8 c8 s8 hle8=>?_
    refine⟨View.le_trans hle7 hle8,?_⟩
    subst hy
    refine bo fun y hy=>?_
    simp
    refine eu (α:=aW) (v:=.slice (some ⟨b3,0,none⟩) 1 1) (u:=u8) (l:=[(⟨4,s.temp,0,0,0,0,s.i.imm,[]⟩:aW)]) (l2:=[iW s.i op plain ⟨sum,0,0,nth s.i.args 0,s.temp,0,⟨0⟩,[]⟩]) El.jf (by simp) (by simp) (c8.own.get (k:=(0,3)) (by rfl)) (s8.src c8.wle) (by simp) (by simp) fun v9 h9 o9 mv9=>?_
    have c9:=c8.jo (k:=(0,3)) (by rfl) o9 mv9
    obtain⟨W9,hW9,c10,s10⟩:=c9.freeze (k:=(0,3)) (v:=v9) (by rfl)
    obtain⟨a9,n9,k9,rfl⟩:=BR s10
    subst hy
    refine bo fun y hy=>?_
    simp
    refine c10.dK (k:=(0,1)) (n:=7) (i:=2) (u:=.slice a9 n9 k9) (e:=T.aO) (B:=R2) (l:=[.slice a5 n5 k5,.slice none 0 0,.slice (some ⟨b3,0,none⟩) 1 1,.int .i64 0,.int .i64 0,.int .i64 0,.slice none 0 0,.int .i32 0]) (by rfl) (by decide) (by kernel_rfl) (by simp) (by simp) rfl fun h11 c11=>?_
    subst hy
    simp
    subst hx
    have hall:=c11.all (k:=(0,1)) (n:=7) (B:=R2) (e:=T.aO) (l:=[.slice a5 n5 k5,.slice none 0 0,.slice a9 n9 k9,.int .i64 0,.int .i64 0,.int .i64 0,.slice none 0 0,.int .i32 0]) (by rfl)
    simp at hall
    refine ab fun x hx=>?_
    simp[hall]
    have hfit:Rd W9 (.agg #[.slice a5 n5 k5,.slice none 0 0,.slice a9 n9 k9,.int .i64 0,.int .i64 0,.int .i64 0,.slice none 0 0,.int .i32 0]) (⟨nth s.i.args 0::s.i.args.drop 1,[],[⟨4,s.temp,0,0,0,0,s.i.imm,[]⟩,iW s.i op plain ⟨sum,0,0,nth s.i.args 0,s.temp,0,⟨0⟩,[]⟩],eg⟩:FitD):=
      ld (v1:=.slice a5 n5 k5) (v2:=.slice none 0 0) (v3:=.slice a9 n9 k9) (huA.mono (by repeat (first | exact View.le_refl _ | assumption | refine View.le_trans ?_ (by assumption)))) aI s10 (kF (by simp) (by decide) aI)
    refine c11.bh (k:=(0,0)) (n:=7) (l:=fitZ) (by rfl) hfit rfl rfl (by kernel_rfl) (by simp) (by simp) fun h12 l12 hl12 c12=>?_
    rw[hx]
    have hall:=c12.all (k:=(0,0)) (n:=7) (l:=l12) (B:=R) (e:=T.aO) (by rfl)
    simp at hall
    simp[hall]
    exact fin _ _ _ _ c12 (hl12▸hfit)
end
end Go.Proofs.YtnfiilgdjpdlkaaGreatDoor
namespace Go.Lft
open Go
section
variable {po po2:OP} {V W:View} {h0 h h':Heap} {o:Own} {k:Key} {P:Program} {ty:TypeId} {us:List (Nat × Value)}
theorem Cx.dS {α:Type} [Rep α] {t:TypeId} {z:Value} {d:α} {K:Value->Heap->Prop} (c:Cx V h0 W h o) (hk:o k=none) (hz:(P.info? t).map (·.zero)=some (some z)) (hr:Rd W (.agg z.cells) d) (hn:Rep.n α<=1000)
  (hK : ∀B h',(vw h).le (vw h')->Cx V h0 W h' (o.upd k (bx t B d))->K (.pointer (some ⟨B,0,none⟩)) h'):@step po P (.alloc t) ty us h K:=by
 refine _root_.Go.Lft.dS hz ?_;have q1:=bM h (.cells z.cells t);have b2:(h.push (.cells z.cells t))[h.size]? = some (.cells z.cells t (0,0)):=by simp
 generalize h.push (.cells z.cells t)=h2 at q1 b2;have hz2:(Value.agg z.cells).cells=z.cells:=rfl;refine hK _ _ q1 ⟨c.own.add hk (jB (v:=.agg z.cells) (by rw[hz2];exact b2) hr hn) q1 fun b hb=>by simp only[Value.ownBlock,Kx]at hb;omega,c.old,View.le_trans c.le0 q1,fun j i b hj hb=>?_⟩;by_cases e:j=k
 ·subst e;rw[Own.an]at hj;cases hj;cases hb;exact bW c.le0
 rw[Own.ay e]at hj;exact c.new j i b hj hb
theorem Own.fD {a b:Option Item}:(o.upd k a).upd k b=o.upd k b:=by funext q;unfold Own.upd;split<;>rfl
theorem Own.qq {a:Option Item} (hk:o k=none):(o.upd k a).upd k none=o:=by
 funext q;unfold Own.upd;split
 ·rename_i e;subst e;exact hk.symm
 rfl
theorem Cx.ti {α:Type} [Rep α] {e:TypeId} {B:Nat} {d:α} (c:Cx V h0 W h o) (hk:o k=bx e B d) : ∃W',W.le W'/\Cx V h0 W' h (o.upd k none)/\At W' ⟨B,0,none⟩ d:=by obtain⟨W',h1,h2,h3⟩:=c.freeze (v:=.slice (some ⟨B,0,none⟩) 1 1) (l:=[d]) hk;refine⟨W',h1,h2,?_⟩;have:=h3.at (i:=0) (by simp);simpa[slA,Addr.z]using this
end
end Go.Lft
namespace Go.Proofs.YtnfiilgdjpdlkaaGreatDoor
open Go Go.Lft
abbrev insZ:List Value:=[.int .i64 0,.int .i64 0,.int .i64 0,.slice none 0 0,.int .i32 0]
section
variable {V:View} {h:Heap} {S I O P Q LL TT:Nat} {s:bN} {op plain sum:Int}
set_option maxHeartbeats 4000000 in
theorem F8 (mx:Mx V S I O P Q LL TT s op plain sum) (hV:V.le (vw h)) (hok:lk s) (hop:s.i.op=op) (ho:op=15\/op=16) (hp0:0<=sum/\sum<=100) :
    aw Tryz.prog N.bX #[ptr S,ptr I,ptr LL,ptr Q,ptr TT] h (fun u h'=>bJ V h h' u (memS s.f s.i s.temp op plain sum 2)):=by
  refine ao (args:=[ptr S,ptr I,ptr LL,ptr Q,ptr TT]) follows F.bX E.bX (Kw (by kernel_rfl)) fun K hK=>?_
  dsimp only[L.bX]
  have c0:=Cx.start hV
  have l1:1<=s.i.args.length:=by
    rcases ho with q | q
    · exact hok.one.one (hop.trans q)
    · have:=hok.one.two (.inr (.inl (hop.trans q)));omega
  have l2:op=15\/2<=s.i.args.length:=ho.imp id fun q=>hok.one.two (.inr (.inl (hop.trans q)))
  refine ab fun z hz=>?_
  simp
  refine c0.cO (k:=(0,0)) (n:=7) (z:=.agg fitZ.toArray) rfl (by kernel_rfl) rfl (by decide) (by simp[Value.cells,Value.oneCell']) fun R hb hleb cb=>?_
  subst hz
  have i4:=(mx.ct.ins.part InsD.gP)
  have r4:=i4.oy
  have i4:aj V ⟨I,4,none⟩=some (.int .i32 s.i.imm.v):=by simpa using i4.i32
  obtain⟨va,i3,hva⟩:=(mx.ct.ins.part InsD.fj).sl
  have i3:aj V ⟨I,3,none⟩=some va:=by simpa using i3
  have a0:=hva.rng (i:=0) (by omega)
  have most:=hok.one.most
  have q0:=hva.idx1 (k:=.i64) (i:=0) rfl (by decide) (by omega)
  have d0:=hva.int (View.le_refl V) (i:=0) (by omega)
  simp at q0
  obtain⟨us,hus,rus⟩:=mx.ct.site.ldN rfl (N:=13) rfl
  have hus:=hus V (View.le_refl _)
  have hfm:=jS (f:=s.f) (v:=nth s.i.args 0) (op:=2)
  have hdo:memS s.f s.i s.temp op plain sum 2=if(aK s.f (nth s.i.args 0) 2).2&&decide (s.i.imm.v=0) then
      some ⟨nth (aK s.f (nth s.i.args 0) 2).1.args 0::nth (aK s.f (nth s.i.args 0) 2).1.args 1::s.i.args.drop 1,[nth s.i.args 0],
        [iW s.i op plain ⟨sum,0,0,nth (aK s.f (nth s.i.args 0) 2).1.args 0,nth (aK s.f (nth s.i.args 0) 2).1.args 1,0,⟨0⟩,[]⟩],eg⟩
    else none:=rfl
  have hF:=@mN s us (nth s.i.args 0) 2
  generalize (aK s.f (nth s.i.args 0) 2).1=m at *
  generalize (aK s.f (nth s.i.args 0) 2).2=b at *
  refine ab fun z hz=>?_
  have rest : ∀(W:View) (hx:Heap) (B2:Nat) (ρ:Env),V.le W->Cx V h W hx (Own.upd (fun _=>none) (0,0) (bx T.aO R (RawN.mk (n:=7) fitZ)))->At W ⟨B2,0,none⟩ m->
      Lft.look ρ 0=some (ptr S)->Lft.look ρ 1=some (ptr I)->Lft.look ρ 2=some (ptr LL)->Lft.look ρ 3=some (ptr Q)->Lft.look ρ 4=some (ptr TT)->Lft.look ρ 5=some (ptr R)->Lft.look ρ 7=some (ptr B2)->Lft.look ρ 8=some (.bool b)->
      LC.wp Tryz.prog z (dH [.un (.au 8) (.tmp 5),.tmp 6] K) ρ hx:=by
    intro W hx B2 ρ hVW c hat g0 g1 g2 g3 g4 g5 g7 g8
    rw[hz]
    refine ab fun x hx'=>?_
    have none_ : ∀(hy:Heap) (o:Own) (l9:List Value),Cx V h W hy o->Rd W (.agg l9.toArray) Fl->(b&&decide (s.i.imm.v=0))=false->K (.tuple #[.agg l9.toArray,.bool false]) hy:=fun hy o l9 c hr e=>
      hK _ _ (bJ.of c hr (by rw[hdo,e];rfl) fun y e2=>by rw[hdo,e]at e2;cases e2)
    cases b with
    | false=>
      simp[g8,ag,ah,g5]
      refine aq (t:=T.aO) (z:=.agg fitZ.toArray) (places:=[(0,1),(1,1),(2,1),(3,5)]) (vs:=[]) (cs:=fitZ.toArray) (by kernel_rfl) (by kernel_rfl) (by simp) (by rfl) ?_
      refine c.bh (k:=(0,0)) (n:=7) (l:=fitZ) (by rfl) fR rfl rfl (by kernel_rfl) (by simp) (by simp) fun h9 l9 hl9 c9=>?_
      have hall:=c9.all (k:=(0,0)) (n:=7) (l:=l9) (B:=R) (e:=T.aO) (by rfl)
      simp at hall
      simp[hall]
      exact none_ _ _ _ c9 (hl9▸fR) rfl
    | true=>
      by_cases e0:s.i.imm.v=0
      · obtain⟨m1,m2,-⟩:=hfm rfl
        have hma:=(hok.all _ m1).two (by omega)
        obtain⟨vb,j3,hvb⟩:=(hat.part InsD.fj).sl
        have j3:aj W ⟨B2,3,none⟩=some vb:=by simpa using j3
        have b0:=hvb.rng (i:=0) (by omega)
        have b1:=hvb.rng (i:=1) (by omega)
        have q2:=hvb.idx1 (k:=.i64) (i:=0) rfl (by decide) (by omega)
        have q3:=hvb.idx1 (k:=.i64) (i:=1) rfl (by decide) (by omega)
        have d2:=hvb.int (View.le_refl W) (i:=0) (by omega)
        have d3:=hvb.int (View.le_refl W) (i:=1) (by omega)
        simp at q2 q3
        have i4':=ae hVW i4
        have i3:=ae hVW i3
        have d0:=ae hVW d0
        have eL:=ae hVW mx.laid
        have eT:=ae hVW mx.with_
        have eQ:=ae hVW mx.sum
        have mx:=mx.mono hVW
        simp[g0,g1,g2,g3,g4,g5,g7,g8,ag,ah,ae c.wle i4',e0]
        rw[hx'];clear hx'
        have hm : ∀X,Rd X (.agg #[.int .i64 sum,.int .i64 0,.int .i64 0,.int .i64 (nth m.args 0),.int .i64 (nth m.args 1),.int .i64 0,.int .i32 0,.slice none 0 0]) (⟨sum,0,0,nth m.args 0,nth m.args 1,0,⟨0⟩,[]⟩:aW):=fun X=>iF (imm:=⟨0⟩) (by simp;omega) (by simp) aI
        have fin : ∀(W:View) (hx:Heap) (o:Own) (l9:List Value),Cx V h W hx o->Rd W (.agg l9.toArray) (⟨nth m.args 0::nth m.args 1::s.i.args.drop 1,[nth s.i.args 0],[iW s.i op plain ⟨sum,0,0,nth m.args 0,nth m.args 1,0,⟨0⟩,[]⟩],eg⟩:FitD)->K (.tuple #[.agg l9.toArray,.bool true]) hx:=fun W hx o l9 c hr=>
          hK _ _ (bJ.of c hr (by rw[hdo];simp[e0]) fun y e=>by rw[hdo,e0]at e;cases e;rfl)
        clear none_ hK
        refine ab fun x hx'=>?_
        refine aS W c.wle ?_
        have hWV:W.le W:=View.le_refl _
        repeat' (first
          | refine iq ?_ ?_
          | (refine bo fun y hy=>?_
             simp[g0,g1,g2,g3,g4,g5,g7,g8,ag,ah,i3,j3,q0,q2,q3,d0,d2,d3,eL,eT,eQ]
             first
             | refine aq (t:=T.eO) (z:=.agg sV.toArray) (places:=[(0,1),(1,1),(2,1),(3,1),(4,1),(5,1),(6,1),(7,1)]) (vs:=[(0,.int .i64 sum),(3,.int .i64 (nth m.args 0)),(4,.int .i64 (nth m.args 1))]) (cs:=#[.int .i64 sum,.int .i64 0,.int .i64 0,.int .i64 (nth m.args 0),.int .i64 (nth m.args 1),.int .i64 0,.int .i32 0,.slice none 0 0]) (by kernel_rfl) (by kernel_rfl) (by simp) (by rfl) ?_
             | (refine c.tt (k:=(0,2)) (n:=2) (l:=[nth m.args 0,nth m.args 1]) (by rfl) El.aP ?_ ?_ rfl (by decide) fun uA h hle c=>?_
                · simp;done
                · simp;omega)
             | (refine c.kG (α:=Int) (n:=1) (vs:=[.int .i64 (nth s.i.args 0)]) (ds:=[nth s.i.args 0]) El.aP ?_ ⟨bC.2 ⟨rfl,a0⟩,trivial⟩ rfl (by decide) (by decide) fun uB h W hW c huB hle=>?_
                · simp;done)
             | (refine bI (ops:=[.tmp 36]) (caps:=#[ptr O,ptr I,ptr P]) rfl (by kernel_rfl) (tz mx (by repeat (first | exact View.le_refl _ | assumption | refine View.le_trans ?_ (by assumption))) c.wle (hm _) l2) ?_
                rintro um h ⟨hle,hum⟩
                have hW:=c.up (h':=h)
                have c:=c.ext hle)
             | (refine bI (ops:=[.tmp 47]) (caps:=#[ptr I]) rfl (by kernel_rfl) (tp mx (by repeat (first | exact View.le_refl _ | assumption | refine View.le_trans ?_ (by assumption))) c.wle (c.own.get (k:=(0,2)) (v:=uA) (l:=[nth m.args 0,nth m.args 1]) (by rfl)) (by simp) l1 (by omega)) ?_
                rintro uw h ⟨own2,mv⟩
                have c:=c.jo (k:=(0,2)) (v:=uA) (l:=[nth m.args 0,nth m.args 1]) (by rfl) own2 mv
                obtain⟨W,hW,c,huA⟩:=c.freeze (k:=(0,2)) (v:=uw) (l:=[nth m.args 0,nth m.args 1]++s.i.args.drop 1) (by rfl))
             | (refine af (by kernel_rfl) (jZ c.wle (hum.mono (by repeat (first | exact View.le_refl _ | assumption | refine View.le_trans ?_ (by assumption)))) (huA.mono (by repeat (first | exact View.le_refl _ | assumption | refine View.le_trans ?_ (by assumption)))) (huB.mono (by repeat (first | exact View.le_refl _ | assumption | refine View.le_trans ?_ (by assumption))))) ?_
                rintro _ h ⟨hle,vf,rfl,hvf⟩
                have hW:=c.up (h':=h)
                have c:=c.ext hle)
             | refine c.bh (k:=(0,0)) (n:=7) (l:=fitZ) (by rfl) hvf rfl rfl (by kernel_rfl) (by simp) (by simp) fun h l9 hl9 c=>?_
             try refine⟨View.le_trans (by repeat (first | exact View.le_refl _ | assumption | refine View.le_trans ?_ (by assumption))) c.wle,?_⟩
             subst hy))
        all_goals
          simp[g0,g1,g2,g3,g4,g5,g7,g8,ag,ah]
          rw[hx']
          have hall:=c.all (k:=(0,0)) (n:=7) (l:=l9) (B:=R) (e:=T.aO) (by rfl)
          simp at hall
          simp[g0,g1,g2,g3,g4,g5,g7,g8,ag,ah,hall]
          exact fin _ _ _ _ c (hl9▸hvf)
      · simp[g0,g1,g2,g3,g4,g5,g7,g8,ag,ah,ae c.wle (ae hVW i4),e0]
        refine aq (t:=T.aO) (z:=.agg fitZ.toArray) (places:=[(0,1),(1,1),(2,1),(3,5)]) (vs:=[]) (cs:=fitZ.toArray) (by kernel_rfl) (by kernel_rfl) (by simp) (by rfl) ?_
        refine c.bh (k:=(0,0)) (n:=7) (l:=fitZ) (by rfl) fR rfl rfl (by kernel_rfl) (by simp) (by simp) fun h9 l9 hl9 c9=>?_
        have hall:=c9.all (k:=(0,0)) (n:=7) (l:=l9) (B:=R) (e:=T.aO) (by rfl)
        simp at hall
        simp[hall]
        exact none_ _ _ _ c9 (hl9▸fR) (by simp[e0])
  refine aS V cb.wle ?_
  have c:=cb
  refine iq ?_ ?_
  · refine bo fun y hy=>?_
    simp[hus,i3,q0,d0]
    refine af (by kernel_rfl) (hF c.wle rus hok.sm a0) ?_
    rintro _ h1 ⟨hle1,vm,rfl,hvm⟩
    have hW1:=c.up (h':=h1)
    have c:=c.ext hle1
    subst hy
    refine bo fun y hy=>?_
    simp
    refine c.dS (k:=(0,4)) (z:=.agg insZ.toArray) (d:=gW) (by rfl) (by kernel_rfl) lj (by decide) fun B2 h2 hle2 c=>?_
    subst hy
    refine bo fun y hy=>?_
    simp
    refine c.gZ Part.all (k:=(0,4)) (D:=gW) (d:=m) (by rfl) (by kernel_rfl) (by simp) (by simp) hvm fun h3 c=>?_
    subst hy
    simp
    obtain⟨W4,hW4,c,hat⟩:=c.ti (k:=(0,4)) (B:=B2) (d:=m) (by rfl)
    rw[Own.fD,Own.qq (by rfl)]at c
    exact rest _ _ _ _ (View.le_trans hW1 hW4) c hat rfl rfl rfl rfl rfl rfl rfl rfl
  · refine bo fun y hy=>?_
    simp[hus,i3,q0,d0]
    refine c.dS (k:=(0,4)) (z:=.agg insZ.toArray) (d:=gW) (by rfl) (by kernel_rfl) lj (by decide) fun B2 h2 hle2 c=>?_
    refine⟨c.wle,?_⟩
    subst hy
    refine bo fun y hy=>?_
    simp
    refine af (by kernel_rfl) (hF c.wle rus hok.sm a0) ?_
    rintro _ h1 ⟨hle1,vm,rfl,hvm⟩
    have hW1:=c.up (h':=h1)
    have c:=c.ext hle1
    subst hy
    refine bo fun y hy=>?_
    simp
    refine c.gZ Part.all (k:=(0,4)) (D:=gW) (d:=m) (by rfl) (by kernel_rfl) (by simp) (by simp) hvm fun h3 c=>?_
    subst hy
    simp
    obtain⟨W4,hW4,c,hat⟩:=c.ti (k:=(0,4)) (B:=B2) (d:=m) (by rfl)
    rw[Own.fD,Own.qq (by rfl)]at c
    exact rest _ _ _ _ (View.le_trans hW1 hW4) c hat rfl rfl rfl rfl rfl rfl rfl rfl
end
end Go.Proofs.YtnfiilgdjpdlkaaGreatDoor
namespace Go.Lft
open Go
def BM (subs:List (Array Bool × Reg)) (l:Array Bool):Option Reg:=(subs.find? fun p=>p.1 == l).map (·.2)
theorem C3{subs:List (Array Bool × Reg)}{l:Array Bool}{R:Reg}(h:BM subs l=some R):(l,R)∈subs:=by
 unfold BM at h;rw[KA]at h;obtain⟨p,hp,rfl⟩:=h;have h1:=N1 hp;have h2:=LZ hp;have:p.1=l:=by simpa using h1
 subst this;exact h2
def Hv (P:Program) (N:Nat) (ops:Array Oper) (live:List Nat) (l0:Option Nat) (listed:Array Bool) (subs:List (Array Bool × Reg)):Option Reg:=
 match nw P ops l0 ops.size listed with
 | none=>none
 | some (qs,l1)=>match rdy ops l1 with
  | []=>zZ P N ops live (lB ops qs)
  | rs=>iY (fun i=>match ops[i]? with
   | none=>none
   | some o=>match BM subs (l1.setIfInBounds i true)with
    | some next=>rB P N ops live (lB ops qs) o (ud ops (l1.setIfInBounds i true)) (l0 == some i) next
    | none=>none) rs
theorem pk {f g:Nat->Option Reg} (h : ∀i X,f i=some X->g i=some X) : ∀{rs:List Nat} {R:Reg},iY f rs=some R->iY g rs=some R
 | [],_,e=>by cases e
 | [i],_,e=>h i _ e
 | i::j::rs,R,e=>by
  unfold iY at e ⊢;cases h1:f i with
  | none=>rw[h1]at e;cases e
  | some x=>
   cases h2:iY f (j::rs)with
   | none=>rw[h1,h2]at e;cases e
   | some y=>rw[h1,h2]at e;rw[h i x h1,pk h h2];exact e
theorem bu{P:Program}{N:Nat}{ops:Array Oper}{live:List Nat}{l0:Option Nat}{listed:Array Bool}{subs:List (Array Bool × Reg)}{R:Reg}{f:Nat}(h:Hv P N ops live l0 listed subs=some R)(hs : ∀p∈subs,regD P N ops live l0 f p.1=some p.2):regD P N ops live l0 (f+1) listed=some R:=by
 unfold Hv at h;unfold regD;split at h
 ·cases h
 rename_i qs l1 hq;rw[hq];simp only;split at h
 ·rename_i hr;rw[hr];exact h
 rename_i hne;split
 ·rename_i hr;exact absurd hr hne
 refine pk (fun i X e=>?_) h;cases ho:ops[i]? with
 | none=>rw[ho]at e;cases e
 | some o=>
  rw[ho]at e;simp only at e ⊢;cases hb:BM subs (l1.setIfInBounds i true)with
  | none=>rw[hb]at e;cases e
  | some next=>rw[hb]at e;rw[hs _ (C3 hb)];exact e
def seqL:Code->Code | .seq x _=>x | x=>x
def seqR:Code->Code | .seq _ y=>y | x=>x
def Hw:Code->Bool | .seq _ _=>true | _=>false
def opsR:Code->Array Oper | .region _ ops _=>ops | _=>#[]
def By:Code->Bool | .region _ ops d=>d&&ops.all fun o=>en o.op | _=>false
theorem jU{P:Program}{N:Nat}{lv lr:List Nat}{b:Bool}{c:Code}{x y:LC}(hc:Hw c=true)(h1:ey P N lv lr b (seqL c)=some x)(h2:ey P N lv lr b (seqR c)=some y):ey P N lv lr b c=some (.seq x y):=by cases c<;>simp[Hw]at hc;simp only[seqL,seqR]at h1 h2;simp only[ey,h1,h2]
theorem yx{P:Program}{N:Nat}{lv lr:List Nat}{b:Bool}{c:Code}{R:Reg}{l0:Option Nat}{n:Nat}(hc:By c=true)(h0:zl P (opsR c)=l0)(hn:(opsR c).size=n)(h:regD P N (opsR c) lv l0 (n+1) (Array.replicate n false)=some R):ey P N lv lr b c=some (.reg true R):=by subst h0;subst hn;cases c<;>simp[By]at hc;simp only[opsR]at h;simp only[ey];rw[if_pos hc.1,if_pos (by simpa using hc.2),h];rfl
def ry (fn:Func):Code:=fn.body.getD .skip
theorem Gb{P:Program}{fn:Func}{res:List E}{x:LC}{lv lr:List Nat}{n:Nat}(hb:fn.body.isSome=true)(hr:fn.results.toList.mapM (resE P)=some res)(h1:kf (ry fn)++rq fn (ry fn)=lv)(h2:rq fn (ry fn)=lr)(hn:fn.ntmps=n)(h:ey P n lv lr false (ry fn)=some x):aN P fn=some ⟨res,x⟩:=by
 subst h1;subst h2;subst hn;unfold ry at h;unfold aN;cases hb':fn.body with
 | none=>rw[hb']at hb;cases hb
 | some c=>rw[hb']at h;simp only[NY]at h;simp only[hr,h]
end Go.Lft
namespace Go.Proofs.YtnfiilgdjpdlkaaGreatDoor
open Go Go.Lft
section
set_option maxRecDepth 100000
noncomputable def L.aa.q0.ops:Array Oper:=opsR (seqL (seqR (seqR (seqR (seqR (ry Tryz.f133))))))
def L.aa.q0.r0:Reg:=(.fin [11] [] [(.tmp 65)])
def L.aa.q0.r1:Reg:=(.loud [] [] [(10,(.tmp 10)),(64,(.tmp 64))] none [] false (.store 101 (.tmp 10) (.tmp 64)) 0 none false L.aa.q0.r0)
def L.aa.q0.r2:Reg:=(.loud [33,64,65] [(64,(.un (.ext 0) (.tmp 63))),(65,(.un (.ext 1) (.tmp 63)))] [] none [] false (.alloc 101) 0 (some 10) true L.aa.q0.r1)
def L.aa.q0.r3:Reg:=(.loud [33,64,65] [(65,(.un (.ext 1) (.tmp 63)))] [(10,(.tmp 10)),(64,(.un (.ext 0) (.tmp 63)))] none [] false (.store 101 (.tmp 10) (.tmp 64)) 0 none false L.aa.q0.r0)
def L.aa.q0.r4:Reg:=(.loud [] [] [(46,(.tmp 46)),(53,(.tmp 53)),(62,(.tmp 62))] none [] true (.call ⟨.value (.func 104),#[(.tmp 46),(.tmp 53),(.tmp 62)],#[80,22,22]⟩) 102 (some 63) true L.aa.q0.r3)
def L.aa.q0.r5:Reg:=(.both (.loud [] [] [(46,(.tmp 46)),(53,(.tmp 53)),(62,(.tmp 62))] none [] true (.call ⟨.value (.func 104),#[(.tmp 46),(.tmp 53),(.tmp 62)],#[80,22,22]⟩) 102 (some 63) true L.aa.q0.r2)
 (.loud [] [] [] none [] false (.alloc 101) 0 (some 10) true L.aa.q0.r4))
def L.aa.q0.r6:Reg:=(.loud [] [] [(57,(.tmp 57)),(61,(.tmp 61))] none [] false (.buildSlice 22 2 #[(0,(.tmp 57)),(1,(.tmp 61))]) 22 (some 62) true L.aa.q0.r4)
def L.aa.q0.r7:Reg:=(.both (.loud [] [] [(57,(.tmp 57)),(61,(.tmp 61))] none [] false (.buildSlice 22 2 #[(0,(.tmp 57)),(1,(.tmp 61))]) 22 (some 62) true L.aa.q0.r5)
 (.loud [] [] [] none [] false (.alloc 101) 0 (some 10) true L.aa.q0.r6))
def L.aa.q0.r8:Reg:=(.loud [] [] [(47,(.tmp 47)),(52,(.tmp 52))] none [] false (.call ⟨.value (.tmp 47),#[(.tmp 52)],#[22]⟩) 22 (some 53) true L.aa.q0.r4)
def L.aa.q0.r9:Reg:=(.both (.loud [] [] [(47,(.tmp 47)),(52,(.tmp 52))] none [] false (.call ⟨.value (.tmp 47),#[(.tmp 52)],#[22]⟩) 22 (some 53) true L.aa.q0.r5)
 (.loud [] [] [] none [] false (.alloc 101) 0 (some 10) true L.aa.q0.r8))
def L.aa.q0.r10:Reg:=(.both (.loud [] [] [(47,(.tmp 47)),(52,(.tmp 52))] none [] false (.call ⟨.value (.tmp 47),#[(.tmp 52)],#[22]⟩) 22 (some 53) true L.aa.q0.r6)
 (.loud [] [] [(57,(.tmp 57)),(61,(.tmp 61))] none [] false (.buildSlice 22 2 #[(0,(.tmp 57)),(1,(.tmp 61))]) 22 (some 62) true L.aa.q0.r8))
def L.aa.q0.r11:Reg:=(.both (.loud [] [] [(47,(.tmp 47)),(52,(.tmp 52))] none [] false (.call ⟨.value (.tmp 47),#[(.tmp 52)],#[22]⟩) 22 (some 53) true L.aa.q0.r7)
 (.both (.loud [] [] [(57,(.tmp 57)),(61,(.tmp 61))] none [] false (.buildSlice 22 2 #[(0,(.tmp 57)),(1,(.tmp 61))]) 22 (some 62) true L.aa.q0.r9)
 (.loud [] [] [] none [] false (.alloc 101) 0 (some 10) true L.aa.q0.r10)))
def L.aa.q0.r12:Reg:=(.loud [] [] [(51,(.tmp 51))] none [] false (.buildSlice 22 1 #[(0,(.tmp 51))]) 22 (some 52) true L.aa.q0.r8)
def L.aa.q0.r13:Reg:=(.both (.loud [] [] [(51,(.tmp 51))] none [] false (.buildSlice 22 1 #[(0,(.tmp 51))]) 22 (some 52) true L.aa.q0.r9)
 (.loud [] [] [] none [] false (.alloc 101) 0 (some 10) true L.aa.q0.r12))
def L.aa.q0.r14:Reg:=(.both (.loud [] [] [(51,(.tmp 51))] none [] false (.buildSlice 22 1 #[(0,(.tmp 51))]) 22 (some 52) true L.aa.q0.r10)
 (.loud [] [] [(57,(.tmp 57)),(61,(.tmp 61))] none [] false (.buildSlice 22 2 #[(0,(.tmp 57)),(1,(.tmp 61))]) 22 (some 62) true L.aa.q0.r12))
def L.aa.q0.r15:Reg:=(.both (.loud [] [] [(51,(.tmp 51))] none [] false (.buildSlice 22 1 #[(0,(.tmp 51))]) 22 (some 52) true L.aa.q0.r11)
 (.both (.loud [] [] [(57,(.tmp 57)),(61,(.tmp 61))] none [] false (.buildSlice 22 2 #[(0,(.tmp 57)),(1,(.tmp 61))]) 22 (some 62) true L.aa.q0.r13)
 (.loud [] [] [] none [] false (.alloc 101) 0 (some 10) true L.aa.q0.r14)))
def L.aa.q0.r16:Reg:=(.loud [] [] [(34,(.tmp 34)),(45,(.tmp 45))] none [] false (.call ⟨.value (.tmp 34),#[(.tmp 45)],#[80]⟩) 80 (some 46) true L.aa.q0.r8)
def L.aa.q0.r17:Reg:=(.both (.loud [] [] [(34,(.tmp 34)),(45,(.tmp 45))] none [] false (.call ⟨.value (.tmp 34),#[(.tmp 45)],#[80]⟩) 80 (some 46) true L.aa.q0.r9)
 (.loud [] [] [] none [] false (.alloc 101) 0 (some 10) true L.aa.q0.r16))
def L.aa.q0.r18:Reg:=(.both (.loud [] [] [(34,(.tmp 34)),(45,(.tmp 45))] none [] false (.call ⟨.value (.tmp 34),#[(.tmp 45)],#[80]⟩) 80 (some 46) true L.aa.q0.r10)
 (.loud [] [] [(57,(.tmp 57)),(61,(.tmp 61))] none [] false (.buildSlice 22 2 #[(0,(.tmp 57)),(1,(.tmp 61))]) 22 (some 62) true L.aa.q0.r16))
def L.aa.q0.r19:Reg:=(.both (.loud [] [] [(34,(.tmp 34)),(45,(.tmp 45))] none [] false (.call ⟨.value (.tmp 34),#[(.tmp 45)],#[80]⟩) 80 (some 46) true L.aa.q0.r11)
 (.both (.loud [] [] [(57,(.tmp 57)),(61,(.tmp 61))] none [] false (.buildSlice 22 2 #[(0,(.tmp 57)),(1,(.tmp 61))]) 22 (some 62) true L.aa.q0.r17)
 (.loud [] [] [] none [] false (.alloc 101) 0 (some 10) true L.aa.q0.r18)))
def L.aa.q0.r20:Reg:=(.both (.loud [] [] [(34,(.tmp 34)),(45,(.tmp 45))] none [] false (.call ⟨.value (.tmp 34),#[(.tmp 45)],#[80]⟩) 80 (some 46) true L.aa.q0.r12)
 (.loud [] [] [(51,(.tmp 51))] none [] false (.buildSlice 22 1 #[(0,(.tmp 51))]) 22 (some 52) true L.aa.q0.r16))
def L.aa.q0.r21:Reg:=(.both (.loud [] [] [(34,(.tmp 34)),(45,(.tmp 45))] none [] false (.call ⟨.value (.tmp 34),#[(.tmp 45)],#[80]⟩) 80 (some 46) true L.aa.q0.r13)
 (.both (.loud [] [] [(51,(.tmp 51))] none [] false (.buildSlice 22 1 #[(0,(.tmp 51))]) 22 (some 52) true L.aa.q0.r17)
 (.loud [] [] [] none [] false (.alloc 101) 0 (some 10) true L.aa.q0.r20)))
def L.aa.q0.r22:Reg:=(.both (.loud [] [] [(34,(.tmp 34)),(45,(.tmp 45))] none [] false (.call ⟨.value (.tmp 34),#[(.tmp 45)],#[80]⟩) 80 (some 46) true L.aa.q0.r14)
 (.both (.loud [] [] [(51,(.tmp 51))] none [] false (.buildSlice 22 1 #[(0,(.tmp 51))]) 22 (some 52) true L.aa.q0.r18)
 (.loud [] [] [(57,(.tmp 57)),(61,(.tmp 61))] none [] false (.buildSlice 22 2 #[(0,(.tmp 57)),(1,(.tmp 61))]) 22 (some 62) true L.aa.q0.r20)))
def L.aa.q0.r23:Reg:=(.both (.loud [] [] [(34,(.tmp 34)),(45,(.tmp 45))] none [] false (.call ⟨.value (.tmp 34),#[(.tmp 45)],#[80]⟩) 80 (some 46) true L.aa.q0.r15)
 (.both (.loud [] [] [(51,(.tmp 51))] none [] false (.buildSlice 22 1 #[(0,(.tmp 51))]) 22 (some 52) true L.aa.q0.r19)
 (.both (.loud [] [] [(57,(.tmp 57)),(61,(.tmp 61))] none [] false (.buildSlice 22 2 #[(0,(.tmp 57)),(1,(.tmp 61))]) 22 (some 62) true L.aa.q0.r21)
 (.loud [] [] [] none [] false (.alloc 101) 0 (some 10) true L.aa.q0.r22))))
def L.aa.q0.r24:Reg:=(.loud [] [] [(35,(.tmp 35)),(39,(.tmp 39)),(44,(.tmp 44))] none [] false (.build 80 #[(0,(.tmp 35)),(3,(.tmp 39)),(6,(.tmp 44))]) 80 (some 45) true L.aa.q0.r16)
def L.aa.q0.r25:Reg:=(.both (.loud [] [] [(35,(.tmp 35)),(39,(.tmp 39)),(44,(.tmp 44))] none [] false (.build 80 #[(0,(.tmp 35)),(3,(.tmp 39)),(6,(.tmp 44))]) 80 (some 45) true L.aa.q0.r17)
 (.loud [] [] [] none [] false (.alloc 101) 0 (some 10) true L.aa.q0.r24))
def L.aa.q0.r26:Reg:=(.both (.loud [] [] [(35,(.tmp 35)),(39,(.tmp 39)),(44,(.tmp 44))] none [] false (.build 80 #[(0,(.tmp 35)),(3,(.tmp 39)),(6,(.tmp 44))]) 80 (some 45) true L.aa.q0.r18)
 (.loud [] [] [(57,(.tmp 57)),(61,(.tmp 61))] none [] false (.buildSlice 22 2 #[(0,(.tmp 57)),(1,(.tmp 61))]) 22 (some 62) true L.aa.q0.r24))
def L.aa.q0.r27:Reg:=(.both (.loud [] [] [(35,(.tmp 35)),(39,(.tmp 39)),(44,(.tmp 44))] none [] false (.build 80 #[(0,(.tmp 35)),(3,(.tmp 39)),(6,(.tmp 44))]) 80 (some 45) true L.aa.q0.r19)
 (.both (.loud [] [] [(57,(.tmp 57)),(61,(.tmp 61))] none [] false (.buildSlice 22 2 #[(0,(.tmp 57)),(1,(.tmp 61))]) 22 (some 62) true L.aa.q0.r25)
 (.loud [] [] [] none [] false (.alloc 101) 0 (some 10) true L.aa.q0.r26)))
def L.aa.q0.r28:Reg:=(.both (.loud [] [] [(35,(.tmp 35)),(39,(.tmp 39)),(44,(.tmp 44))] none [] false (.build 80 #[(0,(.tmp 35)),(3,(.tmp 39)),(6,(.tmp 44))]) 80 (some 45) true L.aa.q0.r20)
 (.loud [] [] [(51,(.tmp 51))] none [] false (.buildSlice 22 1 #[(0,(.tmp 51))]) 22 (some 52) true L.aa.q0.r24))
def L.aa.q0.r29:Reg:=(.both (.loud [] [] [(35,(.tmp 35)),(39,(.tmp 39)),(44,(.tmp 44))] none [] false (.build 80 #[(0,(.tmp 35)),(3,(.tmp 39)),(6,(.tmp 44))]) 80 (some 45) true L.aa.q0.r21)
 (.both (.loud [] [] [(51,(.tmp 51))] none [] false (.buildSlice 22 1 #[(0,(.tmp 51))]) 22 (some 52) true L.aa.q0.r25)
 (.loud [] [] [] none [] false (.alloc 101) 0 (some 10) true L.aa.q0.r28)))
def L.aa.q0.r30:Reg:=(.both (.loud [] [] [(35,(.tmp 35)),(39,(.tmp 39)),(44,(.tmp 44))] none [] false (.build 80 #[(0,(.tmp 35)),(3,(.tmp 39)),(6,(.tmp 44))]) 80 (some 45) true L.aa.q0.r22)
 (.both (.loud [] [] [(51,(.tmp 51))] none [] false (.buildSlice 22 1 #[(0,(.tmp 51))]) 22 (some 52) true L.aa.q0.r26)
 (.loud [] [] [(57,(.tmp 57)),(61,(.tmp 61))] none [] false (.buildSlice 22 2 #[(0,(.tmp 57)),(1,(.tmp 61))]) 22 (some 62) true L.aa.q0.r28)))
def L.aa.q0.r31:Reg:=(.both (.loud [34,35,36,37,38,39,40,41,42,43,44,47,48,49,50,51,54,55,56,57,58,59,60,61] [(34,(.un .load (.tmp 2))),(47,(.un .load (.tmp 4))),(51,(.un .load (.bin (.idx 1) (.un .load (.un (.fld 3) (.tmp 7))) (.con (.int .i64 0))))),(57,(.un .load (.bin (.idx 1) (.un .load (.un (.fld 3) (.tmp 1))) (.con (.int .i64 0))))),(61,(.un .load (.bin (.idx 1) (.un .load (.un (.fld 3) (.tmp 7))) (.con (.int .i64 1)))))] [(35,(.un .load (.tmp 3))),(39,(.un .load (.bin (.idx 1) (.un .load (.un (.fld 3) (.tmp 7))) (.con (.int .i64 0))))),(44,(.bin (.arith .add) (.un (.conv .i32) (.tmp 9)) (.un .load (.un (.fld 4) (.tmp 1)))))] none [] false (.build 80 #[(0,(.tmp 35)),(3,(.tmp 39)),(6,(.tmp 44))]) 80 (some 45) true L.aa.q0.r23)
 (.both (.loud [34,35,36,37,38,39,40,41,42,43,44,47,48,49,50,51,54,55,56,57,58,59,60,61] [(34,(.un .load (.tmp 2))),(35,(.un .load (.tmp 3))),(39,(.un .load (.bin (.idx 1) (.un .load (.un (.fld 3) (.tmp 7))) (.con (.int .i64 0))))),(44,(.bin (.arith .add) (.un (.conv .i32) (.tmp 9)) (.un .load (.un (.fld 4) (.tmp 1))))),(47,(.un .load (.tmp 4))),(57,(.un .load (.bin (.idx 1) (.un .load (.un (.fld 3) (.tmp 1))) (.con (.int .i64 0))))),(61,(.un .load (.bin (.idx 1) (.un .load (.un (.fld 3) (.tmp 7))) (.con (.int .i64 1)))))] [(51,(.un .load (.bin (.idx 1) (.un .load (.un (.fld 3) (.tmp 7))) (.con (.int .i64 0)))))] none [] false (.buildSlice 22 1 #[(0,(.tmp 51))]) 22 (some 52) true L.aa.q0.r27)
 (.both (.loud [34,35,36,37,38,39,40,41,42,43,44,47,48,49,50,51,54,55,56,57,58,59,60,61] [(34,(.un .load (.tmp 2))),(35,(.un .load (.tmp 3))),(39,(.un .load (.bin (.idx 1) (.un .load (.un (.fld 3) (.tmp 7))) (.con (.int .i64 0))))),(44,(.bin (.arith .add) (.un (.conv .i32) (.tmp 9)) (.un .load (.un (.fld 4) (.tmp 1))))),(47,(.un .load (.tmp 4))),(51,(.un .load (.bin (.idx 1) (.un .load (.un (.fld 3) (.tmp 7))) (.con (.int .i64 0)))))] [(57,(.un .load (.bin (.idx 1) (.un .load (.un (.fld 3) (.tmp 1))) (.con (.int .i64 0))))),(61,(.un .load (.bin (.idx 1) (.un .load (.un (.fld 3) (.tmp 7))) (.con (.int .i64 1)))))] none [] false (.buildSlice 22 2 #[(0,(.tmp 57)),(1,(.tmp 61))]) 22 (some 62) true L.aa.q0.r29)
 (.loud [34,35,36,37,38,39,40,41,42,43,44,47,48,49,50,51,54,55,56,57,58,59,60,61] [(34,(.un .load (.tmp 2))),(35,(.un .load (.tmp 3))),(39,(.un .load (.bin (.idx 1) (.un .load (.un (.fld 3) (.tmp 7))) (.con (.int .i64 0))))),(44,(.bin (.arith .add) (.un (.conv .i32) (.tmp 9)) (.un .load (.un (.fld 4) (.tmp 1))))),(47,(.un .load (.tmp 4))),(51,(.un .load (.bin (.idx 1) (.un .load (.un (.fld 3) (.tmp 7))) (.con (.int .i64 0))))),(57,(.un .load (.bin (.idx 1) (.un .load (.un (.fld 3) (.tmp 1))) (.con (.int .i64 0))))),(61,(.un .load (.bin (.idx 1) (.un .load (.un (.fld 3) (.tmp 7))) (.con (.int .i64 1)))))] [] none [] false (.alloc 101) 0 (some 10) true L.aa.q0.r30))))
theorem E.aa.q0r0:regD Tryz.prog 76 L.aa.q0.ops [22,5,6,1,0,8,5,7,4,9,3,2,10] (some 29) 29 #[true,true,true,true,true,true,true,true,true,true,true,true,true,true,true,true,true,true,true,true,true,true,true,true,true,true,true,true,true,true,true,true,true,true,true,false]=some L.aa.q0.r0:=bu (subs:=[]) (by kernel_rfl) (fun _ h=>by cases h)
theorem E.aa.q0r1:regD Tryz.prog 76 L.aa.q0.ops [22,5,6,1,0,8,5,7,4,9,3,2,10] (some 29) 30 #[true,true,true,true,true,true,true,true,true,true,true,true,true,true,true,true,true,true,true,true,true,true,true,true,true,true,true,true,true,true,true,true,true,true,false,false]=some L.aa.q0.r1:=bu (subs:=[(#[true,true,true,true,true,true,true,true,true,true,true,true,true,true,true,true,true,true,true,true,true,true,true,true,true,true,true,true,true,true,true,true,true,true,true,false],L.aa.q0.r0)]) (by kernel_rfl) (Ky.2 ⟨E.aa.q0r0,fun _ h=>by cases h⟩)
theorem E.aa.q0r2:regD Tryz.prog 76 L.aa.q0.ops [22,5,6,1,0,8,5,7,4,9,3,2,10] (some 29) 31 #[true,true,true,true,true,true,true,true,true,true,true,true,true,true,true,true,true,true,true,true,true,true,true,true,true,true,true,true,true,true,false,false,false,false,false,false]=some L.aa.q0.r2:=bu (subs:=[(#[true,true,true,true,true,true,true,true,true,true,true,true,true,true,true,true,true,true,true,true,true,true,true,true,true,true,true,true,true,true,true,true,true,true,false,false],L.aa.q0.r1)]) (by kernel_rfl) (Ky.2 ⟨E.aa.q0r1,fun _ h=>by cases h⟩)
theorem E.aa.q0r3:regD Tryz.prog 76 L.aa.q0.ops [22,5,6,1,0,8,5,7,4,9,3,2,10] (some 29) 30 #[true,true,true,true,true,true,true,true,true,true,true,true,true,true,true,true,true,true,true,true,true,true,true,true,true,true,true,true,true,true,false,false,false,true,false,false]=some L.aa.q0.r3:=bu (subs:=[(#[true,true,true,true,true,true,true,true,true,true,true,true,true,true,true,true,true,true,true,true,true,true,true,true,true,true,true,true,true,true,true,true,true,true,true,false],L.aa.q0.r0)]) (by kernel_rfl) (Ky.2 ⟨E.aa.q0r0,fun _ h=>by cases h⟩)
theorem E.aa.q0r4:regD Tryz.prog 76 L.aa.q0.ops [22,5,6,1,0,8,5,7,4,9,3,2,10] (some 29) 31 #[true,true,true,true,true,true,true,true,true,true,true,true,true,true,true,true,true,true,true,true,true,true,true,true,true,true,true,true,true,false,false,false,false,true,false,false]=some L.aa.q0.r4:=bu (subs:=[(#[true,true,true,true,true,true,true,true,true,true,true,true,true,true,true,true,true,true,true,true,true,true,true,true,true,true,true,true,true,true,false,false,false,true,false,false],L.aa.q0.r3)]) (by kernel_rfl) (Ky.2 ⟨E.aa.q0r3,fun _ h=>by cases h⟩)
theorem E.aa.q0r5:regD Tryz.prog 76 L.aa.q0.ops [22,5,6,1,0,8,5,7,4,9,3,2,10] (some 29) 32 #[true,true,true,true,true,true,true,true,true,true,true,true,true,true,true,true,true,true,true,true,true,true,true,true,true,true,true,true,true,false,false,false,false,false,false,false]=some L.aa.q0.r5:=bu (subs:=[(#[true,true,true,true,true,true,true,true,true,true,true,true,true,true,true,true,true,true,true,true,true,true,true,true,true,true,true,true,true,true,false,false,false,false,false,false],L.aa.q0.r2),(#[true,true,true,true,true,true,true,true,true,true,true,true,true,true,true,true,true,true,true,true,true,true,true,true,true,true,true,true,true,false,false,false,false,true,false,false],L.aa.q0.r4)]) (by kernel_rfl) (Ky.2 ⟨E.aa.q0r2,Ky.2 ⟨E.aa.q0r4,fun _ h=>by cases h⟩⟩)
theorem E.aa.q0r6:regD Tryz.prog 76 L.aa.q0.ops [22,5,6,1,0,8,5,7,4,9,3,2,10] (some 29) 32 #[true,true,true,true,true,true,true,true,true,true,true,true,true,true,true,true,true,true,true,true,true,true,true,true,true,true,true,true,false,false,false,false,false,true,false,false]=some L.aa.q0.r6:=bu (subs:=[(#[true,true,true,true,true,true,true,true,true,true,true,true,true,true,true,true,true,true,true,true,true,true,true,true,true,true,true,true,true,false,false,false,false,true,false,false],L.aa.q0.r4)]) (by kernel_rfl) (Ky.2 ⟨E.aa.q0r4,fun _ h=>by cases h⟩)
theorem E.aa.q0r7:regD Tryz.prog 76 L.aa.q0.ops [22,5,6,1,0,8,5,7,4,9,3,2,10] (some 29) 33 #[true,true,true,true,true,true,true,true,true,true,true,true,true,true,true,true,true,true,true,true,true,true,true,true,true,true,true,true,false,false,false,false,false,false,false,false]=some L.aa.q0.r7:=bu (subs:=[(#[true,true,true,true,true,true,true,true,true,true,true,true,true,true,true,true,true,true,true,true,true,true,true,true,true,true,true,true,true,false,false,false,false,false,false,false],L.aa.q0.r5),(#[true,true,true,true,true,true,true,true,true,true,true,true,true,true,true,true,true,true,true,true,true,true,true,true,true,true,true,true,false,false,false,false,false,true,false,false],L.aa.q0.r6)]) (by kernel_rfl) (Ky.2 ⟨E.aa.q0r5,Ky.2 ⟨E.aa.q0r6,fun _ h=>by cases h⟩⟩)
theorem E.aa.q0r8:regD Tryz.prog 76 L.aa.q0.ops [22,5,6,1,0,8,5,7,4,9,3,2,10] (some 29) 32 #[true,true,true,true,true,true,true,true,true,true,true,true,true,true,true,true,true,true,true,false,true,true,true,true,true,true,true,true,true,false,false,false,false,true,false,false]=some L.aa.q0.r8:=bu (subs:=[(#[true,true,true,true,true,true,true,true,true,true,true,true,true,true,true,true,true,true,true,true,true,true,true,true,true,true,true,true,true,false,false,false,false,true,false,false],L.aa.q0.r4)]) (by kernel_rfl) (Ky.2 ⟨E.aa.q0r4,fun _ h=>by cases h⟩)
theorem E.aa.q0r9:regD Tryz.prog 76 L.aa.q0.ops [22,5,6,1,0,8,5,7,4,9,3,2,10] (some 29) 33 #[true,true,true,true,true,true,true,true,true,true,true,true,true,true,true,true,true,true,true,false,true,true,true,true,true,true,true,true,true,false,false,false,false,false,false,false]=some L.aa.q0.r9:=bu (subs:=[(#[true,true,true,true,true,true,true,true,true,true,true,true,true,true,true,true,true,true,true,true,true,true,true,true,true,true,true,true,true,false,false,false,false,false,false,false],L.aa.q0.r5),(#[true,true,true,true,true,true,true,true,true,true,true,true,true,true,true,true,true,true,true,false,true,true,true,true,true,true,true,true,true,false,false,false,false,true,false,false],L.aa.q0.r8)]) (by kernel_rfl) (Ky.2 ⟨E.aa.q0r5,Ky.2 ⟨E.aa.q0r8,fun _ h=>by cases h⟩⟩)
theorem E.aa.FB:regD Tryz.prog 76 L.aa.q0.ops [22,5,6,1,0,8,5,7,4,9,3,2,10] (some 29) 33 #[true,true,true,true,true,true,true,true,true,true,true,true,true,true,true,true,true,true,true,false,true,true,true,true,true,true,true,true,false,false,false,false,false,true,false,false]=some L.aa.q0.r10:=bu (subs:=[(#[true,true,true,true,true,true,true,true,true,true,true,true,true,true,true,true,true,true,true,true,true,true,true,true,true,true,true,true,false,false,false,false,false,true,false,false],L.aa.q0.r6),(#[true,true,true,true,true,true,true,true,true,true,true,true,true,true,true,true,true,true,true,false,true,true,true,true,true,true,true,true,true,false,false,false,false,true,false,false],L.aa.q0.r8)]) (by kernel_rfl) (Ky.2 ⟨E.aa.q0r6,Ky.2 ⟨E.aa.q0r8,fun _ h=>by cases h⟩⟩)
theorem E.aa.Hd:regD Tryz.prog 76 L.aa.q0.ops [22,5,6,1,0,8,5,7,4,9,3,2,10] (some 29) 34 #[true,true,true,true,true,true,true,true,true,true,true,true,true,true,true,true,true,true,true,false,true,true,true,true,true,true,true,true,false,false,false,false,false,false,false,false]=some L.aa.q0.r11:=bu (subs:=[(#[true,true,true,true,true,true,true,true,true,true,true,true,true,true,true,true,true,true,true,true,true,true,true,true,true,true,true,true,false,false,false,false,false,false,false,false],L.aa.q0.r7),(#[true,true,true,true,true,true,true,true,true,true,true,true,true,true,true,true,true,true,true,false,true,true,true,true,true,true,true,true,true,false,false,false,false,false,false,false],L.aa.q0.r9),(#[true,true,true,true,true,true,true,true,true,true,true,true,true,true,true,true,true,true,true,false,true,true,true,true,true,true,true,true,false,false,false,false,false,true,false,false],L.aa.q0.r10)]) (by kernel_rfl) (Ky.2 ⟨E.aa.q0r7,Ky.2 ⟨E.aa.q0r9,Ky.2 ⟨E.aa.FB,fun _ h=>by cases h⟩⟩⟩)
theorem E.aa.EO:regD Tryz.prog 76 L.aa.q0.ops [22,5,6,1,0,8,5,7,4,9,3,2,10] (some 29) 33 #[true,true,true,true,true,true,true,true,true,true,true,true,true,true,true,true,true,true,false,false,true,true,true,true,true,true,true,true,true,false,false,false,false,true,false,false]=some L.aa.q0.r12:=bu (subs:=[(#[true,true,true,true,true,true,true,true,true,true,true,true,true,true,true,true,true,true,true,false,true,true,true,true,true,true,true,true,true,false,false,false,false,true,false,false],L.aa.q0.r8)]) (by kernel_rfl) (Ky.2 ⟨E.aa.q0r8,fun _ h=>by cases h⟩)
theorem E.aa.Hf:regD Tryz.prog 76 L.aa.q0.ops [22,5,6,1,0,8,5,7,4,9,3,2,10] (some 29) 34 #[true,true,true,true,true,true,true,true,true,true,true,true,true,true,true,true,true,true,false,false,true,true,true,true,true,true,true,true,true,false,false,false,false,false,false,false]=some L.aa.q0.r13:=bu (subs:=[(#[true,true,true,true,true,true,true,true,true,true,true,true,true,true,true,true,true,true,true,false,true,true,true,true,true,true,true,true,true,false,false,false,false,false,false,false],L.aa.q0.r9),(#[true,true,true,true,true,true,true,true,true,true,true,true,true,true,true,true,true,true,false,false,true,true,true,true,true,true,true,true,true,false,false,false,false,true,false,false],L.aa.q0.r12)]) (by kernel_rfl) (Ky.2 ⟨E.aa.q0r9,Ky.2 ⟨E.aa.EO,fun _ h=>by cases h⟩⟩)
theorem E.aa.G7:regD Tryz.prog 76 L.aa.q0.ops [22,5,6,1,0,8,5,7,4,9,3,2,10] (some 29) 34 #[true,true,true,true,true,true,true,true,true,true,true,true,true,true,true,true,true,true,false,false,true,true,true,true,true,true,true,true,false,false,false,false,false,true,false,false]=some L.aa.q0.r14:=bu (subs:=[(#[true,true,true,true,true,true,true,true,true,true,true,true,true,true,true,true,true,true,true,false,true,true,true,true,true,true,true,true,false,false,false,false,false,true,false,false],L.aa.q0.r10),(#[true,true,true,true,true,true,true,true,true,true,true,true,true,true,true,true,true,true,false,false,true,true,true,true,true,true,true,true,true,false,false,false,false,true,false,false],L.aa.q0.r12)]) (by kernel_rfl) (Ky.2 ⟨E.aa.FB,Ky.2 ⟨E.aa.EO,fun _ h=>by cases h⟩⟩)
theorem E.aa.JL:regD Tryz.prog 76 L.aa.q0.ops [22,5,6,1,0,8,5,7,4,9,3,2,10] (some 29) 35 #[true,true,true,true,true,true,true,true,true,true,true,true,true,true,true,true,true,true,false,false,true,true,true,true,true,true,true,true,false,false,false,false,false,false,false,false]=some L.aa.q0.r15:=bu (subs:=[(#[true,true,true,true,true,true,true,true,true,true,true,true,true,true,true,true,true,true,true,false,true,true,true,true,true,true,true,true,false,false,false,false,false,false,false,false],L.aa.q0.r11),(#[true,true,true,true,true,true,true,true,true,true,true,true,true,true,true,true,true,true,false,false,true,true,true,true,true,true,true,true,true,false,false,false,false,false,false,false],L.aa.q0.r13),(#[true,true,true,true,true,true,true,true,true,true,true,true,true,true,true,true,true,true,false,false,true,true,true,true,true,true,true,true,false,false,false,false,false,true,false,false],L.aa.q0.r14)]) (by kernel_rfl) (Ky.2 ⟨E.aa.Hd,Ky.2 ⟨E.aa.Hf,Ky.2 ⟨E.aa.G7,fun _ h=>by cases h⟩⟩⟩)
theorem E.aa.BA:regD Tryz.prog 76 L.aa.q0.ops [22,5,6,1,0,8,5,7,4,9,3,2,10] (some 29) 33 #[true,true,true,true,true,true,true,true,true,true,true,true,false,true,true,true,true,true,true,false,true,true,true,true,true,true,true,true,true,false,false,false,false,true,false,false]=some L.aa.q0.r16:=bu (subs:=[(#[true,true,true,true,true,true,true,true,true,true,true,true,true,true,true,true,true,true,true,false,true,true,true,true,true,true,true,true,true,false,false,false,false,true,false,false],L.aa.q0.r8)]) (by kernel_rfl) (Ky.2 ⟨E.aa.q0r8,fun _ h=>by cases h⟩)
theorem E.aa.DC:regD Tryz.prog 76 L.aa.q0.ops [22,5,6,1,0,8,5,7,4,9,3,2,10] (some 29) 34 #[true,true,true,true,true,true,true,true,true,true,true,true,false,true,true,true,true,true,true,false,true,true,true,true,true,true,true,true,true,false,false,false,false,false,false,false]=some L.aa.q0.r17:=bu (subs:=[(#[true,true,true,true,true,true,true,true,true,true,true,true,true,true,true,true,true,true,true,false,true,true,true,true,true,true,true,true,true,false,false,false,false,false,false,false],L.aa.q0.r9),(#[true,true,true,true,true,true,true,true,true,true,true,true,false,true,true,true,true,true,true,false,true,true,true,true,true,true,true,true,true,false,false,false,false,true,false,false],L.aa.q0.r16)]) (by kernel_rfl) (Ky.2 ⟨E.aa.q0r9,Ky.2 ⟨E.aa.BA,fun _ h=>by cases h⟩⟩)
theorem E.aa.E0:regD Tryz.prog 76 L.aa.q0.ops [22,5,6,1,0,8,5,7,4,9,3,2,10] (some 29) 34 #[true,true,true,true,true,true,true,true,true,true,true,true,false,true,true,true,true,true,true,false,true,true,true,true,true,true,true,true,false,false,false,false,false,true,false,false]=some L.aa.q0.r18:=bu (subs:=[(#[true,true,true,true,true,true,true,true,true,true,true,true,true,true,true,true,true,true,true,false,true,true,true,true,true,true,true,true,false,false,false,false,false,true,false,false],L.aa.q0.r10),(#[true,true,true,true,true,true,true,true,true,true,true,true,false,true,true,true,true,true,true,false,true,true,true,true,true,true,true,true,true,false,false,false,false,true,false,false],L.aa.q0.r16)]) (by kernel_rfl) (Ky.2 ⟨E.aa.FB,Ky.2 ⟨E.aa.BA,fun _ h=>by cases h⟩⟩)
theorem E.aa.Hj:regD Tryz.prog 76 L.aa.q0.ops [22,5,6,1,0,8,5,7,4,9,3,2,10] (some 29) 35 #[true,true,true,true,true,true,true,true,true,true,true,true,false,true,true,true,true,true,true,false,true,true,true,true,true,true,true,true,false,false,false,false,false,false,false,false]=some L.aa.q0.r19:=bu (subs:=[(#[true,true,true,true,true,true,true,true,true,true,true,true,true,true,true,true,true,true,true,false,true,true,true,true,true,true,true,true,false,false,false,false,false,false,false,false],L.aa.q0.r11),(#[true,true,true,true,true,true,true,true,true,true,true,true,false,true,true,true,true,true,true,false,true,true,true,true,true,true,true,true,true,false,false,false,false,false,false,false],L.aa.q0.r17),(#[true,true,true,true,true,true,true,true,true,true,true,true,false,true,true,true,true,true,true,false,true,true,true,true,true,true,true,true,false,false,false,false,false,true,false,false],L.aa.q0.r18)]) (by kernel_rfl) (Ky.2 ⟨E.aa.Hd,Ky.2 ⟨E.aa.DC,Ky.2 ⟨E.aa.E0,fun _ h=>by cases h⟩⟩⟩)
theorem E.aa.Dx:regD Tryz.prog 76 L.aa.q0.ops [22,5,6,1,0,8,5,7,4,9,3,2,10] (some 29) 34 #[true,true,true,true,true,true,true,true,true,true,true,true,false,true,true,true,true,true,false,false,true,true,true,true,true,true,true,true,true,false,false,false,false,true,false,false]=some L.aa.q0.r20:=bu (subs:=[(#[true,true,true,true,true,true,true,true,true,true,true,true,true,true,true,true,true,true,false,false,true,true,true,true,true,true,true,true,true,false,false,false,false,true,false,false],L.aa.q0.r12),(#[true,true,true,true,true,true,true,true,true,true,true,true,false,true,true,true,true,true,true,false,true,true,true,true,true,true,true,true,true,false,false,false,false,true,false,false],L.aa.q0.r16)]) (by kernel_rfl) (Ky.2 ⟨E.aa.EO,Ky.2 ⟨E.aa.BA,fun _ h=>by cases h⟩⟩)
theorem E.aa.Hb:regD Tryz.prog 76 L.aa.q0.ops [22,5,6,1,0,8,5,7,4,9,3,2,10] (some 29) 35 #[true,true,true,true,true,true,true,true,true,true,true,true,false,true,true,true,true,true,false,false,true,true,true,true,true,true,true,true,true,false,false,false,false,false,false,false]=some L.aa.q0.r21:=bu (subs:=[(#[true,true,true,true,true,true,true,true,true,true,true,true,true,true,true,true,true,true,false,false,true,true,true,true,true,true,true,true,true,false,false,false,false,false,false,false],L.aa.q0.r13),(#[true,true,true,true,true,true,true,true,true,true,true,true,false,true,true,true,true,true,true,false,true,true,true,true,true,true,true,true,true,false,false,false,false,false,false,false],L.aa.q0.r17),(#[true,true,true,true,true,true,true,true,true,true,true,true,false,true,true,true,true,true,false,false,true,true,true,true,true,true,true,true,true,false,false,false,false,true,false,false],L.aa.q0.r20)]) (by kernel_rfl) (Ky.2 ⟨E.aa.Hf,Ky.2 ⟨E.aa.DC,Ky.2 ⟨E.aa.Dx,fun _ h=>by cases h⟩⟩⟩)
theorem E.aa.Hz:regD Tryz.prog 76 L.aa.q0.ops [22,5,6,1,0,8,5,7,4,9,3,2,10] (some 29) 35 #[true,true,true,true,true,true,true,true,true,true,true,true,false,true,true,true,true,true,false,false,true,true,true,true,true,true,true,true,false,false,false,false,false,true,false,false]=some L.aa.q0.r22:=bu (subs:=[(#[true,true,true,true,true,true,true,true,true,true,true,true,true,true,true,true,true,true,false,false,true,true,true,true,true,true,true,true,false,false,false,false,false,true,false,false],L.aa.q0.r14),(#[true,true,true,true,true,true,true,true,true,true,true,true,false,true,true,true,true,true,true,false,true,true,true,true,true,true,true,true,false,false,false,false,false,true,false,false],L.aa.q0.r18),(#[true,true,true,true,true,true,true,true,true,true,true,true,false,true,true,true,true,true,false,false,true,true,true,true,true,true,true,true,true,false,false,false,false,true,false,false],L.aa.q0.r20)]) (by kernel_rfl) (Ky.2 ⟨E.aa.G7,Ky.2 ⟨E.aa.E0,Ky.2 ⟨E.aa.Dx,fun _ h=>by cases h⟩⟩⟩)
theorem E.aa.JM:regD Tryz.prog 76 L.aa.q0.ops [22,5,6,1,0,8,5,7,4,9,3,2,10] (some 29) 36 #[true,true,true,true,true,true,true,true,true,true,true,true,false,true,true,true,true,true,false,false,true,true,true,true,true,true,true,true,false,false,false,false,false,false,false,false]=some L.aa.q0.r23:=bu (subs:=[(#[true,true,true,true,true,true,true,true,true,true,true,true,true,true,true,true,true,true,false,false,true,true,true,true,true,true,true,true,false,false,false,false,false,false,false,false],L.aa.q0.r15),(#[true,true,true,true,true,true,true,true,true,true,true,true,false,true,true,true,true,true,true,false,true,true,true,true,true,true,true,true,false,false,false,false,false,false,false,false],L.aa.q0.r19),(#[true,true,true,true,true,true,true,true,true,true,true,true,false,true,true,true,true,true,false,false,true,true,true,true,true,true,true,true,true,false,false,false,false,false,false,false],L.aa.q0.r21),(#[true,true,true,true,true,true,true,true,true,true,true,true,false,true,true,true,true,true,false,false,true,true,true,true,true,true,true,true,false,false,false,false,false,true,false,false],L.aa.q0.r22)]) (by kernel_rfl) (Ky.2 ⟨E.aa.JL,Ky.2 ⟨E.aa.Hj,Ky.2 ⟨E.aa.Hb,Ky.2 ⟨E.aa.Hz,fun _ h=>by cases h⟩⟩⟩⟩)
theorem E.aa.EV:regD Tryz.prog 76 L.aa.q0.ops [22,5,6,1,0,8,5,7,4,9,3,2,10] (some 29) 34 #[true,true,true,true,true,true,true,true,true,true,true,false,false,true,true,true,true,true,true,false,true,true,true,true,true,true,true,true,true,false,false,false,false,true,false,false]=some L.aa.q0.r24:=bu (subs:=[(#[true,true,true,true,true,true,true,true,true,true,true,true,false,true,true,true,true,true,true,false,true,true,true,true,true,true,true,true,true,false,false,false,false,true,false,false],L.aa.q0.r16)]) (by kernel_rfl) (Ky.2 ⟨E.aa.BA,fun _ h=>by cases h⟩)
theorem E.aa.HL:regD Tryz.prog 76 L.aa.q0.ops [22,5,6,1,0,8,5,7,4,9,3,2,10] (some 29) 35 #[true,true,true,true,true,true,true,true,true,true,true,false,false,true,true,true,true,true,true,false,true,true,true,true,true,true,true,true,true,false,false,false,false,false,false,false]=some L.aa.q0.r25:=bu (subs:=[(#[true,true,true,true,true,true,true,true,true,true,true,true,false,true,true,true,true,true,true,false,true,true,true,true,true,true,true,true,true,false,false,false,false,false,false,false],L.aa.q0.r17),(#[true,true,true,true,true,true,true,true,true,true,true,false,false,true,true,true,true,true,true,false,true,true,true,true,true,true,true,true,true,false,false,false,false,true,false,false],L.aa.q0.r24)]) (by kernel_rfl) (Ky.2 ⟨E.aa.DC,Ky.2 ⟨E.aa.EV,fun _ h=>by cases h⟩⟩)
theorem E.aa.Ht:regD Tryz.prog 76 L.aa.q0.ops [22,5,6,1,0,8,5,7,4,9,3,2,10] (some 29) 35 #[true,true,true,true,true,true,true,true,true,true,true,false,false,true,true,true,true,true,true,false,true,true,true,true,true,true,true,true,false,false,false,false,false,true,false,false]=some L.aa.q0.r26:=bu (subs:=[(#[true,true,true,true,true,true,true,true,true,true,true,true,false,true,true,true,true,true,true,false,true,true,true,true,true,true,true,true,false,false,false,false,false,true,false,false],L.aa.q0.r18),(#[true,true,true,true,true,true,true,true,true,true,true,false,false,true,true,true,true,true,true,false,true,true,true,true,true,true,true,true,true,false,false,false,false,true,false,false],L.aa.q0.r24)]) (by kernel_rfl) (Ky.2 ⟨E.aa.E0,Ky.2 ⟨E.aa.EV,fun _ h=>by cases h⟩⟩)
theorem E.aa.Jt:regD Tryz.prog 76 L.aa.q0.ops [22,5,6,1,0,8,5,7,4,9,3,2,10] (some 29) 36 #[true,true,true,true,true,true,true,true,true,true,true,false,false,true,true,true,true,true,true,false,true,true,true,true,true,true,true,true,false,false,false,false,false,false,false,false]=some L.aa.q0.r27:=bu (subs:=[(#[true,true,true,true,true,true,true,true,true,true,true,true,false,true,true,true,true,true,true,false,true,true,true,true,true,true,true,true,false,false,false,false,false,false,false,false],L.aa.q0.r19),(#[true,true,true,true,true,true,true,true,true,true,true,false,false,true,true,true,true,true,true,false,true,true,true,true,true,true,true,true,true,false,false,false,false,false,false,false],L.aa.q0.r25),(#[true,true,true,true,true,true,true,true,true,true,true,false,false,true,true,true,true,true,true,false,true,true,true,true,true,true,true,true,false,false,false,false,false,true,false,false],L.aa.q0.r26)]) (by kernel_rfl) (Ky.2 ⟨E.aa.Hj,Ky.2 ⟨E.aa.HL,Ky.2 ⟨E.aa.Ht,fun _ h=>by cases h⟩⟩⟩)
theorem E.aa.Hm:regD Tryz.prog 76 L.aa.q0.ops [22,5,6,1,0,8,5,7,4,9,3,2,10] (some 29) 35 #[true,true,true,true,true,true,true,true,true,true,true,false,false,true,true,true,true,true,false,false,true,true,true,true,true,true,true,true,true,false,false,false,false,true,false,false]=some L.aa.q0.r28:=bu (subs:=[(#[true,true,true,true,true,true,true,true,true,true,true,true,false,true,true,true,true,true,false,false,true,true,true,true,true,true,true,true,true,false,false,false,false,true,false,false],L.aa.q0.r20),(#[true,true,true,true,true,true,true,true,true,true,true,false,false,true,true,true,true,true,true,false,true,true,true,true,true,true,true,true,true,false,false,false,false,true,false,false],L.aa.q0.r24)]) (by kernel_rfl) (Ky.2 ⟨E.aa.Dx,Ky.2 ⟨E.aa.EV,fun _ h=>by cases h⟩⟩)
theorem E.aa.Jo:regD Tryz.prog 76 L.aa.q0.ops [22,5,6,1,0,8,5,7,4,9,3,2,10] (some 29) 36 #[true,true,true,true,true,true,true,true,true,true,true,false,false,true,true,true,true,true,false,false,true,true,true,true,true,true,true,true,true,false,false,false,false,false,false,false]=some L.aa.q0.r29:=bu (subs:=[(#[true,true,true,true,true,true,true,true,true,true,true,true,false,true,true,true,true,true,false,false,true,true,true,true,true,true,true,true,true,false,false,false,false,false,false,false],L.aa.q0.r21),(#[true,true,true,true,true,true,true,true,true,true,true,false,false,true,true,true,true,true,true,false,true,true,true,true,true,true,true,true,true,false,false,false,false,false,false,false],L.aa.q0.r25),(#[true,true,true,true,true,true,true,true,true,true,true,false,false,true,true,true,true,true,false,false,true,true,true,true,true,true,true,true,true,false,false,false,false,true,false,false],L.aa.q0.r28)]) (by kernel_rfl) (Ky.2 ⟨E.aa.Hb,Ky.2 ⟨E.aa.HL,Ky.2 ⟨E.aa.Hm,fun _ h=>by cases h⟩⟩⟩)
theorem E.aa.JG:regD Tryz.prog 76 L.aa.q0.ops [22,5,6,1,0,8,5,7,4,9,3,2,10] (some 29) 36 #[true,true,true,true,true,true,true,true,true,true,true,false,false,true,true,true,true,true,false,false,true,true,true,true,true,true,true,true,false,false,false,false,false,true,false,false]=some L.aa.q0.r30:=bu (subs:=[(#[true,true,true,true,true,true,true,true,true,true,true,true,false,true,true,true,true,true,false,false,true,true,true,true,true,true,true,true,false,false,false,false,false,true,false,false],L.aa.q0.r22),(#[true,true,true,true,true,true,true,true,true,true,true,false,false,true,true,true,true,true,true,false,true,true,true,true,true,true,true,true,false,false,false,false,false,true,false,false],L.aa.q0.r26),(#[true,true,true,true,true,true,true,true,true,true,true,false,false,true,true,true,true,true,false,false,true,true,true,true,true,true,true,true,true,false,false,false,false,true,false,false],L.aa.q0.r28)]) (by kernel_rfl) (Ky.2 ⟨E.aa.Hz,Ky.2 ⟨E.aa.Ht,Ky.2 ⟨E.aa.Hm,fun _ h=>by cases h⟩⟩⟩)
theorem E.aa.Ju:regD Tryz.prog 76 L.aa.q0.ops [22,5,6,1,0,8,5,7,4,9,3,2,10] (some 29) 37 (Array.replicate 36 false)=some L.aa.q0.r31:=bu (subs:=[(#[true,true,true,true,true,true,true,true,true,true,true,true,false,true,true,true,true,true,false,false,true,true,true,true,true,true,true,true,false,false,false,false,false,false,false,false],L.aa.q0.r23),(#[true,true,true,true,true,true,true,true,true,true,true,false,false,true,true,true,true,true,true,false,true,true,true,true,true,true,true,true,false,false,false,false,false,false,false,false],L.aa.q0.r27),(#[true,true,true,true,true,true,true,true,true,true,true,false,false,true,true,true,true,true,false,false,true,true,true,true,true,true,true,true,true,false,false,false,false,false,false,false],L.aa.q0.r29),(#[true,true,true,true,true,true,true,true,true,true,true,false,false,true,true,true,true,true,false,false,true,true,true,true,true,true,true,true,false,false,false,false,false,true,false,false],L.aa.q0.r30)]) (by kernel_rfl) (Ky.2 ⟨E.aa.JM,Ky.2 ⟨E.aa.Jt,Ky.2 ⟨E.aa.Jo,Ky.2 ⟨E.aa.JG,fun _ h=>by cases h⟩⟩⟩⟩)
def L.aa:LFn:=
⟨[(.un (.au 8) (.tmp 5)),(.tmp 6)],
 (.seq
 (.reg false (.loud [] [] [] none [] false (.alloc 101) 0 (some 5) true
  (.fin [6] [(6,(.con (.bool false)))] [])))
 (.seq
 (.reg true (.both
  (.loud [13,14,15,16,17] [] [(13,(.un (.au 13) (.tmp 0))),(17,(.un .load (.bin (.idx 1) (.un .load (.un (.fld 3) (.tmp 1))) (.con (.int .i64 0)))))] none [] true (.call ⟨.value (.func 100),#[(.tmp 13),(.tmp 17),(.const (.int .i64 2))],#[97,3,3]⟩) 163 (some 18) true
   (.loud [12,19,20] [(19,(.un (.ext 0) (.tmp 18))),(20,(.un (.ext 1) (.tmp 18)))] [] none [] false (.alloc 70) 0 (some 7) true
    (.loud [] [] [(7,(.tmp 7)),(19,(.tmp 19))] none [] false (.store 70 (.tmp 7) (.tmp 19)) 0 none false
     (.fin [8] [(8,(.tmp 20))] []))))
  (.loud [13,14,15,16,17] [(13,(.un (.au 13) (.tmp 0))),(17,(.un .load (.bin (.idx 1) (.un .load (.un (.fld 3) (.tmp 1))) (.con (.int .i64 0)))))] [] none [] false (.alloc 70) 0 (some 7) true
   (.loud [] [] [(13,(.tmp 13)),(17,(.tmp 17))] none [] true (.call ⟨.value (.func 100),#[(.tmp 13),(.tmp 17),(.const (.int .i64 2))],#[97,3,3]⟩) 163 (some 18) true
    (.loud [12,19,20] [(20,(.un (.ext 1) (.tmp 18)))] [(7,(.tmp 7)),(19,(.un (.ext 0) (.tmp 18)))] none [] false (.store 70 (.tmp 7) (.tmp 19)) 0 none false
     (.fin [8] [(8,(.tmp 20))] []))))))
 (.seq
 (.seq
 (.reg false (.fin [21,22] [(22,(.un .not (.tmp 8)))] []))
 (.cond (.tmp 22) [22]
  (.seq
  (.reg false (.loud [] [] [] none [] false (.build 101 #[]) 101 (some 23) true
   (.loud [] [] [(5,(.tmp 5)),(23,(.tmp 23))] none [] false (.store 101 (.tmp 5) (.tmp 23)) 0 none false
    (.fin [6] [(6,(.con (.bool false)))] []))))
  .ret)
  .skip))
 (.seq
 (.reg true (.loud [25,26,27,28,29] [] [(25,(.un (.au 13) (.tmp 0))),(29,(.un .load (.bin (.idx 1) (.un .load (.un (.fld 3) (.tmp 7))) (.con (.int .i64 1)))))] none [] true (.call ⟨.value (.func 109),#[(.tmp 25),(.tmp 29),(.const (.int .i64 (-2147483648))),(.const (.int .i64 2147483647))],#[97,3,3,3]⟩) 167 (some 30) true
  (.fin [24,31,32,9,8] [(9,(.un (.ext 0) (.tmp 30))),(8,(.un (.ext 1) (.tmp 30)))] [])))
 (.seq
 (.reg true L.aa.q0.r31)
 (.seq
 (.reg true (.loud [66,67,68,69,70,71,72,73] [(66,(.un (.au 8) (.tmp 10))),(68,(.tmp 8))] [(73,(.gd (.tmp 8) true (.bin (.arith .add) (.tmp 9) (.un (.conv .i64) (.un .load (.un (.fld 4) (.tmp 1)))))))] (some ((.tmp 8),true)) [] false (.call ⟨.value (.func 42),#[(.tmp 73),(.const (.int .i64 0)),(.const (.int .i64 255))],#[3,3,3]⟩) 4 (some 74) true
  (.loud [75] [(75,(.ite (.tmp 68) (.tmp 74) (.con (.bool false))))] [(5,(.tmp 5)),(66,(.tmp 66))] none [] true (.store 101 (.tmp 5) (.tmp 66)) 0 none false
   (.fin [6] [(6,(.tmp 75))] []))))
 .ret))))))⟩
theorem E.aa:aN Tryz.prog Tryz.f133=some L.aa:=Gb (lv:=[22,5,6,1,0,8,5,7,4,9,3,2,10]) (lr:=[5,6,1,0,8,5,7,4,9,3,2,10]) (n:=76) (by kernel_rfl) (by kernel_rfl) (by kernel_rfl) (by kernel_rfl) (by kernel_rfl)
 (jU (by kernel_rfl) (by kernel_rfl)
 (jU (by kernel_rfl) (by kernel_rfl)
 (jU (by kernel_rfl) (by kernel_rfl)
 (jU (by kernel_rfl) (by kernel_rfl)
 (jU (by kernel_rfl) (yx (l0:=(some 29)) (n:=36) (by kernel_rfl) (by kernel_rfl) (by kernel_rfl) E.aa.Ju)
 (jU (by kernel_rfl) (by kernel_rfl)
 (by kernel_rfl)))))))
end
theorem wrap32_in{a:Int}(h0:-2147483648<=a)(h1:a<=2147483647):IntKind.i32.wrap a=a:=by unfold IntKind.wrap;simp[IntKind.signed,IntKind.bits];omega
section
variable {V:View} {h:Heap} {S I O P Q LL TT:Nat} {s:bN} {op plain sum:Int}
set_option maxHeartbeats 4000000 in
theorem Gj(mx:Mx V S I O P Q LL TT s op plain sum)(hV:V.le (vw h))(hok:lk s)(hop:s.i.op=op)(ho:op=15\/op=16)(hp0:0<=plain/\plain<=100):
    aw Tryz.prog N.eA #[ptr S,ptr I,ptr LL,ptr P,ptr TT] h (fun u h'=>bJ V h h' u (memS s.f s.i s.temp op plain sum 1)):=by
  refine ao (args:=[ptr S,ptr I,ptr LL,ptr P,ptr TT]) follows F.eA E.aa (Kw (by kernel_rfl)) fun K hK=>?_
  dsimp only[L.aa]
  have c0:=Cx.start hV
  have l1:1<=s.i.args.length:=by
    rcases ho with q | q
    · exact hok.one.one (hop.trans q)
    · have:=hok.one.two (.inr (.inl (hop.trans q)));omega
  have l2:op=15\/2<=s.i.args.length:=ho.imp id fun q=>hok.one.two (.inr (.inl (hop.trans q)))
  refine ab fun z hz=>?_
  simp
  refine c0.cO (k:=(0,0)) (n:=7) (z:=.agg fitZ.toArray) rfl (by kernel_rfl) rfl (by decide) (by simp[Value.cells,Value.oneCell']) fun R hb hleb cb=>?_
  subst hz
  have i4:=(mx.ct.ins.part InsD.gP)
  have r4:=i4.oy
  have i4:aj V ⟨I,4,none⟩=some (.int .i32 s.i.imm.v):=by simpa using i4.i32
  obtain⟨va,i3,hva⟩:=(mx.ct.ins.part InsD.fj).sl
  have i3:aj V ⟨I,3,none⟩=some va:=by simpa using i3
  have a0:=hva.rng (i:=0) (by omega)
  have most:=hok.one.most
  have q0:=hva.idx1 (k:=.i64) (i:=0) rfl (by decide) (by omega)
  have d0:=hva.int (View.le_refl V) (i:=0) (by omega)
  simp at q0
  obtain⟨us,hus,rus⟩:=mx.ct.site.ldN rfl (N:=13) rfl
  have hus:=hus V (View.le_refl _)
  have hfm:=jS (f:=s.f) (v:=nth s.i.args 0) (op:=2)
  have hdo:memS s.f s.i s.temp op plain sum 1=if(aK s.f (nth s.i.args 0) 2).2 then
      if(fu s.f (nth (aK s.f (nth s.i.args 0) 2).1.args 1) (-2147483648) 2147483647).2&&inR ((fu s.f (nth (aK s.f (nth s.i.args 0) 2).1.args 1) (-2147483648) 2147483647).1+s.i.imm.v) 0 255 then
        some ⟨nth (aK s.f (nth s.i.args 0) 2).1.args 0::s.i.args.drop 1,[nth s.i.args 0,nth (aK s.f (nth s.i.args 0) 2).1.args 1],
          [iW s.i op plain ⟨plain,0,0,nth (aK s.f (nth s.i.args 0) 2).1.args 0,0,0,w32 ((fu s.f (nth (aK s.f (nth s.i.args 0) 2).1.args 1) (-2147483648) 2147483647).1+s.i.imm.v),[]⟩],eg⟩
      else none
    else none:=rfl
  have hF:=@mN s us (nth s.i.args 0) 2
  generalize (aK s.f (nth s.i.args 0) 2).1=m at *
  generalize (aK s.f (nth s.i.args 0) 2).2=b at *
  refine ab fun z hz=>?_
  have rest : ∀(W:View) (hx:Heap) (B2:Nat) (ρ:Env),V.le W->Cx V h W hx (Own.upd (fun _=>none) (0,0) (bx T.aO R (RawN.mk (n:=7) fitZ)))->At W ⟨B2,0,none⟩ m->
      Lft.look ρ 0=some (ptr S)->Lft.look ρ 1=some (ptr I)->Lft.look ρ 2=some (ptr LL)->Lft.look ρ 3=some (ptr P)->Lft.look ρ 4=some (ptr TT)->Lft.look ρ 5=some (ptr R)->Lft.look ρ 7=some (ptr B2)->Lft.look ρ 8=some (.bool b)->
      LC.wp Tryz.prog z (dH [.un (.au 8) (.tmp 5),.tmp 6] K) ρ hx:=by
    intro W hx B2 ρ hVW c hat g0 g1 g2 g3 g4 g5 g7 g8
    rw[hz]
    refine ab fun x hx'=>?_
    have none_ : ∀(hy:Heap) (o:Own) (l9:List Value),Cx V h W hy o->Rd W (.agg l9.toArray) Fl->b=false->K (.tuple #[.agg l9.toArray,.bool false]) hy:=fun hy o l9 c hr e=>
      hK _ _ (bJ.of c hr (by rw[hdo,e];rfl) fun y e2=>by rw[hdo,e]at e2;cases e2)
    cases b with
    | false=>
      simp[g0,g1,g2,g3,g4,g5,g7,ag,ah,g8]
      refine aq (t:=T.aO) (z:=.agg fitZ.toArray) (places:=[(0,1),(1,1),(2,1),(3,5)]) (vs:=[]) (cs:=fitZ.toArray) (by kernel_rfl) (by kernel_rfl) (by simp) (by rfl) ?_
      refine c.bh (k:=(0,0)) (n:=7) (l:=fitZ) (by rfl) fR rfl rfl (by kernel_rfl) (by simp) (by simp) fun h9 l9 hl9 c9=>?_
      have hall:=c9.all (k:=(0,0)) (n:=7) (l:=l9) (B:=R) (e:=T.aO) (by rfl)
      simp at hall
      simp[hall]
      exact none_ _ _ _ c9 (hl9▸fR) rfl
    | true=>
      obtain⟨m1,m2,-⟩:=hfm rfl
      have hma:=(hok.all _ m1).two (by omega)
      obtain⟨vb,j3,hvb⟩:=(hat.part InsD.fj).sl
      have j3:aj W ⟨B2,3,none⟩=some vb:=by simpa using j3
      have b0:=hvb.rng (i:=0) (by omega)
      have b1:=hvb.rng (i:=1) (by omega)
      have q2:=hvb.idx1 (k:=.i64) (i:=0) rfl (by decide) (by omega)
      have q3:=hvb.idx1 (k:=.i64) (i:=1) rfl (by decide) (by omega)
      have d2:=hvb.int (View.le_refl W) (i:=0) (by omega)
      have d3:=hvb.int (View.le_refl W) (i:=1) (by omega)
      simp at q2 q3
      have i4:=ae hVW i4
      have i3:=ae hVW i3
      have d0:=ae hVW d0
      have hus:=dY (ρ:=fun _=>none) (e:=.un (.au 13) (.con (.pointer (some ⟨S,0,none⟩)))) hVW (v:=us) (by simpa using hus)
      have hus:Un.ev W (.au 13) (.pointer (some ⟨S,0,none⟩))=some us:=by simpa using hus
      have rus:=rus.mono hVW
      have eL:=ae hVW mx.laid
      have eT:=ae hVW mx.with_
      have eP:=ae hVW mx.plain
      have mx:=mx.mono hVW
      simp[g0,g1,g2,g3,g4,g5,g7,ag,ah,g8]
      rw[hx'];clear hx' x
      refine ab fun x hx'=>?_
      refine aS W c.wle ?_
      simp[g0,g1,g2,g3,g4,g5,g7,ag,ah,hus,j3,q3,d3]
      refine af (by kernel_rfl) (sG c.wle rus hok.sm b1) ?_
      rintro _ hc ⟨hle,rfl⟩
      have rk:-2147483648<=(fu s.f (nth m.args 1) (-2147483648) 2147483647).1/\(fu s.f (nth m.args 1) (-2147483648) 2147483647).1<=2147483647:=vE hok.rng
      generalize (fu s.f (nth m.args 1) (-2147483648) 2147483647).1=k at *
      generalize (fu s.f (nth m.args 1) (-2147483648) 2147483647).2=ok at *
      have cc:Cx V h W hc _:=⟨c.own.ext' hle,c.old,View.le_trans c.le0 hle,c.new⟩
      simp[g0,g1,g2,g3,g4,g5,g7,ag,ah]
      rw[hx'];clear hx' x
      have ei:IntKind.i32.wrap k=k:=wrap32_in rk.1 rk.2
      have e2:IntKind.i64.wrap s.i.imm.v=s.i.imm.v:=bE (by omega) (by omega)
      have e3:IntKind.i64.wrap (k+s.i.imm.v)=k+s.i.imm.v:=bE (by omega) (by omega)
      have hm : ∀X,Rd X (.agg #[.int .i64 plain,.int .i64 0,.int .i64 0,.int .i64 (nth m.args 0),.int .i64 0,.int .i64 0,.int .i32 (IntKind.i32.wrap (k+s.i.imm.v)),.slice none 0 0]) (⟨plain,0,0,nth m.args 0,0,0,w32 (k+s.i.imm.v),[]⟩:aW):=fun X=>iF (imm:=w32 (k+s.i.imm.v)) (by simp;omega) (Bt _) aI
      have fin : ∀(W:View) (hx:Heap) (o:Own) (l9:List Value),Cx V h W hx o->Rd W (.agg l9.toArray) (⟨nth m.args 0::s.i.args.drop 1,[nth s.i.args 0,nth m.args 1],[iW s.i op plain ⟨plain,0,0,nth m.args 0,0,0,w32 (k+s.i.imm.v),[]⟩],eg⟩:FitD)->K (.tuple #[.agg l9.toArray,.bool (ok&&inR (k+s.i.imm.v) 0 255)]) hx:=fun W hx o l9 c hr=>
        hK _ _ (bJ.of c hr (by rw[hdo];cases ok&&inR (k+s.i.imm.v) 0 255<;>rfl) fun y e=>by
          rw[hdo,if_pos rfl]at e
          split at e
          · cases e;rfl
          · cases e)
      clear none_ hK hdo hF hfm hus
      refine ab fun x hx'=>?_
      have tl : ∀(h2:Heap) (W2:View) (o:Own) (R2:Nat) (l9:List Value) (ρ2:Env),W.le W2->Cx V h W2 h2 o->o (0,0)=bx T.aO R (RawN.mk (n:=7) fitZ)->o (0,1)=bx T.aO R2 (RawN.mk (n:=7) l9)->Rd W2 (.agg l9.toArray) (⟨nth m.args 0::s.i.args.drop 1,[nth s.i.args 0,nth m.args 1],[iW s.i op plain ⟨plain,0,0,nth m.args 0,0,0,w32 (k+s.i.imm.v),[]⟩],eg⟩:FitD)->
          Lft.look ρ2 1=some (ptr I)->Lft.look ρ2 5=some (ptr R)->Lft.look ρ2 8=some (.bool ok)->Lft.look ρ2 9=some (.int .i64 k)->Lft.look ρ2 10=some (ptr R2)->LC.wp Tryz.prog x (dH [.un (.au 8) (.tmp 5),.tmp 6] K) ρ2 h2:=by
        intro h2 W2 o R2 l9 ρ2 hW2 c ho1 ho2 hr f1 f5 f8 f9 f10
        rw[hx']
        refine ab fun v hv=>?_
        have hall:=c.all (k:=(0,1)) (n:=7) (l:=l9) (B:=R2) (e:=T.aO) ho2
        simp at hall
        refine aS (vw h2) (View.le_refl _) ?_
        have last : ∀(b:Bool) (ρ3:Env),Lft.look ρ3 5=some (ptr R)->Lft.look ρ3 6=some (.bool (ok&&inR (k+s.i.imm.v) 0 255))->∀h3 l3,Cx V h W2 h3 (o.upd (0,0) (bx T.aO R (RawN.mk (n:=7) l3)))->Value.agg l9.toArray=Value.agg l3.toArray->LC.wp Tryz.prog v (dH [.un (.au 8) (.tmp 5),.tmp 6] K) ρ3 h3:=fun b ρ3 k5 k6 h3 l3 c3 el=>by
          rw[hv]
          have hall:=c3.all (k:=(0,0)) (n:=7) (l:=l3) (B:=R) (e:=T.aO) Own.an
          simp at hall
          simp[k5,k6,hall]
          exact fin _ _ _ _ c3 (el▸hr)
        refine bo fun y hy=>?_
        cases ok with
        | false=>
          simp[f1,f5,f8,f9,f10,ag,ah,hall,ae (View.le_trans hW2 c.wle) i4,e2,e3]
          subst hy
          refine bo fun y hy=>?_
          simp[f1,f5,f8,f9,f10,ag,ah]
          refine c.bh (k:=(0,0)) (n:=7) (l:=fitZ) ho1 hr rfl rfl (by kernel_rfl) (by simp) (by simp) fun h4 l4 hl4 c4=>?_
          subst hy
          simp[f1,f5,f8,f9,f10,ag,ah]
          exact last false _ (by simp[f1,f5,f8,f9,f10,ag,ah]) (by simp[f1,f5,f8,f9,f10,ag,ah]) _ _ c4 hl4
        | true=>
          simp[f1,f5,f8,f9,f10,ag,ah,hall,ae (View.le_trans hW2 c.wle) i4,e2,e3]
          refine af (by kernel_rfl) je ?_
          rintro _ h3 ⟨rfl,rfl⟩
          refine⟨View.le_refl _,?_⟩
          subst hy
          refine bo fun y hy=>?_
          simp[f1,f5,f8,f9,f10,ag,ah]
          refine c.bh (k:=(0,0)) (n:=7) (l:=fitZ) ho1 hr rfl rfl (by kernel_rfl) (by simp) (by simp) fun h4 l4 hl4 c4=>?_
          subst hy
          simp[f1,f5,f8,f9,f10,ag,ah]
          exact last false _ (by simp[f1,f5,f8,f9,f10,ag,ah]) (by simp[f1,f5,f8,f9,f10,ag,ah]) _ _ c4 hl4
      clear fin
      have c:=cc
      refine aS W c.wle ?_
      have hWV:W.le W:=View.le_refl _
      repeat' (first
        | refine iq ?_ ?_
        | (refine bo fun y hy=>?_
           simp[g0,g1,g2,g3,g4,g5,g7,ag,ah,i3,i4,j3,q0,q2,q3,d0,d2,d3,eL,eT,eP,ei]
           first
           | refine aq (t:=T.eO) (z:=.agg sV.toArray) (places:=[(0,1),(1,1),(2,1),(3,1),(4,1),(5,1),(6,1),(7,1)]) (vs:=[(0,.int .i64 plain),(3,.int .i64 (nth m.args 0)),(6,.int .i32 (IntKind.i32.wrap (k+s.i.imm.v)))]) (cs:=#[.int .i64 plain,.int .i64 0,.int .i64 0,.int .i64 (nth m.args 0),.int .i64 0,.int .i64 0,.int .i32 (IntKind.i32.wrap (k+s.i.imm.v)),.slice none 0 0]) (by kernel_rfl) (by kernel_rfl) (by simp) (by rfl) ?_
           | (refine c.tt (k:=(0,2)) (n:=1) (l:=[nth m.args 0]) (by rfl) El.aP ?_ ?_ rfl (by decide) fun uA h hle c=>?_
              · simp;done
              · simp;omega)
           | (refine c.kG (α:=Int) (n:=2) (vs:=[.int .i64 (nth s.i.args 0),.int .i64 (nth m.args 1)]) (ds:=[nth s.i.args 0,nth m.args 1]) El.aP ?_ ⟨bC.2 ⟨rfl,a0⟩,bC.2 ⟨rfl,b1⟩,trivial⟩ rfl (by decide) (by decide) fun uB h W hW c huB hle=>?_
              · simp;done)
           | (refine bI (ops:=[.tmp 45]) (caps:=#[ptr O,ptr I,ptr P]) rfl (by kernel_rfl) (tz mx (by repeat (first | exact View.le_refl _ | assumption | refine View.le_trans ?_ (by assumption))) c.wle (hm _) l2) ?_
              rintro um h ⟨hle,hum⟩
              have hW:=c.up (h':=h)
              have c:=c.ext hle)
           | (refine bI (ops:=[.tmp 52]) (caps:=#[ptr I]) rfl (by kernel_rfl) (tp mx (by repeat (first | exact View.le_refl _ | assumption | refine View.le_trans ?_ (by assumption))) c.wle (c.own.get (k:=(0,2)) (v:=uA) (l:=[nth m.args 0]) (by rfl)) (by simp) l1 (by omega)) ?_
              rintro uw h ⟨own2,mv⟩
              have c:=c.jo (k:=(0,2)) (v:=uA) (l:=[nth m.args 0]) (by rfl) own2 mv
              obtain⟨W,hW,c,huA⟩:=c.freeze (k:=(0,2)) (v:=uw) (l:=[nth m.args 0]++s.i.args.drop 1) (by rfl))
           | refine c.cO (k:=(0,1)) (n:=7) (z:=.agg fitZ.toArray) (by rfl) (by kernel_rfl) rfl (by decide) (by simp[Value.cells,Value.oneCell']) fun R2 h hle c=>?_
           | (refine af (by kernel_rfl) (jZ c.wle (hum.mono (by repeat (first | exact View.le_refl _ | assumption | refine View.le_trans ?_ (by assumption)))) (huA.mono (by repeat (first | exact View.le_refl _ | assumption | refine View.le_trans ?_ (by assumption)))) (huB.mono (by repeat (first | exact View.le_refl _ | assumption | refine View.le_trans ?_ (by assumption))))) ?_
              rintro _ h ⟨hle,vf,rfl,hvf⟩
              have hW:=c.up (h':=h)
              have c:=c.ext hle)
           | refine c.bh (k:=(0,1)) (n:=7) (l:=fitZ) (by rfl) (hvf.mono (by repeat (first | exact View.le_refl _ | assumption | refine View.le_trans ?_ (by assumption)))) rfl rfl (by kernel_rfl) (by simp) (by simp) fun h l9 hl9 c=>?_
           try refine⟨View.le_trans (by repeat (first | exact View.le_refl _ | assumption | refine View.le_trans ?_ (by assumption))) c.wle,?_⟩
           subst hy))
      all_goals
        simp[g0,g1,g2,g3,g4,g5,g7,ag,ah,L.aa.q0.r0]
        exact tl _ _ _ _ _ _ (by repeat (first | exact View.le_refl _ | assumption | refine View.le_trans ?_ (by assumption))) c (by rfl) (by rfl) (hl9▸hvf.mono (by repeat (first | exact View.le_refl _ | assumption | refine View.le_trans ?_ (by assumption)))) (by simp[g0,g1,g2,g3,g4,g5,g7,ag,ah]) (by simp[g0,g1,g2,g3,g4,g5,g7,ag,ah]) (by simp[g0,g1,g2,g3,g4,g5,g7,ag,ah]) (by simp[g0,g1,g2,g3,g4,g5,g7,ag,ah]) (by simp[g0,g1,g2,g3,g4,g5,g7,ag,ah])
  refine aS V cb.wle ?_
  have c:=cb
  refine iq ?_ ?_
  · refine bo fun y hy=>?_
    simp[hus,i3,q0,d0]
    refine af (by kernel_rfl) (hF c.wle rus hok.sm a0) ?_
    rintro _ h1 ⟨hle1,vm,rfl,hvm⟩
    have hW1:=c.up (h':=h1)
    have c:=c.ext hle1
    subst hy
    refine bo fun y hy=>?_
    simp
    refine c.dS (k:=(0,4)) (z:=.agg insZ.toArray) (d:=gW) (by rfl) (by kernel_rfl) lj (by decide) fun B2 h2 hle2 c=>?_
    subst hy
    refine bo fun y hy=>?_
    simp
    refine c.gZ Part.all (k:=(0,4)) (D:=gW) (d:=m) (by rfl) (by kernel_rfl) (by simp) (by simp) hvm fun h3 c=>?_
    subst hy
    simp
    obtain⟨W4,hW4,c,hat⟩:=c.ti (k:=(0,4)) (B:=B2) (d:=m) (by rfl)
    rw[Own.fD,Own.qq (by rfl)]at c
    exact rest _ _ _ _ (View.le_trans hW1 hW4) c hat rfl rfl rfl rfl rfl rfl rfl rfl
  · refine bo fun y hy=>?_
    simp[hus,i3,q0,d0]
    refine c.dS (k:=(0,4)) (z:=.agg insZ.toArray) (d:=gW) (by rfl) (by kernel_rfl) lj (by decide) fun B2 h2 hle2 c=>?_
    refine⟨c.wle,?_⟩
    subst hy
    refine bo fun y hy=>?_
    simp
    refine af (by kernel_rfl) (hF c.wle rus hok.sm a0) ?_
    rintro _ h1 ⟨hle1,vm,rfl,hvm⟩
    have hW1:=c.up (h':=h1)
    have c:=c.ext hle1
    subst hy
    refine bo fun y hy=>?_
    simp
    refine c.gZ Part.all (k:=(0,4)) (D:=gW) (d:=m) (by rfl) (by kernel_rfl) (by simp) (by simp) hvm fun h3 c=>?_
    subst hy
    simp
    obtain⟨W4,hW4,c,hat⟩:=c.ti (k:=(0,4)) (B:=B2) (d:=m) (by rfl)
    rw[Own.fD,Own.qq (by rfl)]at c
    exact rest _ _ _ _ (View.le_trans hW1 hW4) c hat rfl rfl rfl rfl rfl rfl rfl rfl
end
theorem HZ:lI:=fun V h s S I O P Q L T op plain sum mx hV hok hop ho hne hp hs ht=>⟨G2 mx hV hok hop ho hp,Gj mx hV hok hop ho hp,F8 mx hV hok hop ho hs,GY mx hV hok hop ho hs ht⟩
end Go.Proofs.YtnfiilgdjpdlkaaGreatDoor
namespace Go.Lft
open Go
theorem CG {pp:PP} {P:Program} {Q:Post} {ρ:Env} {h:Heap} {x:LC} {σ:Type} (kp:List Nat) (vals:σ->Nat->List Value) (J:σ->Nat->Heap->Prop) (n:Nat) (s0:σ)
  (h0:bF kp ρ=kp.zip (vals s0 0)) (hj:J s0 0 h)
  (round : ∀s k h,k<=n->J s k h->∀K:Env->Heap->Prop,(∀s' ρ' h',k<n->bF kp ρ'=kp.zip (vals s' (k+1))->J s' (k+1) h'->K ρ' h')->x.wp P (eU K Q) (kp.zip (vals s k)) h):LC.wp P (.loop x) Q ρ h:=by refine iV kp (fun m ρ h=>∃s k,k<=n/\ρ=kp.zip (vals s k)/\m=n-k/\J s k h) n ⟨s0,0,by omega,h0,by omega,hj⟩ ?_;rintro m ρ h ⟨s,k,hk,rfl,rfl,hJ⟩ K hK;exact round s k h hk hJ K fun s' ρ' h' hlt he hJ'=>hK (n-(k+1)) _ _ (by omega) ⟨s',k+1,by omega,he,rfl,hJ'⟩
end Go.Lft
namespace Go.Proofs.YtnfiilgdjpdlkaaGreatDoor
open Go Go.Lft
section
variable {f:ak} {i:InsD} {b p pat t t':Int}
theorem DV : ∀q:Nat,q<=32->q≠26->q≠30->doS f i t q=doS f i t' q
 | 0,_,_,_=>rfl
 | 1,_,_,_=>rfl
 | 2,_,_,_=>rfl
 | 3,_,_,_=>rfl
 | 4,_,_,_=>rfl
 | 5,_,_,_=>rfl
 | 6,_,_,_=>rfl
 | 7,_,_,_=>rfl
 | 8,_,_,_=>rfl
 | 9,_,_,_=>rfl
 | 10,_,_,_=>rfl
 | 11,_,_,_=>rfl
 | 12,_,_,_=>rfl
 | 13,_,_,_=>rfl
 | 14,_,_,_=>rfl
 | 15,_,_,_=>rfl
 | 16,_,_,_=>rfl
 | 17,_,_,_=>rfl
 | 18,_,_,_=>rfl
 | 19,_,_,_=>rfl
 | 20,_,_,_=>rfl
 | 21,_,_,_=>rfl
 | 22,_,_,_=>rfl
 | 23,_,_,_=>rfl
 | 24,_,_,_=>rfl
 | 25,_,_,_=>rfl
 | 26,_,h,_=>absurd rfl h
 | 27,_,_,_=>rfl
 | 28,_,_,_=>rfl
 | 29,_,_,_=>rfl
 | 30,_,_,h=>absurd rfl h
 | 31,_,_,_=>rfl
 | 32,_,_,_=>rfl
 | q+33,h,_,_=>absurd h (by omega)
theorem CU (h1:pat≠26) (h2:pat≠30):patS f i t pat=patS f i t' pat:=by
 unfold patS;split
 ·rename_i c;exact DV _ (by omega) (by omega) (by omega)
 rfl
theorem uo (h1:pat≠26) (h2:pat≠30):ff f b p pat t=ff f b p pat t':=by
 unfold ff tryS eZ;split
 ·split
  ·rfl
  exact CU h1 h2
 rfl
theorem Cb:patS f i t 26=if i.op=15 then some ⟨nth i.args 0::i.args.drop 1,[],[⟨4,t,0,0,0,0,i.imm,[]⟩,iW i 15 24 ⟨25,0,0,nth i.args 0,t,0,⟨0⟩,[]⟩],eg⟩ else none:=by
 unfold patS;by_cases h:i.op=15
 ·rw[if_pos ⟨by decide,by decide,h⟩,if_pos h];rfl
 rw[if_neg (fun c=>h c.2.2),if_neg h]
theorem BE:patS f i t 30=if i.op=16 then some ⟨nth i.args 0::i.args.drop 1,[],[⟨4,t,0,0,0,0,i.imm,[]⟩,iW i 16 26 ⟨27,0,0,nth i.args 0,t,0,⟨0⟩,[]⟩],eg⟩ else none:=by
 unfold patS;by_cases h:i.op=16
 ·rw[if_pos ⟨by decide,by decide,h⟩,if_pos h];rfl
 rw[if_neg (fun c=>h c.2.2),if_neg h]
theorem xc {x:dm} (hp:pat=26\/pat=30):gN f x pat=none:=by unfold gN;rw[if_neg (by omega),if_neg (by omega),if_neg (by omega),if_neg (by omega),if_neg (by omega),if_neg (by omega)]
theorem vR (hp:pat=26\/pat=30):(ff f b p pat t=none/\ff f b p pat t'=none)\/(p<(nth f.blocks b.toNat).ins.length/\0<=p/\0<=b/\b<f.blocks.length/\∃x y c2 c2',ff f b p pat t=some x/\ff f b p pat t'=some y/\x.fin=y.fin/\
  x.code=[⟨4,t,0,0,0,0,(nth (nth f.blocks b.toNat).ins p.toNat).imm,[]⟩,c2]/\y.code=[⟨4,t',0,0,0,0,(nth (nth f.blocks b.toNat).ins p.toNat).imm,[]⟩,c2']/\c2.b=t/\c2'.b=t'):=by
 unfold ff;by_cases c:(dz f b p&&mh f)=true
 ·rw[if_pos c,if_pos c];have c1:dz f b p=true:=by simp at c;exact c.1
  simp[dz]at c1;unfold tryS eZ;by_cases e:p=(nth f.blocks b.toNat).ins.length
  ·rw[if_pos e,if_pos e];exact .inl ⟨xc hp,xc hp⟩
  rw[if_neg e,if_neg e];simp only[LB,if_false];rcases hp with rfl | rfl
  ·rw[Cb,Cb];by_cases o:(nth (nth f.blocks b.toNat).ins p.toNat).op=15
   ·rw[if_pos o,if_pos o];exact .inr ⟨by omega,by omega,by omega,by omega,_,_,_,_,rfl,rfl,rfl,rfl,rfl,rfl,rfl⟩
   rw[if_neg o,if_neg o];exact .inl ⟨rfl,rfl⟩
  rw[BE,BE];by_cases o:(nth (nth f.blocks b.toNat).ins p.toNat).op=16
  ·rw[if_pos o,if_pos o];exact .inr ⟨by omega,by omega,by omega,by omega,_,_,_,_,rfl,rfl,rfl,rfl,rfl,rfl,rfl⟩
  rw[if_neg o,if_neg o];exact .inl ⟨rfl,rfl⟩
 rw[if_neg c,if_neg c];exact .inl ⟨rfl,rfl⟩
end
end Go.Proofs.YtnfiilgdjpdlkaaGreatDoor
namespace Go.Proofs.YtnfiilgdjpdlkaaGreatDoor
open Go Go.Lft
abbrev Wh:=Int->Option (Int × Int)
def Cc (can:Int->Int->Bool):Option (Int × Int)->Bool
 | none=>true
 | some w=>can w.1 w.2
def tj (can:Int->Int->Bool) (wh:Wh) (l:List Int):Bool:=l.all fun v=>Cc can (wh v)
def E1 (can:Int->Int->Bool) (wh:Wh):Option FitD->Bool
 | none=>false
 | some x=>tj can wh x.takes
def canP (f:ak) (has:Int->Bool) (wh:Wh) (can:Int->Int->Bool) (b i pat:Int):Bool:=has pat&&E1 can wh (tryS (eZ f b i 0) pat)
def canS (f:ak) (has:Int->Bool) (wh:Wh):Nat->Int->Int->Bool
 | 0,_,_=>false
 | n+1,b,i=>(List.range 38).any fun k=>canP f has wh (canS f has wh n) b i (k:Int)
theorem AB{f:ak}{t:dm}{pat:Int}(h:¬(0<=pat/\pat<38)):gN f t pat=none:=by unfold gN;rw[if_neg (by omega),if_neg (by omega),if_neg (by omega),if_neg (by omega),if_neg (by omega),if_neg (by omega)]
theorem Cp{s:bN}{pat:Int}(h:¬(0<=pat/\pat<38)):tryS s pat=none:=by
 unfold tryS;split
 ·exact AB h
 unfold patS;rw[if_neg (by omega)]
theorem ze{f:ak}{has:Int->Bool}{wh:Wh}{n:Nat}{b i:Int}:canS f has wh (n+1) b i=true↔∃pat,canP f has wh (canS f has wh n) b i pat=true:=by
 unfold canS;rw[Nu];constructor
 ·rintro⟨k,_,hk⟩;exact⟨_,hk⟩
 rintro⟨pat,hp⟩;by_cases h:0<=pat/\pat<38
 ·refine⟨pat.toNat,LQ.2 (by omega),?_⟩;rw[KR h.1];exact hp
 unfold canP at hp;rw[Cp h]at hp;simp[E1]at hp
def twoV (w:Int × Int):Value:=.agg #[.int .i64 w.1,.int .i64 w.2]
structure Cv (W:View) (F H Q C r1 r2:Nat) (f:ak) (has:Int->Bool) (wh:Wh):Prop where
 fc:At W ⟨F,0,none⟩ f
 hasR : ∀p,has p=true->I64 p
 hasC:aj W ⟨H,0,none⟩=some (.map (some r1))
 hasM : ∀h,W.le (vw h)->dL (.int .i64) h r1 (mapB has)
 whC:aj W ⟨Q,0,none⟩=some (.map (some r2))
 whR : ∀v w,wh v=some w->I64 w.1/\I64 w.2
 whM : ∀h,W.le (vw h)->dL (.int .i64) h r2 (mapE twoV wh)
 can:aj W ⟨C,0,none⟩=some (.func (.func N.bQ) #[] #[ptr F,ptr H,ptr Q,ptr C])
theorem Cv.mono {W W':View} {F H Q C r1 r2:Nat} {f:ak} {has:Int->Bool} {wh:Wh} (c:Cv W F H Q C r1 r2 f has wh) (h:W.le W'):Cv W' F H Q C r1 r2 f has wh:=
 ⟨c.fc.mono h,c.hasR,ae h c.hasC,fun g hg=>c.hasM g (View.le_trans h hg),ae h c.whC,c.whR,fun g hg=>c.whM g (View.le_trans h hg),ae h c.can⟩
def Down (f:ak) (wh:Wh):Prop:=∀b i pat x v w,dz f b i=true->tryS (eZ f b i 0) pat=some x->v∈x.takes->wh v=some w->dz f w.1 w.2=true/\w.2<i
theorem C1{s:Int->Bool}{u v:Value}(hk:MapKept.IsKey (.int .i64) u)(h:mapB s u=some v): ∃p:Int,u = .int .i64 p/\s p=true/\v = .bool true:=by
 cases u<;>simp[MapKept.IsKey]at hk;rename_i k p;subst hk;rw[yC]at h;split at h
 ·rename_i hs;cases h;exact⟨p,rfl,hs,rfl⟩
 cases h
theorem tL{h h':Heap}{b r:Nat}{left:List (Value × Value)}(m:It h b r left)(hle:(vw h).le (vw h')):It h' b r left:=by
 have l:=m.lt;have e : ∀k,k<h.size->h'[k]? = h[k]?:=fun k hk=>by have:=hle k h[k] (KO hk);rw[KO hk];exact this
 exact m.same (e _ l.1) (e _ l.2.1)
theorem EA {f:ak} {has:Int->Bool} {wh:Wh} (m:nC f) (hsm:SmF f) (hM : ∀i∈fm f,i.op=15\/i.op=16->lI) (hd:Down f wh) : ∀(n:Nat) {b i:Int} {Fb H Q C r1 r2:Nat} {W:View} {h:Heap},Cv W Fb H Q C r1 r2 f has wh->W.le (vw h)->dz f b i=true->i<n->
  aw Tryz.prog N.bQ #[.int .i64 b,.int .i64 i,ptr Fb,ptr H,ptr Q,ptr C] h (fun u h'=>(vw h).le (vw h')/\u = .bool (canS f has wh n b i))
 | 0,b,i,Fb,H,Q,C,r1,r2,W,h,cv,hW,hpl,hi=>by simp[dz]at hpl;omega
 | n+1,b,i,Fb,H,Q,C,r1,r2,W,h,cv,hW,hpl,hi=>by
  have ih:=@EA f has wh m hsm hM hd n;refine ao (args:=[.int .i64 b,.int .i64 i,ptr Fb,ptr H,ptr Q,ptr C]) follows F.bQ E.bQ (Kw (by kernel_rfl)) fun K hK=>?_;dsimp only[L.bQ];have c0:=Cx.start hW
  refine ab fun z hz=>?_;simp;subst hz;refine ab fun z hz=>?_;obtain⟨uf,huf,ruf⟩:=cv.fc.ldN rfl (N:=2) rfl;have hr:=xZ ruf;simp[huf _ hW];refine af (by kernel_rfl) (Fe (b:=b) (p:=i) hW ruf (by constructor<;>decide)) ?_;rintro _ h1 ⟨hle1,vs,rfl,hvs⟩;have c1:=c0.ext hle1;have hW1:=c0.up (h':=h1);have hpS:lY f b i 0=eZ f b i 0:=by unfold lY;rw[hpl,if_pos rfl]
  rw[hpS]at hvs;simp;refine c1.dZ (α:=bN) hvs (n:=13) (z:=.agg ny.toArray) (by kernel_rfl) rfl rfl (by kernel_rfl) (fun _=>by simp) (fun _=>by simp) fun B h2 W2 hW2 c2 at2 hle2=>?_;have cv2:=cv.mono (View.le_trans hW1 hW2);subst hz;refine ab fun z hz=>?_;refine ab fun y hy=>?_;simp[ae c2.wle cv2.hasC];refine zO U.ji rfl (cv2.hasM h2 c2.wle) fun h3 left hle3 hs3 it3 nd3 key3 mem3=>?_;have hall : ∀u v,(u,v)∈left->∃p:Int,u = .int .i64 p/\has p=true:=fun u v hu=>by obtain⟨p,e1,e2,-⟩:=C1 (key3 u v hu) ((mem3 u v (key3 u v hu)).1 hu);exact⟨p,e1,e2⟩
  have hrest : ∀p:Int,has p=true->(∃v,(Value.int .i64 p,v)∈left):=fun p hp=>⟨.bool true,(mem3 _ _ fE).2 (by rw[yC,hp,if_pos rfl])⟩;have hr3:W2 h2.size=none:=View.cM c2.wle (Kz _)
  have hs0:h.size<=h2.size:=bW c2.le0;have c3:Cx W h W2 h3 fun _=>none:=⟨Owns.start (View.le_trans c2.wle hle3),c2.old,View.le_trans c2.le0 hle3,fun _ _ _ e=>by cases e⟩;obtain⟨r,hr0⟩ : ∃r,r=h2.size:=⟨_,rfl⟩;rw[<-hr0]at it3 hr3 hs0 ⊢;subst hy;simp only[aH];refine iV [0,1,2,3,4,5,9,26] (fun mm ρ hx=>∃(left:List (Value × Value)) (Wx:View),mm=left.length/\ρ=[(0,.int .i64 b),(1,.int .i64 i),(2,ptr Fb),(3,ptr H),(4,ptr Q),(5,ptr C),(9,ptr B),(26,ptr r)]/\W2.le Wx/\Cx W h Wx hx (fun _=>none)/\Wx r=none/\It hx r1 r left/\
   (∀u v,(u,v)∈left->∃p:Int,u = .int .i64 p/\has p=true)/\(∀p:Int,has p=true->(∃v,(Value.int .i64 p,v)∈left)\/canP f has wh (canS f has wh n) b i p=false)) left.length
   ⟨left,W2,rfl,rfl,View.le_refl _,c3,hr3,it3,hall,fun p hp=>.inl (hrest p hp)⟩ ?_;clear hall hrest it3 nd3 key3 mem3 c3;rintro mm ρ hx ⟨left,Wx,rfl,rfl,lx,cx,hrx,itx,hall,hrest⟩ K2 hK2;refine ab fun y hy=>?_;simp;refine Ap rfl itx ?_ ?_
  ·rintro rfl;have hno:canS f has wh (n+1) b i=false:=by
    cases e:canS f has wh (n+1) b i with
    | false=>rfl
    | true=>
     obtain⟨p,hp⟩:=ze.1 e;have hh:has p=true:=by unfold canP at hp;simp at hp;exact hp.1
     rcases hrest p hh with⟨v,hv⟩ | hv
     ·cases hv
     rw[hp]at hv;cases hv
   simp;subst hy;simp;subst hz;simp;exact hK _ _ ⟨cx.le0,by rw[hno]⟩
  intro a p q h4 el hs4 ho4 it4;obtain⟨pat,e1,e2⟩:=hall p.1 p.2 (by rw[el];simp);have hpe:p=(.int .i64 pat,p.2):=by rw[<-e1]
  have le4 : ∀X:View,X.le (vw hx)->X r=none->X.le (vw h4):=fun X hX hn b o hb=>by show h4[b]? = some o;rw[ho4 b (by rintro rfl;rw[hn]at hb;cases hb)];exact hX b o hb
  have le04:(vw h).le (vw h4):=fun b o hb=>by have hlt:=View.lt (View.le_refl (vw h)) hb;show h4[b]? = some o;rw[ho4 b (by omega)];exact cx.le0 b o hb
  have hW4:=le4 Wx cx.wle hrx;have c4:Cx W h Wx h4 fun _=>none:=⟨Owns.start hW4,cx.old,le04,fun _ _ _ e=>by cases e⟩;have hrest4 : ∀p:Int,p≠pat->has p=true->(∃v,(Value.int .i64 p,v)∈a++q)\/canP f has wh (canS f has wh n) b i p=false:=fun p' hne hp'=>by
   rcases hrest p' hp' with⟨v,hv⟩ | hv
   ·rw[el,KD,KP]at hv;rcases hv with hv | hv | hv
    ·exact .inl ⟨v,KD.2 (.inl hv)⟩
    ·rw[hpe]at hv;simp at hv;exact absurd hv.1 hne
    exact .inl ⟨v,KD.2 (.inr hv)⟩
   exact .inr hv
  have hall4 : ∀u v,(u,v)∈a++q->∃p:Int,u = .int .i64 p/\has p=true:=fun u v hu=>hall u v (by rw[el,KD,KP];rcases KD.1 hu with hu | hu<;>simp[hu]);have hlen:(a++q).length<left.length:=by rw[el];simp
  have at4:=at2.mono lx;have cv4:=cv2.mono lx;clear hrest hall itx cx;simp;subst hy;refine ab fun y hy=>?_;refine aU (by simp) ?_;simp;subst hy;simp only[aH];refine ab fun y hy=>?_;simp;refine EI rfl it4 ?_;simp[e1];subst hy;refine ab fun y hy=>?_;obtain⟨us,hus,rus⟩:=at4.ldN rfl (N:=13) rfl;simp[hus _ c4.wle];refine af (by kernel_rfl) (yp c4.wle rus m hsm hr hM hpl (cv.hasR _ e2)) ?_;rintro _ h5 ⟨hle5,vf,x,rfl,hvf,hxx⟩;have c5:=c4.ext hle5
  have hW5:=c4.up (h':=h5);have it5:=tL it4.it hle5;simp;refine dX (X:=grow Wx h4 h5) (α:=FitD) (z:=.agg fitZ.toArray) (by kernel_rfl) rfl (by kernel_rfl) hvf (fun _=>by simp) (fun _=>by simp) fun h6 hle6 hs6 hat6=>?_;have c6:=c5.ext hle6
  have hW6:=c5.up (h':=h6);have at6:=hat6 _ hW6 (dw (Kz _));have hr6:grow (grow Wx h4 h5) h5 h6 r=none:=by rw[ir (tL it4.it hle5).lt.2.1,ir it4.it.lt.2.1];exact hrx
  generalize grow (grow Wx h4 h5) h5 h6=W6 at *;generalize h5.size=B3 at *;have it6:=tL it5 hle6;subst hy;refine ab fun y hy=>?_;have pt:=(at6.part FitD.BV).sl
  obtain⟨vt,k1,s1⟩:=pt;have k1:aj W6 ⟨B3,0,none⟩=some vt:=by simpa using k1
  refine ab fun w hw=>?_;simp[ae c6.wle k1,s1.len];subst hw;simp only[aH];have bt:=s1.bound;obtain⟨okS,hok⟩ : ∃okS:Nat->Bool,okS=fun j=>(tryS (eZ f b i 0) pat).isSome&&tj (canS f has wh n) wh (x.takes.take j):=⟨_,rfl⟩;have ok0:(tryS (eZ f b i 0) pat).isSome=okS 0:=by rw[hok];simp[tj]
  have okJ : ∀j,j<x.takes.length->okS (j+1)=(okS j&&Cc (canS f has wh n) (wh (nth x.takes j))):=fun j hj=>by rw[hok];simp only[tj];rw[KM hj,List.all_append,az hj];simp[N4]
  have okE:okS x.takes.length=canP f has wh (canS f has wh n) b i pat:=by
   rw[hok];simp only[Lz];unfold canP;rw[e2];cases hq:tryS (eZ f b i 0) pat with
   | none=>rfl
   | some y=>rw[hxx y hq];rfl
  have okV : ∀j,j<x.takes.length->okS j=true->∀w,wh (nth x.takes j)=some w->dz f w.1 w.2=true/\w.2<i:=fun j hj ho w hw=>by rw[hok]at ho;simp only[KE]at ho;obtain⟨y,hy⟩:=NW.1 ho.1;have:=hxx y hy;subst this;exact hd b i pat x _ w hpl hy (cj hj) hw
  rw[ok0];clear hok ok0;refine aJ [0,1,2,3,4,5,9,11,12,13,26,38,39,40] (fun(_:Unit) j=>[.int .i64 b,.int .i64 i,ptr Fb,ptr H,ptr Q,ptr C,ptr B,.int .i64 pat,ptr B3,.bool (okS j),ptr r,vt,.int .i64 x.takes.length,.int .i64 j])
   (fun _ j h7=>∃W7,W6.le W7/\Cx W h W7 h7 (fun _=>none)/\W7 r=none/\It h7 r1 r (a++q)) x.takes.length ()
   rfl (by omega) rfl ⟨W6,View.le_refl _,c6,hr6,it6⟩ (fun _ _=>rfl) (fun v i h1 hk m=>by simp) ?_ ?_
  ·rintro _ j h7 hj ⟨W7,lW7,c7,hr7,it7⟩ K3 hK3;have s7:=s1.mono (View.le_trans lW7 c7.wle);have cv7:=(cv4.mono hW5).mono (View.le_trans hW6 lW7);have okj:=okJ j hj;have okv:=okV j hj;refine ab fun w hw=>?_;simp(disch:=omega)[s7.idx1 rfl,s7.int (View.le_refl _)];subst hw;generalize nth x.takes j=vv at *;refine ab fun w hw=>?_;simp[ae c7.wle cv7.whC];refine lO (f:=mapE twoV wh) (z:=.agg #[.int .i64 0,.int .i64 0]) (k:=T.int) (e:=T.gL) (d:=.int .i64) (r:=r2) (u:=.int .i64 vv) U.gx U.int (by kernel_rfl) rfl rfl fE (cv7.whM h7 c7.wle) ?_;have wr:Rd W7 (((wh vv).map twoV).getD (.agg #[.int .i64 0,.int .i64 0])) ((wh vv).getD (0,0)):=by
    cases hv:wh vv with
    | none=>exact oV.2 ⟨rfl,by decide,by decide⟩
    | some w=>exact oV.2 ⟨rfl,(cv7.whR vv w hv).1,(cv7.whR vv w hv).2⟩
   simp;refine dX (X:=W7) (α:=Int × Int) (z:=.agg #[.int .i64 0,.int .i64 0]) (by kernel_rfl) rfl (by kernel_rfl) wr (fun _=>by simp) (fun _=>by simp) fun h8 hle8 hs8 hat8=>?_;have c8:=c7.ext hle8;have hW8:=c7.up (h':=h8);have at8:=hat8 _ hW8 (dw (Kz _));have it8:=tL it7 hle8;have hr8:grow W7 h7 h8 r=none:=by rw[ir it7.lt.2.1];exact hr7
   generalize grow W7 h7 h8=W8 at *;generalize h7.size=B4 at *;subst hw;refine ab fun w hw=>?_;cases ho:okS j with
   | false=>rw[ho]at okj;simp;subst hw;simp;exact hK3 () _ _ rfl (by simp[bF,okj]) ⟨W8,View.le_trans lW7 hW8,c8,hr8,it8⟩
   | true=>
    rw[ho]at okj;cases hv:wh vv with
    | none=>rw[hv]at okj;simp;subst hw;simp;exact hK3 () _ _ rfl (by simp[bF,okj,Cc]) ⟨W8,View.le_trans lW7 hW8,c8,hr8,it8⟩
    | some ww=>
     rw[hv]at okj at8;obtain⟨g1,g2⟩:=okv ho ww hv;have at8:At W8 ⟨B4,0,none⟩ ww:=at8;obtain⟨cs,q1,q2,-⟩:=at8;have x0:aj W8 ⟨B4,0,none⟩=some (.int .i64 ww.1):=by have:=gu q1 (i:=0) (v:=.int .i64 ww.1) (by rw[q2];rfl);simpa using this
     have x1:aj W8 ⟨B4,1,none⟩=some (.int .i64 ww.2):=by have:=gu q1 (i:=1) (v:=.int .i64 ww.2) (by rw[q2];rfl);simpa using this
     have cv8:=cv7.mono hW8;simp;subst hw;have y0:Bn.ev (.aidx 2 1) (.pointer (some ⟨B4,0,none⟩)) (.int .i64 0)=some (.pointer (some ⟨B4,0,none⟩)):=rfl;have y1:Bn.ev (.aidx 2 1) (.pointer (some ⟨B4,0,none⟩)) (.int .i64 1)=some (.pointer (some ⟨B4,1,none⟩)):=rfl;simp[ae c8.wle cv8.can,ae c8.wle x0,ae c8.wle x1,y0,y1];refine bI (ops:=[.tmp 56,.tmp 58]) (caps:=#[ptr Fb,ptr H,ptr Q,ptr C]) rfl (by kernel_rfl) (ih (b:=ww.1) (i:=ww.2) cv8 c8.wle g1 (by omega)) ?_;rintro _ h9 ⟨hle9,rfl⟩;have c9:=c8.ext hle9;have hW9:=c8.up (h':=h9);refine hK3 () _ _ rfl (by simp[bF,okj,Cc]) ⟨_,View.le_trans lW7 (View.le_trans hW8 hW9),c9,?_,tL it8 hle9⟩;rw[ir it8.lt.2.1];exact hr8
  rintro _ h7 ⟨W7,lW7,c7,hr7,it7⟩;rw[okE];simp;subst hy;cases hcp:canP f has wh (canS f has wh n) b i pat with
  | true=>have hyes:canS f has wh (n+1) b i=true:=ze.2 ⟨pat,hcp⟩;simp;exact hK _ _ ⟨c7.le0,by rw[hyes]⟩
  | false=>
   simp;refine hK2 (a++q).length _ _ hlen ⟨a++q,W7,rfl,rfl,View.le_trans lx (View.le_trans hW5 (View.le_trans hW6 lW7)),c7,hr7,it7,hall4,fun p' hp'=>?_⟩;by_cases hne:p'=pat
   ·exact .inr (hne▸hcp)
   exact hrest4 p' hne hp'
end Go.Proofs.YtnfiilgdjpdlkaaGreatDoor
namespace Go.Lft
open Go
theorem Aw {po:OP} {P:Program} {ty t e rt:TypeId} {us:List (Nat × Value)} {h:Heap} {K:Value->Heap->Prop} {a b c d:Int} {ki:IntKind} {x y:Operand} (hu:P.underlying t=some (.array 2 e)) (he:P.underlying e=some (.int ki)) (hs:dp P e=some 1) (ha:mc P e=some false) (hgd:P.eqGuardType P.depth t=false)
  (hx:asg us x = .agg #[.int ki a,.int ki b]) (hy:asg us y = .agg #[.int ki c,.int ki d]) (hk:K (.bool (a == c&&b == d)) h):@step po P (.binOp .eql t x y rt) ty us h K:=by refine dq (cr fun w hw=>⟨_,w,?_,Same.refl _,by rw[hw];exact hk⟩);simp only[bD,execOp,hx,hy];simp[eqGuard,binOp,zJ hu he hs ha,program,Sem.run,hgd]
end Go.Lft
namespace Go.Proofs.YtnfiilgdjpdlkaaGreatDoor
open Go Go.Lft
structure Mq (V:View) (h0:Heap) (W:View) (h:Heap) (r:Nat) (g:Value->Option Value):Prop where
 c:Cx V h0 W h fun _=>none
 av:W r=none
 lo:h0.size<=r
 m:dL (.int .i64) h r g
section
variable {po po2:OP} {V W:View} {h0 h h':Heap} {r:Nat} {g g':Value->Option Value}
theorem Mq.ext (k:Mq V h0 W h r g) (hle:(vw h).le (vw h')):Mq V h0 (grow W h h') h' r g:=⟨k.c.ext hle,by rw[ir k.m.lt];exact k.av,k.lo,k.m.ext hle⟩
theorem Mq.up (k:Mq V h0 W h r g):W.le (grow W h h'):=k.c.up
theorem Mq.wle (k:Mq V h0 W h r g):W.le (vw h):=k.c.wle
theorem Mq.upd (k:Mq V h0 W h r g) (ho : ∀b,b≠r->h'[b]? = h[b]?) (hm:dL (.int .i64) h' r g'):Mq V h0 W h' r g':=
 ⟨⟨Owns.start fun b o hb=>by
   show h'[b]? = some o;rw[ho b (by rintro rfl;rw[k.av]at hb;cases hb)];exact k.wle b o hb,k.c.old,fun b o hb=>by
   have hlt:=View.lt (View.le_refl (vw h0)) hb;have:=k.lo;show h'[b]? = some o;rw[ho b (by omega)];exact k.c.le0 b o hb,fun _ _ _ e=>by cases e⟩,k.av,k.lo,hm⟩
theorem Mq.dZ {α:Type} [Rep α] {P:Program} {ty:TypeId} {us:List (Nat × Value)} {t ty2:TypeId} {n:Nat} {z:Value} {x y:Operand} {us2:Value->List (Nat × Value)} {v:Value} {d:α} {K:Value->Heap->Prop} (k:Mq V h0 W h r g) (hv:Rd W v d) (hz:(P.info? t).map (·.zero)=some (some z)) (hN:Rep.n α=n) (hzc:z.cells.size=n) (hsz:dp P t=some n)
  (hx : ∀p,asg (us2 p) x=p) (hy : ∀p,asg (us2 p) y=v) (hk : ∀B h' W',W.le W'->Mq V h0 W' h' r g->At W' ⟨B,0,none⟩ d->(vw h).le (vw h')->K (.pointer (some ⟨B,0,none⟩)) h') :
  @Lft.step po P (.alloc t) ty us h fun p h2=>@Lft.step po2 P (.store t x y) ty2 (us2 p) h2 fun _ h3=>K p h3:=by subst hN;refine dX (X:=W) hz hzc hsz hv hx hy fun h1 hle hs hat=>?_;exact hk _ _ _ k.up (k.ext hle) (hat _ k.up (dw (Kz _))) hle
theorem Mq.freeze (k:Mq V h0 W h r g) : ∃W',W.le W'/\Cx V h0 W' h (fun _=>none)/\(∀g2:Heap,W'.le (vw g2)->dL (.int .i64) g2 r g):=by
 obtain⟨es,cl,e1,e2⟩:=k.m.ex;have hle:W.le (W.set r (.map es cl)):=fun b o hb=>by unfold View.set;rw[if_neg (by rintro rfl;rw[k.av]at hb;cases hb)];exact hb
 have hw:(W.set r (.map es cl)).le (vw h):=fun b o hb=>by
  unfold View.set at hb;split at hb
  ·rename_i e;subst e;cases hb;exact e1
  exact k.wle b o hb
 refine⟨_,hle,⟨Owns.start hw,fun b o hb hx=>?_,k.c.le0,fun _ _ _ e=>by cases e⟩,fun g2 hg2=>⟨es,cl,hg2 r _ (by unfold View.set;rw[if_pos rfl]),e2⟩⟩;unfold View.set at hx;have:=k.lo;rw[if_neg (by omega)]at hx;exact k.c.old b o hb hx
end
def hasS (l:List fg):Int->Bool:=fun p=>decide (p=0)||l.any fun t=>decide (t.pat=p)
def kJ (f:ak) (b k:Nat) (wh:Wh):Wh:=
 if(!decide ((nth (nth f.blocks b).ins k).op=16)&&!decide ((nth (nth f.blocks b).ins k).op=18))&&fH f (nth (nth f.blocks b).ins k).dst then putM wh (nth (nth f.blocks b).ins k).dst ((b:Int),(k:Int)) else wh
def whTo (f:ak) (n:Nat):Wh:=Lft.up (fun b wh=>Lft.up (kJ f b) (nth f.blocks b).ins.length wh) n (fun _=>none)
def whS (f:ak):Wh:=whTo f f.blocks.length
theorem wK {f:ak} {n:Nat}:whTo f (n+1)=Lft.up (kJ f n) (nth f.blocks n).ins.length (whTo f n):=rfl
theorem qI : ∀{l:List fg} {n:Nat},(kN n l).1=0->∀t∈l,eG t=0
 | [],_,_,t,ht=>by cases ht
 | a::l,n,h,t,ht=>by
  unfold kN at h;split at h
  ·rename_i e;rcases KP.1 ht with rfl | ht
   ·exact e
   exact qI h t ht
  rename_i e;exact absurd h e
theorem Dt {l:List fg} (h:(jw l).1=0) {t:fg} (ht:t∈l):inR t.pat 1 37=true:=by
 unfold jw at h;split at h
 ·cases h
 have:=qI h t ht;unfold eG at this;cases e:inR t.pat 1 37 with
 | true=>rfl
 | false=>rw[if_pos e]at this;cases this
theorem GK {l:List fg} (h:(jw l).1=0) {p:Int} (hp:hasS l p=true):I64 p:=by
 unfold hasS at hp;simp at hp;rcases hp with rfl | ⟨t,ht,rfl⟩
 ·constructor<;>decide
 have:=Dt h ht;simp[inR]at this;constructor<;>omega
def WhAt (f:ak) (v:Int) (w:Int × Int):Prop:=∃b k:Nat,b<f.blocks.length/\k<(nth f.blocks b).ins.length/\w=((b:Int),(k:Int))/\(nth (nth f.blocks b).ins k).dst=v/\(nth (nth f.blocks b).ins k).op≠16/\(nth (nth f.blocks b).ins k).op≠18/\fH f v=true
theorem CW {f:ak} {b k:Nat} {g:Wh} (hb:b<f.blocks.length) (hk:k<(nth f.blocks b).ins.length) (hg : ∀v w,g v=some w->WhAt f v w) : ∀v w,kJ f b k g v=some w->WhAt f v w:=by
 intro v w h;unfold kJ at h;split at h
 ·rename_i c;simp at c;unfold putM at h;split at h
  ·rename_i e;cases h;exact⟨b,k,hb,hk,rfl,e.symm,c.1.1,c.1.2,e▸c.2⟩
  exact hg v w h
 exact hg v w h
theorem Bx {f:ak} : ∀{n:Nat},n<=f.blocks.length->∀v w,whTo f n v=some w->WhAt f v w
 | 0,_,v,w,h=>by cases h
 | n+1,hn,v,w,h=>by
  rw[wK]at h;have key : ∀k,k<=(nth f.blocks n).ins.length->∀v w,Lft.up (kJ f n) k (whTo f n) v=some w->WhAt f v w:=by
   intro k;induction k with
   | zero=>exact fun _ v w h=>Bx (by omega) v w h
   | succ k ih=>exact fun hk=>CW (by omega) (by omega) (ih (by omega))
  exact key _ (Kz _) v w h
theorem Eu {f:ak} {v:Int} {w:Int × Int} (h:whS f v=some w):WhAt f v w:=Bx (Kz _) v w h
theorem HX {f:ak} (hsm:SmF f) {v:Int} {w:Int × Int} (h:whS f v=some w):I64 w.1/\I64 w.2:=by obtain⟨b,k,hb,hk,rfl,-⟩:=Eu h;have h1:=hsm.len;have h2:=(hsm.blk b hb).ins;refine⟨⟨?_,?_⟩,?_,?_⟩<;>simp only<;>omega
def nB (f:ak) (wh:Wh) (b i:Nat):Bool:=!(decide (i<(nth f.blocks b).ins.length)&&(!decide ((nth (nth f.blocks b).ins i).op=16)&&decide (wh (nth (nth f.blocks b).ins i).dst=some ((b:Int),(i:Int)))))
def sK (f:ak) (has:Int->Bool) (b i:Nat):Bool:=nB f (whS f) b i&&!canS f has (whS f) (i+1) b i
def tF (f:ak) (has:Int->Bool) (b:Nat):Option Nat:=(List.range ((nth f.blocks b).ins.length+1)).find? (sK f has b)
def ox (f:ak) (has:Int->Bool):Option (Nat × Nat):=(List.range f.blocks.length).findSome? fun b=>(tF f has b).map fun i=>(b,i)
def Hp:Option (Nat × Nat)->Int × Int × Int
 | none=>(0,0,0)
 | some w=>(21,w.1,w.2)
def iZ (l:List fg) (f:ak):Int × Int × Int:=if(jw l).1≠0 then((jw l).1,0,0) else if mh f=false then(1,0,0) else Hp (ox f (hasS l))
theorem find_range {p:Nat->Bool} {n i:Nat} (hi:i<n) (h1:(List.range i).find? p=none) (h2:p i=true):(List.range n).find? p=some i:=by obtain⟨d,rfl⟩ : ∃d,n=i+(d+1):=⟨n-i-1,by omega⟩;rw[List.range_add,Nk,h1,MG,N0];simp[h2]
theorem tH {α:Type} {p:Nat->Option α} {n i:Nat} {a:α} (hi:i<n) (h1:(List.range i).findSome? p=none) (h2:p i=some a):(List.range n).findSome? p=some a:=by obtain⟨d,rfl⟩ : ∃d,n=i+(d+1):=⟨n-i-1,by omega⟩;rw[List.range_add,MN,h1,MG,N0];simp[h2]
def Looks (ρ:Env) (l:List (Nat × Value)):Prop:=∀p∈l,Lft.look ρ p.1=some p.2
set_option maxHeartbeats 4000000 in
theorem C4 {l:List fg} {f:ak} {vl vf:Value} {h:Heap} {W:View} (hW:W.le (vw h)) (hl:SlRd W vl l) (hf:Rd W vf f) (hsm:SmF f) (ht:Tab h) (hM : ∀i∈fm f,i.op=15\/i.op=16->lI) (hd:mh f=true->Down f (whS f)) :
  aw Tryz.prog N.cm #[vl,vf] h (fun u h'=>(vw h).le (vw h')/\u = .tuple #[.int .i64 (iZ l f).1,.int .i64 (iZ l f).2.1,.int .i64 (iZ l f).2.2]):=by
 refine ao (args:=[vl,vf]) follows F.cm E.cm (Kw (by kernel_rfl)) fun K hK=>?_;dsimp only[L.cm];have c0:=Cx.start hW;refine ab fun z hz=>?_;simp;refine c0.dy rfl hf fun F1 h1 W1 hW1 c1 at1 hle1=>?_;subst hz;refine ab fun z hz=>?_;refine ab fun y hy=>?_;simp;refine af (by kernel_rfl) (xf c1.wle (hl.mono hW1) (ht.mono c1.le0)) ?_;rintro _ h2 ⟨hle2,rfl⟩;have c2:=c1.ext hle2
 have hW2:=c1.up (h':=h2);simp;subst hy;refine ab fun y hy=>?_;simp;subst hy;by_cases e1:(jw l).1=0
 ·simp[e1];subst hz;refine ab fun z hz=>?_;refine ab fun y hy=>?_;obtain⟨uf,huf,ruf⟩:=at1.ldN rfl (N:=2) rfl;simp[huf _ (View.le_trans hW2 c2.wle)];refine af (by kernel_rfl) (uY (ruf.mono (View.le_trans hW2 c2.wle)) hsm) ?_;rintro _ h3 ⟨rfl,hle3⟩;have c3:=c2.ext hle3;have hW3:=c2.up (h':=h3);subst hy;cases hrt:mh f with
  | false=>
   have hrt2:decide ((kq f).1=0)=false:=hrt;have e:iZ l f=(1,0,0):=by unfold iZ;rw[if_neg (by rw[e1];simp),if_pos hrt]
   simp[hrt2];exact hK _ _ ⟨c3.le0,by rw[e]⟩
  | true=>
   have hrt2:decide ((kq f).1=0)=true:=hrt;have hcov:iZ l f=Hp (ox f (hasS l)):=by unfold iZ;rw[if_neg (by rw[e1];simp),if_neg (by simp[hrt])]
   rw[hcov]at hK;have m:=oG hrt;have hd:=hd hrt;simp[hrt2];subst hz;refine ab fun z hz=>?_;simp;refine lg ?_;have m3:dL (.int .i64) (h3.push (.map #[] 0)) h3.size fun _=>none:=dL.none (by simp)
   have q3:=bM h3 (.map #[] 0);have av3:grow (grow W1 h1 h2) h2 h3 h3.size=none:=View.cM c3.wle (Kz _);have hs3:h.size<=h3.size:=bW c3.le0;have hW13:W1.le (grow (grow W1 h1 h2) h2 h3):=View.le_trans hW2 hW3;generalize grow (grow W1 h1 h2) h2 h3=W3 at *;generalize h3.push (.map #[] 0)=h4 at *;obtain⟨r1,hr1⟩ : ∃r,r=h3.size:=⟨_,rfl⟩;rw[<-hr1]at m3 av3 hs3 ⊢;have k4:Mq W h W3 h4 r1 fun _=>none:=⟨⟨Owns.start (View.le_trans c3.wle q3),c3.old,View.le_trans c3.le0 q3,fun _ _ _ e=>by cases e⟩,av3,hs3,m3⟩;refine jX (.inr rfl) (t:=T.ji) (k:=T.int) (e:=T.bool) (u:=.int .i64 0) U.ji U.int rfl rfl rfl fE k4.m (mapB (hasS [])) (by simp[hasS]) (fun u hu=>?_) fun h5 hs5 ho5 hm5=>?_
   ·cases u with
    | int k j=>cases k<;>first | rfl | (simp[hasS];intro e;exact hu (by rw[e]))
    | _=>rfl
   have k5:=k4.upd ho5 hm5;refine gS (n:=1) (z:=.map none) (v:=.map (some r1)) (by kernel_rfl) rfl (by kernel_rfl) rfl (by simp[Value.cells,Value.oneCell']) (fun _=>by simp) (fun _=>by simp) fun h6 hle6 hs6 hb6=>?_;have k6:=k5.ext hle6
   have hW6:=k5.up (h':=h6);have x9:aj (grow W3 h5 h6) ⟨h5.size,0,none⟩=some (.map (some r1)):=cell_of (by rw[dw (Kz _)];exact hb6) rfl;generalize grow W3 h5 h6=W6 at *;generalize h5.size=B9 at *;subst hz;refine ab fun z hz=>?_;refine ab fun y hy=>?_;have hl6:=hl.mono (View.le_trans hW1 (View.le_trans hW13 hW6))
   have bl:=hl.bound;simp[hl6.len];subst hy;refine aJ [0,1,3,9,37,38,39] (fun(_:Unit) k=>[vl,vf,ptr F1,ptr B9,vl,.int .i64 l.length,.int .i64 k])
    (fun _ k hx=>∃Wx,W6.le Wx/\Mq W h Wx hx r1 (mapB (hasS (l.take k)))) l.length ()
    rfl (by omega) rfl ⟨W6,View.le_refl _,k6⟩ (fun _ _=>rfl) (fun v i h1 hk m=>by simp) ?_ ?_
   ·rintro _ k hx hk ⟨Wx,lx,kx⟩ K2 hK2;obtain⟨ut,hut,rut⟩:=(hl6.mono lx).wh rfl (N:=2) rfl hk;refine ab fun y hy=>?_;simp(disch:=omega)[((hl6.mono lx).mono kx.wle).idxn (N:=2) rfl,hut _ kx.wle];refine kx.dZ (α:=fg) rut (n:=2) (z:=.agg #[.int .i64 0,.int .i64 0]) (by kernel_rfl) rfl rfl (by kernel_rfl) (fun _=>by simp) (fun _=>by simp) fun B h7 W7 hW7 k7 at7 hle7=>?_;have q0:aj W7 ⟨B,0,none⟩=some (.int .i64 (nth l k).pat):=by simpa using(at7.part fg.Hh).int
    subst hy;simp[ae k7.wle q0,ae (View.le_trans lx (View.le_trans hW7 k7.wle)) x9];have hst : ∀p,hasS (l.take (k+1)) p=if p=(nth l k).pat then true else hasS (l.take k) p:=fun p=>by
     unfold hasS;rw[KM hk,List.any_append,az hk];by_cases e:p=l[k].pat
     ·simp[e]
     simp[e,Ne.symm e]
    obtain⟨g1,g2⟩:=Fz (f:=hasS (l.take k)) (g:=hasS (l.take (k+1))) (j:=(nth l k).pat) hst;refine jX (.inl rfl) (t:=T.ji) (k:=T.int) (e:=T.bool) (u:=.int .i64 (nth l k).pat) U.ji U.int rfl rfl rfl fE k7.m (mapB (hasS (l.take (k+1)))) g1 g2 fun h8 hs8 ho8 hm8=>?_;exact hK2 () _ _ rfl rfl ⟨W7,View.le_trans lx hW7,k7.upd ho8 hm8⟩
   rintro _ h7 ⟨W7,l7,k7⟩;rw[Lz]at k7;obtain⟨W8,l8,c8,hasM⟩:=k7.freeze;clear k4 k5 k6 k7 m3 hm5 ho5;have x9:=ae (View.le_trans l7 l8) x9;have l18:W1.le W8:=View.le_trans hW13 (View.le_trans hW6 (View.le_trans l7 l8));have at8:=at1.mono l18;simp;subst hz;refine ab fun z hz=>?_;simp;refine lg ?_;have m9:dL (.int .i64) (h7.push (.map #[] 0)) h7.size (mapE twoV fun _=>none):=by rw[oU];exact dL.none (by simp)
   have q9:=bM h7 (.map #[] 0);have av9:W8 h7.size=none:=View.cM c8.wle (Kz _);have hs9:h.size<=h7.size:=bW c8.le0;generalize h7.push (.map #[] 0)=h9 at *;obtain⟨r2,hr2⟩ : ∃r,r=h7.size:=⟨_,rfl⟩;rw[<-hr2]at m9 av9 hs9 ⊢;have k9:Mq W h W8 h9 r2 (mapE twoV fun _=>none):=⟨⟨Owns.start (View.le_trans c8.wle q9),c8.old,View.le_trans c8.le0 q9,fun _ _ _ e=>by cases e⟩,av9,hs9,m9⟩;refine gS (n:=1) (z:=.map none) (v:=.map (some r2)) (by kernel_rfl) rfl (by kernel_rfl) rfl (by simp[Value.cells,Value.oneCell']) (fun _=>by simp) (fun _=>by simp) fun h10 hle10 hs10 hb10=>?_;have k10:=k9.ext hle10
   have hW10:=k9.up (h':=h10);have x12:aj (grow W8 h9 h10) ⟨h9.size,0,none⟩=some (.map (some r2)):=cell_of (by rw[dw (Kz _)];exact hb10) rfl;have l110:=View.le_trans l18 hW10;have x9:=ae hW10 x9;have hasM:=fun(g2:Heap) (hg:(grow W8 h9 h10).le (vw g2))=>hasM g2 (View.le_trans hW10 hg);generalize grow W8 h9 h10=W10 at *;generalize h9.size=B12 at *;have at10:=at1.mono l110
   clear k9 m9 c8 at8 hle10 hb10 q9;subst hz;refine ab fun z hz=>?_;refine ab fun y hy=>?_;obtain⟨-,vb,hb1,hb2⟩:=jE at10;have bdf:=hb2.bound;simp[ae k10.wle hb1,hb2.len];subst hy;obtain⟨uf',huf',ruf'⟩:=at10.ldN rfl (N:=2) rfl;have smlen:=hsm.len;refine aJ [0,1,3,9,12,37,38,39,49,50,51] (fun(_:Unit) b=>[vl,vf,ptr F1,ptr B9,ptr B12,vl,.int .i64 l.length,.int .i64 l.length,vb,.int .i64 f.blocks.length,.int .i64 b])
    (fun _ b hx=>∃Wx,W10.le Wx/\Mq W h Wx hx r2 (mapE twoV (whTo f b))) f.blocks.length ()
    rfl (by omega) rfl ⟨W10,View.le_refl _,k10⟩ (fun _ _=>rfl) (fun v i h1 hk m=>by simp) ?_ ?_
   ·rintro _ b hx hb ⟨Wx,lx,kx⟩ K2 hK2;obtain⟨ub,hub,rub⟩:=(hb2.mono lx).wh rfl (N:=6) rfl hb;have sb:=hsm.blk b hb;refine ab fun y hy=>?_;simp(disch:=omega)[((hb2.mono lx).mono kx.wle).idxn (N:=6) rfl,hub _ kx.wle];refine kx.dZ (α:=BlkD) rub (n:=6) (z:=.agg #[.slice none 0 0,.slice none 0 0,.int .i64 0,.slice none 0 0,.slice none 0 0,.int .i32 0]) (by kernel_rfl) rfl rfl (by kernel_rfl) (fun _=>by simp) (fun _=>by simp) fun B2 h11 W11 hW11 k11 at11 hle11=>?_;subst hy;refine ab fun y hy=>?_;obtain⟨vp,vi,va,vt,-,si,-⟩:=kl at11;have bi:=si.2.bound
    simp[ae k11.wle si.1,si.2.len];subst hy;refine aJ [0,1,3,9,12,13,14,37,38,39,49,50,51,57,58,59] (fun(_:Unit) k=>[vl,vf,ptr F1,ptr B9,ptr B12,.int .i64 b,ptr B2,vl,.int .i64 l.length,.int .i64 l.length,vb,.int .i64 f.blocks.length,.int .i64 b,vi,.int .i64 (nth f.blocks b).ins.length,.int .i64 k])
     (fun _ k hy=>∃Wy,W11.le Wy/\Mq W h Wy hy r2 (mapE twoV (Lft.up (kJ f b) k (whTo f b)))) (nth f.blocks b).ins.length ()
     rfl (by omega) rfl ⟨W11,View.le_refl _,k11⟩ (fun _ _=>rfl) (fun v i h1 hk m=>by simp) ?_ ?_
    ·rintro _ k h12 hk ⟨Wy,ly,ky⟩ K3 hK3;have hst:Lft.up (kJ f b) (k+1) (whTo f b)=if(!decide ((nth (nth f.blocks b).ins k).op=16)&&!decide ((nth (nth f.blocks b).ins k).op=18))&&fH f (nth (nth f.blocks b).ins k).dst then putM (Lft.up (kJ f b) k (whTo f b)) (nth (nth f.blocks b).ins k).dst ((b:Int),(k:Int)) else Lft.up (kJ f b) k (whTo f b):=rfl;obtain⟨ui,hui,rui⟩:=(si.2.mono ly).wh rfl (N:=5) rfl hk;refine ab fun y hy=>?_;simp(disch:=omega)[((si.2.mono ly).mono ky.wle).idxn (N:=5) rfl,hui _ ky.wle];refine ky.dZ (α:=InsD) rui (n:=5) (z:=.agg #[.int .i64 0,.int .i64 0,.int .i64 0,.slice none 0 0,.int .i32 0]) (by kernel_rfl) rfl rfl (by kernel_rfl) (fun _=>by simp) (fun _=>by simp) fun B4 h13 W13 hW13 k13 at13 hle13=>?_;obtain⟨q0,q1,-⟩:=kP at13;have r1:=(at13.part InsD.iN).rng
     have l1013:W10.le W13:=View.le_trans lx (View.le_trans hW11 (View.le_trans ly hW13));generalize Lft.up (kJ f b) k (whTo f b)=g at *;generalize nth (nth f.blocks b).ins k=ii at *;have q0:=ae k13.wle q0;have q1':=q1;have q1:=ae k13.wle q1;subst hy;refine ab fun y hy=>?_;have skip : ∀(h14:Heap) (W14:View),W13.le W14->Mq W h W14 h14 r2 (mapE twoV g)->Lft.up (kJ f b) (k+1) (whTo f b)=g->∃Wy,W11.le Wy/\Mq W h Wy h14 r2 (mapE twoV (Lft.up (kJ f b) (k+1) (whTo f b))):=fun h14 W14 l14 k14 e=>⟨W14,View.le_trans ly (View.le_trans hW13 l14),by rw[e];exact k14⟩
     by_cases o16:ii.op=16
     ·rw[if_neg (by simp[o16])]at hst;simp[q0,o16];subst hy;simp;exact hK3 () _ _ rfl rfl (skip _ _ (View.le_refl _) k13 hst)
     by_cases o18:ii.op=18
     ·rw[if_neg (by simp[o18])]at hst;simp[q0,o18];subst hy;simp;exact hK3 () _ _ rfl rfl (skip _ _ (View.le_refl _) k13 hst)
     simp[q0,o16,o18,q1,huf' _ (View.le_trans l1013 k13.wle)];refine af (by kernel_rfl) (sF (ruf'.mono (View.le_trans l1013 k13.wle)) hsm r1) ?_;rintro _ h14 ⟨rfl,hle14⟩;have k14:=k13.ext hle14;have hW14:=k13.up (h':=h14);cases hfo:fH f ii.dst with
     | false=>rw[if_neg (by simp[hfo])]at hst;subst hy;simp;exact hK3 () _ _ rfl rfl (skip _ _ hW14 k14 hst)
     | true=>rw[if_pos (by simp[o16,o18,hfo])]at hst;subst hy;simp[ae (View.le_trans l1013 (View.le_trans hW14 k14.wle)) x12,ae (View.le_trans hW14 k14.wle) q1'];refine aq (z:=.agg #[.int .i64 0,.int .i64 0]) (places:=[(0,1),(1,1)]) (vs:=[(0,.int .i64 b),(1,.int .i64 k)]) (cs:=#[.int .i64 b,.int .i64 k]) (by kernel_rfl) (by kernel_rfl) (by simp) (by rfl) ?_;refine jX (.inl rfl) (t:=T.gx) (k:=T.int) (e:=T.gL) (u:=.int .i64 ii.dst) (v:=twoV ((b:Int),(k:Int))) U.gx U.int rfl rfl rfl fE k14.m (mapE twoV (putM g ii.dst ((b:Int),(k:Int)))) iR.1 iR.2 fun h15 hs15 ho15 hm15=>?_;exact hK3 () _ _ rfl rfl ⟨_,View.le_trans ly (View.le_trans hW13 hW14),by rw[hst];exact k14.upd ho15 hm15⟩
    rintro _ h12 ⟨Wy,ly,ky⟩;exact hK2 () _ _ rfl rfl ⟨Wy,View.le_trans lx (View.le_trans hW11 ly),by rw[wK];exact ky⟩
   rintro _ h11 ⟨W11,l11,k11⟩;obtain⟨W12,l12,c12,whM⟩:=k11.freeze;have whM : ∀g2:Heap,W12.le (vw g2)->dL (.int .i64) g2 r2 (mapE twoV (whS f)):=whM;have x9:=ae (View.le_trans l11 l12) x9;have x12:=ae (View.le_trans l11 l12) x12;have l1012:=View.le_trans l11 l12;clear k10 k11;simp;subst hz;refine ab fun z hz=>?_;simp;refine dS (z:=.nilFunc) (by kernel_rfl) ?_;have q13:=bM h11 (.cells (Value.nilFunc).cells T.fJ)
   have b13:(h11.push (.cells (Value.nilFunc).cells T.fJ))[h11.size]? = some (.cells (Value.nilFunc).cells T.fJ (0,0)):=by simp
   generalize h11.push (.cells (Value.nilFunc).cells T.fJ)=h13 at *;subst hz;refine ab fun z hz=>?_;simp;refine eX (g:=h11.size) (o:=0) (n:=1) (v:=.func (.func N.bQ) #[] #[ptr F1,ptr B9,ptr B12,ptr h11.size]) (cur:=(Value.nilFunc).cells) (e:=T.fJ) (by kernel_rfl) rfl rfl rfl (by simp[Value.cells,Value.oneCell']) b13 (by simp[Value.cells]) fun h14 hs14 ⟨row,hr14,he14⟩ ho14=>?_;have hrow:row=(Value.func (.func N.bQ) #[] #[ptr F1,ptr B9,ptr B12,ptr h11.size]).cells:=by rw[<-Array.toList_inj,he14];simp[Value.cells]
   rw[hrow]at hr14;have le14:(vw h11).le (vw h14):=fun b o hb=>by have hlt:=View.lt (View.le_refl (vw h11)) hb;show h14[b]? = _;rw[ho14 b (by omega)];exact q13 b o hb
   have c14:=c12.ext le14;have hW14:=c12.up (h':=h14);have x17:aj (grow W12 h11 h14) ⟨h11.size,0,none⟩=some (.func (.func N.bQ) #[] #[ptr F1,ptr B9,ptr B12,ptr h11.size]):=cell_of (by rw[dw (Kz _)];exact hr14) rfl;have l1014:=View.le_trans l1012 hW14;have cv:Cv (grow W12 h11 h14) F1 B9 B12 h11.size r1 r2 f (hasS l) (whS f):=⟨at10.mono l1014,fun p hp=>GK e1 hp,ae hW14 x9,fun g2 hg=>hasM g2 (View.le_trans l1014 hg),ae hW14 x12,fun v w hw=>HX hsm hw,fun g2 hg=>whM g2 (View.le_trans hW14 hg),x17⟩;have hb1:=ae l1014 hb1;have hb2:=hb2.mono l1014;generalize grow W12 h11 h14=W14 at *;generalize h11.size=C at *;clear hr14 ho14 he14 b13 q13 le14 x9 x12 x17 hasM whM;subst hz;refine ab fun z hz=>?_;refine ab fun y hy=>?_;simp[ae c14.wle hb1,hb2.len];subst hy;refine aJ [0,1,3,9,12,17,37,38,39,49,50,51,88,89,90] (fun(_:Unit) b=>[vl,vf,ptr F1,ptr B9,ptr B12,ptr C,vl,.int .i64 l.length,.int .i64 l.length,vb,.int .i64 f.blocks.length,.int .i64 f.blocks.length,vb,.int .i64 f.blocks.length,.int .i64 b])
    (fun _ b hx=>∃Wx,W14.le Wx/\Cx W h Wx hx (fun _=>none)/\((List.range b).findSome? fun b=>(tF f (hasS l) b).map fun i=>(b,i))=none) f.blocks.length ()
    rfl (by omega) rfl ⟨W14,View.le_refl _,c14,rfl⟩ (fun _ _=>rfl) (fun v i h1 hk m=>by simp) ?_ ?_
   ·rintro _ b hx hb ⟨Wx,lx,cx,hno⟩ K2 hK2;obtain⟨ub,hub,rub⟩:=(hb2.mono lx).wh rfl (N:=6) rfl hb;have sb:=hsm.blk b hb;have sbi:=sb.ins;simp only[aH];refine ab fun y hy=>?_;simp(disch:=omega)[((hb2.mono lx).mono cx.wle).idxn (N:=6) rfl,hub _ cx.wle];refine cx.dZ (α:=BlkD) rub (n:=6) (z:=.agg #[.slice none 0 0,.slice none 0 0,.int .i64 0,.slice none 0 0,.slice none 0 0,.int .i32 0]) (by kernel_rfl) rfl rfl (by kernel_rfl) (fun _=>by simp) (fun _=>by simp) fun B2 h15 W15 hW15 c15 at15 hle15=>?_;subst hy;refine ab fun y hy=>?_;obtain⟨vp,vi,va,vt,-,si,-⟩:=kl at15;have bi:=si.2.bound
    simp(disch:=omega)[ae c15.wle si.1,si.2.len];subst hy;have eN:((nth f.blocks b).ins.length:Int)+1=(((nth f.blocks b).ins.length+1:Nat):Int):=by omega
    rw[eN];have l1415:=View.le_trans lx hW15;refine aJ [0,1,3,9,12,17,18,19,37,38,39,49,50,51,88,89,90,98,99] (fun(_:Unit) i=>[vl,vf,ptr F1,ptr B9,ptr B12,ptr C,.int .i64 b,ptr B2,vl,.int .i64 l.length,.int .i64 l.length,vb,.int .i64 f.blocks.length,.int .i64 f.blocks.length,vb,.int .i64 f.blocks.length,.int .i64 b,.int .i64 (((nth f.blocks b).ins.length+1:Nat):Int),.int .i64 i])
     (fun _ i hx=>∃Wx,W15.le Wx/\Cx W h Wx hx (fun _=>none)/\(List.range i).find? (sK f (hasS l) b)=none) ((nth f.blocks b).ins.length+1) ()
     rfl (by omega) rfl ⟨W15,View.le_refl _,c15,rfl⟩ (fun _ _=>rfl) (fun v i h1 hk m=>by simp) ?_ ?_
    ·rintro _ i h16 hi ⟨W16,l16,c16,hno2⟩ K3 hK3;have si16:=si.2.mono l16;have x0:=ae (View.le_trans l16 c16.wle) si.1;have cv16:=cv.mono (View.le_trans l1415 l16);simp only[aH];refine ab fun y hy=>?_;simp;subst hy;refine ab fun y hy=>?_;simp;subst hy;refine ab fun y hy=>?_;refine ix (fun ρ h17=>∃W17,W16.le W17/\Cx W h W17 h17 (fun _=>none)/\Looks ρ [(0,vl),(1,vf),(3,ptr F1),(9,ptr B9),(12,ptr B12),(17,ptr C),(18,.int .i64 b),(19,ptr B2),(20,.int .i64 i),(21,.bool (nB f (whS f) b i)),(37,vl),(38,.int .i64 l.length),(39,.int .i64 l.length),(49,vb),(50,.int .i64 f.blocks.length),(51,.int .i64 f.blocks.length),(88,vb),(89,.int .i64 f.blocks.length),(90,.int .i64 b),(98,.int .i64 (((nth f.blocks b).ins.length+1:Nat):Int)),(99,.int .i64 i)]) ?_ ?_
     ·intro K4 hK4;refine ab fun x hx=>?_;by_cases ci:i<(nth f.blocks b).ins.length
      ·have hii:((i:Int)<((nth f.blocks b).ins.length:Int)):=by omega
       have ax:=(si16.at ci);rw[<-az ci]at ax;have q0:=ae c16.wle (ax.part InsD.qw).int;have q1:=(ax.part InsD.iN).int;have hx5:=si16.idxn (k:=.i64) (N:=5) rfl (i:=(i:Int)) (by omega) (by omega);generalize hii2:nth (nth f.blocks b).ins i=ii at *;have q0:aj (vw h16) (((slA vi).add (i*5)).add 0)=some (.int .i64 ii.op):=q0;have q1:aj W16 (((slA vi).add (i*5)).add 1)=some (.int .i64 ii.dst):=q1;have hx5:Bn.ev (.idx 5) vi (.int .i64 (i:Int))=some (.pointer (some ((slA vi).add (i*5)))):=by simpa using hx5
       by_cases o16:ii.op=16
       ·have hn:nB f (whS f) b i=true:=by unfold nB;rw[hii2];simp[o16]
        simp[x0,si16.len,hii,hx5,q0,o16];subst hx;simp;exact hK4 _ _ ⟨W16,View.le_refl _,c16,by rw[hn];simp[Looks]⟩
       have hn:nB f (whS f) b i=!decide (whS f ii.dst=some ((b:Int),(i:Int))):=by unfold nB;rw[hii2];simp[o16,ci]
       simp[x0,si16.len,hii,hx5,q0,o16];subst hx;refine aU (by simp) ?_;refine ab fun x hx=>?_;have wr:Rd W16 (((whS f ii.dst).map twoV).getD (.agg #[.int .i64 0,.int .i64 0])) ((whS f ii.dst).getD (0,0)):=by
        cases hv:whS f ii.dst with
        | none=>exact oV.2 ⟨rfl,by decide,by decide⟩
        | some w=>exact oV.2 ⟨rfl,(cv16.whR ii.dst w hv).1,(cv16.whR ii.dst w hv).2⟩
       have hww:((whS f ii.dst).map twoV).getD (.agg #[.int .i64 0,.int .i64 0])=twoV ((whS f ii.dst).getD (0,0)):=by cases whS f ii.dst<;>rfl
       refine ix (fun ρ h17=>∃B22,Cx W h W16 h17 (fun _=>none)/\Un.ev (vw h17) (.au 2) (ptr B22)=some (twoV ((whS f ii.dst).getD (0,0)))/\Looks ρ [(0,vl),(1,vf),(3,ptr F1),(9,ptr B9),(12,ptr B12),(17,ptr C),(18,.int .i64 b),(19,ptr B2),(20,.int .i64 i),(21,.bool true),(22,ptr B22),(23,.bool (whS f ii.dst).isSome),(37,vl),(38,.int .i64 l.length),(39,.int .i64 l.length),(49,vb),(50,.int .i64 f.blocks.length),(51,.int .i64 f.blocks.length),(88,vb),(89,.int .i64 f.blocks.length),(90,.int .i64 b),(98,.int .i64 (((nth f.blocks b).ins.length+1:Nat):Int)),(99,.int .i64 i)]) ?_ ?_
       ·intro K5 hK5;refine aS W16 c16.wle ?_;have q1:=q1;refine iq ?_ ?_
        ·simp[cv16.whC,si.1,si.1,ae l16 si.1,hx5,q1];refine lO (f:=mapE twoV (whS f)) (z:=.agg #[.int .i64 0,.int .i64 0]) (k:=T.int) (e:=T.gL) (d:=.int .i64) (r:=r2) (u:=.int .i64 ii.dst) U.gx U.int (by kernel_rfl) rfl rfl fE (cv16.whM h16 c16.wle) ?_;simp;refine c16.cO (k:=(0,0)) (n:=1) (z:=.agg #[.int .i64 0,.int .i64 0]) rfl (by kernel_rfl) rfl (by decide) (by simp[Value.cells,Value.oneCell']) fun B22 h17 hle17 c17=>?_;refine c17.bh (k:=(0,0)) (n:=1) Own.an wr rfl rfl (by kernel_rfl) rfl rfl fun h18 l18 hl18 c18=>?_;have hall:=c18.all (k:=(0,0)) (n:=1) (l:=l18) (B:=B22) (e:=T.gL) Own.an;refine hK5 _ _ ⟨B22,⟨c18.own.sub fun k i e=>by(cases e),c18.old,c18.le0,fun _ _ _ e=>by cases e⟩,?_,by simp[Looks]⟩;rw[<-hww,hl18];exact hall
        simp[cv16.whC,si.1,ae l16 si.1,hx5,q1];refine c16.cO (k:=(0,0)) (n:=1) (z:=.agg #[.int .i64 0,.int .i64 0]) rfl (by kernel_rfl) rfl (by decide) (by simp[Value.cells,Value.oneCell']) fun B22 h17 hle17 c17=>?_;refine⟨c17.wle,?_⟩;refine lO (f:=mapE twoV (whS f)) (z:=.agg #[.int .i64 0,.int .i64 0]) (k:=T.int) (e:=T.gL) (d:=.int .i64) (r:=r2) (u:=.int .i64 ii.dst) U.gx U.int (by kernel_rfl) rfl rfl fE (cv16.whM h17 c17.wle) ?_;simp;refine c17.bh (k:=(0,0)) (n:=1) Own.an wr rfl rfl (by kernel_rfl) rfl rfl fun h18 l18 hl18 c18=>?_;have hall:=c18.all (k:=(0,0)) (n:=1) (l:=l18) (B:=B22) (e:=T.gL) Own.an;refine hK5 _ _ ⟨B22,⟨c18.own.sub fun k i e=>by(cases e),c18.old,c18.le0,fun _ _ _ e=>by cases e⟩,?_,by simp[Looks]⟩;rw[<-hww,hl18];exact hall
       rintro ρ h17 ⟨B22,c17,x22,L⟩;have L0:=L (0,vl) (by simp);have L1:=L (1,vf) (by simp);have L3:=L (3,ptr F1) (by simp);have L9:=L (9,ptr B9) (by simp);have L12:=L (12,ptr B12) (by simp);have L17:=L (17,ptr C) (by simp);have L18:=L (18,.int .i64 b) (by simp);have L19:=L (19,ptr B2) (by simp);have L20:=L (20,.int .i64 i) (by simp);have L21:=L (21,.bool true) (by simp);have L22:=L (22,ptr B22) (by simp);have L23:=L (23,.bool (whS f ii.dst).isSome) (by simp);have L37:=L (37,vl) (by simp);have L38:=L (38,.int .i64 l.length) (by simp);have L39:=L (39,.int .i64 l.length) (by simp);have L49:=L (49,vb) (by simp);have L50:=L (50,.int .i64 f.blocks.length) (by simp);have L51:=L (51,.int .i64 f.blocks.length) (by simp);have L88:=L (88,vb) (by simp);have L89:=L (89,.int .i64 f.blocks.length) (by simp);have L90:=L (90,.int .i64 b) (by simp);have L98:=L (98,.int .i64 (((nth f.blocks b).ins.length+1:Nat):Int)) (by simp);have L99:=L (99,.int .i64 i) (by simp);simp only at L0 L1 L3 L9 L12 L17 L18 L19 L20 L21 L22 L23 L37 L38 L39 L49 L50 L51 L88 L89 L90 L98 L99;subst hx;refine ab fun x hx=>?_;cases hv:whS f ii.dst with
       | none=>
        have hn:nB f (whS f) b i=true:=by rw[hn,hv];rfl
        rw[hv]at L23;simp[ag,ah,L0,L1,L3,L9,L12,L17,L18,L19,L20,L21,L22,L23,L37,L38,L39,L49,L50,L51,L88,L89,L90,L98,L99];subst hx;simp[ag,ah,L0,L1,L3,L9,L12,L17,L18,L19,L20,L21,L22,L23,L37,L38,L39,L49,L50,L51,L88,L89,L90,L98,L99];exact hK4 _ _ ⟨W16,View.le_refl _,c17,by rw[hn];simp[Looks,ag,ah,L0,L1,L3,L9,L12,L17,L18,L19,L20,L21,L22,L23,L37,L38,L39,L49,L50,L51,L88,L89,L90,L98,L99]⟩
       | some w=>
        have hn:nB f (whS f) b i=!(w.1 == (b:Int)&&w.2 == (i:Int)):=by rw[hn,hv];obtain⟨w1,w2⟩:=w;rw[K0];simp
        rw[hv]at L23 x22;have x22:Un.ev (vw h17) (.au 2) (ptr B22)=some (.agg #[.int .i64 w.1,.int .i64 w.2]):=x22;simp[ag,ah,L0,L1,L3,L9,L12,L17,L18,L19,L20,L21,L22,L23,L37,L38,L39,L49,L50,L51,L88,L89,L90,L98,L99,x22];refine aq (z:=.agg #[.int .i64 0,.int .i64 0]) (places:=[(0,1),(1,1)]) (vs:=[(0,.int .i64 b),(1,.int .i64 i)]) (cs:=#[.int .i64 b,.int .i64 i]) (by kernel_rfl) (by kernel_rfl) (by simp) (by rfl) ?_;refine Aw (t:=T.gL) (e:=T.int) (a:=w.1) (b:=w.2) (c:=(b:Int)) (d:=(i:Int)) (ki:=.i64) U.gL U.int (by kernel_rfl) (by kernel_rfl) (by kernel_rfl) rfl rfl ?_;subst hx;cases he:(w.1 == (b:Int)&&w.2 == (i:Int))with
        | false=>rw[he]at hn;simp[ag,ah,L0,L1,L3,L9,L12,L17,L18,L19,L20,L21,L22,L23,L37,L38,L39,L49,L50,L51,L88,L89,L90,L98,L99];exact hK4 _ _ ⟨W16,View.le_refl _,c17,by rw[hn];simp[Looks,ag,ah,L0,L1,L3,L9,L12,L17,L18,L19,L20,L21,L22,L23,L37,L38,L39,L49,L50,L51,L88,L89,L90,L98,L99]⟩
        | true=>rw[he]at hn;simp[ag,ah,L0,L1,L3,L9,L12,L17,L18,L19,L20,L21,L22,L23,L37,L38,L39,L49,L50,L51,L88,L89,L90,L98,L99];exact hK4 _ _ ⟨W16,View.le_refl _,c17,by rw[hn];simp[Looks,ag,ah,L0,L1,L3,L9,L12,L17,L18,L19,L20,L21,L22,L23,L37,L38,L39,L49,L50,L51,L88,L89,L90,L98,L99]⟩
      have hn:nB f (whS f) b i=true:=by unfold nB;simp[ci]
      have hii:¬((i:Int)<((nth f.blocks b).ins.length:Int)):=by omega
      simp[x0,si16.len,hii];subst hx;simp;exact hK4 _ _ ⟨W16,View.le_refl _,c16,by rw[hn];simp[Looks]⟩
     rintro ρ h17 ⟨W17,l17,c17,L⟩;have L0:=L (0,vl) (by simp);have L1:=L (1,vf) (by simp);have L3:=L (3,ptr F1) (by simp);have L9:=L (9,ptr B9) (by simp);have L12:=L (12,ptr B12) (by simp);have L17:=L (17,ptr C) (by simp);have L18:=L (18,.int .i64 b) (by simp);have L19:=L (19,ptr B2) (by simp);have L20:=L (20,.int .i64 i) (by simp);have L21:=L (21,.bool (nB f (whS f) b i)) (by simp);have L37:=L (37,vl) (by simp);have L38:=L (38,.int .i64 l.length) (by simp);have L39:=L (39,.int .i64 l.length) (by simp);have L49:=L (49,vb) (by simp);have L50:=L (50,.int .i64 f.blocks.length) (by simp);have L51:=L (51,.int .i64 f.blocks.length) (by simp);have L88:=L (88,vb) (by simp);have L89:=L (89,.int .i64 f.blocks.length) (by simp);have L90:=L (90,.int .i64 b) (by simp);have L98:=L (98,.int .i64 (((nth f.blocks b).ins.length+1:Nat):Int)) (by simp);have L99:=L (99,.int .i64 i) (by simp);simp only at L0 L1 L3 L9 L12 L17 L18 L19 L20 L21 L37 L38 L39 L49 L50 L51 L88 L89 L90 L98 L99;have cv17:=cv16.mono l17;have hplc:dz f b i=true:=by simp[dz];omega
     have hstep : ∀X,sK f (hasS l) b i=X->X=false->(List.range (i+1)).find? (sK f (hasS l) b)=none:=fun X hX hf=>by rw[MM,Nk,hno2,MG,List.find?_singleton,hX,hf];rfl
     subst hy;refine ab fun y hy=>?_;cases hn:nB f (whS f) b i with
     | false=>rw[hn]at L21;simp[ag,ah,L0,L1,L3,L9,L12,L17,L18,L19,L20,L21,L37,L38,L39,L49,L50,L51,L88,L89,L90,L98,L99];subst hy;simp[ag,ah,L0,L1,L3,L9,L12,L17,L18,L19,L20,L21,L37,L38,L39,L49,L50,L51,L88,L89,L90,L98,L99];refine hK3 () _ _ (by simp[ag,ah,L0,L1,L3,L9,L12,L17,L18,L19,L20,L21,L37,L38,L39,L49,L50,L51,L88,L89,L90,L98,L99]) (by simp[bF,ag,ah,L0,L1,L3,L9,L12,L17,L18,L19,L20,L21,L37,L38,L39,L49,L50,L51,L88,L89,L90,L98,L99]) ⟨W17,View.le_trans l16 l17,c17,hstep _ rfl (by unfold sK;rw[hn];rfl)⟩
     | true=>
      rw[hn]at L21;simp[ag,ah,L0,L1,L3,L9,L12,L17,L18,L19,L20,L21,L37,L38,L39,L49,L50,L51,L88,L89,L90,L98,L99,ae c17.wle cv17.can];refine bI (ops:=[.tmp 138,.tmp 139]) (caps:=#[ptr F1,ptr B9,ptr B12,ptr C]) rfl (by kernel_rfl) (EA m hsm hM hd (i+1) (b:=(b:Int)) (i:=(i:Int)) cv17 c17.wle hplc (by omega)) ?_;rintro _ h18 ⟨hle18,rfl⟩;have c18:=c17.ext hle18;have hW18:=c17.up (h':=h18);simp[ag,ah,L0,L1,L3,L9,L12,L17,L18,L19,L20,L21,L37,L38,L39,L49,L50,L51,L88,L89,L90,L98,L99];subst hy;cases hcn:canS f (hasS l) (whS f) (i+1) b i with
      | true=>simp[ag,ah,L0,L1,L3,L9,L12,L17,L18,L19,L20,L21,L37,L38,L39,L49,L50,L51,L88,L89,L90,L98,L99];refine hK3 () _ _ (by simp[ag,ah,L0,L1,L3,L9,L12,L17,L18,L19,L20,L21,L37,L38,L39,L49,L50,L51,L88,L89,L90,L98,L99]) (by simp[bF,ag,ah,L0,L1,L3,L9,L12,L17,L18,L19,L20,L21,L37,L38,L39,L49,L50,L51,L88,L89,L90,L98,L99]) ⟨_,View.le_trans l16 (View.le_trans l17 hW18),c18,hstep _ rfl (by unfold sK;rw[hn,hcn];rfl)⟩
      | false=>
       have hbad:sK f (hasS l) b i=true:=by unfold sK;rw[hn,hcn];rfl
       have hrow:tF f (hasS l) b=some i:=by unfold tF;exact find_range hi hno2 hbad
       have hfirst:ox f (hasS l)=some (b,i):=by unfold ox;exact tH hb hno (by rw[hrow];rfl)
       rw[hfirst]at hK;simp[ag,ah,L0,L1,L3,L9,L12,L17,L18,L19,L20,L21,L37,L38,L39,L49,L50,L51,L88,L89,L90,L98,L99];exact hK _ _ ⟨c18.le0,rfl⟩
    rintro _ h16 ⟨W16,l16,c16,hno2⟩;refine hK2 () _ _ rfl rfl ⟨W16,View.le_trans l1415 l16,c16,?_⟩;rw[MM,MN,hno,MG];simp[tF,hno2]
   rintro _ hx ⟨Wx,lx,cx,hno⟩;have e:ox f (hasS l)=none:=hno;rw[e]at hK;simp;subst hz;simp;exact hK _ _ ⟨cx.le0,rfl⟩
 have e:iZ l f=((jw l).1,0,0):=by unfold iZ;rw[if_pos e1]
 simp[e1];exact hK _ _ ⟨c2.le0,by rw[e]⟩
end Go.Proofs.YtnfiilgdjpdlkaaGreatDoor
namespace Go.Proofs.YtnfiilgdjpdlkaaGreatDoor
open Go Go.Lft
theorem Ai{val:Int}{x:Int × Int}{l:List Th}: ∀{y:WL},x∈l.foldl (tw val) y↔x∈y\/∃t∈l,x=(t.blk,t.place)/\val∈t.tks:=by
 induction l with
 | nil=>simp
 | cons t l ih=>
  intro y;rw[K1,ih,tw,pq];simp only[KP,exists_eq_or_imp];constructor
  ·rintro((h | h) | h)
   ·exact .inl h
   ·exact .inr (.inl h)
   exact .inr (.inr h)
  rintro(h | h | h)
  ·exact .inl (.inl h)
  ·exact .inl (.inr h)
  exact .inr h
theorem pC{f:ak}{v:Int}(h:fH f v=true){t t':Th}(ht:t∈aF f)(ht':t'∈aF f)(hm:v∈t.mks)(hk:v∈t'.tks):t.blk=t'.blk/\t.place<t'.place:=by
 unfold fH kU at h;simp only[KE]at h;have hb:=h.1;unfold mY at hb;simp at hb;obtain⟨⟨⟨⟨b1,b2⟩,b3⟩,b4⟩,b5⟩:=hb;have m1:(t.blk,t.place)∈oE v (aF f):=qn.2 (.inr ⟨t,ht,rfl,hm⟩);have m2:(t'.blk,t'.place)∈me v (aF f):=Ai.2 (.inr ⟨t',ht',rfl,hk⟩);have one : ∀{l:WL} {x:Int × Int},l.length=1->x∈l->nth l 0=x:=by
  intro l x hl hx;match l,hl with
  | [y],_=>simp at hx;rw[hx];rfl
 have e1:=one (by omega) m1;have e2:=one (by omega) m2;rw[e1,e2]at b4;rw[e1,e2]at b5;exact⟨b4,by simpa using b5⟩
theorem oJ{f:ak}{b k:Nat}(hb:b<f.blocks.length)(hk:k<(nth f.blocks b).ins.length):insT f b k∈aF f:=iT.2 ⟨b,hb,km.2 (.inr (.inl ⟨k,hk,rfl⟩))⟩
theorem C5{f:ak}{b:Nat}(hb:b<f.blocks.length):endT f b∈aF f:=iT.2 ⟨b,hb,km.2 (.inr (.inr rfl))⟩
def ownArgs (s:bN):List Int:=if s.term then s.t.args else s.i.args
def uI (f:ak) (args:List Int) (v:Int):Prop:=∃v2 op,v2∈args/\(aK f v2 op).2=true/\v∈(aK f v2 op).1.args
theorem q7{l:List Int}{v:Int}(h:v∈l.drop 1):v∈l:=List.mem_of_mem_drop h
theorem qR{f:ak}{i:InsD}{m lo hi sg:Int}{x:FitD}(hl:1<=i.args.length)(h:immS f i m lo hi sg=some x){v:Int}(hv:v∈x.takes):v∈i.args:=by
 unfold immS at h;split at h
 ·cases h;simp at hv;subst hv;exact cj (by omega)
 cases h
theorem zk{f:ak}{i:InsD}{temp op pl su:Int}{k:Nat}{x:FitD}(hall : ∀i∈fm f,tR i)(hl:1<=i.args.length)(h:memS f i temp op pl su k=some x){v:Int}(hv:v∈x.takes):v∈i.args\/uI f i.args v:=by
 have h0:nth i.args 0∈i.args:=cj (by omega);have hin : ∀{j},(aK f (nth i.args 0) 2).2=true->j<2->uI f i.args (nth (aK f (nth i.args 0) 2).1.args j):=fun{j} hb hj=>by obtain⟨m1,m2,-⟩:=jS hb;have:=(hall _ m1).two (by omega);exact⟨_,2,h0,hb,cj (by omega)⟩
 match k with
 | 0=>
  simp only[memS]at h;split at h
  ·cases h;rcases KP.1 hv with rfl | hv
   ·exact .inl h0
   exact .inl (q7 hv)
  cases h
 | 1=>
  simp only[memS]at h;split at h
  ·rename_i c;split at h
   ·cases h;rcases KP.1 hv with rfl | hv
    ·exact .inr (hin c (by decide))
    exact .inl (q7 hv)
   cases h
  cases h
 | 2=>
  simp only[memS]at h;split at h
  ·rename_i c;simp only[KE]at c;cases h;rcases KP.1 hv with rfl | hv
   ·exact .inr (hin c.1 (by decide))
   rcases KP.1 hv with rfl | hv
   ·exact .inr (hin c.1 (by decide))
   exact .inl (q7 hv)
  cases h
 | k+3=>
  simp only[memS]at h;cases h;rcases KP.1 hv with rfl | hv
  ·exact .inl h0
  exact .inl (q7 hv)
theorem Ae{s:bN}{pat:Int}{x:FitD}(hok:lk s)(ht:uV s.t)(h:tryS s pat=some x){v:Int}(hv:v∈x.takes):v∈ownArgs s\/uI s.f (ownArgs s) v:=by
 unfold tryS at h;unfold ownArgs;cases htm:s.term with
 | true=>
  rw[htm,if_pos rfl]at h;rw[if_pos rfl];unfold gN at h;split at h
  ·cases h;cases hv
  split at h
  ·cases h;exact .inl hv
  split at h
  ·cases h;cases hv
  split at h
  ·cases h;exact .inl hv
  split at h
  ·rename_i c;split at h
   ·rename_i c2;cases h;exact .inr ⟨_,_,cj (ht.one (.inl c.2)),c2,hv⟩
   cases h
  split at h
  ·cases h;exact .inl hv
  cases h
 | false=>
  rw[htm,if_neg (by simp)]at h;rw[if_neg (by simp)];unfold patS at h;split at h
  ·rename_i c;obtain⟨c1,c2,c3⟩:=c;have hp1:1<=pat.toNat/\pat.toNat<=32:=by omega
   generalize pat.toNat=p at *;have len:16<=p->p<=30->1<=s.i.args.length:=by
    intro h2 h30;have hopr:(2<=s.i.op/\s.i.op<=14)\/s.i.op=16\/s.i.op=15:=by
     rw[c3];unfold opOf;repeat' split
     all_goals omega
    rcases hopr with q | q | q
    ·have:=hok.one.two (.inl q);omega
    ·have:=hok.one.two (.inr (.inl q));omega
    exact hok.one.one q
   unfold doS at h;by_cases p1:p=1
   ·rw[if_pos p1]at h;by_cases q:inR s.i.imm.v (-32768) 32767=true
    ·rw[if_pos q]at h;cases h;cases hv
    rw[if_neg q]at h;cases h
   rw[if_neg p1]at h;by_cases p2:p=2
   ·rw[if_pos p2]at h;cases h;cases hv
   rw[if_neg p2]at h;by_cases p15:p<=15
   ·rw[if_pos p15]at h;cases h;exact .inl hv
   rw[if_neg p15]at h;by_cases p16:p=16
   ·rw[if_pos p16]at h;exact .inl (qR (len (by omega) (by omega)) h hv)
   rw[if_neg p16]at h;by_cases p17:p=17
   ·rw[if_pos p17]at h;exact .inl (qR (len (by omega) (by omega)) h hv)
   rw[if_neg p17]at h;by_cases p18:p=18
   ·rw[if_pos p18]at h;exact .inl (qR (len (by omega) (by omega)) h hv)
   rw[if_neg p18]at h;by_cases p21:p<=21
   ·rw[if_pos p21]at h;exact .inl (qR (len (by omega) (by omega)) h hv)
   rw[if_neg p21]at h;by_cases p22:p=22
   ·rw[if_pos p22]at h;by_cases q:(aK s.f (nth s.i.args 0) 4).2=true
    ·rw[if_pos q]at h;have l1:=len (by omega) (by omega);have l2:=hok.one.two (by rw[c3,p22];exact .inl (by decide));obtain⟨m1,m2,-⟩:=jS q;have l3:=(hok.all _ m1).two (by omega);cases h;rcases KP.1 hv with rfl | hv
     ·exact .inr ⟨_,_,cj (by omega),q,cj (by omega)⟩
     rcases KP.1 hv with rfl | hv
     ·exact .inr ⟨_,_,cj (by omega),q,cj (by omega)⟩
     rcases KP.1 hv with rfl | hv
     ·exact .inl (cj (by omega))
     cases hv
    rw[if_neg q]at h;cases h
   rw[if_neg p22]at h;by_cases p26:p<=26
   ·rw[if_pos p26]at h;exact zk hok.all (len (by omega) (by omega)) h hv
   rw[if_neg p26]at h;by_cases p30:p<=30
   ·rw[if_pos p30]at h;exact zk hok.all (len (by omega) (by omega)) h hv
   rw[if_neg p30]at h;by_cases p31:p=31
   ·rw[if_pos p31]at h;cases h;exact .inl hv
   rw[if_neg p31]at h;cases h;exact .inl hv
  cases h
theorem Gw{f:ak}(m:nC f)(hsm:SmF f)(hr : ∀i∈fm f,-2147483648<=i.imm.v/\i.imm.v<=2147483647):Down f (whS f):=by
 intro b i pat x v w hpl hx hv hw;obtain⟨h1,h2,h3,h4⟩:=yY (temp:=0) m hsm hr hpl;obtain⟨b',k',hb',hk',rfl,hd,ho16,ho18,hfo⟩:=Eu hw;simp[dz]at hpl;obtain⟨⟨⟨g1,g2⟩,g3⟩,g4⟩:=hpl;have hb:b.toNat<f.blocks.length:=by omega
 have made : ∀{b k:Nat} {u:Int},b<f.blocks.length->k<(nth f.blocks b).ins.length->(nth (nth f.blocks b).ins k).dst=u->(nth (nth f.blocks b).ins k).op≠16->u∈(insT f b k).mks:=by intro b k u hb hk hd ho;show u∈cQ (nth (nth f.blocks b).ins k);unfold cQ;rw[if_neg ho];split<;>simp[hd]
 have hmk:=made hb' hk' hd ho16;obtain⟨t,ht,htb,htp,hta⟩ : ∃t∈aF f,t.blk=b/\t.place=i/\t.tks=ownArgs (eZ f b i 0):=by
  unfold ownArgs eZ;by_cases e:i=(nth f.blocks b.toNat).ins.length
  ·rw[if_pos e,if_pos rfl];exact⟨_,C5 hb,by show((b.toNat:Nat):Int)=b;omega,by show(((nth f.blocks b.toNat).ins.length:Nat):Int)=i;omega,rfl⟩
  rw[if_neg e,if_neg (by simp)];exact⟨_,oJ hb (k:=i.toNat) (by omega),by show((b.toNat:Nat):Int)=b;omega,by show((i.toNat:Nat):Int)=i;omega,rfl⟩
 have key : ∃t2∈aF f,t2.blk=b/\t2.place<=i/\v∈t2.tks:=by
  rcases Ae h1 h2 hx hv with hv | ⟨v2,op,hv2,hf2,hv⟩
  ·exact⟨t,ht,htb,by omega,by rw[hta];exact hv⟩
  rw[h4]at hf2 hv;obtain⟨m1,m2,m3,m4,m5⟩:=jS hf2;obtain⟨b2,k2,hb2,hk2,e2⟩:=mU.1 m1;rw[e2]at m4 m5 hv;have hm2:=made hb2 hk2 m4 m5;obtain⟨q1,q2⟩:=pC m3 (oJ hb2 hk2) ht hm2 (by rw[hta];exact hv2);exact⟨_,oJ hb2 hk2,by rw[q1,htb],by rw[htp]at q2;omega,hv⟩
 obtain⟨t2,ht2,e1,e2,e3⟩:=key;obtain⟨q1,q2⟩:=pC hfo (oJ hb' hk') ht2 hmk e3;have q1:(b':Int)=t2.blk:=q1;have q2:(k':Int)<t2.place:=q2;refine⟨?_,by simp only;omega⟩;simp[dz];omega
def lA:List Int:=[1,2,1,1,3,1,1,1,1,1,1,1,1,1,12,1,1,1,1,1,1,3,2,2,2,4,1,1,1,3,6,4,1,1,1,1,2]
def allT:List fg:=rows (fun i=>⟨(i:Int)+1,nth lA i⟩) 37
theorem qZ{W:View}{p c:Int}(hp:I64 p)(hc:I64 c):Rd W (.agg #[.int .i64 p,.int .i64 c]) (⟨p,c⟩:fg):=by unfold Rd;rw[if_pos (show Rep.agg fg=true from rfl)];exact⟨_,rfl,[.int .i64 p],[.int .i64 c],rfl,⟨rfl,hp⟩,rfl,hc⟩
theorem tJ {W:View} : ∀{l:List Int},(∀x∈l,I64 x)->ov W (l.map fun c=>.int .i64 c) l
 | [],_=>trivial
 | x::l,h=>⟨bC.2 ⟨rfl,h x (KI ..)⟩,tJ fun y hy=>h y (KJ _ hy)⟩
theorem wz: ∀x∈lA,1<=x/\x<=12:=by
 have h:lA.all (fun x=>decide (1<=x)&&decide (x<=12))=true:=by kernel_rfl
 exact fun x hx=>by simpa using Lo.1 h x hx
theorem HQ{h:Heap}:aw Tryz.prog N.ik #[] h (fun u h'=>(vw h).le (vw h')/\SlRd (vw h') u allT):=by
 refine ao (args:=[]) follows F.ik E.ik (Kw (by kernel_rfl)) fun K hK=>?_;dsimp only[L.ik];refine ab fun z hz=>?_;simp;subst hz;refine ab fun z hz=>?_;simp;subst hz;refine ab fun z hz=>?_;simp;refine ke (α:=Int) (ds:=lA) (vs:=lA.map fun c=>.int .i64 c) (X:=nothing) El.aP (by kernel_rfl) (tJ fun x hx=>by have:=wz x hx;constructor<;>omega) rfl (by decide) (by decide) fun uc h1 hle1 hs1 huc hb1=>?_;have huc:=huc (vw h1) (bs) rfl;have hl:=huc.len (K:=vw h1);have hl37:lA.length=37:=rfl;rw[hl37]at hl;simp[hl];refine aJ [0,1,4,5,6] (fun(vo:Value) k=>[.slice none 0 0,vo,uc,.int .i64 37,.int .i64 k])
   (fun vo k h2=>Mine nothing h1 h2 nothing T.lE vo (rows (fun i=>(⟨(i:Int)+1,nth lA i⟩:fg)) k)) 37 (.slice none 0 0)
   rfl (by omega) rfl (Mine.start bs) (fun _ _=>rfl) (fun v i h1 hk m=>by simp) ?_ ?_
 ·rintro vo k h2 hk m K2 hK2;have hle:=m.old;have e1:=huc.idx1 (k:=.i64) (i:=(k:Int)) rfl (by omega) (by rw[hl37];omega);have e2:=ae hle (huc.int (View.le_refl _) (i:=k) (by rw[hl37];omega));simp only[KT]at e1;have hc:=wz _ (cj (l:=lA) (i:=k) (by rw[hl37];omega));have ew:IntKind.i64.wrap ((k:Int)+1)=(k:Int)+1:=bE (by omega) (by omega);refine ab fun y hy=>?_;simp[e1,e2];subst hy;simp[ew];refine aq (t:=T.lE) (z:=.agg #[.int .i64 0,.int .i64 0]) (places:=[(0,1),(1,1)]) (vs:=[(0,.int .i64 ((k:Int)+1)),(1,.int .i64 (nth lA k))]) (cs:=#[.int .i64 ((k:Int)+1),.int .i64 (nth lA k)]) (by kernel_rfl) (by kernel_rfl) (by simp) (by rfl) ?_;refine m.push (u:=.agg #[.int .i64 ((k:Int)+1),.int .i64 (nth lA k)]) El.jP (by simp) (qZ (by constructor<;>omega) (by constructor<;>omega)) (by simp;omega) (by simp;omega) (fun _=>by simp) (fun _=>by simp) fun u v' h5 m'=>?_;refine hK2 v' _ _ rfl rfl ?_;rw[ft];exact m'
 rintro vo h2 m;simp;subst hz;simp;exact hK _ _ ⟨View.le_trans hle1 m.old,m.now⟩
variable{va vb:Value}
theorem xH{a b:List Int}{h:Heap}(ha:SlRd (vw h) va a)(hb:SlRd (vw h) vb b):
  aw Tryz.prog N.eW #[va,vb] h (fun u h'=>u = .bool (decide (a=b))/\h'=h):=by
 refine ao (args:=[va,vb]) follows F.eW E.eW (Kw (by kernel_rfl)) fun K hK=>?_;have hbd:=ha.bound;dsimp only[L.eW];refine ab fun z hz=>?_;simp;subst hz;refine ab fun z hz=>?_;by_cases hl:a.length=b.length
 ·have hl':(a.length:Int)=b.length:=by omega
  simp[ha.len,hb.len,hl'];subst hz;refine ab fun z hz=>?_;simp;refine dI [0,1,4,5] (fun(_:Unit) i=>[va,vb,.bool false,.int .i64 i]) (fun _ i h3=>h3=h/\∀j,j<i->nth a j=nth b j) a.length ()
   rfl (by omega) rfl ⟨rfl,fun j hj=>by omega⟩ (fun _ _=>rfl) (fun v k h3 hk m=>by simp[ha.len]) ?_ ?_
  ·rintro _ i h hlti ⟨rfl,hpre⟩ K2 hK2;have e1:=ha.idx1 rfl (k:=.i64) (i:=(i:Int)) (by omega) (by omega);have e2:=hb.idx1 rfl (k:=.i64) (i:=(i:Int)) (by omega) (by omega);have e3:=ha.int (View.le_refl _) (i:=i) hlti;have e4:=hb.int (View.le_refl _) (i:=i) (by omega);simp only[KT]at e1 e2;by_cases e:nth a i=nth b i
   ·simp[e1,e2,e3,e4,e];refine hK2 () _ _ rfl rfl ⟨rfl,fun j hj=>?_⟩;rcases KB j i with q | q
    ·exact hpre j q
    have:j=i:=by omega
    subst this;exact e
   simp[e1,e2,e3,e4,e];exact hK _ _ ⟨by rw[decide_eq_false];rintro rfl;exact e rfl,rfl⟩
  rintro _ h ⟨rfl,hpre⟩;have he:a=b:=LU hl fun j h1 h2=>by have:=hpre j h1;rwa [az h1,az h2]at this
  simp;subst hz;simp;exact hK _ _ ⟨by rw[decide_eq_true he],rfl⟩
 have hl':¬(a.length:Int)=b.length:=by omega
 simp[ha.len,hb.len,hl'];exact hK _ _ ⟨by rw[decide_eq_false];rintro rfl;exact hl rfl,rfl⟩
def uy (a b:aW):Bool:=decide (a.op=b.op)&&decide (a.d=b.d)&&decide (a.e=b.e)&&decide (a.a=b.a)&&decide (a.b=b.b)&&decide (a.c=b.c)&&decide (a.imm.v=b.imm.v)&&decide (a.args=b.args)
theorem CN{a b:aW}:uy a b=true↔a=b:=by unfold uy;obtain⟨a1,a2,a3,a4,a5,a6,⟨a7⟩,a8⟩:=a;obtain⟨b1,b2,b3,b4,b5,b6,⟨b7⟩,b8⟩:=b;simp[and_assoc]
def BW (a b:EndD):Bool:=decide (a.op=b.op)&&decide (a.a=b.a)&&decide (a.b=b.b)&&decide (a.imm.v=b.imm.v)&&decide (a.to=b.to)
variable{H:View}
theorem mW{ρ:Nat->Option Value}{a b:E}{p q:Bool}(ha:ev ρ H a=some (.bool p))(hb:p=true->ev ρ H b=some (.bool q)):ev ρ H (.ite a b (.con (.bool false)))=some (.bool (p&&q)):=by
 cases p with
 | true=>simp[ha,hb rfl]
 | false=>simp[ha]
theorem ln{ρ:Nat->Option Value}{a b:E}{k:IntKind}{x y:Int}(ha:ev ρ H a=some (.int k x))(hb:ev ρ H b=some (.int k y)):ev ρ H (.bin (.cmp .eql) a b)=some (.bool (decide (x=y))):=by simp[ha,hb]
theorem ez{ρ:Nat->Option Value}{n off B:Nat}{v:Value}(h2:ρ n=some (.pointer (some ⟨B,0,none⟩)))(hc:aj H (Addr.add ⟨B,0,none⟩ off)=some v):ev ρ H (.un .load (.un (.fld off) (.tmp n)))=some v:=by simp[h2];simpa using hc
theorem zN{a b:aW}{h:Heap}{W:View}(hW:W.le (vw h))(ha:Rd W va a)(hb:Rd W vb b):
  aw Tryz.prog N.ef #[va,vb] h (fun u h'=>u = .bool (uy a b)/\(vw h).le (vw h')):=by
 refine ao (args:=[va,vb]) follows F.ef E.ef (Kw (by kernel_rfl)) fun K hK=>?_;dsimp only[L.ef];have c0:=Cx.start hW;refine ab fun z hz=>?_;simp;refine c0.dy rfl ha fun A h1 W1 hW1 c1 at1 hle1=>?_;refine c1.dy rfl (hb.mono hW1) fun B h2 W2 hW2 c2 at2 hle2=>?_;have at1:=at1.mono hW2
 subst hz;have a0:=ae c2.wle (at1.part aW.qw).int;have a1:=ae c2.wle (at1.part aW.JJ).int;have a2:=ae c2.wle (at1.part aW.Kv).int;have a3:=ae c2.wle (at1.part aW.I5).int;have a4:=ae c2.wle (at1.part aW.Hr).int;have a5:=ae c2.wle (at1.part aW.Kc).int;have b0:=ae c2.wle (at2.part aW.qw).int;have b1:=ae c2.wle (at2.part aW.JJ).int;have b2:=ae c2.wle (at2.part aW.Kv).int;have b3:=ae c2.wle (at2.part aW.I5).int;have b4:=ae c2.wle (at2.part aW.Hr).int;have b5:=ae c2.wle (at2.part aW.Kc).int;obtain⟨ua,ka,sa⟩:=(at1.part aW.fj).sl;obtain⟨ub,kb,sb⟩:=(at2.part aW.fj).sl;refine ab fun z hz=>?_;generalize hc:(E.ite (E.ite (E.ite (E.ite (E.ite (E.ite _ _ _) _ _) _ _) _ _) _ _) _ _)=c;have a6:=ae c2.wle (at1.part aW.gP).i32
 have b6:=ae c2.wle (at2.part aW.gP).i32;have hcv : ∀ρ:Nat->Option Value,ρ 2=some (.pointer (some ⟨A,0,none⟩))->ρ 3=some (.pointer (some ⟨B,0,none⟩))->ev ρ (vw h2) c=some (.bool (decide (a.op=b.op)&&decide (a.d=b.d)&&decide (a.e=b.e)&&decide (a.a=b.a)&&decide (a.b=b.b)&&decide (a.c=b.c)&&decide (a.imm.v=b.imm.v))):=fun ρ r2 r3=>by rw[<-hc];exact mW (mW (mW (mW (mW (mW (ln (ez r2 a0) (ez r3 b0)) fun _=>(ln (ez r2 a1) (ez r3 b1))) fun _=>(ln (ez r2 a2) (ez r3 b2))) fun _=>(ln (ez r2 a3) (ez r3 b3))) fun _=>(ln (ez r2 a4) (ez r3 b4))) fun _=>(ln (ez r2 a5) (ez r3 b5))) fun _=>(ln (ez r2 a6) (ez r3 b6))
 have hka:=ae c2.wle ka;have hkb:=ae c2.wle kb;simp at hka hkb;have key:uy a b=((decide (a.op=b.op)&&decide (a.d=b.d)&&decide (a.e=b.e)&&decide (a.a=b.a)&&decide (a.b=b.b)&&decide (a.c=b.c)&&decide (a.imm.v=b.imm.v))&&decide (a.args=b.args)):=rfl;rw[key]at hK;clear key;generalize (decide (a.op=b.op)&&decide (a.d=b.d)&&decide (a.e=b.e)&&decide (a.a=b.a)&&decide (a.b=b.b)&&decide (a.c=b.c)&&decide (a.imm.v=b.imm.v))=q at hcv hK;clear hc a0 a1 a2 a3 a4 a5 a6 b0 b1 b2 b3 b4 b5 b6;cases q with
 | false=>simp[hcv];subst hz;simp;exact hK _ _ ⟨rfl,c2.le0⟩
 | true=>simp[hcv,hka,hkb];refine af (by kernel_rfl) (xH (sa.mono c2.wle) (sb.mono c2.wle)) ?_;rintro _ h3 ⟨rfl,rfl⟩;subst hz;simp;exact hK _ _ ⟨by rw[MB],c2.le0⟩
theorem AO{a b:EndD}{h:Heap}{W:View}(hW:W.le (vw h))(ha:Rd W va a)(hb:Rd W vb b):
  aw Tryz.prog N.eD #[va,vb] h (fun u h'=>u = .bool (BW a b)/\(vw h).le (vw h')):=by
 refine ao (args:=[va,vb]) follows F.eD E.eD (Kw (by kernel_rfl)) fun K hK=>?_;dsimp only[L.eD];have c0:=Cx.start hW;refine ab fun z hz=>?_;simp;refine c0.dy rfl ha fun A h1 W1 hW1 c1 at1 hle1=>?_;refine c1.dy rfl (hb.mono hW1) fun B h2 W2 hW2 c2 at2 hle2=>?_;have at1:=at1.mono hW2
 subst hz;have a0:=ae c2.wle (at1.part EndD.qw).int;have a1:=ae c2.wle (at1.part EndD.I5).int;have a2:=ae c2.wle (at1.part EndD.Hr).int;have a4:=ae c2.wle (at1.part EndD.gP).i32;have b0:=ae c2.wle (at2.part EndD.qw).int;have b1:=ae c2.wle (at2.part EndD.I5).int;have b2:=ae c2.wle (at2.part EndD.Hr).int;have b4:=ae c2.wle (at2.part EndD.gP).i32;obtain⟨ua,ka,sa⟩:=(at1.part EndD.yb).sl;obtain⟨ub,kb,sb⟩:=(at2.part EndD.yb).sl;refine ab fun z hz=>?_;generalize hc:(E.ite (E.ite (E.ite _ _ _) _ _) _ _)=c;have hcv : ∀ρ:Nat->Option Value,ρ 2=some (.pointer (some ⟨A,0,none⟩))->ρ 3=some (.pointer (some ⟨B,0,none⟩))->ev ρ (vw h2) c=some (.bool (decide (a.op=b.op)&&decide (a.a=b.a)&&decide (a.b=b.b)&&decide (a.imm.v=b.imm.v))):=fun ρ r2 r3=>by rw[<-hc];exact mW (mW (mW (ln (ez r2 a0) (ez r3 b0)) fun _=>(ln (ez r2 a1) (ez r3 b1))) fun _=>(ln (ez r2 a2) (ez r3 b2))) fun _=>(ln (ez r2 a4) (ez r3 b4))
 have hka:=ae c2.wle ka;have hkb:=ae c2.wle kb;simp at hka hkb;have key:BW a b=((decide (a.op=b.op)&&decide (a.a=b.a)&&decide (a.b=b.b)&&decide (a.imm.v=b.imm.v))&&decide (a.to=b.to)):=rfl;rw[key]at hK;clear key;generalize (decide (a.op=b.op)&&decide (a.a=b.a)&&decide (a.b=b.b)&&decide (a.imm.v=b.imm.v))=q at hcv hK;clear hc a0 a1 a2 a4 b0 b1 b2 b4;cases q with
 | false=>simp[hcv];subst hz;simp;exact hK _ _ ⟨rfl,c2.le0⟩
 | true=>simp[hcv,hka,hkb];refine af (by kernel_rfl) (xH (sa.mono c2.wle) (sb.mono c2.wle)) ?_;rintro _ h3 ⟨rfl,rfl⟩;subst hz;simp;exact hK _ _ ⟨by rw[MB],c2.le0⟩
theorem yP{a b:List aW}{h:Heap}{W:View}(hW:W.le (vw h))(ha:SlRd W va a)(hb:SlRd W vb b):
  aw Tryz.prog N.di #[va,vb] h (fun u h'=>u = .bool (decide (a=b))/\(vw h).le (vw h')):=by
 refine ao (args:=[va,vb]) follows F.di E.di (Kw (by kernel_rfl)) fun K hK=>?_;have hbd:=ha.bound;have c0:=Cx.start hW;dsimp only[L.di];refine ab fun z hz=>?_;simp;subst hz;refine ab fun z hz=>?_;by_cases hl:a.length=b.length
 ·have hl':(a.length:Int)=b.length:=by omega
  simp[ha.len,hb.len,hl'];subst hz;refine ab fun z hz=>?_;simp;refine dI [0,1,4,5] (fun(_:Unit) i=>[va,vb,.bool false,.int .i64 i]) (fun _ i h3=>(∃W3,W.le W3/\Cx W h W3 h3 fun _=>none)/\∀j,j<i->nth a j=nth b j) a.length ()
   rfl (by omega) rfl ⟨⟨W,View.le_refl _,c0⟩,fun j hj=>by omega⟩ (fun _ _=>rfl) (fun v k h3 hk m=>by simp[ha.len]) ?_ ?_
  ·rintro _ i h3 hlti ⟨⟨W3,hW3,c3⟩,hpre⟩ K2 hK2;obtain⟨ua,hua,rua⟩:=(ha.mono hW3).wh rfl (N:=8) rfl hlti;obtain⟨ub,hub,rub⟩:=(hb.mono hW3).wh rfl (N:=8) rfl (i:=i) (by omega);refine ab fun y hy=>?_;refine aS W3 c3.wle ?_;simp(disch:=omega)[(ha.mono hW3).idxn (N:=8) rfl,(hb.mono hW3).idxn (N:=8) rfl,hua _ (View.le_refl _),hub _ (View.le_refl _)];refine af (by kernel_rfl) (zN c3.wle rua rub) ?_;rintro _ h4 ⟨rfl,hle4⟩;have c4:=c3.ext hle4;have e:uy (nth a i) (nth b i)=decide (nth a i=nth b i):=K0.2 (by rw[CN,decide_eq_true_iff]);by_cases e2:nth a i=nth b i
   ·have e':uy (nth a i) (nth b i)=true:=by rw[e,decide_eq_true e2]
    simp[e'];subst hy;simp;refine hK2 () _ _ rfl rfl ⟨⟨_,View.le_trans hW3 c3.up,c4⟩,fun j hj=>?_⟩;rcases KB j i with q | q
    ·exact hpre j q
    have:j=i:=by omega
    subst this;exact e2
   have e':uy (nth a i) (nth b i)=false:=by rw[e,decide_eq_false e2]
   simp[e'];subst hy;simp;exact hK _ _ ⟨by rw[decide_eq_false];rintro rfl;exact e2 rfl,c4.le0⟩
  rintro _ h3 ⟨⟨W3,hW3,c3⟩,hpre⟩;have he:a=b:=LU hl fun j h1 h2=>by have:=hpre j h1;rwa [az h1,az h2]at this
  simp;subst hz;simp;exact hK _ _ ⟨by rw[decide_eq_true he],c3.le0⟩
 have hl':¬(a.length:Int)=b.length:=by omega
 simp[ha.len,hb.len,hl'];exact hK _ _ ⟨by rw[decide_eq_false];rintro rfl;exact hl rfl,View.le_refl _⟩
theorem B8{op dst two:Int}{l:List Int}{imm:I32}(h1:I64 op)(h2:I64 dst)(h3:I64 two)(h4:SlRd H va l)(h5:-2147483648<=imm.v/\imm.v<=2147483647):Rd H (.agg #[.int .i64 op,.int .i64 dst,.int .i64 two,va,.int .i32 imm.v]) (InsD.mk op dst two l imm):=
 ⟨_,rfl,[.int .i64 op],_,rfl,⟨rfl,h1⟩,[.int .i64 dst],_,rfl,⟨rfl,h2⟩,[.int .i64 two],_,rfl,⟨rfl,h3⟩,[va],_,rfl,⟨va,rfl,h4⟩,rfl,h5⟩
theorem FJ{vp vi vt:Value}{p:List PhiD}{i:List InsD}{a t:List Int}{kd:Int}{imm:I32}(h1:SlRd H vp p)(h2:SlRd H vi i)(h3:SlRd H va a)(h4:SlRd H vt t)(h5:I64 kd)(h6:-2147483648<=imm.v/\imm.v<=2147483647):Rd H (.agg #[vp,vi,.int .i64 kd,va,vt,.int .i32 imm.v]) (BlkD.mk p i ⟨kd,a,t,imm⟩):=
 ⟨_,rfl,[vp],_,rfl,⟨vp,rfl,h1⟩,[vi],_,rfl,⟨vi,rfl,h2⟩,[.int .i64 kd],_,rfl,⟨rfl,h5⟩,[va],_,rfl,⟨va,rfl,h3⟩,[vt],_,rfl,⟨vt,rfl,h4⟩,rfl,h6⟩
theorem y5{p:Int}{l:List BlkD}(h1:I64 p)(h2:SlRd H vb l):Rd H (.agg #[.int .i64 p,vb]) (ak.mk p l):=
 ⟨_,rfl,[.int .i64 p],_,rfl,⟨rfl,h1⟩,vb,rfl,h2⟩
theorem SlRd.ex{α:Type}[Rep α]{v:Value}{l:List α}(s:SlRd H v l): ∃a n c,v = .slice a n c:=let ⟨a,c,e,_⟩:=s;⟨a,_,c,e⟩
def twoF:ak:=⟨2,[⟨[],[⟨1,2,0,[],⟨5⟩⟩,⟨2,3,0,[1,2],⟨0⟩⟩],⟨4,[3],[],⟨0⟩⟩⟩]⟩
theorem Ib{h:Heap}{W:View}(hW:W.le (vw h)):aw Tryz.prog N.gI #[] h (fun u h'=>(vw h).le (vw h')/\Rd (grow W h h') u twoF):=by
 refine ao (args:=[]) follows F.gI E.gI (Kw (by kernel_rfl)) fun K hK=>?_;dsimp only[L.gI];have c0:=Cx.start hW;refine ab fun z hz=>?_;simp;refine c0.cO (k:=(0,0)) (n:=1) (z:=.agg #[.int .i64 0,.slice none 0 0]) rfl (by kernel_rfl) rfl (by decide) (by simp[Value.cells,Value.oneCell']) fun R h1 hle1 c1=>?_;subst hz;refine ab fun z hz=>?_;simp;refine aq (t:=T.eV) (z:=.agg #[.int .i64 0,.int .i64 0,.int .i64 0,.slice none 0 0,.int .i32 0]) (places:=[(0,1),(1,1),(2,1),(3,1),(4,1)]) (vs:=[(0,.int .i64 1),(1,.int .i64 2),(4,.int .i32 5)]) (cs:=#[.int .i64 1,.int .i64 2,.int .i64 0,.slice none 0 0,.int .i32 5]) (by kernel_rfl) (by kernel_rfl) (by simp) (by rfl) ?_;refine c1.kG (α:=Int) (vs:=[.int .i64 1,.int .i64 2]) (ds:=[1,2]) El.aP (by kernel_rfl) ⟨bC.2 ⟨rfl,by decide⟩,bC.2 ⟨rfl,by decide⟩,trivial⟩ rfl (by decide) (by decide) fun u2 h2 W2 hW2 c2 s2 hle2=>?_;obtain⟨b2,n2,k2,rfl⟩:=SlRd.ex s2;refine aq (t:=T.eV) (z:=.agg #[.int .i64 0,.int .i64 0,.int .i64 0,.slice none 0 0,.int .i32 0]) (places:=[(0,1),(1,1),(2,1),(3,1),(4,1)]) (vs:=[(0,.int .i64 2),(1,.int .i64 3),(3,(.slice b2 n2 k2))]) (cs:=#[.int .i64 2,.int .i64 3,.int .i64 0,(.slice b2 n2 k2),.int .i32 0]) (by kernel_rfl) (by kernel_rfl) (by simp) (by simp[Instr.fill,Value.cells]) ?_;refine c2.kG (α:=InsD) (vs:=[.agg #[.int .i64 1,.int .i64 2,.int .i64 0,.slice none 0 0,.int .i32 5],.agg #[.int .i64 2,.int .i64 3,.int .i64 0,(.slice b2 n2 k2),.int .i32 0]]) (ds:=[⟨1,2,0,[],⟨5⟩⟩,⟨2,3,0,[1,2],⟨0⟩⟩]) El.mD (by simp) ⟨B8 ⟨by decide,by decide⟩ ⟨by decide,by decide⟩ ⟨by decide,by decide⟩ aI (by decide),B8 ⟨by decide,by decide⟩ ⟨by decide,by decide⟩ ⟨by decide,by decide⟩ s2 (by decide),trivial⟩ rfl (by decide) (by decide) fun u3 h3 W3 hW3 c3 s3 hle3=>?_;obtain⟨b3,n3,k3,rfl⟩:=SlRd.ex s3;refine c3.kG (α:=Int) (vs:=[.int .i64 3]) (ds:=[3]) El.aP (by kernel_rfl) ⟨bC.2 ⟨rfl,by decide⟩,trivial⟩ rfl (by decide) (by decide) fun u4 h4 W4 hW4 c4 s4 hle4=>?_;obtain⟨b4,n4,k4,rfl⟩:=SlRd.ex s4;refine aq (t:=T.iX) (z:=.agg #[.int .i64 0,.slice none 0 0,.slice none 0 0,.int .i32 0]) (places:=[(0,1),(1,1),(2,1),(3,1)]) (vs:=[(0,.int .i64 4),(1,(.slice b4 n4 k4))]) (cs:=#[.int .i64 4,(.slice b4 n4 k4),.slice none 0 0,.int .i32 0]) (by kernel_rfl) (by kernel_rfl) (by simp) (by simp[Instr.fill,Value.cells]) ?_;refine aq (t:=T.fq) (z:=.agg #[.slice none 0 0,.slice none 0 0,.int .i64 0,.slice none 0 0,.slice none 0 0,.int .i32 0]) (places:=[(0,1),(1,1),(2,4)]) (vs:=[(1,(.slice b3 n3 k3)),(2,.agg #[.int .i64 4,(.slice b4 n4 k4),.slice none 0 0,.int .i32 0])]) (cs:=#[.slice none 0 0,(.slice b3 n3 k3),.int .i64 4,(.slice b4 n4 k4),.slice none 0 0,.int .i32 0]) (by kernel_rfl) (by kernel_rfl) (by simp) (by simp[Instr.fill,Value.cells]) ?_;refine c4.kG (α:=BlkD) (vs:=[.agg #[.slice none 0 0,(.slice b3 n3 k3),.int .i64 4,(.slice b4 n4 k4),.slice none 0 0,.int .i32 0]]) (ds:=twoF.blocks) El.lN (by simp) ⟨FJ aI (s3.mono hW4) s4 aI ⟨by decide,by decide⟩ (by decide),trivial⟩ rfl (by decide) (by decide) fun u5 h5 W5 hW5 c5 s5 hle5=>?_;obtain⟨b5,n5,k5,rfl⟩:=SlRd.ex s5;refine aq (t:=T.eI) (z:=.agg #[.int .i64 0,.slice none 0 0]) (places:=[(0,1),(1,1)]) (vs:=[(0,.int .i64 2),(1,(.slice b5 n5 k5))]) (cs:=#[.int .i64 2,(.slice b5 n5 k5)]) (by kernel_rfl) (by kernel_rfl) (by simp) (by simp[Instr.fill,Value.cells]) ?_;refine c5.bh (α:=ak) (k:=(0,0)) (n:=1) (by rfl) (y5 (p:=2) ⟨by decide,by decide⟩ s5) rfl rfl (by kernel_rfl) (by simp) (by simp) fun h6 l6 hl6 c6=>?_;subst hz;have hall:=c6.all (k:=(0,0)) (n:=1) (l:=l6) (B:=R) (e:=T.eI) (by rfl)
 simp at hall;simp[hall];refine hK _ _ ⟨c6.le0,?_⟩;rw[<-hl6];exact(y5 (p:=2) ⟨by decide,by decide⟩ s5).mono c6.fin
end Go.Proofs.YtnfiilgdjpdlkaaGreatDoor
