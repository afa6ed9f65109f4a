/- A part of the proof: ShelfF, Oo, Ub, Ox, Oy, Oz, Qa, Qb, Qc, LftDg, Qd, Qe, Qf, Op, Oq, Or, Os, Qg, Ot, Ou. -/
import Derived.Test.YtnfiilgdjpdlkaaGreatDoorZTInn5
import Derived.Shelf.Strings.Fields
import Derived.Test.YtnfiilgdjpdlkaaGreatDoorRows
import Derived.Lib.LaidTab
import Derived.LaidMore
set_option linter.unusedSimpArgs false
set_option linter.unusedVariables false
open Go.Value renaming int->Pv,slice->PA,pointer->PB
open Go.IntKind renaming i64->Pw,i32->Px
open Option renaming some->Py,none->Pz
open Bool renaming true->PC,false->PD
open Go.Proofs.Tryz renaming prog->PE
namespace Go.Proofs
open Go.Shelf
def Tryz.kh:Go.Shelf.Ren:=⟨fun | 157=>41 | 229=>65 | 199=>66 | 261=>114 | 311=>136 | 312=>137 | n=>n,fun | 9=>9 | 31=>105 | 3=>3 | 5=>5 | 4=>4 | 119=>140 | 0=>0 | 40=>142 | 152=>176 | 21=>21 | 154=>178 | 51=>151 | 141=>180 | 196=>204 | 193=>201 | 198=>207 | 49=>205 | 194=>202 | 201=>210 | 226=>220 | 46=>76 | 227=>221 | n=>n,fun | 0=>0 | 6=>1 | n=>n⟩
theorem Tryz.Gk:Go.Proofs.Lays.n157 PE Tryz.kh:={
 mixed:=by kernel_rfl
 f157:=Tryz.func41.trans (congrArg Py P1)
 f199:=Tryz.func66.trans (congrArg Py P1)
 f229:=Tryz.func65.trans (congrArg Py P1)
 f261:=Tryz.func114.trans (congrArg Py P1)
 f311:=Tryz.func136.trans (congrArg Py P1)
 f312:=Tryz.func137.trans (congrArg Py P1)
 t0:=Tryz.underlying0
 a0:=Tryz.isAgg0
 z0:=Tryz.sizeOf0
 v0:=Tryz.zeroValue0
 t3:=Tryz.underlying3
 a3:=Tryz.isAgg3
 z3:=Tryz.sizeOf3
 v3:=Tryz.zeroValue3
 t4:=Tryz.underlying4
 a4:=Tryz.isAgg4
 z4:=Tryz.sizeOf4
 v4:=Tryz.zeroValue4
 t5:=Tryz.underlying5
 a5:=Tryz.isAgg5
 z5:=Tryz.sizeOf5
 v5:=Tryz.zeroValue5
 t9:=Tryz.underlying9
 a9:=Tryz.isAgg9
 z9:=Tryz.sizeOf9
 v9:=Tryz.zeroValue9
 t21:=Tryz.underlying21
 a21:=Tryz.isAgg21
 z21:=Tryz.sizeOf21
 v21:=Tryz.zeroValue21
 t31:=Tryz.underlying105
 a31:=Tryz.isAgg105
 z31:=Tryz.sizeOf105
 v31:=Tryz.zeroValue105
 t40:=Tryz.underlying142
 a40:=Tryz.isAgg142
 z40:=Tryz.sizeOf142
 v40:=Tryz.zeroValue142
 t46:=Tryz.underlying76
 a46:=Tryz.isAgg76
 z46:=Tryz.sizeOf76
 v46:=Tryz.zeroValue76
 t49:=Tryz.underlying205
 a49:=Tryz.isAgg205
 z49:=Tryz.sizeOf205
 v49:=Tryz.zeroValue205
 t51:=Tryz.underlying151
 a51:=Tryz.isAgg151
 z51:=Tryz.sizeOf151
 v51:=Tryz.zeroValue151
 t119:=Tryz.underlying140
 a119:=Tryz.isAgg140
 z119:=Tryz.sizeOf140
 t141:=Tryz.underlying180
 a141:=Tryz.isAgg180
 z141:=Tryz.sizeOf180
 v141:=Tryz.zeroValue180
 t152:=Tryz.underlying176
 a152:=Tryz.isAgg176
 z152:=Tryz.sizeOf176
 v152:=Tryz.zeroValue176
 t154:=Tryz.underlying178
 a154:=Tryz.isAgg178
 z154:=Tryz.sizeOf178
 v154:=Tryz.zeroValue178
 t193:=Tryz.underlying201
 a193:=Tryz.isAgg201
 z193:=Tryz.sizeOf201
 v193:=Tryz.zeroValue201
 t194:=Tryz.underlying202
 a194:=Tryz.isAgg202
 z194:=Tryz.sizeOf202
 v194:=Tryz.zeroValue202
 t196:=Tryz.underlying204
 a196:=Tryz.isAgg204
 z196:=Tryz.sizeOf204
 v196:=Tryz.zeroValue204
 t198:=Tryz.underlying207
 a198:=Tryz.isAgg207
 z198:=Tryz.sizeOf207
 v198:=Tryz.zeroValue207
 t201:=Tryz.underlying210
 a201:=Tryz.isAgg210
 z201:=Tryz.sizeOf210
 v201:=Tryz.zeroValue210
 t226:=Tryz.underlying220
 a226:=Tryz.isAgg220
 z226:=Tryz.sizeOf220
 v226:=Tryz.zeroValue220
 t227:=Tryz.underlying221
 a227:=Tryz.isAgg221
 z227:=Tryz.sizeOf221
 v227:=Tryz.zeroValue221
 g0:=by kernel_rfl
 g6:=by kernel_rfl }
end Go.Proofs
namespace Go.Lft
open Go
structure StrD where
 v:ByteArray
instance:Rep StrD where
 n:=1
 agg:=false
 rd:=λ_ cs d=>cs=[.string d.v]
 mono:=λ_ h=>h
 len:=λh=>by rw[h];rfl
 one:=λ_=>rfl
 flat:=λh u hu=>by rw[h]at hu;simp at hu;subst hu;rfl
 pos:=OA
 eF:=λh=>h
theorem At.str {H:View} {a:Addr} {d:StrD} (h:At H a d):ak H a=Py (.string d.v):=by
 obtain⟨u,h1,h2⟩:=h.load rfl;have:u = .string d.v:=by unfold Rd at h2;simpa[Rep.agg,Rep.rd]using h2
 rw[this]at h1;exact h1
end Go.Lft
namespace Go.Proofs.YtnfiilgdjpdlkaaGreatDoor
open Go Go.Lft
def Tab (h:Heap):Prop:=∀c:Nat,c<256->ak (vw h) ⟨Tryz.kh.g 0,c,Pz⟩=Py (.int .u8 (if Lib.isSp (UInt8.ofNat c) then 1 else 0))
theorem Tab.mono {h h':Heap} (t:Tab h) (hle:(vw h).le (vw h')):Tab h':=λc hc=>ae hle (t c hc)
theorem JZ {w:World} {b o:Nat} {v:Value} (h:ak (vw w.heap) ⟨b,o,Pz⟩=Py v):w.cell? ⟨b,o,Pz⟩=Py v:=by
 unfold ak at h;unfold World.cell?;simp only[vw]at h;cases hb:w.heap[b]? with
 | none=>rw[hb]at h;simp at h
 | some x=>rw[hb]at h;cases x<;>simp_all
def fieldsD (s:ByteArray):List StrD:=(Lib.fields s.data.toList).map λl=>⟨⟨l.toArray⟩⟩
theorem xC {s:ByteArray} {h:Heap} (ht:Tab h) (hs:s.size<4294967281) (ha : ∀(j:Nat) b,s.data.toList[j]? = Py b->b.toNat<128) (hn:(fieldsD s).length<=1000000) :
  az PE 41 #[.string s] h (λu h'=>(vw h).le (vw h')/\SlRd (vw h') u (fieldsD s)):=by
 intro w hw;subst hw;refine Calls.mono (Any.strings_Fields_core (P:=PE) (ρ:=Tryz.kh) Tryz.Gk P1 s w hs ha λc hc=>JZ (ht c hc)) ?_;rintro e w' ⟨rfl,rfl⟩;refine⟨_,rfl,⟨bQ _ _,?_⟩,gG _ _⟩;have hl:(fieldsD s).length=(Lib.fields s.data.toList).length:=by simp[fieldsD]
 refine⟨Py ⟨w.heap.size,0,Pz⟩,(Lib.fields s.data.toList).length,by rw[hl],by omega,by omega,.inr ⟨_,rfl,rfl,λi hi=>?_⟩⟩;have hi':i<(Lib.fields s.data.toList).length:=by omega
 rw[bG rfl];refine⟨[.string ⟨(Lib.fields s.data.toList)[i].toArray⟩],⟨_,_,_,rfl,World.alloc_heap_new w _,?_⟩,?_⟩
 ·have hn1:Rep.n StrD=1:=rfl;rw[hn1,MA,MP];show List.take 1 (List.drop i ((Lib.fields s.data.toList).map λl=>Value.string ⟨l.toArray⟩))=_;rw[LS (by simpa using hi')];simp
 show[Value.string _]=[Value.string _];simp[fieldsD]
def mD:ByteArray:=⟨#[108,105,32,108,105,119,32,97,100,100,32,115,117,98,32,109,117,108,32,97,110,100,32,111,114,32,120,111,114,32,115,104,108,32,115,104,114,32,115,97,114,32,101,113,32,108,116,32,108,116,117,32,100,105,118,32,97,100,100,105,32,115,117,98,105,32,97,110,100,105,32,115,104,108,105,32,115,104,114,105,32,115,97,114,105,32,109,97,100,100,32,108,100,32,108,100,97,32,108,100,120,32,108,100,108,32,115,116,32,115,116,97,32,115,116,120,32,115,116,108,32,99,97,108,108,32,109,117,108,119,32,98,110,122,32,98,101,113,32,98,108,116,32,98,108,116,117,32,106,116]⟩
def rh (pat:Int):ByteArray:=if 1<=pat/\pat<=37 then((fieldsD mD).getD (pat-1).toNat ⟨⟨#[]⟩⟩).v else⟨#[]⟩
theorem jK:(fieldsD mD).length=37:=by kernel_rfl
theorem tC : ∀(j:Nat) b,mD.data.toList[j]? = Py b->b.toNat<128:=by
 have h:mD.data.toList.all (λb=>decide (b.toNat<128))=true:=by kernel_rfl
 exact λj b hb=>by simpa using LY.1 h b (L4 hb)
theorem Bb:(fieldsD mD).all (λs=>!(s.v.toList == (⟨#[]⟩:ByteArray).toList))=true:=by kernel_rfl
instance:Inhabited StrD:=⟨⟨⟨#[]⟩⟩⟩
theorem Fi {pat:Int}:((rh pat).toList == (⟨#[]⟩:ByteArray).toList)=!inR pat 1 37:=by
 unfold rh;by_cases h:1<=pat/\pat<=37
 ·rw[if_pos h];have hlt:(pat-1).toNat<(fieldsD mD).length:=by rw[jK];omega
  have:=LY.1 Bb _ (MJ hlt);rw[NK,LZ hlt,O5];have e:inR pat 1 37=true:=by simp[inR,h.1,h.2]
  rw[e];simpa using this
 rw[if_neg h];have e:inR pat 1 37=false:=by unfold inR;simpa using h
 rw[e];exact beq_self_eq_true _
theorem wz {pat:Int}:(rh pat).toList.isEmpty=!inR pat 1 37:=by have h:=Fi (pat:=pat);rw[show(⟨#[]⟩:ByteArray).toList=[] by kernel_rfl]at h;rw[<-h];cases (rh pat).toList<;>rfl
theorem Ck {pat:Int} {h:Heap} (ht:Tab h) (hp:I64 pat):az PE 20 #[Pv Pw pat] h (λu h'=>(vw h).le (vw h')/\u = .string (rh pat)):=by
 refine au (args:=[Pv Pw pat]) follows Tryz.func20 E.pG Pp λK hK=>?_;dsimp only[L.pG,lkF,lkG];refine ab λz hz=>?_;simp;subst hz;refine ab λz hz=>?_;simp;refine af P1 (xC (s:=mD) ht (of_decide_eq_true P1) tC (by rw[jK];decide)) ?_;rintro u h1 ⟨hle,hu⟩;have hl:=hu.len (K:=vw h1);rw[jK]at hl;subst hz;refine ab λz hz=>?_;by_cases c1:pat<1
 ·simp[c1];exact hK _ _ ⟨hle,by unfold rh;rw[if_neg P2]⟩
 by_cases c2:37<pat
 ·simp[c1,hl,c2];exact hK _ _ ⟨hle,by unfold rh;rw[if_neg P2]⟩
 have hlt:(pat-1).toNat<(fieldsD mD).length:=by rw[jK];omega
 have hx:=hu.idx1 (k:=.i64) (i:=pat-1) rfl P2 (by rw[jK];omega);have hc:=(hu.at hlt).str;rw[show(pat-1).toNat*Rep.n StrD=(pat-1).toNat from MA _]at hc;have et:(pat-1).toNat=pat.toNat-1:=by omega
 have hc:ak (vw h1) ((slA u).add (pat.toNat-1))=Py (.string ((fieldsD mD)[(pat-1).toNat]).v):=by rw[<-et];exact hc
 have ew:IntKind.i64.wrap (pat-1)=pat-1:=bH (by have:=hp.1;omega) (by have:=hp.2;omega);simp[c1,hl,c2];subst hz;simp[ew,hx,hc];refine hK _ _ ⟨hle,?_⟩;unfold rh;rw[if_pos P2,NK,LZ hlt,O5];simp only[et]
theorem pJ {h:Heap} (ht:Tab h):az PE 24 #[] h (λu h'=>(vw h).le (vw h')/\u = Pv Pw 37):=by refine au (args:=[]) follows Tryz.func24 E.kc Pp λK hK=>?_;dsimp only[L.kc,lkF,lkG];refine ab λz hz=>?_;simp;subst hz;refine ab λz hz=>?_;simp;refine af P1 (xC (s:=mD) ht (of_decide_eq_true P1) tC (by rw[jK];decide)) ?_;rintro u h1 ⟨hle,hu⟩;have hl:=hu.len (K:=vw h1);rw[jK]at hl;simp[hl];subst hz;simp;exact hK _ _ ⟨hle,rfl⟩
def dM (t:dS):Int:=if inR t.pat 1 37=PD then 20 else if inR t.cost 0 1000=PD then 22 else 0
def kL:Nat->List dS->Int × Int
 | _,[]=>(0,0)
 | n,t::l=>if dM t=0 then kL (n+1) l else(dM t,n)
def js (l:List dS):Int × Int:=if 1024<l.length then(2,0) else kL 0 l
theorem sU : ∀{l:List dS} {n:Nat},(∀t∈l,dM t=0)->kL n l=(0,0)
 | [],_,_=>rfl
 | t::l,n,h=>by unfold kL;rw[if_pos (h t (Lz ..))];exact sU λt ht=>h t (LA _ ht)
theorem vN : ∀{l:List dS} {n k:Nat},(hk:k<l.length)->(∀t∈l.take k,dM t=0)->dM (nth l k)≠0->kL n l=(dM (nth l k),((n+k:Nat):Int))
 | t::l,n,0,_,_,h=>by unfold kL;have h:dM t≠0:=h;rw[if_neg h];rfl
 | t::l,n,k+1,hk,h1,h2=>by unfold kL;rw[if_pos (h1 t Sa)];have h2':dM (nth l k)≠0:=h2;have:=vN (n:=n+1) (k:=k) (by simpa using hk) (λt ht=>h1 t (by simp[ht])) h2';rw[this];have e:nth (t::l) (k+1)=nth l k:=rfl;rw[e,show n+1+k=n+(k+1) by omega]
theorem xu {l:List dS} {v:Value} {h:Heap} {W:View} (hW:W.le (vw h)) (hv:SlRd W v l) (ht:Tab h):az PE 23 #[v] h (λu h'=>(vw h).le (vw h')/\u = .tuple #[Pv Pw (js l).1,Pv Pw (js l).2]):=by
 refine au (args:=[v]) follows Tryz.func23 E.dW Pp λK hK=>?_;dsimp only[L.dW,lkF,lkG];have c0:=Cx.start hW;have hl:=hv.len (K:=vw h);have bd:=hv.bound;refine ab λz hz=>?_;simp;subst hz;refine ab λz hz=>?_;by_cases c:(1024:Int)<l.length
 ·simp[hl,c];exact hK _ _ ⟨View.le_refl _,by unfold js;rw[if_pos P2]⟩
 simp[hl,c];subst hz;refine ab λz hz=>?_;simp[hl];refine aO [0,9,10,11] (fun(_:Unit) k=>[v,v,Pv Pw l.length,Pv Pw k])
  (λ_ k h1=>(∀t∈l.take k,dM t=0)/\∃W1,W.le W1/\Cx W h W1 h1 λ_=>Pz) l.length ()
  rfl P2 rfl ⟨by simp,W,View.le_refl _,c0⟩ (λ_ _=>rfl) (λv i h1 hk m=>by simp) ?_ ?_
 ·rintro _ k h1 hk ⟨hb,W1,hW1,c1⟩ K2 hK2;obtain⟨ut,hut,rut⟩:=(hv.mono hW1).wh rfl (N:=2) rfl hk;refine ab λy hy=>?_;simp(disch:=omega)[((hv.mono hW1).mono c1.wle).idxn (N:=2) rfl,hut _ c1.wle];refine c1.dA (α:=dS) rut (n:=2) (z:=.agg #[Pv Pw 0,Pv Pw 0]) P1 rfl rfl P1 P5 P5 λB h2 W2 hW2 c2 at2 hle2=>?_;have q0:=(at2.part dS.HP);have q1:=(at2.part dS.IZ);have r0:=q0.rng;have q0:ak W2 ⟨B,0,Pz⟩=Py (Pv Pw (nth l k).pat):=by simpa using q0.int
  have q1:ak W2 ⟨B,1,Pz⟩=Py (Pv Pw (nth l k).cost):=by simpa using q1.int
  have ht2:=ht.mono c2.le0;have hbk:dM (nth l k)≠0->js l=(dM (nth l k),(k:Int)):=λhne=>by unfold js;rw[if_neg P2,vN hk hb hne,MP]
  have htk:dM (nth l k)=0->∀t∈l.take (k+1),dM t=0:=λhe t hm=>by
   rw[LD hk,Lv,Ls,<-aA hk]at hm;rcases hm with hm | rfl
   ·exact hb t hm
   exact he
  generalize nth l k=tl at *;subst hy;simp only[aL];refine ab λy hy=>?_;simp[ae c2.wle q0];refine af P1 (Ck ht2 P6) ?_;rintro _ h3 ⟨hle3,rfl⟩;have c3:=c2.ext hle3;have hW3:=c2.up (h':=h3);subst hy;cases e1:inR tl.pat 1 37 with
  | false=>
   have e2:dM tl=20:=by unfold dM;rw[if_pos e1]
   have e3:=hbk (by rw[e2];decide);simp[Ez,wz,e1];exact hK _ _ ⟨c3.le0,by rw[e3,e2]⟩
  | true=>
   simp[Ez,wz,e1];simp[ae (Pt hW3 c3.wle) q1];refine af P1 iO ?_;rintro _ h3 ⟨rfl,rfl⟩;cases e4:inR tl.cost 0 1000 with
   | false=>
    have e2:dM tl=22:=by unfold dM;rw[if_neg (by simp[e1]),if_pos e4]
    have e3:=hbk (by rw[e2];decide);simp;exact hK _ _ ⟨c3.le0,by rw[e3,e2]⟩
   | true=>
    have e2:dM tl=0:=by unfold dM;rw[if_neg (by simp[e1]),if_neg (by simp[e4])]
    simp;exact hK2 () _ _ rfl rfl ⟨htk e2,_,Pt hW1 (Pt hW2 hW3),c3⟩
 rintro _ h1 ⟨hb,W1,hW1,c1⟩;rw[MK]at hb;simp;subst hz;simp;refine hK _ _ ⟨c1.le0,?_⟩;unfold js;rw[if_neg P2,sU hb]
end Go.Proofs.YtnfiilgdjpdlkaaGreatDoor
namespace Go.Proofs.YtnfiilgdjpdlkaaGreatDoor
open Go Go.Lft Go.ChangeShapes Go.WideShapes Go.ChangeAt Go.RowKit
abbrev Ae : List (String × DataW Unit) := [("unicode.White_Space", Rows.laid_unicode_White_Space), ("strings.asciiSpace", Rows.laid_strings_asciiSpace)]
theorem gSp: Tryz.prog.globalNamed "strings.asciiSpace" = Py (Tryz.kh.g 0) := by kernel_rfl
theorem IL:(Rows.laid_strings_asciiSpace:DataW Unit)=Lib.tabData .u8 Lib.asciiSpaceTab:=by kernel_rfl
abbrev spT:TypeId:=140
abbrev spE:TypeId:=5
theorem zh{W:World}(h:laidMetH PE Ae W):Tab W.heap:=by
 rw[MakeChecks.laidMetH_plain _ _ _ P1]at h;obtain⟨ps,⟨g0,t0,cs0,f0,p0,q0,hg0,ht0,hv0,hd0,⟨g1,t1,cs1,f1,p1,q1,hg1,ht1,hv1,hd1,_,_⟩,_⟩,_,_⟩:=h;obtain rfl:=Option.some.inj (gSp.symm.trans hg1);have hty:(Tryz.prog.globals[Tryz.kh.g 0]?).map (·.type)=Py spT:=by kernel_rfl
 obtain rfl:=Option.some.inj (hty.symm.trans ht1);rw[IL]at hd1;have htab : Lib.TabIs PE W "strings.asciiSpace" .u8 Lib.asciiSpaceTab := by unfold Lib.TabIs;rw[hv1,<-Lib.cells_of_tab (n:=256) (e:=spE) P1 P1 P1 P1 hd1]
 intro c hc;have:=htab.cell gSp c (by rw[Lib.asciiSpaceTab_length];exact hc);rw[Lib.asciiSpaceTab_at c hc]at this;obtain⟨-,a,T,fz,h1,h2⟩:=wX this;unfold ak vw;simp only[h1];simpa using h2
theorem FW(os:Os)(args:Array Value):laidMetH PE Ae ((World.doorLaid PE 400 os).forCall (λ_ _=>0) ⟨#[],args,[]⟩).memory:=
 laidMetH_of_parts3 (fuel:=8) (laidMet_of_run' 8 P1 P1) P1 P1
end Go.Proofs.YtnfiilgdjpdlkaaGreatDoor
namespace Go.Lft
open Go
section
variable {po po2:OP} {V W:View} {h0 h h':Heap} {o:Own} {k:Key} {P:Program} {ty:TypeId} {us:List (Nat × Value)}
theorem Cx.EN {α:Type} [Rep α] {t:TypeId} {x:Operand} {v:Value} {d:α} {K:Value->Heap->Prop} (c:Cx V h0 W h o) (hk:o k=Pz) (hx:asg us x=v) (hv:Rd W v d) (hn:Rep.n α<=1000)
  (hK : ∀B h',(vw h).le (vw h')->Cx V h0 W h' (o.upd k (bx t B d))->K (PB (Py ⟨B,0,Pz⟩)) h'):@step po P (.box t x) ty us h K:=by
 refine _root_.Go.Lft.dm hx ?_;have q1:=bQ h (.cells v.cells t);have b2:(h.push (.cells v.cells t))[h.size]? = Py (.cells v.cells t (0,0)):=by simp
 generalize h.push (.cells v.cells t)=h2 at q1 b2;refine hK _ _ q1 ⟨c.own.add hk (jy b2 hv hn) q1 λb hb=>by simp only[Value.ownBlock,Ln]at hb;omega,c.old,Pt c.le0 q1,λj i b hj hb=>?_⟩;by_cases e:j=k
 ·subst e;rw[Own.ao]at hj;cases hj;cases hb;exact bY c.le0
 rw[Own.aB e]at hj;exact c.new j i b hj hb
theorem Cx.gM {α β:Type} [Rep α] [Rep β] {off:Nat} {g:α->β} {s:α->β->α} (p:Part α β off g s) {e t:TypeId} {x y:Operand} {B:Nat} {D:α} {u:Value} {d:β} {K:Value->Heap->Prop} (c:Cx V h0 W h o) (hk:o k=bx e B D) (hsz:cQ P t=Py (Rep.n β)) (hx:asg us x = PB (Py ⟨B,off,.none⟩)) (hy:asg us y=u) (hr:Rd W u d)
  (hK : ∀h',Cx V h0 W h' (o.upd k (bx e B (s D d)))->K undef h'):@step po P (.store t x y) ty us h K:=
 c.own.pz p hk hsz hx hy hr λh2 w hX=>hK _ ⟨w,c.old,hX _ c.le0 (View.cz Ps (c.new k _ B hk rfl)),λj i b hj hb=>by
  by_cases e:j=k
  ·subst e;rw[Own.ao]at hj;cases hj;exact c.new _ _ b hk hb
  rw[Own.aB e]at hj;exact c.new j i b hj hb⟩
theorem Cx.HX {α:Type} [Rep α] {e:TypeId} {B:Nat} {d:α} (c:Cx V h0 W h o) (hk:o k=bx e B d) (ha:Rep.agg α=PC) {N:Nat} (hN:Rep.n α=N) : ∃u,Un.ev (vw h) (.bU N) (PB (Py ⟨B,0,Pz⟩))=Py u/\Rd W u d:=by
 subst hN;obtain⟨cs,hcs,hr⟩:=c.own.atW hk;have h1:=Rep.len hr;have:=fK hcs (Rep.n α) 0 #[] P2;refine⟨.agg cs.toArray,?_,?_⟩
 ·simp only[Un.ev,vP,LM];rw[this];simp[<-h1]
 unfold Rd;rw[if_pos ha];exact⟨_,rfl,by simpa using hr⟩
theorem Cx.Kg {α:Type} [Rep α] {e:TypeId} {B:Nat} {d:α} (c:Cx V h0 W h o) (hk:o k=bx e B d):At (vw h) ⟨B,0,Pz⟩ d:=c.own.at hk
end
end Go.Lft
namespace Go.Proofs.YtnfiilgdjpdlkaaGreatDoor
open Go Go.Lft
section
variable {V:View} {h:Heap} {S I O P Q LL TT:Nat} {s:bR} {op plain sum:Int}
abbrev tp:List Value:=[Pv Pw 0,Pv Pw 0,Pv Pw 0,Pv Pw 0,Pv Pw 0,Pv Pw 0,Pv Px 0,PA Pz 0 0]
theorem tX {W:View} {m:bc} {vm:Value} (mx:Mx V S I O P Q LL TT s op plain sum) (hV:V.le W) (hW:W.le (vw h)) (hm:Rd W vm m) (ho:op=15\/2<=s.i.args.length) :
  az PE 130 #[vm,ptr O,ptr I,ptr P] h (λu h'=>(vw h).le (vw h')/\Rd (grow W h h') u (jl s.i op plain m)):=by
 refine au (args:=[vm,ptr O,ptr I,ptr P]) follows Tryz.func130 E.fO Pp λK hK=>?_;dsimp only[L.fO,lkF,lkG];have c0:=Cx.start hW;refine ab λz hz=>?_;simp;refine c0.EN (k:=(0,1)) rfl rfl hm P4 λM h1 hle1 c1=>?_;refine c1.cA (k:=(0,0)) (n:=7) (z:=.agg tp.toArray) Ri P1 rfl P4 P8 λR h2 hle2 c2=>?_;subst hz;have hk1:(Own.upd (Own.upd (λ_=>Pz) (0,1) (bx T.dQ M m)) (0,0) (bx T.dQ R (RawN.mk (n:=7) (Value.agg tp.toArray).cells.toList))) (0,1)=bx T.dQ M m:=rfl;have vh:V.le (vw h2):=Pt hV c2.wle;have e1:=ae vh mx.op;have e2:=ae vh mx.plain;have i1:=(mx.ct.ins.part InsD.gJ);have r1:=i1.rng;have i1:ak (vw h2) ⟨I,1,Pz⟩=Py (Pv Pw s.i.dst):=ae vh (by simpa using i1.int);obtain⟨va,i3,hva⟩:=(mx.ct.ins.part InsD.dI).sl;have i3:ak (vw h2) ⟨I,3,Pz⟩=Py va:=ae vh (by simpa using i3);refine ab λz hz=>?_;have fin : ∀(h3:Heap) (m3:bc),Cx W h W h3 (Own.upd (Own.upd (Own.upd (λ_=>Pz) (0,1) (bx T.dQ M m)) (0,0) (bx T.dQ R (RawN.mk (n:=7) (Value.agg tp.toArray).cells.toList))) (0,1) (bx T.dQ M m3))->jl s.i op plain m=m3->∀ρ:Env,Lft.look ρ 4=Py (ptr M)->Lft.look ρ 5=Py (ptr R)->LC.wp PE z (dB [.un (.bU 8) (.tmp 5)] K) ρ h3:=λh3 m3 c3 he ρ h4 h5=>by rw[hz];refine ab λy hy=>?_;obtain⟨u,hu,ru⟩:=c3.HX (k:=(0,1)) (e:=T.dQ) (B:=M) (d:=m3) rfl rfl (N:=8) rfl;simp[h4,h5,hu];refine c3.bs (α:=bc) (k:=(0,0)) (n:=7) Ri ru rfl rfl P1 Sa Sa λh6 l6 hl6 c6=>?_;rw[hy];have hall:=c6.all (k:=(0,0)) (n:=7) (l:=l6) (B:=R) (e:=T.dQ) Ri;simp at hall;simp[hall,ag,ah,h5];refine hK _ _ ⟨c6.le0,?_⟩;rw[he,<-hl6];exact ru.mono c6.fin
 by_cases h15:op=15
 ·simp[e1,h15,i1];refine c2.gM (k:=(0,1)) (α:=bc) bc.KI (D:=m) (d:=s.i.dst) hk1 P1 Sa Sa (bn.2 ⟨rfl,r1⟩) λh3 c3=>?_;exact fin _ _ c3 (by unfold jl;rw[if_pos h15]) _ Sa Sa
 have ha:2<=s.i.args.length:=by omega
 have q1:=hva.idx1 (k:=.i64) (i:=1) rfl P4 P2;have d1:=ae vh (hva.int (View.le_refl V) (i:=1) P2);have ar:=hva.rng (i:=1) P2;have m0:=ae Ps (((c2.Kg hk1).part bc.tF)).int;simp at m0 q1 d1;by_cases hp:m.op=plain
 ·simp[e1,h15,e2,m0,hp,i3,q1,d1];refine c2.gM (k:=(0,1)) (α:=bc) bc.KZ (D:=m) (d:=nth s.i.args 1) hk1 P1 Sa Sa (bn.2 ⟨rfl,ar⟩) λh3 c3=>?_;exact fin _ _ c3 (by unfold jl;rw[if_neg h15,if_pos hp]) _ Sa Sa
 simp[e1,h15,e2,m0,hp,i3,q1,d1];refine c2.gM (k:=(0,1)) (α:=bc) bc.KY (D:=m) (d:=nth s.i.args 1) hk1 P1 Sa Sa (bn.2 ⟨rfl,ar⟩) λh3 c3=>?_;exact fin _ _ c3 (by unfold jl;rw[if_neg h15,if_neg hp]) _ Sa Sa
end
end Go.Proofs.YtnfiilgdjpdlkaaGreatDoor
namespace Go.Lft
open Go
theorem DF {W:View} {h:Heap} {e:TypeId} {B n:Nat} {l:List Int} (hb:h[B]? = Py (.cells (l.map λc=>Pv Pw c).toArray e (0,0))) (hr : ∀x∈l,-9223372036854775808<=x/\x<=9223372036854775807) (hn:l.length=n) (h2:n<=1000000) :
  OwnT W h e (PA (Py ⟨B,0,.none⟩) n n) l:=by
 subst hn;refine⟨by omega,l.map λc=>Pv Pw c,⟨by simp[Rep.n],.inr ⟨B,l.length,_,rfl,hb,Lp _,by simp[maxLen];omega,by simp[Rep.n],?_⟩⟩,λi hi=>?_⟩
 ·rw[Lw (by simp[Rep.n])]
 show(List.take 1 (List.drop (i*1) (l.map λc=>Pv Pw c))=[Pv Pw l[i]])/\_;rw[MA];refine⟨?_,hr _ (MJ hi)⟩;rw[LS (by simpa using hi)];simp
theorem xw : ∀{l:List Int},(l.map λc=>Pv Pw c).flatMap (λv=>v.cells.toList)=l.map λc=>Pv Pw c
 | []=>rfl
 | x::l=>by rw[MO,NG,xw];rfl
section
variable {po po2:OP} {V W:View} {h0 h h':Heap} {o:Own} {k:Key} {P:Program} {ty:TypeId} {us:List (Nat × Value)}
theorem Cx.tU {t e n:Nat} {bytes:Nat} {z:Value} {ps:Array (Nat × Operand)} {l:List Int} {K:Value->Heap->Prop} (c:Cx V h0 W h o) (hk:o k=Pz) (hT:ee P t e 1 bytes z)
  (hp:ps.map (λp=>(p.1,asg us p.2))=(((l.map λc=>Pv Pw c).zipIdx 0).map λp=>(p.2,p.1)).toArray) (hr : ∀x∈l,-9223372036854775808<=x/\x<=9223372036854775807) (hn:l.length=n) (h2:n<=1000)
  (hK : ∀u h',(vw h).le (vw h')->Cx V h0 W h' (o.upd k (it e u l))->K u h'):@step po P (.buildSlice t n ps) ty us h K:=by
 obtain⟨B,h1,hB⟩:=mc (s:=1) (l.map λc=>Pv Pw c) 0 ((Array.range (n*1)).map (z.cells[· % z.cells.size]!)) (λv hv=>by obtain⟨c,_,rfl⟩:=MN.1 hv;rfl) P9;have hB:B=(l.map λc=>Pv Pw c).toArray:=by rw[<-Array.toList_inj,hB];simp only[NL,NI,MB,xw]
 subst hB;refine qX (size:=1) hT P2 hp h1 ?_;have q1:=bQ h (.cells (l.map λc=>Pv Pw c).toArray e);have b2:(h.push (.cells (l.map λc=>Pv Pw c).toArray e))[h.size]? = Py (.cells (l.map λc=>Pv Pw c).toArray e (0,0)):=by simp
 generalize h.push (.cells (l.map λc=>Pv Pw c).toArray e)=h3 at q1 b2;refine hK _ _ q1 ⟨c.own.add hk (DF b2 hr hn P2) q1 λb hb=>by simp only[Value.ownBlock,Ln]at hb;omega,c.old,Pt c.le0 q1,λj i b hj hb=>?_⟩;by_cases e:j=k
 ·subst e;rw[Own.ao]at hj;cases hj;cases hb;exact bY c.le0
 rw[Own.aB e]at hj;exact c.new j i b hj hb
theorem Cx.jf {α:Type} [Rep α] {e e2:TypeId} {v v':Value} {l l':List α} (c:Cx V h0 W h o) (hk:o k=it e v l) (o2:OwnT W h' e2 v' l') (m:kv h h' v v'):Cx V h0 W h' (o.upd k (it e2 v' l')):=by
 refine⟨c.own.jf hk o2 m,c.old,?_,λj i b hj hb=>?_⟩
 ·exact m.kept.view c.le0 λb hb=>View.cz Ps (c.new k _ b hk hb)
 by_cases e:j=k
 ·subst e;rw[Own.ao]at hj;cases hj;rcases m.at_ with q | q
  ·exact c.new _ _ b hk (q▸hb)
  have hb:v'.ownBlock=Py b:=hb;rw[q]at hb;cases hb;exact bY c.le0
 rw[Own.aB e]at hj;exact c.new j i b hj hb
theorem Cx.freeze {α:Type} [Rep α] {e:TypeId} {v:Value} {l:List α} (c:Cx V h0 W h o) (hk:o k=it e v l) : ∃W',W.le W'/\Cx V h0 W' h (o.upd k Pz)/\SlRd W' v l:=by
 obtain⟨w1,s1⟩:=c.own.freeze hk;refine⟨_,jm (c.own.av k _ hk),⟨w1,λb x hb hx=>?_,c.le0,λj i b hj hb=>?_⟩,s1⟩
 ·unfold View.plus at hx;split at hx
  ·rename_i e1;have:=c.new k _ b hk e1;omega
  exact c.old b x hb hx
 by_cases e:j=k
 ·subst e;rw[Own.ao]at hj;cases hj
 rw[Own.aB e]at hj;exact c.new j i b hj hb
end
end Go.Lft
namespace Go.Proofs.YtnfiilgdjpdlkaaGreatDoor
open Go Go.Lft
section
variable {V:View} {h:Heap} {S I O P Q LL TT:Nat} {s:bR} {op plain sum:Int}
theorem tM {W:View} {l:List Int} {vl:Value} (mx:Mx V S I O P Q LL TT s op plain sum) (hV:V.le W) (hW:W.le (vw h)) (ho:OwnT W h T.int vl l) (hl:l.length<=10) (h1:1<=s.i.args.length) (h2:s.i.args.length<=1000000) :
  az PE 131 #[vl,ptr I] h (λu h'=>OwnT W h' T.int u (l++s.i.args.drop 1)/\kv h h' vl u):=by refine au (args:=[vl,ptr I]) follows Tryz.func131 E.fN Pp λK hK=>?_;dsimp only[L.fN,lkF,lkG];obtain⟨va,i3,hva⟩:=(mx.ct.ins.part InsD.dI).sl;have i3:ak (vw h) ⟨I,3,Pz⟩=Py va:=ae (Pt hV hW) (by simpa using i3);obtain⟨u,hu,su⟩:=hva.drop (n:=1) h1 (kd:=.i64);have hu:Bn.ev (.lo 1) va (Pv Pw 1)=Py u:=hu;refine ab λz hz=>?_;simp;subst hz;refine ab λz hz=>?_;simp[i3,hu];refine df (α:=Int) (e:=T.int) (l:=l) (l2:=s.i.args.drop 1) El.aR Sa Sa ho ((su.mono hV).src hW) P9 P9 λv2 h2 o2 mv=>?_;subst hz;simp;exact hK _ _ ⟨o2,mv⟩
end
end Go.Proofs.YtnfiilgdjpdlkaaGreatDoor
namespace Go.Proofs.YtnfiilgdjpdlkaaGreatDoor
open Go Go.Lft
section
variable {V:View} {h:Heap} {S I O P Q LL TT:Nat} {s:bR} {op plain sum:Int}
set_option maxHeartbeats 4000000 in
theorem G4(mx:Mx V S I O P Q LL TT s op plain sum)(hV:V.le (vw h))(hok:kI s)(hop:s.i.op=op)(ho:op=15\/op=16)(hp0:0<=plain/\plain<=100):
    az PE 132 #[ptr LL,ptr P,ptr I,ptr TT] h (λu h'=>bM V h h' u (memS s.f s.i s.temp op plain sum 0)):=by
  refine au (args:=[ptr LL,ptr P,ptr I,ptr TT]) follows Tryz.func132 E.db Pp λK hK=>?_
  dsimp only[L.db,lkF,lkG]
  have c0:=Cx.start hV
  have l1:1<=s.i.args.length:=by
    rcases ho with q | q
    · exact hok.one.one (hop.trans q)
    · have:=hok.one.two (.inr (.inl (hop.trans q)));omega
  have l2:op=15\/2<=s.i.args.length:=ho.imp id λq=>hok.one.two (.inr (.inl (hop.trans q)))
  refine ab λz hz=>?_
  simp
  refine c0.cA (k:=(0,0)) (n:=7) (z:=.agg fitZ.toArray) rfl P1 rfl P4 P8 λR hb hleb cb=>?_
  subst hz
  have i4:=(mx.ct.ins.part InsD.jk)
  have r4:=i4.oL
  have i4:ak V ⟨I,4,Pz⟩=Py (Pv Px s.i.imm.v):=by simpa using i4.i32
  obtain⟨va,i3,hva⟩:=(mx.ct.ins.part InsD.dI).sl
  have i3:ak V ⟨I,3,Pz⟩=Py va:=by simpa using i3
  have a0:=hva.rng (i:=0) P2
  have most:=hok.one.most
  have q0:=hva.idx1 (k:=.i64) (i:=0) rfl P4 P2
  have d0:=hva.int (View.le_refl V) (i:=0) P2
  simp at q0
  have eL:=mx.laid
  have eT:=mx.with_
  have eP:=mx.plain
  have hm : ∀X,Rd X (.agg #[Pv Pw plain,Pv Pw 0,Pv Pw 0,Pv Pw (nth s.i.args 0),Pv Pw 0,Pv Pw 0,Pv Px s.i.imm.v,PA Pz 0 0]) (⟨plain,0,0,nth s.i.args 0,0,0,s.i.imm,[]⟩:bc):=λX=>gV P9 r4 aN
  have ew:IntKind.i64.wrap s.i.imm.v=s.i.imm.v:=bH P2 P2
  have fin : ∀(W:View) (hx:Heap) (o:Own) (l9:List Value),Cx V h W hx o->Rd W (.agg l9.toArray) (⟨nth s.i.args 0::s.i.args.drop 1,[],[jl s.i op plain ⟨plain,0,0,nth s.i.args 0,0,0,s.i.imm,[]⟩],dH⟩:FitD)->K (.tuple #[.agg l9.toArray,.bool (inR (IntKind.i64.wrap s.i.imm.v) 0 255)]) hx:=λW hx o l9 c hr=>
    hK _ _ (bM.of c hr (by rw[ew];simp only[memS];split<;>simp_all) λy e=>by
      simp only[memS]at e
      split at e<;>cases e
      rfl)
  clear hK
  refine ab λz hz=>?_
  refine aT V cb.wle ?_
  have c:=cb
  have hWV:V.le V:=View.le_refl _
  repeat' (first
    | refine gL ?_ ?_
    | (refine bD λy hy=>?_
       simp[i3,i4,q0,d0,eL,eT,eP]
       first
       | refine ay (t:=T.dQ) (z:=.agg tp.toArray) (places:=[(0,1),(1,1),(2,1),(3,1),(4,1),(5,1),(6,1),(7,1)]) (vs:=[(0,Pv Pw plain),(3,Pv Pw (nth s.i.args 0)),(6,Pv Px s.i.imm.v)]) (cs:=#[Pv Pw plain,Pv Pw 0,Pv Pw 0,Pv Pw (nth s.i.args 0),Pv Pw 0,Pv Pw 0,Pv Px s.i.imm.v,PA Pz 0 0]) P1 P1 Sa P1 ?_
       | (refine c.tU (k:=(0,2)) (n:=1) (l:=[nth s.i.args 0]) Ri El.aR ?_ ?_ rfl P4 λuA h hle c=>?_
          · simp;done
          · simp;omega)
       | refine c.cA (k:=(0,1)) (n:=7) (z:=.agg fitZ.toArray) Ri P1 rfl P4 P8 λR2 h hle c=>?_
       | (refine bN (ops:=[.tmp 17]) (caps:=#[ptr O,ptr I,ptr P]) rfl P1 (tX mx Pq c.wle (hm _) l2) ?_
          rintro um h ⟨hle,hum⟩
          have hW:=c.up (h':=h)
          have c:=c.ext hle)
       | (refine bN (ops:=[.tmp 24]) (caps:=#[ptr I]) rfl P1 (tM mx Pq c.wle (c.own.get (k:=(0,2)) (v:=uA) (l:=[nth s.i.args 0]) Ri) Sa l1 P2) ?_
          rintro uw h ⟨own2,mv⟩
          have c:=c.jf (k:=(0,2)) (v:=uA) (l:=[nth s.i.args 0]) Ri own2 mv
          obtain⟨W,hW,c,huA⟩:=c.freeze (k:=(0,2)) (v:=uw) (l:=[nth s.i.args 0]++s.i.args.drop 1) Ri)
       | (refine af P1 (jM c.wle (hum.mono Pq) (huA.mono Pq) aN) ?_
          rintro _ h ⟨hle,vf,rfl,hvf⟩
          have hW:=c.up (h':=h)
          have c:=c.ext hle)
       | refine c.bs (k:=(0,1)) (n:=7) (l:=fitZ) Ri (hvf.mono Pq) rfl rfl P1 rfl rfl λh l9 hl9 c=>?_
       try refine⟨Pt Pq c.wle,?_⟩
       subst hy))
  all_goals
    simp
    rw[hz]
    subst hl9
    have hall:=c.all (k:=(0,1)) (n:=7) (l:=l9) (B:=R2) (e:=T.aS) Ri
    simp at hall
    refine ab λx hx=>?_
    refine aT (vw h) Ps ?_
    simp[hall,ae (Pt Pq c.wle) i4]
    refine af P1 iO ?_
    rintro _ h ⟨rfl,rfl⟩
    refine⟨View.le_refl _,?_⟩
    refine c.bs (k:=(0,0)) (n:=7) (l:=fitZ) Ri (hvf.mono Pq) rfl rfl P1 rfl rfl λh9 l9' hl9' c9=>?_
    rw[hx]
    have hall:=c9.all (k:=(0,0)) (n:=7) (l:=l9') (B:=R) (e:=T.aS) Ri
    simp at hall
    simp[hall]
    exact fin _ _ _ _ c9 (hl9'▸hvf.mono Pq)
end
end Go.Proofs.YtnfiilgdjpdlkaaGreatDoor
namespace Go.Lft
open Go
section
variable {po po2:OP} {V W:View} {h0 h h':Heap} {o:Own} {k:Key} {P:Program} {ty:TypeId} {us:List (Nat × Value)}
theorem GD {α:Type} [Rep α] {t e:Nat} {bytes:Nat} {z v:Value} {x:Operand} {d:α} {K:Value->Heap->Prop} (hT:ee P t e (Rep.n α) bytes z) (hx:asg us x=v) (hr:Rd W v d) (hn:Rep.n α<=1000)
  (hk : ∀h',(vw h).le (vw h')->OwnT W h' e (PA (Py ⟨h.size,0,Pz⟩) 1 1) [d]->K (PA (Py ⟨h.size,0,Pz⟩) 1 1) h'):@step po P (.buildSlice t 1 #[(0,x)]) ty us h K:=by
 have hc:=fX hr;obtain⟨B,h1,hB⟩:=mc (s:=Rep.n α) [v] 0 ((Array.range (1*Rep.n α)).map (z.cells[· % z.cells.size]!)) (λu hu=>by simp at hu;subst hu;exact hc.2.1) Sa;have hB:B=v.cells:=by rw[<-Array.toList_inj,hB];simp
 subst hB;refine qX (size:=Rep.n α) (vs:=[(0,v)]) hT P2 (by simp[hx]) h1 ?_;have q1:=bQ h (.cells v.cells e);have b2:(h.push (.cells v.cells e))[h.size]? = Py (.cells v.cells e (0,0)):=by simp
 generalize h.push (.cells v.cells e)=h3 at q1 b2;exact hk _ q1 (jy b2 hr hn)
theorem Cx.add {α:Type} [Rep α] {e:TypeId} {v:Value} {l:List α} (c:Cx V h0 W h o) (hk:o k=Pz) (o2:OwnT W h' e v l) (hle:(vw h).le (vw h')) (hb : ∀b,v.ownBlock=Py b->h.size<=b):Cx V h0 W h' (o.upd k (it e v l)):=
 ⟨c.own.add hk o2 hle hb,c.old,Pt c.le0 hle,λj i b hj hb'=>by
  by_cases e:j=k
  ·subst e;rw[Own.ao]at hj;cases hj;exact LG (bY c.le0) (hb b hb')
  rw[Own.aB e]at hj;exact c.new j i b hj hb'⟩
end
end Go.Lft
namespace Go.Proofs.YtnfiilgdjpdlkaaGreatDoor
open Go Go.Lft
theorem Cw {α:Type} [Rep α] {H:View} {v:Value} {l:List α} (s:SlRd H v l) : ∃a n c,v = .slice a n c:=let ⟨a,c,e,_⟩:=s;⟨a,_,c,e⟩
theorem Gs {v0 v1 v2:Value} {m:bc} {takes inner:List Int} {h:Heap} {W:View} (hW:W.le (vw h)) (h0:Rd W v0 m) (h1:SlRd W v1 takes) (h2:SlRd W v2 inner) :
  az PE 104 #[v0,v1,v2] h (λu h'=>(vw h).le (vw h')/\∃b,u = .tuple #[.agg #[v1,v2,PA (Py ⟨b,0,Pz⟩) 1 1,Pv Pw 0,Pv Pw 0,Pv Pw 0,PA Pz 0 0,Pv Px 0],.bool PC]/\OwnT W h' T.dQ (PA (Py ⟨b,0,Pz⟩) 1 1) [m]/\h.size<=b):=by
 refine au (args:=[v0,v1,v2]) follows Tryz.func104 E.mH Pp λK hK=>?_;dsimp only[L.mH,lkF,lkG];have c0:=Cx.start hW;refine ab λz hz=>?_;simp;refine c0.EN (k:=(0,1)) rfl rfl h0 P4 λB ha hlea ca=>?_;refine ca.cA (k:=(0,0)) (n:=7) (z:=.agg fitZ.toArray) Ri P1 rfl P4 P8 λR hb hleb cb=>?_;subst hz;obtain⟨um,hum,hmr⟩:=cb.HX (k:=(0,1)) (e:=T.dQ) (B:=B) (d:=m) rfl rfl (N:=8) rfl;refine ab λz hz=>?_;simp[hum];refine GD (α:=bc) (W:=W) (v:=um) El.iP Sa hmr P4 λhc hlec own=>?_;have cc:=cb.add (k:=(0,2)) Ri own hlec λb hb=>by simp only[Value.ownBlock,Ln]at hb;omega
 obtain⟨a1,n1,k1,rfl⟩:=Cw h1;obtain⟨a2,n2,k2,rfl⟩:=Cw h2;refine ay (z:=.agg fitZ.toArray) (places:=[(0,1),(1,1),(2,1),(3,5)]) (vs:=[(0,.slice a1 n1 k1),(1,.slice a2 n2 k2),(2,PA (Py ⟨hb.size,0,Pz⟩) 1 1)]) (cs:=#[.slice a1 n1 k1,.slice a2 n2 k2,PA (Py ⟨hb.size,0,Pz⟩) 1 1,Pv Pw 0,Pv Pw 0,Pv Pw 0,PA Pz 0 0,Pv Px 0]) P1 P1 Sa P1 ?_;refine cc.qt (k:=(0,0)) (n:=7) (l':=[.slice a1 n1 k1,.slice a2 n2 k2,PA (Py ⟨hb.size,0,Pz⟩) 1 1,Pv Pw 0,Pv Pw 0,Pv Pw 0,PA Pz 0 0,Pv Px 0]) Ri P1 Sa Sa rfl P7 λhd cd=>?_;subst hz;have hall:=cd.all (k:=(0,0)) (n:=7) (l:=[.slice a1 n1 k1,.slice a2 n2 k2,PA (Py ⟨hb.size,0,Pz⟩) 1 1,Pv Pw 0,Pv Pw 0,Pv Pw 0,PA Pz 0 0,Pv Px 0]) (B:=R) (e:=T.aS) Ri;simp at hall;simp[hall];refine hK _ _ ⟨cd.le0,_,rfl,cd.own.get (k:=(0,2)) Ri,?_⟩;have q1:=bY hlea;have q2:=bY hleb;omega
end Go.Proofs.YtnfiilgdjpdlkaaGreatDoor
namespace Go.Proofs.YtnfiilgdjpdlkaaGreatDoor
open Go Go.Lft
section
variable {V:View} {h:Heap} {S I O P Q LL TT:Nat} {s:bR} {op plain sum:Int}
set_option maxHeartbeats 4000000 in
theorem Hd(mx:Mx V S I O P Q LL TT s op plain sum)(hV:V.le (vw h))(hok:kI s)(hop:s.i.op=op)(ho:op=15\/op=16)(hp0:0<=sum/\sum<=100)(ht:-9223372036854775808<=s.temp/\s.temp<=9223372036854775807):
    az PE 135 #[ptr S,ptr I,ptr TT,ptr LL,ptr Q] h (λu h'=>bM V h h' u (memS s.f s.i s.temp op plain sum 3)):=by
  refine au (args:=[ptr S,ptr I,ptr TT,ptr LL,ptr Q]) follows Tryz.func135 E.da Pp λK hK=>?_
  dsimp only[L.da,lkF,lkG]
  have c0:=Cx.start hV
  have l1:1<=s.i.args.length:=by
    rcases ho with q | q
    · exact hok.one.one (hop.trans q)
    · have:=hok.one.two (.inr (.inl (hop.trans q)));omega
  have l2:op=15\/2<=s.i.args.length:=ho.imp id λq=>hok.one.two (.inr (.inl (hop.trans q)))
  refine ab λz hz=>?_
  simp
  refine c0.cA (k:=(0,0)) (n:=7) (z:=.agg fitZ.toArray) rfl P1 rfl P4 P8 λR hb hleb cb=>?_
  subst hz
  have i4:=(mx.ct.ins.part InsD.jk)
  have r4:=i4.oL
  have i4:ak V ⟨I,4,Pz⟩=Py (Pv Px s.i.imm.v):=by simpa using i4.i32
  obtain⟨va,i3,hva⟩:=(mx.ct.ins.part InsD.dI).sl
  have i3:ak V ⟨I,3,Pz⟩=Py va:=by simpa using i3
  have s12:ak V ⟨S,12,Pz⟩=Py (Pv Pw s.temp):=by simpa using(mx.ct.site.part bR.AO).int
  have a0:=hva.rng (i:=0) P2
  have most:=hok.one.most
  have q0:=hva.idx1 (k:=.i64) (i:=0) rfl P4 P2
  have d0:=hva.int (View.le_refl V) (i:=0) P2
  simp at q0
  have eL:=mx.laid
  have eT:=mx.with_
  have eQ:=mx.sum
  have hm : ∀X,Rd X (.agg #[Pv Pw 4,Pv Pw s.temp,Pv Pw 0,Pv Pw 0,Pv Pw 0,Pv Pw 0,Pv Px s.i.imm.v,PA Pz 0 0]) (⟨4,s.temp,0,0,0,0,s.i.imm,[]⟩:bc):=λX=>gV P9 r4 aN
  have hm2 : ∀X,Rd X (.agg #[Pv Pw sum,Pv Pw 0,Pv Pw 0,Pv Pw (nth s.i.args 0),Pv Pw s.temp,Pv Pw 0,Pv Px 0,PA Pz 0 0]) (⟨sum,0,0,nth s.i.args 0,s.temp,0,⟨0⟩,[]⟩:bc):=λX=>gV (imm:=⟨0⟩) P9 Sa aN
  have fin : ∀(W:View) (hx:Heap) (o:Own) (l9:List Value),Cx V h W hx o->Rd W (.agg l9.toArray) (⟨nth s.i.args 0::s.i.args.drop 1,[],[⟨4,s.temp,0,0,0,0,s.i.imm,[]⟩,jl s.i op plain ⟨sum,0,0,nth s.i.args 0,s.temp,0,⟨0⟩,[]⟩],dH⟩:FitD)->K (.tuple #[.agg l9.toArray,.bool PC]) hx:=λW hx o l9 c hr=>
    hK _ _ (bM.of c hr rfl λy e=>by simp only[memS]at e;cases e;rfl)
  clear hK
  refine ab λz hz=>?_
  refine aT V cb.wle ?_
  have c:=cb
  have hWV:V.le V:=View.le_refl _
  repeat' (first
    | refine gL ?_ ?_
    | (refine bD λy hy=>?_
       simp[i3,i4,s12,q0,d0,eL,eT,eQ]
       first
       | refine ay (t:=T.dQ) (z:=.agg tp.toArray) (places:=[(0,1),(1,1),(2,1),(3,1),(4,1),(5,1),(6,1),(7,1)]) (vs:=[(0,Pv Pw 4),(1,Pv Pw s.temp),(6,Pv Px s.i.imm.v)]) (cs:=#[Pv Pw 4,Pv Pw s.temp,Pv Pw 0,Pv Pw 0,Pv Pw 0,Pv Pw 0,Pv Px s.i.imm.v,PA Pz 0 0]) P1 P1 Sa P1 ?_
       | (refine c.tU (k:=(0,2)) (n:=1) (l:=[nth s.i.args 0]) Ri El.aR ?_ ?_ rfl P4 λuA h hle c=>?_
          · simp;done
          · simp;omega)
       | refine c.cA (k:=(0,1)) (n:=7) (z:=.agg fitZ.toArray) Ri P1 rfl P4 P8 λR2 h hle c=>?_
       | (refine bN (ops:=[.tmp 20]) (caps:=#[ptr I]) rfl P1 (tM mx Pq c.wle (c.own.get (k:=(0,2)) (v:=uA) (l:=[nth s.i.args 0]) Ri) Sa l1 P2) ?_
          rintro uw h ⟨own2,mv⟩
          have c:=c.jf (k:=(0,2)) (v:=uA) (l:=[nth s.i.args 0]) Ri own2 mv
          obtain⟨W,hW,c,huA⟩:=c.freeze (k:=(0,2)) (v:=uw) (l:=[nth s.i.args 0]++s.i.args.drop 1) Ri)
       | (refine af P1 (Gs c.wle (hm _) (huA.mono Pq) aN) ?_
          rintro _ h ⟨hle,b3,rfl,own3,hb3⟩
          have c:=c.add (k:=(0,3)) Ri own3 hle λb hb=>by simp only[Value.ownBlock,Ln]at hb;omega)
       | (obtain⟨a5,n5,k5,rfl⟩:=Cw huA
          refine c.qt (k:=(0,1)) (n:=7) (l:=fitZ) (l':=[.slice a5 n5 k5,PA Pz 0 0,PA (Py ⟨b3,0,Pz⟩) 1 1,Pv Pw 0,Pv Pw 0,Pv Pw 0,PA Pz 0 0,Pv Px 0]) Ri P1 rfl rfl rfl P7 λh c=>?_)
       try refine⟨Pt Pq c.wle,?_⟩
       subst hy))
  all_goals
    simp
    rw[hz]
    refine ab λx hx=>?_
    have hcode:=c.own.raw (k:=(0,1)) (e:=T.aS) (B:=R2) (n:=7) (l:=[.slice a5 n5 k5,PA Pz 0 0,PA (Py ⟨b3,0,Pz⟩) 1 1,Pv Pw 0,Pv Pw 0,Pv Pw 0,PA Pz 0 0,Pv Px 0]) Ri (i:=2) P4
    simp only[List.getD_cons_succ,List.getD_cons_zero]at hcode
    have hVh:=Pt (show V.le _ from Pq) c.wle
    refine aT (vw h) Ps ?_
    refine bD λy hy=>?_
    simp[hcode,ae hVh i3,ae hVh s12,q0,ae hVh d0,ae hVh eL,ae hVh eQ]
    refine ay (t:=T.dQ) (z:=.agg tp.toArray) (places:=[(0,1),(1,1),(2,1),(3,1),(4,1),(5,1),(6,1),(7,1)]) (vs:=[(0,Pv Pw sum),(3,Pv Pw (nth s.i.args 0)),(4,Pv Pw s.temp)]) (cs:=#[Pv Pw sum,Pv Pw 0,Pv Pw 0,Pv Pw (nth s.i.args 0),Pv Pw s.temp,Pv Pw 0,Pv Px 0,PA Pz 0 0]) P1 P1 Sa P1 ?_
    refine⟨View.le_refl _,?_⟩
    subst hy
    refine bD λy hy=>?_
    simp
    refine bN (ops:=[.tmp 35]) (caps:=#[ptr O,ptr I,ptr P]) rfl P1 (tX mx Pq c.wle (hm2 _) l2) ?_
    rintro um h7 ⟨hle7,hum⟩
    have hW7:=c.up (h':=h7)
    have c7:=c.ext hle7
    refine⟨hle7,?_⟩
    subst hy
    refine bD λy hy=>?_
    simp
    refine c7.kF (α:=bc) (n:=1) (vs:=[um]) (ds:=[jl s.i op plain ⟨sum,0,0,nth s.i.args 0,s.temp,0,⟨0⟩,[]⟩]) El.iP Sa ⟨hum,trivial⟩ rfl P4 P4 λu8 h8 W8 hW8 c8 s8 hle8=>?_
    refine⟨Pt hle7 hle8,?_⟩
    subst hy
    refine bD λy hy=>?_
    simp
    refine df (α:=bc) (v:=PA (Py ⟨b3,0,Pz⟩) 1 1) (u:=u8) (l:=[(⟨4,s.temp,0,0,0,0,s.i.imm,[]⟩:bc)]) (l2:=[jl s.i op plain ⟨sum,0,0,nth s.i.args 0,s.temp,0,⟨0⟩,[]⟩]) El.iP Sa Sa (c8.own.get (k:=(0,3)) Ri) (s8.src c8.wle) Sa Sa λv9 h9 o9 mv9=>?_
    have c9:=c8.jf (k:=(0,3)) Ri o9 mv9
    obtain⟨W9,hW9,c10,s10⟩:=c9.freeze (k:=(0,3)) (v:=v9) Ri
    obtain⟨a9,n9,k9,rfl⟩:=Cw s10
    subst hy
    refine bD λy hy=>?_
    simp
    refine c10.dh (k:=(0,1)) (n:=7) (i:=2) (u:=.slice a9 n9 k9) (e:=T.aS) (B:=R2) (l:=[.slice a5 n5 k5,PA Pz 0 0,PA (Py ⟨b3,0,Pz⟩) 1 1,Pv Pw 0,Pv Pw 0,Pv Pw 0,PA Pz 0 0,Pv Px 0]) Ri P4 P1 Sa Sa rfl λh11 c11=>?_
    subst hy
    simp
    subst hx
    have hall:=c11.all (k:=(0,1)) (n:=7) (B:=R2) (e:=T.aS) (l:=[.slice a5 n5 k5,PA Pz 0 0,.slice a9 n9 k9,Pv Pw 0,Pv Pw 0,Pv Pw 0,PA Pz 0 0,Pv Px 0]) Ri
    simp at hall
    refine ab λx hx=>?_
    simp[hall]
    have hfit:Rd W9 (.agg #[.slice a5 n5 k5,PA Pz 0 0,.slice a9 n9 k9,Pv Pw 0,Pv Pw 0,Pv Pw 0,PA Pz 0 0,Pv Px 0]) (⟨nth s.i.args 0::s.i.args.drop 1,[],[⟨4,s.temp,0,0,0,0,s.i.imm,[]⟩,jl s.i op plain ⟨sum,0,0,nth s.i.args 0,s.temp,0,⟨0⟩,[]⟩],dH⟩:FitD):=
      lM (v1:=.slice a5 n5 k5) (v2:=PA Pz 0 0) (v3:=.slice a9 n9 k9) (huA.mono Pq) aN s10 (kC Sa P4 aN)
    refine c11.bs (k:=(0,0)) (n:=7) (l:=fitZ) Ri hfit rfl rfl P1 Sa Sa λh12 l12 hl12 c12=>?_
    rw[hx]
    have hall:=c12.all (k:=(0,0)) (n:=7) (l:=l12) (B:=R) (e:=T.aS) Ri
    simp at hall
    simp[hall]
    exact fin _ _ _ _ c12 (hl12▸hfit)
end
end Go.Proofs.YtnfiilgdjpdlkaaGreatDoor
namespace Go.Lft
open Go
section
variable {po po2:OP} {V W:View} {h0 h h':Heap} {o:Own} {k:Key} {P:Program} {ty:TypeId} {us:List (Nat × Value)}
theorem Cx.dw {α:Type} [Rep α] {t:TypeId} {z:Value} {d:α} {K:Value->Heap->Prop} (c:Cx V h0 W h o) (hk:o k=Pz) (hz:(P.info? t).map (·.zero)=Py (Py z)) (hr:Rd W (.agg z.cells) d) (hn:Rep.n α<=1000)
  (hK : ∀B h',(vw h).le (vw h')->Cx V h0 W h' (o.upd k (bx t B d))->K (PB (Py ⟨B,0,Pz⟩)) h'):@step po P (.alloc t) ty us h K:=by
 refine _root_.Go.Lft.dw hz ?_;have q1:=bQ h (.cells z.cells t);have b2:(h.push (.cells z.cells t))[h.size]? = Py (.cells z.cells t (0,0)):=by simp
 generalize h.push (.cells z.cells t)=h2 at q1 b2;have hz2:(Value.agg z.cells).cells=z.cells:=rfl;refine hK _ _ q1 ⟨c.own.add hk (jy (v:=.agg z.cells) (by rw[hz2];exact b2) hr hn) q1 λb hb=>by simp only[Value.ownBlock,Ln]at hb;omega,c.old,Pt c.le0 q1,λj i b hj hb=>?_⟩;by_cases e:j=k
 ·subst e;rw[Own.ao]at hj;cases hj;cases hb;exact bY c.le0
 rw[Own.aB e]at hj;exact c.new j i b hj hb
theorem Own.eD {a b:Option Item}:(o.upd k a).upd k b=o.upd k b:=by funext q;unfold Own.upd;split<;>rfl
theorem Own.qN {a:Option Item} (hk:o k=Pz):(o.upd k a).upd k Pz=o:=by
 funext q;unfold Own.upd;split
 ·rename_i e;subst e;exact hk.symm
 rfl
theorem Cx.tJ {α:Type} [Rep α] {e:TypeId} {B:Nat} {d:α} (c:Cx V h0 W h o) (hk:o k=bx e B d) : ∃W',W.le W'/\Cx V h0 W' h (o.upd k Pz)/\At W' ⟨B,0,Pz⟩ d:=by obtain⟨W',h1,h2,h3⟩:=c.freeze (v:=PA (Py ⟨B,0,Pz⟩) 1 1) (l:=[d]) hk;refine⟨W',h1,h2,?_⟩;have:=h3.at (i:=0) Sa;simpa[slA,Addr.z]using this
end
end Go.Lft
namespace Go.Proofs.YtnfiilgdjpdlkaaGreatDoor
open Go Go.Lft
abbrev insZ:List Value:=[Pv Pw 0,Pv Pw 0,Pv Pw 0,PA Pz 0 0,Pv Px 0]
section
variable {V:View} {h:Heap} {S I O P Q LL TT:Nat} {s:bR} {op plain sum:Int}
set_option maxHeartbeats 4000000 in
theorem GQ (mx:Mx V S I O P Q LL TT s op plain sum) (hV:V.le (vw h)) (hok:kI s) (hop:s.i.op=op) (ho:op=15\/op=16) (hp0:0<=sum/\sum<=100) :
    az PE 134 #[ptr S,ptr I,ptr LL,ptr Q,ptr TT] h (λu h'=>bM V h h' u (memS s.f s.i s.temp op plain sum 2)):=by
  refine au (args:=[ptr S,ptr I,ptr LL,ptr Q,ptr TT]) follows Tryz.func134 E.cZ Pp λK hK=>?_
  dsimp only[L.cZ,lkF,lkG]
  have c0:=Cx.start hV
  have l1:1<=s.i.args.length:=by
    rcases ho with q | q
    · exact hok.one.one (hop.trans q)
    · have:=hok.one.two (.inr (.inl (hop.trans q)));omega
  have l2:op=15\/2<=s.i.args.length:=ho.imp id λq=>hok.one.two (.inr (.inl (hop.trans q)))
  refine ab λz hz=>?_
  simp
  refine c0.cA (k:=(0,0)) (n:=7) (z:=.agg fitZ.toArray) rfl P1 rfl P4 P8 λR hb hleb cb=>?_
  subst hz
  have i4:=(mx.ct.ins.part InsD.jk)
  have r4:=i4.oL
  have i4:ak V ⟨I,4,Pz⟩=Py (Pv Px s.i.imm.v):=by simpa using i4.i32
  obtain⟨va,i3,hva⟩:=(mx.ct.ins.part InsD.dI).sl
  have i3:ak V ⟨I,3,Pz⟩=Py va:=by simpa using i3
  have a0:=hva.rng (i:=0) P2
  have most:=hok.one.most
  have q0:=hva.idx1 (k:=.i64) (i:=0) rfl P4 P2
  have d0:=hva.int (View.le_refl V) (i:=0) P2
  simp at q0
  obtain⟨us,hus,rus⟩:=mx.ct.site.ldN rfl (N:=13) rfl
  have hus:=hus V Ps
  have hfm:=dV (f:=s.f) (v:=nth s.i.args 0) (op:=2)
  have hdo:memS s.f s.i s.temp op plain sum 2=if(aF s.f (nth s.i.args 0) 2).2&&decide (s.i.imm.v=0) then
      Py ⟨nth (aF s.f (nth s.i.args 0) 2).1.args 0::nth (aF s.f (nth s.i.args 0) 2).1.args 1::s.i.args.drop 1,[nth s.i.args 0],
        [jl s.i op plain ⟨sum,0,0,nth (aF s.f (nth s.i.args 0) 2).1.args 0,nth (aF s.f (nth s.i.args 0) 2).1.args 1,0,⟨0⟩,[]⟩],dH⟩
    else none:=rfl
  have hF:=@mP s us (nth s.i.args 0) 2
  generalize (aF s.f (nth s.i.args 0) 2).1=m at *
  generalize (aF s.f (nth s.i.args 0) 2).2=b at *
  refine ab λz hz=>?_
  have rest : ∀(W:View) (hx:Heap) (B2:Nat) (ρ:Env),V.le W->Cx V h W hx (Own.upd (λ_=>Pz) (0,0) (bx T.aS R (RawN.mk (n:=7) fitZ)))->At W ⟨B2,0,Pz⟩ m->
      Lft.look ρ 0=Py (ptr S)->Lft.look ρ 1=Py (ptr I)->Lft.look ρ 2=Py (ptr LL)->Lft.look ρ 3=Py (ptr Q)->Lft.look ρ 4=Py (ptr TT)->Lft.look ρ 5=Py (ptr R)->Lft.look ρ 7=Py (ptr B2)->Lft.look ρ 8=Py (.bool b)->
      LC.wp PE z (dB [.un (.bU 8) (.tmp 5),.tmp 6] K) ρ hx:=by
    intro W hx B2 ρ hVW c hat g0 g1 g2 g3 g4 g5 g7 g8
    rw[hz]
    refine ab λx hx'=>?_
    have none_ : ∀(hy:Heap) (o:Own) (l9:List Value),Cx V h W hy o->Rd W (.agg l9.toArray) E2->(b&&decide (s.i.imm.v=0))=PD->K (.tuple #[.agg l9.toArray,.bool PD]) hy:=λhy o l9 c hr e=>
      hK _ _ (bM.of c hr (by rw[hdo,e];rfl) λy e2=>by rw[hdo,e]at e2;cases e2)
    cases b with
    | false=>
      simp[g8,ag,ah,g5]
      refine ay (t:=T.aS) (z:=.agg fitZ.toArray) (places:=[(0,1),(1,1),(2,1),(3,5)]) (vs:=[]) (cs:=fitZ.toArray) P1 P1 Sa P1 ?_
      refine c.bs (k:=(0,0)) (n:=7) (l:=fitZ) Ri eY rfl rfl P1 Sa Sa λh9 l9 hl9 c9=>?_
      have hall:=c9.all (k:=(0,0)) (n:=7) (l:=l9) (B:=R) (e:=T.aS) Ri
      simp at hall
      simp[hall]
      exact none_ _ _ _ c9 (hl9▸eY) rfl
    | true=>
      by_cases e0:s.i.imm.v=0
      · obtain⟨m1,m2,-⟩:=hfm rfl
        have hma:=(hok.all _ m1).two P2
        obtain⟨vb,j3,hvb⟩:=(hat.part InsD.dI).sl
        have j3:ak W ⟨B2,3,Pz⟩=Py vb:=by simpa using j3
        have b0:=hvb.rng (i:=0) P2
        have b1:=hvb.rng (i:=1) P2
        have q2:=hvb.idx1 (k:=.i64) (i:=0) rfl P4 P2
        have q3:=hvb.idx1 (k:=.i64) (i:=1) rfl P4 P2
        have d2:=hvb.int (View.le_refl W) (i:=0) P2
        have d3:=hvb.int (View.le_refl W) (i:=1) P2
        simp at q2 q3
        have i4':=ae hVW i4
        have i3:=ae hVW i3
        have d0:=ae hVW d0
        have eL:=ae hVW mx.laid
        have eT:=ae hVW mx.with_
        have eQ:=ae hVW mx.sum
        have mx:=mx.mono hVW
        simp[g0,g1,g2,g3,g4,g5,g7,g8,ag,ah,ae c.wle i4',e0]
        rw[hx'];clear hx'
        have hm : ∀X,Rd X (.agg #[Pv Pw sum,Pv Pw 0,Pv Pw 0,Pv Pw (nth m.args 0),Pv Pw (nth m.args 1),Pv Pw 0,Pv Px 0,PA Pz 0 0]) (⟨sum,0,0,nth m.args 0,nth m.args 1,0,⟨0⟩,[]⟩:bc):=λX=>gV (imm:=⟨0⟩) P9 Sa aN
        have fin : ∀(W:View) (hx:Heap) (o:Own) (l9:List Value),Cx V h W hx o->Rd W (.agg l9.toArray) (⟨nth m.args 0::nth m.args 1::s.i.args.drop 1,[nth s.i.args 0],[jl s.i op plain ⟨sum,0,0,nth m.args 0,nth m.args 1,0,⟨0⟩,[]⟩],dH⟩:FitD)->K (.tuple #[.agg l9.toArray,.bool PC]) hx:=λW hx o l9 c hr=>
          hK _ _ (bM.of c hr (by rw[hdo];simp[e0]) λy e=>by rw[hdo,e0]at e;cases e;rfl)
        clear none_ hK
        refine ab λx hx'=>?_
        refine aT W c.wle ?_
        have hWV:W.le W:=View.le_refl _
        repeat' (first
          | refine gL ?_ ?_
          | (refine bD λy hy=>?_
             simp[g0,g1,g2,g3,g4,g5,g7,g8,ag,ah,i3,j3,q0,q2,q3,d0,d2,d3,eL,eT,eQ]
             first
             | refine ay (t:=T.dQ) (z:=.agg tp.toArray) (places:=[(0,1),(1,1),(2,1),(3,1),(4,1),(5,1),(6,1),(7,1)]) (vs:=[(0,Pv Pw sum),(3,Pv Pw (nth m.args 0)),(4,Pv Pw (nth m.args 1))]) (cs:=#[Pv Pw sum,Pv Pw 0,Pv Pw 0,Pv Pw (nth m.args 0),Pv Pw (nth m.args 1),Pv Pw 0,Pv Px 0,PA Pz 0 0]) P1 P1 Sa P1 ?_
             | (refine c.tU (k:=(0,2)) (n:=2) (l:=[nth m.args 0,nth m.args 1]) Ri El.aR ?_ ?_ rfl P4 λuA h hle c=>?_
                · simp;done
                · simp;omega)
             | (refine c.kF (α:=Int) (n:=1) (vs:=[Pv Pw (nth s.i.args 0)]) (ds:=[nth s.i.args 0]) El.aR ?_ ⟨bn.2 ⟨rfl,a0⟩,trivial⟩ rfl P4 P4 λuB h W hW c huB hle=>?_
                · simp;done)
             | (refine bN (ops:=[.tmp 36]) (caps:=#[ptr O,ptr I,ptr P]) rfl P1 (tX mx Pq c.wle (hm _) l2) ?_
                rintro um h ⟨hle,hum⟩
                have hW:=c.up (h':=h)
                have c:=c.ext hle)
             | (refine bN (ops:=[.tmp 47]) (caps:=#[ptr I]) rfl P1 (tM mx Pq c.wle (c.own.get (k:=(0,2)) (v:=uA) (l:=[nth m.args 0,nth m.args 1]) Ri) Sa l1 P2) ?_
                rintro uw h ⟨own2,mv⟩
                have c:=c.jf (k:=(0,2)) (v:=uA) (l:=[nth m.args 0,nth m.args 1]) Ri own2 mv
                obtain⟨W,hW,c,huA⟩:=c.freeze (k:=(0,2)) (v:=uw) (l:=[nth m.args 0,nth m.args 1]++s.i.args.drop 1) Ri)
             | (refine af P1 (jM c.wle (hum.mono Pq) (huA.mono Pq) (huB.mono Pq)) ?_
                rintro _ h ⟨hle,vf,rfl,hvf⟩
                have hW:=c.up (h':=h)
                have c:=c.ext hle)
             | refine c.bs (k:=(0,0)) (n:=7) (l:=fitZ) Ri hvf rfl rfl P1 Sa Sa λh l9 hl9 c=>?_
             try refine⟨Pt Pq c.wle,?_⟩
             subst hy))
        all_goals
          simp[g0,g1,g2,g3,g4,g5,g7,g8,ag,ah]
          rw[hx']
          have hall:=c.all (k:=(0,0)) (n:=7) (l:=l9) (B:=R) (e:=T.aS) Ri
          simp at hall
          simp[g0,g1,g2,g3,g4,g5,g7,g8,ag,ah,hall]
          exact fin _ _ _ _ c (hl9▸hvf)
      · simp[g0,g1,g2,g3,g4,g5,g7,g8,ag,ah,ae c.wle (ae hVW i4),e0]
        refine ay (t:=T.aS) (z:=.agg fitZ.toArray) (places:=[(0,1),(1,1),(2,1),(3,5)]) (vs:=[]) (cs:=fitZ.toArray) P1 P1 Sa P1 ?_
        refine c.bs (k:=(0,0)) (n:=7) (l:=fitZ) Ri eY rfl rfl P1 Sa Sa λh9 l9 hl9 c9=>?_
        have hall:=c9.all (k:=(0,0)) (n:=7) (l:=l9) (B:=R) (e:=T.aS) Ri
        simp at hall
        simp[hall]
        exact none_ _ _ _ c9 (hl9▸eY) (by simp[e0])
  refine aT V cb.wle ?_
  have c:=cb
  refine gL ?_ ?_
  · refine bD λy hy=>?_
    simp[hus,i3,q0,d0]
    refine af P1 (hF c.wle rus hok.sm a0) ?_
    rintro _ h1 ⟨hle1,vm,rfl,hvm⟩
    have hW1:=c.up (h':=h1)
    have c:=c.ext hle1
    subst hy
    refine bD λy hy=>?_
    simp
    refine c.dw (k:=(0,4)) (z:=.agg insZ.toArray) (d:=fQ) Ri P1 lG P4 λB2 h2 hle2 c=>?_
    subst hy
    refine bD λy hy=>?_
    simp
    refine c.gM Part.all (k:=(0,4)) (D:=fQ) (d:=m) Ri P1 Sa Sa hvm λh3 c=>?_
    subst hy
    simp
    obtain⟨W4,hW4,c,hat⟩:=c.tJ (k:=(0,4)) (B:=B2) (d:=m) Ri
    rw[Own.eD,Own.qN Ri]at c
    exact rest _ _ _ _ (Pt hW1 hW4) c hat rfl rfl rfl rfl rfl rfl rfl rfl
  · refine bD λy hy=>?_
    simp[hus,i3,q0,d0]
    refine c.dw (k:=(0,4)) (z:=.agg insZ.toArray) (d:=fQ) Ri P1 lG P4 λB2 h2 hle2 c=>?_
    refine⟨c.wle,?_⟩
    subst hy
    refine bD λy hy=>?_
    simp
    refine af P1 (hF c.wle rus hok.sm a0) ?_
    rintro _ h1 ⟨hle1,vm,rfl,hvm⟩
    have hW1:=c.up (h':=h1)
    have c:=c.ext hle1
    subst hy
    refine bD λy hy=>?_
    simp
    refine c.gM Part.all (k:=(0,4)) (D:=fQ) (d:=m) Ri P1 Sa Sa hvm λh3 c=>?_
    subst hy
    simp
    obtain⟨W4,hW4,c,hat⟩:=c.tJ (k:=(0,4)) (B:=B2) (d:=m) Ri
    rw[Own.eD,Own.qN Ri]at c
    exact rest _ _ _ _ (Pt hW1 hW4) c hat rfl rfl rfl rfl rfl rfl rfl rfl
end
end Go.Proofs.YtnfiilgdjpdlkaaGreatDoor
namespace Go.Lft
open Go
def Co (subs:List (Array Bool × Reg)) (l:Array Bool):Option Reg:=(subs.find? λp=>p.1 == l).map (·.2)
theorem Ds{subs:List (Array Bool × Reg)}{l:Array Bool}{R:Reg}(h:Co subs l=Py R):(l,R)∈subs:=by
 unfold Co at h;rw[Lq]at h;obtain⟨p,hp,rfl⟩:=h;have h1:=O8 hp;have h2:=Nf hp;have:p.1=l:=by simpa using h1
 subst this;exact h2
def HW (P:Program) (N:Nat) (ops:Array Oper) (live:List Nat) (l0:Option Nat) (listed:Array Bool) (subs:List (Array Bool × Reg)):Option Reg:=
 match nB P ops l0 ops.size listed with
 | none=>Pz
 | some (qs,l1)=>match rdy ops l1 with
  | []=>zV P N ops live (lH ops qs)
  | rs=>iB (λi=>match ops[i]? with
   | none=>Pz
   | some o=>match Co subs (l1.setIfInBounds i PC)with
    | some next=>rL P N ops live (lH ops qs) o (vJ ops (l1.setIfInBounds i PC)) (l0 == Py i) next
    | none=>Pz) rs
theorem pK {f g:Nat->Option Reg} (h : ∀i X,f i=Py X->g i=Py X) : ∀{rs:List Nat} {R:Reg},iB f rs=Py R->iB g rs=Py R
 | [],_,e=>by cases e
 | [i],_,e=>h i _ e
 | i::j::rs,R,e=>by
  unfold iB at e ⊢;cases h1:f i with
  | none=>rw[h1]at e;cases e
  | some x=>
   cases h2:iB f (j::rs)with
   | none=>rw[h1,h2]at e;cases e
   | some y=>rw[h1,h2]at e;rw[h i x h1,pK h h2];exact e
theorem bI{P:Program}{N:Nat}{ops:Array Oper}{live:List Nat}{l0:Option Nat}{listed:Array Bool}{subs:List (Array Bool × Reg)}{R:Reg}{f:Nat}(h:HW P N ops live l0 listed subs=Py R)(hs : ∀p∈subs,regD P N ops live l0 f p.1=Py p.2):regD P N ops live l0 (f+1) listed=Py R:=by
 unfold HW at h;unfold regD;split at h
 ·cases h
 rename_i qs l1 hq;rw[hq];simp only;split at h
 ·rename_i hr;rw[hr];exact h
 rename_i hne;split
 ·rename_i hr;exact absurd hr hne
 refine pK (λi X e=>?_) h;cases ho:ops[i]? with
 | none=>rw[ho]at e;cases e
 | some o=>
  rw[ho]at e;simp only at e ⊢;cases hb:Co subs (l1.setIfInBounds i PC)with
  | none=>rw[hb]at e;cases e
  | some next=>rw[hb]at e;rw[hs _ (Ds hb)];exact e
def seqL:Code->Code | .seq x _=>x | x=>x
def seqR:Code->Code | .seq _ y=>y | x=>x
def H0:Code->Bool | .seq _ _=>PC | _=>PD
def opsR:Code->Array Oper | .region _ ops _=>ops | _=>#[]
def Cd:Code->Bool | .region _ ops d=>d&&ops.all λo=>dD o.op | _=>PD
theorem jO{P:Program}{N:Nat}{lv lr:List Nat}{b:Bool}{c:Code}{x y:LC}(hc:H0 c=PC)(h1:dF P N lv lr b (seqL c)=Py x)(h2:dF P N lv lr b (seqR c)=Py y):dF P N lv lr b c=Py (.seq x y):=by cases c<;>simp[H0]at hc;simp only[seqL,seqR]at h1 h2;simp only[dF,h1,h2]
theorem yb{P:Program}{N:Nat}{lv lr:List Nat}{b:Bool}{c:Code}{R:Reg}{l0:Option Nat}{n:Nat}(hc:Cd c=PC)(h0:An P (opsR c)=l0)(hn:(opsR c).size=n)(h:regD P N (opsR c) lv l0 (n+1) (Array.replicate n PD)=Py R):dF P N lv lr b c=Py (.reg PC R):=by subst h0;subst hn;cases c<;>simp[Cd]at hc;simp only[opsR]at h;simp only[dF];rw[if_pos hc.1,if_pos (by simpa using hc.2),h];rfl
def sw (fn:Func):Code:=fn.body.getD .skip
theorem Hz{P:Program}{fn:Func}{res:List E}{x:LC}{lv lr:List Nat}{n:Nat}(hb:fn.body.isSome=PC)(hr:fn.results.toList.mapM (resE P)=Py res)(h1:jZ (sw fn)++sB fn (sw fn)=lv)(h2:sB fn (sw fn)=lr)(hn:fn.ntmps=n)(h:dF P n lv lr PD (sw fn)=Py x):aQ P fn=Py ⟨res,x⟩:=by
 subst h1;subst h2;subst hn;unfold sw at h;unfold aQ;cases hb':fn.body with
 | none=>rw[hb']at hb;cases hb
 | some c=>rw[hb']at h;simp only[O5]at h;simp only[hr,h]
end Go.Lft
namespace Go.Proofs.YtnfiilgdjpdlkaaGreatDoor
open Go Go.Lft
section
set_option maxRecDepth 100000
noncomputable def L.aa.q0.ops:Array Oper:=opsR (seqL (seqR (seqR (seqR (seqR (sw Tryz.f133))))))
def L.aa.q0.r0:Reg:=(.fin [11] [] [(.tmp 65)])
def L.aa.q0.r1:Reg:=by apply(fun{b:Reg}(_:b=s [] [] (w [10,64]) (.store 101 (a 10) (a 64)) L.aa.q0.r0)=>b);simp only[sh];rfl
def L.aa.q0.r2:Reg:=by apply(fun{b:Reg}(_:b=l [33,64,65] [(64,.un (.ext 0) (t 63)),(65,.un (.ext 1) (t 63))] [] (.alloc 101) 0 10 L.aa.q0.r1)=>b);simp only[sh];rfl
def L.aa.q0.r3:Reg:=by apply(fun{b:Reg}(_:b=s [33,64,65] [(65,.un (.ext 1) (t 63))] [(10,t 10),(64,.un (.ext 0) (t 63))] (.store 101 (a 10) (a 64)) L.aa.q0.r0)=>b);simp only[sh];rfl
def L.aa.q0.r4:Reg:=by apply(fun{b:Reg}(_:b=.loud [] [] (w [46,53,62]) Pz [] PC (x 104 [46,53,62] [80,22,22]) 102 (Py 63) PC L.aa.q0.r3)=>b);simp only[sh];rfl
def L.aa.q0.r5:Reg:=by apply(fun{b:Reg}(_:b=.both (.loud [] [] (w [46,53,62]) Pz [] PC (x 104 [46,53,62] [80,22,22]) 102 (Py 63) PC L.aa.q0.r2) (p [] (.alloc 101) 0 10 L.aa.q0.r4))=>b);simp only[sh];rfl
def L.aa.q0.r6:Reg:=by apply(fun{b:Reg}(_:b=p (w [57,61]) (.buildSlice 22 2 #[(0,a 57),(1,a 61)]) 22 62 L.aa.q0.r4)=>b);simp only[sh];rfl
def L.aa.q0.r7:Reg:=by apply(fun{b:Reg}(_:b=.both (p (w [57,61]) (.buildSlice 22 2 #[(0,a 57),(1,a 61)]) 22 62 L.aa.q0.r5) (p [] (.alloc 101) 0 10 L.aa.q0.r6))=>b);simp only[sh];rfl
def L.aa.q0.r8:Reg:=by apply(fun{b:Reg}(_:b=p (w [47,52]) (.call ⟨.value (a 47),#[a 52],#[22]⟩) 22 53 L.aa.q0.r4)=>b);simp only[sh];rfl
def L.aa.q0.r9:Reg:=by apply(fun{b:Reg}(_:b=.both (p (w [47,52]) (.call ⟨.value (a 47),#[a 52],#[22]⟩) 22 53 L.aa.q0.r5) (p [] (.alloc 101) 0 10 L.aa.q0.r8))=>b);simp only[sh];rfl
def L.aa.q0.r10:Reg:=by apply(fun{b:Reg}(_:b=.both (p (w [47,52]) (.call ⟨.value (a 47),#[a 52],#[22]⟩) 22 53 L.aa.q0.r6) (p (w [57,61]) (.buildSlice 22 2 #[(0,a 57),(1,a 61)]) 22 62 L.aa.q0.r8))=>b);simp only[sh];rfl
def L.aa.q0.r11:Reg:=by apply(fun{b:Reg}(_:b=.both (p (w [47,52]) (.call ⟨.value (a 47),#[a 52],#[22]⟩) 22 53 L.aa.q0.r7) (.both (p (w [57,61]) (.buildSlice 22 2 #[(0,a 57),(1,a 61)]) 22 62 L.aa.q0.r9) (p [] (.alloc 101) 0 10 L.aa.q0.r10)))=>b);simp only[sh];rfl
def L.aa.q0.r12:Reg:=by apply(fun{b:Reg}(_:b=p (w [51]) (.buildSlice 22 1 #[(0,a 51)]) 22 52 L.aa.q0.r8)=>b);simp only[sh];rfl
def L.aa.q0.r13:Reg:=by apply(fun{b:Reg}(_:b=.both (p (w [51]) (.buildSlice 22 1 #[(0,a 51)]) 22 52 L.aa.q0.r9) (p [] (.alloc 101) 0 10 L.aa.q0.r12))=>b);simp only[sh];rfl
def L.aa.q0.r14:Reg:=by apply(fun{b:Reg}(_:b=.both (p (w [51]) (.buildSlice 22 1 #[(0,a 51)]) 22 52 L.aa.q0.r10) (p (w [57,61]) (.buildSlice 22 2 #[(0,a 57),(1,a 61)]) 22 62 L.aa.q0.r12))=>b);simp only[sh];rfl
def L.aa.q0.r15:Reg:=by apply(fun{b:Reg}(_:b=.both (p (w [51]) (.buildSlice 22 1 #[(0,a 51)]) 22 52 L.aa.q0.r11) (.both (p (w [57,61]) (.buildSlice 22 2 #[(0,a 57),(1,a 61)]) 22 62 L.aa.q0.r13) (p [] (.alloc 101) 0 10 L.aa.q0.r14)))=>b);simp only[sh];rfl
def L.aa.q0.r16:Reg:=by apply(fun{b:Reg}(_:b=p (w [34,45]) (.call ⟨.value (a 34),#[a 45],#[80]⟩) 80 46 L.aa.q0.r8)=>b);simp only[sh];rfl
def L.aa.q0.r17:Reg:=by apply(fun{b:Reg}(_:b=.both (p (w [34,45]) (.call ⟨.value (a 34),#[a 45],#[80]⟩) 80 46 L.aa.q0.r9) (p [] (.alloc 101) 0 10 L.aa.q0.r16))=>b);simp only[sh];rfl
def L.aa.q0.r18:Reg:=by apply(fun{b:Reg}(_:b=.both (p (w [34,45]) (.call ⟨.value (a 34),#[a 45],#[80]⟩) 80 46 L.aa.q0.r10) (p (w [57,61]) (.buildSlice 22 2 #[(0,a 57),(1,a 61)]) 22 62 L.aa.q0.r16))=>b);simp only[sh];rfl
def L.aa.q0.r19:Reg:=by apply(fun{b:Reg}(_:b=.both (p (w [34,45]) (.call ⟨.value (a 34),#[a 45],#[80]⟩) 80 46 L.aa.q0.r11) (.both (p (w [57,61]) (.buildSlice 22 2 #[(0,a 57),(1,a 61)]) 22 62 L.aa.q0.r17) (p [] (.alloc 101) 0 10 L.aa.q0.r18)))=>b);simp only[sh];rfl
def L.aa.q0.r20:Reg:=by apply(fun{b:Reg}(_:b=.both (p (w [34,45]) (.call ⟨.value (a 34),#[a 45],#[80]⟩) 80 46 L.aa.q0.r12) (p (w [51]) (.buildSlice 22 1 #[(0,a 51)]) 22 52 L.aa.q0.r16))=>b);simp only[sh];rfl
def L.aa.q0.r21:Reg:=by apply(fun{b:Reg}(_:b=.both (p (w [34,45]) (.call ⟨.value (a 34),#[a 45],#[80]⟩) 80 46 L.aa.q0.r13) (.both (p (w [51]) (.buildSlice 22 1 #[(0,a 51)]) 22 52 L.aa.q0.r17) (p [] (.alloc 101) 0 10 L.aa.q0.r20)))=>b);simp only[sh];rfl
def L.aa.q0.r22:Reg:=by apply(fun{b:Reg}(_:b=.both (p (w [34,45]) (.call ⟨.value (a 34),#[a 45],#[80]⟩) 80 46 L.aa.q0.r14) (.both (p (w [51]) (.buildSlice 22 1 #[(0,a 51)]) 22 52 L.aa.q0.r18) (p (w [57,61]) (.buildSlice 22 2 #[(0,a 57),(1,a 61)]) 22 62 L.aa.q0.r20)))=>b);simp only[sh];rfl
def L.aa.q0.r23:Reg:=by apply(fun{b:Reg}(_:b=.both (p (w [34,45]) (.call ⟨.value (a 34),#[a 45],#[80]⟩) 80 46 L.aa.q0.r15) (.both (p (w [51]) (.buildSlice 22 1 #[(0,a 51)]) 22 52 L.aa.q0.r19) (.both (p (w [57,61]) (.buildSlice 22 2 #[(0,a 57),(1,a 61)]) 22 62 L.aa.q0.r21) (p [] (.alloc 101) 0 10 L.aa.q0.r22))))=>b);simp only[sh];rfl
def L.aa.q0.r24:Reg:=by apply(fun{b:Reg}(_:b=p (w [35,39,44]) (.build 80 #[(0,a 35),(3,a 39),(6,a 44)]) 80 45 L.aa.q0.r16)=>b);simp only[sh];rfl
def L.aa.q0.r25:Reg:=by apply(fun{b:Reg}(_:b=.both (p (w [35,39,44]) (.build 80 #[(0,a 35),(3,a 39),(6,a 44)]) 80 45 L.aa.q0.r17) (p [] (.alloc 101) 0 10 L.aa.q0.r24))=>b);simp only[sh];rfl
def L.aa.q0.r26:Reg:=by apply(fun{b:Reg}(_:b=.both (p (w [35,39,44]) (.build 80 #[(0,a 35),(3,a 39),(6,a 44)]) 80 45 L.aa.q0.r18) (p (w [57,61]) (.buildSlice 22 2 #[(0,a 57),(1,a 61)]) 22 62 L.aa.q0.r24))=>b);simp only[sh];rfl
def L.aa.q0.r27:Reg:=by apply(fun{b:Reg}(_:b=.both (p (w [35,39,44]) (.build 80 #[(0,a 35),(3,a 39),(6,a 44)]) 80 45 L.aa.q0.r19) (.both (p (w [57,61]) (.buildSlice 22 2 #[(0,a 57),(1,a 61)]) 22 62 L.aa.q0.r25) (p [] (.alloc 101) 0 10 L.aa.q0.r26)))=>b);simp only[sh];rfl
def L.aa.q0.r28:Reg:=by apply(fun{b:Reg}(_:b=.both (p (w [35,39,44]) (.build 80 #[(0,a 35),(3,a 39),(6,a 44)]) 80 45 L.aa.q0.r20) (p (w [51]) (.buildSlice 22 1 #[(0,a 51)]) 22 52 L.aa.q0.r24))=>b);simp only[sh];rfl
def L.aa.q0.r29:Reg:=by apply(fun{b:Reg}(_:b=.both (p (w [35,39,44]) (.build 80 #[(0,a 35),(3,a 39),(6,a 44)]) 80 45 L.aa.q0.r21) (.both (p (w [51]) (.buildSlice 22 1 #[(0,a 51)]) 22 52 L.aa.q0.r25) (p [] (.alloc 101) 0 10 L.aa.q0.r28)))=>b);simp only[sh];rfl
def L.aa.q0.r30:Reg:=by apply(fun{b:Reg}(_:b=.both (p (w [35,39,44]) (.build 80 #[(0,a 35),(3,a 39),(6,a 44)]) 80 45 L.aa.q0.r22) (.both (p (w [51]) (.buildSlice 22 1 #[(0,a 51)]) 22 52 L.aa.q0.r26) (p (w [57,61]) (.buildSlice 22 2 #[(0,a 57),(1,a 61)]) 22 62 L.aa.q0.r28)))=>b);simp only[sh];rfl
def L.aa.q0.r31:Reg:=by apply(fun{b:Reg}(_:b=.both (l [34,35,36,37,38,39,40,41,42,43,44,47,48,49,50,51,54,55,56,57,58,59,60,61] [(34,d (t 2)),(47,d (t 4)),(51,d (i 1 (g 3 (t 7)) (c 0))),(57,d (i 1 (g 3 (t 1)) (c 0))),(61,d (i 1 (g 3 (t 7)) (c 1)))] [(35,d (t 3)),(39,d (i 1 (g 3 (t 7)) (c 0))),(44,o (.un (.conv .i32) (t 9)) (g 4 (t 1)))] (.build 80 #[(0,a 35),(3,a 39),(6,a 44)]) 80 45 L.aa.q0.r23) (.both (l [34,35,36,37,38,39,40,41,42,43,44,47,48,49,50,51,54,55,56,57,58,59,60,61] [(34,d (t 2)),(35,d (t 3)),(39,d (i 1 (g 3 (t 7)) (c 0))),(44,o (.un (.conv .i32) (t 9)) (g 4 (t 1))),(47,d (t 4)),(57,d (i 1 (g 3 (t 1)) (c 0))),(61,d (i 1 (g 3 (t 7)) (c 1)))] [(51,d (i 1 (g 3 (t 7)) (c 0)))] (.buildSlice 22 1 #[(0,a 51)]) 22 52 L.aa.q0.r27) (.both (l [34,35,36,37,38,39,40,41,42,43,44,47,48,49,50,51,54,55,56,57,58,59,60,61] [(34,d (t 2)),(35,d (t 3)),(39,d (i 1 (g 3 (t 7)) (c 0))),(44,o (.un (.conv .i32) (t 9)) (g 4 (t 1))),(47,d (t 4)),(51,d (i 1 (g 3 (t 7)) (c 0)))] [(57,d (i 1 (g 3 (t 1)) (c 0))),(61,d (i 1 (g 3 (t 7)) (c 1)))] (.buildSlice 22 2 #[(0,a 57),(1,a 61)]) 22 62 L.aa.q0.r29) (l [34,35,36,37,38,39,40,41,42,43,44,47,48,49,50,51,54,55,56,57,58,59,60,61] [(34,d (t 2)),(35,d (t 3)),(39,d (i 1 (g 3 (t 7)) (c 0))),(44,o (.un (.conv .i32) (t 9)) (g 4 (t 1))),(47,d (t 4)),(51,d (i 1 (g 3 (t 7)) (c 0))),(57,d (i 1 (g 3 (t 1)) (c 0))),(61,d (i 1 (g 3 (t 7)) (c 1)))] [] (.alloc 101) 0 10 L.aa.q0.r30))))=>b);simp only[sh];rfl
theorem E.aa.q0r0:regD PE 76 L.aa.q0.ops [22,5,6,1,0,8,5,7,4,9,3,2,10] (Py 29) 29 (Pu 36 34359738367)=Py L.aa.q0.r0:=bI (subs:=[]) P1 (λ_ h=>by cases h)
theorem E.aa.q0r1:regD PE 76 L.aa.q0.ops [22,5,6,1,0,8,5,7,4,9,3,2,10] (Py 29) 30 (Pu 36 17179869183)=Py L.aa.q0.r1:=bI (subs:=[((Pu 36 34359738367),L.aa.q0.r0)]) P1 (Lo.2 ⟨E.aa.q0r0,λ_ h=>by cases h⟩)
theorem E.aa.q0r2:regD PE 76 L.aa.q0.ops [22,5,6,1,0,8,5,7,4,9,3,2,10] (Py 29) 31 (Pu 36 1073741823)=Py L.aa.q0.r2:=bI (subs:=[((Pu 36 17179869183),L.aa.q0.r1)]) P1 (Lo.2 ⟨E.aa.q0r1,λ_ h=>by cases h⟩)
theorem E.aa.q0r3:regD PE 76 L.aa.q0.ops [22,5,6,1,0,8,5,7,4,9,3,2,10] (Py 29) 30 (Pu 36 9663676415)=Py L.aa.q0.r3:=bI (subs:=[((Pu 36 34359738367),L.aa.q0.r0)]) P1 (Lo.2 ⟨E.aa.q0r0,λ_ h=>by cases h⟩)
theorem E.aa.q0r4:regD PE 76 L.aa.q0.ops [22,5,6,1,0,8,5,7,4,9,3,2,10] (Py 29) 31 (Pu 36 9126805503)=Py L.aa.q0.r4:=bI (subs:=[((Pu 36 9663676415),L.aa.q0.r3)]) P1 (Lo.2 ⟨E.aa.q0r3,λ_ h=>by cases h⟩)
theorem E.aa.q0r5:regD PE 76 L.aa.q0.ops [22,5,6,1,0,8,5,7,4,9,3,2,10] (Py 29) 32 (Pu 36 536870911)=Py L.aa.q0.r5:=bI (subs:=[((Pu 36 1073741823),L.aa.q0.r2),((Pu 36 9126805503),L.aa.q0.r4)]) P1 (Lo.2 ⟨E.aa.q0r2,Lo.2 ⟨E.aa.q0r4,λ_ h=>by cases h⟩⟩)
theorem E.aa.q0r6:regD PE 76 L.aa.q0.ops [22,5,6,1,0,8,5,7,4,9,3,2,10] (Py 29) 32 (Pu 36 8858370047)=Py L.aa.q0.r6:=bI (subs:=[((Pu 36 9126805503),L.aa.q0.r4)]) P1 (Lo.2 ⟨E.aa.q0r4,λ_ h=>by cases h⟩)
theorem E.aa.q0r7:regD PE 76 L.aa.q0.ops [22,5,6,1,0,8,5,7,4,9,3,2,10] (Py 29) 33 (Pu 36 268435455)=Py L.aa.q0.r7:=bI (subs:=[((Pu 36 536870911),L.aa.q0.r5),((Pu 36 8858370047),L.aa.q0.r6)]) P1 (Lo.2 ⟨E.aa.q0r5,Lo.2 ⟨E.aa.q0r6,λ_ h=>by cases h⟩⟩)
theorem E.aa.q0r8:regD PE 76 L.aa.q0.ops [22,5,6,1,0,8,5,7,4,9,3,2,10] (Py 29) 32 (Pu 36 9126281215)=Py L.aa.q0.r8:=bI (subs:=[((Pu 36 9126805503),L.aa.q0.r4)]) P1 (Lo.2 ⟨E.aa.q0r4,λ_ h=>by cases h⟩)
theorem E.aa.q0r9:regD PE 76 L.aa.q0.ops [22,5,6,1,0,8,5,7,4,9,3,2,10] (Py 29) 33 (Pu 36 536346623)=Py L.aa.q0.r9:=bI (subs:=[((Pu 36 536870911),L.aa.q0.r5),((Pu 36 9126281215),L.aa.q0.r8)]) P1 (Lo.2 ⟨E.aa.q0r5,Lo.2 ⟨E.aa.q0r8,λ_ h=>by cases h⟩⟩)
theorem E.aa.Ee:regD PE 76 L.aa.q0.ops [22,5,6,1,0,8,5,7,4,9,3,2,10] (Py 29) 33 (Pu 36 8857845759)=Py L.aa.q0.r10:=bI (subs:=[((Pu 36 8858370047),L.aa.q0.r6),((Pu 36 9126281215),L.aa.q0.r8)]) P1 (Lo.2 ⟨E.aa.q0r6,Lo.2 ⟨E.aa.q0r8,λ_ h=>by cases h⟩⟩)
theorem E.aa.HV:regD PE 76 L.aa.q0.ops [22,5,6,1,0,8,5,7,4,9,3,2,10] (Py 29) 34 (Pu 36 267911167)=Py L.aa.q0.r11:=bI (subs:=[((Pu 36 268435455),L.aa.q0.r7),((Pu 36 536346623),L.aa.q0.r9),((Pu 36 8857845759),L.aa.q0.r10)]) P1 (Lo.2 ⟨E.aa.q0r7,Lo.2 ⟨E.aa.q0r9,Lo.2 ⟨E.aa.Ee,λ_ h=>by cases h⟩⟩⟩)
theorem E.aa.ES:regD PE 76 L.aa.q0.ops [22,5,6,1,0,8,5,7,4,9,3,2,10] (Py 29) 33 (Pu 36 9126019071)=Py L.aa.q0.r12:=bI (subs:=[((Pu 36 9126281215),L.aa.q0.r8)]) P1 (Lo.2 ⟨E.aa.q0r8,λ_ h=>by cases h⟩)
theorem E.aa.HR:regD PE 76 L.aa.q0.ops [22,5,6,1,0,8,5,7,4,9,3,2,10] (Py 29) 34 (Pu 36 536084479)=Py L.aa.q0.r13:=bI (subs:=[((Pu 36 536346623),L.aa.q0.r9),((Pu 36 9126019071),L.aa.q0.r12)]) P1 (Lo.2 ⟨E.aa.q0r9,Lo.2 ⟨E.aa.ES,λ_ h=>by cases h⟩⟩)
theorem E.aa.HO:regD PE 76 L.aa.q0.ops [22,5,6,1,0,8,5,7,4,9,3,2,10] (Py 29) 34 (Pu 36 8857583615)=Py L.aa.q0.r14:=bI (subs:=[((Pu 36 8857845759),L.aa.q0.r10),((Pu 36 9126019071),L.aa.q0.r12)]) P1 (Lo.2 ⟨E.aa.Ee,Lo.2 ⟨E.aa.ES,λ_ h=>by cases h⟩⟩)
theorem E.aa.J5:regD PE 76 L.aa.q0.ops [22,5,6,1,0,8,5,7,4,9,3,2,10] (Py 29) 35 (Pu 36 267649023)=Py L.aa.q0.r15:=bI (subs:=[((Pu 36 267911167),L.aa.q0.r11),((Pu 36 536084479),L.aa.q0.r13),((Pu 36 8857583615),L.aa.q0.r14)]) P1 (Lo.2 ⟨E.aa.HV,Lo.2 ⟨E.aa.HR,Lo.2 ⟨E.aa.HO,λ_ h=>by cases h⟩⟩⟩)
theorem E.aa.Cc:regD PE 76 L.aa.q0.ops [22,5,6,1,0,8,5,7,4,9,3,2,10] (Py 29) 33 (Pu 36 9126277119)=Py L.aa.q0.r16:=bI (subs:=[((Pu 36 9126281215),L.aa.q0.r8)]) P1 (Lo.2 ⟨E.aa.q0r8,λ_ h=>by cases h⟩)
theorem E.aa.FB:regD PE 76 L.aa.q0.ops [22,5,6,1,0,8,5,7,4,9,3,2,10] (Py 29) 34 (Pu 36 536342527)=Py L.aa.q0.r17:=bI (subs:=[((Pu 36 536346623),L.aa.q0.r9),((Pu 36 9126277119),L.aa.q0.r16)]) P1 (Lo.2 ⟨E.aa.q0r9,Lo.2 ⟨E.aa.Cc,λ_ h=>by cases h⟩⟩)
theorem E.aa.EH:regD PE 76 L.aa.q0.ops [22,5,6,1,0,8,5,7,4,9,3,2,10] (Py 29) 34 (Pu 36 8857841663)=Py L.aa.q0.r18:=bI (subs:=[((Pu 36 8857845759),L.aa.q0.r10),((Pu 36 9126277119),L.aa.q0.r16)]) P1 (Lo.2 ⟨E.aa.Ee,Lo.2 ⟨E.aa.Cc,λ_ h=>by cases h⟩⟩)
theorem E.aa.HQ:regD PE 76 L.aa.q0.ops [22,5,6,1,0,8,5,7,4,9,3,2,10] (Py 29) 35 (Pu 36 267907071)=Py L.aa.q0.r19:=bI (subs:=[((Pu 36 267911167),L.aa.q0.r11),((Pu 36 536342527),L.aa.q0.r17),((Pu 36 8857841663),L.aa.q0.r18)]) P1 (Lo.2 ⟨E.aa.HV,Lo.2 ⟨E.aa.FB,Lo.2 ⟨E.aa.EH,λ_ h=>by cases h⟩⟩⟩)
theorem E.aa.EJ:regD PE 76 L.aa.q0.ops [22,5,6,1,0,8,5,7,4,9,3,2,10] (Py 29) 34 (Pu 36 9126014975)=Py L.aa.q0.r20:=bI (subs:=[((Pu 36 9126019071),L.aa.q0.r12),((Pu 36 9126277119),L.aa.q0.r16)]) P1 (Lo.2 ⟨E.aa.ES,Lo.2 ⟨E.aa.Cc,λ_ h=>by cases h⟩⟩)
theorem E.aa.Ih:regD PE 76 L.aa.q0.ops [22,5,6,1,0,8,5,7,4,9,3,2,10] (Py 29) 35 (Pu 36 536080383)=Py L.aa.q0.r21:=bI (subs:=[((Pu 36 536084479),L.aa.q0.r13),((Pu 36 536342527),L.aa.q0.r17),((Pu 36 9126014975),L.aa.q0.r20)]) P1 (Lo.2 ⟨E.aa.HR,Lo.2 ⟨E.aa.FB,Lo.2 ⟨E.aa.EJ,λ_ h=>by cases h⟩⟩⟩)
theorem E.aa.Ib:regD PE 76 L.aa.q0.ops [22,5,6,1,0,8,5,7,4,9,3,2,10] (Py 29) 35 (Pu 36 8857579519)=Py L.aa.q0.r22:=bI (subs:=[((Pu 36 8857583615),L.aa.q0.r14),((Pu 36 8857841663),L.aa.q0.r18),((Pu 36 9126014975),L.aa.q0.r20)]) P1 (Lo.2 ⟨E.aa.HO,Lo.2 ⟨E.aa.EH,Lo.2 ⟨E.aa.EJ,λ_ h=>by cases h⟩⟩⟩)
theorem E.aa.Kf:regD PE 76 L.aa.q0.ops [22,5,6,1,0,8,5,7,4,9,3,2,10] (Py 29) 36 (Pu 36 267644927)=Py L.aa.q0.r23:=bI (subs:=[((Pu 36 267649023),L.aa.q0.r15),((Pu 36 267907071),L.aa.q0.r19),((Pu 36 536080383),L.aa.q0.r21),((Pu 36 8857579519),L.aa.q0.r22)]) P1 (Lo.2 ⟨E.aa.J5,Lo.2 ⟨E.aa.HQ,Lo.2 ⟨E.aa.Ih,Lo.2 ⟨E.aa.Ib,λ_ h=>by cases h⟩⟩⟩⟩)
theorem E.aa.E6:regD PE 76 L.aa.q0.ops [22,5,6,1,0,8,5,7,4,9,3,2,10] (Py 29) 34 (Pu 36 9126275071)=Py L.aa.q0.r24:=bI (subs:=[((Pu 36 9126277119),L.aa.q0.r16)]) P1 (Lo.2 ⟨E.aa.Cc,λ_ h=>by cases h⟩)
theorem E.aa.Ii:regD PE 76 L.aa.q0.ops [22,5,6,1,0,8,5,7,4,9,3,2,10] (Py 29) 35 (Pu 36 536340479)=Py L.aa.q0.r25:=bI (subs:=[((Pu 36 536342527),L.aa.q0.r17),((Pu 36 9126275071),L.aa.q0.r24)]) P1 (Lo.2 ⟨E.aa.FB,Lo.2 ⟨E.aa.E6,λ_ h=>by cases h⟩⟩)
theorem E.aa.Ij:regD PE 76 L.aa.q0.ops [22,5,6,1,0,8,5,7,4,9,3,2,10] (Py 29) 35 (Pu 36 8857839615)=Py L.aa.q0.r26:=bI (subs:=[((Pu 36 8857841663),L.aa.q0.r18),((Pu 36 9126275071),L.aa.q0.r24)]) P1 (Lo.2 ⟨E.aa.EH,Lo.2 ⟨E.aa.E6,λ_ h=>by cases h⟩⟩)
theorem E.aa.Km:regD PE 76 L.aa.q0.ops [22,5,6,1,0,8,5,7,4,9,3,2,10] (Py 29) 36 (Pu 36 267905023)=Py L.aa.q0.r27:=bI (subs:=[((Pu 36 267907071),L.aa.q0.r19),((Pu 36 536340479),L.aa.q0.r25),((Pu 36 8857839615),L.aa.q0.r26)]) P1 (Lo.2 ⟨E.aa.HQ,Lo.2 ⟨E.aa.Ii,Lo.2 ⟨E.aa.Ij,λ_ h=>by cases h⟩⟩⟩)
theorem E.aa.H6:regD PE 76 L.aa.q0.ops [22,5,6,1,0,8,5,7,4,9,3,2,10] (Py 29) 35 (Pu 36 9126012927)=Py L.aa.q0.r28:=bI (subs:=[((Pu 36 9126014975),L.aa.q0.r20),((Pu 36 9126275071),L.aa.q0.r24)]) P1 (Lo.2 ⟨E.aa.EJ,Lo.2 ⟨E.aa.E6,λ_ h=>by cases h⟩⟩)
theorem E.aa.JO:regD PE 76 L.aa.q0.ops [22,5,6,1,0,8,5,7,4,9,3,2,10] (Py 29) 36 (Pu 36 536078335)=Py L.aa.q0.r29:=bI (subs:=[((Pu 36 536080383),L.aa.q0.r21),((Pu 36 536340479),L.aa.q0.r25),((Pu 36 9126012927),L.aa.q0.r28)]) P1 (Lo.2 ⟨E.aa.Ih,Lo.2 ⟨E.aa.Ii,Lo.2 ⟨E.aa.H6,λ_ h=>by cases h⟩⟩⟩)
theorem E.aa.J0:regD PE 76 L.aa.q0.ops [22,5,6,1,0,8,5,7,4,9,3,2,10] (Py 29) 36 (Pu 36 8857577471)=Py L.aa.q0.r30:=bI (subs:=[((Pu 36 8857579519),L.aa.q0.r22),((Pu 36 8857839615),L.aa.q0.r26),((Pu 36 9126012927),L.aa.q0.r28)]) P1 (Lo.2 ⟨E.aa.Ib,Lo.2 ⟨E.aa.Ij,Lo.2 ⟨E.aa.H6,λ_ h=>by cases h⟩⟩⟩)
theorem E.aa.Ka:regD PE 76 L.aa.q0.ops [22,5,6,1,0,8,5,7,4,9,3,2,10] (Py 29) 37 (Array.replicate 36 PD)=Py L.aa.q0.r31:=bI (subs:=[((Pu 36 267644927),L.aa.q0.r23),((Pu 36 267905023),L.aa.q0.r27),((Pu 36 536078335),L.aa.q0.r29),((Pu 36 8857577471),L.aa.q0.r30)]) P1 (Lo.2 ⟨E.aa.Kf,Lo.2 ⟨E.aa.Km,Lo.2 ⟨E.aa.JO,Lo.2 ⟨E.aa.J0,λ_ h=>by cases h⟩⟩⟩⟩)
def L.aa:LFn:=
⟨[(.un (.bU 8) (.tmp 5)),(.tmp 6)],
 (.seq
 (.reg PD (.loud [] [] [] Pz [] PD (.alloc 101) 0 (Py 5) PC
  (.fin [6] [(6,(.con (.bool PD)))] [])))
 (.seq
 (.reg PC (.both
  (.loud [13,14,15,16,17] [] [(13,(.un (.bU 13) (.tmp 0))),(17,(.un .load (.bin (.idx 1) (.un .load (.un (.fld 3) (.tmp 1))) (.con (Pv Pw 0)))))] Pz [] PC (.call ⟨.value (.func 100),#[(.tmp 13),(.tmp 17),(.const (Pv Pw 2))],#[97,3,3]⟩) 163 (Py 18) PC
   (.loud [12,19,20] [(19,(.un (.ext 0) (.tmp 18))),(20,(.un (.ext 1) (.tmp 18)))] [] Pz [] PD (.alloc 70) 0 (Py 7) PC
    (.loud [] [] [(7,(.tmp 7)),(19,(.tmp 19))] Pz [] PD (.store 70 (.tmp 7) (.tmp 19)) 0 Pz PD
     (.fin [8] [(8,(.tmp 20))] []))))
  (.loud [13,14,15,16,17] [(13,(.un (.bU 13) (.tmp 0))),(17,(.un .load (.bin (.idx 1) (.un .load (.un (.fld 3) (.tmp 1))) (.con (Pv Pw 0)))))] [] Pz [] PD (.alloc 70) 0 (Py 7) PC
   (.loud [] [] [(13,(.tmp 13)),(17,(.tmp 17))] Pz [] PC (.call ⟨.value (.func 100),#[(.tmp 13),(.tmp 17),(.const (Pv Pw 2))],#[97,3,3]⟩) 163 (Py 18) PC
    (.loud [12,19,20] [(20,(.un (.ext 1) (.tmp 18)))] [(7,(.tmp 7)),(19,(.un (.ext 0) (.tmp 18)))] Pz [] PD (.store 70 (.tmp 7) (.tmp 19)) 0 Pz PD
     (.fin [8] [(8,(.tmp 20))] []))))))
 (.seq
 (.seq
 (.reg PD (.fin [21,22] [(22,(.un .not (.tmp 8)))] []))
 (.cond (.tmp 22) [22]
  (.seq
  (.reg PD (.loud [] [] [] Pz [] PD (.build 101 #[]) 101 (Py 23) PC
   (.loud [] [] [(5,(.tmp 5)),(23,(.tmp 23))] Pz [] PD (.store 101 (.tmp 5) (.tmp 23)) 0 Pz PD
    (.fin [6] [(6,(.con (.bool PD)))] []))))
  .ret)
  .skip))
 (.seq
 (.reg PC (.loud [25,26,27,28,29] [] [(25,(.un (.bU 13) (.tmp 0))),(29,(.un .load (.bin (.idx 1) (.un .load (.un (.fld 3) (.tmp 7))) (.con (Pv Pw 1)))))] Pz [] PC (.call ⟨.value (.func 109),#[(.tmp 25),(.tmp 29),(.const (Pv Pw (-2147483648))),(.const (Pv Pw 2147483647))],#[97,3,3,3]⟩) 167 (Py 30) PC
  (.fin [24,31,32,9,8] [(9,(.un (.ext 0) (.tmp 30))),(8,(.un (.ext 1) (.tmp 30)))] [])))
 (.seq
 (.reg PC L.aa.q0.r31)
 (.seq
 (.reg PC (.loud [66,67,68,69,70,71,72,73] [(66,(.un (.bU 8) (.tmp 10))),(68,(.tmp 8))] [(73,(.gd (.tmp 8) PC (.bin (.arith .add) (.tmp 9) (.un (.conv .i64) (.un .load (.un (.fld 4) (.tmp 1)))))))] (Py ((.tmp 8),PC)) [] PD (.call ⟨.value (.func 42),#[(.tmp 73),(.const (Pv Pw 0)),(.const (Pv Pw 255))],#[3,3,3]⟩) 4 (Py 74) PC
  (.loud [75] [(75,(.ite (.tmp 68) (.tmp 74) (.con (.bool PD))))] [(5,(.tmp 5)),(66,(.tmp 66))] Pz [] PC (.store 101 (.tmp 5) (.tmp 66)) 0 Pz PD
   (.fin [6] [(6,(.tmp 75))] []))))
 .ret))))))⟩
theorem E.aa:aQ PE Tryz.f133=Py L.aa:=Hz (lv:=[22,5,6,1,0,8,5,7,4,9,3,2,10]) (lr:=[5,6,1,0,8,5,7,4,9,3,2,10]) (n:=76) P1 P1 P1 P1 P1
 (jO P1 P1
 (jO P1 P1
 (jO P1 P1
 (jO P1 P1
 (jO P1 (yb (l0:=(Py 29)) (n:=36) P1 P1 P1 E.aa.Ka)
 (jO P1 P1
 P1))))))
end
theorem wrap32_in{a:Int}(h0:-2147483648<=a)(h1:a<=2147483647):IntKind.i32.wrap a=a:=by unfold IntKind.wrap;simp[IntKind.signed,IntKind.bits];omega
section
variable {V:View} {h:Heap} {S I O P Q LL TT:Nat} {s:bR} {op plain sum:Int}
set_option maxHeartbeats 4000000 in
theorem Gi(mx:Mx V S I O P Q LL TT s op plain sum)(hV:V.le (vw h))(hok:kI s)(hop:s.i.op=op)(ho:op=15\/op=16)(hp0:0<=plain/\plain<=100):
    az PE 133 #[ptr S,ptr I,ptr LL,ptr P,ptr TT] h (λu h'=>bM V h h' u (memS s.f s.i s.temp op plain sum 1)):=by
  refine au (args:=[ptr S,ptr I,ptr LL,ptr P,ptr TT]) follows Tryz.func133 E.aa Pp λK hK=>?_
  dsimp only[L.aa,lkF,lkG]
  have c0:=Cx.start hV
  have l1:1<=s.i.args.length:=by
    rcases ho with q | q
    · exact hok.one.one (hop.trans q)
    · have:=hok.one.two (.inr (.inl (hop.trans q)));omega
  have l2:op=15\/2<=s.i.args.length:=ho.imp id λq=>hok.one.two (.inr (.inl (hop.trans q)))
  refine ab λz hz=>?_
  simp
  refine c0.cA (k:=(0,0)) (n:=7) (z:=.agg fitZ.toArray) rfl P1 rfl P4 P8 λR hb hleb cb=>?_
  subst hz
  have i4:=(mx.ct.ins.part InsD.jk)
  have r4:=i4.oL
  have i4:ak V ⟨I,4,Pz⟩=Py (Pv Px s.i.imm.v):=by simpa using i4.i32
  obtain⟨va,i3,hva⟩:=(mx.ct.ins.part InsD.dI).sl
  have i3:ak V ⟨I,3,Pz⟩=Py va:=by simpa using i3
  have a0:=hva.rng (i:=0) P2
  have most:=hok.one.most
  have q0:=hva.idx1 (k:=.i64) (i:=0) rfl P4 P2
  have d0:=hva.int (View.le_refl V) (i:=0) P2
  simp at q0
  obtain⟨us,hus,rus⟩:=mx.ct.site.ldN rfl (N:=13) rfl
  have hus:=hus V Ps
  have hfm:=dV (f:=s.f) (v:=nth s.i.args 0) (op:=2)
  have hdo:memS s.f s.i s.temp op plain sum 1=if(aF s.f (nth s.i.args 0) 2).2 then
      if(ed s.f (nth (aF s.f (nth s.i.args 0) 2).1.args 1) (-2147483648) 2147483647).2&&inR ((ed s.f (nth (aF s.f (nth s.i.args 0) 2).1.args 1) (-2147483648) 2147483647).1+s.i.imm.v) 0 255 then
        Py ⟨nth (aF s.f (nth s.i.args 0) 2).1.args 0::s.i.args.drop 1,[nth s.i.args 0,nth (aF s.f (nth s.i.args 0) 2).1.args 1],
          [jl s.i op plain ⟨plain,0,0,nth (aF s.f (nth s.i.args 0) 2).1.args 0,0,0,w32 ((ed s.f (nth (aF s.f (nth s.i.args 0) 2).1.args 1) (-2147483648) 2147483647).1+s.i.imm.v),[]⟩],dH⟩
      else Pz
    else none:=rfl
  have hF:=@mP s us (nth s.i.args 0) 2
  generalize (aF s.f (nth s.i.args 0) 2).1=m at *
  generalize (aF s.f (nth s.i.args 0) 2).2=b at *
  refine ab λz hz=>?_
  have rest : ∀(W:View) (hx:Heap) (B2:Nat) (ρ:Env),V.le W->Cx V h W hx (Own.upd (λ_=>Pz) (0,0) (bx T.aS R (RawN.mk (n:=7) fitZ)))->At W ⟨B2,0,Pz⟩ m->
      Lft.look ρ 0=Py (ptr S)->Lft.look ρ 1=Py (ptr I)->Lft.look ρ 2=Py (ptr LL)->Lft.look ρ 3=Py (ptr P)->Lft.look ρ 4=Py (ptr TT)->Lft.look ρ 5=Py (ptr R)->Lft.look ρ 7=Py (ptr B2)->Lft.look ρ 8=Py (.bool b)->
      LC.wp PE z (dB [.un (.bU 8) (.tmp 5),.tmp 6] K) ρ hx:=by
    intro W hx B2 ρ hVW c hat g0 g1 g2 g3 g4 g5 g7 g8
    rw[hz]
    refine ab λx hx'=>?_
    have none_ : ∀(hy:Heap) (o:Own) (l9:List Value),Cx V h W hy o->Rd W (.agg l9.toArray) E2->b=PD->K (.tuple #[.agg l9.toArray,.bool PD]) hy:=λhy o l9 c hr e=>
      hK _ _ (bM.of c hr (by rw[hdo,e];rfl) λy e2=>by rw[hdo,e]at e2;cases e2)
    cases b with
    | false=>
      simp[g0,g1,g2,g3,g4,g5,g7,ag,ah,g8]
      refine ay (t:=T.aS) (z:=.agg fitZ.toArray) (places:=[(0,1),(1,1),(2,1),(3,5)]) (vs:=[]) (cs:=fitZ.toArray) P1 P1 Sa P1 ?_
      refine c.bs (k:=(0,0)) (n:=7) (l:=fitZ) Ri eY rfl rfl P1 Sa Sa λh9 l9 hl9 c9=>?_
      have hall:=c9.all (k:=(0,0)) (n:=7) (l:=l9) (B:=R) (e:=T.aS) Ri
      simp at hall
      simp[hall]
      exact none_ _ _ _ c9 (hl9▸eY) rfl
    | true=>
      obtain⟨m1,m2,-⟩:=hfm rfl
      have hma:=(hok.all _ m1).two P2
      obtain⟨vb,j3,hvb⟩:=(hat.part InsD.dI).sl
      have j3:ak W ⟨B2,3,Pz⟩=Py vb:=by simpa using j3
      have b0:=hvb.rng (i:=0) P2
      have b1:=hvb.rng (i:=1) P2
      have q2:=hvb.idx1 (k:=.i64) (i:=0) rfl P4 P2
      have q3:=hvb.idx1 (k:=.i64) (i:=1) rfl P4 P2
      have d2:=hvb.int (View.le_refl W) (i:=0) P2
      have d3:=hvb.int (View.le_refl W) (i:=1) P2
      simp at q2 q3
      have i4:=ae hVW i4
      have i3:=ae hVW i3
      have d0:=ae hVW d0
      have hus:=dy (ρ:=λ_=>Pz) (e:=.un (.bU 13) (.con (PB (Py ⟨S,0,Pz⟩)))) hVW (v:=us) (by simpa using hus)
      have hus:Un.ev W (.bU 13) (PB (Py ⟨S,0,Pz⟩))=Py us:=by simpa using hus
      have rus:=rus.mono hVW
      have eL:=ae hVW mx.laid
      have eT:=ae hVW mx.with_
      have eP:=ae hVW mx.plain
      have mx:=mx.mono hVW
      simp[g0,g1,g2,g3,g4,g5,g7,ag,ah,g8]
      rw[hx'];clear hx' x
      refine ab λx hx'=>?_
      refine aT W c.wle ?_
      simp[g0,g1,g2,g3,g4,g5,g7,ag,ah,hus,j3,q3,d3]
      refine af P1 (tA c.wle rus hok.sm b1) ?_
      rintro _ hc ⟨hle,rfl⟩
      have rk:-2147483648<=(ed s.f (nth m.args 1) (-2147483648) 2147483647).1/\(ed s.f (nth m.args 1) (-2147483648) 2147483647).1<=2147483647:=uV hok.rng
      generalize (ed s.f (nth m.args 1) (-2147483648) 2147483647).1=k at *
      generalize (ed s.f (nth m.args 1) (-2147483648) 2147483647).2=ok at *
      have cc:Cx V h W hc _:=⟨c.own.ext' hle,c.old,Pt c.le0 hle,c.new⟩
      simp[g0,g1,g2,g3,g4,g5,g7,ag,ah]
      rw[hx'];clear hx' x
      have ei:IntKind.i32.wrap k=k:=wrap32_in rk.1 rk.2
      have e2:IntKind.i64.wrap s.i.imm.v=s.i.imm.v:=bH P2 P2
      have e3:IntKind.i64.wrap (k+s.i.imm.v)=k+s.i.imm.v:=bH P2 P2
      have hm : ∀X,Rd X (.agg #[Pv Pw plain,Pv Pw 0,Pv Pw 0,Pv Pw (nth m.args 0),Pv Pw 0,Pv Pw 0,Pv Px (IntKind.i32.wrap (k+s.i.imm.v)),PA Pz 0 0]) (⟨plain,0,0,nth m.args 0,0,0,w32 (k+s.i.imm.v),[]⟩:bc):=λX=>gV (imm:=w32 (k+s.i.imm.v)) P9 (BR _) aN
      have fin : ∀(W:View) (hx:Heap) (o:Own) (l9:List Value),Cx V h W hx o->Rd W (.agg l9.toArray) (⟨nth m.args 0::s.i.args.drop 1,[nth s.i.args 0,nth m.args 1],[jl s.i op plain ⟨plain,0,0,nth m.args 0,0,0,w32 (k+s.i.imm.v),[]⟩],dH⟩:FitD)->K (.tuple #[.agg l9.toArray,.bool (ok&&inR (k+s.i.imm.v) 0 255)]) hx:=λW hx o l9 c hr=>
        hK _ _ (bM.of c hr (by rw[hdo];cases ok&&inR (k+s.i.imm.v) 0 255<;>rfl) λy e=>by
          rw[hdo,if_pos rfl]at e
          split at e
          · cases e;rfl
          · cases e)
      clear none_ hK hdo hF hfm hus
      refine ab λx hx'=>?_
      have tl : ∀(h2:Heap) (W2:View) (o:Own) (R2:Nat) (l9:List Value) (ρ2:Env),W.le W2->Cx V h W2 h2 o->o (0,0)=bx T.aS R (RawN.mk (n:=7) fitZ)->o (0,1)=bx T.aS R2 (RawN.mk (n:=7) l9)->Rd W2 (.agg l9.toArray) (⟨nth m.args 0::s.i.args.drop 1,[nth s.i.args 0,nth m.args 1],[jl s.i op plain ⟨plain,0,0,nth m.args 0,0,0,w32 (k+s.i.imm.v),[]⟩],dH⟩:FitD)->
          Lft.look ρ2 1=Py (ptr I)->Lft.look ρ2 5=Py (ptr R)->Lft.look ρ2 8=Py (.bool ok)->Lft.look ρ2 9=Py (Pv Pw k)->Lft.look ρ2 10=Py (ptr R2)->LC.wp PE x (dB [.un (.bU 8) (.tmp 5),.tmp 6] K) ρ2 h2:=by
        intro h2 W2 o R2 l9 ρ2 hW2 c ho1 ho2 hr f1 f5 f8 f9 f10
        rw[hx']
        refine ab λv hv=>?_
        have hall:=c.all (k:=(0,1)) (n:=7) (l:=l9) (B:=R2) (e:=T.aS) ho2
        simp at hall
        refine aT (vw h2) Ps ?_
        have last : ∀(b:Bool) (ρ3:Env),Lft.look ρ3 5=Py (ptr R)->Lft.look ρ3 6=Py (.bool (ok&&inR (k+s.i.imm.v) 0 255))->∀h3 l3,Cx V h W2 h3 (o.upd (0,0) (bx T.aS R (RawN.mk (n:=7) l3)))->Value.agg l9.toArray=Value.agg l3.toArray->LC.wp PE v (dB [.un (.bU 8) (.tmp 5),.tmp 6] K) ρ3 h3:=λb ρ3 k5 k6 h3 l3 c3 el=>by
          rw[hv]
          have hall:=c3.all (k:=(0,0)) (n:=7) (l:=l3) (B:=R) (e:=T.aS) Own.ao
          simp at hall
          simp[k5,k6,hall]
          exact fin _ _ _ _ c3 (el▸hr)
        refine bD λy hy=>?_
        cases ok with
        | false=>
          simp[f1,f5,f8,f9,f10,ag,ah,hall,ae (Pt hW2 c.wle) i4,e2,e3]
          subst hy
          refine bD λy hy=>?_
          simp[f1,f5,f8,f9,f10,ag,ah]
          refine c.bs (k:=(0,0)) (n:=7) (l:=fitZ) ho1 hr rfl rfl P1 Sa Sa λh4 l4 hl4 c4=>?_
          subst hy
          simp[f1,f5,f8,f9,f10,ag,ah]
          exact last PD _ (by simp[f1,f5,f8,f9,f10,ag,ah]) (by simp[f1,f5,f8,f9,f10,ag,ah]) _ _ c4 hl4
        | true=>
          simp[f1,f5,f8,f9,f10,ag,ah,hall,ae (Pt hW2 c.wle) i4,e2,e3]
          refine af P1 iO ?_
          rintro _ h3 ⟨rfl,rfl⟩
          refine⟨View.le_refl _,?_⟩
          subst hy
          refine bD λy hy=>?_
          simp[f1,f5,f8,f9,f10,ag,ah]
          refine c.bs (k:=(0,0)) (n:=7) (l:=fitZ) ho1 hr rfl rfl P1 Sa Sa λh4 l4 hl4 c4=>?_
          subst hy
          simp[f1,f5,f8,f9,f10,ag,ah]
          exact last PD _ (by simp[f1,f5,f8,f9,f10,ag,ah]) (by simp[f1,f5,f8,f9,f10,ag,ah]) _ _ c4 hl4
      clear fin
      have c:=cc
      refine aT W c.wle ?_
      have hWV:W.le W:=View.le_refl _
      repeat' (first
        | refine gL ?_ ?_
        | (refine bD λy hy=>?_
           simp[g0,g1,g2,g3,g4,g5,g7,ag,ah,i3,i4,j3,q0,q2,q3,d0,d2,d3,eL,eT,eP,ei]
           first
           | refine ay (t:=T.dQ) (z:=.agg tp.toArray) (places:=[(0,1),(1,1),(2,1),(3,1),(4,1),(5,1),(6,1),(7,1)]) (vs:=[(0,Pv Pw plain),(3,Pv Pw (nth m.args 0)),(6,Pv Px (IntKind.i32.wrap (k+s.i.imm.v)))]) (cs:=#[Pv Pw plain,Pv Pw 0,Pv Pw 0,Pv Pw (nth m.args 0),Pv Pw 0,Pv Pw 0,Pv Px (IntKind.i32.wrap (k+s.i.imm.v)),PA Pz 0 0]) P1 P1 Sa P1 ?_
           | (refine c.tU (k:=(0,2)) (n:=1) (l:=[nth m.args 0]) Ri El.aR ?_ ?_ rfl P4 λuA h hle c=>?_
              · simp;done
              · simp;omega)
           | (refine c.kF (α:=Int) (n:=2) (vs:=[Pv Pw (nth s.i.args 0),Pv Pw (nth m.args 1)]) (ds:=[nth s.i.args 0,nth m.args 1]) El.aR ?_ ⟨bn.2 ⟨rfl,a0⟩,bn.2 ⟨rfl,b1⟩,trivial⟩ rfl P4 P4 λuB h W hW c huB hle=>?_
              · simp;done)
           | (refine bN (ops:=[.tmp 45]) (caps:=#[ptr O,ptr I,ptr P]) rfl P1 (tX mx Pq c.wle (hm _) l2) ?_
              rintro um h ⟨hle,hum⟩
              have hW:=c.up (h':=h)
              have c:=c.ext hle)
           | (refine bN (ops:=[.tmp 52]) (caps:=#[ptr I]) rfl P1 (tM mx Pq c.wle (c.own.get (k:=(0,2)) (v:=uA) (l:=[nth m.args 0]) Ri) Sa l1 P2) ?_
              rintro uw h ⟨own2,mv⟩
              have c:=c.jf (k:=(0,2)) (v:=uA) (l:=[nth m.args 0]) Ri own2 mv
              obtain⟨W,hW,c,huA⟩:=c.freeze (k:=(0,2)) (v:=uw) (l:=[nth m.args 0]++s.i.args.drop 1) Ri)
           | refine c.cA (k:=(0,1)) (n:=7) (z:=.agg fitZ.toArray) Ri P1 rfl P4 P8 λR2 h hle c=>?_
           | (refine af P1 (jM c.wle (hum.mono Pq) (huA.mono Pq) (huB.mono Pq)) ?_
              rintro _ h ⟨hle,vf,rfl,hvf⟩
              have hW:=c.up (h':=h)
              have c:=c.ext hle)
           | refine c.bs (k:=(0,1)) (n:=7) (l:=fitZ) Ri (hvf.mono Pq) rfl rfl P1 Sa Sa λh l9 hl9 c=>?_
           try refine⟨Pt Pq c.wle,?_⟩
           subst hy))
      all_goals
        simp[g0,g1,g2,g3,g4,g5,g7,ag,ah,L.aa.q0.r0]
        exact tl _ _ _ _ _ _ Pq c Ri Ri (hl9▸hvf.mono Pq) (by simp[g0,g1,g2,g3,g4,g5,g7,ag,ah]) (by simp[g0,g1,g2,g3,g4,g5,g7,ag,ah]) (by simp[g0,g1,g2,g3,g4,g5,g7,ag,ah]) (by simp[g0,g1,g2,g3,g4,g5,g7,ag,ah]) (by simp[g0,g1,g2,g3,g4,g5,g7,ag,ah])
  refine aT V cb.wle ?_
  have c:=cb
  refine gL ?_ ?_
  · refine bD λy hy=>?_
    simp[hus,i3,q0,d0]
    refine af P1 (hF c.wle rus hok.sm a0) ?_
    rintro _ h1 ⟨hle1,vm,rfl,hvm⟩
    have hW1:=c.up (h':=h1)
    have c:=c.ext hle1
    subst hy
    refine bD λy hy=>?_
    simp
    refine c.dw (k:=(0,4)) (z:=.agg insZ.toArray) (d:=fQ) Ri P1 lG P4 λB2 h2 hle2 c=>?_
    subst hy
    refine bD λy hy=>?_
    simp
    refine c.gM Part.all (k:=(0,4)) (D:=fQ) (d:=m) Ri P1 Sa Sa hvm λh3 c=>?_
    subst hy
    simp
    obtain⟨W4,hW4,c,hat⟩:=c.tJ (k:=(0,4)) (B:=B2) (d:=m) Ri
    rw[Own.eD,Own.qN Ri]at c
    exact rest _ _ _ _ (Pt hW1 hW4) c hat rfl rfl rfl rfl rfl rfl rfl rfl
  · refine bD λy hy=>?_
    simp[hus,i3,q0,d0]
    refine c.dw (k:=(0,4)) (z:=.agg insZ.toArray) (d:=fQ) Ri P1 lG P4 λB2 h2 hle2 c=>?_
    refine⟨c.wle,?_⟩
    subst hy
    refine bD λy hy=>?_
    simp
    refine af P1 (hF c.wle rus hok.sm a0) ?_
    rintro _ h1 ⟨hle1,vm,rfl,hvm⟩
    have hW1:=c.up (h':=h1)
    have c:=c.ext hle1
    subst hy
    refine bD λy hy=>?_
    simp
    refine c.gM Part.all (k:=(0,4)) (D:=fQ) (d:=m) Ri P1 Sa Sa hvm λh3 c=>?_
    subst hy
    simp
    obtain⟨W4,hW4,c,hat⟩:=c.tJ (k:=(0,4)) (B:=B2) (d:=m) Ri
    rw[Own.eD,Own.qN Ri]at c
    exact rest _ _ _ _ (Pt hW1 hW4) c hat rfl rfl rfl rfl rfl rfl rfl rfl
end
theorem IG:kG:=λV h s S I O P Q L T op plain sum mx hV hok hop ho hne hp hs ht=>⟨G4 mx hV hok hop ho hp,Gi mx hV hok hop ho hp,GQ mx hV hok hop ho hs,Hd mx hV hok hop ho hs ht⟩
abbrev Wh:=Int->Option (Int × Int)
def Cl (can:Int->Int->Bool):Option (Int × Int)->Bool
 | none=>PC
 | some w=>can w.1 w.2
def tO (can:Int->Int->Bool) (wh:Wh) (l:List Int):Bool:=l.all λv=>Cl can (wh v)
def Ec (can:Int->Int->Bool) (wh:Wh):Option FitD->Bool
 | none=>PD
 | some x=>tO can wh x.takes
def canP (f:aj) (has:Int->Bool) (wh:Wh) (can:Int->Int->Bool) (b i pat:Int):Bool:=has pat&&Ec can wh (tryS (dL f b i 0) pat)
def canS (f:aj) (has:Int->Bool) (wh:Wh):Nat->Int->Int->Bool
 | 0,_,_=>PD
 | n+1,b,i=>(List.range 38).any λk=>canP f has wh (canS f has wh n) b i (k:Int)
theorem AV{f:aj}{t:cM}{pat:Int}(h:¬(0<=pat/\pat<38)):gI f t pat=none:=by unfold gI;rw[if_neg P2,if_neg P2,if_neg P2,if_neg P2,if_neg P2,if_neg P2]
theorem CQ{s:bR}{pat:Int}(h:¬(0<=pat/\pat<38)):tryS s pat=none:=by
 unfold tryS;split
 ·exact AV h
 unfold patS;rw[if_neg P2]
theorem zX{f:aj}{has:Int->Bool}{wh:Wh}{n:Nat}{b i:Int}:canS f has wh (n+1) b i=PC↔∃pat,canP f has wh (canS f has wh n) b i pat=true:=by
 unfold canS;rw[Ow];constructor
 ·rintro⟨k,_,hk⟩;exact⟨_,hk⟩
 rintro⟨pat,hp⟩;by_cases h:0<=pat/\pat<38
 ·refine⟨pat.toNat,M0.2 P2,?_⟩;rw[LK h.1];exact hp
 unfold canP at hp;rw[CQ h]at hp;simp[Ec]at hp
def twoV (w:Int × Int):Value:=.agg #[Pv Pw w.1,Pv Pw w.2]
structure Cv (W:View) (F H Q C r1 r2:Nat) (f:aj) (has:Int->Bool) (wh:Wh):Prop where
 fc:At W ⟨F,0,Pz⟩ f
 hasR : ∀p,has p=PC->I64 p
 hasC:ak W ⟨H,0,Pz⟩=Py (.map (Py r1))
 hasM : ∀h,W.le (vw h)->dp (.int .i64) h r1 (mapB has)
 whC:ak W ⟨Q,0,Pz⟩=Py (.map (Py r2))
 whR : ∀v w,wh v=Py w->I64 w.1/\I64 w.2
 whM : ∀h,W.le (vw h)->dp (.int .i64) h r2 (mapE twoV wh)
 can:ak W ⟨C,0,Pz⟩=Py (.func (.func 43) #[] #[ptr F,ptr H,ptr Q,ptr C])
theorem Cv.mono {W W':View} {F H Q C r1 r2:Nat} {f:aj} {has:Int->Bool} {wh:Wh} (c:Cv W F H Q C r1 r2 f has wh) (h:W.le W'):Cv W' F H Q C r1 r2 f has wh:=
 ⟨c.fc.mono h,c.hasR,ae h c.hasC,λg hg=>c.hasM g (Pt h hg),ae h c.whC,c.whR,λg hg=>c.whM g (Pt h hg),ae h c.can⟩
def Down (f:aj) (wh:Wh):Prop:=∀b i pat x v w,de f b i=PC->tryS (dL f b i 0) pat=Py x->v∈x.takes->wh v=Py w->de f w.1 w.2=PC/\w.2<i
theorem CP{s:Int->Bool}{u v:Value}(hk:MapKept.IsKey (.int .i64) u)(h:mapB s u=Py v): ∃p:Int,u = Pv Pw p/\s p=PC/\v = .bool true:=by
 cases u<;>simp[MapKept.IsKey]at hk;rename_i k p;subst hk;rw[zW]at h;split at h
 ·rename_i hs;cases h;exact⟨p,rfl,hs,rfl⟩
 cases h
theorem vU{h h':Heap}{b r:Nat}{left:List (Value × Value)}(m:It h b r left)(hle:(vw h).le (vw h')):It h' b r left:=by
 have l:=m.lt;have e : ∀k,k<h.size->h'[k]? = h[k]?:=λk hk=>by have:=hle k h[k] (LI hk);rw[LI hk];exact this
 exact m.same (e _ l.1) (e _ l.2.1)
theorem EP {f:aj} {has:Int->Bool} {wh:Wh} (m:ml f) (hsm:SmF f) (hM : ∀i∈dG f,i.op=15\/i.op=16->kG) (hd:Down f wh) : ∀(n:Nat) {b i:Int} {Fb H Q C r1 r2:Nat} {W:View} {h:Heap},Cv W Fb H Q C r1 r2 f has wh->W.le (vw h)->de f b i=PC->i<n->
  az PE 43 #[Pv Pw b,Pv Pw i,ptr Fb,ptr H,ptr Q,ptr C] h (λu h'=>(vw h).le (vw h')/\u = .bool (canS f has wh n b i))
 | 0,b,i,Fb,H,Q,C,r1,r2,W,h,cv,hW,hpl,hi=>by simp[de]at hpl;omega
 | n+1,b,i,Fb,H,Q,C,r1,r2,W,h,cv,hW,hpl,hi=>by
  have ih:=@EP f has wh m hsm hM hd n;refine au (args:=[Pv Pw b,Pv Pw i,ptr Fb,ptr H,ptr Q,ptr C]) follows Tryz.func43 E.cf Pp λK hK=>?_;dsimp only[L.cf,lkF,lkG];have c0:=Cx.start hW;refine ab λz hz=>?_;simp;subst hz;refine ab λz hz=>?_;obtain⟨uf,huf,ruf⟩:=cv.fc.ldN rfl (N:=2) rfl;have hr:=tV ruf;simp[huf _ hW];refine af P1 (Fk (b:=b) (p:=i) hW ruf (by constructor<;>decide)) ?_;rintro _ h1 ⟨hle1,vs,rfl,hvs⟩;have c1:=c0.ext hle1;have hW1:=c0.up (h':=h1);have hpS:mG f b i 0=dL f b i 0:=by unfold mG;rw[hpl,if_pos rfl]
  rw[hpS]at hvs;simp;refine c1.dA (α:=bR) hvs (n:=13) (z:=.agg nP.toArray) P1 rfl rfl P1 P5 P5 λB h2 W2 hW2 c2 at2 hle2=>?_;have cv2:=cv.mono (Pt hW1 hW2);subst hz;refine ab λz hz=>?_;refine ab λy hy=>?_;simp[ae c2.wle cv2.hasC];refine Al U.iT rfl (cv2.hasM h2 c2.wle) λh3 left hle3 hs3 it3 nd3 key3 mem3=>?_;have hall : ∀u v,(u,v)∈left->∃p:Int,u = Pv Pw p/\has p=true:=λu v hu=>by obtain⟨p,e1,e2,-⟩:=CP (key3 u v hu) ((mem3 u v (key3 u v hu)).1 hu);exact⟨p,e1,e2⟩
  have hrest : ∀p:Int,has p=PC->(∃v,(Pv Pw p,v)∈left):=λp hp=>⟨.bool PC,(mem3 _ _ eC).2 (by rw[zW,hp,if_pos rfl])⟩;have hr3:W2 h2.size=none:=View.cz c2.wle (Lp _);have hs0:h.size<=h2.size:=bY c2.le0;have c3:Cx W h W2 h3 λ_=>none:=⟨Owns.start (Pt c2.wle hle3),c2.old,Pt c2.le0 hle3,λ_ _ _ e=>by cases e⟩;obtain⟨r,hr0⟩ : ∃r,r=h2.size:=⟨_,rfl⟩;rw[<-hr0]at it3 hr3 hs0 ⊢;subst hy;simp only[aL];refine iD [0,1,2,3,4,5,9,26] (λmm ρ hx=>∃(left:List (Value × Value)) (Wx:View),mm=left.length/\ρ=[(0,Pv Pw b),(1,Pv Pw i),(2,ptr Fb),(3,ptr H),(4,ptr Q),(5,ptr C),(9,ptr B),(26,ptr r)]/\W2.le Wx/\Cx W h Wx hx (λ_=>Pz)/\Wx r=Pz/\It hx r1 r left/\
   (∀u v,(u,v)∈left->∃p:Int,u = Pv Pw p/\has p=PC)/\(∀p:Int,has p=PC->(∃v,(Pv Pw p,v)∈left)\/canP f has wh (canS f has wh n) b i p=PD)) left.length
   ⟨left,W2,rfl,rfl,View.le_refl _,c3,hr3,it3,hall,λp hp=>.inl (hrest p hp)⟩ ?_;clear hall hrest it3 nd3 key3 mem3 c3;rintro mm ρ hx ⟨left,Wx,rfl,rfl,lx,cx,hrx,itx,hall,hrest⟩ K2 hK2;refine ab λy hy=>?_;simp;refine A7 rfl itx ?_ ?_
  ·rintro rfl;have hno:canS f has wh (n+1) b i=false:=by
    cases e:canS f has wh (n+1) b i with
    | false=>rfl
    | true=>
     obtain⟨p,hp⟩:=zX.1 e;have hh:has p=true:=by unfold canP at hp;simp at hp;exact hp.1
     rcases hrest p hh with⟨v,hv⟩ | hv
     ·cases hv
     rw[hp]at hv;cases hv
   simp;subst hy;simp;subst hz;simp;exact hK _ _ ⟨cx.le0,by rw[hno]⟩
  intro a p q h4 el hs4 ho4 it4;obtain⟨pat,e1,e2⟩:=hall p.1 p.2 (by rw[el];simp);have hpe:p=(Pv Pw pat,p.2):=by rw[<-e1]
  have le4 : ∀X:View,X.le (vw hx)->X r=Pz->X.le (vw h4):=λX hX hn b o hb=>by show h4[b]? = Py o;rw[ho4 b (by rintro rfl;rw[hn]at hb;cases hb)];exact hX b o hb
  have le04:(vw h).le (vw h4):=λb o hb=>by have hlt:=View.lt (View.le_refl (vw h)) hb;show h4[b]? = Py o;rw[ho4 b P2];exact cx.le0 b o hb
  have hW4:=le4 Wx cx.wle hrx;have c4:Cx W h Wx h4 λ_=>none:=⟨Owns.start hW4,cx.old,le04,λ_ _ _ e=>by cases e⟩;have hrest4 : ∀p:Int,p≠pat->has p=PC->(∃v,(Pv Pw p,v)∈a++q)\/canP f has wh (canS f has wh n) b i p=false:=λp' hne hp'=>by
   rcases hrest p' hp' with⟨v,hv⟩ | hv
   ·rw[el,Lv,LF]at hv;rcases hv with hv | hv | hv
    ·exact .inl ⟨v,Lv.2 (.inl hv)⟩
    ·rw[hpe]at hv;simp at hv;exact absurd hv.1 hne
    exact .inl ⟨v,Lv.2 (.inr hv)⟩
   exact .inr hv
  have hall4 : ∀u v,(u,v)∈a++q->∃p:Int,u = Pv Pw p/\has p=true:=λu v hu=>hall u v (by rw[el,Lv,LF];rcases Lv.1 hu with hu | hu<;>simp[hu]);have hlen:(a++q).length<left.length:=by rw[el];simp
  have at4:=at2.mono lx;have cv4:=cv2.mono lx;clear hrest hall itx cx;simp;subst hy;refine ab λy hy=>?_;refine aW Sa ?_;simp;subst hy;simp only[aL];refine ab λy hy=>?_;simp;refine EG rfl it4 ?_;simp[e1];subst hy;refine ab λy hy=>?_;obtain⟨us,hus,rus⟩:=at4.ldN rfl (N:=13) rfl;simp[hus _ c4.wle];refine af P1 (yx c4.wle rus m hsm hr hM hpl (cv.hasR _ e2)) ?_;rintro _ h5 ⟨hle5,vf,x,rfl,hvf,hxx⟩;have c5:=c4.ext hle5;have hW5:=c4.up (h':=h5);have it5:=vU it4.it hle5;simp;refine dz (X:=grow Wx h4 h5) (α:=FitD) (z:=.agg fitZ.toArray) P1 rfl P1 hvf P5 P5 λh6 hle6 hs6 hat6=>?_;have c6:=c5.ext hle6;have hW6:=c5.up (h':=h6);have at6:=hat6 _ hW6 (cU (Lp _));have hr6:grow (grow Wx h4 h5) h5 h6 r=none:=by rw[gQ (vU it4.it hle5).lt.2.1,gQ it4.it.lt.2.1];exact hrx
  generalize grow (grow Wx h4 h5) h5 h6=W6 at *;generalize h5.size=B3 at *;have it6:=vU it5 hle6;subst hy;refine ab λy hy=>?_;have pt:=(at6.part FitD.BW).sl;obtain⟨vt,k1,s1⟩:=pt;have k1:ak W6 ⟨B3,0,Pz⟩=Py vt:=by simpa using k1
  refine ab λw hw=>?_;simp[ae c6.wle k1,s1.len];subst hw;simp only[aL];have bt:=s1.bound;obtain⟨okS,hok⟩ : ∃okS:Nat->Bool,okS=λj=>(tryS (dL f b i 0) pat).isSome&&tO (canS f has wh n) wh (x.takes.take j):=⟨_,rfl⟩;have ok0:(tryS (dL f b i 0) pat).isSome=okS 0:=by rw[hok];simp[tO]
  have okJ : ∀j,j<x.takes.length->okS (j+1)=(okS j&&Cl (canS f has wh n) (wh (nth x.takes j))):=λj hj=>by rw[hok];simp only[tO];rw[LD hj,List.all_append,aA hj];simp[Pk]
  have okE:okS x.takes.length=canP f has wh (canS f has wh n) b i pat:=by
   rw[hok];simp only[MK];unfold canP;rw[e2];cases hq:tryS (dL f b i 0) pat with
   | none=>rfl
   | some y=>rw[hxx y hq];rfl
  have okV : ∀j,j<x.takes.length->okS j=PC->∀w,wh (nth x.takes j)=Py w->de f w.1 w.2=PC/\w.2<i:=λj hj ho w hw=>by rw[hok]at ho;simp only[Lt]at ho;obtain⟨y,hy⟩:=O3.1 ho.1;have:=hxx y hy;subst this;exact hd b i pat x _ w hpl hy (bC hj) hw
  rw[ok0];clear hok ok0;refine aO [0,1,2,3,4,5,9,11,12,13,26,38,39,40] (fun(_:Unit) j=>[Pv Pw b,Pv Pw i,ptr Fb,ptr H,ptr Q,ptr C,ptr B,Pv Pw pat,ptr B3,.bool (okS j),ptr r,vt,Pv Pw x.takes.length,Pv Pw j])
   (λ_ j h7=>∃W7,W6.le W7/\Cx W h W7 h7 (λ_=>Pz)/\W7 r=Pz/\It h7 r1 r (a++q)) x.takes.length ()
   rfl P2 rfl ⟨W6,View.le_refl _,c6,hr6,it6⟩ (λ_ _=>rfl) (λv i h1 hk m=>by simp) ?_ ?_
  ·rintro _ j h7 hj ⟨W7,lW7,c7,hr7,it7⟩ K3 hK3;have s7:=s1.mono (Pt lW7 c7.wle);have cv7:=(cv4.mono hW5).mono (Pt hW6 lW7);have okj:=okJ j hj;have okv:=okV j hj;refine ab λw hw=>?_;simp(disch:=omega)[s7.idx1 rfl,s7.int Ps];subst hw;generalize nth x.takes j=vv at *;refine ab λw hw=>?_;simp[ae c7.wle cv7.whC];refine lR (f:=mapE twoV wh) (z:=.agg #[Pv Pw 0,Pv Pw 0]) (k:=T.int) (e:=T.lI) (d:=.int .i64) (r:=r2) (u:=Pv Pw vv) U.fJ U.int P1 rfl rfl eC (cv7.whM h7 c7.wle) ?_;have wr:Rd W7 (((wh vv).map twoV).getD (.agg #[Pv Pw 0,Pv Pw 0])) ((wh vv).getD (0,0)):=by
    cases hv:wh vv with
    | none=>exact pE.2 ⟨rfl,by decide,by decide⟩
    | some w=>exact pE.2 ⟨rfl,(cv7.whR vv w hv).1,(cv7.whR vv w hv).2⟩
   simp;refine dz (X:=W7) (α:=Int × Int) (z:=.agg #[Pv Pw 0,Pv Pw 0]) P1 rfl P1 wr P5 P5 λh8 hle8 hs8 hat8=>?_;have c8:=c7.ext hle8;have hW8:=c7.up (h':=h8);have at8:=hat8 _ hW8 (cU (Lp _));have it8:=vU it7 hle8;have hr8:grow W7 h7 h8 r=none:=by rw[gQ it7.lt.2.1];exact hr7
   generalize grow W7 h7 h8=W8 at *;generalize h7.size=B4 at *;subst hw;refine ab λw hw=>?_;cases ho:okS j with
   | false=>rw[ho]at okj;simp;subst hw;simp;exact hK3 () _ _ rfl (by simp[bK,okj]) ⟨W8,Pt lW7 hW8,c8,hr8,it8⟩
   | true=>
    rw[ho]at okj;cases hv:wh vv with
    | none=>rw[hv]at okj;simp;subst hw;simp;exact hK3 () _ _ rfl (by simp[bK,okj,Cl]) ⟨W8,Pt lW7 hW8,c8,hr8,it8⟩
    | some ww=>
     rw[hv]at okj at8;obtain⟨g1,g2⟩:=okv ho ww hv;have at8:At W8 ⟨B4,0,Pz⟩ ww:=at8;obtain⟨cs,q1,q2,-⟩:=at8;have x0:ak W8 ⟨B4,0,Pz⟩=Py (Pv Pw ww.1):=by have:=je q1 (i:=0) (v:=Pv Pw ww.1) (by rw[q2];rfl);simpa using this
     have x1:ak W8 ⟨B4,1,Pz⟩=Py (Pv Pw ww.2):=by have:=je q1 (i:=1) (v:=Pv Pw ww.2) (by rw[q2];rfl);simpa using this
     have cv8:=cv7.mono hW8;simp;subst hw;have y0:Bn.ev (.aidx 2 1) (PB (Py ⟨B4,0,Pz⟩)) (Pv Pw 0)=Py (PB (Py ⟨B4,0,Pz⟩)):=rfl;have y1:Bn.ev (.aidx 2 1) (PB (Py ⟨B4,0,Pz⟩)) (Pv Pw 1)=Py (PB (Py ⟨B4,1,Pz⟩)):=rfl;simp[ae c8.wle cv8.can,ae c8.wle x0,ae c8.wle x1,y0,y1];refine bN (ops:=[.tmp 56,.tmp 58]) (caps:=#[ptr Fb,ptr H,ptr Q,ptr C]) rfl P1 (ih (b:=ww.1) (i:=ww.2) cv8 c8.wle g1 P2) ?_;rintro _ h9 ⟨hle9,rfl⟩;have c9:=c8.ext hle9;have hW9:=c8.up (h':=h9);refine hK3 () _ _ rfl (by simp[bK,okj,Cl]) ⟨_,Pt lW7 (Pt hW8 hW9),c9,?_,vU it8 hle9⟩;rw[gQ it8.lt.2.1];exact hr8
  rintro _ h7 ⟨W7,lW7,c7,hr7,it7⟩;rw[okE];simp;subst hy;cases hcp:canP f has wh (canS f has wh n) b i pat with
  | true=>have hyes:canS f has wh (n+1) b i=true:=zX.2 ⟨pat,hcp⟩;simp;exact hK _ _ ⟨c7.le0,by rw[hyes]⟩
  | false=>
   simp;refine hK2 (a++q).length _ _ hlen ⟨a++q,W7,rfl,rfl,Pt lx (Pt hW5 (Pt hW6 lW7)),c7,hr7,it7,hall4,λp' hp'=>?_⟩;by_cases hne:p'=pat
   ·exact .inr (hne▸hcp)
   exact hrest4 p' hne hp'
end Go.Proofs.YtnfiilgdjpdlkaaGreatDoor
namespace Go.Lft
open Go
theorem AY {po:OP} {P:Program} {ty t e rt:TypeId} {us:List (Nat × Value)} {h:Heap} {K:Value->Heap->Prop} {a b c d:Int} {ki:IntKind} {x y:Operand} (hu:P.underlying t=Py (.array 2 e)) (he:P.underlying e=Py (.int ki)) (hs:cQ P e=Py 1) (ha:my P e=Py PD) (hgd:P.eqGuardType P.depth t=PD)
  (hx:asg us x = .agg #[.int ki a,.int ki b]) (hy:asg us y = .agg #[.int ki c,.int ki d]) (hk:K (.bool (a == c&&b == d)) h):@step po P (.binOp .eql t x y rt) ty us h K:=by refine cR (cm λw hw=>⟨_,w,?_,Same.refl _,by rw[hw];exact hk⟩);simp only[bJ,execOp,hx,hy];simp[eqGuard,binOp,zj hu he hs ha,program,Sem.run,hgd]
end Go.Lft
namespace Go.Proofs.YtnfiilgdjpdlkaaGreatDoor
open Go Go.Lft
structure Mq (V:View) (h0:Heap) (W:View) (h:Heap) (r:Nat) (g:Value->Option Value):Prop where
 c:Cx V h0 W h λ_=>Pz
 av:W r=Pz
 lo:h0.size<=r
 m:dp (.int .i64) h r g
section
variable {po po2:OP} {V W:View} {h0 h h':Heap} {r:Nat} {g g':Value->Option Value}
theorem Mq.ext (k:Mq V h0 W h r g) (hle:(vw h).le (vw h')):Mq V h0 (grow W h h') h' r g:=⟨k.c.ext hle,by rw[gQ k.m.lt];exact k.av,k.lo,k.m.ext hle⟩
theorem Mq.up (k:Mq V h0 W h r g):W.le (grow W h h'):=k.c.up
theorem Mq.wle (k:Mq V h0 W h r g):W.le (vw h):=k.c.wle
theorem Mq.upd (k:Mq V h0 W h r g) (ho : ∀b,b≠r->h'[b]? = h[b]?) (hm:dp (.int .i64) h' r g'):Mq V h0 W h' r g':=
 ⟨⟨Owns.start λb o hb=>by
   show h'[b]? = Py o;rw[ho b (by rintro rfl;rw[k.av]at hb;cases hb)];exact k.wle b o hb,k.c.old,λb o hb=>by
   have hlt:=View.lt (View.le_refl (vw h0)) hb;have:=k.lo;show h'[b]? = Py o;rw[ho b P2];exact k.c.le0 b o hb,λ_ _ _ e=>by cases e⟩,k.av,k.lo,hm⟩
theorem Mq.dA {α:Type} [Rep α] {P:Program} {ty:TypeId} {us:List (Nat × Value)} {t ty2:TypeId} {n:Nat} {z:Value} {x y:Operand} {us2:Value->List (Nat × Value)} {v:Value} {d:α} {K:Value->Heap->Prop} (k:Mq V h0 W h r g) (hv:Rd W v d) (hz:(P.info? t).map (·.zero)=Py (Py z)) (hN:Rep.n α=n) (hzc:z.cells.size=n) (hsz:cQ P t=Py n)
  (hx : ∀p,asg (us2 p) x=p) (hy : ∀p,asg (us2 p) y=v) (hk : ∀B h' W',W.le W'->Mq V h0 W' h' r g->At W' ⟨B,0,Pz⟩ d->(vw h).le (vw h')->K (PB (Py ⟨B,0,Pz⟩)) h') :
  @Lft.step po P (.alloc t) ty us h λp h2=>@Lft.step po2 P (.store t x y) ty2 (us2 p) h2 λ_ h3=>K p h3:=by subst hN;refine dz (X:=W) hz hzc hsz hv hx hy λh1 hle hs hat=>?_;exact hk _ _ _ k.up (k.ext hle) (hat _ k.up (cU (Lp _))) hle
theorem Mq.freeze (k:Mq V h0 W h r g) : ∃W',W.le W'/\Cx V h0 W' h (λ_=>Pz)/\(∀g2:Heap,W'.le (vw g2)->dp (.int .i64) g2 r g):=by
 obtain⟨es,cl,e1,e2⟩:=k.m.ex;have hle:W.le (W.set r (.map es cl)):=λb o hb=>by unfold View.set;rw[if_neg (by rintro rfl;rw[k.av]at hb;cases hb)];exact hb
 have hw:(W.set r (.map es cl)).le (vw h):=λb o hb=>by
  unfold View.set at hb;split at hb
  ·rename_i e;subst e;cases hb;exact e1
  exact k.wle b o hb
 refine⟨_,hle,⟨Owns.start hw,λb o hb hx=>?_,k.c.le0,λ_ _ _ e=>by cases e⟩,λg2 hg2=>⟨es,cl,hg2 r _ (by unfold View.set;rw[if_pos rfl]),e2⟩⟩;unfold View.set at hx;have:=k.lo;rw[if_neg P2]at hx;exact k.c.old b o hb hx
end
def hasS (l:List dS):Int->Bool:=λp=>decide (p=0)||l.any λt=>decide (t.pat=p)
def kz (f:aj) (b k:Nat) (wh:Wh):Wh:=
 if(!decide ((nth (nth f.blocks b).ins k).op=16)&&!decide ((nth (nth f.blocks b).ins k).op=18))&&dk f (nth (nth f.blocks b).ins k).dst then putM wh (nth (nth f.blocks b).ins k).dst ((b:Int),(k:Int)) else wh
def whTo (f:aj) (n:Nat):Wh:=Lft.up (λb wh=>Lft.up (kz f b) (nth f.blocks b).ins.length wh) n (λ_=>Pz)
def whS (f:aj):Wh:=whTo f f.blocks.length
theorem xh {f:aj} {n:Nat}:whTo f (n+1)=Lft.up (kz f n) (nth f.blocks n).ins.length (whTo f n):=rfl
theorem qM : ∀{l:List dS} {n:Nat},(kL n l).1=0->∀t∈l,dM t=0
 | [],_,_,t,ht=>by cases ht
 | a::l,n,h,t,ht=>by
  unfold kL at h;split at h
  ·rename_i e;rcases LF.1 ht with rfl | ht
   ·exact e
   exact qM h t ht
  rename_i e;exact absurd h e
theorem DP {l:List dS} (h:(js l).1=0) {t:dS} (ht:t∈l):inR t.pat 1 37=true:=by
 unfold js at h;split at h
 ·cases h
 have:=qM h t ht;unfold dM at this;cases e:inR t.pat 1 37 with
 | true=>rfl
 | false=>rw[if_pos e]at this;cases this
theorem Gq {l:List dS} (h:(js l).1=0) {p:Int} (hp:hasS l p=PC):I64 p:=by
 unfold hasS at hp;simp at hp;rcases hp with rfl | ⟨t,ht,rfl⟩
 ·constructor<;>decide
 have:=DP h ht;simp[inR]at this;constructor<;>omega
def WhAt (f:aj) (v:Int) (w:Int × Int):Prop:=∃b k:Nat,b<f.blocks.length/\k<(nth f.blocks b).ins.length/\w=((b:Int),(k:Int))/\(nth (nth f.blocks b).ins k).dst=v/\(nth (nth f.blocks b).ins k).op≠16/\(nth (nth f.blocks b).ins k).op≠18/\dk f v=PC
theorem C2 {f:aj} {b k:Nat} {g:Wh} (hb:b<f.blocks.length) (hk:k<(nth f.blocks b).ins.length) (hg : ∀v w,g v=Py w->WhAt f v w) : ∀v w,kz f b k g v=Py w->WhAt f v w:=by
 intro v w h;unfold kz at h;split at h
 ·rename_i c;simp at c;unfold putM at h;split at h
  ·rename_i e;cases h;exact⟨b,k,hb,hk,rfl,e.symm,c.1.1,c.1.2,e▸c.2⟩
  exact hg v w h
 exact hg v w h
theorem BN {f:aj} : ∀{n:Nat},n<=f.blocks.length->∀v w,whTo f n v=Py w->WhAt f v w
 | 0,_,v,w,h=>by cases h
 | n+1,hn,v,w,h=>by
  rw[xh]at h;have key : ∀k,k<=(nth f.blocks n).ins.length->∀v w,Lft.up (kz f n) k (whTo f n) v=Py w->WhAt f v w:=by
   intro k;induction k with
   | zero=>exact λ_ v w h=>BN P2 v w h
   | succ k ih=>exact λhk=>C2 P2 P2 (ih P2)
  exact key _ (Lp _) v w h
theorem EU {f:aj} {v:Int} {w:Int × Int} (h:whS f v=Py w):WhAt f v w:=BN (Lp _) v w h
theorem Iz {f:aj} (hsm:SmF f) {v:Int} {w:Int × Int} (h:whS f v=Py w):I64 w.1/\I64 w.2:=by obtain⟨b,k,hb,hk,rfl,-⟩:=EU h;have h1:=hsm.len;have h2:=(hsm.blk b hb).ins;refine⟨⟨?_,?_⟩,?_,?_⟩<;>simp only<;>omega
def nM (f:aj) (wh:Wh) (b i:Nat):Bool:=!(decide (i<(nth f.blocks b).ins.length)&&(!decide ((nth (nth f.blocks b).ins i).op=16)&&decide (wh (nth (nth f.blocks b).ins i).dst=Py ((b:Int),(i:Int)))))
def tc (f:aj) (has:Int->Bool) (b i:Nat):Bool:=nM f (whS f) b i&&!canS f has (whS f) (i+1) b i
def wy (f:aj) (has:Int->Bool) (b:Nat):Option Nat:=(List.range ((nth f.blocks b).ins.length+1)).find? (tc f has b)
def oO (f:aj) (has:Int->Bool):Option (Nat × Nat):=(List.range f.blocks.length).findSome? λb=>(wy f has b).map λi=>(b,i)
def HL:Option (Nat × Nat)->Int × Int × Int
 | none=>(0,0,0)
 | some w=>(21,w.1,w.2)
def iK (l:List dS) (f:aj):Int × Int × Int:=if(js l).1≠0 then((js l).1,0,0) else if nI f=PD then(1,0,0) else HL (oO f (hasS l))
theorem find_range {p:Nat->Bool} {n i:Nat} (hi:i<n) (h1:(List.range i).find? p=Pz) (h2:p i=PC):(List.range n).find? p=Py i:=by obtain⟨d,rfl⟩ : ∃d,n=i+(d+1):=⟨n-i-1,by omega⟩;rw[List.range_add,N3,h1,Nt,O7];simp[h2]
theorem v7 {α:Type} {p:Nat->Option α} {n i:Nat} {a:α} (hi:i<n) (h1:(List.range i).findSome? p=Pz) (h2:p i=Py a):(List.range n).findSome? p=Py a:=by obtain⟨d,rfl⟩ : ∃d,n=i+(d+1):=⟨n-i-1,by omega⟩;rw[List.range_add,ND,h1,Nt,O7];simp[h2]
def Looks (ρ:Env) (l:List (Nat × Value)):Prop:=∀p∈l,Lft.look ρ p.1=Py p.2
set_option maxHeartbeats 4000000 in
theorem DE {l:List dS} {f:aj} {vl vf:Value} {h:Heap} {W:View} (hW:W.le (vw h)) (hl:SlRd W vl l) (hf:Rd W vf f) (hsm:SmF f) (ht:Tab h) (hM : ∀i∈dG f,i.op=15\/i.op=16->kG) (hd:nI f=PC->Down f (whS f)) :
  az PE 26 #[vl,vf] h (λu h'=>(vw h).le (vw h')/\u = .tuple #[Pv Pw (iK l f).1,Pv Pw (iK l f).2.1,Pv Pw (iK l f).2.2]):=by
 refine au (args:=[vl,vf]) follows Tryz.func26 E.aZ Pp λK hK=>?_;dsimp only[L.aZ,lkF,lkG];have c0:=Cx.start hW;refine ab λz hz=>?_;simp;refine c0.dm rfl hf λF1 h1 W1 hW1 c1 at1 hle1=>?_;subst hz;refine ab λz hz=>?_;refine ab λy hy=>?_;simp;refine af P1 (xu c1.wle (hl.mono hW1) (ht.mono c1.le0)) ?_;rintro _ h2 ⟨hle2,rfl⟩;have c2:=c1.ext hle2;have hW2:=c1.up (h':=h2);simp;subst hy;refine ab λy hy=>?_;simp;subst hy;by_cases e1:(js l).1=0
 ·simp[e1];subst hz;refine ab λz hz=>?_;refine ab λy hy=>?_;obtain⟨uf,huf,ruf⟩:=at1.ldN rfl (N:=2) rfl;simp[huf _ (Pt hW2 c2.wle)];refine af P1 (vG (ruf.mono (Pt hW2 c2.wle)) hsm) ?_;rintro _ h3 ⟨rfl,hle3⟩;have c3:=c2.ext hle3;have hW3:=c2.up (h':=h3);subst hy;cases hrt:nI f with
  | false=>
   have hrt2:decide ((ku f).1=0)=false:=hrt;have e:iK l f=(1,0,0):=by unfold iK;rw[if_neg (by rw[e1];simp),if_pos hrt]
   simp[hrt2];exact hK _ _ ⟨c3.le0,by rw[e]⟩
  | true=>
   have hrt2:decide ((ku f).1=0)=true:=hrt;have hcov:iK l f=HL (oO f (hasS l)):=by unfold iK;rw[if_neg (by rw[e1];simp),if_neg (by simp[hrt])]
   rw[hcov]at hK;have m:=mR hrt;have hd:=hd hrt;simp[hrt2];subst hz;refine ab λz hz=>?_;simp;refine lz ?_;have m3:dp (.int .i64) (h3.push (.map #[] 0)) h3.size λ_=>none:=dp.none Sa;have q3:=bQ h3 (.map #[] 0);have av3:grow (grow W1 h1 h2) h2 h3 h3.size=none:=View.cz c3.wle (Lp _);have hs3:h.size<=h3.size:=bY c3.le0;have hW13:W1.le (grow (grow W1 h1 h2) h2 h3):=Pt hW2 hW3;generalize grow (grow W1 h1 h2) h2 h3=W3 at *;generalize h3.push (.map #[] 0)=h4 at *;obtain⟨r1,hr1⟩ : ∃r,r=h3.size:=⟨_,rfl⟩;rw[<-hr1]at m3 av3 hs3 ⊢;have k4:Mq W h W3 h4 r1 λ_=>none:=⟨⟨Owns.start (Pt c3.wle q3),c3.old,Pt c3.le0 q3,λ_ _ _ e=>by cases e⟩,av3,hs3,m3⟩;refine jQ (.inr rfl) (t:=T.iT) (k:=T.int) (e:=T.bool) (u:=Pv Pw 0) U.iT U.int rfl rfl rfl eC k4.m (mapB (hasS [])) (by simp[hasS]) (λu hu=>?_) λh5 hs5 ho5 hm5=>?_
   ·cases u with
    | int k j=>cases k<;>first | rfl | (simp[hasS];intro e;exact hu (by rw[e]))
    | _=>rfl
   have k5:=k4.upd ho5 hm5;refine gk (n:=1) (z:=.map Pz) (v:=.map (Py r1)) P1 rfl P1 rfl P8 P5 P5 λh6 hle6 hs6 hb6=>?_;have k6:=k5.ext hle6;have hW6:=k5.up (h':=h6);have x9:ak (grow W3 h5 h6) ⟨h5.size,0,Pz⟩=Py (.map (Py r1)):=cell_of (by rw[cU (Lp _)];exact hb6) rfl;generalize grow W3 h5 h6=W6 at *;generalize h5.size=B9 at *;subst hz;refine ab λz hz=>?_;refine ab λy hy=>?_;have hl6:=hl.mono (Pt hW1 (Pt hW13 hW6));have bl:=hl.bound;simp[hl6.len];subst hy;refine aO [0,1,3,9,37,38,39] (fun(_:Unit) k=>[vl,vf,ptr F1,ptr B9,vl,Pv Pw l.length,Pv Pw k])
    (λ_ k hx=>∃Wx,W6.le Wx/\Mq W h Wx hx r1 (mapB (hasS (l.take k)))) l.length ()
    rfl P2 rfl ⟨W6,View.le_refl _,k6⟩ (λ_ _=>rfl) (λv i h1 hk m=>by simp) ?_ ?_
   ·rintro _ k hx hk ⟨Wx,lx,kx⟩ K2 hK2;obtain⟨ut,hut,rut⟩:=(hl6.mono lx).wh rfl (N:=2) rfl hk;refine ab λy hy=>?_;simp(disch:=omega)[((hl6.mono lx).mono kx.wle).idxn (N:=2) rfl,hut _ kx.wle];refine kx.dA (α:=dS) rut (n:=2) (z:=.agg #[Pv Pw 0,Pv Pw 0]) P1 rfl rfl P1 P5 P5 λB h7 W7 hW7 k7 at7 hle7=>?_;have q0:ak W7 ⟨B,0,Pz⟩=Py (Pv Pw (nth l k).pat):=by simpa using(at7.part dS.HP).int
    subst hy;simp[ae k7.wle q0,ae (Pt lx (Pt hW7 k7.wle)) x9];have hst : ∀p,hasS (l.take (k+1)) p=if p=(nth l k).pat then PC else hasS (l.take k) p:=λp=>by
     unfold hasS;rw[LD hk,List.any_append,aA hk];by_cases e:p=l[k].pat
     ·simp[e]
     simp[e,Ne.symm e]
    obtain⟨g1,g2⟩:=F6 (f:=hasS (l.take k)) (g:=hasS (l.take (k+1))) (j:=(nth l k).pat) hst;refine jQ (.inl rfl) (t:=T.iT) (k:=T.int) (e:=T.bool) (u:=Pv Pw (nth l k).pat) U.iT U.int rfl rfl rfl eC k7.m (mapB (hasS (l.take (k+1)))) g1 g2 λh8 hs8 ho8 hm8=>?_;exact hK2 () _ _ rfl rfl ⟨W7,Pt lx hW7,k7.upd ho8 hm8⟩
   rintro _ h7 ⟨W7,l7,k7⟩;rw[MK]at k7;obtain⟨W8,l8,c8,hasM⟩:=k7.freeze;clear k4 k5 k6 k7 m3 hm5 ho5;have x9:=ae (Pt l7 l8) x9;have l18:W1.le W8:=Pt hW13 (Pt hW6 (Pt l7 l8));have at8:=at1.mono l18;simp;subst hz;refine ab λz hz=>?_;simp;refine lz ?_;have m9:dp (.int .i64) (h7.push (.map #[] 0)) h7.size (mapE twoV λ_=>Pz):=by rw[pC];exact dp.none Sa
   have q9:=bQ h7 (.map #[] 0);have av9:W8 h7.size=none:=View.cz c8.wle (Lp _);have hs9:h.size<=h7.size:=bY c8.le0;generalize h7.push (.map #[] 0)=h9 at *;obtain⟨r2,hr2⟩ : ∃r,r=h7.size:=⟨_,rfl⟩;rw[<-hr2]at m9 av9 hs9 ⊢;have k9:Mq W h W8 h9 r2 (mapE twoV λ_=>Pz):=⟨⟨Owns.start (Pt c8.wle q9),c8.old,Pt c8.le0 q9,λ_ _ _ e=>by cases e⟩,av9,hs9,m9⟩;refine gk (n:=1) (z:=.map Pz) (v:=.map (Py r2)) P1 rfl P1 rfl P8 P5 P5 λh10 hle10 hs10 hb10=>?_;have k10:=k9.ext hle10;have hW10:=k9.up (h':=h10);have x12:ak (grow W8 h9 h10) ⟨h9.size,0,Pz⟩=Py (.map (Py r2)):=cell_of (by rw[cU (Lp _)];exact hb10) rfl;have l110:=Pt l18 hW10;have x9:=ae hW10 x9;have hasM:=fun(g2:Heap) (hg:(grow W8 h9 h10).le (vw g2))=>hasM g2 (Pt hW10 hg);generalize grow W8 h9 h10=W10 at *;generalize h9.size=B12 at *;have at10:=at1.mono l110
   clear k9 m9 c8 at8 hle10 hb10 q9;subst hz;refine ab λz hz=>?_;refine ab λy hy=>?_;obtain⟨-,vb,hb1,hb2⟩:=jx at10;have bdf:=hb2.bound;simp[ae k10.wle hb1,hb2.len];subst hy;obtain⟨uf',huf',ruf'⟩:=at10.ldN rfl (N:=2) rfl;have smlen:=hsm.len;refine aO [0,1,3,9,12,37,38,39,49,50,51] (fun(_:Unit) b=>[vl,vf,ptr F1,ptr B9,ptr B12,vl,Pv Pw l.length,Pv Pw l.length,vb,Pv Pw f.blocks.length,Pv Pw b])
    (λ_ b hx=>∃Wx,W10.le Wx/\Mq W h Wx hx r2 (mapE twoV (whTo f b))) f.blocks.length ()
    rfl P2 rfl ⟨W10,View.le_refl _,k10⟩ (λ_ _=>rfl) (λv i h1 hk m=>by simp) ?_ ?_
   ·rintro _ b hx hb ⟨Wx,lx,kx⟩ K2 hK2;obtain⟨ub,hub,rub⟩:=(hb2.mono lx).wh rfl (N:=6) rfl hb;have sb:=hsm.blk b hb;refine ab λy hy=>?_;simp(disch:=omega)[((hb2.mono lx).mono kx.wle).idxn (N:=6) rfl,hub _ kx.wle];refine kx.dA (α:=BlkD) rub (n:=6) (z:=.agg #[PA Pz 0 0,PA Pz 0 0,Pv Pw 0,PA Pz 0 0,PA Pz 0 0,Pv Px 0]) P1 rfl rfl P1 P5 P5 λB2 h11 W11 hW11 k11 at11 hle11=>?_;subst hy;refine ab λy hy=>?_;obtain⟨vp,vi,va,vt,-,si,-⟩:=jW at11;have bi:=si.2.bound;simp[ae k11.wle si.1,si.2.len];subst hy;refine aO [0,1,3,9,12,13,14,37,38,39,49,50,51,57,58,59] (fun(_:Unit) k=>[vl,vf,ptr F1,ptr B9,ptr B12,Pv Pw b,ptr B2,vl,Pv Pw l.length,Pv Pw l.length,vb,Pv Pw f.blocks.length,Pv Pw b,vi,Pv Pw (nth f.blocks b).ins.length,Pv Pw k])
     (λ_ k hy=>∃Wy,W11.le Wy/\Mq W h Wy hy r2 (mapE twoV (Lft.up (kz f b) k (whTo f b)))) (nth f.blocks b).ins.length ()
     rfl P2 rfl ⟨W11,View.le_refl _,k11⟩ (λ_ _=>rfl) (λv i h1 hk m=>by simp) ?_ ?_
    ·rintro _ k h12 hk ⟨Wy,ly,ky⟩ K3 hK3;have hst:Lft.up (kz f b) (k+1) (whTo f b)=if(!decide ((nth (nth f.blocks b).ins k).op=16)&&!decide ((nth (nth f.blocks b).ins k).op=18))&&dk f (nth (nth f.blocks b).ins k).dst then putM (Lft.up (kz f b) k (whTo f b)) (nth (nth f.blocks b).ins k).dst ((b:Int),(k:Int)) else Lft.up (kz f b) k (whTo f b):=rfl;obtain⟨ui,hui,rui⟩:=(si.2.mono ly).wh rfl (N:=5) rfl hk;refine ab λy hy=>?_;simp(disch:=omega)[((si.2.mono ly).mono ky.wle).idxn (N:=5) rfl,hui _ ky.wle];refine ky.dA (α:=InsD) rui (n:=5) (z:=.agg #[Pv Pw 0,Pv Pw 0,Pv Pw 0,PA Pz 0 0,Pv Px 0]) P1 rfl rfl P1 P5 P5 λB4 h13 W13 hW13 k13 at13 hle13=>?_;obtain⟨q0,q1,-⟩:=kP at13;have r1:=(at13.part InsD.gJ).rng;have l1013:W10.le W13:=Pt lx (Pt hW11 (Pt ly hW13));generalize Lft.up (kz f b) k (whTo f b)=g at *;generalize nth (nth f.blocks b).ins k=ii at *;have q0:=ae k13.wle q0;have q1':=q1;have q1:=ae k13.wle q1;subst hy;refine ab λy hy=>?_;have skip : ∀(h14:Heap) (W14:View),W13.le W14->Mq W h W14 h14 r2 (mapE twoV g)->Lft.up (kz f b) (k+1) (whTo f b)=g->∃Wy,W11.le Wy/\Mq W h Wy h14 r2 (mapE twoV (Lft.up (kz f b) (k+1) (whTo f b))):=λh14 W14 l14 k14 e=>⟨W14,Pt ly (Pt hW13 l14),by rw[e];exact k14⟩;by_cases o16:ii.op=16
     ·rw[if_neg (by simp[o16])]at hst;simp[q0,o16];subst hy;simp;exact hK3 () _ _ rfl rfl (skip _ _ Ps k13 hst)
     by_cases o18:ii.op=18
     ·rw[if_neg (by simp[o18])]at hst;simp[q0,o18];subst hy;simp;exact hK3 () _ _ rfl rfl (skip _ _ Ps k13 hst)
     simp[q0,o16,o18,q1,huf' _ (Pt l1013 k13.wle)];refine af P1 (oe (ruf'.mono (Pt l1013 k13.wle)) hsm r1) ?_;rintro _ h14 ⟨rfl,hle14⟩;have k14:=k13.ext hle14;have hW14:=k13.up (h':=h14);cases hfo:dk f ii.dst with
     | false=>rw[if_neg (by simp[hfo])]at hst;subst hy;simp;exact hK3 () _ _ rfl rfl (skip _ _ hW14 k14 hst)
     | true=>rw[if_pos (by simp[o16,o18,hfo])]at hst;subst hy;simp[ae (Pt l1013 (Pt hW14 k14.wle)) x12,ae (Pt hW14 k14.wle) q1'];refine ay (z:=.agg #[Pv Pw 0,Pv Pw 0]) (places:=[(0,1),(1,1)]) (vs:=[(0,Pv Pw b),(1,Pv Pw k)]) (cs:=#[Pv Pw b,Pv Pw k]) P1 P1 Sa P1 ?_;refine jQ (.inl rfl) (t:=T.fJ) (k:=T.int) (e:=T.lI) (u:=Pv Pw ii.dst) (v:=twoV ((b:Int),(k:Int))) U.fJ U.int rfl rfl rfl eC k14.m (mapE twoV (putM g ii.dst ((b:Int),(k:Int)))) iE.1 iE.2 λh15 hs15 ho15 hm15=>?_;exact hK3 () _ _ rfl rfl ⟨_,Pt ly (Pt hW13 hW14),by rw[hst];exact k14.upd ho15 hm15⟩
    rintro _ h12 ⟨Wy,ly,ky⟩;exact hK2 () _ _ rfl rfl ⟨Wy,Pt lx (Pt hW11 ly),by rw[xh];exact ky⟩
   rintro _ h11 ⟨W11,l11,k11⟩;obtain⟨W12,l12,c12,whM⟩:=k11.freeze;have whM : ∀g2:Heap,W12.le (vw g2)->dp (.int .i64) g2 r2 (mapE twoV (whS f)):=whM;have x9:=ae (Pt l11 l12) x9;have x12:=ae (Pt l11 l12) x12;have l1012:=Pt l11 l12;clear k10 k11;simp;subst hz;refine ab λz hz=>?_;simp;refine dw (z:=.nilFunc) P1 ?_;have q13:=bQ h11 (.cells (Value.nilFunc).cells T.eZ);have b13:(h11.push (.cells (Value.nilFunc).cells T.eZ))[h11.size]? = Py (.cells (Value.nilFunc).cells T.eZ (0,0)):=by simp
   generalize h11.push (.cells (Value.nilFunc).cells T.eZ)=h13 at *;subst hz;refine ab λz hz=>?_;simp;refine ef (g:=h11.size) (o:=0) (n:=1) (v:=.func (.func 43) #[] #[ptr F1,ptr B9,ptr B12,ptr h11.size]) (cur:=(Value.nilFunc).cells) (e:=T.eZ) P1 rfl rfl rfl P8 b13 (by simp[Value.cells]) λh14 hs14 ⟨row,hr14,he14⟩ ho14=>?_;have hrow:row=(Value.func (.func 43) #[] #[ptr F1,ptr B9,ptr B12,ptr h11.size]).cells:=by rw[<-Array.toList_inj,he14];simp[Value.cells]
   rw[hrow]at hr14;have le14:(vw h11).le (vw h14):=λb o hb=>by have hlt:=View.lt (View.le_refl (vw h11)) hb;show h14[b]? = _;rw[ho14 b P2];exact q13 b o hb
   have c14:=c12.ext le14;have hW14:=c12.up (h':=h14);have x17:ak (grow W12 h11 h14) ⟨h11.size,0,Pz⟩=Py (.func (.func 43) #[] #[ptr F1,ptr B9,ptr B12,ptr h11.size]):=cell_of (by rw[cU (Lp _)];exact hr14) rfl;have l1014:=Pt l1012 hW14;have cv:Cv (grow W12 h11 h14) F1 B9 B12 h11.size r1 r2 f (hasS l) (whS f):=⟨at10.mono l1014,λp hp=>Gq e1 hp,ae hW14 x9,λg2 hg=>hasM g2 (Pt l1014 hg),ae hW14 x12,λv w hw=>Iz hsm hw,λg2 hg=>whM g2 (Pt hW14 hg),x17⟩;have hb1:=ae l1014 hb1;have hb2:=hb2.mono l1014;generalize grow W12 h11 h14=W14 at *;generalize h11.size=C at *;clear hr14 ho14 he14 b13 q13 le14 x9 x12 x17 hasM whM;subst hz;refine ab λz hz=>?_;refine ab λy hy=>?_;simp[ae c14.wle hb1,hb2.len];subst hy;refine aO [0,1,3,9,12,17,37,38,39,49,50,51,88,89,90] (fun(_:Unit) b=>[vl,vf,ptr F1,ptr B9,ptr B12,ptr C,vl,Pv Pw l.length,Pv Pw l.length,vb,Pv Pw f.blocks.length,Pv Pw f.blocks.length,vb,Pv Pw f.blocks.length,Pv Pw b])
    (λ_ b hx=>∃Wx,W14.le Wx/\Cx W h Wx hx (λ_=>Pz)/\((List.range b).findSome? λb=>(wy f (hasS l) b).map λi=>(b,i))=Pz) f.blocks.length ()
    rfl P2 rfl ⟨W14,View.le_refl _,c14,rfl⟩ (λ_ _=>rfl) (λv i h1 hk m=>by simp) ?_ ?_
   ·rintro _ b hx hb ⟨Wx,lx,cx,hno⟩ K2 hK2;obtain⟨ub,hub,rub⟩:=(hb2.mono lx).wh rfl (N:=6) rfl hb;have sb:=hsm.blk b hb;have sbi:=sb.ins;simp only[aL];refine ab λy hy=>?_;simp(disch:=omega)[((hb2.mono lx).mono cx.wle).idxn (N:=6) rfl,hub _ cx.wle];refine cx.dA (α:=BlkD) rub (n:=6) (z:=.agg #[PA Pz 0 0,PA Pz 0 0,Pv Pw 0,PA Pz 0 0,PA Pz 0 0,Pv Px 0]) P1 rfl rfl P1 P5 P5 λB2 h15 W15 hW15 c15 at15 hle15=>?_;subst hy;refine ab λy hy=>?_;obtain⟨vp,vi,va,vt,-,si,-⟩:=jW at15;have bi:=si.2.bound;simp(disch:=omega)[ae c15.wle si.1,si.2.len];subst hy;have eN:((nth f.blocks b).ins.length:Int)+1=(((nth f.blocks b).ins.length+1:Nat):Int):=by omega
    rw[eN];have l1415:=Pt lx hW15;refine aO [0,1,3,9,12,17,18,19,37,38,39,49,50,51,88,89,90,98,99] (fun(_:Unit) i=>[vl,vf,ptr F1,ptr B9,ptr B12,ptr C,Pv Pw b,ptr B2,vl,Pv Pw l.length,Pv Pw l.length,vb,Pv Pw f.blocks.length,Pv Pw f.blocks.length,vb,Pv Pw f.blocks.length,Pv Pw b,Pv Pw (((nth f.blocks b).ins.length+1:Nat):Int),Pv Pw i])
     (λ_ i hx=>∃Wx,W15.le Wx/\Cx W h Wx hx (λ_=>Pz)/\(List.range i).find? (tc f (hasS l) b)=Pz) ((nth f.blocks b).ins.length+1) ()
     rfl P2 rfl ⟨W15,View.le_refl _,c15,rfl⟩ (λ_ _=>rfl) (λv i h1 hk m=>by simp) ?_ ?_
    ·rintro _ i h16 hi ⟨W16,l16,c16,hno2⟩ K3 hK3;have si16:=si.2.mono l16;have x0:=ae (Pt l16 c16.wle) si.1;have cv16:=cv.mono (Pt l1415 l16);simp only[aL];refine ab λy hy=>?_;simp;subst hy;refine ab λy hy=>?_;simp;subst hy;refine ab λy hy=>?_;refine gy (λρ h17=>∃W17,W16.le W17/\Cx W h W17 h17 (λ_=>Pz)/\Looks ρ [(0,vl),(1,vf),(3,ptr F1),(9,ptr B9),(12,ptr B12),(17,ptr C),(18,Pv Pw b),(19,ptr B2),(20,Pv Pw i),(21,.bool (nM f (whS f) b i)),(37,vl),(38,Pv Pw l.length),(39,Pv Pw l.length),(49,vb),(50,Pv Pw f.blocks.length),(51,Pv Pw f.blocks.length),(88,vb),(89,Pv Pw f.blocks.length),(90,Pv Pw b),(98,Pv Pw (((nth f.blocks b).ins.length+1:Nat):Int)),(99,Pv Pw i)]) ?_ ?_
     ·intro K4 hK4;refine ab λx hx=>?_;by_cases ci:i<(nth f.blocks b).ins.length
      ·have hii:((i:Int)<((nth f.blocks b).ins.length:Int)):=by omega
       have ax:=(si16.at ci);rw[<-aA ci]at ax;have q0:=ae c16.wle (ax.part InsD.tF).int;have q1:=(ax.part InsD.gJ).int;have hx5:=si16.idxn (k:=.i64) (N:=5) rfl (i:=(i:Int)) P2 P2;generalize hii2:nth (nth f.blocks b).ins i=ii at *;have q0:ak (vw h16) (((slA vi).add (i*5)).add 0)=Py (Pv Pw ii.op):=q0;have q1:ak W16 (((slA vi).add (i*5)).add 1)=Py (Pv Pw ii.dst):=q1;have hx5:Bn.ev (.idx 5) vi (Pv Pw (i:Int))=Py (PB (Py ((slA vi).add (i*5)))):=by simpa using hx5
       by_cases o16:ii.op=16
       ·have hn:nM f (whS f) b i=true:=by unfold nM;rw[hii2];simp[o16]
        simp[x0,si16.len,hii,hx5,q0,o16];subst hx;simp;exact hK4 _ _ ⟨W16,View.le_refl _,c16,by rw[hn];simp[Looks]⟩
       have hn:nM f (whS f) b i=!decide (whS f ii.dst=Py ((b:Int),(i:Int))):=by unfold nM;rw[hii2];simp[o16,ci]
       simp[x0,si16.len,hii,hx5,q0,o16];subst hx;refine aW Sa ?_;refine ab λx hx=>?_;have wr:Rd W16 (((whS f ii.dst).map twoV).getD (.agg #[Pv Pw 0,Pv Pw 0])) ((whS f ii.dst).getD (0,0)):=by
        cases hv:whS f ii.dst with
        | none=>exact pE.2 ⟨rfl,by decide,by decide⟩
        | some w=>exact pE.2 ⟨rfl,(cv16.whR ii.dst w hv).1,(cv16.whR ii.dst w hv).2⟩
       have hww:((whS f ii.dst).map twoV).getD (.agg #[Pv Pw 0,Pv Pw 0])=twoV ((whS f ii.dst).getD (0,0)):=by cases whS f ii.dst<;>rfl
       refine gy (λρ h17=>∃B22,Cx W h W16 h17 (λ_=>Pz)/\Un.ev (vw h17) (.bU 2) (ptr B22)=Py (twoV ((whS f ii.dst).getD (0,0)))/\Looks ρ [(0,vl),(1,vf),(3,ptr F1),(9,ptr B9),(12,ptr B12),(17,ptr C),(18,Pv Pw b),(19,ptr B2),(20,Pv Pw i),(21,.bool PC),(22,ptr B22),(23,.bool (whS f ii.dst).isSome),(37,vl),(38,Pv Pw l.length),(39,Pv Pw l.length),(49,vb),(50,Pv Pw f.blocks.length),(51,Pv Pw f.blocks.length),(88,vb),(89,Pv Pw f.blocks.length),(90,Pv Pw b),(98,Pv Pw (((nth f.blocks b).ins.length+1:Nat):Int)),(99,Pv Pw i)]) ?_ ?_
       ·intro K5 hK5;refine aT W16 c16.wle ?_;have q1:=q1;refine gL ?_ ?_
        ·simp[cv16.whC,si.1,si.1,ae l16 si.1,hx5,q1];refine lR (f:=mapE twoV (whS f)) (z:=.agg #[Pv Pw 0,Pv Pw 0]) (k:=T.int) (e:=T.lI) (d:=.int .i64) (r:=r2) (u:=Pv Pw ii.dst) U.fJ U.int P1 rfl rfl eC (cv16.whM h16 c16.wle) ?_;simp;refine c16.cA (k:=(0,0)) (n:=1) (z:=.agg #[Pv Pw 0,Pv Pw 0]) rfl P1 rfl P4 P8 λB22 h17 hle17 c17=>?_;refine c17.bs (k:=(0,0)) (n:=1) Own.ao wr rfl rfl P1 rfl rfl λh18 l18 hl18 c18=>?_;have hall:=c18.all (k:=(0,0)) (n:=1) (l:=l18) (B:=B22) (e:=T.lI) Own.ao;refine hK5 _ _ ⟨B22,⟨c18.own.sub λk i e=>by(cases e),c18.old,c18.le0,λ_ _ _ e=>by cases e⟩,?_,by simp[Looks]⟩;rw[<-hww,hl18];exact hall
        simp[cv16.whC,si.1,ae l16 si.1,hx5,q1];refine c16.cA (k:=(0,0)) (n:=1) (z:=.agg #[Pv Pw 0,Pv Pw 0]) rfl P1 rfl P4 P8 λB22 h17 hle17 c17=>?_;refine⟨c17.wle,?_⟩;refine lR (f:=mapE twoV (whS f)) (z:=.agg #[Pv Pw 0,Pv Pw 0]) (k:=T.int) (e:=T.lI) (d:=.int .i64) (r:=r2) (u:=Pv Pw ii.dst) U.fJ U.int P1 rfl rfl eC (cv16.whM h17 c17.wle) ?_;simp;refine c17.bs (k:=(0,0)) (n:=1) Own.ao wr rfl rfl P1 rfl rfl λh18 l18 hl18 c18=>?_;have hall:=c18.all (k:=(0,0)) (n:=1) (l:=l18) (B:=B22) (e:=T.lI) Own.ao;refine hK5 _ _ ⟨B22,⟨c18.own.sub λk i e=>by(cases e),c18.old,c18.le0,λ_ _ _ e=>by cases e⟩,?_,by simp[Looks]⟩;rw[<-hww,hl18];exact hall
       rintro ρ h17 ⟨B22,c17,x22,L⟩;have L0:=L (0,vl) Sa;have L1:=L (1,vf) Sa;have L3:=L (3,ptr F1) Sa;have L9:=L (9,ptr B9) Sa;have L12:=L (12,ptr B12) Sa;have L17:=L (17,ptr C) Sa;have L18:=L (18,Pv Pw b) Sa;have L19:=L (19,ptr B2) Sa;have L20:=L (20,Pv Pw i) Sa;have L21:=L (21,.bool PC) Sa;have L22:=L (22,ptr B22) Sa;have L23:=L (23,.bool (whS f ii.dst).isSome) Sa;have L37:=L (37,vl) Sa;have L38:=L (38,Pv Pw l.length) Sa;have L39:=L (39,Pv Pw l.length) Sa;have L49:=L (49,vb) Sa;have L50:=L (50,Pv Pw f.blocks.length) Sa;have L51:=L (51,Pv Pw f.blocks.length) Sa;have L88:=L (88,vb) Sa;have L89:=L (89,Pv Pw f.blocks.length) Sa;have L90:=L (90,Pv Pw b) Sa;have L98:=L (98,Pv Pw (((nth f.blocks b).ins.length+1:Nat):Int)) Sa;have L99:=L (99,Pv Pw i) Sa;simp only at L0 L1 L3 L9 L12 L17 L18 L19 L20 L21 L22 L23 L37 L38 L39 L49 L50 L51 L88 L89 L90 L98 L99;subst hx;refine ab λx hx=>?_;cases hv:whS f ii.dst with
       | none=>
        have hn:nM f (whS f) b i=true:=by rw[hn,hv];rfl
        rw[hv]at L23;simp[ag,ah,L0,L1,L3,L9,L12,L17,L18,L19,L20,L21,L22,L23,L37,L38,L39,L49,L50,L51,L88,L89,L90,L98,L99];subst hx;simp[ag,ah,L0,L1,L3,L9,L12,L17,L18,L19,L20,L21,L22,L23,L37,L38,L39,L49,L50,L51,L88,L89,L90,L98,L99];exact hK4 _ _ ⟨W16,View.le_refl _,c17,by rw[hn];simp[Looks,ag,ah,L0,L1,L3,L9,L12,L17,L18,L19,L20,L21,L22,L23,L37,L38,L39,L49,L50,L51,L88,L89,L90,L98,L99]⟩
       | some w=>
        have hn:nM f (whS f) b i=!(w.1 == (b:Int)&&w.2 == (i:Int)):=by rw[hn,hv];obtain⟨w1,w2⟩:=w;rw[LV];simp
        rw[hv]at L23 x22;have x22:Un.ev (vw h17) (.bU 2) (ptr B22)=Py (.agg #[Pv Pw w.1,Pv Pw w.2]):=x22;simp[ag,ah,L0,L1,L3,L9,L12,L17,L18,L19,L20,L21,L22,L23,L37,L38,L39,L49,L50,L51,L88,L89,L90,L98,L99,x22];refine ay (z:=.agg #[Pv Pw 0,Pv Pw 0]) (places:=[(0,1),(1,1)]) (vs:=[(0,Pv Pw b),(1,Pv Pw i)]) (cs:=#[Pv Pw b,Pv Pw i]) P1 P1 Sa P1 ?_;refine AY (t:=T.lI) (e:=T.int) (a:=w.1) (b:=w.2) (c:=(b:Int)) (d:=(i:Int)) (ki:=.i64) U.lI U.int P1 P1 P1 rfl rfl ?_;subst hx;cases he:(w.1 == (b:Int)&&w.2 == (i:Int))with
        | false=>rw[he]at hn;simp[ag,ah,L0,L1,L3,L9,L12,L17,L18,L19,L20,L21,L22,L23,L37,L38,L39,L49,L50,L51,L88,L89,L90,L98,L99];exact hK4 _ _ ⟨W16,View.le_refl _,c17,by rw[hn];simp[Looks,ag,ah,L0,L1,L3,L9,L12,L17,L18,L19,L20,L21,L22,L23,L37,L38,L39,L49,L50,L51,L88,L89,L90,L98,L99]⟩
        | true=>rw[he]at hn;simp[ag,ah,L0,L1,L3,L9,L12,L17,L18,L19,L20,L21,L22,L23,L37,L38,L39,L49,L50,L51,L88,L89,L90,L98,L99];exact hK4 _ _ ⟨W16,View.le_refl _,c17,by rw[hn];simp[Looks,ag,ah,L0,L1,L3,L9,L12,L17,L18,L19,L20,L21,L22,L23,L37,L38,L39,L49,L50,L51,L88,L89,L90,L98,L99]⟩
      have hn:nM f (whS f) b i=true:=by unfold nM;simp[ci]
      have hii:¬((i:Int)<((nth f.blocks b).ins.length:Int)):=by omega
      simp[x0,si16.len,hii];subst hx;simp;exact hK4 _ _ ⟨W16,View.le_refl _,c16,by rw[hn];simp[Looks]⟩
     rintro ρ h17 ⟨W17,l17,c17,L⟩;have L0:=L (0,vl) Sa;have L1:=L (1,vf) Sa;have L3:=L (3,ptr F1) Sa;have L9:=L (9,ptr B9) Sa;have L12:=L (12,ptr B12) Sa;have L17:=L (17,ptr C) Sa;have L18:=L (18,Pv Pw b) Sa;have L19:=L (19,ptr B2) Sa;have L20:=L (20,Pv Pw i) Sa;have L21:=L (21,.bool (nM f (whS f) b i)) Sa;have L37:=L (37,vl) Sa;have L38:=L (38,Pv Pw l.length) Sa;have L39:=L (39,Pv Pw l.length) Sa;have L49:=L (49,vb) Sa;have L50:=L (50,Pv Pw f.blocks.length) Sa;have L51:=L (51,Pv Pw f.blocks.length) Sa;have L88:=L (88,vb) Sa;have L89:=L (89,Pv Pw f.blocks.length) Sa;have L90:=L (90,Pv Pw b) Sa;have L98:=L (98,Pv Pw (((nth f.blocks b).ins.length+1:Nat):Int)) Sa;have L99:=L (99,Pv Pw i) Sa;simp only at L0 L1 L3 L9 L12 L17 L18 L19 L20 L21 L37 L38 L39 L49 L50 L51 L88 L89 L90 L98 L99;have cv17:=cv16.mono l17;have hplc:de f b i=true:=by simp[de];omega
     have hstep : ∀X,tc f (hasS l) b i=X->X=PD->(List.range (i+1)).find? (tc f (hasS l) b)=none:=λX hX hf=>by rw[NB,N3,hno2,Nt,List.find?_singleton,hX,hf];rfl
     subst hy;refine ab λy hy=>?_;cases hn:nM f (whS f) b i with
     | false=>rw[hn]at L21;simp[ag,ah,L0,L1,L3,L9,L12,L17,L18,L19,L20,L21,L37,L38,L39,L49,L50,L51,L88,L89,L90,L98,L99];subst hy;simp[ag,ah,L0,L1,L3,L9,L12,L17,L18,L19,L20,L21,L37,L38,L39,L49,L50,L51,L88,L89,L90,L98,L99];refine hK3 () _ _ (by simp[ag,ah,L0,L1,L3,L9,L12,L17,L18,L19,L20,L21,L37,L38,L39,L49,L50,L51,L88,L89,L90,L98,L99]) (by simp[bK,ag,ah,L0,L1,L3,L9,L12,L17,L18,L19,L20,L21,L37,L38,L39,L49,L50,L51,L88,L89,L90,L98,L99]) ⟨W17,Pt l16 l17,c17,hstep _ rfl (by unfold tc;rw[hn];rfl)⟩
     | true=>
      rw[hn]at L21;simp[ag,ah,L0,L1,L3,L9,L12,L17,L18,L19,L20,L21,L37,L38,L39,L49,L50,L51,L88,L89,L90,L98,L99,ae c17.wle cv17.can];refine bN (ops:=[.tmp 138,.tmp 139]) (caps:=#[ptr F1,ptr B9,ptr B12,ptr C]) rfl P1 (EP m hsm hM hd (i+1) (b:=(b:Int)) (i:=(i:Int)) cv17 c17.wle hplc P2) ?_;rintro _ h18 ⟨hle18,rfl⟩;have c18:=c17.ext hle18;have hW18:=c17.up (h':=h18);simp[ag,ah,L0,L1,L3,L9,L12,L17,L18,L19,L20,L21,L37,L38,L39,L49,L50,L51,L88,L89,L90,L98,L99];subst hy;cases hcn:canS f (hasS l) (whS f) (i+1) b i with
      | true=>simp[ag,ah,L0,L1,L3,L9,L12,L17,L18,L19,L20,L21,L37,L38,L39,L49,L50,L51,L88,L89,L90,L98,L99];refine hK3 () _ _ (by simp[ag,ah,L0,L1,L3,L9,L12,L17,L18,L19,L20,L21,L37,L38,L39,L49,L50,L51,L88,L89,L90,L98,L99]) (by simp[bK,ag,ah,L0,L1,L3,L9,L12,L17,L18,L19,L20,L21,L37,L38,L39,L49,L50,L51,L88,L89,L90,L98,L99]) ⟨_,Pt l16 (Pt l17 hW18),c18,hstep _ rfl (by unfold tc;rw[hn,hcn];rfl)⟩
      | false=>
       have hbad:tc f (hasS l) b i=true:=by unfold tc;rw[hn,hcn];rfl
       have hrow:wy f (hasS l) b=Py i:=by unfold wy;exact find_range hi hno2 hbad
       have hfirst:oO f (hasS l)=Py (b,i):=by unfold oO;exact v7 hb hno (by rw[hrow];rfl)
       rw[hfirst]at hK;simp[ag,ah,L0,L1,L3,L9,L12,L17,L18,L19,L20,L21,L37,L38,L39,L49,L50,L51,L88,L89,L90,L98,L99];exact hK _ _ ⟨c18.le0,rfl⟩
    rintro _ h16 ⟨W16,l16,c16,hno2⟩;refine hK2 () _ _ rfl rfl ⟨W16,Pt l1415 l16,c16,?_⟩;rw[NB,ND,hno,Nt];simp[wy,hno2]
   rintro _ hx ⟨Wx,lx,cx,hno⟩;have e:oO f (hasS l)=none:=hno;rw[e]at hK;simp;subst hz;simp;exact hK _ _ ⟨cx.le0,rfl⟩
 have e:iK l f=((js l).1,0,0):=by unfold iK;rw[if_pos e1]
 simp[e1];exact hK _ _ ⟨c2.le0,by rw[e]⟩
end Go.Proofs.YtnfiilgdjpdlkaaGreatDoor
namespace Go.Proofs.YtnfiilgdjpdlkaaGreatDoor
open Go Go.Lft
theorem qu{val:Int}{x:Int × Int}{l:List Th}: ∀{y:WL},x∈l.foldl (pB val) y↔x∈y\/∃t∈l,x=(t.blk,t.place)/\val∈t.tks:=by
 induction l with
 | nil=>simp
 | cons t l ih=>
  intro y;rw[LR,ih,pB,pI];simp only[LF,exists_eq_or_imp];constructor
  ·rintro((h | h) | h)
   ·exact .inl h
   ·exact .inr (.inl h)
   exact .inr (.inr h)
  rintro(h | h | h)
  ·exact .inl (.inl h)
  ·exact .inl (.inr h)
  exact .inr h
theorem mA{f:aj}{v:Int}(h:dk f v=PC){t t':Th}(ht:t∈aD f)(ht':t'∈aD f)(hm:v∈t.mks)(hk:v∈t'.tks):t.blk=t'.blk/\t.place<t'.place:=by
 unfold dk jP at h;simp only[Lt]at h;have hb:=h.1;unfold lV at hb;simp at hb;obtain⟨⟨⟨⟨b1,b2⟩,b3⟩,b4⟩,b5⟩:=hb;have m1:(t.blk,t.place)∈oB v (aD f):=rJ.2 (.inr ⟨t,ht,rfl,hm⟩);have m2:(t'.blk,t'.place)∈iV v (aD f):=qu.2 (.inr ⟨t',ht',rfl,hk⟩);have one : ∀{l:WL} {x:Int × Int},l.length=1->x∈l->nth l 0=x:=by
  intro l x hl hx;match l,hl with
  | [y],_=>simp at hx;rw[hx];rfl
 have e1:=one P2 m1;have e2:=one P2 m2;rw[e1,e2]at b4;rw[e1,e2]at b5;exact⟨b4,by simpa using b5⟩
theorem eH{f:aj}{b k:Nat}(hb:b<f.blocks.length)(hk:k<(nth f.blocks b).ins.length):insT f b k∈aD f:=iA.2 ⟨b,hb,j9.2 (.inr (.inl ⟨k,hk,rfl⟩))⟩
theorem xe{f:aj}{b:Nat}(hb:b<f.blocks.length):endT f b∈aD f:=iA.2 ⟨b,hb,j9.2 (.inr (.inr rfl))⟩
def ownArgs (s:bR):List Int:=if s.term then s.t.args else s.i.args
def uI (f:aj) (args:List Int) (v:Int):Prop:=∃v2 op,v2∈args/\(aF f v2 op).2=PC/\v∈(aF f v2 op).1.args
theorem rH{l:List Int}{v:Int}(h:v∈l.drop 1):v∈l:=List.mem_of_mem_drop h
theorem rz{f:aj}{i:InsD}{m lo hi sg:Int}{x:FitD}(hl:1<=i.args.length)(h:immS f i m lo hi sg=Py x){v:Int}(hv:v∈x.takes):v∈i.args:=by
 unfold immS at h;split at h
 ·cases h;simp at hv;subst hv;exact bC P2
 cases h
theorem zK{f:aj}{i:InsD}{temp op pl su:Int}{k:Nat}{x:FitD}(hall : ∀i∈dG f,rY i)(hl:1<=i.args.length)(h:memS f i temp op pl su k=Py x){v:Int}(hv:v∈x.takes):v∈i.args\/uI f i.args v:=by
 have h0:nth i.args 0∈i.args:=bC P2;have hin : ∀{j},(aF f (nth i.args 0) 2).2=PC->j<2->uI f i.args (nth (aF f (nth i.args 0) 2).1.args j):=fun{j} hb hj=>by obtain⟨m1,m2,-⟩:=dV hb;have:=(hall _ m1).two P2;exact⟨_,2,h0,hb,bC P2⟩
 match k with
 | 0=>
  simp only[memS]at h;split at h
  ·cases h;rcases LF.1 hv with rfl | hv
   ·exact .inl h0
   exact .inl (rH hv)
  cases h
 | 1=>
  simp only[memS]at h;split at h
  ·rename_i c;split at h
   ·cases h;rcases LF.1 hv with rfl | hv
    ·exact .inr (hin c P4)
    exact .inl (rH hv)
   cases h
  cases h
 | 2=>
  simp only[memS]at h;split at h
  ·rename_i c;simp only[Lt]at c;cases h;rcases LF.1 hv with rfl | hv
   ·exact .inr (hin c.1 P4)
   rcases LF.1 hv with rfl | hv
   ·exact .inr (hin c.1 P4)
   exact .inl (rH hv)
  cases h
 | k+3=>
  simp only[memS]at h;cases h;rcases LF.1 hv with rfl | hv
  ·exact .inl h0
  exact .inl (rH hv)
theorem AZ{s:bR}{pat:Int}{x:FitD}(hok:kI s)(ht:ud s.t)(h:tryS s pat=Py x){v:Int}(hv:v∈x.takes):v∈ownArgs s\/uI s.f (ownArgs s) v:=by
 unfold tryS at h;unfold ownArgs;cases htm:s.term with
 | true=>
  rw[htm,if_pos rfl]at h;rw[if_pos rfl];unfold gI at h;split at h
  ·cases h;cases hv
  split at h
  ·cases h;exact .inl hv
  split at h
  ·cases h;cases hv
  split at h
  ·cases h;exact .inl hv
  split at h
  ·rename_i c;split at h
   ·rename_i c2;cases h;exact .inr ⟨_,_,bC (ht.one (.inl c.2)),c2,hv⟩
   cases h
  split at h
  ·cases h;exact .inl hv
  cases h
 | false=>
  rw[htm,if_neg Sa]at h;rw[if_neg Sa];unfold patS at h;split at h
  ·rename_i c;obtain⟨c1,c2,c3⟩:=c;have hp1:1<=pat.toNat/\pat.toNat<=32:=by omega
   generalize pat.toNat=p at *;have len:16<=p->p<=30->1<=s.i.args.length:=by
    intro h2 h30;have hopr:(2<=s.i.op/\s.i.op<=14)\/s.i.op=16\/s.i.op=15:=by
     rw[c3];unfold opOf;repeat' split
     all_goals omega
    rcases hopr with q | q | q
    ·have:=hok.one.two (.inl q);omega
    ·have:=hok.one.two (.inr (.inl q));omega
    exact hok.one.one q
   unfold doS at h;by_cases p1:p=1
   ·rw[if_pos p1]at h;by_cases q:inR s.i.imm.v (-32768) 32767=PC
    ·rw[if_pos q]at h;cases h;cases hv
    rw[if_neg q]at h;cases h
   rw[if_neg p1]at h;by_cases p2:p=2
   ·rw[if_pos p2]at h;cases h;cases hv
   rw[if_neg p2]at h;by_cases p15:p<=15
   ·rw[if_pos p15]at h;cases h;exact .inl hv
   rw[if_neg p15]at h;by_cases p16:p=16
   ·rw[if_pos p16]at h;exact .inl (rz (len P2 P2) h hv)
   rw[if_neg p16]at h;by_cases p17:p=17
   ·rw[if_pos p17]at h;exact .inl (rz (len P2 P2) h hv)
   rw[if_neg p17]at h;by_cases p18:p=18
   ·rw[if_pos p18]at h;exact .inl (rz (len P2 P2) h hv)
   rw[if_neg p18]at h;by_cases p21:p<=21
   ·rw[if_pos p21]at h;exact .inl (rz (len P2 P2) h hv)
   rw[if_neg p21]at h;by_cases p22:p=22
   ·rw[if_pos p22]at h;by_cases q:(aF s.f (nth s.i.args 0) 4).2=PC
    ·rw[if_pos q]at h;have l1:=len P2 P2;have l2:=hok.one.two (by rw[c3,p22];exact .inl P4);obtain⟨m1,m2,-⟩:=dV q;have l3:=(hok.all _ m1).two P2;cases h;rcases LF.1 hv with rfl | hv
     ·exact .inr ⟨_,_,bC P2,q,bC P2⟩
     rcases LF.1 hv with rfl | hv
     ·exact .inr ⟨_,_,bC P2,q,bC P2⟩
     rcases LF.1 hv with rfl | hv
     ·exact .inl (bC P2)
     cases hv
    rw[if_neg q]at h;cases h
   rw[if_neg p22]at h;by_cases p26:p<=26
   ·rw[if_pos p26]at h;exact zK hok.all (len P2 P2) h hv
   rw[if_neg p26]at h;by_cases p30:p<=30
   ·rw[if_pos p30]at h;exact zK hok.all (len P2 P2) h hv
   rw[if_neg p30]at h;by_cases p31:p=31
   ·rw[if_pos p31]at h;cases h;exact .inl hv
   rw[if_neg p31]at h;cases h;exact .inl hv
  cases h
theorem HF{f:aj}(m:ml f)(hsm:SmF f)(hr : ∀i∈dG f,-2147483648<=i.imm.v/\i.imm.v<=2147483647):Down f (whS f):=by
 intro b i pat x v w hpl hx hv hw;obtain⟨h1,h2,h3,h4⟩:=uj (temp:=0) m hsm hr hpl;obtain⟨b',k',hb',hk',rfl,hd,ho16,ho18,hfo⟩:=EU hw;simp[de]at hpl;obtain⟨⟨⟨g1,g2⟩,g3⟩,g4⟩:=hpl;have hb:b.toNat<f.blocks.length:=by omega
 have made : ∀{b k:Nat} {u:Int},b<f.blocks.length->k<(nth f.blocks b).ins.length->(nth (nth f.blocks b).ins k).dst=u->(nth (nth f.blocks b).ins k).op≠16->u∈(insT f b k).mks:=by intro b k u hb hk hd ho;show u∈cr (nth (nth f.blocks b).ins k);unfold cr;rw[if_neg ho];split<;>simp[hd]
 have hmk:=made hb' hk' hd ho16;obtain⟨t,ht,htb,htp,hta⟩ : ∃t∈aD f,t.blk=b/\t.place=i/\t.tks=ownArgs (dL f b i 0):=by
  unfold ownArgs dL;by_cases e:i=(nth f.blocks b.toNat).ins.length
  ·rw[if_pos e,if_pos rfl];exact⟨_,xe hb,by show((b.toNat:Nat):Int)=b;omega,by show(((nth f.blocks b.toNat).ins.length:Nat):Int)=i;omega,rfl⟩
  rw[if_neg e,if_neg Sa];exact⟨_,eH hb (k:=i.toNat) P2,by show((b.toNat:Nat):Int)=b;omega,by show((i.toNat:Nat):Int)=i;omega,rfl⟩
 have key : ∃t2∈aD f,t2.blk=b/\t2.place<=i/\v∈t2.tks:=by
  rcases AZ h1 h2 hx hv with hv | ⟨v2,op,hv2,hf2,hv⟩
  ·exact⟨t,ht,htb,by omega,by rw[hta];exact hv⟩
  rw[h4]at hf2 hv;obtain⟨m1,m2,m3,m4,m5⟩:=dV hf2;obtain⟨b2,k2,hb2,hk2,e2⟩:=lJ.1 m1;rw[e2]at m4 m5 hv;have hm2:=made hb2 hk2 m4 m5;obtain⟨q1,q2⟩:=mA m3 (eH hb2 hk2) ht hm2 (by rw[hta];exact hv2);exact⟨_,eH hb2 hk2,by rw[q1,htb],by rw[htp]at q2;omega,hv⟩
 obtain⟨t2,ht2,e1,e2,e3⟩:=key;obtain⟨q1,q2⟩:=mA hfo (eH hb' hk') ht2 hmk e3;have q1:(b':Int)=t2.blk:=q1;have q2:(k':Int)<t2.place:=q2;refine⟨?_,by simp only;omega⟩;simp[de];omega
def ln:List Int:=[1,2,1,1,3,1,1,1,1,1,1,1,1,1,12,1,1,1,1,1,1,3,2,2,2,4,1,1,1,3,6,4,1,1,1,1,2]
def allT:List dS:=rows (λi=>⟨(i:Int)+1,nth ln i⟩) 37
theorem rG{W:View}{p c:Int}(hp:I64 p)(hc:I64 c):Rd W (.agg #[Pv Pw p,Pv Pw c]) (⟨p,c⟩:dS):=by unfold Rd;rw[if_pos (show Rep.agg dS=PC from rfl)];exact⟨_,rfl,[Pv Pw p],[Pv Pw c],rfl,⟨rfl,hp⟩,rfl,hc⟩
theorem uu {W:View} : ∀{l:List Int},(∀x∈l,I64 x)->ou W (l.map λc=>Pv Pw c) l
 | [],_=>trivial
 | x::l,h=>⟨bn.2 ⟨rfl,h x (Lz ..)⟩,uu λy hy=>h y (LA _ hy)⟩
theorem wR: ∀x∈ln,1<=x/\x<=12:=by
 have h:ln.all (λx=>decide (1<=x)&&decide (x<=12))=true:=by kernel_rfl
 exact λx hx=>by simpa using LY.1 h x hx
theorem IY{h:Heap}:az PE 22 #[] h (λu h'=>(vw h).le (vw h')/\SlRd (vw h') u allT):=by
 refine au (args:=[]) follows Tryz.func22 E.fT Pp λK hK=>?_;dsimp only[L.fT,lkF,lkG];refine ab λz hz=>?_;simp;subst hz;refine ab λz hz=>?_;simp;subst hz;refine ab λz hz=>?_;simp;refine jX (α:=Int) (ds:=ln) (vs:=ln.map λc=>Pv Pw c) (X:=nothing) El.aR P1 (uu λx hx=>by have:=wR x hx;constructor<;>omega) rfl P4 P4 λuc h1 hle1 hs1 huc hb1=>?_;have huc:=huc (vw h1) (bE) rfl;have hl:=huc.len (K:=vw h1);have hl37:ln.length=37:=rfl;rw[hl37]at hl;simp[hl];refine aO [0,1,4,5,6] (fun(vo:Value) k=>[PA Pz 0 0,vo,uc,Pv Pw 37,Pv Pw k])
   (λvo k h2=>Mine nothing h1 h2 nothing T.lL vo (rows (λi=>(⟨(i:Int)+1,nth ln i⟩:dS)) k)) 37 (PA Pz 0 0)
   rfl P2 rfl (Mine.start bE) (λ_ _=>rfl) (λv i h1 hk m=>by simp) ?_ ?_
 ·rintro vo k h2 hk m K2 hK2;have hle:=m.old;have e1:=huc.idx1 (k:=.i64) (i:=(k:Int)) rfl P2 (by rw[hl37];omega);have e2:=ae hle (huc.int Ps (i:=k) (by rw[hl37];omega));simp only[LN]at e1;have hc:=wR _ (bC (l:=ln) (i:=k) (by rw[hl37];omega));have ew:IntKind.i64.wrap ((k:Int)+1)=(k:Int)+1:=bH P2 P2;refine ab λy hy=>?_;simp[e1,e2];subst hy;simp[ew];refine ay (t:=T.lL) (z:=.agg #[Pv Pw 0,Pv Pw 0]) (places:=[(0,1),(1,1)]) (vs:=[(0,Pv Pw ((k:Int)+1)),(1,Pv Pw (nth ln k))]) (cs:=#[Pv Pw ((k:Int)+1),Pv Pw (nth ln k)]) P1 P1 Sa P1 ?_;refine m.push (u:=.agg #[Pv Pw ((k:Int)+1),Pv Pw (nth ln k)]) El.jG Sa (rG (by constructor<;>omega) (by constructor<;>omega)) P9 P9 P5 P5 λu v' h5 m'=>?_;refine hK2 v' _ _ rfl rfl ?_;rw[eu];exact m'
 rintro vo h2 m;simp;subst hz;simp;exact hK _ _ ⟨Pt hle1 m.old,m.now⟩
theorem CC{a b:List Int}{va vb:Value}{h:Heap}(ha:SlRd (vw h) va a)(hb:SlRd (vw h) vb b):
  az PE 19 #[va,vb] h (λu h'=>u = .bool (decide (a=b))/\h'=h):=by
 refine au (args:=[va,vb]) follows Tryz.func19 E.dX Pp λK hK=>?_;have hbd:=ha.bound;dsimp only[L.dX,lkF,lkG];refine ab λz hz=>?_;simp;subst hz;refine ab λz hz=>?_;by_cases hl:a.length=b.length
 ·have hl':(a.length:Int)=b.length:=by omega
  simp[ha.len,hb.len,hl'];subst hz;refine ab λz hz=>?_;simp;refine cT [0,1,4,5] (fun(_:Unit) i=>[va,vb,.bool PD,Pv Pw i]) (λ_ i h3=>h3=h/\∀j,j<i->nth a j=nth b j) a.length ()
   rfl P2 rfl ⟨rfl,λj hj=>by omega⟩ (λ_ _=>rfl) (λv k h3 hk m=>by simp[ha.len]) ?_ ?_
  ·rintro _ i h hlti ⟨rfl,hpre⟩ K2 hK2;have e1:=ha.idx1 rfl (k:=.i64) (i:=(i:Int)) P2 P2;have e2:=hb.idx1 rfl (k:=.i64) (i:=(i:Int)) P2 P2;have e3:=ha.int Ps (i:=i) hlti;have e4:=hb.int Ps (i:=i) P2;simp only[LN]at e1 e2;by_cases e:nth a i=nth b i
   ·simp[e1,e2,e3,e4,e];refine hK2 () _ _ rfl rfl ⟨rfl,λj hj=>?_⟩;rcases Lr j i with q | q
    ·exact hpre j q
    have:j=i:=by omega
    subst this;exact e
   simp[e1,e2,e3,e4,e];exact hK _ _ ⟨by rw[decide_eq_false];rintro rfl;exact e rfl,rfl⟩
  rintro _ h ⟨rfl,hpre⟩;have he:a=b:=M7 hl λj h1 h2=>by have:=hpre j h1;rwa [aA h1,aA h2]at this
  simp;subst hz;simp;exact hK _ _ ⟨by rw[decide_eq_true he],rfl⟩
 have hl':¬(a.length:Int)=b.length:=by omega
 simp[ha.len,hb.len,hl'];exact hK _ _ ⟨by rw[decide_eq_false];rintro rfl;exact hl rfl,rfl⟩
def vk (a b:bc):Bool:=decide (a.op=b.op)&&decide (a.d=b.d)&&decide (a.e=b.e)&&decide (a.a=b.a)&&decide (a.b=b.b)&&decide (a.c=b.c)&&decide (a.imm.v=b.imm.v)&&decide (a.args=b.args)
theorem DM{a b:bc}:vk a b=PC↔a=b:=by unfold vk;obtain⟨a1,a2,a3,a4,a5,a6,⟨a7⟩,a8⟩:=a;obtain⟨b1,b2,b3,b4,b5,b6,⟨b7⟩,b8⟩:=b;simp[and_assoc]
theorem rQ{ρ:Nat->Option Value}{H:View}{a b:E}{p q:Bool}(ha:ev ρ H a=Py (.bool p))(hb:p=PC->ev ρ H b=Py (.bool q)):ev ρ H (.ite a b (.con (.bool PD)))=Py (.bool (p&&q)):=by
 cases p with
 | true=>simp[ha,hb rfl]
 | false=>simp[ha]
theorem pY{ρ:Nat->Option Value}{H:View}{a b:E}{k:IntKind}{x y:Int}(ha:ev ρ H a=Py (.int k x))(hb:ev ρ H b=Py (.int k y)):ev ρ H (.bin (.cmp .eql) a b)=Py (.bool (decide (x=y))):=by simp[ha,hb]
theorem gx{ρ:Nat->Option Value}{H:View}{n off B:Nat}{v:Value}(h2:ρ n=Py (PB (Py ⟨B,0,Pz⟩)))(hc:ak H (Addr.add ⟨B,0,Pz⟩ off)=Py v):ev ρ H (.un .load (.un (.fld off) (.tmp n)))=Py v:=by simp[h2];simpa using hc
theorem Am{a b:bc}{va vb:Value}{h:Heap}{W:View}(hW:W.le (vw h))(ha:Rd W va a)(hb:Rd W vb b):
  az PE 40 #[va,vb] h (λu h'=>u = .bool (vk a b)/\(vw h).le (vw h')):=by
 refine au (args:=[va,vb]) follows Tryz.func40 E.ji Pp λK hK=>?_;dsimp only[L.ji,lkF,lkG];have c0:=Cx.start hW;refine ab λz hz=>?_;simp;refine c0.dm rfl ha λA h1 W1 hW1 c1 at1 hle1=>?_;refine c1.dm rfl (hb.mono hW1) λB h2 W2 hW2 c2 at2 hle2=>?_;have at1:=at1.mono hW2;subst hz;have a0:=ae c2.wle (at1.part bc.tF).int;have a1:=ae c2.wle (at1.part bc.KI).int;have a2:=ae c2.wle (at1.part bc.Lh).int;have a3:=ae c2.wle (at1.part bc.KE).int;have a4:=ae c2.wle (at1.part bc.KZ).int;have a5:=ae c2.wle (at1.part bc.KY).int;have b0:=ae c2.wle (at2.part bc.tF).int;have b1:=ae c2.wle (at2.part bc.KI).int;have b2:=ae c2.wle (at2.part bc.Lh).int;have b3:=ae c2.wle (at2.part bc.KE).int;have b4:=ae c2.wle (at2.part bc.KZ).int;have b5:=ae c2.wle (at2.part bc.KY).int;obtain⟨ua,ka,sa⟩:=(at1.part bc.dI).sl;obtain⟨ub,kb,sb⟩:=(at2.part bc.dI).sl;refine ab λz hz=>?_;generalize hc:(E.ite (E.ite (E.ite (E.ite (E.ite (E.ite _ _ _) _ _) _ _) _ _) _ _) _ _)=c;have a6:=ae c2.wle (at1.part bc.jk).i32;have b6:=ae c2.wle (at2.part bc.jk).i32;have hcv : ∀ρ:Nat->Option Value,ρ 2=Py (PB (Py ⟨A,0,Pz⟩))->ρ 3=Py (PB (Py ⟨B,0,Pz⟩))->ev ρ (vw h2) c=Py (.bool (decide (a.op=b.op)&&decide (a.d=b.d)&&decide (a.e=b.e)&&decide (a.a=b.a)&&decide (a.b=b.b)&&decide (a.c=b.c)&&decide (a.imm.v=b.imm.v))):=λρ r2 r3=>by rw[<-hc];exact rQ (rQ (rQ (rQ (rQ (rQ (pY (gx r2 a0) (gx r3 b0)) λ_=>(pY (gx r2 a1) (gx r3 b1))) λ_=>(pY (gx r2 a2) (gx r3 b2))) λ_=>(pY (gx r2 a3) (gx r3 b3))) λ_=>(pY (gx r2 a4) (gx r3 b4))) λ_=>(pY (gx r2 a5) (gx r3 b5))) λ_=>(pY (gx r2 a6) (gx r3 b6))
 have hka:=ae c2.wle ka;have hkb:=ae c2.wle kb;simp at hka hkb;have key:vk a b=((decide (a.op=b.op)&&decide (a.d=b.d)&&decide (a.e=b.e)&&decide (a.a=b.a)&&decide (a.b=b.b)&&decide (a.c=b.c)&&decide (a.imm.v=b.imm.v))&&decide (a.args=b.args)):=rfl;rw[key]at hK;clear key;generalize (decide (a.op=b.op)&&decide (a.d=b.d)&&decide (a.e=b.e)&&decide (a.a=b.a)&&decide (a.b=b.b)&&decide (a.c=b.c)&&decide (a.imm.v=b.imm.v))=q at hcv hK;clear hc a0 a1 a2 a3 a4 a5 a6 b0 b1 b2 b3 b4 b5 b6;cases q with
 | false=>simp[hcv];subst hz;simp;exact hK _ _ ⟨rfl,c2.le0⟩
 | true=>simp[hcv,hka,hkb];refine af P1 (CC (sa.mono c2.wle) (sb.mono c2.wle)) ?_;rintro _ h3 ⟨rfl,rfl⟩;subst hz;simp;exact hK _ _ ⟨by rw[NC],c2.le0⟩
theorem AF{a b:List bc}{va vb:Value}{h:Heap}{W:View}(hW:W.le (vw h))(ha:SlRd W va a)(hb:SlRd W vb b):
  az PE 17 #[va,vb] h (λu h'=>u = .bool (decide (a=b))/\(vw h).le (vw h')):=by
 refine au (args:=[va,vb]) follows Tryz.func17 E.cO Pp λK hK=>?_;have hbd:=ha.bound;have c0:=Cx.start hW;dsimp only[L.cO,lkF,lkG];refine ab λz hz=>?_;simp;subst hz;refine ab λz hz=>?_;by_cases hl:a.length=b.length
 ·have hl':(a.length:Int)=b.length:=by omega
  simp[ha.len,hb.len,hl'];subst hz;refine ab λz hz=>?_;simp;refine cT [0,1,4,5] (fun(_:Unit) i=>[va,vb,.bool PD,Pv Pw i]) (λ_ i h3=>(∃W3,W.le W3/\Cx W h W3 h3 λ_=>Pz)/\∀j,j<i->nth a j=nth b j) a.length ()
   rfl P2 rfl ⟨⟨W,View.le_refl _,c0⟩,λj hj=>by omega⟩ (λ_ _=>rfl) (λv k h3 hk m=>by simp[ha.len]) ?_ ?_
  ·rintro _ i h3 hlti ⟨⟨W3,hW3,c3⟩,hpre⟩ K2 hK2;obtain⟨ua,hua,rua⟩:=(ha.mono hW3).wh rfl (N:=8) rfl hlti;obtain⟨ub,hub,rub⟩:=(hb.mono hW3).wh rfl (N:=8) rfl (i:=i) P2;refine ab λy hy=>?_;refine aT W3 c3.wle ?_;simp(disch:=omega)[(ha.mono hW3).idxn (N:=8) rfl,(hb.mono hW3).idxn (N:=8) rfl,hua _ Ps,hub _ Ps];refine af P1 (Am c3.wle rua rub) ?_;rintro _ h4 ⟨rfl,hle4⟩;have c4:=c3.ext hle4;have e:vk (nth a i) (nth b i)=decide (nth a i=nth b i):=LV.2 (by rw[DM,decide_eq_true_iff]);by_cases e2:nth a i=nth b i
   ·have e':vk (nth a i) (nth b i)=true:=by rw[e,decide_eq_true e2]
    simp[e'];subst hy;simp;refine hK2 () _ _ rfl rfl ⟨⟨_,Pt hW3 c3.up,c4⟩,λj hj=>?_⟩;rcases Lr j i with q | q
    ·exact hpre j q
    have:j=i:=by omega
    subst this;exact e2
   have e':vk (nth a i) (nth b i)=false:=by rw[e,decide_eq_false e2]
   simp[e'];subst hy;simp;exact hK _ _ ⟨by rw[decide_eq_false];rintro rfl;exact e2 rfl,c4.le0⟩
  rintro _ h3 ⟨⟨W3,hW3,c3⟩,hpre⟩;have he:a=b:=M7 hl λj h1 h2=>by have:=hpre j h1;rwa [aA h1,aA h2]at this
  simp;subst hz;simp;exact hK _ _ ⟨by rw[decide_eq_true he],c3.le0⟩
 have hl':¬(a.length:Int)=b.length:=by omega
 simp[ha.len,hb.len,hl'];exact hK _ _ ⟨by rw[decide_eq_false];rintro rfl;exact hl rfl,View.le_refl _⟩
end Go.Proofs.YtnfiilgdjpdlkaaGreatDoor
namespace Go.Lft
open Go
theorem DS {pp:PP} {P:Program} {Q:Post} {ρ:Env} {h:Heap} {x:LC} {σ:Type} (kp:List Nat) (vals:σ->Nat->List Value) (J:σ->Nat->Heap->Prop) (n:Nat) (s0:σ)
  (h0:bK kp ρ=kp.zip (vals s0 0)) (hj:J s0 0 h)
  (round : ∀s k h,k<=n->J s k h->∀K:Env->Heap->Prop,(∀s' ρ' h',k<n->bK kp ρ'=kp.zip (vals s' (k+1))->J s' (k+1) h'->K ρ' h')->x.wp P (eG K Q) (kp.zip (vals s k)) h):LC.wp P (.loop x) Q ρ h:=by refine iD kp (λm ρ h=>∃s k,k<=n/\ρ=kp.zip (vals s k)/\m=n-k/\J s k h) n ⟨s0,0,by omega,h0,by omega,hj⟩ ?_;rintro m ρ h ⟨s,k,hk,rfl,rfl,hJ⟩ K hK;exact round s k h hk hJ K λs' ρ' h' hlt he hJ'=>hK (n-(k+1)) _ _ P2 ⟨s',k+1,by omega,he,rfl,hJ'⟩
end Go.Lft
namespace Go.Proofs.YtnfiilgdjpdlkaaGreatDoor
open Go Go.Lft
section
variable {f:aj} {i:InsD} {b p pat t t':Int}
end
end Go.Proofs.YtnfiilgdjpdlkaaGreatDoor
namespace Go.Proofs.YtnfiilgdjpdlkaaGreatDoor
open Go Go.Lft
theorem Cy{H:View}{op dst two:Int}{va:Value}{l:List Int}{imm:I32}(h1:I64 op)(h2:I64 dst)(h3:I64 two)(h4:SlRd H va l)(h5:-2147483648<=imm.v/\imm.v<=2147483647):Rd H (.agg #[Pv Pw op,Pv Pw dst,Pv Pw two,va,Pv Px imm.v]) (InsD.mk op dst two l imm):=
 ⟨_,rfl,[Pv Pw op],_,rfl,⟨rfl,h1⟩,[Pv Pw dst],_,rfl,⟨rfl,h2⟩,[Pv Pw two],_,rfl,⟨rfl,h3⟩,[va],_,rfl,⟨va,rfl,h4⟩,rfl,h5⟩
theorem Gz{H:View}{vp vi va vt:Value}{p:List PhiD}{i:List InsD}{a t:List Int}{kd:Int}{imm:I32}(h1:SlRd H vp p)(h2:SlRd H vi i)(h3:SlRd H va a)(h4:SlRd H vt t)(h5:I64 kd)(h6:-2147483648<=imm.v/\imm.v<=2147483647):Rd H (.agg #[vp,vi,Pv Pw kd,va,vt,Pv Px imm.v]) (BlkD.mk p i ⟨kd,a,t,imm⟩):=
 ⟨_,rfl,[vp],_,rfl,⟨vp,rfl,h1⟩,[vi],_,rfl,⟨vi,rfl,h2⟩,[Pv Pw kd],_,rfl,⟨rfl,h5⟩,[va],_,rfl,⟨va,rfl,h3⟩,[vt],_,rfl,⟨vt,rfl,h4⟩,rfl,h6⟩
theorem zo{H:View}{p:Int}{vb:Value}{l:List BlkD}(h1:I64 p)(h2:SlRd H vb l):Rd H (.agg #[Pv Pw p,vb]) (aj.mk p l):=
 ⟨_,rfl,[Pv Pw p],_,rfl,⟨rfl,h1⟩,vb,rfl,h2⟩
theorem SlRd.ex{α:Type}[Rep α]{H:View}{v:Value}{l:List α}(s:SlRd H v l): ∃a n c,v = .slice a n c:=let ⟨a,c,e,_⟩:=s;⟨a,_,c,e⟩
def twoF:aj:=⟨2,[⟨[],[⟨1,2,0,[],⟨5⟩⟩,⟨2,3,0,[1,2],⟨0⟩⟩],⟨4,[3],[],⟨0⟩⟩⟩]⟩
theorem Jf{h:Heap}{W:View}(hW:W.le (vw h)):az PE 33 #[] h (λu h'=>(vw h).le (vw h')/\Rd (grow W h h') u twoF):=by refine au (args:=[]) follows Tryz.func33 E.pq Pp λK hK=>?_;dsimp only[L.pq,lkF,lkG];have c0:=Cx.start hW;refine ab λz hz=>?_;simp;refine c0.cA (k:=(0,0)) (n:=1) (z:=.agg #[Pv Pw 0,PA Pz 0 0]) rfl P1 rfl P4 P8 λR h1 hle1 c1=>?_;subst hz;refine ab λz hz=>?_;simp;refine ay (t:=T.dU) (z:=.agg #[Pv Pw 0,Pv Pw 0,Pv Pw 0,PA Pz 0 0,Pv Px 0]) (places:=[(0,1),(1,1),(2,1),(3,1),(4,1)]) (vs:=[(0,Pv Pw 1),(1,Pv Pw 2),(4,Pv Px 5)]) (cs:=#[Pv Pw 1,Pv Pw 2,Pv Pw 0,PA Pz 0 0,Pv Px 5]) P1 P1 Sa P1 ?_;refine c1.kF (α:=Int) (vs:=[Pv Pw 1,Pv Pw 2]) (ds:=[1,2]) El.aR P1 ⟨bn.2 ⟨rfl,by decide⟩,bn.2 ⟨rfl,by decide⟩,trivial⟩ rfl P4 P4 λu2 h2 W2 hW2 c2 s2 hle2=>?_;obtain⟨b2,n2,k2,rfl⟩:=SlRd.ex s2;refine ay (t:=T.dU) (z:=.agg #[Pv Pw 0,Pv Pw 0,Pv Pw 0,PA Pz 0 0,Pv Px 0]) (places:=[(0,1),(1,1),(2,1),(3,1),(4,1)]) (vs:=[(0,Pv Pw 2),(1,Pv Pw 3),(3,(.slice b2 n2 k2))]) (cs:=#[Pv Pw 2,Pv Pw 3,Pv Pw 0,(.slice b2 n2 k2),Pv Px 0]) P1 P1 Sa (by simp[Instr.fill,Value.cells]) ?_;refine c2.kF (α:=InsD) (vs:=[.agg #[Pv Pw 1,Pv Pw 2,Pv Pw 0,PA Pz 0 0,Pv Px 5],.agg #[Pv Pw 2,Pv Pw 3,Pv Pw 0,(.slice b2 n2 k2),Pv Px 0]]) (ds:=[⟨1,2,0,[],⟨5⟩⟩,⟨2,3,0,[1,2],⟨0⟩⟩]) El.mY Sa ⟨Cy ⟨P4,P4⟩ ⟨P4,P4⟩ ⟨P4,P4⟩ aN P4,Cy ⟨P4,P4⟩ ⟨P4,P4⟩ ⟨P4,P4⟩ s2 P4,trivial⟩ rfl P4 P4 λu3 h3 W3 hW3 c3 s3 hle3=>?_;obtain⟨b3,n3,k3,rfl⟩:=SlRd.ex s3;refine c3.kF (α:=Int) (vs:=[Pv Pw 3]) (ds:=[3]) El.aR P1 ⟨bn.2 ⟨rfl,by decide⟩,trivial⟩ rfl P4 P4 λu4 h4 W4 hW4 c4 s4 hle4=>?_;obtain⟨b4,n4,k4,rfl⟩:=SlRd.ex s4;refine ay (t:=T.iG) (z:=.agg #[Pv Pw 0,PA Pz 0 0,PA Pz 0 0,Pv Px 0]) (places:=[(0,1),(1,1),(2,1),(3,1)]) (vs:=[(0,Pv Pw 4),(1,(.slice b4 n4 k4))]) (cs:=#[Pv Pw 4,(.slice b4 n4 k4),PA Pz 0 0,Pv Px 0]) P1 P1 Sa (by simp[Instr.fill,Value.cells]) ?_;refine ay (t:=T.ey) (z:=.agg #[PA Pz 0 0,PA Pz 0 0,Pv Pw 0,PA Pz 0 0,PA Pz 0 0,Pv Px 0]) (places:=[(0,1),(1,1),(2,4)]) (vs:=[(1,(.slice b3 n3 k3)),(2,.agg #[Pv Pw 4,(.slice b4 n4 k4),PA Pz 0 0,Pv Px 0])]) (cs:=#[PA Pz 0 0,(.slice b3 n3 k3),Pv Pw 4,(.slice b4 n4 k4),PA Pz 0 0,Pv Px 0]) P1 P1 Sa (by simp[Instr.fill,Value.cells]) ?_;refine c4.kF (α:=BlkD) (vs:=[.agg #[PA Pz 0 0,(.slice b3 n3 k3),Pv Pw 4,(.slice b4 n4 k4),PA Pz 0 0,Pv Px 0]]) (ds:=twoF.blocks) El.lT Sa ⟨Gz aN (s3.mono hW4) s4 aN ⟨P4,P4⟩ P4,trivial⟩ rfl P4 P4 λu5 h5 W5 hW5 c5 s5 hle5=>?_;obtain⟨b5,n5,k5,rfl⟩:=SlRd.ex s5;refine ay (t:=T.dR) (z:=.agg #[Pv Pw 0,PA Pz 0 0]) (places:=[(0,1),(1,1)]) (vs:=[(0,Pv Pw 2),(1,(.slice b5 n5 k5))]) (cs:=#[Pv Pw 2,(.slice b5 n5 k5)]) P1 P1 Sa (by simp[Instr.fill,Value.cells]) ?_;refine c5.bs (α:=aj) (k:=(0,0)) (n:=1) Ri (zo (p:=2) ⟨P4,P4⟩ s5) rfl rfl P1 Sa Sa λh6 l6 hl6 c6=>?_;subst hz;have hall:=c6.all (k:=(0,0)) (n:=1) (l:=l6) (B:=R) (e:=T.dR) Ri;simp at hall;simp[hall];refine hK _ _ ⟨c6.le0,?_⟩;rw[<-hl6];exact(zo (p:=2) ⟨P4,P4⟩ s5).mono c6.fin
theorem DJ:nI twoF=true:=by kernel_rfl
theorem yT:SmF twoF:=by
 refine⟨by decide,λi hi=>?_⟩;have hi:i<1:=hi;obtain rfl:i=0:=by omega
 refine⟨by decide,by decide,by decide,by decide,λj hj=>absurd hj (Nat.not_lt_zero _),λj hj=>?_⟩;have hj:j<2:=hj;rcases j with _ | _ | j
 ·decide
 ·decide
 omega
theorem yI: ∀i∈dG twoF,i.op=15\/i.op=16->kG:=by intro i hi ho;have:dG twoF=[⟨1,2,0,[],⟨5⟩⟩,⟨2,3,0,[1,2],⟨0⟩⟩]:=rfl;rw[this]at hi;simp at hi;rcases hi with rfl | rfl<;>simp at ho
theorem D9:Down twoF (whS twoF):=HF (mR DJ) yT (by intro i hi;have:dG twoF=[⟨1,2,0,[],⟨5⟩⟩,⟨2,3,0,[1,2],⟨0⟩⟩]:=rfl;rw[this]at hi;simp at hi;rcases hi with rfl | rfl<;>simp)
theorem I0:fI twoF 0 1 16=Py ⟨[1],[2],[⟨18,3,0,1,0,0,⟨5⟩,[]⟩],dH⟩:=by kernel_rfl
theorem Ke:fI twoF 0 1 3=Py ⟨[1,2],[],[⟨5,3,0,1,2,0,⟨0⟩,[]⟩],dH⟩:=by kernel_rfl
theorem I8:fI twoF 0 1 17=none:=by kernel_rfl
theorem GU:iF twoF 0 1 16 9=Py ⟨[1],[2],[⟨18,3,0,1,0,0,⟨5⟩,[]⟩],dH⟩:=by kernel_rfl
theorem Jb:iF twoF 0 2 0 9=Py ⟨[3],[],[],⟨7,3,0,[],⟨0⟩⟩⟩:=by kernel_rfl
theorem Gj:js [⟨1,0⟩,⟨38,0⟩]=(20,1):=by kernel_rfl
theorem I4:iK [⟨1,0⟩] twoF=(21,0,2):=by kernel_rfl
theorem Hk:iK [⟨16,0⟩] twoF=(0,0,0):=by kernel_rfl
theorem I9:rh 16=⟨#[97,100,100,105]⟩:=by kernel_rfl
theorem two'{h:Heap}:az PE 33 #[] h (λu h'=>(vw h).le (vw h')/\Rd (vw h') u twoF):=
 (Jf Ps).mono λu h' ⟨h1,h2⟩=>⟨h1,h2.mono (jt h1)⟩
theorem Bm{a:List Int}{va vb:Value}{h:Heap}(ha:SlRd (vw h) va a)(hb:SlRd (vw h) vb a):az PE 19 #[va,vb] h (λu h'=>u = .bool PC/\h'=h):=
 (CC ha hb).mono λu h' ⟨h1,h2⟩=>⟨by rw[h1,decide_eq_true rfl],h2⟩
theorem Jk{a:List bc}{va vb:Value}{h:Heap}(ha:SlRd (vw h) va a)(hb:SlRd (vw h) vb a):az PE 17 #[va,vb] h (λu h'=>u = .bool PC/\(vw h).le (vw h')):=
 (AF Ps ha hb).mono λu h' ⟨h1,h2⟩=>⟨by rw[h1,decide_eq_true rfl],h2⟩
theorem rS{v:Value}{pat:Int}{h:Heap}(hv:Rd (vw h) v twoF)(hp:I64 pat){r:Option FitD}(hr:fI twoF 0 1 pat=r):
  az PE 15 #[v,Pv Pw 0,Pv Pw 1,Pv Pw pat] h (λu h'=>(vw h).le (vw h')/\∃v1 v2,u = .tuple #[v1,v2,.bool r.isSome]/\SlRd (vw h') v1 (Cj r)/\SlRd (vw h') v2 (B8 r)):=by rw[<-hr];exact AE Ps hv yT yI hp
theorem z8{v:Value}{p pat:Int}{h:Heap}(hv:Rd (vw h) v twoF)(hp:I64 pat){r:Option FitD}(hr:iF twoF 0 p pat 9=r):
  az PE 16 #[v,Pv Pw 0,Pv Pw p,Pv Pw pat,Pv Pw 9] h (λu h'=>(vw h).le (vw h')/\∃v1 v2,u = .tuple #[v1,v2,.bool r.isSome]/\SlRd (vw h') v1 (A4 r)/\Rd (vw h') v2 (EI r)):=by rw[<-hr];exact GS Ps hv yT yI hp ⟨P4,P4⟩
theorem tY{l:List dS}{vl v:Value}{h:Heap}(hl:SlRd (vw h) vl l)(hv:Rd (vw h) v twoF)(ht:Tab h){r:Int × Int × Int}(hr:iK l twoF=r):
  az PE 26 #[vl,v] h (λu h'=>(vw h).le (vw h')/\u = .tuple #[Pv Pw r.1,Pv Pw r.2.1,Pv Pw r.2.2]):=by rw[<-hr];exact DE Ps hl hv yT ht yI λ_=>D9
theorem DY{h:Heap}(ht:Tab h):az PE 11 #[] h (λu h'=>(vw h).le (vw h')/\u = .bool PC):=by refine au (args:=[]) follows Tryz.func11 E.fB Pp λK hK=>?_;dsimp only[L.fB,lkF,lkG];refine ab λz hz=>?_;simp;subst hz;refine ab λz hz=>?_;simp;refine af P1 two' ?_;rintro u26 h1 ⟨le1,r1⟩;refine af P1 (rS r1 ⟨P4,P4⟩ I0) ?_;rintro _ h2 ⟨le2,va,vb,rfl,sa,sb⟩;simp;subst hz;refine ab λz hz=>?_;simp;refine af P1 two' ?_;rintro u32 h3 ⟨le3,r3⟩;refine af P1 (rS r3 ⟨P4,P4⟩ Ke) ?_;rintro _ h4 ⟨le4,vc,vd,rfl,sc,sd⟩;simp;subst hz;refine ab λz hz=>?_;simp;refine af P1 two' ?_;rintro u38 h5 ⟨le5,r5⟩;refine af P1 (rS r5 ⟨P4,P4⟩ I8) ?_;rintro _ h6 ⟨le6,ve,vf,rfl,se,sf⟩;simp;subst hz;refine ab λz hz=>?_;simp;refine af P1 two' ?_;rintro u44 h7 ⟨le7,r7⟩;refine af P1 (z8 r7 ⟨P4,P4⟩ GU) ?_;rintro _ h8 ⟨le8,vg,vh,rfl,sg,sh⟩;simp;refine dz (X:=vw h8) (z:=.agg endZ.toArray) P1 rfl P1 sh P5 P5 λh9 le9 _ _=>?_;subst hz;refine ab λz hz=>?_;simp;refine af P1 two' ?_;rintro u50 h10 ⟨le10,r10⟩;refine af P1 (z8 r10 ⟨P4,P4⟩ Jb) ?_;rintro _ h11 ⟨le11,vi,vj,rfl,si,sj⟩;simp;refine dz (X:=vw h11) (z:=.agg endZ.toArray) P1 rfl P1 sj P5 P5 λh12 le12 _ at12=>?_;have at12:At (vw h12) ⟨h11.size,0,Pz⟩ (⟨7,3,0,[],⟨0⟩⟩:EndD):=at12 (vw h12) le12 rfl;have e0:=(at12.part EndD.tF).int;have e1:=(at12.part EndD.KE).int;generalize h11.size=B at e0 e1;simp at e0 e1;subst hz;have la:(vw h).le (vw h12):=Pt le1 (Pt le2 (Pt le3 (Pt le4 (Pt le5 (Pt le6 (Pt le7 (Pt le8 (Pt le9 (Pt le10 (Pt le11 le12))))))))));refine ab λz hz=>?_;simp;refine ay (t:=T.lL) (z:=.agg #[Pv Pw 0,Pv Pw 0]) (places:=[(0,1),(1,1)]) (vs:=[(0,Pv Pw 1)]) (cs:=#[Pv Pw 1,Pv Pw 0]) P1 P1 Sa P1 ?_;refine ay (t:=T.lL) (z:=.agg #[Pv Pw 0,Pv Pw 0]) (places:=[(0,1),(1,1)]) (vs:=[(0,Pv Pw 38)]) (cs:=#[Pv Pw 38,Pv Pw 0]) P1 P1 Sa P1 ?_;refine jX (α:=dS) (ds:=[⟨1,0⟩,⟨38,0⟩]) (vs:=[.agg #[Pv Pw 1,Pv Pw 0],.agg #[Pv Pw 38,Pv Pw 0]]) (X:=nothing) El.jG Sa ⟨rG ⟨P4,P4⟩ ⟨P4,P4⟩,rG ⟨P4,P4⟩ ⟨P4,P4⟩,trivial⟩ rfl P4 P4 λu58 h13 le13 _ s13 _=>?_;have s13:=s13 (vw h13) bE rfl;have t13:Tab h13:=ht.mono (Pt la le13);refine af P1 (xu Ps s13 t13) ?_;rw[Gj];rintro _ h14 ⟨le14,rfl⟩;simp;subst hz;refine ab λz hz=>?_;simp;refine ay (t:=T.lL) (z:=.agg #[Pv Pw 0,Pv Pw 0]) (places:=[(0,1),(1,1)]) (vs:=[(0,Pv Pw 1)]) (cs:=#[Pv Pw 1,Pv Pw 0]) P1 P1 Sa P1 ?_;refine jX (α:=dS) (ds:=[⟨1,0⟩]) (vs:=[.agg #[Pv Pw 1,Pv Pw 0]]) (X:=nothing) El.jG Sa ⟨rG ⟨P4,P4⟩ ⟨P4,P4⟩,trivial⟩ rfl P4 P4 λu64 h15 le15 _ s15 _=>?_;have s15:=s15 (vw h15) bE rfl;refine af P1 two' ?_;rintro u65 h16 ⟨le16,r16⟩;refine af P1 (tY (s15.mono le16) r16 (t13.mono (Pt le14 (Pt le15 le16))) I4) ?_;rintro _ h17 ⟨le17,rfl⟩;simp;subst hz;refine ab λz hz=>?_;simp;refine ay (t:=T.lL) (z:=.agg #[Pv Pw 0,Pv Pw 0]) (places:=[(0,1),(1,1)]) (vs:=[(0,Pv Pw 16)]) (cs:=#[Pv Pw 16,Pv Pw 0]) P1 P1 Sa P1 ?_;refine jX (α:=dS) (ds:=[⟨16,0⟩]) (vs:=[.agg #[Pv Pw 16,Pv Pw 0]]) (X:=nothing) El.jG Sa ⟨rG ⟨P4,P4⟩ ⟨P4,P4⟩,trivial⟩ rfl P4 P4 λu72 h18 le18 _ s18 _=>?_;have s18:=s18 (vw h18) bE rfl;refine af P1 two' ?_;rintro u73 h19 ⟨le19,r19⟩;have l1219:(vw h12).le (vw h19):=Pt le13 (Pt le14 (Pt le15 (Pt le16 (Pt le17 (Pt le18 le19)))));refine af P1 (tY (s18.mono le19) r19 (ht.mono (Pt la l1219)) Hk) ?_;rintro _ h20 ⟨le20,rfl⟩;have l1220:=Pt l1219 le20;simp;subst hz;refine ab λz hz=>?_;have l212:(vw h2).le (vw h12):=Pt le3 (Pt le4 (Pt le5 (Pt le6 (Pt le7 (Pt le8 (Pt le9 (Pt le10 (Pt le11 le12))))))));have l412:(vw h4).le (vw h12):=Pt le5 (Pt le6 (Pt le7 (Pt le8 (Pt le9 (Pt le10 (Pt le11 le12))))));have l812:(vw h8).le (vw h12):=Pt le9 (Pt le10 (Pt le11 le12));have sa:=(sa.mono l212).mono l1220;have sb:=(sb.mono l212).mono l1220;have sc:=(sc.mono l412).mono l1220;have sd:=(sd.mono l412).mono l1220;have sg:=(sg.mono l812).mono l1220;have e0:=ae l1220 e0;have e1:=ae l1220 e1;have la:=Pt la l1220;clear le1 le2 le3 le4 le5 le6 le7 le8 le9 le10 le11 le12 le13 le14 le15 le16 le17 le18 le19 le20 l212 l412 l812 l1219 l1220;refine xf λy hy=>?_;simp;refine jX (α:=Int) (ds:=[1]) (vs:=[Pv Pw 1]) (X:=nothing) El.aR P1 ⟨bn.2 ⟨rfl,by decide⟩,trivial⟩ rfl P4 P4 λu79 h21 le21 _ s21 _=>?_;have s21:=s21 (vw h21) bE rfl;subst hy;refine bD λy hy=>?_;simp;refine af P1 (Bm (sa.mono le21) s21) ?_;rintro _ h21 ⟨rfl,rfl⟩;subst hy;refine bD λy hy=>?_;simp;refine jX (α:=Int) (ds:=[2]) (vs:=[Pv Pw 2]) (X:=nothing) El.aR P1 ⟨bn.2 ⟨rfl,by decide⟩,trivial⟩ rfl P4 P4 λu83 h22 le22 _ s22 _=>?_;have s22:=s22 (vw h22) bE rfl;subst hy;refine bD λy hy=>?_;simp;refine af P1 (Bm (sb.mono (Pt le21 le22)) s22) ?_;rintro _ h22 ⟨rfl,rfl⟩;subst hy;refine bD λy hy=>?_;simp;refine jX (α:=Int) (ds:=[1,2]) (vs:=[Pv Pw 1,Pv Pw 2]) (X:=nothing) El.aR P1 ⟨bn.2 ⟨rfl,by decide⟩,bn.2 ⟨rfl,by decide⟩,trivial⟩ rfl P4 P4 λu91 h23 le23 _ s23 _=>?_;have s23:=s23 (vw h23) bE rfl;subst hy;refine bD λy hy=>?_;simp;refine af P1 (Bm (sc.mono (Pt le21 (Pt le22 le23))) s23) ?_;rintro _ h23 ⟨rfl,rfl⟩;have l23:=Pt le21 (Pt le22 le23);subst hy;have sd':SlRd (vw h23) vd ([]:List Int):=sd.mono l23;have hd:=sd'.len (K:=vw h23);simp at hd;simp[hd];subst hz;refine ab λz hz=>?_;have sg':SlRd (vw h23) vg [(⟨18,3,0,1,0,0,⟨5⟩,[]⟩:bc)]:=sg.mono l23;have e0:=ae l23 e0;have e1:=ae l23 e1;have la:=Pt la l23;clear sa sb sc sd sd' sg hd l23 le21 le22 le23 s21 s22 s23;refine xf λy hy=>?_;simp;refine ay (t:=T.dQ) (z:=.agg #[Pv Pw 0,Pv Pw 0,Pv Pw 0,Pv Pw 0,Pv Pw 0,Pv Pw 0,Pv Px 0,PA Pz 0 0]) (places:=[(0,1),(1,1),(2,1),(3,1),(4,1),(5,1),(6,1),(7,1)]) (vs:=[(0,Pv Pw 18),(1,Pv Pw 3),(3,Pv Pw 1),(6,Pv Px 5)]) (cs:=#[Pv Pw 18,Pv Pw 3,Pv Pw 0,Pv Pw 1,Pv Pw 0,Pv Pw 0,Pv Px 5,PA Pz 0 0]) P1 P1 Sa P1 ?_;subst hy;refine bD λy hy=>?_;simp;refine jX (α:=bc) (ds:=[⟨18,3,0,1,0,0,⟨5⟩,[]⟩]) (vs:=[.agg #[Pv Pw 18,Pv Pw 3,Pv Pw 0,Pv Pw 1,Pv Pw 0,Pv Pw 0,Pv Px 5,PA Pz 0 0]]) (X:=nothing) El.iP Sa ⟨gV P4 P4 aN,trivial⟩ rfl P4 P4 λu113 h24 le24 _ s24 _=>?_;have s24:=s24 (vw h24) bE rfl;subst hy;refine bD λy hy=>?_;simp;refine af P1 (Jk (sg'.mono le24) s24) ?_;rintro _ h25 ⟨rfl,le25⟩;have l25:=Pt le24 le25;have e0:=ae l25 e0;have e1:=ae l25 e1;subst hy;refine bD λy hy=>?_;simp[e0,e1];refine af P1 (pJ (ht.mono (Pt la l25))) ?_;rintro _ h26 ⟨le26,rfl⟩;subst hy;refine bD λy hy=>?_;simp;refine af P1 IY ?_;rintro ua h27 ⟨le27,sall⟩;have hl:=sall.len (K:=vw h27);have e37:allT.length=37:=rfl;rw[e37]at hl;have l27:=Pt l25 (Pt le26 le27);subst hy;refine bD λy hy=>?_;simp[hl];refine af P1 (Ck (pat:=16) (ht.mono (Pt la l27)) ⟨P4,P4⟩) ?_;rw[I9];rintro _ h28 ⟨le28,rfl⟩;subst hy;simp[show(Bn.eqS PD).ev (.string ⟨#[97,100,100,105]⟩) (.string ⟨#[97,100,100,105]⟩)=Py (.bool PC) from by kernel_rfl];subst hz;simp;exact hK _ _ ⟨Pt la (Pt l27 le28),rfl⟩
end Go.Proofs.YtnfiilgdjpdlkaaGreatDoor
