/- A part of the proof: ShelfF, Oo, Ub, Uc, Ox, Oy, Oz, Qa, Qb, Qc, LftDg, Qd, Qe, Qf, Op, Oq, Or, Os, Qi, Qg, Ot. -/
import Derived.Test.YtnfiilgdjpdlkaaGreatDoorZTMea6
import Derived.Shelf.Strings.Fields
import Derived.Test.YtnfiilgdjpdlkaaGreatDoorRows
import Derived.Lib.LaidTab
import Derived.LaidMore
set_option linter.unusedSimpArgs false
set_option linter.unusedVariables false
open Go.Value renaming int->Sf,slice->Sn,pointer->Sp
open Go.IntKind renaming i64->Sg,i32->Si
open Option renaming some->Sj,none->Sk
open Bool renaming true->Sq,false->Sr
open Go.Proofs.Tryz renaming prog->Ss
namespace Go.Proofs
open Go.Shelf
def Tryz.lg:Go.Shelf.Ren:=⟨fun | 157=>41 | 229=>65 | 199=>66 | 261=>114 | 311=>136 | 312=>137 | n=>n,fun | 9=>9 | 31=>105 | 3=>3 | 5=>5 | 4=>4 | 119=>140 | 0=>0 | 40=>142 | 152=>176 | 21=>21 | 154=>178 | 51=>151 | 141=>180 | 196=>204 | 193=>201 | 198=>207 | 49=>205 | 194=>202 | 201=>210 | 226=>220 | 46=>76 | 227=>221 | n=>n,fun | 0=>0 | 6=>1 | n=>n⟩
theorem Tryz.IV:Go.Proofs.Lays.n157 Ss Tryz.lg:={
 mixed:=by kernel_rfl
 f157:=Tryz.func41.trans (congrArg Sj R9)
 f199:=Tryz.func66.trans (congrArg Sj R9)
 f229:=Tryz.func65.trans (congrArg Sj R9)
 f261:=Tryz.func114.trans (congrArg Sj R9)
 f311:=Tryz.func136.trans (congrArg Sj R9)
 f312:=Tryz.func137.trans (congrArg Sj R9)
 t0:=Tryz.underlying0
 a0:=Tryz.isAgg0
 z0:=Tryz.sizeOf0
 v0:=Tryz.zeroValue0
 t3:=Tryz.underlying3
 a3:=Tryz.isAgg3
 z3:=Tryz.sizeOf3
 v3:=Tryz.zeroValue3
 t4:=Tryz.underlying4
 a4:=Tryz.isAgg4
 z4:=Tryz.sizeOf4
 v4:=Tryz.zeroValue4
 t5:=Tryz.underlying5
 a5:=Tryz.isAgg5
 z5:=Tryz.sizeOf5
 v5:=Tryz.zeroValue5
 t9:=Tryz.underlying9
 a9:=Tryz.isAgg9
 z9:=Tryz.sizeOf9
 v9:=Tryz.zeroValue9
 t21:=Tryz.underlying21
 a21:=Tryz.isAgg21
 z21:=Tryz.sizeOf21
 v21:=Tryz.zeroValue21
 t31:=Tryz.underlying105
 a31:=Tryz.isAgg105
 z31:=Tryz.sizeOf105
 v31:=Tryz.zeroValue105
 t40:=Tryz.underlying142
 a40:=Tryz.isAgg142
 z40:=Tryz.sizeOf142
 v40:=Tryz.zeroValue142
 t46:=Tryz.underlying76
 a46:=Tryz.isAgg76
 z46:=Tryz.sizeOf76
 v46:=Tryz.zeroValue76
 t49:=Tryz.underlying205
 a49:=Tryz.isAgg205
 z49:=Tryz.sizeOf205
 v49:=Tryz.zeroValue205
 t51:=Tryz.underlying151
 a51:=Tryz.isAgg151
 z51:=Tryz.sizeOf151
 v51:=Tryz.zeroValue151
 t119:=Tryz.underlying140
 a119:=Tryz.isAgg140
 z119:=Tryz.sizeOf140
 t141:=Tryz.underlying180
 a141:=Tryz.isAgg180
 z141:=Tryz.sizeOf180
 v141:=Tryz.zeroValue180
 t152:=Tryz.underlying176
 a152:=Tryz.isAgg176
 z152:=Tryz.sizeOf176
 v152:=Tryz.zeroValue176
 t154:=Tryz.underlying178
 a154:=Tryz.isAgg178
 z154:=Tryz.sizeOf178
 v154:=Tryz.zeroValue178
 t193:=Tryz.underlying201
 a193:=Tryz.isAgg201
 z193:=Tryz.sizeOf201
 v193:=Tryz.zeroValue201
 t194:=Tryz.underlying202
 a194:=Tryz.isAgg202
 z194:=Tryz.sizeOf202
 v194:=Tryz.zeroValue202
 t196:=Tryz.underlying204
 a196:=Tryz.isAgg204
 z196:=Tryz.sizeOf204
 v196:=Tryz.zeroValue204
 t198:=Tryz.underlying207
 a198:=Tryz.isAgg207
 z198:=Tryz.sizeOf207
 v198:=Tryz.zeroValue207
 t201:=Tryz.underlying210
 a201:=Tryz.isAgg210
 z201:=Tryz.sizeOf210
 v201:=Tryz.zeroValue210
 t226:=Tryz.underlying220
 a226:=Tryz.isAgg220
 z226:=Tryz.sizeOf220
 v226:=Tryz.zeroValue220
 t227:=Tryz.underlying221
 a227:=Tryz.isAgg221
 z227:=Tryz.sizeOf221
 v227:=Tryz.zeroValue221
 g0:=by kernel_rfl
 g6:=by kernel_rfl }
end Go.Proofs
namespace Go.Lft
open Go
structure StrD where
 v:ByteArray
instance:Rep StrD where
 n:=1
 agg:=false
 rd:=λ_ cs d=>cs=[.string d.v]
 mono:=λ_ h=>h
 len:=λh=>by rw[h];rfl
 one:=λ_=>rfl
 flat:=λh u hu=>by rw[h]at hu;simp at hu;subst hu;rfl
 pos:=Rt
 fk:=λh=>h
theorem At.str {H:View} {a:Addr} {d:StrD} (h:At H a d):ak H a=Sj (.string d.v):=by
 obtain⟨u,h1,h2⟩:=h.load rfl;have:u = .string d.v:=by unfold Rd at h2;simpa[Rep.agg,Rep.rd]using h2
 rw[this]at h1;exact h1
end Go.Lft
namespace Go.Proofs.YtnfiilgdjpdlkaaGreatDoor
open Go Go.Lft
def Tab (h:Heap):Prop:=∀c:Nat,c<256->ak (vw h) ⟨Tryz.lg.g 0,c,Sk⟩=Sj (.int .u8 (if Lib.isSp (UInt8.ofNat c) then 1 else 0))
theorem Tab.mono {h h':Heap} (t:Tab h) (hle:(vw h).le (vw h')):Tab h':=λc hc=>ae hle (t c hc)
theorem Nq {w:World} {b o:Nat} {v:Value} (h:ak (vw w.heap) ⟨b,o,Sk⟩=Sj v):w.cell? ⟨b,o,Sk⟩=Sj v:=by
 unfold ak at h;unfold World.cell?;simp only[vw]at h;cases hb:w.heap[b]? with
 | none=>rw[hb]at h;simp at h
 | some x=>rw[hb]at h;cases x<;>simp_all
def fieldsD (s:ByteArray):List StrD:=(Lib.fields s.data.toList).map λl=>⟨⟨l.toArray⟩⟩
theorem y5 {s:ByteArray} {h:Heap} (ht:Tab h) (hs:s.size<4294967281) (ha : ∀(j:Nat) b,s.data.toList[j]? = Sj b->b.toNat<128) (hn:(fieldsD s).length<=1000000) :
  aw Ss 41 #[.string s] h (λu h'=>(vw h).le (vw h')/\SlRd (vw h') u (fieldsD s)):=by
 intro w hw;subst hw;refine Calls.mono (Any.strings_Fields_core (P:=Ss) (ρ:=Tryz.lg) Tryz.IV R9 s w hs ha λc hc=>Nq (ht c hc)) ?_;rintro e w' ⟨rfl,rfl⟩;refine⟨_,rfl,⟨bP _ _,?_⟩,iB _ _⟩;have hl:(fieldsD s).length=(Lib.fields s.data.toList).length:=by simp[fieldsD]
 refine⟨Sj ⟨w.heap.size,0,Sk⟩,(Lib.fields s.data.toList).length,by rw[hl],by omega,by omega,.inr ⟨_,rfl,rfl,λi hi=>?_⟩⟩;have hi':i<(Lib.fields s.data.toList).length:=by omega
 rw[bM rfl];refine⟨[.string ⟨(Lib.fields s.data.toList)[i].toArray⟩],⟨_,_,_,rfl,World.alloc_heap_new w _,?_⟩,?_⟩
 ·have hn1:Rep.n StrD=1:=rfl;rw[hn1,Px,PN];show List.take 1 (List.drop i ((Lib.fields s.data.toList).map λl=>Value.string ⟨l.toArray⟩))=_;rw[O6 (by simpa using hi')];simp
 show[Value.string _]=[Value.string _];simp[fieldsD]
def ny:ByteArray:=⟨#[108,105,32,108,105,119,32,97,100,100,32,115,117,98,32,109,117,108,32,97,110,100,32,111,114,32,120,111,114,32,115,104,108,32,115,104,114,32,115,97,114,32,101,113,32,108,116,32,108,116,117,32,100,105,118,32,97,100,100,105,32,115,117,98,105,32,97,110,100,105,32,115,104,108,105,32,115,104,114,105,32,115,97,114,105,32,109,97,100,100,32,108,100,32,108,100,97,32,108,100,120,32,108,100,108,32,115,116,32,115,116,97,32,115,116,120,32,115,116,108,32,99,97,108,108,32,109,117,108,119,32,98,110,122,32,98,101,113,32,98,108,116,32,98,108,116,117,32,106,116]⟩
def sy (pat:Int):ByteArray:=if 1<=pat/\pat<=37 then((fieldsD ny).getD (pat-1).toNat ⟨⟨#[]⟩⟩).v else⟨#[]⟩
theorem kH:(fieldsD ny).length=37:=by kernel_rfl
theorem vK : ∀(j:Nat) b,ny.data.toList[j]? = Sj b->b.toNat<128:=by
 have h:ny.data.toList.all (λb=>decide (b.toNat<128))=true:=by kernel_rfl
 exact λj b hb=>by simpa using Po.1 h b (Ps hb)
theorem Dk:(fieldsD ny).all (λs=>!(s.v.toList == (⟨#[]⟩:ByteArray).toList))=true:=by kernel_rfl
instance:Inhabited StrD:=⟨⟨⟨#[]⟩⟩⟩
theorem H6 {pat:Int}:((sy pat).toList == (⟨#[]⟩:ByteArray).toList)=!inR pat 1 37:=by
 unfold sy;by_cases h:1<=pat/\pat<=37
 ·rw[if_pos h];have hlt:(pat-1).toNat<(fieldsD ny).length:=by rw[kH];omega
  have:=Po.1 Dk _ (PD hlt);rw[QR,Pk hlt,RX];have e:inR pat 1 37=true:=by simp[inR,h.1,h.2]
  rw[e];simpa using this
 rw[if_neg h];have e:inR pat 1 37=false:=by unfold inR;simpa using h
 rw[e];exact beq_self_eq_true _
theorem wM {pat:Int}:(sy pat).toList.isEmpty=!inR pat 1 37:=by have h:=H6 (pat:=pat);rw[show(⟨#[]⟩:ByteArray).toList=[] by kernel_rfl]at h;rw[<-h];cases (sy pat).toList<;>rfl
theorem DK {pat:Int} {h:Heap} (ht:Tab h) (hp:I64 pat):aw Ss 20 #[Sf Sg pat] h (λu h'=>(vw h).le (vw h')/\u = .string (sy pat)):=by
 refine aj (args:=[Sf Sg pat]) follows Tryz.func20 E.qt S8 λK hK=>?_;dsimp only[L.qt,lkF,lkG];refine ab λz hz=>?_;simp;subst hz;refine ab λz hz=>?_;simp;refine af R9 (y5 (s:=ny) ht (of_decide_eq_true R9) vK (by rw[kH];decide)) ?_;rintro u h1 ⟨hle,hu⟩;have hl:=hu.len (K:=vw h1);rw[kH]at hl;subst hz;refine ab λz hz=>?_;by_cases c1:pat<1
 ·simp[c1];exact hK _ _ ⟨hle,by unfold sy;rw[if_neg S0]⟩
 by_cases c2:37<pat
 ·simp[c1,hl,c2];exact hK _ _ ⟨hle,by unfold sy;rw[if_neg S0]⟩
 have hlt:(pat-1).toNat<(fieldsD ny).length:=by rw[kH];omega
 have hx:=hu.idx1 (k:=.i64) (i:=pat-1) rfl S0 (by rw[kH];omega);have hc:=(hu.at hlt).str;rw[show(pat-1).toNat*Rep.n StrD=(pat-1).toNat from Px _]at hc;have et:(pat-1).toNat=pat.toNat-1:=by omega
 have hc:ak (vw h1) ((slA u).add (pat.toNat-1))=Sj (.string ((fieldsD ny)[(pat-1).toNat]).v):=by rw[<-et];exact hc
 have ew:IntKind.i64.wrap (pat-1)=pat-1:=bC (by have:=hp.1;omega) (by have:=hp.2;omega);simp[c1,hl,c2];subst hz;simp[ew,hx,hc];refine hK _ _ ⟨hle,?_⟩;unfold sy;rw[if_pos S0,QR,Pk hlt,RX];simp only[et]
theorem rA {h:Heap} (ht:Tab h):aw Ss 24 #[] h (λu h'=>(vw h).le (vw h')/\u = Sf Sg 37):=by refine aj (args:=[]) follows Tryz.func24 E.kS S8 λK hK=>?_;dsimp only[L.kS,lkF,lkG];refine ab λz hz=>?_;simp;subst hz;refine ab λz hz=>?_;simp;refine af R9 (y5 (s:=ny) ht (of_decide_eq_true R9) vK (by rw[kH];decide)) ?_;rintro u h1 ⟨hle,hu⟩;have hl:=hu.len (K:=vw h1);rw[kH]at hl;simp[hl];subst hz;simp;exact hK _ _ ⟨hle,rfl⟩
def dY (t:eB):Int:=if inR t.pat 1 37=Sr then 20 else if inR t.cost 0 1000=Sr then 22 else 0
def lO:Nat->List eB->Int × Int
 | _,[]=>(0,0)
 | n,t::l=>if dY t=0 then lO (n+1) l else(dY t,n)
def jQ (l:List eB):Int × Int:=if 1024<l.length then(2,0) else lO 0 l
theorem uL : ∀{l:List eB} {n:Nat},(∀t∈l,dY t=0)->lO n l=(0,0)
 | [],_,_=>rfl
 | t::l,n,h=>by unfold lO;rw[if_pos (h t (OM ..))];exact uL λt ht=>h t (OL _ ht)
theorem wJ : ∀{l:List eB} {n k:Nat},(hk:k<l.length)->(∀t∈l.take k,dY t=0)->dY (nth l k)≠0->lO n l=(dY (nth l k),((n+k:Nat):Int))
 | t::l,n,0,_,_,h=>by unfold lO;have h:dY t≠0:=h;rw[if_neg h];rfl
 | t::l,n,k+1,hk,h1,h2=>by unfold lO;rw[if_pos (h1 t Sa)];have h2':dY (nth l k)≠0:=h2;have:=wJ (n:=n+1) (k:=k) (by simpa using hk) (λt ht=>h1 t (by simp[ht])) h2';rw[this];have e:nth (t::l) (k+1)=nth l k:=rfl;rw[e,show n+1+k=n+(k+1) by omega]
theorem zg {l:List eB} {v:Value} {h:Heap} {W:View} (hW:W.le (vw h)) (hv:SlRd W v l) (ht:Tab h):aw Ss 23 #[v] h (λu h'=>(vw h).le (vw h')/\u = .tuple #[Sf Sg (jQ l).1,Sf Sg (jQ l).2]):=by
 refine aj (args:=[v]) follows Tryz.func23 E.eG S8 λK hK=>?_;dsimp only[L.eG,lkF,lkG];have c0:=Cx.start hW;have hl:=hv.len (K:=vw h);have bd:=hv.bound;refine ab λz hz=>?_;simp;subst hz;refine ab λz hz=>?_;by_cases c:(1024:Int)<l.length
 ·simp[hl,c];exact hK _ _ ⟨View.le_refl _,by unfold jQ;rw[if_pos S0]⟩
 simp[hl,c];subst hz;refine ab λz hz=>?_;simp[hl];refine aR [0,9,10,11] (fun(_:Unit) k=>[v,v,Sf Sg l.length,Sf Sg k])
  (λ_ k h1=>(∀t∈l.take k,dY t=0)/\∃W1,W.le W1/\Cx W h W1 h1 λ_=>Sk) l.length ()
  rfl S0 rfl ⟨by simp,W,View.le_refl _,c0⟩ (λ_ _=>rfl) (λv i h1 hk m=>by simp) ?_ ?_
 ·rintro _ k h1 hk ⟨hb,W1,hW1,c1⟩ K2 hK2;obtain⟨ut,hut,rut⟩:=(hv.mono hW1).wh rfl (N:=2) rfl hk;refine ab λy hy=>?_;simp(disch:=omega)[((hv.mono hW1).mono c1.wle).idxn (N:=2) rfl,hut _ c1.wle];refine c1.dK (α:=eB) rut (n:=2) (z:=zz1) R9 rfl rfl R9 S3 S3 λB h2 W2 hW2 c2 at2 hle2=>?_;have q0:=(at2.part eB.KB);have q1:=(at2.part eB.LJ);have r0:=q0.rng;have q0:ak W2 ⟨B,0,Sk⟩=Sj (Sf Sg (nth l k).pat):=by simpa using q0.int
  have q1:ak W2 ⟨B,1,Sk⟩=Sj (Sf Sg (nth l k).cost):=by simpa using q1.int
  have ht2:=ht.mono c2.le0;have hbk:dY (nth l k)≠0->jQ l=(dY (nth l k),(k:Int)):=λhne=>by unfold jQ;rw[if_neg S0,wJ hk hb hne,PN]
  have htk:dY (nth l k)=0->∀t∈l.take (k+1),dY t=0:=λhe t hm=>by
   rw[OS hk,OE,OC,<-ay hk]at hm;rcases hm with hm | rfl
   ·exact hb t hm
   exact he
  generalize nth l k=tl at *;subst hy;simp only[aP];refine ab λy hy=>?_;simp[ae c2.wle q0];refine af R9 (DK ht2 S4) ?_;rintro _ h3 ⟨hle3,rfl⟩;have c3:=c2.ext hle3;have hW3:=c2.up (h':=h3);subst hy;cases e1:inR tl.pat 1 37 with
  | false=>
   have e2:dY tl=20:=by unfold dY;rw[if_pos e1]
   have e3:=hbk (by rw[e2];decide);simp[Hf,wM,e1];exact hK _ _ ⟨c3.le0,by rw[e3,e2]⟩
  | true=>
   simp[Hf,wM,e1];simp[ae (Sc hW3 c3.wle) q1];refine af R9 jo ?_;rintro _ h3 ⟨rfl,rfl⟩;cases e4:inR tl.cost 0 1000 with
   | false=>
    have e2:dY tl=22:=by unfold dY;rw[if_neg (by simp[e1]),if_pos e4]
    have e3:=hbk (by rw[e2];decide);simp;exact hK _ _ ⟨c3.le0,by rw[e3,e2]⟩
   | true=>
    have e2:dY tl=0:=by unfold dY;rw[if_neg (by simp[e1]),if_neg (by simp[e4])]
    simp;exact hK2 () _ _ rfl rfl ⟨htk e2,_,Sc hW1 (Sc hW2 hW3),c3⟩
 rintro _ h1 ⟨hb,W1,hW1,c1⟩;rw[Pu]at hb;simp;subst hz;simp;refine hK _ _ ⟨c1.le0,?_⟩;unfold jQ;rw[if_neg S0,uL hb]
end Go.Proofs.YtnfiilgdjpdlkaaGreatDoor
namespace Go.Proofs.YtnfiilgdjpdlkaaGreatDoor
open Go Go.Lft Go.ChangeShapes Go.WideShapes Go.ChangeAt Go.RowKit
abbrev Be : List (String × DataW Unit) := [("unicode.White_Space", Rows.laid_unicode_White_Space), ("strings.asciiSpace", Rows.laid_strings_asciiSpace)]
theorem gSp: Tryz.prog.globalNamed "strings.asciiSpace" = Sj (Tryz.lg.g 0) := by kernel_rfl
theorem LP:(Rows.laid_strings_asciiSpace:DataW Unit)=Lib.tabData .u8 Lib.asciiSpaceTab:=by kernel_rfl
abbrev spT:TypeId:=140
abbrev spE:TypeId:=5
theorem AT{W:World}(h:laidMetH Ss Be W):Tab W.heap:=by
 rw[MakeChecks.laidMetH_plain _ _ _ R9]at h;obtain⟨ps,⟨g0,t0,cs0,f0,p0,q0,hg0,ht0,hv0,hd0,⟨g1,t1,cs1,f1,p1,q1,hg1,ht1,hv1,hd1,_,_⟩,_⟩,_,_⟩:=h;obtain rfl:=Option.some.inj (gSp.symm.trans hg1);have hty:(Tryz.prog.globals[Tryz.lg.g 0]?).map (·.type)=Sj spT:=by kernel_rfl
 obtain rfl:=Option.some.inj (hty.symm.trans ht1);rw[LP]at hd1;have htab : Lib.TabIs Ss W "strings.asciiSpace" .u8 Lib.asciiSpaceTab := by unfold Lib.TabIs;rw[hv1,<-Lib.cells_of_tab (n:=256) (e:=spE) R9 R9 R9 R9 hd1]
 intro c hc;have:=htab.cell gSp c (by rw[Lib.asciiSpaceTab_length];exact hc);rw[Lib.asciiSpaceTab_at c hc]at this;obtain⟨-,a,T,fz,h1,h2⟩:=zp this;unfold ak vw;simp only[h1];simpa using h2
theorem Iu(os:Os)(args:Array Value):laidMetH Ss Be ((World.doorLaid Ss 400 os).forCall (λ_ _=>0) ⟨#[],args,[]⟩).memory:=
 laidMetH_of_parts3 (fuel:=8) (laidMet_of_run' 8 R9 R9) R9 R9
section
open Go Go.Lft
theorem rtPr:RT Ss T.jw (Int × Int):=IK (e:=T.int) R9 R9 R9 R9
theorem L8:RT Ss T.oe (List I32):=Cl (e:=T.int32) R9 R9 (of_decide_eq_true R9) ML
end
end Go.Proofs.YtnfiilgdjpdlkaaGreatDoor
namespace Go.Lft
open Go
section
variable {po po2:OP} {V W:View} {h0 h h':Heap} {o:Own} {k:Key} {P:Program} {ty:TypeId} {us:List (Nat × Value)}
theorem Cx.Gs {α:Type} [Rep α] {t:TypeId} {x:Operand} {v:Value} {d:α} {K:Value->Heap->Prop} (c:Cx V h0 W h o) (hk:o k=Sk) (hx:asg us x=v) (hv:Rd W v d) (hn:Rep.n α<=1000)
  (hK : ∀B h',(vw h).le (vw h')->Cx V h0 W h' (o.upd k (bx t B d))->K (ptz B) h'):@step po P (.box t x) ty us h K:=by
 refine _root_.Go.Lft.dc hx ?_;have q1:=bP h (.cells v.cells t);have b2:(h.push (.cells v.cells t))[h.size]? = Sj (.cells v.cells t (0,0)):=by simp
 generalize h.push (.cells v.cells t)=h2 at q1 b2;refine hK _ _ q1 ⟨c.own.add hk (jS b2 hv hn) q1 λb hb=>by simp only[Value.ownBlock,Ow]at hb;omega,c.old,Sc c.le0 q1,λj i b hj hb=>?_⟩;by_cases e:j=k
 ·subst e;rw[Own.ao]at hj;cases hj;cases hb;exact cm c.le0
 rw[Own.aA e]at hj;exact c.new j i b hj hb
theorem Cx.iE {α β:Type} [Rep α] [Rep β] {off:Nat} {g:α->β} {s:α->β->α} (p:Part α β off g s) {e t:TypeId} {x y:Operand} {B:Nat} {D:α} {u:Value} {d:β} {K:Value->Heap->Prop} (c:Cx V h0 W h o) (hk:o k=bx e B D) (hsz:cO P t=Sj (Rep.n β)) (hx:asg us x = Sp (Sj ⟨B,off,.none⟩)) (hy:asg us y=u) (hr:Rd W u d)
  (hK : ∀h',Cx V h0 W h' (o.upd k (bx e B (s D d)))->K undef h'):@step po P (.store t x y) ty us h K:=
 c.own.qA p hk hsz hx hy hr λh2 w hX=>hK _ ⟨w,c.old,hX _ c.le0 (View.cA Sb (c.new k _ B hk rfl)),λj i b hj hb=>by
  by_cases e:j=k
  ·subst e;rw[Own.ao]at hj;cases hj;exact c.new _ _ b hk hb
  rw[Own.aA e]at hj;exact c.new j i b hj hb⟩
theorem Cx.KF {α:Type} [Rep α] {e:TypeId} {B:Nat} {d:α} (c:Cx V h0 W h o) (hk:o k=bx e B d) (ha:Rep.agg α=Sq) {N:Nat} (hN:Rep.n α=N) : ∃u,Un.ev (vw h) (.bV N) (ptz B)=Sj u/\Rd W u d:=by
 subst hN;obtain⟨cs,hcs,hr⟩:=c.own.atW hk;have h1:=Rep.len hr;have:=gG hcs (Rep.n α) 0 #[] S0;refine⟨.agg cs.toArray,?_,?_⟩
 ·simp only[Un.ev,vP,OT];rw[this];simp[<-h1]
 unfold Rd;rw[if_pos ha];exact⟨_,rfl,by simpa using hr⟩
theorem Cx.Ni {α:Type} [Rep α] {e:TypeId} {B:Nat} {d:α} (c:Cx V h0 W h o) (hk:o k=bx e B d):At (vw h) ⟨B,0,Sk⟩ d:=c.own.at hk
end
end Go.Lft
namespace Go.Proofs.YtnfiilgdjpdlkaaGreatDoor
open Go Go.Lft
section
variable {V:View} {h:Heap} {S I O P Q LL TT:Nat} {s:bY} {op plain sum:Int}
abbrev uY:List Value:=[Sf Sg 0,Sf Sg 0,Sf Sg 0,Sf Sg 0,Sf Sg 0,Sf Sg 0,Sf Si 0,Sn Sk 0 0]
theorem vZ {W:View} {m:aZ} {vm:Value} (mx:Mx V S I O P Q LL TT s op plain sum) (hV:V.le W) (hW:W.le (vw h)) (hm:Rd W vm m) (ho:op=15\/2<=s.i.args.length) :
  aw Ss 130 #[vm,ptr O,ptr I,ptr P] h (λu h'=>(vw h).le (vw h')/\Rd (grow W h h') u (gk s.i op plain m)):=by
 refine aj (args:=[vm,ptr O,ptr I,ptr P]) follows Tryz.func130 E.gD S8 λK hK=>?_;dsimp only[L.gD,lkF,lkG];have c0:=Cx.start hW;refine ab λz hz=>?_;simp;refine c0.Gs (k:=(0,1)) rfl rfl hm S1 λM h1 hle1 c1=>?_;refine c1.cC (k:=(0,0)) (n:=7) (z:=.agg uY.toArray) S2 R9 rfl S1 S6 λR h2 hle2 c2=>?_;subst hz;have hk1:(Own.upd (Own.upd (λ_=>Sk) (0,1) (bx T.ed M m)) (0,0) (bx T.ed R (RawN.mk (n:=7) (Value.agg uY.toArray).cells.toList))) (0,1)=bx T.ed M m:=rfl;have vh:V.le (vw h2):=Sc hV c2.wle;have e1:=ae vh mx.op;have e2:=ae vh mx.plain;have i1:=(mx.ct.ins.part InsD.iy);have r1:=i1.rng;have i1:ak (vw h2) ⟨I,1,Sk⟩=Sj (Sf Sg s.i.dst):=ae vh (by simpa using i1.int);obtain⟨va,i3,hva⟩:=(mx.ct.ins.part InsD.eS).sl;have i3:ak (vw h2) ⟨I,3,Sk⟩=Sj va:=ae vh (by simpa using i3);refine ab λz hz=>?_;have fin : ∀(h3:Heap) (m3:aZ),Cx W h W h3 (Own.upd (Own.upd (Own.upd (λ_=>Sk) (0,1) (bx T.ed M m)) (0,0) (bx T.ed R (RawN.mk (n:=7) (Value.agg uY.toArray).cells.toList))) (0,1) (bx T.ed M m3))->gk s.i op plain m=m3->∀ρ:Env,Lft.look ρ 4=Sj (ptr M)->Lft.look ρ 5=Sj (ptr R)->LC.wp Ss z (dF [.un (.bV 8) (.tmp 5)] K) ρ h3:=λh3 m3 c3 he ρ h4 h5=>by rw[hz];refine ab λy hy=>?_;obtain⟨u,hu,ru⟩:=c3.KF (k:=(0,1)) (e:=T.ed) (B:=M) (d:=m3) rfl rfl (N:=8) rfl;simp[h4,h5,hu];refine c3.bD (α:=aZ) (k:=(0,0)) (n:=7) S2 ru rfl rfl R9 Sa Sa λh6 l6 hl6 c6=>?_;rw[hy];have hall:=c6.all (k:=(0,0)) (n:=7) (l:=l6) (B:=R) (e:=T.ed) S2;simp at hall;simp[hall,ag,ah,h5];refine hK _ _ ⟨c6.le0,?_⟩;rw[he,<-hl6];exact ru.mono c6.fin
 by_cases h15:op=15
 ·simp[e1,h15,i1];refine c2.iE (k:=(0,1)) (α:=aZ) aZ.NQ (D:=m) (d:=s.i.dst) hk1 R9 Sa Sa (bO.2 ⟨rfl,r1⟩) λh3 c3=>?_;exact fin _ _ c3 (by unfold gk;rw[if_pos h15]) _ Sa Sa
 have ha:2<=s.i.args.length:=by omega
 have q1:=hva.idx1 (k:=.i64) (i:=1) rfl S1 S0;have d1:=ae vh (hva.int (View.le_refl V) (i:=1) S0);have ar:=hva.rng (i:=1) S0;have m0:=ae Sb (((c2.Ni hk1).part aZ.tB)).int;simp at m0 q1 d1;by_cases hp:m.op=plain
 ·simp[e1,h15,e2,m0,hp,i3,q1,d1];refine c2.iE (k:=(0,1)) (α:=aZ) aZ.Nu (D:=m) (d:=nth s.i.args 1) hk1 R9 Sa Sa (bO.2 ⟨rfl,ar⟩) λh3 c3=>?_;exact fin _ _ c3 (by unfold gk;rw[if_neg h15,if_pos hp]) _ Sa Sa
 simp[e1,h15,e2,m0,hp,i3,q1,d1];refine c2.iE (k:=(0,1)) (α:=aZ) aZ.Nv (D:=m) (d:=nth s.i.args 1) hk1 R9 Sa Sa (bO.2 ⟨rfl,ar⟩) λh3 c3=>?_;exact fin _ _ c3 (by unfold gk;rw[if_neg h15,if_neg hp]) _ Sa Sa
end
end Go.Proofs.YtnfiilgdjpdlkaaGreatDoor
namespace Go.Lft
open Go
theorem FL {W:View} {h:Heap} {e:TypeId} {B n:Nat} {l:List Int} (hb:h[B]? = Sj (.cells (l.map λc=>Sf Sg c).toArray e (0,0))) (hr : ∀x∈l,-9223372036854775808<=x/\x<=9223372036854775807) (hn:l.length=n) (h2:n<=1000000) :
  OwnT W h e (Sn (Sj ⟨B,0,.none⟩) n n) l:=by
 subst hn;refine⟨by omega,l.map λc=>Sf Sg c,⟨by simp[Rep.n],.inr ⟨B,l.length,_,rfl,hb,OA _,by simp[maxLen];omega,by simp[Rep.n],?_⟩⟩,λi hi=>?_⟩
 ·rw[OK (by simp[Rep.n])]
 show(List.take 1 (List.drop (i*1) (l.map λc=>Sf Sg c))=[Sf Sg l[i]])/\_;rw[Px];refine⟨?_,hr _ (PD hi)⟩;rw[O6 (by simpa using hi)];simp
theorem yF : ∀{l:List Int},(l.map λc=>Sf Sg c).flatMap (λv=>v.cells.toList)=l.map λc=>Sf Sg c
 | []=>rfl
 | x::l=>by rw[PJ,Qp,yF];rfl
section
variable {po po2:OP} {V W:View} {h0 h h':Heap} {o:Own} {k:Key} {P:Program} {ty:TypeId} {us:List (Nat × Value)}
theorem Cx.wz {t e n:Nat} {bytes:Nat} {z:Value} {ps:Array (Nat × Operand)} {l:List Int} {K:Value->Heap->Prop} (c:Cx V h0 W h o) (hk:o k=Sk) (hT:ef P t e 1 bytes z)
  (hp:ps.map (λp=>(p.1,asg us p.2))=(((l.map λc=>Sf Sg c).zipIdx 0).map λp=>(p.2,p.1)).toArray) (hr : ∀x∈l,-9223372036854775808<=x/\x<=9223372036854775807) (hn:l.length=n) (h2:n<=1000)
  (hK : ∀u h',(vw h).le (vw h')->Cx V h0 W h' (o.upd k (it e u l))->K u h'):@step po P (.buildSlice t n ps) ty us h K:=by
 obtain⟨B,h1,hB⟩:=na (s:=1) (l.map λc=>Sf Sg c) 0 ((Array.range (n*1)).map (z.cells[· % z.cells.size]!)) (λv hv=>by obtain⟨c,_,rfl⟩:=PG.1 hv;rfl) S7;have hB:B=(l.map λc=>Sf Sg c).toArray:=by rw[<-Array.toList_inj,hB];simp only[QS,QQ,Pz,yF]
 subst hB;refine tx (size:=1) hT S0 hp h1 ?_;have q1:=bP h (.cells (l.map λc=>Sf Sg c).toArray e);have b2:(h.push (.cells (l.map λc=>Sf Sg c).toArray e))[h.size]? = Sj (.cells (l.map λc=>Sf Sg c).toArray e (0,0)):=by simp
 generalize h.push (.cells (l.map λc=>Sf Sg c).toArray e)=h3 at q1 b2;refine hK _ _ q1 ⟨c.own.add hk (FL b2 hr hn S0) q1 λb hb=>by simp only[Value.ownBlock,Ow]at hb;omega,c.old,Sc c.le0 q1,λj i b hj hb=>?_⟩;by_cases e:j=k
 ·subst e;rw[Own.ao]at hj;cases hj;cases hb;exact cm c.le0
 rw[Own.aA e]at hj;exact c.new j i b hj hb
theorem Cx.jC {α:Type} [Rep α] {e e2:TypeId} {v v':Value} {l l':List α} (c:Cx V h0 W h o) (hk:o k=it e v l) (o2:OwnT W h' e2 v' l') (m:lh h h' v v'):Cx V h0 W h' (o.upd k (it e2 v' l')):=by
 refine⟨c.own.jC hk o2 m,c.old,?_,λj i b hj hb=>?_⟩
 ·exact m.kept.view c.le0 λb hb=>View.cA Sb (c.new k _ b hk hb)
 by_cases e:j=k
 ·subst e;rw[Own.ao]at hj;cases hj;rcases m.at_ with q | q
  ·exact c.new _ _ b hk (q▸hb)
  have hb:v'.ownBlock=Sj b:=hb;rw[q]at hb;cases hb;exact cm c.le0
 rw[Own.aA e]at hj;exact c.new j i b hj hb
theorem Cx.freeze {α:Type} [Rep α] {e:TypeId} {v:Value} {l:List α} (c:Cx V h0 W h o) (hk:o k=it e v l) : ∃W',W.le W'/\Cx V h0 W' h (o.upd k Sk)/\SlRd W' v l:=by
 obtain⟨w1,s1⟩:=c.own.freeze hk;refine⟨_,jk (c.own.av k _ hk),⟨w1,λb x hb hx=>?_,c.le0,λj i b hj hb=>?_⟩,s1⟩
 ·unfold View.plus at hx;split at hx
  ·rename_i e1;have:=c.new k _ b hk e1;omega
  exact c.old b x hb hx
 by_cases e:j=k
 ·subst e;rw[Own.ao]at hj;cases hj
 rw[Own.aA e]at hj;exact c.new j i b hj hb
end
end Go.Lft
namespace Go.Proofs.YtnfiilgdjpdlkaaGreatDoor
open Go Go.Lft
section
variable {V:View} {h:Heap} {S I O P Q LL TT:Nat} {s:bY} {op plain sum:Int}
theorem v7 {W:View} {l:List Int} {vl:Value} (mx:Mx V S I O P Q LL TT s op plain sum) (hV:V.le W) (hW:W.le (vw h)) (ho:OwnT W h T.int vl l) (hl:l.length<=10) (h1:1<=s.i.args.length) (h2:s.i.args.length<=1000000) :
  aw Ss 131 #[vl,ptr I] h (λu h'=>OwnT W h' T.int u (l++s.i.args.drop 1)/\lh h h' vl u):=by refine aj (args:=[vl,ptr I]) follows Tryz.func131 E.gB S8 λK hK=>?_;dsimp only[L.gB,lkF,lkG];obtain⟨va,i3,hva⟩:=(mx.ct.ins.part InsD.eS).sl;have i3:ak (vw h) ⟨I,3,Sk⟩=Sj va:=ae (Sc hV hW) (by simpa using i3);obtain⟨u,hu,su⟩:=hva.drop (n:=1) h1 (kd:=.i64);have hu:Bn.ev (.lo 1) va (Sf Sg 1)=Sj u:=hu;refine ab λz hz=>?_;simp;subst hz;refine ab λz hz=>?_;simp[i3,hu];refine dB (α:=Int) (e:=T.int) (l:=l) (l2:=s.i.args.drop 1) El.aV Sa Sa ho ((su.mono hV).src hW) S7 S7 λv2 h2 o2 mv=>?_;subst hz;simp;exact hK _ _ ⟨o2,mv⟩
end
section
variable {V:View} {h:Heap} {S I O P Q LL TT:Nat} {s:bY} {op plain sum:Int}
set_option maxHeartbeats 4000000 in
theorem JC(mx:Mx V S I O P Q LL TT s op plain sum)(hV:V.le (vw h))(hok:mC s)(hop:s.i.op=op)(ho:op=15\/op=16)(hp0:0<=plain/\plain<=100):
    aw Ss 132 #[ptr LL,ptr P,ptr I,ptr TT] h (λu h'=>bR V h h' u (memS s.f s.i s.temp op plain sum 0)):=by
  refine aj (args:=[ptr LL,ptr P,ptr I,ptr TT]) follows Tryz.func132 E.cZ S8 λK hK=>?_
  dsimp only[L.cZ,lkF,lkG]
  have c0:=Cx.start hV
  have l1:1<=s.i.args.length:=by
    rcases ho with q | q
    · exact hok.one.one (hop.trans q)
    · have:=hok.one.two (.inr (.inl (hop.trans q)));omega
  have l2:op=15\/2<=s.i.args.length:=ho.imp id λq=>hok.one.two (.inr (.inl (hop.trans q)))
  refine ab λz hz=>?_
  simp
  refine c0.cC (k:=(0,0)) (n:=7) (z:=.agg fitZ.toArray) rfl R9 rfl S1 S6 λR hb hleb cb=>?_
  subst hz
  have i4:=(mx.ct.ins.part InsD.je)
  have r4:=i4.pb
  have i4:ak V ⟨I,4,Sk⟩=Sj (Sf Si s.i.imm.v):=by simpa using i4.i32
  obtain⟨va,i3,hva⟩:=(mx.ct.ins.part InsD.eS).sl
  have i3:ak V ⟨I,3,Sk⟩=Sj va:=by simpa using i3
  have a0:=hva.rng (i:=0) S0
  have most:=hok.one.most
  have q0:=hva.idx1 (k:=.i64) (i:=0) rfl S1 S0
  have d0:=hva.int (View.le_refl V) (i:=0) S0
  simp at q0
  have eL:=mx.laid
  have eT:=mx.with_
  have eP:=mx.plain
  have hm : ∀X,Rd X (.agg #[Sf Sg plain,Sf Sg 0,Sf Sg 0,Sf Sg (nth s.i.args 0),Sf Sg 0,Sf Sg 0,Sf Si s.i.imm.v,Sn Sk 0 0]) (⟨plain,0,0,nth s.i.args 0,0,0,s.i.imm,[]⟩:aZ):=λX=>iH S7 r4 aQ
  have ew:IntKind.i64.wrap s.i.imm.v=s.i.imm.v:=bC S0 S0
  have fin : ∀(W:View) (hx:Heap) (o:Own) (l9:List Value),Cx V h W hx o->Rd W (.agg l9.toArray) (⟨nth s.i.args 0::s.i.args.drop 1,[],[gk s.i op plain ⟨plain,0,0,nth s.i.args 0,0,0,s.i.imm,[]⟩],dH⟩:FitD)->K (.tuple #[.agg l9.toArray,.bool (inR (IntKind.i64.wrap s.i.imm.v) 0 255)]) hx:=λW hx o l9 c hr=>
    hK _ _ (bR.of c hr (by rw[ew];simp only[memS];split<;>simp_all) λy e=>by
      simp only[memS]at e
      split at e<;>cases e
      rfl)
  clear hK
  refine ab λz hz=>?_
  refine aO V cb.wle ?_
  have c:=cb
  have hWV:V.le V:=View.le_refl _
  repeat' (first
    | refine iD ?_ ?_
    | (refine bJ λy hy=>?_
       simp[i3,i4,q0,d0,eL,eT,eP]
       first
       | refine az (t:=T.ed) (z:=.agg uY.toArray) (places:=zpb) (vs:=[(0,Sf Sg plain),(3,Sf Sg (nth s.i.args 0)),(6,Sf Si s.i.imm.v)]) (cs:=#[Sf Sg plain,Sf Sg 0,Sf Sg 0,Sf Sg (nth s.i.args 0),Sf Sg 0,Sf Sg 0,Sf Si s.i.imm.v,Sn Sk 0 0]) R9 R9 Sa R9 ?_
       | (refine c.wz (k:=(0,2)) (n:=1) (l:=[nth s.i.args 0]) S2 El.aV ?_ ?_ rfl S1 λuA h hle c=>?_
          · simp;done
          · simp;omega)
       | refine c.cC (k:=(0,1)) (n:=7) (z:=.agg fitZ.toArray) S2 R9 rfl S1 S6 λR2 h hle c=>?_
       | (refine aU (ops:=[.tmp 17]) (caps:=#[ptr O,ptr I,ptr P]) rfl R9 (vZ mx S9 c.wle (hm _) l2) ?_
          rintro um h ⟨hle,hum⟩
          have hW:=c.up (h':=h)
          have c:=c.ext hle)
       | (refine aU (ops:=[.tmp 24]) (caps:=#[ptr I]) rfl R9 (v7 mx S9 c.wle (c.own.get (k:=(0,2)) (v:=uA) (l:=[nth s.i.args 0]) S2) Sa l1 S0) ?_
          rintro uw h ⟨own2,mv⟩
          have c:=c.jC (k:=(0,2)) (v:=uA) (l:=[nth s.i.args 0]) S2 own2 mv
          obtain⟨W,hW,c,huA⟩:=c.freeze (k:=(0,2)) (v:=uw) (l:=[nth s.i.args 0]++s.i.args.drop 1) S2)
       | (refine af R9 (kI c.wle (hum.mono S9) (huA.mono S9) aQ) ?_
          rintro _ h ⟨hle,vf,rfl,hvf⟩
          have hW:=c.up (h':=h)
          have c:=c.ext hle)
       | refine c.bD (k:=(0,1)) (n:=7) (l:=fitZ) S2 (hvf.mono S9) rfl rfl R9 rfl rfl λh l9 hl9 c=>?_
       try refine⟨Sc S9 c.wle,?_⟩
       subst hy))
  all_goals
    simp
    rw[hz]
    subst hl9
    have hall:=c.all (k:=(0,1)) (n:=7) (l:=l9) (B:=R2) (e:=T.aT) S2
    simp at hall
    refine ab λx hx=>?_
    refine aO (vw h) Sb ?_
    simp[hall,ae (Sc S9 c.wle) i4]
    refine af R9 jo ?_
    rintro _ h ⟨rfl,rfl⟩
    refine⟨View.le_refl _,?_⟩
    refine c.bD (k:=(0,0)) (n:=7) (l:=fitZ) S2 (hvf.mono S9) rfl rfl R9 rfl rfl λh9 l9' hl9' c9=>?_
    rw[hx]
    have hall:=c9.all (k:=(0,0)) (n:=7) (l:=l9') (B:=R) (e:=T.aT) S2
    simp at hall
    simp[hall]
    exact fin _ _ _ _ c9 (hl9'▸hvf.mono S9)
end
end Go.Proofs.YtnfiilgdjpdlkaaGreatDoor
namespace Go.Lft
open Go
section
variable {po po2:OP} {V W:View} {h0 h h':Heap} {o:Own} {k:Key} {P:Program} {ty:TypeId} {us:List (Nat × Value)}
theorem En {α:Type} [Rep α] {t e:Nat} {bytes:Nat} {z v:Value} {x:Operand} {d:α} {K:Value->Heap->Prop} (hT:ef P t e (Rep.n α) bytes z) (hx:asg us x=v) (hr:Rd W v d) (hn:Rep.n α<=1000)
  (hk : ∀h',(vw h).le (vw h')->OwnT W h' e (Sn (Sj ⟨h.size,0,Sk⟩) 1 1) [d]->K (Sn (Sj ⟨h.size,0,Sk⟩) 1 1) h'):@step po P (.buildSlice t 1 #[(0,x)]) ty us h K:=by
 have hc:=gN hr;obtain⟨B,h1,hB⟩:=na (s:=Rep.n α) [v] 0 ((Array.range (1*Rep.n α)).map (z.cells[· % z.cells.size]!)) (λu hu=>by simp at hu;subst hu;exact hc.2.1) Sa;have hB:B=v.cells:=by rw[<-Array.toList_inj,hB];simp
 subst hB;refine tx (size:=Rep.n α) (vs:=[(0,v)]) hT S0 (by simp[hx]) h1 ?_;have q1:=bP h (.cells v.cells e);have b2:(h.push (.cells v.cells e))[h.size]? = Sj (.cells v.cells e (0,0)):=by simp
 generalize h.push (.cells v.cells e)=h3 at q1 b2;exact hk _ q1 (jS b2 hr hn)
theorem Cx.add {α:Type} [Rep α] {e:TypeId} {v:Value} {l:List α} (c:Cx V h0 W h o) (hk:o k=Sk) (o2:OwnT W h' e v l) (hle:(vw h).le (vw h')) (hb : ∀b,v.ownBlock=Sj b->h.size<=b):Cx V h0 W h' (o.upd k (it e v l)):=
 ⟨c.own.add hk o2 hle hb,c.old,Sc c.le0 hle,λj i b hj hb'=>by
  by_cases e:j=k
  ·subst e;rw[Own.ao]at hj;cases hj;exact OY (cm c.le0) (hb b hb')
  rw[Own.aA e]at hj;exact c.new j i b hj hb'⟩
end
end Go.Lft
namespace Go.Proofs.YtnfiilgdjpdlkaaGreatDoor
open Go Go.Lft
theorem EI {α:Type} [Rep α] {H:View} {v:Value} {l:List α} (s:SlRd H v l) : ∃a n c,v = .slice a n c:=let ⟨a,c,e,_⟩:=s;⟨a,_,c,e⟩
theorem Jr {v0 v1 v2:Value} {m:aZ} {takes inner:List Int} {h:Heap} {W:View} (hW:W.le (vw h)) (h0:Rd W v0 m) (h1:SlRd W v1 takes) (h2:SlRd W v2 inner) :
  aw Ss 104 #[v0,v1,v2] h (λu h'=>(vw h).le (vw h')/\∃b,u = .tuple #[.agg #[v1,v2,Sn (Sj ⟨b,0,Sk⟩) 1 1,Sf Sg 0,Sf Sg 0,Sf Sg 0,Sn Sk 0 0,Sf Si 0],.bool Sq]/\OwnT W h' T.ed (Sn (Sj ⟨b,0,Sk⟩) 1 1) [m]/\h.size<=b):=by
 refine aj (args:=[v0,v1,v2]) follows Tryz.func104 E.nJ S8 λK hK=>?_;dsimp only[L.nJ,lkF,lkG];have c0:=Cx.start hW;refine ab λz hz=>?_;simp;refine c0.Gs (k:=(0,1)) rfl rfl h0 S1 λB ha hlea ca=>?_;refine ca.cC (k:=(0,0)) (n:=7) (z:=.agg fitZ.toArray) S2 R9 rfl S1 S6 λR hb hleb cb=>?_;subst hz;obtain⟨um,hum,hmr⟩:=cb.KF (k:=(0,1)) (e:=T.ed) (B:=B) (d:=m) rfl rfl (N:=8) rfl;refine ab λz hz=>?_;simp[hum];refine En (α:=aZ) (W:=W) (v:=um) El.jr Sa hmr S1 λhc hlec own=>?_;have cc:=cb.add (k:=(0,2)) S2 own hlec λb hb=>by simp only[Value.ownBlock,Ow]at hb;omega
 obtain⟨a1,n1,k1,rfl⟩:=EI h1;obtain⟨a2,n2,k2,rfl⟩:=EI h2;refine az (z:=.agg fitZ.toArray) (places:=zpc) (vs:=[(0,.slice a1 n1 k1),(1,.slice a2 n2 k2),(2,Sn (Sj ⟨hb.size,0,Sk⟩) 1 1)]) (cs:=#[.slice a1 n1 k1,.slice a2 n2 k2,Sn (Sj ⟨hb.size,0,Sk⟩) 1 1,Sf Sg 0,Sf Sg 0,Sf Sg 0,Sn Sk 0 0,Sf Si 0]) R9 R9 Sa R9 ?_;refine cc.rU (k:=(0,0)) (n:=7) (l':=[.slice a1 n1 k1,.slice a2 n2 k2,Sn (Sj ⟨hb.size,0,Sk⟩) 1 1,Sf Sg 0,Sf Sg 0,Sf Sg 0,Sn Sk 0 0,Sf Si 0]) S2 R9 Sa Sa rfl S5 λhd cd=>?_;subst hz;have hall:=cd.all (k:=(0,0)) (n:=7) (l:=[.slice a1 n1 k1,.slice a2 n2 k2,Sn (Sj ⟨hb.size,0,Sk⟩) 1 1,Sf Sg 0,Sf Sg 0,Sf Sg 0,Sn Sk 0 0,Sf Si 0]) (B:=R) (e:=T.aT) S2;simp at hall;simp[hall];refine hK _ _ ⟨cd.le0,_,rfl,cd.own.get (k:=(0,2)) S2,?_⟩;have q1:=cm hlea;have q2:=cm hleb;omega
section
variable {V:View} {h:Heap} {S I O P Q LL TT:Nat} {s:bY} {op plain sum:Int}
set_option maxHeartbeats 4000000 in
theorem II(mx:Mx V S I O P Q LL TT s op plain sum)(hV:V.le (vw h))(hok:mC s)(hop:s.i.op=op)(ho:op=15\/op=16)(hp0:0<=sum/\sum<=100)(ht:-9223372036854775808<=s.temp/\s.temp<=9223372036854775807):
    aw Ss 135 #[ptr S,ptr I,ptr TT,ptr LL,ptr Q] h (λu h'=>bR V h h' u (memS s.f s.i s.temp op plain sum 3)):=by
  refine aj (args:=[ptr S,ptr I,ptr TT,ptr LL,ptr Q]) follows Tryz.func135 E.da S8 λK hK=>?_
  dsimp only[L.da,lkF,lkG]
  have c0:=Cx.start hV
  have l1:1<=s.i.args.length:=by
    rcases ho with q | q
    · exact hok.one.one (hop.trans q)
    · have:=hok.one.two (.inr (.inl (hop.trans q)));omega
  have l2:op=15\/2<=s.i.args.length:=ho.imp id λq=>hok.one.two (.inr (.inl (hop.trans q)))
  refine ab λz hz=>?_
  simp
  refine c0.cC (k:=(0,0)) (n:=7) (z:=.agg fitZ.toArray) rfl R9 rfl S1 S6 λR hb hleb cb=>?_
  subst hz
  have i4:=(mx.ct.ins.part InsD.je)
  have r4:=i4.pb
  have i4:ak V ⟨I,4,Sk⟩=Sj (Sf Si s.i.imm.v):=by simpa using i4.i32
  obtain⟨va,i3,hva⟩:=(mx.ct.ins.part InsD.eS).sl
  have i3:ak V ⟨I,3,Sk⟩=Sj va:=by simpa using i3
  have s12:ak V ⟨S,12,Sk⟩=Sj (Sf Sg s.temp):=by simpa using(mx.ct.site.part bY.DC).int
  have a0:=hva.rng (i:=0) S0
  have most:=hok.one.most
  have q0:=hva.idx1 (k:=.i64) (i:=0) rfl S1 S0
  have d0:=hva.int (View.le_refl V) (i:=0) S0
  simp at q0
  have eL:=mx.laid
  have eT:=mx.with_
  have eQ:=mx.sum
  have hm : ∀X,Rd X (.agg #[Sf Sg 4,Sf Sg s.temp,Sf Sg 0,Sf Sg 0,Sf Sg 0,Sf Sg 0,Sf Si s.i.imm.v,Sn Sk 0 0]) (⟨4,s.temp,0,0,0,0,s.i.imm,[]⟩:aZ):=λX=>iH S7 r4 aQ
  have hm2 : ∀X,Rd X (.agg #[Sf Sg sum,Sf Sg 0,Sf Sg 0,Sf Sg (nth s.i.args 0),Sf Sg s.temp,Sf Sg 0,Sf Si 0,Sn Sk 0 0]) (⟨sum,0,0,nth s.i.args 0,s.temp,0,⟨0⟩,[]⟩:aZ):=λX=>iH (imm:=⟨0⟩) S7 Sa aQ
  have fin : ∀(W:View) (hx:Heap) (o:Own) (l9:List Value),Cx V h W hx o->Rd W (.agg l9.toArray) (⟨nth s.i.args 0::s.i.args.drop 1,[],[⟨4,s.temp,0,0,0,0,s.i.imm,[]⟩,gk s.i op plain ⟨sum,0,0,nth s.i.args 0,s.temp,0,⟨0⟩,[]⟩],dH⟩:FitD)->K (.tuple #[.agg l9.toArray,.bool Sq]) hx:=λW hx o l9 c hr=>
    hK _ _ (bR.of c hr rfl λy e=>by simp only[memS]at e;cases e;rfl)
  clear hK
  refine ab λz hz=>?_
  refine aO V cb.wle ?_
  have c:=cb
  have hWV:V.le V:=View.le_refl _
  repeat' (first
    | refine iD ?_ ?_
    | (refine bJ λy hy=>?_
       simp[i3,i4,s12,q0,d0,eL,eT,eQ]
       first
       | refine az (t:=T.ed) (z:=.agg uY.toArray) (places:=zpb) (vs:=[(0,Sf Sg 4),(1,Sf Sg s.temp),(6,Sf Si s.i.imm.v)]) (cs:=#[Sf Sg 4,Sf Sg s.temp,Sf Sg 0,Sf Sg 0,Sf Sg 0,Sf Sg 0,Sf Si s.i.imm.v,Sn Sk 0 0]) R9 R9 Sa R9 ?_
       | (refine c.wz (k:=(0,2)) (n:=1) (l:=[nth s.i.args 0]) S2 El.aV ?_ ?_ rfl S1 λuA h hle c=>?_
          · simp;done
          · simp;omega)
       | refine c.cC (k:=(0,1)) (n:=7) (z:=.agg fitZ.toArray) S2 R9 rfl S1 S6 λR2 h hle c=>?_
       | (refine aU (ops:=[.tmp 20]) (caps:=#[ptr I]) rfl R9 (v7 mx S9 c.wle (c.own.get (k:=(0,2)) (v:=uA) (l:=[nth s.i.args 0]) S2) Sa l1 S0) ?_
          rintro uw h ⟨own2,mv⟩
          have c:=c.jC (k:=(0,2)) (v:=uA) (l:=[nth s.i.args 0]) S2 own2 mv
          obtain⟨W,hW,c,huA⟩:=c.freeze (k:=(0,2)) (v:=uw) (l:=[nth s.i.args 0]++s.i.args.drop 1) S2)
       | (refine af R9 (Jr c.wle (hm _) (huA.mono S9) aQ) ?_
          rintro _ h ⟨hle,b3,rfl,own3,hb3⟩
          have c:=c.add (k:=(0,3)) S2 own3 hle λb hb=>by simp only[Value.ownBlock,Ow]at hb;omega)
       | (obtain⟨a5,n5,k5,rfl⟩:=EI huA
          refine c.rU (k:=(0,1)) (n:=7) (l:=fitZ) (l':=[.slice a5 n5 k5,Sn Sk 0 0,Sn (Sj ⟨b3,0,Sk⟩) 1 1,Sf Sg 0,Sf Sg 0,Sf Sg 0,Sn Sk 0 0,Sf Si 0]) S2 R9 rfl rfl rfl S5 λh c=>?_)
       try refine⟨Sc S9 c.wle,?_⟩
       subst hy))
  all_goals
    simp
    rw[hz]
    refine ab λx hx=>?_
    have hcode:=c.own.raw (k:=(0,1)) (e:=T.aT) (B:=R2) (n:=7) (l:=[.slice a5 n5 k5,Sn Sk 0 0,Sn (Sj ⟨b3,0,Sk⟩) 1 1,Sf Sg 0,Sf Sg 0,Sf Sg 0,Sn Sk 0 0,Sf Si 0]) S2 (i:=2) S1
    simp only[List.getD_cons_succ,List.getD_cons_zero]at hcode
    have hVh:=Sc (show V.le _ from S9) c.wle
    refine aO (vw h) Sb ?_
    refine bJ λy hy=>?_
    simp[hcode,ae hVh i3,ae hVh s12,q0,ae hVh d0,ae hVh eL,ae hVh eQ]
    refine az (t:=T.ed) (z:=.agg uY.toArray) (places:=zpb) (vs:=[(0,Sf Sg sum),(3,Sf Sg (nth s.i.args 0)),(4,Sf Sg s.temp)]) (cs:=#[Sf Sg sum,Sf Sg 0,Sf Sg 0,Sf Sg (nth s.i.args 0),Sf Sg s.temp,Sf Sg 0,Sf Si 0,Sn Sk 0 0]) R9 R9 Sa R9 ?_
    refine⟨View.le_refl _,?_⟩
    subst hy
    refine bJ λy hy=>?_
    simp
    refine aU (ops:=[.tmp 35]) (caps:=#[ptr O,ptr I,ptr P]) rfl R9 (vZ mx S9 c.wle (hm2 _) l2) ?_
    rintro um h7 ⟨hle7,hum⟩
    have hW7:=c.up (h':=h7)
    have c7:=c.ext hle7
    refine⟨hle7,?_⟩
    subst hy
    refine bJ λy hy=>?_
    simp
    refine c7.ln (α:=aZ) (n:=1) (vs:=[um]) (ds:=[gk s.i op plain ⟨sum,0,0,nth s.i.args 0,s.temp,0,⟨0⟩,[]⟩]) El.jr Sa ⟨hum,trivial⟩ rfl S1 S1 λu8 h8 W8 hW8 c8 s8 hle8=>?_
    refine⟨Sc hle7 hle8,?_⟩
    subst hy
    refine bJ λy hy=>?_
    simp
    refine dB (α:=aZ) (v:=Sn (Sj ⟨b3,0,Sk⟩) 1 1) (u:=u8) (l:=[(⟨4,s.temp,0,0,0,0,s.i.imm,[]⟩:aZ)]) (l2:=[gk s.i op plain ⟨sum,0,0,nth s.i.args 0,s.temp,0,⟨0⟩,[]⟩]) El.jr Sa Sa (c8.own.get (k:=(0,3)) S2) (s8.src c8.wle) Sa Sa λv9 h9 o9 mv9=>?_
    have c9:=c8.jC (k:=(0,3)) S2 o9 mv9
    obtain⟨W9,hW9,c10,s10⟩:=c9.freeze (k:=(0,3)) (v:=v9) S2
    obtain⟨a9,n9,k9,rfl⟩:=EI s10
    subst hy
    refine bJ λy hy=>?_
    simp
    refine c10.dp (k:=(0,1)) (n:=7) (i:=2) (u:=.slice a9 n9 k9) (e:=T.aT) (B:=R2) (l:=[.slice a5 n5 k5,Sn Sk 0 0,Sn (Sj ⟨b3,0,Sk⟩) 1 1,Sf Sg 0,Sf Sg 0,Sf Sg 0,Sn Sk 0 0,Sf Si 0]) S2 S1 R9 Sa Sa rfl λh11 c11=>?_
    subst hy
    simp
    subst hx
    have hall:=c11.all (k:=(0,1)) (n:=7) (B:=R2) (e:=T.aT) (l:=[.slice a5 n5 k5,Sn Sk 0 0,.slice a9 n9 k9,Sf Sg 0,Sf Sg 0,Sf Sg 0,Sn Sk 0 0,Sf Si 0]) S2
    simp at hall
    refine ab λx hx=>?_
    simp[hall]
    have hfit:Rd W9 (.agg #[.slice a5 n5 k5,Sn Sk 0 0,.slice a9 n9 k9,Sf Sg 0,Sf Sg 0,Sf Sg 0,Sn Sk 0 0,Sf Si 0]) (⟨nth s.i.args 0::s.i.args.drop 1,[],[⟨4,s.temp,0,0,0,0,s.i.imm,[]⟩,gk s.i op plain ⟨sum,0,0,nth s.i.args 0,s.temp,0,⟨0⟩,[]⟩],dH⟩:FitD):=
      mK (v1:=.slice a5 n5 k5) (v2:=Sn Sk 0 0) (v3:=.slice a9 n9 k9) (huA.mono S9) aQ s10 (lq Sa S1 aQ)
    refine c11.bD (k:=(0,0)) (n:=7) (l:=fitZ) S2 hfit rfl rfl R9 Sa Sa λh12 l12 hl12 c12=>?_
    rw[hx]
    have hall:=c12.all (k:=(0,0)) (n:=7) (l:=l12) (B:=R) (e:=T.aT) S2
    simp at hall
    simp[hall]
    exact fin _ _ _ _ c12 (hl12▸hfit)
end
end Go.Proofs.YtnfiilgdjpdlkaaGreatDoor
namespace Go.Lft
open Go
section
variable {po po2:OP} {V W:View} {h0 h h':Heap} {o:Own} {k:Key} {P:Program} {ty:TypeId} {us:List (Nat × Value)}
theorem Cx.dC {α:Type} [Rep α] {t:TypeId} {z:Value} {d:α} {K:Value->Heap->Prop} (c:Cx V h0 W h o) (hk:o k=Sk) (hz:(P.info? t).map (·.zero)=Sj (Sj z)) (hr:Rd W (.agg z.cells) d) (hn:Rep.n α<=1000)
  (hK : ∀B h',(vw h).le (vw h')->Cx V h0 W h' (o.upd k (bx t B d))->K (ptz B) h'):@step po P (.alloc t) ty us h K:=by
 refine _root_.Go.Lft.dC hz ?_;have q1:=bP h (.cells z.cells t);have b2:(h.push (.cells z.cells t))[h.size]? = Sj (.cells z.cells t (0,0)):=by simp
 generalize h.push (.cells z.cells t)=h2 at q1 b2;have hz2:(Value.agg z.cells).cells=z.cells:=rfl;refine hK _ _ q1 ⟨c.own.add hk (jS (v:=.agg z.cells) (by rw[hz2];exact b2) hr hn) q1 λb hb=>by simp only[Value.ownBlock,Ow]at hb;omega,c.old,Sc c.le0 q1,λj i b hj hb=>?_⟩;by_cases e:j=k
 ·subst e;rw[Own.ao]at hj;cases hj;cases hb;exact cm c.le0
 rw[Own.aA e]at hj;exact c.new j i b hj hb
theorem Own.fh {a b:Option Item}:(o.upd k a).upd k b=o.upd k b:=by funext q;unfold Own.upd;split<;>rfl
theorem Own.ti {a:Option Item} (hk:o k=Sk):(o.upd k a).upd k Sk=o:=by
 funext q;unfold Own.upd;split
 ·rename_i e;subst e;exact hk.symm
 rfl
theorem Cx.wx {α:Type} [Rep α] {e:TypeId} {B:Nat} {d:α} (c:Cx V h0 W h o) (hk:o k=bx e B d) : ∃W',W.le W'/\Cx V h0 W' h (o.upd k Sk)/\At W' ⟨B,0,Sk⟩ d:=by obtain⟨W',h1,h2,h3⟩:=c.freeze (v:=Sn (Sj ⟨B,0,Sk⟩) 1 1) (l:=[d]) hk;refine⟨W',h1,h2,?_⟩;have:=h3.at (i:=0) Sa;simpa[slA,Addr.z]using this
end
end Go.Lft
namespace Go.Proofs.YtnfiilgdjpdlkaaGreatDoor
open Go Go.Lft
abbrev insZ:List Value:=[Sf Sg 0,Sf Sg 0,Sf Sg 0,Sn Sk 0 0,Sf Si 0]
section
variable {V:View} {h:Heap} {S I O P Q LL TT:Nat} {s:bY} {op plain sum:Int}
set_option maxHeartbeats 4000000 in
theorem Jf (mx:Mx V S I O P Q LL TT s op plain sum) (hV:V.le (vw h)) (hok:mC s) (hop:s.i.op=op) (ho:op=15\/op=16) (hp0:0<=sum/\sum<=100) :
    aw Ss 134 #[ptr S,ptr I,ptr LL,ptr Q,ptr TT] h (λu h'=>bR V h h' u (memS s.f s.i s.temp op plain sum 2)):=by
  refine aj (args:=[ptr S,ptr I,ptr LL,ptr Q,ptr TT]) follows Tryz.func134 E.df S8 λK hK=>?_
  dsimp only[L.df,lkF,lkG]
  have c0:=Cx.start hV
  have l1:1<=s.i.args.length:=by
    rcases ho with q | q
    · exact hok.one.one (hop.trans q)
    · have:=hok.one.two (.inr (.inl (hop.trans q)));omega
  have l2:op=15\/2<=s.i.args.length:=ho.imp id λq=>hok.one.two (.inr (.inl (hop.trans q)))
  refine ab λz hz=>?_
  simp
  refine c0.cC (k:=(0,0)) (n:=7) (z:=.agg fitZ.toArray) rfl R9 rfl S1 S6 λR hb hleb cb=>?_
  subst hz
  have i4:=(mx.ct.ins.part InsD.je)
  have r4:=i4.pb
  have i4:ak V ⟨I,4,Sk⟩=Sj (Sf Si s.i.imm.v):=by simpa using i4.i32
  obtain⟨va,i3,hva⟩:=(mx.ct.ins.part InsD.eS).sl
  have i3:ak V ⟨I,3,Sk⟩=Sj va:=by simpa using i3
  have a0:=hva.rng (i:=0) S0
  have most:=hok.one.most
  have q0:=hva.idx1 (k:=.i64) (i:=0) rfl S1 S0
  have d0:=hva.int (View.le_refl V) (i:=0) S0
  simp at q0
  obtain⟨us,hus,rus⟩:=mx.ct.site.ldN rfl (N:=13) rfl
  have hus:=hus V Sb
  have hfm:=dm (f:=s.f) (v:=nth s.i.args 0) (op:=2)
  have hdo:memS s.f s.i s.temp op plain sum 2=if(aD s.f (nth s.i.args 0) 2).2&&decide (s.i.imm.v=0) then
      Sj ⟨nth (aD s.f (nth s.i.args 0) 2).1.args 0::nth (aD s.f (nth s.i.args 0) 2).1.args 1::s.i.args.drop 1,[nth s.i.args 0],
        [gk s.i op plain ⟨sum,0,0,nth (aD s.f (nth s.i.args 0) 2).1.args 0,nth (aD s.f (nth s.i.args 0) 2).1.args 1,0,⟨0⟩,[]⟩],dH⟩
    else none:=rfl
  have hF:=@nM s us (nth s.i.args 0) 2
  generalize (aD s.f (nth s.i.args 0) 2).1=m at *
  generalize (aD s.f (nth s.i.args 0) 2).2=b at *
  refine ab λz hz=>?_
  have rest : ∀(W:View) (hx:Heap) (B2:Nat) (ρ:Env),V.le W->Cx V h W hx (Own.upd (λ_=>Sk) (0,0) (bx T.aT R (RawN.mk (n:=7) fitZ)))->At W ⟨B2,0,Sk⟩ m->
      Lft.look ρ 0=Sj (ptr S)->Lft.look ρ 1=Sj (ptr I)->Lft.look ρ 2=Sj (ptr LL)->Lft.look ρ 3=Sj (ptr Q)->Lft.look ρ 4=Sj (ptr TT)->Lft.look ρ 5=Sj (ptr R)->Lft.look ρ 7=Sj (ptr B2)->Lft.look ρ 8=Sj (.bool b)->
      LC.wp Ss z (dF [.un (.bV 8) (.tmp 5),.tmp 6] K) ρ hx:=by
    intro W hx B2 ρ hVW c hat g0 g1 g2 g3 g4 g5 g7 g8
    rw[hz]
    refine ab λx hx'=>?_
    have none_ : ∀(hy:Heap) (o:Own) (l9:List Value),Cx V h W hy o->Rd W (.agg l9.toArray) Ha->(b&&decide (s.i.imm.v=0))=Sr->K (.tuple #[.agg l9.toArray,.bool Sr]) hy:=λhy o l9 c hr e=>
      hK _ _ (bR.of c hr (by rw[hdo,e];rfl) λy e2=>by rw[hdo,e]at e2;cases e2)
    cases b with
    | false=>
      simp[g8,ag,ah,g5]
      refine az (t:=T.aT) (z:=.agg fitZ.toArray) (places:=zpc) (vs:=[]) (cs:=fitZ.toArray) R9 R9 Sa R9 ?_
      refine c.bD (k:=(0,0)) (n:=7) (l:=fitZ) S2 fy rfl rfl R9 Sa Sa λh9 l9 hl9 c9=>?_
      have hall:=c9.all (k:=(0,0)) (n:=7) (l:=l9) (B:=R) (e:=T.aT) S2
      simp at hall
      simp[hall]
      exact none_ _ _ _ c9 (hl9▸fy) rfl
    | true=>
      by_cases e0:s.i.imm.v=0
      · obtain⟨m1,m2,-⟩:=hfm rfl
        have hma:=(hok.all _ m1).two S0
        obtain⟨vb,j3,hvb⟩:=(hat.part InsD.eS).sl
        have j3:ak W ⟨B2,3,Sk⟩=Sj vb:=by simpa using j3
        have b0:=hvb.rng (i:=0) S0
        have b1:=hvb.rng (i:=1) S0
        have q2:=hvb.idx1 (k:=.i64) (i:=0) rfl S1 S0
        have q3:=hvb.idx1 (k:=.i64) (i:=1) rfl S1 S0
        have d2:=hvb.int (View.le_refl W) (i:=0) S0
        have d3:=hvb.int (View.le_refl W) (i:=1) S0
        simp at q2 q3
        have i4':=ae hVW i4
        have i3:=ae hVW i3
        have d0:=ae hVW d0
        have eL:=ae hVW mx.laid
        have eT:=ae hVW mx.with_
        have eQ:=ae hVW mx.sum
        have mx:=mx.mono hVW
        simp[g0,g1,g2,g3,g4,g5,g7,g8,ag,ah,ae c.wle i4',e0]
        rw[hx'];clear hx'
        have hm : ∀X,Rd X (.agg #[Sf Sg sum,Sf Sg 0,Sf Sg 0,Sf Sg (nth m.args 0),Sf Sg (nth m.args 1),Sf Sg 0,Sf Si 0,Sn Sk 0 0]) (⟨sum,0,0,nth m.args 0,nth m.args 1,0,⟨0⟩,[]⟩:aZ):=λX=>iH (imm:=⟨0⟩) S7 Sa aQ
        have fin : ∀(W:View) (hx:Heap) (o:Own) (l9:List Value),Cx V h W hx o->Rd W (.agg l9.toArray) (⟨nth m.args 0::nth m.args 1::s.i.args.drop 1,[nth s.i.args 0],[gk s.i op plain ⟨sum,0,0,nth m.args 0,nth m.args 1,0,⟨0⟩,[]⟩],dH⟩:FitD)->K (.tuple #[.agg l9.toArray,.bool Sq]) hx:=λW hx o l9 c hr=>
          hK _ _ (bR.of c hr (by rw[hdo];simp[e0]) λy e=>by rw[hdo,e0]at e;cases e;rfl)
        clear none_ hK
        refine ab λx hx'=>?_
        refine aO W c.wle ?_
        have hWV:W.le W:=View.le_refl _
        repeat' (first
          | refine iD ?_ ?_
          | (refine bJ λy hy=>?_
             simp[g0,g1,g2,g3,g4,g5,g7,g8,ag,ah,i3,j3,q0,q2,q3,d0,d2,d3,eL,eT,eQ]
             first
             | refine az (t:=T.ed) (z:=.agg uY.toArray) (places:=zpb) (vs:=[(0,Sf Sg sum),(3,Sf Sg (nth m.args 0)),(4,Sf Sg (nth m.args 1))]) (cs:=#[Sf Sg sum,Sf Sg 0,Sf Sg 0,Sf Sg (nth m.args 0),Sf Sg (nth m.args 1),Sf Sg 0,Sf Si 0,Sn Sk 0 0]) R9 R9 Sa R9 ?_
             | (refine c.wz (k:=(0,2)) (n:=2) (l:=[nth m.args 0,nth m.args 1]) S2 El.aV ?_ ?_ rfl S1 λuA h hle c=>?_
                · simp;done
                · simp;omega)
             | (refine c.ln (α:=Int) (n:=1) (vs:=[Sf Sg (nth s.i.args 0)]) (ds:=[nth s.i.args 0]) El.aV ?_ ⟨bO.2 ⟨rfl,a0⟩,trivial⟩ rfl S1 S1 λuB h W hW c huB hle=>?_
                · simp;done)
             | (refine aU (ops:=[.tmp 36]) (caps:=#[ptr O,ptr I,ptr P]) rfl R9 (vZ mx S9 c.wle (hm _) l2) ?_
                rintro um h ⟨hle,hum⟩
                have hW:=c.up (h':=h)
                have c:=c.ext hle)
             | (refine aU (ops:=[.tmp 47]) (caps:=#[ptr I]) rfl R9 (v7 mx S9 c.wle (c.own.get (k:=(0,2)) (v:=uA) (l:=[nth m.args 0,nth m.args 1]) S2) Sa l1 S0) ?_
                rintro uw h ⟨own2,mv⟩
                have c:=c.jC (k:=(0,2)) (v:=uA) (l:=[nth m.args 0,nth m.args 1]) S2 own2 mv
                obtain⟨W,hW,c,huA⟩:=c.freeze (k:=(0,2)) (v:=uw) (l:=[nth m.args 0,nth m.args 1]++s.i.args.drop 1) S2)
             | (refine af R9 (kI c.wle (hum.mono S9) (huA.mono S9) (huB.mono S9)) ?_
                rintro _ h ⟨hle,vf,rfl,hvf⟩
                have hW:=c.up (h':=h)
                have c:=c.ext hle)
             | refine c.bD (k:=(0,0)) (n:=7) (l:=fitZ) S2 hvf rfl rfl R9 Sa Sa λh l9 hl9 c=>?_
             try refine⟨Sc S9 c.wle,?_⟩
             subst hy))
        all_goals
          simp[g0,g1,g2,g3,g4,g5,g7,g8,ag,ah]
          rw[hx']
          have hall:=c.all (k:=(0,0)) (n:=7) (l:=l9) (B:=R) (e:=T.aT) S2
          simp at hall
          simp[g0,g1,g2,g3,g4,g5,g7,g8,ag,ah,hall]
          exact fin _ _ _ _ c (hl9▸hvf)
      · simp[g0,g1,g2,g3,g4,g5,g7,g8,ag,ah,ae c.wle (ae hVW i4),e0]
        refine az (t:=T.aT) (z:=.agg fitZ.toArray) (places:=zpc) (vs:=[]) (cs:=fitZ.toArray) R9 R9 Sa R9 ?_
        refine c.bD (k:=(0,0)) (n:=7) (l:=fitZ) S2 fy rfl rfl R9 Sa Sa λh9 l9 hl9 c9=>?_
        have hall:=c9.all (k:=(0,0)) (n:=7) (l:=l9) (B:=R) (e:=T.aT) S2
        simp at hall
        simp[hall]
        exact none_ _ _ _ c9 (hl9▸fy) (by simp[e0])
  refine aO V cb.wle ?_
  have c:=cb
  refine iD ?_ ?_
  · refine bJ λy hy=>?_
    simp[hus,i3,q0,d0]
    refine af R9 (hF c.wle rus hok.sm a0) ?_
    rintro _ h1 ⟨hle1,vm,rfl,hvm⟩
    have hW1:=c.up (h':=h1)
    have c:=c.ext hle1
    subst hy
    refine bJ λy hy=>?_
    simp
    refine c.dC (k:=(0,4)) (z:=.agg insZ.toArray) (d:=iA) S2 R9 mA S1 λB2 h2 hle2 c=>?_
    subst hy
    refine bJ λy hy=>?_
    simp
    refine c.iE Part.all (k:=(0,4)) (D:=iA) (d:=m) S2 R9 Sa Sa hvm λh3 c=>?_
    subst hy
    simp
    obtain⟨W4,hW4,c,hat⟩:=c.wx (k:=(0,4)) (B:=B2) (d:=m) S2
    rw[Own.fh,Own.ti S2]at c
    exact rest _ _ _ _ (Sc hW1 hW4) c hat rfl rfl rfl rfl rfl rfl rfl rfl
  · refine bJ λy hy=>?_
    simp[hus,i3,q0,d0]
    refine c.dC (k:=(0,4)) (z:=.agg insZ.toArray) (d:=iA) S2 R9 mA S1 λB2 h2 hle2 c=>?_
    refine⟨c.wle,?_⟩
    subst hy
    refine bJ λy hy=>?_
    simp
    refine af R9 (hF c.wle rus hok.sm a0) ?_
    rintro _ h1 ⟨hle1,vm,rfl,hvm⟩
    have hW1:=c.up (h':=h1)
    have c:=c.ext hle1
    subst hy
    refine bJ λy hy=>?_
    simp
    refine c.iE Part.all (k:=(0,4)) (D:=iA) (d:=m) S2 R9 Sa Sa hvm λh3 c=>?_
    subst hy
    simp
    obtain⟨W4,hW4,c,hat⟩:=c.wx (k:=(0,4)) (B:=B2) (d:=m) S2
    rw[Own.fh,Own.ti S2]at c
    exact rest _ _ _ _ (Sc hW1 hW4) c hat rfl rfl rfl rfl rfl rfl rfl rfl
end
end Go.Proofs.YtnfiilgdjpdlkaaGreatDoor
namespace Go.Lft
open Go
def DR (subs:List (Array Bool × Reg)) (l:Array Bool):Option Reg:=(subs.find? λp=>p.1 == l).map (·.2)
theorem E7{subs:List (Array Bool × Reg)}{l:Array Bool}{R:Reg}(h:DR subs l=Sj R):(l,R)∈subs:=by
 unfold DR at h;rw[OH]at h;obtain⟨p,hp,rfl⟩:=h;have h1:=R1 hp;have h2:=PW hp;have:p.1=l:=by simpa using h1
 subst this;exact h2
def KG (P:Program) (N:Nat) (ops:Array Oper) (live:List Nat) (l0:Option Nat) (listed:Array Bool) (subs:List (Array Bool × Reg)):Option Reg:=
 match oE P ops l0 ops.size listed with
 | none=>Sk
 | some (qs,l1)=>match rdy ops l1 with
  | []=>Bf P N ops live (mq ops qs)
  | rs=>jd (λi=>match ops[i]? with
   | none=>Sk
   | some o=>match DR subs (l1.setIfInBounds i Sq)with
    | some next=>tO P N ops live (mq ops qs) o (xU ops (l1.setIfInBounds i Sq)) (l0 == Sj i) next
    | none=>Sk) rs
theorem rz {f g:Nat->Option Reg} (h : ∀i X,f i=Sj X->g i=Sj X) : ∀{rs:List Nat} {R:Reg},jd f rs=Sj R->jd g rs=Sj R
 | [],_,e=>by cases e
 | [i],_,e=>h i _ e
 | i::j::rs,R,e=>by
  unfold jd at e ⊢;cases h1:f i with
  | none=>rw[h1]at e;cases e
  | some x=>
   cases h2:jd f (j::rs)with
   | none=>rw[h1,h2]at e;cases e
   | some y=>rw[h1,h2]at e;rw[h i x h1,rz h h2];exact e
theorem bL{P:Program}{N:Nat}{ops:Array Oper}{live:List Nat}{l0:Option Nat}{listed:Array Bool}{subs:List (Array Bool × Reg)}{R:Reg}{f:Nat}(h:KG P N ops live l0 listed subs=Sj R)(hs : ∀p∈subs,regD P N ops live l0 f p.1=Sj p.2):regD P N ops live l0 (f+1) listed=Sj R:=by
 unfold KG at h;unfold regD;split at h
 ·cases h
 rename_i qs l1 hq;rw[hq];simp only;split at h
 ·rename_i hr;rw[hr];exact h
 rename_i hne;split
 ·rename_i hr;exact absurd hr hne
 refine rz (λi X e=>?_) h;cases ho:ops[i]? with
 | none=>rw[ho]at e;cases e
 | some o=>
  rw[ho]at e;simp only at e ⊢;cases hb:DR subs (l1.setIfInBounds i Sq)with
  | none=>rw[hb]at e;cases e
  | some next=>rw[hb]at e;rw[hs _ (E7 hb)];exact e
def seqL:Code->Code | .seq x _=>x | x=>x
def seqR:Code->Code | .seq _ y=>y | x=>x
def J8:Code->Bool | .seq _ _=>Sq | _=>Sr
def opsR:Code->Array Oper | .region _ ops _=>ops | _=>#[]
def DM:Code->Bool | .region _ ops d=>d&&ops.all λo=>dG o.op | _=>Sr
theorem kE{P:Program}{N:Nat}{lv lr:List Nat}{b:Bool}{c:Code}{x y:LC}(hc:J8 c=Sq)(h1:dN P N lv lr b (seqL c)=Sj x)(h2:dN P N lv lr b (seqR c)=Sj y):dN P N lv lr b c=Sj (.seq x y):=by cases c<;>simp[J8]at hc;simp only[seqL,seqR]at h1 h2;simp only[dN,h1,h2]
theorem zu{P:Program}{N:Nat}{lv lr:List Nat}{b:Bool}{c:Code}{R:Reg}{l0:Option Nat}{n:Nat}(hc:DM c=Sq)(h0:Cp P (opsR c)=l0)(hn:(opsR c).size=n)(h:regD P N (opsR c) lv l0 (n+1) (Array.replicate n Sr)=Sj R):dN P N lv lr b c=Sj (.reg Sq R):=by subst h0;subst hn;cases c<;>simp[DM]at hc;simp only[opsR]at h;simp only[dN];rw[if_pos hc.1,if_pos (by simpa using hc.2),h];rfl
def uh (fn:Func):Code:=fn.body.getD .skip
theorem IF{P:Program}{fn:Func}{res:List E}{x:LC}{lv lr:List Nat}{n:Nat}(hb:fn.body.isSome=Sq)(hr:fn.results.toList.mapM (resE P)=Sj res)(h1:kM (uh fn)++tM fn (uh fn)=lv)(h2:tM fn (uh fn)=lr)(hn:fn.ntmps=n)(h:dN P n lv lr Sr (uh fn)=Sj x):aI P fn=Sj ⟨res,x⟩:=by
 subst h1;subst h2;subst hn;unfold uh at h;unfold aI;cases hb':fn.body with
 | none=>rw[hb']at hb;cases hb
 | some c=>rw[hb']at h;simp only[RX]at h;simp only[hr,h]
end Go.Lft
namespace Go.Proofs.YtnfiilgdjpdlkaaGreatDoor
open Go Go.Lft
section
set_option maxRecDepth 100000
noncomputable def L.aa.q0.ops:Array Oper:=opsR (seqL (seqR (seqR (seqR (seqR (uh Tryz.f133))))))
def L.aa.q0.r0:Reg:=(.fin [11] [] [(.tmp 65)])
def L.aa.q0.r1:Reg:=by apply(fun{b:Reg}(_:b=s [] [] (w [10,64]) (.store 101 (a 10) (a 64)) L.aa.q0.r0)=>b);simp only[sh];rfl
def L.aa.q0.r2:Reg:=by apply(fun{b:Reg}(_:b=l [33,64,65] [(64,.un (.ext 0) (t 63)),(65,.un (.ext 1) (t 63))] [] (.alloc 101) 0 10 L.aa.q0.r1)=>b);simp only[sh];rfl
def L.aa.q0.r3:Reg:=by apply(fun{b:Reg}(_:b=s [33,64,65] [(65,.un (.ext 1) (t 63))] [(10,t 10),(64,.un (.ext 0) (t 63))] (.store 101 (a 10) (a 64)) L.aa.q0.r0)=>b);simp only[sh];rfl
def L.aa.q0.r4:Reg:=by apply(fun{b:Reg}(_:b=.loud [] [] (w [46,53,62]) Sk [] Sq (x 104 [46,53,62] [80,22,22]) 102 (Sj 63) Sq L.aa.q0.r3)=>b);simp only[sh];rfl
def L.aa.q0.r5:Reg:=by apply(fun{b:Reg}(_:b=.both (.loud [] [] (w [46,53,62]) Sk [] Sq (x 104 [46,53,62] [80,22,22]) 102 (Sj 63) Sq L.aa.q0.r2) (p [] (.alloc 101) 0 10 L.aa.q0.r4))=>b);simp only[sh];rfl
def L.aa.q0.r6:Reg:=by apply(fun{b:Reg}(_:b=p (w [57,61]) (.buildSlice 22 2 #[(0,a 57),(1,a 61)]) 22 62 L.aa.q0.r4)=>b);simp only[sh];rfl
def L.aa.q0.r7:Reg:=by apply(fun{b:Reg}(_:b=.both (p (w [57,61]) (.buildSlice 22 2 #[(0,a 57),(1,a 61)]) 22 62 L.aa.q0.r5) (p [] (.alloc 101) 0 10 L.aa.q0.r6))=>b);simp only[sh];rfl
def L.aa.q0.r8:Reg:=by apply(fun{b:Reg}(_:b=p (w [47,52]) (.call ⟨.value (a 47),#[a 52],#[22]⟩) 22 53 L.aa.q0.r4)=>b);simp only[sh];rfl
def L.aa.q0.r9:Reg:=by apply(fun{b:Reg}(_:b=.both (p (w [47,52]) (.call ⟨.value (a 47),#[a 52],#[22]⟩) 22 53 L.aa.q0.r5) (p [] (.alloc 101) 0 10 L.aa.q0.r8))=>b);simp only[sh];rfl
def L.aa.q0.r10:Reg:=by apply(fun{b:Reg}(_:b=.both (p (w [47,52]) (.call ⟨.value (a 47),#[a 52],#[22]⟩) 22 53 L.aa.q0.r6) (p (w [57,61]) (.buildSlice 22 2 #[(0,a 57),(1,a 61)]) 22 62 L.aa.q0.r8))=>b);simp only[sh];rfl
def L.aa.q0.r11:Reg:=by apply(fun{b:Reg}(_:b=.both (p (w [47,52]) (.call ⟨.value (a 47),#[a 52],#[22]⟩) 22 53 L.aa.q0.r7) (.both (p (w [57,61]) (.buildSlice 22 2 #[(0,a 57),(1,a 61)]) 22 62 L.aa.q0.r9) (p [] (.alloc 101) 0 10 L.aa.q0.r10)))=>b);simp only[sh];rfl
def L.aa.q0.r12:Reg:=by apply(fun{b:Reg}(_:b=p (w [51]) (.buildSlice 22 1 #[(0,a 51)]) 22 52 L.aa.q0.r8)=>b);simp only[sh];rfl
def L.aa.q0.r13:Reg:=by apply(fun{b:Reg}(_:b=.both (p (w [51]) (.buildSlice 22 1 #[(0,a 51)]) 22 52 L.aa.q0.r9) (p [] (.alloc 101) 0 10 L.aa.q0.r12))=>b);simp only[sh];rfl
def L.aa.q0.r14:Reg:=by apply(fun{b:Reg}(_:b=.both (p (w [51]) (.buildSlice 22 1 #[(0,a 51)]) 22 52 L.aa.q0.r10) (p (w [57,61]) (.buildSlice 22 2 #[(0,a 57),(1,a 61)]) 22 62 L.aa.q0.r12))=>b);simp only[sh];rfl
def L.aa.q0.r15:Reg:=by apply(fun{b:Reg}(_:b=.both (p (w [51]) (.buildSlice 22 1 #[(0,a 51)]) 22 52 L.aa.q0.r11) (.both (p (w [57,61]) (.buildSlice 22 2 #[(0,a 57),(1,a 61)]) 22 62 L.aa.q0.r13) (p [] (.alloc 101) 0 10 L.aa.q0.r14)))=>b);simp only[sh];rfl
def L.aa.q0.r16:Reg:=by apply(fun{b:Reg}(_:b=p (w [34,45]) (.call ⟨.value (a 34),#[a 45],#[80]⟩) 80 46 L.aa.q0.r8)=>b);simp only[sh];rfl
def L.aa.q0.r17:Reg:=by apply(fun{b:Reg}(_:b=.both (p (w [34,45]) (.call ⟨.value (a 34),#[a 45],#[80]⟩) 80 46 L.aa.q0.r9) (p [] (.alloc 101) 0 10 L.aa.q0.r16))=>b);simp only[sh];rfl
def L.aa.q0.r18:Reg:=by apply(fun{b:Reg}(_:b=.both (p (w [34,45]) (.call ⟨.value (a 34),#[a 45],#[80]⟩) 80 46 L.aa.q0.r10) (p (w [57,61]) (.buildSlice 22 2 #[(0,a 57),(1,a 61)]) 22 62 L.aa.q0.r16))=>b);simp only[sh];rfl
def L.aa.q0.r19:Reg:=by apply(fun{b:Reg}(_:b=.both (p (w [34,45]) (.call ⟨.value (a 34),#[a 45],#[80]⟩) 80 46 L.aa.q0.r11) (.both (p (w [57,61]) (.buildSlice 22 2 #[(0,a 57),(1,a 61)]) 22 62 L.aa.q0.r17) (p [] (.alloc 101) 0 10 L.aa.q0.r18)))=>b);simp only[sh];rfl
def L.aa.q0.r20:Reg:=by apply(fun{b:Reg}(_:b=.both (p (w [34,45]) (.call ⟨.value (a 34),#[a 45],#[80]⟩) 80 46 L.aa.q0.r12) (p (w [51]) (.buildSlice 22 1 #[(0,a 51)]) 22 52 L.aa.q0.r16))=>b);simp only[sh];rfl
def L.aa.q0.r21:Reg:=by apply(fun{b:Reg}(_:b=.both (p (w [34,45]) (.call ⟨.value (a 34),#[a 45],#[80]⟩) 80 46 L.aa.q0.r13) (.both (p (w [51]) (.buildSlice 22 1 #[(0,a 51)]) 22 52 L.aa.q0.r17) (p [] (.alloc 101) 0 10 L.aa.q0.r20)))=>b);simp only[sh];rfl
def L.aa.q0.r22:Reg:=by apply(fun{b:Reg}(_:b=.both (p (w [34,45]) (.call ⟨.value (a 34),#[a 45],#[80]⟩) 80 46 L.aa.q0.r14) (.both (p (w [51]) (.buildSlice 22 1 #[(0,a 51)]) 22 52 L.aa.q0.r18) (p (w [57,61]) (.buildSlice 22 2 #[(0,a 57),(1,a 61)]) 22 62 L.aa.q0.r20)))=>b);simp only[sh];rfl
def L.aa.q0.r23:Reg:=by apply(fun{b:Reg}(_:b=.both (p (w [34,45]) (.call ⟨.value (a 34),#[a 45],#[80]⟩) 80 46 L.aa.q0.r15) (.both (p (w [51]) (.buildSlice 22 1 #[(0,a 51)]) 22 52 L.aa.q0.r19) (.both (p (w [57,61]) (.buildSlice 22 2 #[(0,a 57),(1,a 61)]) 22 62 L.aa.q0.r21) (p [] (.alloc 101) 0 10 L.aa.q0.r22))))=>b);simp only[sh];rfl
def L.aa.q0.r24:Reg:=by apply(fun{b:Reg}(_:b=p (w [35,39,44]) (.build 80 #[(0,a 35),(3,a 39),(6,a 44)]) 80 45 L.aa.q0.r16)=>b);simp only[sh];rfl
def L.aa.q0.r25:Reg:=by apply(fun{b:Reg}(_:b=.both (p (w [35,39,44]) (.build 80 #[(0,a 35),(3,a 39),(6,a 44)]) 80 45 L.aa.q0.r17) (p [] (.alloc 101) 0 10 L.aa.q0.r24))=>b);simp only[sh];rfl
def L.aa.q0.r26:Reg:=by apply(fun{b:Reg}(_:b=.both (p (w [35,39,44]) (.build 80 #[(0,a 35),(3,a 39),(6,a 44)]) 80 45 L.aa.q0.r18) (p (w [57,61]) (.buildSlice 22 2 #[(0,a 57),(1,a 61)]) 22 62 L.aa.q0.r24))=>b);simp only[sh];rfl
def L.aa.q0.r27:Reg:=by apply(fun{b:Reg}(_:b=.both (p (w [35,39,44]) (.build 80 #[(0,a 35),(3,a 39),(6,a 44)]) 80 45 L.aa.q0.r19) (.both (p (w [57,61]) (.buildSlice 22 2 #[(0,a 57),(1,a 61)]) 22 62 L.aa.q0.r25) (p [] (.alloc 101) 0 10 L.aa.q0.r26)))=>b);simp only[sh];rfl
def L.aa.q0.r28:Reg:=by apply(fun{b:Reg}(_:b=.both (p (w [35,39,44]) (.build 80 #[(0,a 35),(3,a 39),(6,a 44)]) 80 45 L.aa.q0.r20) (p (w [51]) (.buildSlice 22 1 #[(0,a 51)]) 22 52 L.aa.q0.r24))=>b);simp only[sh];rfl
def L.aa.q0.r29:Reg:=by apply(fun{b:Reg}(_:b=.both (p (w [35,39,44]) (.build 80 #[(0,a 35),(3,a 39),(6,a 44)]) 80 45 L.aa.q0.r21) (.both (p (w [51]) (.buildSlice 22 1 #[(0,a 51)]) 22 52 L.aa.q0.r25) (p [] (.alloc 101) 0 10 L.aa.q0.r28)))=>b);simp only[sh];rfl
def L.aa.q0.r30:Reg:=by apply(fun{b:Reg}(_:b=.both (p (w [35,39,44]) (.build 80 #[(0,a 35),(3,a 39),(6,a 44)]) 80 45 L.aa.q0.r22) (.both (p (w [51]) (.buildSlice 22 1 #[(0,a 51)]) 22 52 L.aa.q0.r26) (p (w [57,61]) (.buildSlice 22 2 #[(0,a 57),(1,a 61)]) 22 62 L.aa.q0.r28)))=>b);simp only[sh];rfl
def L.aa.q0.r31:Reg:=by apply(fun{b:Reg}(_:b=.both (l [34,35,36,37,38,39,40,41,42,43,44,47,48,49,50,51,54,55,56,57,58,59,60,61] [(34,d (t 2)),(47,d (t 4)),(51,d (i 1 (g 3 (t 7)) (c 0))),(57,d (i 1 (g 3 (t 1)) (c 0))),(61,d (i 1 (g 3 (t 7)) (c 1)))] [(35,d (t 3)),(39,d (i 1 (g 3 (t 7)) (c 0))),(44,o (.un (.conv .i32) (t 9)) (g 4 (t 1)))] (.build 80 #[(0,a 35),(3,a 39),(6,a 44)]) 80 45 L.aa.q0.r23) (.both (l [34,35,36,37,38,39,40,41,42,43,44,47,48,49,50,51,54,55,56,57,58,59,60,61] [(34,d (t 2)),(35,d (t 3)),(39,d (i 1 (g 3 (t 7)) (c 0))),(44,o (.un (.conv .i32) (t 9)) (g 4 (t 1))),(47,d (t 4)),(57,d (i 1 (g 3 (t 1)) (c 0))),(61,d (i 1 (g 3 (t 7)) (c 1)))] [(51,d (i 1 (g 3 (t 7)) (c 0)))] (.buildSlice 22 1 #[(0,a 51)]) 22 52 L.aa.q0.r27) (.both (l [34,35,36,37,38,39,40,41,42,43,44,47,48,49,50,51,54,55,56,57,58,59,60,61] [(34,d (t 2)),(35,d (t 3)),(39,d (i 1 (g 3 (t 7)) (c 0))),(44,o (.un (.conv .i32) (t 9)) (g 4 (t 1))),(47,d (t 4)),(51,d (i 1 (g 3 (t 7)) (c 0)))] [(57,d (i 1 (g 3 (t 1)) (c 0))),(61,d (i 1 (g 3 (t 7)) (c 1)))] (.buildSlice 22 2 #[(0,a 57),(1,a 61)]) 22 62 L.aa.q0.r29) (l [34,35,36,37,38,39,40,41,42,43,44,47,48,49,50,51,54,55,56,57,58,59,60,61] [(34,d (t 2)),(35,d (t 3)),(39,d (i 1 (g 3 (t 7)) (c 0))),(44,o (.un (.conv .i32) (t 9)) (g 4 (t 1))),(47,d (t 4)),(51,d (i 1 (g 3 (t 7)) (c 0))),(57,d (i 1 (g 3 (t 1)) (c 0))),(61,d (i 1 (g 3 (t 7)) (c 1)))] [] (.alloc 101) 0 10 L.aa.q0.r30))))=>b);simp only[sh];rfl
theorem E.aa.q0r0:regD Ss 76 L.aa.q0.ops [22,5,6,1,0,8,5,7,4,9,3,2,10] (Sj 29) 29 (Se 36 34359738367)=Sj L.aa.q0.r0:=bL (subs:=[]) R9 (λ_ h=>by cases h)
theorem E.aa.q0r1:regD Ss 76 L.aa.q0.ops [22,5,6,1,0,8,5,7,4,9,3,2,10] (Sj 29) 30 (Se 36 17179869183)=Sj L.aa.q0.r1:=bL (subs:=[((Se 36 34359738367),L.aa.q0.r0)]) R9 (OB.2 ⟨E.aa.q0r0,λ_ h=>by cases h⟩)
theorem E.aa.q0r2:regD Ss 76 L.aa.q0.ops [22,5,6,1,0,8,5,7,4,9,3,2,10] (Sj 29) 31 (Se 36 1073741823)=Sj L.aa.q0.r2:=bL (subs:=[((Se 36 17179869183),L.aa.q0.r1)]) R9 (OB.2 ⟨E.aa.q0r1,λ_ h=>by cases h⟩)
theorem E.aa.q0r3:regD Ss 76 L.aa.q0.ops [22,5,6,1,0,8,5,7,4,9,3,2,10] (Sj 29) 30 (Se 36 9663676415)=Sj L.aa.q0.r3:=bL (subs:=[((Se 36 34359738367),L.aa.q0.r0)]) R9 (OB.2 ⟨E.aa.q0r0,λ_ h=>by cases h⟩)
theorem E.aa.q0r4:regD Ss 76 L.aa.q0.ops [22,5,6,1,0,8,5,7,4,9,3,2,10] (Sj 29) 31 (Se 36 9126805503)=Sj L.aa.q0.r4:=bL (subs:=[((Se 36 9663676415),L.aa.q0.r3)]) R9 (OB.2 ⟨E.aa.q0r3,λ_ h=>by cases h⟩)
theorem E.aa.q0r5:regD Ss 76 L.aa.q0.ops [22,5,6,1,0,8,5,7,4,9,3,2,10] (Sj 29) 32 (Se 36 536870911)=Sj L.aa.q0.r5:=bL (subs:=[((Se 36 1073741823),L.aa.q0.r2),((Se 36 9126805503),L.aa.q0.r4)]) R9 (OB.2 ⟨E.aa.q0r2,OB.2 ⟨E.aa.q0r4,λ_ h=>by cases h⟩⟩)
theorem E.aa.q0r6:regD Ss 76 L.aa.q0.ops [22,5,6,1,0,8,5,7,4,9,3,2,10] (Sj 29) 32 (Se 36 8858370047)=Sj L.aa.q0.r6:=bL (subs:=[((Se 36 9126805503),L.aa.q0.r4)]) R9 (OB.2 ⟨E.aa.q0r4,λ_ h=>by cases h⟩)
theorem E.aa.q0r7:regD Ss 76 L.aa.q0.ops [22,5,6,1,0,8,5,7,4,9,3,2,10] (Sj 29) 33 (Se 36 268435455)=Sj L.aa.q0.r7:=bL (subs:=[((Se 36 536870911),L.aa.q0.r5),((Se 36 8858370047),L.aa.q0.r6)]) R9 (OB.2 ⟨E.aa.q0r5,OB.2 ⟨E.aa.q0r6,λ_ h=>by cases h⟩⟩)
theorem E.aa.q0r8:regD Ss 76 L.aa.q0.ops [22,5,6,1,0,8,5,7,4,9,3,2,10] (Sj 29) 32 (Se 36 9126281215)=Sj L.aa.q0.r8:=bL (subs:=[((Se 36 9126805503),L.aa.q0.r4)]) R9 (OB.2 ⟨E.aa.q0r4,λ_ h=>by cases h⟩)
theorem E.aa.q0r9:regD Ss 76 L.aa.q0.ops [22,5,6,1,0,8,5,7,4,9,3,2,10] (Sj 29) 33 (Se 36 536346623)=Sj L.aa.q0.r9:=bL (subs:=[((Se 36 536870911),L.aa.q0.r5),((Se 36 9126281215),L.aa.q0.r8)]) R9 (OB.2 ⟨E.aa.q0r5,OB.2 ⟨E.aa.q0r8,λ_ h=>by cases h⟩⟩)
theorem E.aa.H7:regD Ss 76 L.aa.q0.ops [22,5,6,1,0,8,5,7,4,9,3,2,10] (Sj 29) 33 (Se 36 8857845759)=Sj L.aa.q0.r10:=bL (subs:=[((Se 36 8858370047),L.aa.q0.r6),((Se 36 9126281215),L.aa.q0.r8)]) R9 (OB.2 ⟨E.aa.q0r6,OB.2 ⟨E.aa.q0r8,λ_ h=>by cases h⟩⟩)
theorem E.aa.Kq:regD Ss 76 L.aa.q0.ops [22,5,6,1,0,8,5,7,4,9,3,2,10] (Sj 29) 34 (Se 36 267911167)=Sj L.aa.q0.r11:=bL (subs:=[((Se 36 268435455),L.aa.q0.r7),((Se 36 536346623),L.aa.q0.r9),((Se 36 8857845759),L.aa.q0.r10)]) R9 (OB.2 ⟨E.aa.q0r7,OB.2 ⟨E.aa.q0r9,OB.2 ⟨E.aa.H7,λ_ h=>by cases h⟩⟩⟩)
theorem E.aa.Iv:regD Ss 76 L.aa.q0.ops [22,5,6,1,0,8,5,7,4,9,3,2,10] (Sj 29) 33 (Se 36 9126019071)=Sj L.aa.q0.r12:=bL (subs:=[((Se 36 9126281215),L.aa.q0.r8)]) R9 (OB.2 ⟨E.aa.q0r8,λ_ h=>by cases h⟩)
theorem E.aa.KL:regD Ss 76 L.aa.q0.ops [22,5,6,1,0,8,5,7,4,9,3,2,10] (Sj 29) 34 (Se 36 536084479)=Sj L.aa.q0.r13:=bL (subs:=[((Se 36 536346623),L.aa.q0.r9),((Se 36 9126019071),L.aa.q0.r12)]) R9 (OB.2 ⟨E.aa.q0r9,OB.2 ⟨E.aa.Iv,λ_ h=>by cases h⟩⟩)
theorem E.aa.Kj:regD Ss 76 L.aa.q0.ops [22,5,6,1,0,8,5,7,4,9,3,2,10] (Sj 29) 34 (Se 36 8857583615)=Sj L.aa.q0.r14:=bL (subs:=[((Se 36 8857845759),L.aa.q0.r10),((Se 36 9126019071),L.aa.q0.r12)]) R9 (OB.2 ⟨E.aa.H7,OB.2 ⟨E.aa.Iv,λ_ h=>by cases h⟩⟩)
theorem E.aa.Nd:regD Ss 76 L.aa.q0.ops [22,5,6,1,0,8,5,7,4,9,3,2,10] (Sj 29) 35 (Se 36 267649023)=Sj L.aa.q0.r15:=bL (subs:=[((Se 36 267911167),L.aa.q0.r11),((Se 36 536084479),L.aa.q0.r13),((Se 36 8857583615),L.aa.q0.r14)]) R9 (OB.2 ⟨E.aa.Kq,OB.2 ⟨E.aa.KL,OB.2 ⟨E.aa.Kj,λ_ h=>by cases h⟩⟩⟩)
theorem E.aa.Ea:regD Ss 76 L.aa.q0.ops [22,5,6,1,0,8,5,7,4,9,3,2,10] (Sj 29) 33 (Se 36 9126277119)=Sj L.aa.q0.r16:=bL (subs:=[((Se 36 9126281215),L.aa.q0.r8)]) R9 (OB.2 ⟨E.aa.q0r8,λ_ h=>by cases h⟩)
theorem E.aa.GA:regD Ss 76 L.aa.q0.ops [22,5,6,1,0,8,5,7,4,9,3,2,10] (Sj 29) 34 (Se 36 536342527)=Sj L.aa.q0.r17:=bL (subs:=[((Se 36 536346623),L.aa.q0.r9),((Se 36 9126277119),L.aa.q0.r16)]) R9 (OB.2 ⟨E.aa.q0r9,OB.2 ⟨E.aa.Ea,λ_ h=>by cases h⟩⟩)
theorem E.aa.Iw:regD Ss 76 L.aa.q0.ops [22,5,6,1,0,8,5,7,4,9,3,2,10] (Sj 29) 34 (Se 36 8857841663)=Sj L.aa.q0.r18:=bL (subs:=[((Se 36 8857845759),L.aa.q0.r10),((Se 36 9126277119),L.aa.q0.r16)]) R9 (OB.2 ⟨E.aa.H7,OB.2 ⟨E.aa.Ea,λ_ h=>by cases h⟩⟩)
theorem E.aa.Ks:regD Ss 76 L.aa.q0.ops [22,5,6,1,0,8,5,7,4,9,3,2,10] (Sj 29) 35 (Se 36 267907071)=Sj L.aa.q0.r19:=bL (subs:=[((Se 36 267911167),L.aa.q0.r11),((Se 36 536342527),L.aa.q0.r17),((Se 36 8857841663),L.aa.q0.r18)]) R9 (OB.2 ⟨E.aa.Kq,OB.2 ⟨E.aa.GA,OB.2 ⟨E.aa.Iw,λ_ h=>by cases h⟩⟩⟩)
theorem E.aa.Hx:regD Ss 76 L.aa.q0.ops [22,5,6,1,0,8,5,7,4,9,3,2,10] (Sj 29) 34 (Se 36 9126014975)=Sj L.aa.q0.r20:=bL (subs:=[((Se 36 9126019071),L.aa.q0.r12),((Se 36 9126277119),L.aa.q0.r16)]) R9 (OB.2 ⟨E.aa.Iv,OB.2 ⟨E.aa.Ea,λ_ h=>by cases h⟩⟩)
theorem E.aa.Kt:regD Ss 76 L.aa.q0.ops [22,5,6,1,0,8,5,7,4,9,3,2,10] (Sj 29) 35 (Se 36 536080383)=Sj L.aa.q0.r21:=bL (subs:=[((Se 36 536084479),L.aa.q0.r13),((Se 36 536342527),L.aa.q0.r17),((Se 36 9126014975),L.aa.q0.r20)]) R9 (OB.2 ⟨E.aa.KL,OB.2 ⟨E.aa.GA,OB.2 ⟨E.aa.Hx,λ_ h=>by cases h⟩⟩⟩)
theorem E.aa.Ka:regD Ss 76 L.aa.q0.ops [22,5,6,1,0,8,5,7,4,9,3,2,10] (Sj 29) 35 (Se 36 8857579519)=Sj L.aa.q0.r22:=bL (subs:=[((Se 36 8857583615),L.aa.q0.r14),((Se 36 8857841663),L.aa.q0.r18),((Se 36 9126014975),L.aa.q0.r20)]) R9 (OB.2 ⟨E.aa.Kj,OB.2 ⟨E.aa.Iw,OB.2 ⟨E.aa.Hx,λ_ h=>by cases h⟩⟩⟩)
theorem E.aa.MV:regD Ss 76 L.aa.q0.ops [22,5,6,1,0,8,5,7,4,9,3,2,10] (Sj 29) 36 (Se 36 267644927)=Sj L.aa.q0.r23:=bL (subs:=[((Se 36 267649023),L.aa.q0.r15),((Se 36 267907071),L.aa.q0.r19),((Se 36 536080383),L.aa.q0.r21),((Se 36 8857579519),L.aa.q0.r22)]) R9 (OB.2 ⟨E.aa.Nd,OB.2 ⟨E.aa.Ks,OB.2 ⟨E.aa.Kt,OB.2 ⟨E.aa.Ka,λ_ h=>by cases h⟩⟩⟩⟩)
theorem E.aa.GC:regD Ss 76 L.aa.q0.ops [22,5,6,1,0,8,5,7,4,9,3,2,10] (Sj 29) 34 (Se 36 9126275071)=Sj L.aa.q0.r24:=bL (subs:=[((Se 36 9126277119),L.aa.q0.r16)]) R9 (OB.2 ⟨E.aa.Ea,λ_ h=>by cases h⟩)
theorem E.aa.KJ:regD Ss 76 L.aa.q0.ops [22,5,6,1,0,8,5,7,4,9,3,2,10] (Sj 29) 35 (Se 36 536340479)=Sj L.aa.q0.r25:=bL (subs:=[((Se 36 536342527),L.aa.q0.r17),((Se 36 9126275071),L.aa.q0.r24)]) R9 (OB.2 ⟨E.aa.GA,OB.2 ⟨E.aa.GC,λ_ h=>by cases h⟩⟩)
theorem E.aa.J9:regD Ss 76 L.aa.q0.ops [22,5,6,1,0,8,5,7,4,9,3,2,10] (Sj 29) 35 (Se 36 8857839615)=Sj L.aa.q0.r26:=bL (subs:=[((Se 36 8857841663),L.aa.q0.r18),((Se 36 9126275071),L.aa.q0.r24)]) R9 (OB.2 ⟨E.aa.Iw,OB.2 ⟨E.aa.GC,λ_ h=>by cases h⟩⟩)
theorem E.aa.Nj:regD Ss 76 L.aa.q0.ops [22,5,6,1,0,8,5,7,4,9,3,2,10] (Sj 29) 36 (Se 36 267905023)=Sj L.aa.q0.r27:=bL (subs:=[((Se 36 267907071),L.aa.q0.r19),((Se 36 536340479),L.aa.q0.r25),((Se 36 8857839615),L.aa.q0.r26)]) R9 (OB.2 ⟨E.aa.Ks,OB.2 ⟨E.aa.KJ,OB.2 ⟨E.aa.J9,λ_ h=>by cases h⟩⟩⟩)
theorem E.aa.Ku:regD Ss 76 L.aa.q0.ops [22,5,6,1,0,8,5,7,4,9,3,2,10] (Sj 29) 35 (Se 36 9126012927)=Sj L.aa.q0.r28:=bL (subs:=[((Se 36 9126014975),L.aa.q0.r20),((Se 36 9126275071),L.aa.q0.r24)]) R9 (OB.2 ⟨E.aa.Hx,OB.2 ⟨E.aa.GC,λ_ h=>by cases h⟩⟩)
theorem E.aa.Ng:regD Ss 76 L.aa.q0.ops [22,5,6,1,0,8,5,7,4,9,3,2,10] (Sj 29) 36 (Se 36 536078335)=Sj L.aa.q0.r29:=bL (subs:=[((Se 36 536080383),L.aa.q0.r21),((Se 36 536340479),L.aa.q0.r25),((Se 36 9126012927),L.aa.q0.r28)]) R9 (OB.2 ⟨E.aa.Kt,OB.2 ⟨E.aa.KJ,OB.2 ⟨E.aa.Ku,λ_ h=>by cases h⟩⟩⟩)
theorem E.aa.MR:regD Ss 76 L.aa.q0.ops [22,5,6,1,0,8,5,7,4,9,3,2,10] (Sj 29) 36 (Se 36 8857577471)=Sj L.aa.q0.r30:=bL (subs:=[((Se 36 8857579519),L.aa.q0.r22),((Se 36 8857839615),L.aa.q0.r26),((Se 36 9126012927),L.aa.q0.r28)]) R9 (OB.2 ⟨E.aa.Ka,OB.2 ⟨E.aa.J9,OB.2 ⟨E.aa.Ku,λ_ h=>by cases h⟩⟩⟩)
theorem E.aa.ME:regD Ss 76 L.aa.q0.ops [22,5,6,1,0,8,5,7,4,9,3,2,10] (Sj 29) 37 (Array.replicate 36 Sr)=Sj L.aa.q0.r31:=bL (subs:=[((Se 36 267644927),L.aa.q0.r23),((Se 36 267905023),L.aa.q0.r27),((Se 36 536078335),L.aa.q0.r29),((Se 36 8857577471),L.aa.q0.r30)]) R9 (OB.2 ⟨E.aa.MV,OB.2 ⟨E.aa.Nj,OB.2 ⟨E.aa.Ng,OB.2 ⟨E.aa.MR,λ_ h=>by cases h⟩⟩⟩⟩)
def L.aa:LFn:=
⟨[(.un (.bV 8) (.tmp 5)),(.tmp 6)],
 (.seq
 (.reg Sr (.loud [] [] [] Sk [] Sr (.alloc 101) 0 (Sj 5) Sq
  (.fin [6] [(6,(.con (.bool Sr)))] [])))
 (.seq
 (.reg Sq (.both
  (.loud [13,14,15,16,17] [] [(13,(.un (.bV 13) (.tmp 0))),(17,(.un .load (.bin (.idx 1) (.un .load (.un (.fld 3) (.tmp 1))) (.con (Sf Sg 0)))))] Sk [] Sq (.call ⟨.value (.func 100),#[(.tmp 13),(.tmp 17),(.const (Sf Sg 2))],#[97,3,3]⟩) 163 (Sj 18) Sq
   (.loud [12,19,20] [(19,(.un (.ext 0) (.tmp 18))),(20,(.un (.ext 1) (.tmp 18)))] [] Sk [] Sr (.alloc 70) 0 (Sj 7) Sq
    (.loud [] [] [(7,(.tmp 7)),(19,(.tmp 19))] Sk [] Sr (.store 70 (.tmp 7) (.tmp 19)) 0 Sk Sr
     (.fin [8] [(8,(.tmp 20))] []))))
  (.loud [13,14,15,16,17] [(13,(.un (.bV 13) (.tmp 0))),(17,(.un .load (.bin (.idx 1) (.un .load (.un (.fld 3) (.tmp 1))) (.con (Sf Sg 0)))))] [] Sk [] Sr (.alloc 70) 0 (Sj 7) Sq
   (.loud [] [] [(13,(.tmp 13)),(17,(.tmp 17))] Sk [] Sq (.call ⟨.value (.func 100),#[(.tmp 13),(.tmp 17),(.const (Sf Sg 2))],#[97,3,3]⟩) 163 (Sj 18) Sq
    (.loud [12,19,20] [(20,(.un (.ext 1) (.tmp 18)))] [(7,(.tmp 7)),(19,(.un (.ext 0) (.tmp 18)))] Sk [] Sr (.store 70 (.tmp 7) (.tmp 19)) 0 Sk Sr
     (.fin [8] [(8,(.tmp 20))] []))))))
 (.seq
 (.seq
 (.reg Sr (.fin [21,22] [(22,(.un .not (.tmp 8)))] []))
 (.cond (.tmp 22) [22]
  (.seq
  (.reg Sr (.loud [] [] [] Sk [] Sr (.build 101 #[]) 101 (Sj 23) Sq
   (.loud [] [] [(5,(.tmp 5)),(23,(.tmp 23))] Sk [] Sr (.store 101 (.tmp 5) (.tmp 23)) 0 Sk Sr
    (.fin [6] [(6,(.con (.bool Sr)))] []))))
  .ret)
  .skip))
 (.seq
 (.reg Sq (.loud [25,26,27,28,29] [] [(25,(.un (.bV 13) (.tmp 0))),(29,(.un .load (.bin (.idx 1) (.un .load (.un (.fld 3) (.tmp 7))) (.con (Sf Sg 1)))))] Sk [] Sq (.call ⟨.value (.func 109),#[(.tmp 25),(.tmp 29),(.const (Sf Sg (-2147483648))),(.const (Sf Sg 2147483647))],#[97,3,3,3]⟩) 167 (Sj 30) Sq
  (.fin [24,31,32,9,8] [(9,(.un (.ext 0) (.tmp 30))),(8,(.un (.ext 1) (.tmp 30)))] [])))
 (.seq
 (.reg Sq L.aa.q0.r31)
 (.seq
 (.reg Sq (.loud [66,67,68,69,70,71,72,73] [(66,(.un (.bV 8) (.tmp 10))),(68,(.tmp 8))] [(73,(.gd (.tmp 8) Sq (.bin (.arith .add) (.tmp 9) (.un (.conv .i64) (.un .load (.un (.fld 4) (.tmp 1)))))))] (Sj ((.tmp 8),Sq)) [] Sr (.call ⟨.value (.func 42),#[(.tmp 73),(.const (Sf Sg 0)),(.const (Sf Sg 255))],#[3,3,3]⟩) 4 (Sj 74) Sq
  (.loud [75] [(75,(.ite (.tmp 68) (.tmp 74) (.con (.bool Sr))))] [(5,(.tmp 5)),(66,(.tmp 66))] Sk [] Sq (.store 101 (.tmp 5) (.tmp 66)) 0 Sk Sr
   (.fin [6] [(6,(.tmp 75))] []))))
 .ret))))))⟩
theorem E.aa:aI Ss Tryz.f133=Sj L.aa:=IF (lv:=[22,5,6,1,0,8,5,7,4,9,3,2,10]) (lr:=[5,6,1,0,8,5,7,4,9,3,2,10]) (n:=76) R9 R9 R9 R9 R9
 (kE R9 R9
 (kE R9 R9
 (kE R9 R9
 (kE R9 R9
 (kE R9 (zu (l0:=(Sj 29)) (n:=36) R9 R9 R9 E.aa.ME)
 (kE R9 R9
 R9))))))
end
theorem wrap32_in{a:Int}(h0:-2147483648<=a)(h1:a<=2147483647):IntKind.i32.wrap a=a:=by unfold IntKind.wrap;simp[IntKind.signed,IntKind.bits];omega
section
variable {V:View} {h:Heap} {S I O P Q LL TT:Nat} {s:bY} {op plain sum:Int}
set_option maxHeartbeats 4000000 in
theorem J4(mx:Mx V S I O P Q LL TT s op plain sum)(hV:V.le (vw h))(hok:mC s)(hop:s.i.op=op)(ho:op=15\/op=16)(hp0:0<=plain/\plain<=100):
    aw Ss 133 #[ptr S,ptr I,ptr LL,ptr P,ptr TT] h (λu h'=>bR V h h' u (memS s.f s.i s.temp op plain sum 1)):=by
  refine aj (args:=[ptr S,ptr I,ptr LL,ptr P,ptr TT]) follows Tryz.func133 E.aa S8 λK hK=>?_
  dsimp only[L.aa,lkF,lkG]
  have c0:=Cx.start hV
  have l1:1<=s.i.args.length:=by
    rcases ho with q | q
    · exact hok.one.one (hop.trans q)
    · have:=hok.one.two (.inr (.inl (hop.trans q)));omega
  have l2:op=15\/2<=s.i.args.length:=ho.imp id λq=>hok.one.two (.inr (.inl (hop.trans q)))
  refine ab λz hz=>?_
  simp
  refine c0.cC (k:=(0,0)) (n:=7) (z:=.agg fitZ.toArray) rfl R9 rfl S1 S6 λR hb hleb cb=>?_
  subst hz
  have i4:=(mx.ct.ins.part InsD.je)
  have r4:=i4.pb
  have i4:ak V ⟨I,4,Sk⟩=Sj (Sf Si s.i.imm.v):=by simpa using i4.i32
  obtain⟨va,i3,hva⟩:=(mx.ct.ins.part InsD.eS).sl
  have i3:ak V ⟨I,3,Sk⟩=Sj va:=by simpa using i3
  have a0:=hva.rng (i:=0) S0
  have most:=hok.one.most
  have q0:=hva.idx1 (k:=.i64) (i:=0) rfl S1 S0
  have d0:=hva.int (View.le_refl V) (i:=0) S0
  simp at q0
  obtain⟨us,hus,rus⟩:=mx.ct.site.ldN rfl (N:=13) rfl
  have hus:=hus V Sb
  have hfm:=dm (f:=s.f) (v:=nth s.i.args 0) (op:=2)
  have hdo:memS s.f s.i s.temp op plain sum 1=if(aD s.f (nth s.i.args 0) 2).2 then
      if(dW s.f (nth (aD s.f (nth s.i.args 0) 2).1.args 1) (-2147483648) 2147483647).2&&inR ((dW s.f (nth (aD s.f (nth s.i.args 0) 2).1.args 1) (-2147483648) 2147483647).1+s.i.imm.v) 0 255 then
        Sj ⟨nth (aD s.f (nth s.i.args 0) 2).1.args 0::s.i.args.drop 1,[nth s.i.args 0,nth (aD s.f (nth s.i.args 0) 2).1.args 1],
          [gk s.i op plain ⟨plain,0,0,nth (aD s.f (nth s.i.args 0) 2).1.args 0,0,0,w32 ((dW s.f (nth (aD s.f (nth s.i.args 0) 2).1.args 1) (-2147483648) 2147483647).1+s.i.imm.v),[]⟩],dH⟩
      else Sk
    else none:=rfl
  have hF:=@nM s us (nth s.i.args 0) 2
  generalize (aD s.f (nth s.i.args 0) 2).1=m at *
  generalize (aD s.f (nth s.i.args 0) 2).2=b at *
  refine ab λz hz=>?_
  have rest : ∀(W:View) (hx:Heap) (B2:Nat) (ρ:Env),V.le W->Cx V h W hx (Own.upd (λ_=>Sk) (0,0) (bx T.aT R (RawN.mk (n:=7) fitZ)))->At W ⟨B2,0,Sk⟩ m->
      Lft.look ρ 0=Sj (ptr S)->Lft.look ρ 1=Sj (ptr I)->Lft.look ρ 2=Sj (ptr LL)->Lft.look ρ 3=Sj (ptr P)->Lft.look ρ 4=Sj (ptr TT)->Lft.look ρ 5=Sj (ptr R)->Lft.look ρ 7=Sj (ptr B2)->Lft.look ρ 8=Sj (.bool b)->
      LC.wp Ss z (dF [.un (.bV 8) (.tmp 5),.tmp 6] K) ρ hx:=by
    intro W hx B2 ρ hVW c hat g0 g1 g2 g3 g4 g5 g7 g8
    rw[hz]
    refine ab λx hx'=>?_
    have none_ : ∀(hy:Heap) (o:Own) (l9:List Value),Cx V h W hy o->Rd W (.agg l9.toArray) Ha->b=Sr->K (.tuple #[.agg l9.toArray,.bool Sr]) hy:=λhy o l9 c hr e=>
      hK _ _ (bR.of c hr (by rw[hdo,e];rfl) λy e2=>by rw[hdo,e]at e2;cases e2)
    cases b with
    | false=>
      simp[g0,g1,g2,g3,g4,g5,g7,ag,ah,g8]
      refine az (t:=T.aT) (z:=.agg fitZ.toArray) (places:=zpc) (vs:=[]) (cs:=fitZ.toArray) R9 R9 Sa R9 ?_
      refine c.bD (k:=(0,0)) (n:=7) (l:=fitZ) S2 fy rfl rfl R9 Sa Sa λh9 l9 hl9 c9=>?_
      have hall:=c9.all (k:=(0,0)) (n:=7) (l:=l9) (B:=R) (e:=T.aT) S2
      simp at hall
      simp[hall]
      exact none_ _ _ _ c9 (hl9▸fy) rfl
    | true=>
      obtain⟨m1,m2,-⟩:=hfm rfl
      have hma:=(hok.all _ m1).two S0
      obtain⟨vb,j3,hvb⟩:=(hat.part InsD.eS).sl
      have j3:ak W ⟨B2,3,Sk⟩=Sj vb:=by simpa using j3
      have b0:=hvb.rng (i:=0) S0
      have b1:=hvb.rng (i:=1) S0
      have q2:=hvb.idx1 (k:=.i64) (i:=0) rfl S1 S0
      have q3:=hvb.idx1 (k:=.i64) (i:=1) rfl S1 S0
      have d2:=hvb.int (View.le_refl W) (i:=0) S0
      have d3:=hvb.int (View.le_refl W) (i:=1) S0
      simp at q2 q3
      have i4:=ae hVW i4
      have i3:=ae hVW i3
      have d0:=ae hVW d0
      have hus:=dD (ρ:=λ_=>Sk) (e:=.un (.bV 13) (.con (ptz S))) hVW (v:=us) (by simpa using hus)
      have hus:Un.ev W (.bV 13) (ptz S)=Sj us:=by simpa using hus
      have rus:=rus.mono hVW
      have eL:=ae hVW mx.laid
      have eT:=ae hVW mx.with_
      have eP:=ae hVW mx.plain
      have mx:=mx.mono hVW
      simp[g0,g1,g2,g3,g4,g5,g7,ag,ah,g8]
      rw[hx'];clear hx' x
      refine ab λx hx'=>?_
      refine aO W c.wle ?_
      simp[g0,g1,g2,g3,g4,g5,g7,ag,ah,hus,j3,q3,d3]
      refine af R9 (vz c.wle rus hok.sm b1) ?_
      rintro _ hc ⟨hle,rfl⟩
      have rk:-2147483648<=(dW s.f (nth m.args 1) (-2147483648) 2147483647).1/\(dW s.f (nth m.args 1) (-2147483648) 2147483647).1<=2147483647:=wG hok.rng
      generalize (dW s.f (nth m.args 1) (-2147483648) 2147483647).1=k at *
      generalize (dW s.f (nth m.args 1) (-2147483648) 2147483647).2=ok at *
      have cc:Cx V h W hc _:=⟨c.own.ext' hle,c.old,Sc c.le0 hle,c.new⟩
      simp[g0,g1,g2,g3,g4,g5,g7,ag,ah]
      rw[hx'];clear hx' x
      have ei:IntKind.i32.wrap k=k:=wrap32_in rk.1 rk.2
      have e2:IntKind.i64.wrap s.i.imm.v=s.i.imm.v:=bC S0 S0
      have e3:IntKind.i64.wrap (k+s.i.imm.v)=k+s.i.imm.v:=bC S0 S0
      have hm : ∀X,Rd X (.agg #[Sf Sg plain,Sf Sg 0,Sf Sg 0,Sf Sg (nth m.args 0),Sf Sg 0,Sf Sg 0,Sf Si (IntKind.i32.wrap (k+s.i.imm.v)),Sn Sk 0 0]) (⟨plain,0,0,nth m.args 0,0,0,w32 (k+s.i.imm.v),[]⟩:aZ):=λX=>iH (imm:=w32 (k+s.i.imm.v)) S7 (Ef _) aQ
      have fin : ∀(W:View) (hx:Heap) (o:Own) (l9:List Value),Cx V h W hx o->Rd W (.agg l9.toArray) (⟨nth m.args 0::s.i.args.drop 1,[nth s.i.args 0,nth m.args 1],[gk s.i op plain ⟨plain,0,0,nth m.args 0,0,0,w32 (k+s.i.imm.v),[]⟩],dH⟩:FitD)->K (.tuple #[.agg l9.toArray,.bool (ok&&inR (k+s.i.imm.v) 0 255)]) hx:=λW hx o l9 c hr=>
        hK _ _ (bR.of c hr (by rw[hdo];cases ok&&inR (k+s.i.imm.v) 0 255<;>rfl) λy e=>by
          rw[hdo,if_pos rfl]at e
          split at e
          · cases e;rfl
          · cases e)
      clear none_ hK hdo hF hfm hus
      refine ab λx hx'=>?_
      have tl : ∀(h2:Heap) (W2:View) (o:Own) (R2:Nat) (l9:List Value) (ρ2:Env),W.le W2->Cx V h W2 h2 o->o (0,0)=bx T.aT R (RawN.mk (n:=7) fitZ)->o (0,1)=bx T.aT R2 (RawN.mk (n:=7) l9)->Rd W2 (.agg l9.toArray) (⟨nth m.args 0::s.i.args.drop 1,[nth s.i.args 0,nth m.args 1],[gk s.i op plain ⟨plain,0,0,nth m.args 0,0,0,w32 (k+s.i.imm.v),[]⟩],dH⟩:FitD)->
          Lft.look ρ2 1=Sj (ptr I)->Lft.look ρ2 5=Sj (ptr R)->Lft.look ρ2 8=Sj (.bool ok)->Lft.look ρ2 9=Sj (Sf Sg k)->Lft.look ρ2 10=Sj (ptr R2)->LC.wp Ss x (dF [.un (.bV 8) (.tmp 5),.tmp 6] K) ρ2 h2:=by
        intro h2 W2 o R2 l9 ρ2 hW2 c ho1 ho2 hr f1 f5 f8 f9 f10
        rw[hx']
        refine ab λv hv=>?_
        have hall:=c.all (k:=(0,1)) (n:=7) (l:=l9) (B:=R2) (e:=T.aT) ho2
        simp at hall
        refine aO (vw h2) Sb ?_
        have last : ∀(b:Bool) (ρ3:Env),Lft.look ρ3 5=Sj (ptr R)->Lft.look ρ3 6=Sj (.bool (ok&&inR (k+s.i.imm.v) 0 255))->∀h3 l3,Cx V h W2 h3 (o.upd (0,0) (bx T.aT R (RawN.mk (n:=7) l3)))->Value.agg l9.toArray=Value.agg l3.toArray->LC.wp Ss v (dF [.un (.bV 8) (.tmp 5),.tmp 6] K) ρ3 h3:=λb ρ3 k5 k6 h3 l3 c3 el=>by
          rw[hv]
          have hall:=c3.all (k:=(0,0)) (n:=7) (l:=l3) (B:=R) (e:=T.aT) Own.ao
          simp at hall
          simp[k5,k6,hall]
          exact fin _ _ _ _ c3 (el▸hr)
        refine bJ λy hy=>?_
        cases ok with
        | false=>
          simp[f1,f5,f8,f9,f10,ag,ah,hall,ae (Sc hW2 c.wle) i4,e2,e3]
          subst hy
          refine bJ λy hy=>?_
          simp[f1,f5,f8,f9,f10,ag,ah]
          refine c.bD (k:=(0,0)) (n:=7) (l:=fitZ) ho1 hr rfl rfl R9 Sa Sa λh4 l4 hl4 c4=>?_
          subst hy
          simp[f1,f5,f8,f9,f10,ag,ah]
          exact last Sr _ (by simp[f1,f5,f8,f9,f10,ag,ah]) (by simp[f1,f5,f8,f9,f10,ag,ah]) _ _ c4 hl4
        | true=>
          simp[f1,f5,f8,f9,f10,ag,ah,hall,ae (Sc hW2 c.wle) i4,e2,e3]
          refine af R9 jo ?_
          rintro _ h3 ⟨rfl,rfl⟩
          refine⟨View.le_refl _,?_⟩
          subst hy
          refine bJ λy hy=>?_
          simp[f1,f5,f8,f9,f10,ag,ah]
          refine c.bD (k:=(0,0)) (n:=7) (l:=fitZ) ho1 hr rfl rfl R9 Sa Sa λh4 l4 hl4 c4=>?_
          subst hy
          simp[f1,f5,f8,f9,f10,ag,ah]
          exact last Sr _ (by simp[f1,f5,f8,f9,f10,ag,ah]) (by simp[f1,f5,f8,f9,f10,ag,ah]) _ _ c4 hl4
      clear fin
      have c:=cc
      refine aO W c.wle ?_
      have hWV:W.le W:=View.le_refl _
      repeat' (first
        | refine iD ?_ ?_
        | (refine bJ λy hy=>?_
           simp[g0,g1,g2,g3,g4,g5,g7,ag,ah,i3,i4,j3,q0,q2,q3,d0,d2,d3,eL,eT,eP,ei]
           first
           | refine az (t:=T.ed) (z:=.agg uY.toArray) (places:=zpb) (vs:=[(0,Sf Sg plain),(3,Sf Sg (nth m.args 0)),(6,Sf Si (IntKind.i32.wrap (k+s.i.imm.v)))]) (cs:=#[Sf Sg plain,Sf Sg 0,Sf Sg 0,Sf Sg (nth m.args 0),Sf Sg 0,Sf Sg 0,Sf Si (IntKind.i32.wrap (k+s.i.imm.v)),Sn Sk 0 0]) R9 R9 Sa R9 ?_
           | (refine c.wz (k:=(0,2)) (n:=1) (l:=[nth m.args 0]) S2 El.aV ?_ ?_ rfl S1 λuA h hle c=>?_
              · simp;done
              · simp;omega)
           | (refine c.ln (α:=Int) (n:=2) (vs:=[Sf Sg (nth s.i.args 0),Sf Sg (nth m.args 1)]) (ds:=[nth s.i.args 0,nth m.args 1]) El.aV ?_ ⟨bO.2 ⟨rfl,a0⟩,bO.2 ⟨rfl,b1⟩,trivial⟩ rfl S1 S1 λuB h W hW c huB hle=>?_
              · simp;done)
           | (refine aU (ops:=[.tmp 45]) (caps:=#[ptr O,ptr I,ptr P]) rfl R9 (vZ mx S9 c.wle (hm _) l2) ?_
              rintro um h ⟨hle,hum⟩
              have hW:=c.up (h':=h)
              have c:=c.ext hle)
           | (refine aU (ops:=[.tmp 52]) (caps:=#[ptr I]) rfl R9 (v7 mx S9 c.wle (c.own.get (k:=(0,2)) (v:=uA) (l:=[nth m.args 0]) S2) Sa l1 S0) ?_
              rintro uw h ⟨own2,mv⟩
              have c:=c.jC (k:=(0,2)) (v:=uA) (l:=[nth m.args 0]) S2 own2 mv
              obtain⟨W,hW,c,huA⟩:=c.freeze (k:=(0,2)) (v:=uw) (l:=[nth m.args 0]++s.i.args.drop 1) S2)
           | refine c.cC (k:=(0,1)) (n:=7) (z:=.agg fitZ.toArray) S2 R9 rfl S1 S6 λR2 h hle c=>?_
           | (refine af R9 (kI c.wle (hum.mono S9) (huA.mono S9) (huB.mono S9)) ?_
              rintro _ h ⟨hle,vf,rfl,hvf⟩
              have hW:=c.up (h':=h)
              have c:=c.ext hle)
           | refine c.bD (k:=(0,1)) (n:=7) (l:=fitZ) S2 (hvf.mono S9) rfl rfl R9 Sa Sa λh l9 hl9 c=>?_
           try refine⟨Sc S9 c.wle,?_⟩
           subst hy))
      all_goals
        simp[g0,g1,g2,g3,g4,g5,g7,ag,ah,L.aa.q0.r0]
        exact tl _ _ _ _ _ _ S9 c S2 S2 (hl9▸hvf.mono S9) (by simp[g0,g1,g2,g3,g4,g5,g7,ag,ah]) (by simp[g0,g1,g2,g3,g4,g5,g7,ag,ah]) (by simp[g0,g1,g2,g3,g4,g5,g7,ag,ah]) (by simp[g0,g1,g2,g3,g4,g5,g7,ag,ah]) (by simp[g0,g1,g2,g3,g4,g5,g7,ag,ah])
  refine aO V cb.wle ?_
  have c:=cb
  refine iD ?_ ?_
  · refine bJ λy hy=>?_
    simp[hus,i3,q0,d0]
    refine af R9 (hF c.wle rus hok.sm a0) ?_
    rintro _ h1 ⟨hle1,vm,rfl,hvm⟩
    have hW1:=c.up (h':=h1)
    have c:=c.ext hle1
    subst hy
    refine bJ λy hy=>?_
    simp
    refine c.dC (k:=(0,4)) (z:=.agg insZ.toArray) (d:=iA) S2 R9 mA S1 λB2 h2 hle2 c=>?_
    subst hy
    refine bJ λy hy=>?_
    simp
    refine c.iE Part.all (k:=(0,4)) (D:=iA) (d:=m) S2 R9 Sa Sa hvm λh3 c=>?_
    subst hy
    simp
    obtain⟨W4,hW4,c,hat⟩:=c.wx (k:=(0,4)) (B:=B2) (d:=m) S2
    rw[Own.fh,Own.ti S2]at c
    exact rest _ _ _ _ (Sc hW1 hW4) c hat rfl rfl rfl rfl rfl rfl rfl rfl
  · refine bJ λy hy=>?_
    simp[hus,i3,q0,d0]
    refine c.dC (k:=(0,4)) (z:=.agg insZ.toArray) (d:=iA) S2 R9 mA S1 λB2 h2 hle2 c=>?_
    refine⟨c.wle,?_⟩
    subst hy
    refine bJ λy hy=>?_
    simp
    refine af R9 (hF c.wle rus hok.sm a0) ?_
    rintro _ h1 ⟨hle1,vm,rfl,hvm⟩
    have hW1:=c.up (h':=h1)
    have c:=c.ext hle1
    subst hy
    refine bJ λy hy=>?_
    simp
    refine c.iE Part.all (k:=(0,4)) (D:=iA) (d:=m) S2 R9 Sa Sa hvm λh3 c=>?_
    subst hy
    simp
    obtain⟨W4,hW4,c,hat⟩:=c.wx (k:=(0,4)) (B:=B2) (d:=m) S2
    rw[Own.fh,Own.ti S2]at c
    exact rest _ _ _ _ (Sc hW1 hW4) c hat rfl rfl rfl rfl rfl rfl rfl rfl
end
theorem LD:ll:=λV h s S I O P Q L T op plain sum mx hV hok hop ho hne hp hs ht=>⟨JC mx hV hok hop ho hp,J4 mx hV hok hop ho hp,Jf mx hV hok hop ho hs,II mx hV hok hop ho hs ht⟩
abbrev Wh:=Int->Option (Int × Int)
def Ez (can:Int->Int->Bool):Option (Int × Int)->Bool
 | none=>Sq
 | some w=>can w.1 w.2
def wF (can:Int->Int->Bool) (wh:Wh) (l:List Int):Bool:=l.all λv=>Ez can (wh v)
def Hl (can:Int->Int->Bool) (wh:Wh):Option FitD->Bool
 | none=>Sr
 | some x=>wF can wh x.takes
def canP (f:an) (has:Int->Bool) (wh:Wh) (can:Int->Int->Bool) (b i pat:Int):Bool:=has pat&&Hl can wh (tryS (dI f b i 0) pat)
def canS (f:an) (has:Int->Bool) (wh:Wh):Nat->Int->Int->Bool
 | 0,_,_=>Sr
 | n+1,b,i=>(List.range 38).any λk=>canP f has wh (canS f has wh n) b i (k:Int)
theorem DH{f:an}{t:cM}{pat:Int}(h:¬(0<=pat/\pat<38)):ic f t pat=none:=by unfold ic;rw[if_neg S0,if_neg S0,if_neg S0,if_neg S0,if_neg S0,if_neg S0]
theorem EL{s:bY}{pat:Int}(h:¬(0<=pat/\pat<38)):tryS s pat=none:=by
 unfold tryS;split
 ·exact DH h
 unfold patS;rw[if_neg S0]
theorem AG{f:an}{has:Int->Bool}{wh:Wh}{n:Nat}{b i:Int}:canS f has wh (n+1) b i=Sq↔∃pat,canP f has wh (canS f has wh n) b i pat=true:=by
 unfold canS;rw[Rr];constructor
 ·rintro⟨k,_,hk⟩;exact⟨_,hk⟩
 rintro⟨pat,hp⟩;by_cases h:0<=pat/\pat<38
 ·refine⟨pat.toNat,PT.2 S0,?_⟩;rw[O0 h.1];exact hp
 unfold canP at hp;rw[EL h]at hp;simp[Hl]at hp
def twoV (w:Int × Int):Value:=.agg #[Sf Sg w.1,Sf Sg w.2]
structure Cv (W:View) (F H Q C r1 r2:Nat) (f:an) (has:Int->Bool) (wh:Wh):Prop where
 fc:At W ⟨F,0,Sk⟩ f
 hasR : ∀p,has p=Sq->I64 p
 hasC:ak W ⟨H,0,Sk⟩=Sj (.map (Sj r1))
 hasM : ∀h,W.le (vw h)->de (.int .i64) h r1 (mapB has)
 whC:ak W ⟨Q,0,Sk⟩=Sj (.map (Sj r2))
 whR : ∀v w,wh v=Sj w->I64 w.1/\I64 w.2
 whM : ∀h,W.le (vw h)->de (.int .i64) h r2 (mapE twoV wh)
 can:ak W ⟨C,0,Sk⟩=Sj (.func (.func 43) #[] #[ptr F,ptr H,ptr Q,ptr C])
theorem Cv.mono {W W':View} {F H Q C r1 r2:Nat} {f:an} {has:Int->Bool} {wh:Wh} (c:Cv W F H Q C r1 r2 f has wh) (h:W.le W'):Cv W' F H Q C r1 r2 f has wh:=
 ⟨c.fc.mono h,c.hasR,ae h c.hasC,λg hg=>c.hasM g (Sc h hg),ae h c.whC,c.whR,λg hg=>c.whM g (Sc h hg),ae h c.can⟩
def Down (f:an) (wh:Wh):Prop:=∀b i pat x v w,cR f b i=Sq->tryS (dI f b i 0) pat=Sj x->v∈x.takes->wh v=Sj w->cR f w.1 w.2=Sq/\w.2<i
theorem F3{s:Int->Bool}{u v:Value}(hk:MapKept.IsKey (.int .i64) u)(h:mapB s u=Sj v): ∃p:Int,u = Sf Sg p/\s p=Sq/\v = .bool true:=by
 cases u<;>simp[MapKept.IsKey]at hk;rename_i k p;subst hk;rw[Bw]at h;split at h
 ·rename_i hs;cases h;exact⟨p,rfl,hs,rfl⟩
 cases h
theorem yb{h h':Heap}{b r:Nat}{left:List (Value × Value)}(m:It h b r left)(hle:(vw h).le (vw h')):It h' b r left:=by
 have l:=m.lt;have e : ∀k,k<h.size->h'[k]? = h[k]?:=λk hk=>by have:=hle k h[k] (OX hk);rw[OX hk];exact this
 exact m.same (e _ l.1) (e _ l.2.1)
theorem Hm {f:an} {has:Int->Bool} {wh:Wh} (m:gp f) (hsm:SmF f) (hM : ∀i∈du f,i.op=15\/i.op=16->ll) (hd:Down f wh) : ∀(n:Nat) {b i:Int} {Fb H Q C r1 r2:Nat} {W:View} {h:Heap},Cv W Fb H Q C r1 r2 f has wh->W.le (vw h)->cR f b i=Sq->i<n->
  aw Ss 43 #[Sf Sg b,Sf Sg i,ptr Fb,ptr H,ptr Q,ptr C] h (λu h'=>(vw h).le (vw h')/\u = .bool (canS f has wh n b i))
 | 0,b,i,Fb,H,Q,C,r1,r2,W,h,cv,hW,hpl,hi=>by simp[cR]at hpl;omega
 | n+1,b,i,Fb,H,Q,C,r1,r2,W,h,cv,hW,hpl,hi=>by
  have ih:=@Hm f has wh m hsm hM hd n;refine aj (args:=[Sf Sg b,Sf Sg i,ptr Fb,ptr H,ptr Q,ptr C]) follows Tryz.func43 E.cr S8 λK hK=>?_;dsimp only[L.cr,lkF,lkG];have c0:=Cx.start hW;refine ab λz hz=>?_;simp;subst hz;refine ab λz hz=>?_;obtain⟨uf,huf,ruf⟩:=cv.fc.ldN rfl (N:=2) rfl;have hr:=wE ruf;simp[huf _ hW];refine af R9 (HJ (b:=b) (p:=i) hW ruf (by constructor<;>decide)) ?_;rintro _ h1 ⟨hle1,vs,rfl,hvs⟩;have c1:=c0.ext hle1;have hW1:=c0.up (h':=h1);have hpS:nu f b i 0=dI f b i 0:=by unfold nu;rw[hpl,if_pos rfl]
  rw[hpS]at hvs;simp;refine c1.dK (α:=bY) hvs (n:=13) (z:=.agg oR.toArray) R9 rfl rfl R9 S3 S3 λB h2 W2 hW2 c2 at2 hle2=>?_;have cv2:=cv.mono (Sc hW1 hW2);subst hz;refine ab λz hz=>?_;refine ab λy hy=>?_;simp[ae c2.wle cv2.hasC];refine A1 U.jt rfl (cv2.hasM h2 c2.wle) λh3 left hle3 hs3 it3 nd3 key3 mem3=>?_;have hall : ∀u v,(u,v)∈left->∃p:Int,u = Sf Sg p/\has p=true:=λu v hu=>by obtain⟨p,e1,e2,-⟩:=F3 (key3 u v hu) ((mem3 u v (key3 u v hu)).1 hu);exact⟨p,e1,e2⟩
  have hrest : ∀p:Int,has p=Sq->(∃v,(Sf Sg p,v)∈left):=λp hp=>⟨.bool Sq,(mem3 _ _ ez).2 (by rw[Bw,hp,if_pos rfl])⟩;have hr3:W2 h2.size=none:=View.cA c2.wle (OA _);have hs0:h.size<=h2.size:=cm c2.le0;have c3:Cx W h W2 h3 λ_=>none:=⟨Owns.start (Sc c2.wle hle3),c2.old,Sc c2.le0 hle3,λ_ _ _ e=>by cases e⟩;obtain⟨r,hr0⟩ : ∃r,r=h2.size:=⟨_,rfl⟩;rw[<-hr0]at it3 hr3 hs0 ⊢;subst hy;simp only[aP];refine ja [0,1,2,3,4,5,9,26] (λmm ρ hx=>∃(left:List (Value × Value)) (Wx:View),mm=left.length/\ρ=[(0,Sf Sg b),(1,Sf Sg i),(2,ptr Fb),(3,ptr H),(4,ptr Q),(5,ptr C),(9,ptr B),(26,ptr r)]/\W2.le Wx/\Cx W h Wx hx (λ_=>Sk)/\Wx r=Sk/\It hx r1 r left/\
   (∀u v,(u,v)∈left->∃p:Int,u = Sf Sg p/\has p=Sq)/\(∀p:Int,has p=Sq->(∃v,(Sf Sg p,v)∈left)\/canP f has wh (canS f has wh n) b i p=Sr)) left.length
   ⟨left,W2,rfl,rfl,View.le_refl _,c3,hr3,it3,hall,λp hp=>.inl (hrest p hp)⟩ ?_;clear hall hrest it3 nd3 key3 mem3 c3;rintro mm ρ hx ⟨left,Wx,rfl,rfl,lx,cx,hrx,itx,hall,hrest⟩ K2 hK2;refine ab λy hy=>?_;simp;refine CQ rfl itx ?_ ?_
  ·rintro rfl;have hno:canS f has wh (n+1) b i=false:=by
    cases e:canS f has wh (n+1) b i with
    | false=>rfl
    | true=>
     obtain⟨p,hp⟩:=AG.1 e;have hh:has p=true:=by unfold canP at hp;simp at hp;exact hp.1
     rcases hrest p hh with⟨v,hv⟩ | hv
     ·cases hv
     rw[hp]at hv;cases hv
   simp;subst hy;simp;subst hz;simp;exact hK _ _ ⟨cx.le0,by rw[hno]⟩
  intro a p q h4 el hs4 ho4 it4;obtain⟨pat,e1,e2⟩:=hall p.1 p.2 (by rw[el];simp);have hpe:p=(Sf Sg pat,p.2):=by rw[<-e1]
  have le4 : ∀X:View,X.le (vw hx)->X r=Sk->X.le (vw h4):=λX hX hn b o hb=>by show h4[b]? = Sj o;rw[ho4 b (by rintro rfl;rw[hn]at hb;cases hb)];exact hX b o hb
  have le04:(vw h).le (vw h4):=λb o hb=>by have hlt:=View.lt (View.le_refl (vw h)) hb;show h4[b]? = Sj o;rw[ho4 b S0];exact cx.le0 b o hb
  have hW4:=le4 Wx cx.wle hrx;have c4:Cx W h Wx h4 λ_=>none:=⟨Owns.start hW4,cx.old,le04,λ_ _ _ e=>by cases e⟩;have hrest4 : ∀p:Int,p≠pat->has p=Sq->(∃v,(Sf Sg p,v)∈a++q)\/canP f has wh (canS f has wh n) b i p=false:=λp' hne hp'=>by
   rcases hrest p' hp' with⟨v,hv⟩ | hv
   ·rw[el,OE,OQ]at hv;rcases hv with hv | hv | hv
    ·exact .inl ⟨v,OE.2 (.inl hv)⟩
    ·rw[hpe]at hv;simp at hv;exact absurd hv.1 hne
    exact .inl ⟨v,OE.2 (.inr hv)⟩
   exact .inr hv
  have hall4 : ∀u v,(u,v)∈a++q->∃p:Int,u = Sf Sg p/\has p=true:=λu v hu=>hall u v (by rw[el,OE,OQ];rcases OE.1 hu with hu | hu<;>simp[hu]);have hlen:(a++q).length<left.length:=by rw[el];simp
  have at4:=at2.mono lx;have cv4:=cv2.mono lx;clear hrest hall itx cx;simp;subst hy;refine ab λy hy=>?_;refine aY Sa ?_;simp;subst hy;simp only[aP];refine ab λy hy=>?_;simp;refine GG rfl it4 ?_;simp[e1];subst hy;refine ab λy hy=>?_;obtain⟨us,hus,rus⟩:=at4.ldN rfl (N:=13) rfl;simp[hus _ c4.wle];refine af R9 (zX c4.wle rus m hsm hr hM hpl (cv.hasR _ e2)) ?_;rintro _ h5 ⟨hle5,vf,x,rfl,hvf,hxx⟩;have c5:=c4.ext hle5;have hW5:=c4.up (h':=h5);have it5:=yb it4.it hle5;simp;refine dv (X:=grow Wx h4 h5) (α:=FitD) (z:=.agg fitZ.toArray) R9 rfl R9 hvf S3 S3 λh6 hle6 hs6 hat6=>?_;have c6:=c5.ext hle6;have hW6:=c5.up (h':=h6);have at6:=hat6 _ hW6 (cU (OA _));have hr6:grow (grow Wx h4 h5) h5 h6 r=none:=by rw[iO (yb it4.it hle5).lt.2.1,iO it4.it.lt.2.1];exact hrx
  generalize grow (grow Wx h4 h5) h5 h6=W6 at *;generalize h5.size=B3 at *;have it6:=yb it5 hle6;subst hy;refine ab λy hy=>?_;have pt:=(at6.part FitD.Eo).sl;obtain⟨vt,k1,s1⟩:=pt;have k1:ak W6 ⟨B3,0,Sk⟩=Sj vt:=by simpa using k1
  refine ab λw hw=>?_;simp[ae c6.wle k1,s1.len];subst hw;simp only[aP];have bt:=s1.bound;obtain⟨okS,hok⟩ : ∃okS:Nat->Bool,okS=λj=>(tryS (dI f b i 0) pat).isSome&&wF (canS f has wh n) wh (x.takes.take j):=⟨_,rfl⟩;have ok0:(tryS (dI f b i 0) pat).isSome=okS 0:=by rw[hok];simp[wF]
  have okJ : ∀j,j<x.takes.length->okS (j+1)=(okS j&&Ez (canS f has wh n) (wh (nth x.takes j))):=λj hj=>by rw[hok];simp only[wF];rw[OS hj,List.all_append,ay hj];simp[R5]
  have okE:okS x.takes.length=canP f has wh (canS f has wh n) b i pat:=by
   rw[hok];simp only[Pu];unfold canP;rw[e2];cases hq:tryS (dI f b i 0) pat with
   | none=>rfl
   | some y=>rw[hxx y hq];rfl
  have okV : ∀j,j<x.takes.length->okS j=Sq->∀w,wh (nth x.takes j)=Sj w->cR f w.1 w.2=Sq/\w.2<i:=λj hj ho w hw=>by rw[hok]at ho;simp only[OG]at ho;obtain⟨y,hy⟩:=Qq.1 ho.1;have:=hxx y hy;subst this;exact hd b i pat x _ w hpl hy (aS hj) hw
  rw[ok0];clear hok ok0;refine aR [0,1,2,3,4,5,9,11,12,13,26,38,39,40] (fun(_:Unit) j=>[Sf Sg b,Sf Sg i,ptr Fb,ptr H,ptr Q,ptr C,ptr B,Sf Sg pat,ptr B3,.bool (okS j),ptr r,vt,Sf Sg x.takes.length,Sf Sg j])
   (λ_ j h7=>∃W7,W6.le W7/\Cx W h W7 h7 (λ_=>Sk)/\W7 r=Sk/\It h7 r1 r (a++q)) x.takes.length ()
   rfl S0 rfl ⟨W6,View.le_refl _,c6,hr6,it6⟩ (λ_ _=>rfl) (λv i h1 hk m=>by simp) ?_ ?_
  ·rintro _ j h7 hj ⟨W7,lW7,c7,hr7,it7⟩ K3 hK3;have s7:=s1.mono (Sc lW7 c7.wle);have cv7:=(cv4.mono hW5).mono (Sc hW6 lW7);have okj:=okJ j hj;have okv:=okV j hj;refine ab λw hw=>?_;simp(disch:=omega)[s7.idx1 rfl,s7.int Sb];subst hw;generalize nth x.takes j=vv at *;refine ab λw hw=>?_;simp[ae c7.wle cv7.whC];refine mZ (f:=mapE twoV wh) (z:=zz1) (k:=T.int) (e:=T.jw) (d:=.int .i64) (r:=r2) (u:=Sf Sg vv) U.gE U.int R9 rfl rfl ez (cv7.whM h7 c7.wle) ?_;have wr:Rd W7 (((wh vv).map twoV).getD (.agg #[Sf Sg 0,Sf Sg 0])) ((wh vv).getD (0,0)):=by
    cases hv:wh vv with
    | none=>exact qP.2 ⟨rfl,by decide,by decide⟩
    | some w=>exact qP.2 ⟨rfl,(cv7.whR vv w hv).1,(cv7.whR vv w hv).2⟩
   simp;refine dv (X:=W7) (α:=Int × Int) (z:=zz1) R9 rfl R9 wr S3 S3 λh8 hle8 hs8 hat8=>?_;have c8:=c7.ext hle8;have hW8:=c7.up (h':=h8);have at8:=hat8 _ hW8 (cU (OA _));have it8:=yb it7 hle8;have hr8:grow W7 h7 h8 r=none:=by rw[iO it7.lt.2.1];exact hr7
   generalize grow W7 h7 h8=W8 at *;generalize h7.size=B4 at *;subst hw;refine ab λw hw=>?_;cases ho:okS j with
   | false=>rw[ho]at okj;simp;subst hw;simp;exact hK3 () _ _ rfl (by simp[bQ,okj]) ⟨W8,Sc lW7 hW8,c8,hr8,it8⟩
   | true=>
    rw[ho]at okj;cases hv:wh vv with
    | none=>rw[hv]at okj;simp;subst hw;simp;exact hK3 () _ _ rfl (by simp[bQ,okj,Ez]) ⟨W8,Sc lW7 hW8,c8,hr8,it8⟩
    | some ww=>
     rw[hv]at okj at8;obtain⟨g1,g2⟩:=okv ho ww hv;have at8:At W8 ⟨B4,0,Sk⟩ ww:=at8;obtain⟨cs,q1,q2,-⟩:=at8;have x0:ak W8 ⟨B4,0,Sk⟩=Sj (Sf Sg ww.1):=by have:=gw q1 (i:=0) (v:=Sf Sg ww.1) (by rw[q2];rfl);simpa using this
     have x1:ak W8 ⟨B4,1,Sk⟩=Sj (Sf Sg ww.2):=by have:=gw q1 (i:=1) (v:=Sf Sg ww.2) (by rw[q2];rfl);simpa using this
     have cv8:=cv7.mono hW8;simp;subst hw;have y0:Bn.ev (.aidx 2 1) (ptz B4) (Sf Sg 0)=Sj (ptz B4):=rfl;have y1:Bn.ev (.aidx 2 1) (ptz B4) (Sf Sg 1)=Sj (Sp (Sj ⟨B4,1,Sk⟩)):=rfl;simp[ae c8.wle cv8.can,ae c8.wle x0,ae c8.wle x1,y0,y1];refine aU (ops:=[.tmp 56,.tmp 58]) (caps:=#[ptr Fb,ptr H,ptr Q,ptr C]) rfl R9 (ih (b:=ww.1) (i:=ww.2) cv8 c8.wle g1 S0) ?_;rintro _ h9 ⟨hle9,rfl⟩;have c9:=c8.ext hle9;have hW9:=c8.up (h':=h9);refine hK3 () _ _ rfl (by simp[bQ,okj,Ez]) ⟨_,Sc lW7 (Sc hW8 hW9),c9,?_,yb it8 hle9⟩;rw[iO it8.lt.2.1];exact hr8
  rintro _ h7 ⟨W7,lW7,c7,hr7,it7⟩;rw[okE];simp;subst hy;cases hcp:canP f has wh (canS f has wh n) b i pat with
  | true=>have hyes:canS f has wh (n+1) b i=true:=AG.2 ⟨pat,hcp⟩;simp;exact hK _ _ ⟨c7.le0,by rw[hyes]⟩
  | false=>
   simp;refine hK2 (a++q).length _ _ hlen ⟨a++q,W7,rfl,rfl,Sc lx (Sc hW5 (Sc hW6 lW7)),c7,hr7,it7,hall4,λp' hp'=>?_⟩;by_cases hne:p'=pat
   ·exact .inr (hne▸hcp)
   exact hrest4 p' hne hp'
end Go.Proofs.YtnfiilgdjpdlkaaGreatDoor
namespace Go.Lft
open Go
theorem Dz {po:OP} {P:Program} {ty t e rt:TypeId} {us:List (Nat × Value)} {h:Heap} {K:Value->Heap->Prop} {a b c d:Int} {ki:IntKind} {x y:Operand} (hu:P.underlying t=Sj (.array 2 e)) (he:P.underlying e=Sj (.int ki)) (hs:cO P e=Sj 1) (ha:nm P e=Sj Sr) (hgd:P.eqGuardType P.depth t=Sr)
  (hx:asg us x = .agg #[.int ki a,.int ki b]) (hy:asg us y = .agg #[.int ki c,.int ki d]) (hk:K (.bool (a == c&&b == d)) h):@step po P (.binOp .eql t x y rt) ty us h K:=by refine cI (cf λw hw=>⟨_,w,?_,Same.refl _,by rw[hw];exact hk⟩);simp only[bI,execOp,hx,hy];simp[eqGuard,binOp,AA hu he hs ha,program,Sem.run,hgd]
end Go.Lft
namespace Go.Proofs.YtnfiilgdjpdlkaaGreatDoor
open Go Go.Lft
structure Mq (V:View) (h0:Heap) (W:View) (h:Heap) (r:Nat) (g:Value->Option Value):Prop where
 c:Cx V h0 W h λ_=>Sk
 av:W r=Sk
 lo:h0.size<=r
 m:de (.int .i64) h r g
section
variable {po po2:OP} {V W:View} {h0 h h':Heap} {r:Nat} {g g':Value->Option Value}
theorem Mq.ext (k:Mq V h0 W h r g) (hle:(vw h).le (vw h')):Mq V h0 (grow W h h') h' r g:=⟨k.c.ext hle,by rw[iO k.m.lt];exact k.av,k.lo,k.m.ext hle⟩
theorem Mq.up (k:Mq V h0 W h r g):W.le (grow W h h'):=k.c.up
theorem Mq.wle (k:Mq V h0 W h r g):W.le (vw h):=k.c.wle
theorem Mq.upd (k:Mq V h0 W h r g) (ho : ∀b,b≠r->h'[b]? = h[b]?) (hm:de (.int .i64) h' r g'):Mq V h0 W h' r g':=
 ⟨⟨Owns.start λb o hb=>by
   show h'[b]? = Sj o;rw[ho b (by rintro rfl;rw[k.av]at hb;cases hb)];exact k.wle b o hb,k.c.old,λb o hb=>by
   have hlt:=View.lt (View.le_refl (vw h0)) hb;have:=k.lo;show h'[b]? = Sj o;rw[ho b S0];exact k.c.le0 b o hb,λ_ _ _ e=>by cases e⟩,k.av,k.lo,hm⟩
theorem Mq.dK {α:Type} [Rep α] {P:Program} {ty:TypeId} {us:List (Nat × Value)} {t ty2:TypeId} {n:Nat} {z:Value} {x y:Operand} {us2:Value->List (Nat × Value)} {v:Value} {d:α} {K:Value->Heap->Prop} (k:Mq V h0 W h r g) (hv:Rd W v d) (hz:(P.info? t).map (·.zero)=Sj (Sj z)) (hN:Rep.n α=n) (hzc:z.cells.size=n) (hsz:cO P t=Sj n)
  (hx : ∀p,asg (us2 p) x=p) (hy : ∀p,asg (us2 p) y=v) (hk : ∀B h' W',W.le W'->Mq V h0 W' h' r g->At W' ⟨B,0,Sk⟩ d->(vw h).le (vw h')->K (ptz B) h') :
  @Lft.step po P (.alloc t) ty us h λp h2=>@Lft.step po2 P (.store t x y) ty2 (us2 p) h2 λ_ h3=>K p h3:=by subst hN;refine dv (X:=W) hz hzc hsz hv hx hy λh1 hle hs hat=>?_;exact hk _ _ _ k.up (k.ext hle) (hat _ k.up (cU (OA _))) hle
theorem Mq.freeze (k:Mq V h0 W h r g) : ∃W',W.le W'/\Cx V h0 W' h (λ_=>Sk)/\(∀g2:Heap,W'.le (vw g2)->de (.int .i64) g2 r g):=by
 obtain⟨es,cl,e1,e2⟩:=k.m.ex;have hle:W.le (W.set r (.map es cl)):=λb o hb=>by unfold View.set;rw[if_neg (by rintro rfl;rw[k.av]at hb;cases hb)];exact hb
 have hw:(W.set r (.map es cl)).le (vw h):=λb o hb=>by
  unfold View.set at hb;split at hb
  ·rename_i e;subst e;cases hb;exact e1
  exact k.wle b o hb
 refine⟨_,hle,⟨Owns.start hw,λb o hb hx=>?_,k.c.le0,λ_ _ _ e=>by cases e⟩,λg2 hg2=>⟨es,cl,hg2 r _ (by unfold View.set;rw[if_pos rfl]),e2⟩⟩;unfold View.set at hx;have:=k.lo;rw[if_neg S0]at hx;exact k.c.old b o hb hx
end
def hasS (l:List eB):Int->Bool:=λp=>decide (p=0)||l.any λt=>decide (t.pat=p)
def lj (f:an) (b k:Nat) (wh:Wh):Wh:=
 if(!decide ((nth (nth f.blocks b).ins k).op=16)&&!decide ((nth (nth f.blocks b).ins k).op=18))&&cS f (nth (nth f.blocks b).ins k).dst then putM wh (nth (nth f.blocks b).ins k).dst ((b:Int),(k:Int)) else wh
def whTo (f:an) (n:Nat):Wh:=Lft.up (λb wh=>Lft.up (lj f b) (nth f.blocks b).ins.length wh) n (λ_=>Sk)
def whS (f:an):Wh:=whTo f f.blocks.length
theorem yV {f:an} {n:Nat}:whTo f (n+1)=Lft.up (lj f n) (nth f.blocks n).ins.length (whTo f n):=rfl
theorem te : ∀{l:List eB} {n:Nat},(lO n l).1=0->∀t∈l,dY t=0
 | [],_,_,t,ht=>by cases ht
 | a::l,n,h,t,ht=>by
  unfold lO at h;split at h
  ·rename_i e;rcases OQ.1 ht with rfl | ht
   ·exact e
   exact te h t ht
  rename_i e;exact absurd h e
theorem ET {l:List eB} (h:(jQ l).1=0) {t:eB} (ht:t∈l):inR t.pat 1 37=true:=by
 unfold jQ at h;split at h
 ·cases h
 have:=te h t ht;unfold dY at this;cases e:inR t.pat 1 37 with
 | true=>rfl
 | false=>rw[if_pos e]at this;cases this
theorem J3 {l:List eB} (h:(jQ l).1=0) {p:Int} (hp:hasS l p=Sq):I64 p:=by
 unfold hasS at hp;simp at hp;rcases hp with rfl | ⟨t,ht,rfl⟩
 ·constructor<;>decide
 have:=ET h ht;simp[inR]at this;constructor<;>omega
def WhAt (f:an) (v:Int) (w:Int × Int):Prop:=∃b k:Nat,b<f.blocks.length/\k<(nth f.blocks b).ins.length/\w=((b:Int),(k:Int))/\(nth (nth f.blocks b).ins k).dst=v/\(nth (nth f.blocks b).ins k).op≠16/\(nth (nth f.blocks b).ins k).op≠18/\cS f v=Sq
theorem FG {f:an} {b k:Nat} {g:Wh} (hb:b<f.blocks.length) (hk:k<(nth f.blocks b).ins.length) (hg : ∀v w,g v=Sj w->WhAt f v w) : ∀v w,lj f b k g v=Sj w->WhAt f v w:=by
 intro v w h;unfold lj at h;split at h
 ·rename_i c;simp at c;unfold putM at h;split at h
  ·rename_i e;cases h;exact⟨b,k,hb,hk,rfl,e.symm,c.1.1,c.1.2,e▸c.2⟩
  exact hg v w h
 exact hg v w h
theorem DX {f:an} : ∀{n:Nat},n<=f.blocks.length->∀v w,whTo f n v=Sj w->WhAt f v w
 | 0,_,v,w,h=>by cases h
 | n+1,hn,v,w,h=>by
  rw[yV]at h;have key : ∀k,k<=(nth f.blocks n).ins.length->∀v w,Lft.up (lj f n) k (whTo f n) v=Sj w->WhAt f v w:=by
   intro k;induction k with
   | zero=>exact λ_ v w h=>DX S0 v w h
   | succ k ih=>exact λhk=>FG S0 S0 (ih S0)
  exact key _ (OA _) v w h
theorem GN {f:an} {v:Int} {w:Int × Int} (h:whS f v=Sj w):WhAt f v w:=DX (OA _) v w h
theorem LZ {f:an} (hsm:SmF f) {v:Int} {w:Int × Int} (h:whS f v=Sj w):I64 w.1/\I64 w.2:=by obtain⟨b,k,hb,hk,rfl,-⟩:=GN h;have h1:=hsm.len;have h2:=(hsm.blk b hb).ins;refine⟨⟨?_,?_⟩,?_,?_⟩<;>simp only<;>omega
def oP (f:an) (wh:Wh) (b i:Nat):Bool:=!(decide (i<(nth f.blocks b).ins.length)&&(!decide ((nth (nth f.blocks b).ins i).op=16)&&decide (wh (nth (nth f.blocks b).ins i).dst=Sj ((b:Int),(i:Int)))))
def vF (f:an) (has:Int->Bool) (b i:Nat):Bool:=oP f (whS f) b i&&!canS f has (whS f) (i+1) b i
def xf (f:an) (has:Int->Bool) (b:Nat):Option Nat:=(List.range ((nth f.blocks b).ins.length+1)).find? (vF f has b)
def pR (f:an) (has:Int->Bool):Option (Nat × Nat):=(List.range f.blocks.length).findSome? λb=>(xf f has b).map λi=>(b,i)
def Kk:Option (Nat × Nat)->Int × Int × Int
 | none=>(0,0,0)
 | some w=>(21,w.1,w.2)
def jl (l:List eB) (f:an):Int × Int × Int:=if(jQ l).1≠0 then((jQ l).1,0,0) else if kq f=Sr then(1,0,0) else Kk (pR f (hasS l))
theorem find_range {p:Nat->Bool} {n i:Nat} (hi:i<n) (h1:(List.range i).find? p=Sk) (h2:p i=Sq):(List.range n).find? p=Sj i:=by obtain⟨d,rfl⟩ : ∃d,n=i+(d+1):=⟨n-i-1,by omega⟩;rw[List.range_add,Ri,h1,QC,RZ];simp[h2]
theorem wO {α:Type} {p:Nat->Option α} {n i:Nat} {a:α} (hi:i<n) (h1:(List.range i).findSome? p=Sk) (h2:p i=Sj a):(List.range n).findSome? p=Sj a:=by obtain⟨d,rfl⟩ : ∃d,n=i+(d+1):=⟨n-i-1,by omega⟩;rw[List.range_add,QL,h1,QC,RZ];simp[h2]
def Looks (ρ:Env) (l:List (Nat × Value)):Prop:=∀p∈l,Lft.look ρ p.1=Sj p.2
set_option maxHeartbeats 4000000 in
theorem E9 {l:List eB} {f:an} {vl vf:Value} {h:Heap} {W:View} (hW:W.le (vw h)) (hl:SlRd W vl l) (hf:Rd W vf f) (hsm:SmF f) (ht:Tab h) (hM : ∀i∈du f,i.op=15\/i.op=16->ll) (hd:kq f=Sq->Down f (whS f)) :
  aw Ss 26 #[vl,vf] h (λu h'=>(vw h).le (vw h')/\u = .tuple #[Sf Sg (jl l f).1,Sf Sg (jl l f).2.1,Sf Sg (jl l f).2.2]):=by
 refine aj (args:=[vl,vf]) follows Tryz.func26 E.bn S8 λK hK=>?_;dsimp only[L.bn,lkF,lkG];have c0:=Cx.start hW;refine ab λz hz=>?_;simp;refine c0.dc rfl hf λF1 h1 W1 hW1 c1 at1 hle1=>?_;subst hz;refine ab λz hz=>?_;refine ab λy hy=>?_;simp;refine af R9 (zg c1.wle (hl.mono hW1) (ht.mono c1.le0)) ?_;rintro _ h2 ⟨hle2,rfl⟩;have c2:=c1.ext hle2;have hW2:=c1.up (h':=h2);simp;subst hy;refine ab λy hy=>?_;simp;subst hy;by_cases e1:(jQ l).1=0
 ·simp[e1];subst hz;refine ab λz hz=>?_;refine ab λy hy=>?_;obtain⟨uf,huf,ruf⟩:=at1.ldN rfl (N:=2) rfl;simp[huf _ (Sc hW2 c2.wle)];refine af R9 (wN (ruf.mono (Sc hW2 c2.wle)) hsm) ?_;rintro _ h3 ⟨rfl,hle3⟩;have c3:=c2.ext hle3;have hW3:=c2.up (h':=h3);subst hy;cases hrt:kq f with
  | false=>
   have hrt2:decide ((jJ f).1=0)=false:=hrt;have e:jl l f=(1,0,0):=by unfold jl;rw[if_neg (by rw[e1];simp),if_pos hrt]
   simp[hrt2];exact hK _ _ ⟨c3.le0,by rw[e]⟩
  | true=>
   have hrt2:decide ((jJ f).1=0)=true:=hrt;have hcov:jl l f=Kk (pR f (hasS l)):=by unfold jl;rw[if_neg (by rw[e1];simp),if_neg (by simp[hrt])]
   rw[hcov]at hK;have m:=lS hrt;have hd:=hd hrt;simp[hrt2];subst hz;refine ab λz hz=>?_;simp;refine kG ?_;have m3:de (.int .i64) (h3.push (.map #[] 0)) h3.size λ_=>none:=de.none Sa;have q3:=bP h3 (.map #[] 0);have av3:grow (grow W1 h1 h2) h2 h3 h3.size=none:=View.cA c3.wle (OA _);have hs3:h.size<=h3.size:=cm c3.le0;have hW13:W1.le (grow (grow W1 h1 h2) h2 h3):=Sc hW2 hW3;generalize grow (grow W1 h1 h2) h2 h3=W3 at *;generalize h3.push (.map #[] 0)=h4 at *;obtain⟨r1,hr1⟩ : ∃r,r=h3.size:=⟨_,rfl⟩;rw[<-hr1]at m3 av3 hs3 ⊢;have k4:Mq W h W3 h4 r1 λ_=>none:=⟨⟨Owns.start (Sc c3.wle q3),c3.old,Sc c3.le0 q3,λ_ _ _ e=>by cases e⟩,av3,hs3,m3⟩;refine jE (.inr rfl) (t:=T.jt) (k:=T.int) (e:=T.bool) (u:=Sf Sg 0) U.jt U.int rfl rfl rfl ez k4.m (mapB (hasS [])) (by simp[hasS]) (λu hu=>?_) λh5 hs5 ho5 hm5=>?_
   ·cases u with
    | int k j=>cases k<;>first | rfl | (simp[hasS];intro e;exact hu (by rw[e]))
    | _=>rfl
   have k5:=k4.upd ho5 hm5;refine gA (n:=1) (z:=.map Sk) (v:=.map (Sj r1)) R9 rfl R9 rfl S6 S3 S3 λh6 hle6 hs6 hb6=>?_;have k6:=k5.ext hle6;have hW6:=k5.up (h':=h6);have x9:ak (grow W3 h5 h6) ⟨h5.size,0,Sk⟩=Sj (.map (Sj r1)):=cell_of (by rw[cU (OA _)];exact hb6) rfl;generalize grow W3 h5 h6=W6 at *;generalize h5.size=B9 at *;subst hz;refine ab λz hz=>?_;refine ab λy hy=>?_;have hl6:=hl.mono (Sc hW1 (Sc hW13 hW6));have bl:=hl.bound;simp[hl6.len];subst hy;refine aR [0,1,3,9,37,38,39] (fun(_:Unit) k=>[vl,vf,ptr F1,ptr B9,vl,Sf Sg l.length,Sf Sg k])
    (λ_ k hx=>∃Wx,W6.le Wx/\Mq W h Wx hx r1 (mapB (hasS (l.take k)))) l.length ()
    rfl S0 rfl ⟨W6,View.le_refl _,k6⟩ (λ_ _=>rfl) (λv i h1 hk m=>by simp) ?_ ?_
   ·rintro _ k hx hk ⟨Wx,lx,kx⟩ K2 hK2;obtain⟨ut,hut,rut⟩:=(hl6.mono lx).wh rfl (N:=2) rfl hk;refine ab λy hy=>?_;simp(disch:=omega)[((hl6.mono lx).mono kx.wle).idxn (N:=2) rfl,hut _ kx.wle];refine kx.dK (α:=eB) rut (n:=2) (z:=zz1) R9 rfl rfl R9 S3 S3 λB h7 W7 hW7 k7 at7 hle7=>?_;have q0:ak W7 ⟨B,0,Sk⟩=Sj (Sf Sg (nth l k).pat):=by simpa using(at7.part eB.KB).int
    subst hy;simp[ae k7.wle q0,ae (Sc lx (Sc hW7 k7.wle)) x9];have hst : ∀p,hasS (l.take (k+1)) p=if p=(nth l k).pat then Sq else hasS (l.take k) p:=λp=>by
     unfold hasS;rw[OS hk,List.any_append,ay hk];by_cases e:p=l[k].pat
     ·simp[e]
     simp[e,Ne.symm e]
    obtain⟨g1,g2⟩:=Io (f:=hasS (l.take k)) (g:=hasS (l.take (k+1))) (j:=(nth l k).pat) hst;refine jE (.inl rfl) (t:=T.jt) (k:=T.int) (e:=T.bool) (u:=Sf Sg (nth l k).pat) U.jt U.int rfl rfl rfl ez k7.m (mapB (hasS (l.take (k+1)))) g1 g2 λh8 hs8 ho8 hm8=>?_;exact hK2 () _ _ rfl rfl ⟨W7,Sc lx hW7,k7.upd ho8 hm8⟩
   rintro _ h7 ⟨W7,l7,k7⟩;rw[Pu]at k7;obtain⟨W8,l8,c8,hasM⟩:=k7.freeze;clear k4 k5 k6 k7 m3 hm5 ho5;have x9:=ae (Sc l7 l8) x9;have l18:W1.le W8:=Sc hW13 (Sc hW6 (Sc l7 l8));have at8:=at1.mono l18;simp;subst hz;refine ab λz hz=>?_;simp;refine kG ?_;have m9:de (.int .i64) (h7.push (.map #[] 0)) h7.size (mapE twoV λ_=>Sk):=by rw[qv];exact de.none Sa
   have q9:=bP h7 (.map #[] 0);have av9:W8 h7.size=none:=View.cA c8.wle (OA _);have hs9:h.size<=h7.size:=cm c8.le0;generalize h7.push (.map #[] 0)=h9 at *;obtain⟨r2,hr2⟩ : ∃r,r=h7.size:=⟨_,rfl⟩;rw[<-hr2]at m9 av9 hs9 ⊢;have k9:Mq W h W8 h9 r2 (mapE twoV λ_=>Sk):=⟨⟨Owns.start (Sc c8.wle q9),c8.old,Sc c8.le0 q9,λ_ _ _ e=>by cases e⟩,av9,hs9,m9⟩;refine gA (n:=1) (z:=.map Sk) (v:=.map (Sj r2)) R9 rfl R9 rfl S6 S3 S3 λh10 hle10 hs10 hb10=>?_;have k10:=k9.ext hle10;have hW10:=k9.up (h':=h10);have x12:ak (grow W8 h9 h10) ⟨h9.size,0,Sk⟩=Sj (.map (Sj r2)):=cell_of (by rw[cU (OA _)];exact hb10) rfl;have l110:=Sc l18 hW10;have x9:=ae hW10 x9;have hasM:=fun(g2:Heap) (hg:(grow W8 h9 h10).le (vw g2))=>hasM g2 (Sc hW10 hg);generalize grow W8 h9 h10=W10 at *;generalize h9.size=B12 at *;have at10:=at1.mono l110
   clear k9 m9 c8 at8 hle10 hb10 q9;subst hz;refine ab λz hz=>?_;refine ab λy hy=>?_;obtain⟨-,vb,hb1,hb2⟩:=iZ at10;have bdf:=hb2.bound;simp[ae k10.wle hb1,hb2.len];subst hy;obtain⟨uf',huf',ruf'⟩:=at10.ldN rfl (N:=2) rfl;have smlen:=hsm.len;refine aR [0,1,3,9,12,37,38,39,49,50,51] (fun(_:Unit) b=>[vl,vf,ptr F1,ptr B9,ptr B12,vl,Sf Sg l.length,Sf Sg l.length,vb,Sf Sg f.blocks.length,Sf Sg b])
    (λ_ b hx=>∃Wx,W10.le Wx/\Mq W h Wx hx r2 (mapE twoV (whTo f b))) f.blocks.length ()
    rfl S0 rfl ⟨W10,View.le_refl _,k10⟩ (λ_ _=>rfl) (λv i h1 hk m=>by simp) ?_ ?_
   ·rintro _ b hx hb ⟨Wx,lx,kx⟩ K2 hK2;obtain⟨ub,hub,rub⟩:=(hb2.mono lx).wh rfl (N:=6) rfl hb;have sb:=hsm.blk b hb;refine ab λy hy=>?_;simp(disch:=omega)[((hb2.mono lx).mono kx.wle).idxn (N:=6) rfl,hub _ kx.wle];refine kx.dK (α:=BlkD) rub (n:=6) (z:=zz3) R9 rfl rfl R9 S3 S3 λB2 h11 W11 hW11 k11 at11 hle11=>?_;subst hy;refine ab λy hy=>?_;obtain⟨vp,vi,va,vt,-,si,-⟩:=kN at11;have bi:=si.2.bound;simp[ae k11.wle si.1,si.2.len];subst hy;refine aR [0,1,3,9,12,13,14,37,38,39,49,50,51,57,58,59] (fun(_:Unit) k=>[vl,vf,ptr F1,ptr B9,ptr B12,Sf Sg b,ptr B2,vl,Sf Sg l.length,Sf Sg l.length,vb,Sf Sg f.blocks.length,Sf Sg b,vi,Sf Sg (nth f.blocks b).ins.length,Sf Sg k])
     (λ_ k hy=>∃Wy,W11.le Wy/\Mq W h Wy hy r2 (mapE twoV (Lft.up (lj f b) k (whTo f b)))) (nth f.blocks b).ins.length ()
     rfl S0 rfl ⟨W11,View.le_refl _,k11⟩ (λ_ _=>rfl) (λv i h1 hk m=>by simp) ?_ ?_
    ·rintro _ k h12 hk ⟨Wy,ly,ky⟩ K3 hK3;have hst:Lft.up (lj f b) (k+1) (whTo f b)=if(!decide ((nth (nth f.blocks b).ins k).op=16)&&!decide ((nth (nth f.blocks b).ins k).op=18))&&cS f (nth (nth f.blocks b).ins k).dst then putM (Lft.up (lj f b) k (whTo f b)) (nth (nth f.blocks b).ins k).dst ((b:Int),(k:Int)) else Lft.up (lj f b) k (whTo f b):=rfl;obtain⟨ui,hui,rui⟩:=(si.2.mono ly).wh rfl (N:=5) rfl hk;refine ab λy hy=>?_;simp(disch:=omega)[((si.2.mono ly).mono ky.wle).idxn (N:=5) rfl,hui _ ky.wle];refine ky.dK (α:=InsD) rui (n:=5) (z:=zz5) R9 rfl rfl R9 S3 S3 λB4 h13 W13 hW13 k13 at13 hle13=>?_;obtain⟨q0,q1,-⟩:=kJ at13;have r1:=(at13.part InsD.iy).rng;have l1013:W10.le W13:=Sc lx (Sc hW11 (Sc ly hW13));generalize Lft.up (lj f b) k (whTo f b)=g at *;generalize nth (nth f.blocks b).ins k=ii at *;have q0:=ae k13.wle q0;have q1':=q1;have q1:=ae k13.wle q1;subst hy;refine ab λy hy=>?_;have skip : ∀(h14:Heap) (W14:View),W13.le W14->Mq W h W14 h14 r2 (mapE twoV g)->Lft.up (lj f b) (k+1) (whTo f b)=g->∃Wy,W11.le Wy/\Mq W h Wy h14 r2 (mapE twoV (Lft.up (lj f b) (k+1) (whTo f b))):=λh14 W14 l14 k14 e=>⟨W14,Sc ly (Sc hW13 l14),by rw[e];exact k14⟩;by_cases o16:ii.op=16
     ·rw[if_neg (by simp[o16])]at hst;simp[q0,o16];subst hy;simp;exact hK3 () _ _ rfl rfl (skip _ _ Sb k13 hst)
     by_cases o18:ii.op=18
     ·rw[if_neg (by simp[o18])]at hst;simp[q0,o18];subst hy;simp;exact hK3 () _ _ rfl rfl (skip _ _ Sb k13 hst)
     simp[q0,o16,o18,q1,huf' _ (Sc l1013 k13.wle)];refine af R9 (uZ (ruf'.mono (Sc l1013 k13.wle)) hsm r1) ?_;rintro _ h14 ⟨rfl,hle14⟩;have k14:=k13.ext hle14;have hW14:=k13.up (h':=h14);cases hfo:cS f ii.dst with
     | false=>rw[if_neg (by simp[hfo])]at hst;subst hy;simp;exact hK3 () _ _ rfl rfl (skip _ _ hW14 k14 hst)
     | true=>rw[if_pos (by simp[o16,o18,hfo])]at hst;subst hy;simp[ae (Sc l1013 (Sc hW14 k14.wle)) x12,ae (Sc hW14 k14.wle) q1'];refine az (z:=zz1) (places:=zpd) (vs:=[(0,Sf Sg b),(1,Sf Sg k)]) (cs:=#[Sf Sg b,Sf Sg k]) R9 R9 Sa R9 ?_;refine jE (.inl rfl) (t:=T.gE) (k:=T.int) (e:=T.jw) (u:=Sf Sg ii.dst) (v:=twoV ((b:Int),(k:Int))) U.gE U.int rfl rfl rfl ez k14.m (mapE twoV (putM g ii.dst ((b:Int),(k:Int)))) jg.1 jg.2 λh15 hs15 ho15 hm15=>?_;exact hK3 () _ _ rfl rfl ⟨_,Sc ly (Sc hW13 hW14),by rw[hst];exact k14.upd ho15 hm15⟩
    rintro _ h12 ⟨Wy,ly,ky⟩;exact hK2 () _ _ rfl rfl ⟨Wy,Sc lx (Sc hW11 ly),by rw[yV];exact ky⟩
   rintro _ h11 ⟨W11,l11,k11⟩;obtain⟨W12,l12,c12,whM⟩:=k11.freeze;have whM : ∀g2:Heap,W12.le (vw g2)->de (.int .i64) g2 r2 (mapE twoV (whS f)):=whM;have x9:=ae (Sc l11 l12) x9;have x12:=ae (Sc l11 l12) x12;have l1012:=Sc l11 l12;clear k10 k11;simp;subst hz;refine ab λz hz=>?_;simp;refine dC (z:=.nilFunc) R9 ?_;have q13:=bP h11 (.cells (Value.nilFunc).cells T.fO);have b13:(h11.push (.cells (Value.nilFunc).cells T.fO))[h11.size]? = Sj (.cells (Value.nilFunc).cells T.fO (0,0)):=by simp
   generalize h11.push (.cells (Value.nilFunc).cells T.fO)=h13 at *;subst hz;refine ab λz hz=>?_;simp;refine eK (g:=h11.size) (o:=0) (n:=1) (v:=.func (.func 43) #[] #[ptr F1,ptr B9,ptr B12,ptr h11.size]) (cur:=(Value.nilFunc).cells) (e:=T.fO) R9 rfl rfl rfl S6 b13 (by simp[Value.cells]) λh14 hs14 ⟨row,hr14,he14⟩ ho14=>?_;have hrow:row=(Value.func (.func 43) #[] #[ptr F1,ptr B9,ptr B12,ptr h11.size]).cells:=by rw[<-Array.toList_inj,he14];simp[Value.cells]
   rw[hrow]at hr14;have le14:(vw h11).le (vw h14):=λb o hb=>by have hlt:=View.lt (View.le_refl (vw h11)) hb;show h14[b]? = _;rw[ho14 b S0];exact q13 b o hb
   have c14:=c12.ext le14;have hW14:=c12.up (h':=h14);have x17:ak (grow W12 h11 h14) ⟨h11.size,0,Sk⟩=Sj (.func (.func 43) #[] #[ptr F1,ptr B9,ptr B12,ptr h11.size]):=cell_of (by rw[cU (OA _)];exact hr14) rfl;have l1014:=Sc l1012 hW14;have cv:Cv (grow W12 h11 h14) F1 B9 B12 h11.size r1 r2 f (hasS l) (whS f):=⟨at10.mono l1014,λp hp=>J3 e1 hp,ae hW14 x9,λg2 hg=>hasM g2 (Sc l1014 hg),ae hW14 x12,λv w hw=>LZ hsm hw,λg2 hg=>whM g2 (Sc hW14 hg),x17⟩;have hb1:=ae l1014 hb1;have hb2:=hb2.mono l1014;generalize grow W12 h11 h14=W14 at *;generalize h11.size=C at *;clear hr14 ho14 he14 b13 q13 le14 x9 x12 x17 hasM whM;subst hz;refine ab λz hz=>?_;refine ab λy hy=>?_;simp[ae c14.wle hb1,hb2.len];subst hy;refine aR [0,1,3,9,12,17,37,38,39,49,50,51,88,89,90] (fun(_:Unit) b=>[vl,vf,ptr F1,ptr B9,ptr B12,ptr C,vl,Sf Sg l.length,Sf Sg l.length,vb,Sf Sg f.blocks.length,Sf Sg f.blocks.length,vb,Sf Sg f.blocks.length,Sf Sg b])
    (λ_ b hx=>∃Wx,W14.le Wx/\Cx W h Wx hx (λ_=>Sk)/\((List.range b).findSome? λb=>(xf f (hasS l) b).map λi=>(b,i))=Sk) f.blocks.length ()
    rfl S0 rfl ⟨W14,View.le_refl _,c14,rfl⟩ (λ_ _=>rfl) (λv i h1 hk m=>by simp) ?_ ?_
   ·rintro _ b hx hb ⟨Wx,lx,cx,hno⟩ K2 hK2;obtain⟨ub,hub,rub⟩:=(hb2.mono lx).wh rfl (N:=6) rfl hb;have sb:=hsm.blk b hb;have sbi:=sb.ins;simp only[aP];refine ab λy hy=>?_;simp(disch:=omega)[((hb2.mono lx).mono cx.wle).idxn (N:=6) rfl,hub _ cx.wle];refine cx.dK (α:=BlkD) rub (n:=6) (z:=zz3) R9 rfl rfl R9 S3 S3 λB2 h15 W15 hW15 c15 at15 hle15=>?_;subst hy;refine ab λy hy=>?_;obtain⟨vp,vi,va,vt,-,si,-⟩:=kN at15;have bi:=si.2.bound;simp(disch:=omega)[ae c15.wle si.1,si.2.len];subst hy;have eN:((nth f.blocks b).ins.length:Int)+1=(((nth f.blocks b).ins.length+1:Nat):Int):=by omega
    rw[eN];have l1415:=Sc lx hW15;refine aR [0,1,3,9,12,17,18,19,37,38,39,49,50,51,88,89,90,98,99] (fun(_:Unit) i=>[vl,vf,ptr F1,ptr B9,ptr B12,ptr C,Sf Sg b,ptr B2,vl,Sf Sg l.length,Sf Sg l.length,vb,Sf Sg f.blocks.length,Sf Sg f.blocks.length,vb,Sf Sg f.blocks.length,Sf Sg b,Sf Sg (((nth f.blocks b).ins.length+1:Nat):Int),Sf Sg i])
     (λ_ i hx=>∃Wx,W15.le Wx/\Cx W h Wx hx (λ_=>Sk)/\(List.range i).find? (vF f (hasS l) b)=Sk) ((nth f.blocks b).ins.length+1) ()
     rfl S0 rfl ⟨W15,View.le_refl _,c15,rfl⟩ (λ_ _=>rfl) (λv i h1 hk m=>by simp) ?_ ?_
    ·rintro _ i h16 hi ⟨W16,l16,c16,hno2⟩ K3 hK3;have si16:=si.2.mono l16;have x0:=ae (Sc l16 c16.wle) si.1;have cv16:=cv.mono (Sc l1415 l16);simp only[aP];refine ab λy hy=>?_;simp;subst hy;refine ab λy hy=>?_;simp;subst hy;refine ab λy hy=>?_;refine iP (λρ h17=>∃W17,W16.le W17/\Cx W h W17 h17 (λ_=>Sk)/\Looks ρ [(0,vl),(1,vf),(3,ptr F1),(9,ptr B9),(12,ptr B12),(17,ptr C),(18,Sf Sg b),(19,ptr B2),(20,Sf Sg i),(21,.bool (oP f (whS f) b i)),(37,vl),(38,Sf Sg l.length),(39,Sf Sg l.length),(49,vb),(50,Sf Sg f.blocks.length),(51,Sf Sg f.blocks.length),(88,vb),(89,Sf Sg f.blocks.length),(90,Sf Sg b),(98,Sf Sg (((nth f.blocks b).ins.length+1:Nat):Int)),(99,Sf Sg i)]) ?_ ?_
     ·intro K4 hK4;refine ab λx hx=>?_;by_cases ci:i<(nth f.blocks b).ins.length
      ·have hii:((i:Int)<((nth f.blocks b).ins.length:Int)):=by omega
       have ax:=(si16.at ci);rw[<-ay ci]at ax;have q0:=ae c16.wle (ax.part InsD.tB).int;have q1:=(ax.part InsD.iy).int;have hx5:=si16.idxn (k:=.i64) (N:=5) rfl (i:=(i:Int)) S0 S0;generalize hii2:nth (nth f.blocks b).ins i=ii at *;have q0:ak (vw h16) (((slA vi).add (i*5)).add 0)=Sj (Sf Sg ii.op):=q0;have q1:ak W16 (((slA vi).add (i*5)).add 1)=Sj (Sf Sg ii.dst):=q1;have hx5:Bn.ev (.idx 5) vi (Sf Sg (i:Int))=Sj (Sp (Sj ((slA vi).add (i*5)))):=by simpa using hx5
       by_cases o16:ii.op=16
       ·have hn:oP f (whS f) b i=true:=by unfold oP;rw[hii2];simp[o16]
        simp[x0,si16.len,hii,hx5,q0,o16];subst hx;simp;exact hK4 _ _ ⟨W16,View.le_refl _,c16,by rw[hn];simp[Looks]⟩
       have hn:oP f (whS f) b i=!decide (whS f ii.dst=Sj ((b:Int),(i:Int))):=by unfold oP;rw[hii2];simp[o16,ci]
       simp[x0,si16.len,hii,hx5,q0,o16];subst hx;refine aY Sa ?_;refine ab λx hx=>?_;have wr:Rd W16 (((whS f ii.dst).map twoV).getD (.agg #[Sf Sg 0,Sf Sg 0])) ((whS f ii.dst).getD (0,0)):=by
        cases hv:whS f ii.dst with
        | none=>exact qP.2 ⟨rfl,by decide,by decide⟩
        | some w=>exact qP.2 ⟨rfl,(cv16.whR ii.dst w hv).1,(cv16.whR ii.dst w hv).2⟩
       have hww:((whS f ii.dst).map twoV).getD (.agg #[Sf Sg 0,Sf Sg 0])=twoV ((whS f ii.dst).getD (0,0)):=by cases whS f ii.dst<;>rfl
       refine iP (λρ h17=>∃B22,Cx W h W16 h17 (λ_=>Sk)/\Un.ev (vw h17) (.bV 2) (ptr B22)=Sj (twoV ((whS f ii.dst).getD (0,0)))/\Looks ρ [(0,vl),(1,vf),(3,ptr F1),(9,ptr B9),(12,ptr B12),(17,ptr C),(18,Sf Sg b),(19,ptr B2),(20,Sf Sg i),(21,.bool Sq),(22,ptr B22),(23,.bool (whS f ii.dst).isSome),(37,vl),(38,Sf Sg l.length),(39,Sf Sg l.length),(49,vb),(50,Sf Sg f.blocks.length),(51,Sf Sg f.blocks.length),(88,vb),(89,Sf Sg f.blocks.length),(90,Sf Sg b),(98,Sf Sg (((nth f.blocks b).ins.length+1:Nat):Int)),(99,Sf Sg i)]) ?_ ?_
       ·intro K5 hK5;refine aO W16 c16.wle ?_;have q1:=q1;refine iD ?_ ?_
        ·simp[cv16.whC,si.1,si.1,ae l16 si.1,hx5,q1];refine mZ (f:=mapE twoV (whS f)) (z:=zz1) (k:=T.int) (e:=T.jw) (d:=.int .i64) (r:=r2) (u:=Sf Sg ii.dst) U.gE U.int R9 rfl rfl ez (cv16.whM h16 c16.wle) ?_;simp;refine c16.cC (k:=(0,0)) (n:=1) (z:=.agg #[Sf Sg 0,Sf Sg 0]) rfl R9 rfl S1 S6 λB22 h17 hle17 c17=>?_;refine c17.bD (k:=(0,0)) (n:=1) Own.ao wr rfl rfl R9 rfl rfl λh18 l18 hl18 c18=>?_;have hall:=c18.all (k:=(0,0)) (n:=1) (l:=l18) (B:=B22) (e:=T.jw) Own.ao;refine hK5 _ _ ⟨B22,⟨c18.own.sub λk i e=>by(cases e),c18.old,c18.le0,λ_ _ _ e=>by cases e⟩,?_,by simp[Looks]⟩;rw[<-hww,hl18];exact hall
        simp[cv16.whC,si.1,ae l16 si.1,hx5,q1];refine c16.cC (k:=(0,0)) (n:=1) (z:=.agg #[Sf Sg 0,Sf Sg 0]) rfl R9 rfl S1 S6 λB22 h17 hle17 c17=>?_;refine⟨c17.wle,?_⟩;refine mZ (f:=mapE twoV (whS f)) (z:=zz1) (k:=T.int) (e:=T.jw) (d:=.int .i64) (r:=r2) (u:=Sf Sg ii.dst) U.gE U.int R9 rfl rfl ez (cv16.whM h17 c17.wle) ?_;simp;refine c17.bD (k:=(0,0)) (n:=1) Own.ao wr rfl rfl R9 rfl rfl λh18 l18 hl18 c18=>?_;have hall:=c18.all (k:=(0,0)) (n:=1) (l:=l18) (B:=B22) (e:=T.jw) Own.ao;refine hK5 _ _ ⟨B22,⟨c18.own.sub λk i e=>by(cases e),c18.old,c18.le0,λ_ _ _ e=>by cases e⟩,?_,by simp[Looks]⟩;rw[<-hww,hl18];exact hall
       rintro ρ h17 ⟨B22,c17,x22,L⟩;have L0:=L (0,vl) Sa;have L1:=L (1,vf) Sa;have L3:=L (3,ptr F1) Sa;have L9:=L (9,ptr B9) Sa;have L12:=L (12,ptr B12) Sa;have L17:=L (17,ptr C) Sa;have L18:=L (18,Sf Sg b) Sa;have L19:=L (19,ptr B2) Sa;have L20:=L (20,Sf Sg i) Sa;have L21:=L (21,.bool Sq) Sa;have L22:=L (22,ptr B22) Sa;have L23:=L (23,.bool (whS f ii.dst).isSome) Sa;have L37:=L (37,vl) Sa;have L38:=L (38,Sf Sg l.length) Sa;have L39:=L (39,Sf Sg l.length) Sa;have L49:=L (49,vb) Sa;have L50:=L (50,Sf Sg f.blocks.length) Sa;have L51:=L (51,Sf Sg f.blocks.length) Sa;have L88:=L (88,vb) Sa;have L89:=L (89,Sf Sg f.blocks.length) Sa;have L90:=L (90,Sf Sg b) Sa;have L98:=L (98,Sf Sg (((nth f.blocks b).ins.length+1:Nat):Int)) Sa;have L99:=L (99,Sf Sg i) Sa;simp only at L0 L1 L3 L9 L12 L17 L18 L19 L20 L21 L22 L23 L37 L38 L39 L49 L50 L51 L88 L89 L90 L98 L99;subst hx;refine ab λx hx=>?_;cases hv:whS f ii.dst with
       | none=>
        have hn:oP f (whS f) b i=true:=by rw[hn,hv];rfl
        rw[hv]at L23;simp[ag,ah,L0,L1,L3,L9,L12,L17,L18,L19,L20,L21,L22,L23,L37,L38,L39,L49,L50,L51,L88,L89,L90,L98,L99];subst hx;simp[ag,ah,L0,L1,L3,L9,L12,L17,L18,L19,L20,L21,L22,L23,L37,L38,L39,L49,L50,L51,L88,L89,L90,L98,L99];exact hK4 _ _ ⟨W16,View.le_refl _,c17,by rw[hn];simp[Looks,ag,ah,L0,L1,L3,L9,L12,L17,L18,L19,L20,L21,L22,L23,L37,L38,L39,L49,L50,L51,L88,L89,L90,L98,L99]⟩
       | some w=>
        have hn:oP f (whS f) b i=!(w.1 == (b:Int)&&w.2 == (i:Int)):=by rw[hn,hv];obtain⟨w1,w2⟩:=w;rw[O7];simp
        rw[hv]at L23 x22;have x22:Un.ev (vw h17) (.bV 2) (ptr B22)=Sj (.agg #[Sf Sg w.1,Sf Sg w.2]):=x22;simp[ag,ah,L0,L1,L3,L9,L12,L17,L18,L19,L20,L21,L22,L23,L37,L38,L39,L49,L50,L51,L88,L89,L90,L98,L99,x22];refine az (z:=zz1) (places:=zpd) (vs:=[(0,Sf Sg b),(1,Sf Sg i)]) (cs:=#[Sf Sg b,Sf Sg i]) R9 R9 Sa R9 ?_;refine Dz (t:=T.jw) (e:=T.int) (a:=w.1) (b:=w.2) (c:=(b:Int)) (d:=(i:Int)) (ki:=.i64) U.jw U.int R9 R9 R9 rfl rfl ?_;subst hx;cases he:(w.1 == (b:Int)&&w.2 == (i:Int))with
        | false=>rw[he]at hn;simp[ag,ah,L0,L1,L3,L9,L12,L17,L18,L19,L20,L21,L22,L23,L37,L38,L39,L49,L50,L51,L88,L89,L90,L98,L99];exact hK4 _ _ ⟨W16,View.le_refl _,c17,by rw[hn];simp[Looks,ag,ah,L0,L1,L3,L9,L12,L17,L18,L19,L20,L21,L22,L23,L37,L38,L39,L49,L50,L51,L88,L89,L90,L98,L99]⟩
        | true=>rw[he]at hn;simp[ag,ah,L0,L1,L3,L9,L12,L17,L18,L19,L20,L21,L22,L23,L37,L38,L39,L49,L50,L51,L88,L89,L90,L98,L99];exact hK4 _ _ ⟨W16,View.le_refl _,c17,by rw[hn];simp[Looks,ag,ah,L0,L1,L3,L9,L12,L17,L18,L19,L20,L21,L22,L23,L37,L38,L39,L49,L50,L51,L88,L89,L90,L98,L99]⟩
      have hn:oP f (whS f) b i=true:=by unfold oP;simp[ci]
      have hii:¬((i:Int)<((nth f.blocks b).ins.length:Int)):=by omega
      simp[x0,si16.len,hii];subst hx;simp;exact hK4 _ _ ⟨W16,View.le_refl _,c16,by rw[hn];simp[Looks]⟩
     rintro ρ h17 ⟨W17,l17,c17,L⟩;have L0:=L (0,vl) Sa;have L1:=L (1,vf) Sa;have L3:=L (3,ptr F1) Sa;have L9:=L (9,ptr B9) Sa;have L12:=L (12,ptr B12) Sa;have L17:=L (17,ptr C) Sa;have L18:=L (18,Sf Sg b) Sa;have L19:=L (19,ptr B2) Sa;have L20:=L (20,Sf Sg i) Sa;have L21:=L (21,.bool (oP f (whS f) b i)) Sa;have L37:=L (37,vl) Sa;have L38:=L (38,Sf Sg l.length) Sa;have L39:=L (39,Sf Sg l.length) Sa;have L49:=L (49,vb) Sa;have L50:=L (50,Sf Sg f.blocks.length) Sa;have L51:=L (51,Sf Sg f.blocks.length) Sa;have L88:=L (88,vb) Sa;have L89:=L (89,Sf Sg f.blocks.length) Sa;have L90:=L (90,Sf Sg b) Sa;have L98:=L (98,Sf Sg (((nth f.blocks b).ins.length+1:Nat):Int)) Sa;have L99:=L (99,Sf Sg i) Sa;simp only at L0 L1 L3 L9 L12 L17 L18 L19 L20 L21 L37 L38 L39 L49 L50 L51 L88 L89 L90 L98 L99;have cv17:=cv16.mono l17;have hplc:cR f b i=true:=by simp[cR];omega
     have hstep : ∀X,vF f (hasS l) b i=X->X=Sr->(List.range (i+1)).find? (vF f (hasS l) b)=none:=λX hX hf=>by rw[QJ,Ri,hno2,QC,List.find?_singleton,hX,hf];rfl
     subst hy;refine ab λy hy=>?_;cases hn:oP f (whS f) b i with
     | false=>rw[hn]at L21;simp[ag,ah,L0,L1,L3,L9,L12,L17,L18,L19,L20,L21,L37,L38,L39,L49,L50,L51,L88,L89,L90,L98,L99];subst hy;simp[ag,ah,L0,L1,L3,L9,L12,L17,L18,L19,L20,L21,L37,L38,L39,L49,L50,L51,L88,L89,L90,L98,L99];refine hK3 () _ _ (by simp[ag,ah,L0,L1,L3,L9,L12,L17,L18,L19,L20,L21,L37,L38,L39,L49,L50,L51,L88,L89,L90,L98,L99]) (by simp[bQ,ag,ah,L0,L1,L3,L9,L12,L17,L18,L19,L20,L21,L37,L38,L39,L49,L50,L51,L88,L89,L90,L98,L99]) ⟨W17,Sc l16 l17,c17,hstep _ rfl (by unfold vF;rw[hn];rfl)⟩
     | true=>
      rw[hn]at L21;simp[ag,ah,L0,L1,L3,L9,L12,L17,L18,L19,L20,L21,L37,L38,L39,L49,L50,L51,L88,L89,L90,L98,L99,ae c17.wle cv17.can];refine aU (ops:=[.tmp 138,.tmp 139]) (caps:=#[ptr F1,ptr B9,ptr B12,ptr C]) rfl R9 (Hm m hsm hM hd (i+1) (b:=(b:Int)) (i:=(i:Int)) cv17 c17.wle hplc S0) ?_;rintro _ h18 ⟨hle18,rfl⟩;have c18:=c17.ext hle18;have hW18:=c17.up (h':=h18);simp[ag,ah,L0,L1,L3,L9,L12,L17,L18,L19,L20,L21,L37,L38,L39,L49,L50,L51,L88,L89,L90,L98,L99];subst hy;cases hcn:canS f (hasS l) (whS f) (i+1) b i with
      | true=>simp[ag,ah,L0,L1,L3,L9,L12,L17,L18,L19,L20,L21,L37,L38,L39,L49,L50,L51,L88,L89,L90,L98,L99];refine hK3 () _ _ (by simp[ag,ah,L0,L1,L3,L9,L12,L17,L18,L19,L20,L21,L37,L38,L39,L49,L50,L51,L88,L89,L90,L98,L99]) (by simp[bQ,ag,ah,L0,L1,L3,L9,L12,L17,L18,L19,L20,L21,L37,L38,L39,L49,L50,L51,L88,L89,L90,L98,L99]) ⟨_,Sc l16 (Sc l17 hW18),c18,hstep _ rfl (by unfold vF;rw[hn,hcn];rfl)⟩
      | false=>
       have hbad:vF f (hasS l) b i=true:=by unfold vF;rw[hn,hcn];rfl
       have hrow:xf f (hasS l) b=Sj i:=by unfold xf;exact find_range hi hno2 hbad
       have hfirst:pR f (hasS l)=Sj (b,i):=by unfold pR;exact wO hb hno (by rw[hrow];rfl)
       rw[hfirst]at hK;simp[ag,ah,L0,L1,L3,L9,L12,L17,L18,L19,L20,L21,L37,L38,L39,L49,L50,L51,L88,L89,L90,L98,L99];exact hK _ _ ⟨c18.le0,rfl⟩
    rintro _ h16 ⟨W16,l16,c16,hno2⟩;refine hK2 () _ _ rfl rfl ⟨W16,Sc l1415 l16,c16,?_⟩;rw[QJ,QL,hno,QC];simp[xf,hno2]
   rintro _ hx ⟨Wx,lx,cx,hno⟩;have e:pR f (hasS l)=none:=hno;rw[e]at hK;simp;subst hz;simp;exact hK _ _ ⟨cx.le0,rfl⟩
 have e:jl l f=((jQ l).1,0,0):=by unfold jl;rw[if_pos e1]
 simp[e1];exact hK _ _ ⟨c2.le0,by rw[e]⟩
theorem rR{val:Int}{x:Int × Int}{l:List Th}: ∀{y:WL},x∈l.foldl (qO val) y↔x∈y\/∃t∈l,x=(t.blk,t.place)/\val∈t.tks:=by
 induction l with
 | nil=>simp
 | cons t l ih=>
  intro y;rw[O3,ih,qO,q7];simp only[OQ,exists_eq_or_imp];constructor
  ·rintro((h | h) | h)
   ·exact .inl h
   ·exact .inr (.inl h)
   exact .inr (.inr h)
  rintro(h | h | h)
  ·exact .inl (.inl h)
  ·exact .inl (.inr h)
  exact .inr h
theorem nv{f:an}{v:Int}(h:cS f v=Sq){t t':Th}(ht:t∈aB f)(ht':t'∈aB f)(hm:v∈t.mks)(hk:v∈t'.tks):t.blk=t'.blk/\t.place<t'.place:=by
 unfold cS jD at h;simp only[OG]at h;have hb:=h.1;unfold lP at hb;simp at hb;obtain⟨⟨⟨⟨b1,b2⟩,b3⟩,b4⟩,b5⟩:=hb;have m1:(t.blk,t.place)∈ma v (aB f):=lQ.2 (.inr ⟨t,ht,rfl,hm⟩);have m2:(t'.blk,t'.place)∈jq v (aB f):=rR.2 (.inr ⟨t',ht',rfl,hk⟩);have one : ∀{l:WL} {x:Int × Int},l.length=1->x∈l->nth l 0=x:=by
  intro l x hl hx;match l,hl with
  | [y],_=>simp at hx;rw[hx];rfl
 have e1:=one S0 m1;have e2:=one S0 m2;rw[e1,e2]at b4;rw[e1,e2]at b5;exact⟨b4,by simpa using b5⟩
theorem dr{f:an}{b k:Nat}(hb:b<f.blocks.length)(hk:k<(nth f.blocks b).ins.length):insT f b k∈aB f:=dS.2 ⟨b,hb,fg.2 (.inr (.inl ⟨k,hk,rfl⟩))⟩
theorem Ft{f:an}{b:Nat}(hb:b<f.blocks.length):endT f b∈aB f:=dS.2 ⟨b,hb,fg.2 (.inr (.inr rfl))⟩
def ownArgs (s:bY):List Int:=if s.term then s.t.args else s.i.args
def xl (f:an) (args:List Int) (v:Int):Prop:=∃v2 op,v2∈args/\(aD f v2 op).2=Sq/\v∈(aD f v2 op).1.args
theorem sD{l:List Int}{v:Int}(h:v∈l.drop 1):v∈l:=List.mem_of_mem_drop h
theorem sK{f:an}{i:InsD}{m lo hi sg:Int}{x:FitD}(hl:1<=i.args.length)(h:immS f i m lo hi sg=Sj x){v:Int}(hv:v∈x.takes):v∈i.args:=by
 unfold immS at h;split at h
 ·cases h;simp at hv;subst hv;exact aS S0
 cases h
theorem Br{f:an}{i:InsD}{temp op pl su:Int}{k:Nat}{x:FitD}(hall : ∀i∈du f,rT i)(hl:1<=i.args.length)(h:memS f i temp op pl su k=Sj x){v:Int}(hv:v∈x.takes):v∈i.args\/xl f i.args v:=by
 have h0:nth i.args 0∈i.args:=aS S0;have hin : ∀{j},(aD f (nth i.args 0) 2).2=Sq->j<2->xl f i.args (nth (aD f (nth i.args 0) 2).1.args j):=fun{j} hb hj=>by obtain⟨m1,m2,-⟩:=dm hb;have:=(hall _ m1).two S0;exact⟨_,2,h0,hb,aS S0⟩
 match k with
 | 0=>
  simp only[memS]at h;split at h
  ·cases h;rcases OQ.1 hv with rfl | hv
   ·exact .inl h0
   exact .inl (sD hv)
  cases h
 | 1=>
  simp only[memS]at h;split at h
  ·rename_i c;split at h
   ·cases h;rcases OQ.1 hv with rfl | hv
    ·exact .inr (hin c S1)
    exact .inl (sD hv)
   cases h
  cases h
 | 2=>
  simp only[memS]at h;split at h
  ·rename_i c;simp only[OG]at c;cases h;rcases OQ.1 hv with rfl | hv
   ·exact .inr (hin c.1 S1)
   rcases OQ.1 hv with rfl | hv
   ·exact .inr (hin c.1 S1)
   exact .inl (sD hv)
  cases h
 | k+3=>
  simp only[memS]at h;cases h;rcases OQ.1 hv with rfl | hv
  ·exact .inl h0
  exact .inl (sD hv)
theorem C1{s:bY}{pat:Int}{x:FitD}(hok:mC s)(ht:xX s.t)(h:tryS s pat=Sj x){v:Int}(hv:v∈x.takes):v∈ownArgs s\/xl s.f (ownArgs s) v:=by
 unfold tryS at h;unfold ownArgs;cases htm:s.term with
 | true=>
  rw[htm,if_pos rfl]at h;rw[if_pos rfl];unfold ic at h;split at h
  ·cases h;cases hv
  split at h
  ·cases h;exact .inl hv
  split at h
  ·cases h;cases hv
  split at h
  ·cases h;exact .inl hv
  split at h
  ·rename_i c;split at h
   ·rename_i c2;cases h;exact .inr ⟨_,_,aS (ht.one (.inl c.2)),c2,hv⟩
   cases h
  split at h
  ·cases h;exact .inl hv
  cases h
 | false=>
  rw[htm,if_neg Sa]at h;rw[if_neg Sa];unfold patS at h;split at h
  ·rename_i c;obtain⟨c1,c2,c3⟩:=c;have hp1:1<=pat.toNat/\pat.toNat<=32:=by omega
   generalize pat.toNat=p at *;have len:16<=p->p<=30->1<=s.i.args.length:=by
    intro h2 h30;have hopr:(2<=s.i.op/\s.i.op<=14)\/s.i.op=16\/s.i.op=15:=by
     rw[c3];unfold opOf;repeat' split
     all_goals omega
    rcases hopr with q | q | q
    ·have:=hok.one.two (.inl q);omega
    ·have:=hok.one.two (.inr (.inl q));omega
    exact hok.one.one q
   unfold doS at h;by_cases p1:p=1
   ·rw[if_pos p1]at h;by_cases q:inR s.i.imm.v (-32768) 32767=Sq
    ·rw[if_pos q]at h;cases h;cases hv
    rw[if_neg q]at h;cases h
   rw[if_neg p1]at h;by_cases p2:p=2
   ·rw[if_pos p2]at h;cases h;cases hv
   rw[if_neg p2]at h;by_cases p15:p<=15
   ·rw[if_pos p15]at h;cases h;exact .inl hv
   rw[if_neg p15]at h;by_cases p16:p=16
   ·rw[if_pos p16]at h;exact .inl (sK (len S0 S0) h hv)
   rw[if_neg p16]at h;by_cases p17:p=17
   ·rw[if_pos p17]at h;exact .inl (sK (len S0 S0) h hv)
   rw[if_neg p17]at h;by_cases p18:p=18
   ·rw[if_pos p18]at h;exact .inl (sK (len S0 S0) h hv)
   rw[if_neg p18]at h;by_cases p21:p<=21
   ·rw[if_pos p21]at h;exact .inl (sK (len S0 S0) h hv)
   rw[if_neg p21]at h;by_cases p22:p=22
   ·rw[if_pos p22]at h;by_cases q:(aD s.f (nth s.i.args 0) 4).2=Sq
    ·rw[if_pos q]at h;have l1:=len S0 S0;have l2:=hok.one.two (by rw[c3,p22];exact .inl S1);obtain⟨m1,m2,-⟩:=dm q;have l3:=(hok.all _ m1).two S0;cases h;rcases OQ.1 hv with rfl | hv
     ·exact .inr ⟨_,_,aS S0,q,aS S0⟩
     rcases OQ.1 hv with rfl | hv
     ·exact .inr ⟨_,_,aS S0,q,aS S0⟩
     rcases OQ.1 hv with rfl | hv
     ·exact .inl (aS S0)
     cases hv
    rw[if_neg q]at h;cases h
   rw[if_neg p22]at h;by_cases p26:p<=26
   ·rw[if_pos p26]at h;exact Br hok.all (len S0 S0) h hv
   rw[if_neg p26]at h;by_cases p30:p<=30
   ·rw[if_pos p30]at h;exact Br hok.all (len S0 S0) h hv
   rw[if_neg p30]at h;by_cases p31:p=31
   ·rw[if_pos p31]at h;cases h;exact .inl hv
   rw[if_neg p31]at h;cases h;exact .inl hv
  cases h
theorem JH{f:an}(m:gp f)(hsm:SmF f)(hr : ∀i∈du f,-2147483648<=i.imm.v/\i.imm.v<=2147483647):Down f (whS f):=by
 intro b i pat x v w hpl hx hv hw;obtain⟨h1,h2,h3,h4⟩:=AE (temp:=0) m hsm hr hpl;obtain⟨b',k',hb',hk',rfl,hd,ho16,ho18,hfo⟩:=GN hw;simp[cR]at hpl;obtain⟨⟨⟨g1,g2⟩,g3⟩,g4⟩:=hpl;have hb:b.toNat<f.blocks.length:=by omega
 have made : ∀{b k:Nat} {u:Int},b<f.blocks.length->k<(nth f.blocks b).ins.length->(nth (nth f.blocks b).ins k).dst=u->(nth (nth f.blocks b).ins k).op≠16->u∈(insT f b k).mks:=by intro b k u hb hk hd ho;show u∈bg (nth (nth f.blocks b).ins k);unfold bg;rw[if_neg ho];split<;>simp[hd]
 have hmk:=made hb' hk' hd ho16;obtain⟨t,ht,htb,htp,hta⟩ : ∃t∈aB f,t.blk=b/\t.place=i/\t.tks=ownArgs (dI f b i 0):=by
  unfold ownArgs dI;by_cases e:i=(nth f.blocks b.toNat).ins.length
  ·rw[if_pos e,if_pos rfl];exact⟨_,Ft hb,by show((b.toNat:Nat):Int)=b;omega,by show(((nth f.blocks b.toNat).ins.length:Nat):Int)=i;omega,rfl⟩
  rw[if_neg e,if_neg Sa];exact⟨_,dr hb (k:=i.toNat) S0,by show((b.toNat:Nat):Int)=b;omega,by show((i.toNat:Nat):Int)=i;omega,rfl⟩
 have key : ∃t2∈aB f,t2.blk=b/\t2.place<=i/\v∈t2.tks:=by
  rcases C1 h1 h2 hx hv with hv | ⟨v2,op,hv2,hf2,hv⟩
  ·exact⟨t,ht,htb,by omega,by rw[hta];exact hv⟩
  rw[h4]at hf2 hv;obtain⟨m1,m2,m3,m4,m5⟩:=dm hf2;obtain⟨b2,k2,hb2,hk2,e2⟩:=iz.1 m1;rw[e2]at m4 m5 hv;have hm2:=made hb2 hk2 m4 m5;obtain⟨q1,q2⟩:=nv m3 (dr hb2 hk2) ht hm2 (by rw[hta];exact hv2);exact⟨_,dr hb2 hk2,by rw[q1,htb],by rw[htp]at q2;omega,hv⟩
 obtain⟨t2,ht2,e1,e2,e3⟩:=key;obtain⟨q1,q2⟩:=nv hfo (dr hb' hk') ht2 hmk e3;have q1:(b':Int)=t2.blk:=q1;have q2:(k':Int)<t2.place:=q2;refine⟨?_,by simp only;omega⟩;simp[cR];omega
def my:List Int:=[1,2,1,1,3,1,1,1,1,1,1,1,1,1,12,1,1,1,1,1,1,3,2,2,2,4,1,1,1,3,6,4,1,1,1,1,2]
def allT:List eB:=rows (λi=>⟨(i:Int)+1,nth my i⟩) 37
theorem sY{W:View}{p c:Int}(hp:I64 p)(hc:I64 c):Rd W (.agg #[Sf Sg p,Sf Sg c]) (⟨p,c⟩:eB):=by unfold Rd;rw[if_pos (show Rep.agg eB=Sq from rfl)];exact⟨_,rfl,[Sf Sg p],[Sf Sg c],rfl,⟨rfl,hp⟩,rfl,hc⟩
theorem wS {W:View} : ∀{l:List Int},(∀x∈l,I64 x)->pG W (l.map λc=>Sf Sg c) l
 | [],_=>trivial
 | x::l,h=>⟨bO.2 ⟨rfl,h x (OM ..)⟩,wS λy hy=>h y (OL _ hy)⟩
theorem yL: ∀x∈my,1<=x/\x<=12:=by
 have h:my.all (λx=>decide (1<=x)&&decide (x<=12))=true:=by kernel_rfl
 exact λx hx=>by simpa using Po.1 h x hx
theorem Lb{h:Heap}:aw Ss 22 #[] h (λu h'=>(vw h).le (vw h')/\SlRd (vw h') u allT):=by
 refine aj (args:=[]) follows Tryz.func22 E.gO S8 λK hK=>?_;dsimp only[L.gO,lkF,lkG];refine ab λz hz=>?_;simp;subst hz;refine ab λz hz=>?_;simp;subst hz;refine ab λz hz=>?_;simp;refine kL (α:=Int) (ds:=my) (vs:=my.map λc=>Sf Sg c) (X:=nothing) El.aV R9 (wS λx hx=>by have:=yL x hx;constructor<;>omega) rfl S1 S1 λuc h1 hle1 hs1 huc hb1=>?_;have huc:=huc (vw h1) (bK) rfl;have hl:=huc.len (K:=vw h1);have hl37:my.length=37:=rfl;rw[hl37]at hl;simp[hl];refine aR [0,1,4,5,6] (fun(vo:Value) k=>[Sn Sk 0 0,vo,uc,Sf Sg 37,Sf Sg k])
   (λvo k h2=>Mine nothing h1 h2 nothing T.mH vo (rows (λi=>(⟨(i:Int)+1,nth my i⟩:eB)) k)) 37 (Sn Sk 0 0)
   rfl S0 rfl (Mine.start bK) (λ_ _=>rfl) (λv i h1 hk m=>by simp) ?_ ?_
 ·rintro vo k h2 hk m K2 hK2;have hle:=m.old;have e1:=huc.idx1 (k:=.i64) (i:=(k:Int)) rfl S0 (by rw[hl37];omega);have e2:=ae hle (huc.int Sb (i:=k) (by rw[hl37];omega));simp only[OR]at e1;have hc:=yL _ (aS (l:=my) (i:=k) (by rw[hl37];omega));have ew:IntKind.i64.wrap ((k:Int)+1)=(k:Int)+1:=bC S0 S0;refine ab λy hy=>?_;simp[e1,e2];subst hy;simp[ew];refine az (t:=T.mH) (z:=zz1) (places:=zpd) (vs:=[(0,Sf Sg ((k:Int)+1)),(1,Sf Sg (nth my k))]) (cs:=#[Sf Sg ((k:Int)+1),Sf Sg (nth my k)]) R9 R9 Sa R9 ?_;refine m.push (u:=.agg #[Sf Sg ((k:Int)+1),Sf Sg (nth my k)]) El.ko Sa (sY (by constructor<;>omega) (by constructor<;>omega)) S7 S7 S3 S3 λu v' h5 m'=>?_;refine hK2 v' _ _ rfl rfl ?_;rw[eY];exact m'
 rintro vo h2 m;simp;subst hz;simp;exact hK _ _ ⟨Sc hle1 m.old,m.now⟩
theorem Es{a b:List Int}{va vb:Value}{h:Heap}(ha:SlRd (vw h) va a)(hb:SlRd (vw h) vb b):
  aw Ss 19 #[va,vb] h (λu h'=>u = .bool (decide (a=b))/\h'=h):=by
 refine aj (args:=[va,vb]) follows Tryz.func19 E.eE S8 λK hK=>?_;have hbd:=ha.bound;dsimp only[L.eE,lkF,lkG];refine ab λz hz=>?_;simp;subst hz;refine ab λz hz=>?_;by_cases hl:a.length=b.length
 ·have hl':(a.length:Int)=b.length:=by omega
  simp[ha.len,hb.len,hl'];subst hz;refine ab λz hz=>?_;simp;refine cW [0,1,4,5] (fun(_:Unit) i=>[va,vb,.bool Sr,Sf Sg i]) (λ_ i h3=>h3=h/\∀j,j<i->nth a j=nth b j) a.length ()
   rfl S0 rfl ⟨rfl,λj hj=>by omega⟩ (λ_ _=>rfl) (λv k h3 hk m=>by simp[ha.len]) ?_ ?_
  ·rintro _ i h hlti ⟨rfl,hpre⟩ K2 hK2;have e1:=ha.idx1 rfl (k:=.i64) (i:=(i:Int)) S0 S0;have e2:=hb.idx1 rfl (k:=.i64) (i:=(i:Int)) S0 S0;have e3:=ha.int Sb (i:=i) hlti;have e4:=hb.int Sb (i:=i) S0;simp only[OR]at e1 e2;by_cases e:nth a i=nth b i
   ·simp[e1,e2,e3,e4,e];refine hK2 () _ _ rfl rfl ⟨rfl,λj hj=>?_⟩;rcases OD j i with q | q
    ·exact hpre j q
    have:j=i:=by omega
    subst this;exact e
   simp[e1,e2,e3,e4,e];exact hK _ _ ⟨by rw[decide_eq_false];rintro rfl;exact e rfl,rfl⟩
  rintro _ h ⟨rfl,hpre⟩;have he:a=b:=PR hl λj h1 h2=>by have:=hpre j h1;rwa [ay h1,ay h2]at this
  simp;subst hz;simp;exact hK _ _ ⟨by rw[decide_eq_true he],rfl⟩
 have hl':¬(a.length:Int)=b.length:=by omega
 simp[ha.len,hb.len,hl'];exact hK _ _ ⟨by rw[decide_eq_false];rintro rfl;exact hl rfl,rfl⟩
def xr (a b:aZ):Bool:=decide (a.op=b.op)&&decide (a.d=b.d)&&decide (a.e=b.e)&&decide (a.a=b.a)&&decide (a.b=b.b)&&decide (a.c=b.c)&&decide (a.imm.v=b.imm.v)&&decide (a.args=b.args)
theorem Gb{a b:aZ}:xr a b=Sq↔a=b:=by unfold xr;obtain⟨a1,a2,a3,a4,a5,a6,⟨a7⟩,a8⟩:=a;obtain⟨b1,b2,b3,b4,b5,b6,⟨b7⟩,b8⟩:=b;simp[and_assoc]
theorem tP{ρ:Nat->Option Value}{H:View}{a b:E}{p q:Bool}(ha:ev ρ H a=Sj (.bool p))(hb:p=Sq->ev ρ H b=Sj (.bool q)):ev ρ H (.ite a b (.con (.bool Sr)))=Sj (.bool (p&&q)):=by
 cases p with
 | true=>simp[ha,hb rfl]
 | false=>simp[ha]
theorem rI{ρ:Nat->Option Value}{H:View}{a b:E}{k:IntKind}{x y:Int}(ha:ev ρ H a=Sj (.int k x))(hb:ev ρ H b=Sj (.int k y)):ev ρ H (.bin (.cmp .eql) a b)=Sj (.bool (decide (x=y))):=by simp[ha,hb]
theorem gX{ρ:Nat->Option Value}{H:View}{n off B:Nat}{v:Value}(h2:ρ n=Sj (ptz B))(hc:ak H (Addr.add ⟨B,0,Sk⟩ off)=Sj v):ev ρ H (.un .load (.un (.fld off) (.tmp n)))=Sj v:=by simp[h2];simpa using hc
theorem Bj{a b:aZ}{va vb:Value}{h:Heap}{W:View}(hW:W.le (vw h))(ha:Rd W va a)(hb:Rd W vb b):
  aw Ss 40 #[va,vb] h (λu h'=>u = .bool (xr a b)/\(vw h).le (vw h')):=by
 refine aj (args:=[va,vb]) follows Tryz.func40 E.jY S8 λK hK=>?_;dsimp only[L.jY,lkF,lkG];have c0:=Cx.start hW;refine ab λz hz=>?_;simp;refine c0.dc rfl ha λA h1 W1 hW1 c1 at1 hle1=>?_;refine c1.dc rfl (hb.mono hW1) λB h2 W2 hW2 c2 at2 hle2=>?_;have at1:=at1.mono hW2;subst hz;have a0:=ae c2.wle (at1.part aZ.tB).int;have a1:=ae c2.wle (at1.part aZ.NQ).int;have a2:=ae c2.wle (at1.part aZ.Ob).int;have a3:=ae c2.wle (at1.part aZ.MQ).int;have a4:=ae c2.wle (at1.part aZ.Nu).int;have a5:=ae c2.wle (at1.part aZ.Nv).int;have b0:=ae c2.wle (at2.part aZ.tB).int;have b1:=ae c2.wle (at2.part aZ.NQ).int;have b2:=ae c2.wle (at2.part aZ.Ob).int;have b3:=ae c2.wle (at2.part aZ.MQ).int;have b4:=ae c2.wle (at2.part aZ.Nu).int;have b5:=ae c2.wle (at2.part aZ.Nv).int;obtain⟨ua,ka,sa⟩:=(at1.part aZ.eS).sl;obtain⟨ub,kb,sb⟩:=(at2.part aZ.eS).sl;refine ab λz hz=>?_;generalize hc:(E.ite (E.ite (E.ite (E.ite (E.ite (E.ite _ _ _) _ _) _ _) _ _) _ _) _ _)=c;have a6:=ae c2.wle (at1.part aZ.je).i32;have b6:=ae c2.wle (at2.part aZ.je).i32;have hcv : ∀ρ:Nat->Option Value,ρ 2=Sj (ptz A)->ρ 3=Sj (ptz B)->ev ρ (vw h2) c=Sj (.bool (decide (a.op=b.op)&&decide (a.d=b.d)&&decide (a.e=b.e)&&decide (a.a=b.a)&&decide (a.b=b.b)&&decide (a.c=b.c)&&decide (a.imm.v=b.imm.v))):=λρ r2 r3=>by rw[<-hc];exact tP (tP (tP (tP (tP (tP (rI (gX r2 a0) (gX r3 b0)) λ_=>(rI (gX r2 a1) (gX r3 b1))) λ_=>(rI (gX r2 a2) (gX r3 b2))) λ_=>(rI (gX r2 a3) (gX r3 b3))) λ_=>(rI (gX r2 a4) (gX r3 b4))) λ_=>(rI (gX r2 a5) (gX r3 b5))) λ_=>(rI (gX r2 a6) (gX r3 b6))
 have hka:=ae c2.wle ka;have hkb:=ae c2.wle kb;simp at hka hkb;have key:xr a b=((decide (a.op=b.op)&&decide (a.d=b.d)&&decide (a.e=b.e)&&decide (a.a=b.a)&&decide (a.b=b.b)&&decide (a.c=b.c)&&decide (a.imm.v=b.imm.v))&&decide (a.args=b.args)):=rfl;rw[key]at hK;clear key;generalize (decide (a.op=b.op)&&decide (a.d=b.d)&&decide (a.e=b.e)&&decide (a.a=b.a)&&decide (a.b=b.b)&&decide (a.c=b.c)&&decide (a.imm.v=b.imm.v))=q at hcv hK;clear hc a0 a1 a2 a3 a4 a5 a6 b0 b1 b2 b3 b4 b5 b6;cases q with
 | false=>simp[hcv];subst hz;simp;exact hK _ _ ⟨rfl,c2.le0⟩
 | true=>simp[hcv,hka,hkb];refine af R9 (Es (sa.mono c2.wle) (sb.mono c2.wle)) ?_;rintro _ h3 ⟨rfl,rfl⟩;subst hz;simp;exact hK _ _ ⟨by rw[QK],c2.le0⟩
theorem BM{a b:List aZ}{va vb:Value}{h:Heap}{W:View}(hW:W.le (vw h))(ha:SlRd W va a)(hb:SlRd W vb b):
  aw Ss 17 #[va,vb] h (λu h'=>u = .bool (decide (a=b))/\(vw h).le (vw h')):=by
 refine aj (args:=[va,vb]) follows Tryz.func17 E.cQ S8 λK hK=>?_;have hbd:=ha.bound;have c0:=Cx.start hW;dsimp only[L.cQ,lkF,lkG];refine ab λz hz=>?_;simp;subst hz;refine ab λz hz=>?_;by_cases hl:a.length=b.length
 ·have hl':(a.length:Int)=b.length:=by omega
  simp[ha.len,hb.len,hl'];subst hz;refine ab λz hz=>?_;simp;refine cW [0,1,4,5] (fun(_:Unit) i=>[va,vb,.bool Sr,Sf Sg i]) (λ_ i h3=>(∃W3,W.le W3/\Cx W h W3 h3 λ_=>Sk)/\∀j,j<i->nth a j=nth b j) a.length ()
   rfl S0 rfl ⟨⟨W,View.le_refl _,c0⟩,λj hj=>by omega⟩ (λ_ _=>rfl) (λv k h3 hk m=>by simp[ha.len]) ?_ ?_
  ·rintro _ i h3 hlti ⟨⟨W3,hW3,c3⟩,hpre⟩ K2 hK2;obtain⟨ua,hua,rua⟩:=(ha.mono hW3).wh rfl (N:=8) rfl hlti;obtain⟨ub,hub,rub⟩:=(hb.mono hW3).wh rfl (N:=8) rfl (i:=i) S0;refine ab λy hy=>?_;refine aO W3 c3.wle ?_;simp(disch:=omega)[(ha.mono hW3).idxn (N:=8) rfl,(hb.mono hW3).idxn (N:=8) rfl,hua _ Sb,hub _ Sb];refine af R9 (Bj c3.wle rua rub) ?_;rintro _ h4 ⟨rfl,hle4⟩;have c4:=c3.ext hle4;have e:xr (nth a i) (nth b i)=decide (nth a i=nth b i):=O7.2 (by rw[Gb,decide_eq_true_iff]);by_cases e2:nth a i=nth b i
   ·have e':xr (nth a i) (nth b i)=true:=by rw[e,decide_eq_true e2]
    simp[e'];subst hy;simp;refine hK2 () _ _ rfl rfl ⟨⟨_,Sc hW3 c3.up,c4⟩,λj hj=>?_⟩;rcases OD j i with q | q
    ·exact hpre j q
    have:j=i:=by omega
    subst this;exact e2
   have e':xr (nth a i) (nth b i)=false:=by rw[e,decide_eq_false e2]
   simp[e'];subst hy;simp;exact hK _ _ ⟨by rw[decide_eq_false];rintro rfl;exact e2 rfl,c4.le0⟩
  rintro _ h3 ⟨⟨W3,hW3,c3⟩,hpre⟩;have he:a=b:=PR hl λj h1 h2=>by have:=hpre j h1;rwa [ay h1,ay h2]at this
  simp;subst hz;simp;exact hK _ _ ⟨by rw[decide_eq_true he],c3.le0⟩
 have hl':¬(a.length:Int)=b.length:=by omega
 simp[ha.len,hb.len,hl'];exact hK _ _ ⟨by rw[decide_eq_false];rintro rfl;exact hl rfl,View.le_refl _⟩
def xE (op:Int):Nat:=if op=1 then 2 else if op<=14 then(op+1).toNat else if op=15 then 26 else if op=16 then 30 else if op=17 then 31 else 32
theorem CN{f:an}{i:InsD}(h:1<=i.op/\i.op<=18):(doS f i 0 (xE i.op)).isSome=Sq/\opOf (xE i.op)=i.op/\1<=xE i.op/\xE i.op<=32:=by
 obtain⟨h1,h2⟩:=h;obtain⟨n,hn⟩ : ∃n:Nat,i.op=n:=⟨i.op.toNat,by omega⟩;rw[hn];have:n<19:=by omega
 have n0:1<=n:=by omega
 match n,this,n0 with
 | 1,_,_=>exact⟨rfl,by decide,by decide,by decide⟩
 | 2,_,_=>exact⟨rfl,by decide,by decide,by decide⟩
 | 3,_,_=>exact⟨rfl,by decide,by decide,by decide⟩
 | 4,_,_=>exact⟨rfl,by decide,by decide,by decide⟩
 | 5,_,_=>exact⟨rfl,by decide,by decide,by decide⟩
 | 6,_,_=>exact⟨rfl,by decide,by decide,by decide⟩
 | 7,_,_=>exact⟨rfl,by decide,by decide,by decide⟩
 | 8,_,_=>exact⟨rfl,by decide,by decide,by decide⟩
 | 9,_,_=>exact⟨rfl,by decide,by decide,by decide⟩
 | 10,_,_=>exact⟨rfl,by decide,by decide,by decide⟩
 | 11,_,_=>exact⟨rfl,by decide,by decide,by decide⟩
 | 12,_,_=>exact⟨rfl,by decide,by decide,by decide⟩
 | 13,_,_=>exact⟨rfl,by decide,by decide,by decide⟩
 | 14,_,_=>exact⟨rfl,by decide,by decide,by decide⟩
 | 15,_,_=>exact⟨rfl,by decide,by decide,by decide⟩
 | 16,_,_=>exact⟨rfl,by decide,by decide,by decide⟩
 | 17,_,_=>exact⟨rfl,by decide,by decide,by decide⟩
 | 18,_,_=>exact⟨rfl,by decide,by decide,by decide⟩
 | 0,_,h=>omega
 | n+19,h,_=>omega
theorem Jh{f:an}(m:gp f){b k:Nat}(hb:b<f.blocks.length)(hk:k<(nth f.blocks b).ins.length):1<=(nth (nth f.blocks b).ins k).op/\(nth (nth f.blocks b).ins k).op<=18:=by obtain⟨-,h⟩:=m.insG hb hk;unfold mI at h;simp at h;exact h.1
end Go.Proofs.YtnfiilgdjpdlkaaGreatDoor
namespace Go.Lft
open Go
theorem FF {pp:PP} {P:Program} {Q:Post} {ρ:Env} {h:Heap} {x:LC} {σ:Type} (kp:List Nat) (vals:σ->Nat->List Value) (J:σ->Nat->Heap->Prop) (n:Nat) (s0:σ)
  (h0:bQ kp ρ=kp.zip (vals s0 0)) (hj:J s0 0 h)
  (round : ∀s k h,k<=n->J s k h->∀K:Env->Heap->Prop,(∀s' ρ' h',k<n->bQ kp ρ'=kp.zip (vals s' (k+1))->J s' (k+1) h'->K ρ' h')->x.wp P (fj K Q) (kp.zip (vals s k)) h):LC.wp P (.loop x) Q ρ h:=by refine ja kp (λm ρ h=>∃s k,k<=n/\ρ=kp.zip (vals s k)/\m=n-k/\J s k h) n ⟨s0,0,by omega,h0,by omega,hj⟩ ?_;rintro m ρ h ⟨s,k,hk,rfl,rfl,hJ⟩ K hK;exact round s k h hk hJ K λs' ρ' h' hlt he hJ'=>hK (n-(k+1)) _ _ S0 ⟨s',k+1,by omega,he,rfl,hJ'⟩
end Go.Lft
namespace Go.Proofs.YtnfiilgdjpdlkaaGreatDoor
open Go Go.Lft
section
variable {f:an} {i:InsD} {b p pat t t':Int}
theorem Hy : ∀q:Nat,q<=32->q≠26->q≠30->doS f i t q=doS f i t' q
 | 0,_,_,_=>rfl
 | 1,_,_,_=>rfl
 | 2,_,_,_=>rfl
 | 3,_,_,_=>rfl
 | 4,_,_,_=>rfl
 | 5,_,_,_=>rfl
 | 6,_,_,_=>rfl
 | 7,_,_,_=>rfl
 | 8,_,_,_=>rfl
 | 9,_,_,_=>rfl
 | 10,_,_,_=>rfl
 | 11,_,_,_=>rfl
 | 12,_,_,_=>rfl
 | 13,_,_,_=>rfl
 | 14,_,_,_=>rfl
 | 15,_,_,_=>rfl
 | 16,_,_,_=>rfl
 | 17,_,_,_=>rfl
 | 18,_,_,_=>rfl
 | 19,_,_,_=>rfl
 | 20,_,_,_=>rfl
 | 21,_,_,_=>rfl
 | 22,_,_,_=>rfl
 | 23,_,_,_=>rfl
 | 24,_,_,_=>rfl
 | 25,_,_,_=>rfl
 | 26,_,h,_=>absurd rfl h
 | 27,_,_,_=>rfl
 | 28,_,_,_=>rfl
 | 29,_,_,_=>rfl
 | 30,_,_,h=>absurd rfl h
 | 31,_,_,_=>rfl
 | 32,_,_,_=>rfl
 | q+33,h,_,_=>absurd h S0
theorem FH (h1:pat≠26) (h2:pat≠30):patS f i t pat=patS f i t' pat:=by
 unfold patS;split
 ·rename_i c;exact Hy _ S0 S0 S0
 rfl
theorem xj (h1:pat≠26) (h2:pat≠30):dE f b p pat t=dE f b p pat t':=by
 unfold dE tryS dI;split
 ·split
  ·rfl
  exact FH h1 h2
 rfl
theorem zY:patS f i t 26=if i.op=15 then Sj ⟨nth i.args 0::i.args.drop 1,[],[⟨4,t,0,0,0,0,i.imm,[]⟩,gk i 15 24 ⟨25,0,0,nth i.args 0,t,0,⟨0⟩,[]⟩],dH⟩ else none:=by
 unfold patS;by_cases h:i.op=15
 ·rw[if_pos ⟨by decide,by decide,h⟩,if_pos h];rfl
 rw[if_neg (λc=>h c.2.2),if_neg h]
theorem zF:patS f i t 30=if i.op=16 then Sj ⟨nth i.args 0::i.args.drop 1,[],[⟨4,t,0,0,0,0,i.imm,[]⟩,gk i 16 26 ⟨27,0,0,nth i.args 0,t,0,⟨0⟩,[]⟩],dH⟩ else none:=by
 unfold patS;by_cases h:i.op=16
 ·rw[if_pos ⟨by decide,by decide,h⟩,if_pos h];rfl
 rw[if_neg (λc=>h c.2.2),if_neg h]
theorem yQ {x:cM} (hp:pat=26\/pat=30):ic f x pat=none:=by unfold ic;rw[if_neg S0,if_neg S0,if_neg S0,if_neg S0,if_neg S0,if_neg S0]
theorem Fh (hp:pat=26\/pat=30):(dE f b p pat t=Sk/\dE f b p pat t'=Sk)\/(p<(nth f.blocks b.toNat).ins.length/\0<=p/\0<=b/\b<f.blocks.length/\∃x y c2 c2',dE f b p pat t=Sj x/\dE f b p pat t'=Sj y/\x.fin=y.fin/\
  x.code=[⟨4,t,0,0,0,0,(nth (nth f.blocks b.toNat).ins p.toNat).imm,[]⟩,c2]/\y.code=[⟨4,t',0,0,0,0,(nth (nth f.blocks b.toNat).ins p.toNat).imm,[]⟩,c2']/\c2.b=t/\c2'.b=t'):=by
 unfold dE;by_cases c:(cR f b p&&kq f)=Sq
 ·rw[if_pos c,if_pos c];have c1:cR f b p=true:=by simp at c;exact c.1
  simp[cR]at c1;unfold tryS dI;by_cases e:p=(nth f.blocks b.toNat).ins.length
  ·rw[if_pos e,if_pos e];exact .inl ⟨yQ hp,yQ hp⟩
  rw[if_neg e,if_neg e];simp only[PI,if_false];rcases hp with rfl | rfl
  ·rw[zY,zY];by_cases o:(nth (nth f.blocks b.toNat).ins p.toNat).op=15
   ·rw[if_pos o,if_pos o];exact .inr ⟨by omega,by omega,by omega,by omega,_,_,_,_,rfl,rfl,rfl,rfl,rfl,rfl,rfl⟩
   rw[if_neg o,if_neg o];exact .inl ⟨rfl,rfl⟩
  rw[zF,zF];by_cases o:(nth (nth f.blocks b.toNat).ins p.toNat).op=16
  ·rw[if_pos o,if_pos o];exact .inr ⟨by omega,by omega,by omega,by omega,_,_,_,_,rfl,rfl,rfl,rfl,rfl,rfl,rfl⟩
  rw[if_neg o,if_neg o];exact .inl ⟨rfl,rfl⟩
 rw[if_neg c,if_neg c];exact .inl ⟨rfl,rfl⟩
end
theorem DZ{H:View}{op dst two:Int}{va:Value}{l:List Int}{imm:I32}(h1:I64 op)(h2:I64 dst)(h3:I64 two)(h4:SlRd H va l)(h5:-2147483648<=imm.v/\imm.v<=2147483647):Rd H (.agg #[Sf Sg op,Sf Sg dst,Sf Sg two,va,Sf Si imm.v]) (InsD.mk op dst two l imm):=
 ⟨_,rfl,[Sf Sg op],_,rfl,⟨rfl,h1⟩,[Sf Sg dst],_,rfl,⟨rfl,h2⟩,[Sf Sg two],_,rfl,⟨rfl,h3⟩,[va],_,rfl,⟨va,rfl,h4⟩,rfl,h5⟩
theorem JF{H:View}{vp vi va vt:Value}{p:List PhiD}{i:List InsD}{a t:List Int}{kd:Int}{imm:I32}(h1:SlRd H vp p)(h2:SlRd H vi i)(h3:SlRd H va a)(h4:SlRd H vt t)(h5:I64 kd)(h6:-2147483648<=imm.v/\imm.v<=2147483647):Rd H (.agg #[vp,vi,Sf Sg kd,va,vt,Sf Si imm.v]) (BlkD.mk p i ⟨kd,a,t,imm⟩):=
 ⟨_,rfl,[vp],_,rfl,⟨vp,rfl,h1⟩,[vi],_,rfl,⟨vi,rfl,h2⟩,[Sf Sg kd],_,rfl,⟨rfl,h5⟩,[va],_,rfl,⟨va,rfl,h3⟩,[vt],_,rfl,⟨vt,rfl,h4⟩,rfl,h6⟩
theorem Ce{H:View}{p:Int}{vb:Value}{l:List BlkD}(h1:I64 p)(h2:SlRd H vb l):Rd H (.agg #[Sf Sg p,vb]) (an.mk p l):=
 ⟨_,rfl,[Sf Sg p],_,rfl,⟨rfl,h1⟩,vb,rfl,h2⟩
theorem SlRd.ex{α:Type}[Rep α]{H:View}{v:Value}{l:List α}(s:SlRd H v l): ∃a n c,v = .slice a n c:=let ⟨a,c,e,_⟩:=s;⟨a,_,c,e⟩
def twoF:an:=⟨2,[⟨[],[⟨1,2,0,[],⟨5⟩⟩,⟨2,3,0,[1,2],⟨0⟩⟩],⟨4,[3],[],⟨0⟩⟩⟩]⟩
theorem KS{h:Heap}{W:View}(hW:W.le (vw h)):aw Ss 33 #[] h (λu h'=>(vw h).le (vw h')/\Rd (grow W h h') u twoF):=by refine aj (args:=[]) follows Tryz.func33 E.pY S8 λK hK=>?_;dsimp only[L.pY,lkF,lkG];have c0:=Cx.start hW;refine ab λz hz=>?_;simp;refine c0.cC (k:=(0,0)) (n:=1) (z:=.agg #[Sf Sg 0,Sn Sk 0 0]) rfl R9 rfl S1 S6 λR h1 hle1 c1=>?_;subst hz;refine ab λz hz=>?_;simp;refine az (t:=T.eA) (z:=zz5) (places:=zpa) (vs:=[(0,Sf Sg 1),(1,Sf Sg 2),(4,Sf Si 5)]) (cs:=#[Sf Sg 1,Sf Sg 2,Sf Sg 0,Sn Sk 0 0,Sf Si 5]) R9 R9 Sa R9 ?_;refine c1.ln (α:=Int) (vs:=[Sf Sg 1,Sf Sg 2]) (ds:=[1,2]) El.aV R9 ⟨bO.2 ⟨rfl,by decide⟩,bO.2 ⟨rfl,by decide⟩,trivial⟩ rfl S1 S1 λu2 h2 W2 hW2 c2 s2 hle2=>?_;obtain⟨b2,n2,k2,rfl⟩:=SlRd.ex s2;refine az (t:=T.eA) (z:=.agg #[Sf Sg 0,Sf Sg 0,Sf Sg 0,Sn Sk 0 0,Sf Si 0]) (places:=zpa) (vs:=[(0,Sf Sg 2),(1,Sf Sg 3),(3,(.slice b2 n2 k2))]) (cs:=#[Sf Sg 2,Sf Sg 3,Sf Sg 0,(.slice b2 n2 k2),Sf Si 0]) R9 R9 Sa (by simp[Instr.fill,Value.cells]) ?_;refine c2.ln (α:=InsD) (vs:=[.agg #[Sf Sg 1,Sf Sg 2,Sf Sg 0,Sn Sk 0 0,Sf Si 5],.agg #[Sf Sg 2,Sf Sg 3,Sf Sg 0,(.slice b2 n2 k2),Sf Si 0]]) (ds:=[⟨1,2,0,[],⟨5⟩⟩,⟨2,3,0,[1,2],⟨0⟩⟩]) El.nH Sa ⟨DZ ⟨S1,S1⟩ ⟨S1,S1⟩ ⟨S1,S1⟩ aQ S1,DZ ⟨S1,S1⟩ ⟨S1,S1⟩ ⟨S1,S1⟩ s2 S1,trivial⟩ rfl S1 S1 λu3 h3 W3 hW3 c3 s3 hle3=>?_;obtain⟨b3,n3,k3,rfl⟩:=SlRd.ex s3;refine c3.ln (α:=Int) (vs:=[Sf Sg 3]) (ds:=[3]) El.aV R9 ⟨bO.2 ⟨rfl,by decide⟩,trivial⟩ rfl S1 S1 λu4 h4 W4 hW4 c4 s4 hle4=>?_;obtain⟨b4,n4,k4,rfl⟩:=SlRd.ex s4;refine az (t:=T.iY) (z:=.agg #[Sf Sg 0,Sn Sk 0 0,Sn Sk 0 0,Sf Si 0]) (places:=zpe) (vs:=[(0,Sf Sg 4),(1,(.slice b4 n4 k4))]) (cs:=#[Sf Sg 4,(.slice b4 n4 k4),Sn Sk 0 0,Sf Si 0]) R9 R9 Sa (by simp[Instr.fill,Value.cells]) ?_;refine az (t:=T.eZ) (z:=.agg #[Sn Sk 0 0,Sn Sk 0 0,Sf Sg 0,Sn Sk 0 0,Sn Sk 0 0,Sf Si 0]) (places:=[(0,1),(1,1),(2,4)]) (vs:=[(1,(.slice b3 n3 k3)),(2,.agg #[Sf Sg 4,(.slice b4 n4 k4),Sn Sk 0 0,Sf Si 0])]) (cs:=#[Sn Sk 0 0,(.slice b3 n3 k3),Sf Sg 4,(.slice b4 n4 k4),Sn Sk 0 0,Sf Si 0]) R9 R9 Sa (by simp[Instr.fill,Value.cells]) ?_;refine c4.ln (α:=BlkD) (vs:=[.agg #[Sn Sk 0 0,(.slice b3 n3 k3),Sf Sg 4,(.slice b4 n4 k4),Sn Sk 0 0,Sf Si 0]]) (ds:=twoF.blocks) El.nh Sa ⟨JF aQ (s3.mono hW4) s4 aQ ⟨S1,S1⟩ S1,trivial⟩ rfl S1 S1 λu5 h5 W5 hW5 c5 s5 hle5=>?_;obtain⟨b5,n5,k5,rfl⟩:=SlRd.ex s5;refine az (t:=T.ee) (z:=.agg #[Sf Sg 0,Sn Sk 0 0]) (places:=zpd) (vs:=[(0,Sf Sg 2),(1,(.slice b5 n5 k5))]) (cs:=#[Sf Sg 2,(.slice b5 n5 k5)]) R9 R9 Sa (by simp[Instr.fill,Value.cells]) ?_;refine c5.bD (α:=an) (k:=(0,0)) (n:=1) S2 (Ce (p:=2) ⟨S1,S1⟩ s5) rfl rfl R9 Sa Sa λh6 l6 hl6 c6=>?_;subst hz;have hall:=c6.all (k:=(0,0)) (n:=1) (l:=l6) (B:=R) (e:=T.ee) S2;simp at hall;simp[hall];refine hK _ _ ⟨c6.le0,?_⟩;rw[<-hl6];exact(Ce (p:=2) ⟨S1,S1⟩ s5).mono c6.fin
end Go.Proofs.YtnfiilgdjpdlkaaGreatDoor
