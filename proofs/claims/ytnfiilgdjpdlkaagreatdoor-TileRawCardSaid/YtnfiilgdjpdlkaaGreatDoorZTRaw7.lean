/- A part of the proof: ShelfF, Oo, Ub, Uc, Ox, Oy, Oz, Qa, Qb, Qc, LftDg, Qd, Qe, Qf, Op, Oq, Or, Qk, Ri, Rj, Tf. -/
import Derived.Test.YtnfiilgdjpdlkaaGreatDoorZTRaw6
import Derived.Shelf.Strings.Fields
import Derived.Test.YtnfiilgdjpdlkaaGreatDoorRows
import Derived.Lib.LaidTab
import Derived.LaidMore
set_option linter.unusedSimpArgs false
set_option linter.unusedVariables false
open Go.Value renaming int->RG,slice->RL,pointer->RM
open Go.IntKind renaming i64->RH,i32->RI
open Option renaming some->RJ,none->RK
open Bool renaming true->RN,false->RO
open Go.Proofs.Tryz renaming prog->RP
namespace Go.Proofs
open Go.Shelf
def Tryz.lH:Go.Shelf.Ren:=⟨fun | 157=>41 | 229=>65 | 199=>66 | 261=>114 | 311=>136 | 312=>137 | n=>n,fun | 9=>9 | 31=>105 | 3=>3 | 5=>5 | 4=>4 | 119=>140 | 0=>0 | 40=>142 | 152=>176 | 21=>21 | 154=>178 | 51=>151 | 141=>180 | 196=>204 | 193=>201 | 198=>207 | 49=>205 | 194=>202 | 201=>210 | 226=>220 | 46=>76 | 227=>221 | n=>n,fun | 0=>0 | 6=>1 | n=>n⟩
theorem Tryz.Jt:Go.Proofs.Lays.n157 RP Tryz.lH:={
 mixed:=by kernel_rfl
 f157:=Tryz.func41.trans (congrArg RJ R1)
 f199:=Tryz.func66.trans (congrArg RJ R1)
 f229:=Tryz.func65.trans (congrArg RJ R1)
 f261:=Tryz.func114.trans (congrArg RJ R1)
 f311:=Tryz.func136.trans (congrArg RJ R1)
 f312:=Tryz.func137.trans (congrArg RJ R1)
 t0:=Tryz.underlying0
 a0:=Tryz.isAgg0
 z0:=Tryz.sizeOf0
 v0:=Tryz.zeroValue0
 t3:=Tryz.underlying3
 a3:=Tryz.isAgg3
 z3:=Tryz.sizeOf3
 v3:=Tryz.zeroValue3
 t4:=Tryz.underlying4
 a4:=Tryz.isAgg4
 z4:=Tryz.sizeOf4
 v4:=Tryz.zeroValue4
 t5:=Tryz.underlying5
 a5:=Tryz.isAgg5
 z5:=Tryz.sizeOf5
 v5:=Tryz.zeroValue5
 t9:=Tryz.underlying9
 a9:=Tryz.isAgg9
 z9:=Tryz.sizeOf9
 v9:=Tryz.zeroValue9
 t21:=Tryz.underlying21
 a21:=Tryz.isAgg21
 z21:=Tryz.sizeOf21
 v21:=Tryz.zeroValue21
 t31:=Tryz.underlying105
 a31:=Tryz.isAgg105
 z31:=Tryz.sizeOf105
 v31:=Tryz.zeroValue105
 t40:=Tryz.underlying142
 a40:=Tryz.isAgg142
 z40:=Tryz.sizeOf142
 v40:=Tryz.zeroValue142
 t46:=Tryz.underlying76
 a46:=Tryz.isAgg76
 z46:=Tryz.sizeOf76
 v46:=Tryz.zeroValue76
 t49:=Tryz.underlying205
 a49:=Tryz.isAgg205
 z49:=Tryz.sizeOf205
 v49:=Tryz.zeroValue205
 t51:=Tryz.underlying151
 a51:=Tryz.isAgg151
 z51:=Tryz.sizeOf151
 v51:=Tryz.zeroValue151
 t119:=Tryz.underlying140
 a119:=Tryz.isAgg140
 z119:=Tryz.sizeOf140
 t141:=Tryz.underlying180
 a141:=Tryz.isAgg180
 z141:=Tryz.sizeOf180
 v141:=Tryz.zeroValue180
 t152:=Tryz.underlying176
 a152:=Tryz.isAgg176
 z152:=Tryz.sizeOf176
 v152:=Tryz.zeroValue176
 t154:=Tryz.underlying178
 a154:=Tryz.isAgg178
 z154:=Tryz.sizeOf178
 v154:=Tryz.zeroValue178
 t193:=Tryz.underlying201
 a193:=Tryz.isAgg201
 z193:=Tryz.sizeOf201
 v193:=Tryz.zeroValue201
 t194:=Tryz.underlying202
 a194:=Tryz.isAgg202
 z194:=Tryz.sizeOf202
 v194:=Tryz.zeroValue202
 t196:=Tryz.underlying204
 a196:=Tryz.isAgg204
 z196:=Tryz.sizeOf204
 v196:=Tryz.zeroValue204
 t198:=Tryz.underlying207
 a198:=Tryz.isAgg207
 z198:=Tryz.sizeOf207
 v198:=Tryz.zeroValue207
 t201:=Tryz.underlying210
 a201:=Tryz.isAgg210
 z201:=Tryz.sizeOf210
 v201:=Tryz.zeroValue210
 t226:=Tryz.underlying220
 a226:=Tryz.isAgg220
 z226:=Tryz.sizeOf220
 v226:=Tryz.zeroValue220
 t227:=Tryz.underlying221
 a227:=Tryz.isAgg221
 z227:=Tryz.sizeOf221
 v227:=Tryz.zeroValue221
 g0:=by kernel_rfl
 g6:=by kernel_rfl }
end Go.Proofs
namespace Go.Lft
open Go
structure StrD where
 v:ByteArray
instance:Rep StrD where
 n:=1
 agg:=false
 rd:=λ_ cs d=>cs=[.string d.v]
 mono:=λ_ h=>h
 len:=λh=>by rw[h];rfl
 one:=λ_=>rfl
 flat:=λh u hu=>by rw[h]at hu;simp at hu;subst hu;rfl
 pos:=QQ
 fJ:=λh=>h
theorem At.str {H:View} {a:Addr} {d:StrD} (h:At H a d):an H a=RJ (.string d.v):=by
 obtain⟨u,h1,h2⟩:=h.load rfl;have:u = .string d.v:=by unfold Rd at h2;simpa[Rep.agg,Rep.rd]using h2
 rw[this]at h1;exact h1
end Go.Lft
namespace Go.Proofs.YtnfiilgdjpdlkaaGreatDoor
open Go Go.Lft
def Tab (h:Heap):Prop:=∀c:Nat,c<256->an (vw h) ⟨Tryz.lH.g 0,c,RK⟩=RJ (.int .u8 (if Lib.isSp (UInt8.ofNat c) then 1 else 0))
theorem Tab.mono {h h':Heap} (t:Tab h) (hle:(vw h).le (vw h')):Tab h':=λc hc=>ae hle (t c hc)
theorem Mp {w:World} {b o:Nat} {v:Value} (h:an (vw w.heap) ⟨b,o,RK⟩=RJ v):w.cell? ⟨b,o,RK⟩=RJ v:=by
 unfold an at h;unfold World.cell?;simp only[vw]at h;cases hb:w.heap[b]? with
 | none=>rw[hb]at h;simp at h
 | some x=>rw[hb]at h;cases x<;>simp_all
def fieldsD (s:ByteArray):List StrD:=(Lib.fields s.data.toList).map λl=>⟨⟨l.toArray⟩⟩
theorem yZ {s:ByteArray} {h:Heap} (ht:Tab h) (hs:s.size<4294967281) (ha : ∀(j:Nat) b,s.data.toList[j]? = RJ b->b.toNat<128) (hn:(fieldsD s).length<=1000000) :
  az RP 41 #[.string s] h (λu h'=>(vw h).le (vw h')/\SlRd (vw h') u (fieldsD s)):=by
 intro w hw;subst hw;refine Calls.mono (Any.strings_Fields_core (P:=RP) (ρ:=Tryz.lH) Tryz.Jt R1 s w hs ha λc hc=>Mp (ht c hc)) ?_;rintro e w' ⟨rfl,rfl⟩;refine⟨_,rfl,⟨bM _ _,?_⟩,iX _ _⟩;have hl:(fieldsD s).length=(Lib.fields s.data.toList).length:=by simp[fieldsD]
 refine⟨RJ ⟨w.heap.size,0,RK⟩,(Lib.fields s.data.toList).length,by rw[hl],by omega,by omega,.inr ⟨_,rfl,rfl,λi hi=>?_⟩⟩;have hi':i<(Lib.fields s.data.toList).length:=by omega
 rw[bR rfl];refine⟨[.string ⟨(Lib.fields s.data.toList)[i].toArray⟩],⟨_,_,_,rfl,World.alloc_heap_new w _,?_⟩,?_⟩
 ·have hn1:Rep.n StrD=1:=rfl;rw[hn1,OR,O7];show List.take 1 (List.drop i ((Lib.fields s.data.toList).map λl=>Value.string ⟨l.toArray⟩))=_;rw[OG (by simpa using hi')];simp
 show[Value.string _]=[Value.string _];simp[fieldsD]
def oe:ByteArray:=⟨#[108,105,32,108,105,119,32,97,100,100,32,115,117,98,32,109,117,108,32,97,110,100,32,111,114,32,120,111,114,32,115,104,108,32,115,104,114,32,115,97,114,32,101,113,32,108,116,32,108,116,117,32,100,105,118,32,97,100,100,105,32,115,117,98,105,32,97,110,100,105,32,115,104,108,105,32,115,104,114,105,32,115,97,114,105,32,109,97,100,100,32,108,100,32,108,100,97,32,108,100,120,32,108,100,108,32,115,116,32,115,116,97,32,115,116,120,32,115,116,108,32,99,97,108,108,32,109,117,108,119,32,98,110,122,32,98,101,113,32,98,108,116,32,98,108,116,117,32,106,116]⟩
def mg (pat:Int):ByteArray:=if 1<=pat/\pat<=37 then((fieldsD oe).getD (pat-1).toNat ⟨⟨#[]⟩⟩).v else⟨#[]⟩
theorem kT:(fieldsD oe).length=37:=by kernel_rfl
theorem v7 : ∀(j:Nat) b,oe.data.toList[j]? = RJ b->b.toNat<128:=by
 have h:oe.data.toList.all (λb=>decide (b.toNat<128))=true:=by kernel_rfl
 exact λj b hb=>by simpa using OJ.1 h b (OQ hb)
theorem Dp:(fieldsD oe).all (λs=>!(s.v.toList == (⟨#[]⟩:ByteArray).toList))=true:=by kernel_rfl
instance:Inhabited StrD:=⟨⟨⟨#[]⟩⟩⟩
theorem GW {pat:Int}:((mg pat).toList == (⟨#[]⟩:ByteArray).toList)=!inR pat 1 37:=by
 unfold mg;by_cases h:1<=pat/\pat<=37
 ·rw[if_pos h];have hlt:(pat-1).toNat<(fieldsD oe).length:=by rw[kT];omega
  have:=OJ.1 Dp _ (O5 hlt);rw[Py,OI hlt,QO];have e:inR pat 1 37=true:=by simp[inR,h.1,h.2]
  rw[e];simpa using this
 rw[if_neg h];have e:inR pat 1 37=false:=by unfold inR;simpa using h
 rw[e];exact beq_self_eq_true _
theorem xt {pat:Int}:(mg pat).toList.isEmpty=!inR pat 1 37:=by have h:=GW (pat:=pat);rw[show(⟨#[]⟩:ByteArray).toList=[] by kernel_rfl]at h;rw[<-h];cases (mg pat).toList<;>rfl
theorem wV {pat:Int} {h:Heap} (ht:Tab h) (hp:I64 pat):az RP 20 #[RG RH pat] h (λu h'=>(vw h).le (vw h')/\u = .string (mg pat)):=by
 refine ao (args:=[RG RH pat]) follows Tryz.func20 E.rH RB λK hK=>?_;dsimp only[L.rH,lkF,lkG];refine aa λz hz=>?_;simp;subst hz;refine aa λz hz=>?_;simp;refine ah R1 (yZ (s:=oe) ht (of_decide_eq_true R1) v7 (by rw[kT];decide)) ?_;rintro u h1 ⟨hle,hu⟩;have hl:=hu.len (K:=vw h1);rw[kT]at hl;subst hz;refine aa λz hz=>?_;by_cases c1:pat<1
 ·simp[c1];exact hK _ _ ⟨hle,by unfold mg;rw[if_neg R3]⟩
 by_cases c2:37<pat
 ·simp[c1,hl,c2];exact hK _ _ ⟨hle,by unfold mg;rw[if_neg R3]⟩
 have hlt:(pat-1).toNat<(fieldsD oe).length:=by rw[kT];omega
 have hx:=hu.idx1 (k:=.i64) (i:=pat-1) rfl R3 (by rw[kT];omega);have hc:=(hu.at hlt).str;rw[show(pat-1).toNat*Rep.n StrD=(pat-1).toNat from OR _]at hc;have et:(pat-1).toNat=pat.toNat-1:=by omega
 have hc:an (vw h1) ((slA u).add (pat.toNat-1))=RJ (.string ((fieldsD oe)[(pat-1).toNat]).v):=by rw[<-et];exact hc
 have ew:IntKind.i64.wrap (pat-1)=pat-1:=bh (by have:=hp.1;omega) (by have:=hp.2;omega);simp[c1,hl,c2];subst hz;simp[ew,hx,hc];refine hK _ _ ⟨hle,?_⟩;unfold mg;rw[if_pos R3,Py,OI hlt,QO];simp only[et]
theorem yA {h:Heap} (ht:Tab h):az RP 24 #[] h (λu h'=>(vw h).le (vw h')/\u = RG RH 37):=by refine ao (args:=[]) follows Tryz.func24 E.lD RB λK hK=>?_;dsimp only[L.lD,lkF,lkG];refine aa λz hz=>?_;simp;subst hz;refine aa λz hz=>?_;simp;refine ah R1 (yZ (s:=oe) ht (of_decide_eq_true R1) v7 (by rw[kT];decide)) ?_;rintro u h1 ⟨hle,hu⟩;have hl:=hu.len (K:=vw h1);rw[kT]at hl;simp[hl];subst hz;simp;exact hK _ _ ⟨hle,rfl⟩
def eS (t:fk):Int:=if inR t.pat 1 37=RO then 20 else if inR t.cost 0 1000=RO then 22 else 0
def mB:Nat->List fk->Int × Int
 | _,[]=>(0,0)
 | n,t::l=>if eS t=0 then mB (n+1) l else(eS t,n)
def ku (l:List fk):Int × Int:=if 1024<l.length then(2,0) else mB 0 l
theorem wD : ∀{l:List fk} {n:Nat},(∀t∈l,eS t=0)->mB n l=(0,0)
 | [],_,_=>rfl
 | t::l,n,h=>by unfold mB;rw[if_pos (h t (NX ..))];exact wD λt ht=>h t (NZ _ ht)
theorem xA : ∀{l:List fk} {n k:Nat},(hk:k<l.length)->(∀t∈l.take k,eS t=0)->eS (nth l k)≠0->mB n l=(eS (nth l k),((n+k:Nat):Int))
 | t::l,n,0,_,_,h=>by unfold mB;have h:eS t≠0:=h;rw[if_neg h];rfl
 | t::l,n,k+1,hk,h1,h2=>by unfold mB;rw[if_pos (h1 t Sa)];have h2':eS (nth l k)≠0:=h2;have:=xA (n:=n+1) (k:=k) (by simpa using hk) (λt ht=>h1 t (by simp[ht])) h2';rw[this];have e:nth (t::l) (k+1)=nth l k:=rfl;rw[e,show n+1+k=n+(k+1) by omega]
theorem zq {l:List fk} {v:Value} {h:Heap} {W:View} (hW:W.le (vw h)) (hv:SlRd W v l) (ht:Tab h):az RP 23 #[v] h (λu h'=>(vw h).le (vw h')/\u = .tuple #[RG RH (ku l).1,RG RH (ku l).2]):=by
 refine ao (args:=[v]) follows Tryz.func23 E.fj RB λK hK=>?_;dsimp only[L.fj,lkF,lkG];have c0:=Cx.start hW;have hl:=hv.len (K:=vw h);have bd:=hv.bound;refine aa λz hz=>?_;simp;subst hz;refine aa λz hz=>?_;by_cases c:(1024:Int)<l.length
 ·simp[hl,c];exact hK _ _ ⟨View.le_refl _,by unfold ku;rw[if_pos R3]⟩
 simp[hl,c];subst hz;refine aa λz hz=>?_;simp[hl];refine aV [0,9,10,11] (fun(_:Unit) k=>[v,v,RG RH l.length,RG RH k])
  (λ_ k h1=>(∀t∈l.take k,eS t=0)/\∃W1,W.le W1/\Cx W h W1 h1 λ_=>RK) l.length ()
  rfl R3 rfl ⟨by simp,W,View.le_refl _,c0⟩ (λ_ _=>rfl) (λv i h1 hk m=>by simp) ?_ ?_
 ·rintro _ k h1 hk ⟨hb,W1,hW1,c1⟩ K2 hK2;obtain⟨ut,hut,rut⟩:=(hv.mono hW1).wh rfl (N:=2) rfl hk;refine aa λy hy=>?_;simp(disch:=omega)[((hv.mono hW1).mono c1.wle).idxn (N:=2) rfl,hut _ c1.wle];refine c1.dA (α:=fk) rut (n:=2) (z:=.agg #[RG RH 0,RG RH 0]) R1 rfl rfl R1 R5 R5 λB h2 W2 hW2 c2 at2 hle2=>?_;have q0:=(at2.part fk.KF);have q1:=(at2.part fk.KP);have r0:=q0.rng;have q0:an W2 ⟨B,0,RK⟩=RJ (RG RH (nth l k).pat):=by simpa using q0.int
  have q1:an W2 ⟨B,1,RK⟩=RJ (RG RH (nth l k).cost):=by simpa using q1.int
  have ht2:=ht.mono c2.le0;have hbk:eS (nth l k)≠0->ku l=(eS (nth l k),(k:Int)):=λhne=>by unfold ku;rw[if_neg R3,xA hk hb hne,O7]
  have htk:eS (nth l k)=0->∀t∈l.take (k+1),eS t=0:=λhe t hm=>by
   rw[NT hk,NU,NW,<-aA hk]at hm;rcases hm with hm | rfl
   ·exact hb t hm
   exact he
  generalize nth l k=tl at *;subst hy;simp only[aU];refine aa λy hy=>?_;simp[ae c2.wle q0];refine ah R1 (wV ht2 R6) ?_;rintro _ h3 ⟨hle3,rfl⟩;have c3:=c2.ext hle3;have hW3:=c2.up (h':=h3);subst hy;cases e1:inR tl.pat 1 37 with
  | false=>
   have e2:eS tl=20:=by unfold eS;rw[if_pos e1]
   have e3:=hbk (by rw[e2];decide);simp[AG,xt,e1];exact hK _ _ ⟨c3.le0,by rw[e3,e2]⟩
  | true=>
   simp[AG,xt,e1];simp[ae (RE hW3 c3.wle) q1];refine ah R1 jQ ?_;rintro _ h3 ⟨rfl,rfl⟩;cases e4:inR tl.cost 0 1000 with
   | false=>
    have e2:eS tl=22:=by unfold eS;rw[if_neg (by simp[e1]),if_pos e4]
    have e3:=hbk (by rw[e2];decide);simp;exact hK _ _ ⟨c3.le0,by rw[e3,e2]⟩
   | true=>
    have e2:eS tl=0:=by unfold eS;rw[if_neg (by simp[e1]),if_neg (by simp[e4])]
    simp;exact hK2 () _ _ rfl rfl ⟨htk e2,_,RE hW1 (RE hW2 hW3),c3⟩
 rintro _ h1 ⟨hb,W1,hW1,c1⟩;rw[OK]at hb;simp;subst hz;simp;refine hK _ _ ⟨c1.le0,?_⟩;unfold ku;rw[if_neg R3,wD hb]
end Go.Proofs.YtnfiilgdjpdlkaaGreatDoor
namespace Go.Proofs.YtnfiilgdjpdlkaaGreatDoor
open Go Go.Lft Go.ChangeShapes Go.WideShapes Go.ChangeAt Go.RowKit
abbrev BK : List (String × DataW Unit) := [("unicode.White_Space", Rows.laid_unicode_White_Space), ("strings.asciiSpace", Rows.laid_strings_asciiSpace)]
theorem gSp: Tryz.prog.globalNamed "strings.asciiSpace" = RJ (Tryz.lH.g 0) := by kernel_rfl
theorem KV:(Rows.laid_strings_asciiSpace:DataW Unit)=Lib.tabData .u8 Lib.asciiSpaceTab:=by kernel_rfl
abbrev spT:TypeId:=140
abbrev spE:TypeId:=5
theorem Cw{W:World}(h:laidMetH RP BK W):Tab W.heap:=by
 rw[MakeChecks.laidMetH_plain _ _ _ R1]at h;obtain⟨ps,⟨g0,t0,cs0,f0,p0,q0,hg0,ht0,hv0,hd0,⟨g1,t1,cs1,f1,p1,q1,hg1,ht1,hv1,hd1,_,_⟩,_⟩,_,_⟩:=h;obtain rfl:=Option.some.inj (gSp.symm.trans hg1);have hty:(Tryz.prog.globals[Tryz.lH.g 0]?).map (·.type)=RJ spT:=by kernel_rfl
 obtain rfl:=Option.some.inj (hty.symm.trans ht1);rw[KV]at hd1;have htab : Lib.TabIs RP W "strings.asciiSpace" .u8 Lib.asciiSpaceTab := by unfold Lib.TabIs;rw[hv1,<-Lib.cells_of_tab (n:=256) (e:=spE) R1 R1 R1 R1 hd1]
 intro c hc;have:=htab.cell gSp c (by rw[Lib.asciiSpaceTab_length];exact hc);rw[Lib.asciiSpaceTab_at c hc]at this;obtain⟨-,a,T,fz,h1,h2⟩:=zj this;unfold an vw;simp only[h1];simpa using h2
theorem HV(os:Os)(args:Array Value):laidMetH RP BK ((World.doorLaid RP 400 os).forCall (λ_ _=>0) ⟨#[],args,[]⟩).memory:=
 laidMetH_of_parts3 (fuel:=8) (laidMet_of_run' 8 R1 R1) R1 R1
section
open Go Go.Lft
theorem rtPr:RT RP T.iy (Int × Int):=I7 (e:=T.int) R1 R1 R1 R1
end
end Go.Proofs.YtnfiilgdjpdlkaaGreatDoor
namespace Go.Lft
open Go
section
variable {po po2:OP} {V W:View} {h0 h h':Heap} {o:Own} {k:Key} {P:Program} {ty:TypeId} {us:List (Nat × Value)}
theorem Cx.Gz {α:Type} [Rep α] {t:TypeId} {x:Operand} {v:Value} {d:α} {K:Value->Heap->Prop} (c:Cx V h0 W h o) (hk:o k=RK) (hx:asg us x=v) (hv:Rd W v d) (hn:Rep.n α<=1000)
  (hK : ∀B h',(vw h).le (vw h')->Cx V h0 W h' (o.upd k (bx t B d))->K (RM (RJ ⟨B,0,RK⟩)) h'):@step po P (.box t x) ty us h K:=by
 refine _root_.Go.Lft.cu hx ?_;have q1:=bM h (.cells v.cells t);have b2:(h.push (.cells v.cells t))[h.size]? = RJ (.cells v.cells t (0,0)):=by simp
 generalize h.push (.cells v.cells t)=h2 at q1 b2;refine hK _ _ q1 ⟨c.own.add hk (fX b2 hv hn) q1 λb hb=>by simp only[Value.ownBlock,NN]at hb;omega,c.old,RE c.le0 q1,λj i b hj hb=>?_⟩;by_cases e:j=k
 ·subst e;rw[Own.aj]at hj;cases hj;cases hb;exact cw c.le0
 rw[Own.aB e]at hj;exact c.new j i b hj hb
theorem Cx.cI {α β:Type} [Rep α] [Rep β] {off:Nat} {g:α->β} {s:α->β->α} (p:Part α β off g s) {e t:TypeId} {x y:Operand} {B:Nat} {D:α} {u:Value} {d:β} {K:Value->Heap->Prop} (c:Cx V h0 W h o) (hk:o k=bx e B D) (hsz:df P t=RJ (Rep.n β)) (hx:asg us x = RM (RJ ⟨B,off,.none⟩)) (hy:asg us y=u) (hr:Rd W u d)
  (hK : ∀h',Cx V h0 W h' (o.upd k (bx e B (s D d)))->K undef h'):@step po P (.store t x y) ty us h K:=
 c.own.rA p hk hsz hx hy hr λh2 w hX=>hK _ ⟨w,c.old,hX _ c.le0 (View.cM RD (c.new k _ B hk rfl)),λj i b hj hb=>by
  by_cases e:j=k
  ·subst e;rw[Own.aj]at hj;cases hj;exact c.new _ _ b hk hb
  rw[Own.aB e]at hj;exact c.new j i b hj hb⟩
theorem Cx.GI {α:Type} [Rep α] {e:TypeId} {B:Nat} {d:α} (c:Cx V h0 W h o) (hk:o k=bx e B d) (ha:Rep.agg α=RN) {N:Nat} (hN:Rep.n α=N) : ∃u,Un.ev (vw h) (.aZ N) (RM (RJ ⟨B,0,RK⟩))=RJ u/\Rd W u d:=by
 subst hN;obtain⟨cs,hcs,hr⟩:=c.own.atW hk;have h1:=Rep.len hr;have:=gj hcs (Rep.n α) 0 #[] R3;refine⟨.agg cs.toArray,?_,?_⟩
 ·simp only[Un.ev,vP,Ov];rw[this];simp[<-h1]
 unfold Rd;rw[if_pos ha];exact⟨_,rfl,by simpa using hr⟩
theorem Cx.Mm {α:Type} [Rep α] {e:TypeId} {B:Nat} {d:α} (c:Cx V h0 W h o) (hk:o k=bx e B d):At (vw h) ⟨B,0,RK⟩ d:=c.own.at hk
end
end Go.Lft
namespace Go.Proofs.YtnfiilgdjpdlkaaGreatDoor
open Go Go.Lft
section
variable {V:View} {h:Heap} {S I O P Q LL TT:Nat} {s:cn} {op plain sum:Int}
abbrev vG:List Value:=[RG RH 0,RG RH 0,RG RH 0,RG RH 0,RG RH 0,RG RH 0,RG RI 0,RL RK 0 0]
theorem wH {W:View} {m:aF} {vm:Value} (mx:Mx V S I O P Q LL TT s op plain sum) (hV:V.le W) (hW:W.le (vw h)) (hm:Rd W vm m) (ho:op=15\/2<=s.i.args.length) :
  az RP 130 #[vm,ptr O,ptr I,ptr P] h (λu h'=>(vw h).le (vw h')/\Rd (grow W h h') u (fY s.i op plain m)):=by
 refine ao (args:=[vm,ptr O,ptr I,ptr P]) follows Tryz.func130 E.gW RB λK hK=>?_;dsimp only[L.gW,lkF,lkG];have c0:=Cx.start hW;refine aa λz hz=>?_;simp;refine c0.Gz (k:=(0,1)) rfl rfl hm R4 λM h1 hle1 c1=>?_;refine c1.bU (k:=(0,0)) (n:=7) (z:=.agg vG.toArray) RA R1 rfl R4 R8 λR h2 hle2 c2=>?_;subst hz;have hk1:(Own.upd (Own.upd (λ_=>RK) (0,1) (bx T.cU M m)) (0,0) (bx T.cU R (RawN.mk (n:=7) (Value.agg vG.toArray).cells.toList))) (0,1)=bx T.cU M m:=rfl;have vh:V.le (vw h2):=RE hV c2.wle;have e1:=ae vh mx.op;have e2:=ae vh mx.plain;have i1:=(mx.ct.ins.part InsD.iB);have r1:=i1.rng;have i1:an (vw h2) ⟨I,1,RK⟩=RJ (RG RH s.i.dst):=ae vh (by simpa using i1.int);obtain⟨va,i3,hva⟩:=(mx.ct.ins.part InsD.eX).sl;have i3:an (vw h2) ⟨I,3,RK⟩=RJ va:=ae vh (by simpa using i3);refine aa λz hz=>?_;have fin : ∀(h3:Heap) (m3:aF),Cx W h W h3 (Own.upd (Own.upd (Own.upd (λ_=>RK) (0,1) (bx T.cU M m)) (0,0) (bx T.cU R (RawN.mk (n:=7) (Value.agg vG.toArray).cells.toList))) (0,1) (bx T.cU M m3))->fY s.i op plain m=m3->∀ρ:Env,Lft.look ρ 4=RJ (ptr M)->Lft.look ρ 5=RJ (ptr R)->LC.wp RP z (cO [.un (.aZ 8) (.tmp 5)] K) ρ h3:=λh3 m3 c3 he ρ h4 h5=>by rw[hz];refine aa λy hy=>?_;obtain⟨u,hu,ru⟩:=c3.GI (k:=(0,1)) (e:=T.cU) (B:=M) (d:=m3) rfl rfl (N:=8) rfl;simp[h4,h5,hu];refine c3.aK (α:=aF) (k:=(0,0)) (n:=7) RA ru rfl rfl R1 Sa Sa λh6 l6 hl6 c6=>?_;rw[hy];have hall:=c6.all (k:=(0,0)) (n:=7) (l:=l6) (B:=R) (e:=T.cU) RA;simp at hall;simp[hall,af,ag,h5];refine hK _ _ ⟨c6.le0,?_⟩;rw[he,<-hl6];exact ru.mono c6.fin
 by_cases h15:op=15
 ·simp[e1,h15,i1];refine c2.cI (k:=(0,1)) (α:=aF) aF.MY (D:=m) (d:=s.i.dst) hk1 R1 Sa Sa (bg.2 ⟨rfl,r1⟩) λh3 c3=>?_;exact fin _ _ c3 (by unfold fY;rw[if_pos h15]) _ Sa Sa
 have ha:2<=s.i.args.length:=by omega
 have q1:=hva.idx1 (k:=.i64) (i:=1) rfl R4 R3;have d1:=ae vh (hva.int (View.le_refl V) (i:=1) R3);have ar:=hva.rng (i:=1) R3;have m0:=ae RD (((c2.Mm hk1).part aF.tN)).int;simp at m0 q1 d1;by_cases hp:m.op=plain
 ·simp[e1,h15,e2,m0,hp,i3,q1,d1];refine c2.cI (k:=(0,1)) (α:=aF) aF.LZ (D:=m) (d:=nth s.i.args 1) hk1 R1 Sa Sa (bg.2 ⟨rfl,ar⟩) λh3 c3=>?_;exact fin _ _ c3 (by unfold fY;rw[if_neg h15,if_pos hp]) _ Sa Sa
 simp[e1,h15,e2,m0,hp,i3,q1,d1];refine c2.cI (k:=(0,1)) (α:=aF) aF.MX (D:=m) (d:=nth s.i.args 1) hk1 R1 Sa Sa (bg.2 ⟨rfl,ar⟩) λh3 c3=>?_;exact fin _ _ c3 (by unfold fY;rw[if_neg h15,if_neg hp]) _ Sa Sa
end
end Go.Proofs.YtnfiilgdjpdlkaaGreatDoor
namespace Go.Lft
open Go
theorem ES {W:View} {h:Heap} {e:TypeId} {B n:Nat} {l:List Int} (hb:h[B]? = RJ (.cells (l.map λc=>RG RH c).toArray e (0,0))) (hr : ∀x∈l,-9223372036854775808<=x/\x<=9223372036854775807) (hn:l.length=n) (h2:n<=1000000) :
  OwnT W h e (RL (RJ ⟨B,0,.none⟩) n n) l:=by
 subst hn;refine⟨by omega,l.map λc=>RG RH c,⟨by simp[Rep.n],.inr ⟨B,l.length,_,rfl,hb,NO _,by simp[maxLen];omega,by simp[Rep.n],?_⟩⟩,λi hi=>?_⟩
 ·rw[NY (by simp[Rep.n])]
 show(List.take 1 (List.drop (i*1) (l.map λc=>RG RH c))=[RG RH l[i]])/\_;rw[OR];refine⟨?_,hr _ (O5 hi)⟩;rw[OG (by simpa using hi)];simp
theorem zM : ∀{l:List Int},(l.map λc=>RG RH c).flatMap (λv=>v.cells.toList)=l.map λc=>RG RH c
 | []=>rfl
 | x::l=>by rw[Pv,P6,zM];rfl
section
variable {po po2:OP} {V W:View} {h0 h h':Heap} {o:Own} {k:Key} {P:Program} {ty:TypeId} {us:List (Nat × Value)}
theorem Cx.jK {t e n:Nat} {bytes:Nat} {z:Value} {ps:Array (Nat × Operand)} {l:List Int} {K:Value->Heap->Prop} (c:Cx V h0 W h o) (hk:o k=RK) (hT:fm P t e 1 bytes z)
  (hp:ps.map (λp=>(p.1,asg us p.2))=(((l.map λc=>RG RH c).zipIdx 0).map λp=>(p.2,p.1)).toArray) (hr : ∀x∈l,-9223372036854775808<=x/\x<=9223372036854775807) (hn:l.length=n) (h2:n<=1000)
  (hK : ∀u h',(vw h).le (vw h')->Cx V h0 W h' (o.upd k (it e u l))->K u h'):@step po P (.buildSlice t n ps) ty us h K:=by
 obtain⟨B,h1,hB⟩:=nW (s:=1) (l.map λc=>RG RH c) 0 ((Array.range (n*1)).map (z.cells[· % z.cells.size]!)) (λv hv=>by obtain⟨c,_,rfl⟩:=Pk.1 hv;rfl) R9;have hB:B=(l.map λc=>RG RH c).toArray:=by rw[<-Array.toList_inj,hB];simp only[P9,PT,OW,zM]
 subst hB;refine tt (size:=1) hT R3 hp h1 ?_;have q1:=bM h (.cells (l.map λc=>RG RH c).toArray e);have b2:(h.push (.cells (l.map λc=>RG RH c).toArray e))[h.size]? = RJ (.cells (l.map λc=>RG RH c).toArray e (0,0)):=by simp
 generalize h.push (.cells (l.map λc=>RG RH c).toArray e)=h3 at q1 b2;refine hK _ _ q1 ⟨c.own.add hk (ES b2 hr hn R3) q1 λb hb=>by simp only[Value.ownBlock,NN]at hb;omega,c.old,RE c.le0 q1,λj i b hj hb=>?_⟩;by_cases e:j=k
 ·subst e;rw[Own.aj]at hj;cases hj;cases hb;exact cw c.le0
 rw[Own.aB e]at hj;exact c.new j i b hj hb
theorem Cx.iH {α:Type} [Rep α] {e e2:TypeId} {v v':Value} {l l':List α} (c:Cx V h0 W h o) (hk:o k=it e v l) (o2:OwnT W h' e2 v' l') (m:lE h h' v v'):Cx V h0 W h' (o.upd k (it e2 v' l')):=by
 refine⟨c.own.iH hk o2 m,c.old,?_,λj i b hj hb=>?_⟩
 ·exact m.kept.view c.le0 λb hb=>View.cM RD (c.new k _ b hk hb)
 by_cases e:j=k
 ·subst e;rw[Own.aj]at hj;cases hj;rcases m.at_ with q | q
  ·exact c.new _ _ b hk (q▸hb)
  have hb:v'.ownBlock=RJ b:=hb;rw[q]at hb;cases hb;exact cw c.le0
 rw[Own.aB e]at hj;exact c.new j i b hj hb
theorem Cx.freeze {α:Type} [Rep α] {e:TypeId} {v:Value} {l:List α} (c:Cx V h0 W h o) (hk:o k=it e v l) : ∃W',W.le W'/\Cx V h0 W' h (o.upd k RK)/\SlRd W' v l:=by
 obtain⟨w1,s1⟩:=c.own.freeze hk;refine⟨_,jJ (c.own.av k _ hk),⟨w1,λb x hb hx=>?_,c.le0,λj i b hj hb=>?_⟩,s1⟩
 ·unfold View.plus at hx;split at hx
  ·rename_i e1;have:=c.new k _ b hk e1;omega
  exact c.old b x hb hx
 by_cases e:j=k
 ·subst e;rw[Own.aj]at hj;cases hj
 rw[Own.aB e]at hj;exact c.new j i b hj hb
end
end Go.Lft
namespace Go.Proofs.YtnfiilgdjpdlkaaGreatDoor
open Go Go.Lft
section
variable {V:View} {h:Heap} {S I O P Q LL TT:Nat} {s:cn} {op plain sum:Int}
theorem wN {W:View} {l:List Int} {vl:Value} (mx:Mx V S I O P Q LL TT s op plain sum) (hV:V.le W) (hW:W.le (vw h)) (ho:OwnT W h T.int vl l) (hl:l.length<=10) (h1:1<=s.i.args.length) (h2:s.i.args.length<=1000000) :
  az RP 131 #[vl,ptr I] h (λu h'=>OwnT W h' T.int u (l++s.i.args.drop 1)/\lE h h' vl u):=by refine ao (args:=[vl,ptr I]) follows Tryz.func131 E.gR RB λK hK=>?_;dsimp only[L.gR,lkF,lkG];obtain⟨va,i3,hva⟩:=(mx.ct.ins.part InsD.eX).sl;have i3:an (vw h) ⟨I,3,RK⟩=RJ va:=ae (RE hV hW) (by simpa using i3);obtain⟨u,hu,su⟩:=hva.drop (n:=1) h1 (kd:=.i64);have hu:Bn.ev (.lo 1) va (RG RH 1)=RJ u:=hu;refine aa λz hz=>?_;simp;subst hz;refine aa λz hz=>?_;simp[i3,hu];refine dU (α:=Int) (e:=T.int) (l:=l) (l2:=s.i.args.drop 1) El.aQ Sa Sa ho ((su.mono hV).src hW) R9 R9 λv2 h2 o2 mv=>?_;subst hz;simp;exact hK _ _ ⟨o2,mv⟩
end
end Go.Proofs.YtnfiilgdjpdlkaaGreatDoor
namespace Go.Proofs.YtnfiilgdjpdlkaaGreatDoor
open Go Go.Lft
section
variable {V:View} {h:Heap} {S I O P Q LL TT:Nat} {s:cn} {op plain sum:Int}
set_option maxHeartbeats 4000000 in
theorem IG(mx:Mx V S I O P Q LL TT s op plain sum)(hV:V.le (vw h))(hok:nz s)(hop:s.i.op=op)(ho:op=15\/op=16)(hp0:0<=plain/\plain<=100):
    az RP 132 #[ptr LL,ptr P,ptr I,ptr TT] h (λu h'=>bW V h h' u (memS s.f s.i s.temp op plain sum 0)):=by
  refine ao (args:=[ptr LL,ptr P,ptr I,ptr TT]) follows Tryz.func132 E.dG RB λK hK=>?_
  dsimp only[L.dG,lkF,lkG]
  have c0:=Cx.start hV
  have l1:1<=s.i.args.length:=by
    rcases ho with q | q
    · exact hok.one.one (hop.trans q)
    · have:=hok.one.two (.inr (.inl (hop.trans q)));omega
  have l2:op=15\/2<=s.i.args.length:=ho.imp id λq=>hok.one.two (.inr (.inl (hop.trans q)))
  refine aa λz hz=>?_
  simp
  refine c0.bU (k:=(0,0)) (n:=7) (z:=.agg fitZ.toArray) rfl R1 rfl R4 R8 λR hb hleb cb=>?_
  subst hz
  have i4:=(mx.ct.ins.part InsD.gx)
  have r4:=i4.mP
  have i4:an V ⟨I,4,RK⟩=RJ (RG RI s.i.imm.v):=by simpa using i4.i32
  obtain⟨va,i3,hva⟩:=(mx.ct.ins.part InsD.eX).sl
  have i3:an V ⟨I,3,RK⟩=RJ va:=by simpa using i3
  have a0:=hva.rng (i:=0) R3
  have most:=hok.one.most
  have q0:=hva.idx1 (k:=.i64) (i:=0) rfl R4 R3
  have d0:=hva.int (View.le_refl V) (i:=0) R3
  simp at q0
  have eL:=mx.laid
  have eT:=mx.with_
  have eP:=mx.plain
  have hm : ∀X,Rd X (.agg #[RG RH plain,RG RH 0,RG RH 0,RG RH (nth s.i.args 0),RG RH 0,RG RH 0,RG RI s.i.imm.v,RL RK 0 0]) (⟨plain,0,0,nth s.i.args 0,0,0,s.i.imm,[]⟩:aF):=λX=>dT R9 r4 aE
  have ew:IntKind.i64.wrap s.i.imm.v=s.i.imm.v:=bh R3 R3
  have fin : ∀(W:View) (hx:Heap) (o:Own) (l9:List Value),Cx V h W hx o->Rd W (.agg l9.toArray) (⟨nth s.i.args 0::s.i.args.drop 1,[],[fY s.i op plain ⟨plain,0,0,nth s.i.args 0,0,0,s.i.imm,[]⟩],cy⟩:FitD)->K (.tuple #[.agg l9.toArray,.bool (inR (IntKind.i64.wrap s.i.imm.v) 0 255)]) hx:=λW hx o l9 c hr=>
    hK _ _ (bW.of c hr (by rw[ew];simp only[memS];split<;>simp_all) λy e=>by
      simp only[memS]at e
      split at e<;>cases e
      rfl)
  clear hK
  refine aa λz hz=>?_
  refine aH V cb.wle ?_
  have c:=cb
  have hWV:V.le V:=View.le_refl _
  repeat' (first
    | refine eg ?_ ?_
    | (refine aw λy hy=>?_
       simp[i3,i4,q0,d0,eL,eT,eP]
       first
       | refine ak (t:=T.cU) (z:=.agg vG.toArray) (places:=[(0,1),(1,1),(2,1),(3,1),(4,1),(5,1),(6,1),(7,1)]) (vs:=[(0,RG RH plain),(3,RG RH (nth s.i.args 0)),(6,RG RI s.i.imm.v)]) (cs:=#[RG RH plain,RG RH 0,RG RH 0,RG RH (nth s.i.args 0),RG RH 0,RG RH 0,RG RI s.i.imm.v,RL RK 0 0]) R1 R1 Sa R1 ?_
       | (refine c.jK (k:=(0,2)) (n:=1) (l:=[nth s.i.args 0]) RA El.aQ ?_ ?_ rfl R4 λuA h hle c=>?_
          · simp;done
          · simp;omega)
       | refine c.bU (k:=(0,1)) (n:=7) (z:=.agg fitZ.toArray) RA R1 rfl R4 R8 λR2 h hle c=>?_
       | (refine bV (ops:=[.tmp 17]) (caps:=#[ptr O,ptr I,ptr P]) rfl R1 (wH mx RC c.wle (hm _) l2) ?_
          rintro um h ⟨hle,hum⟩
          have hW:=c.up (h':=h)
          have c:=c.ext hle)
       | (refine bV (ops:=[.tmp 24]) (caps:=#[ptr I]) rfl R1 (wN mx RC c.wle (c.own.get (k:=(0,2)) (v:=uA) (l:=[nth s.i.args 0]) RA) Sa l1 R3) ?_
          rintro uw h ⟨own2,mv⟩
          have c:=c.iH (k:=(0,2)) (v:=uA) (l:=[nth s.i.args 0]) RA own2 mv
          obtain⟨W,hW,c,huA⟩:=c.freeze (k:=(0,2)) (v:=uw) (l:=[nth s.i.args 0]++s.i.args.drop 1) RA)
       | (refine ah R1 (lg c.wle (hum.mono RC) (huA.mono RC) aE) ?_
          rintro _ h ⟨hle,vf,rfl,hvf⟩
          have hW:=c.up (h':=h)
          have c:=c.ext hle)
       | refine c.aK (k:=(0,1)) (n:=7) (l:=fitZ) RA (hvf.mono RC) rfl rfl R1 rfl rfl λh l9 hl9 c=>?_
       try refine⟨RE RC c.wle,?_⟩
       subst hy))
  all_goals
    simp
    rw[hz]
    subst hl9
    have hall:=c.all (k:=(0,1)) (n:=7) (l:=l9) (B:=R2) (e:=T.bc) RA
    simp at hall
    refine aa λx hx=>?_
    refine aH (vw h) RD ?_
    simp[hall,ae (RE RC c.wle) i4]
    refine ah R1 jQ ?_
    rintro _ h ⟨rfl,rfl⟩
    refine⟨View.le_refl _,?_⟩
    refine c.aK (k:=(0,0)) (n:=7) (l:=fitZ) RA (hvf.mono RC) rfl rfl R1 rfl rfl λh9 l9' hl9' c9=>?_
    rw[hx]
    have hall:=c9.all (k:=(0,0)) (n:=7) (l:=l9') (B:=R) (e:=T.bc) RA
    simp at hall
    simp[hall]
    exact fin _ _ _ _ c9 (hl9'▸hvf.mono RC)
end
end Go.Proofs.YtnfiilgdjpdlkaaGreatDoor
namespace Go.Lft
open Go
section
variable {po po2:OP} {V W:View} {h0 h h':Heap} {o:Own} {k:Key} {P:Program} {ty:TypeId} {us:List (Nat × Value)}
theorem wJ {α:Type} [Rep α] {t e:Nat} {bytes:Nat} {z v:Value} {x:Operand} {d:α} {K:Value->Heap->Prop} (hT:fm P t e (Rep.n α) bytes z) (hx:asg us x=v) (hr:Rd W v d) (hn:Rep.n α<=1000)
  (hk : ∀h',(vw h).le (vw h')->OwnT W h' e (RL (RJ ⟨h.size,0,RK⟩) 1 1) [d]->K (RL (RJ ⟨h.size,0,RK⟩) 1 1) h'):@step po P (.buildSlice t 1 #[(0,x)]) ty us h K:=by
 have hc:=fS hr;obtain⟨B,h1,hB⟩:=nW (s:=Rep.n α) [v] 0 ((Array.range (1*Rep.n α)).map (z.cells[· % z.cells.size]!)) (λu hu=>by simp at hu;subst hu;exact hc.2.1) Sa;have hB:B=v.cells:=by rw[<-Array.toList_inj,hB];simp
 subst hB;refine tt (size:=Rep.n α) (vs:=[(0,v)]) hT R3 (by simp[hx]) h1 ?_;have q1:=bM h (.cells v.cells e);have b2:(h.push (.cells v.cells e))[h.size]? = RJ (.cells v.cells e (0,0)):=by simp
 generalize h.push (.cells v.cells e)=h3 at q1 b2;exact hk _ q1 (fX b2 hr hn)
theorem Cx.add {α:Type} [Rep α] {e:TypeId} {v:Value} {l:List α} (c:Cx V h0 W h o) (hk:o k=RK) (o2:OwnT W h' e v l) (hle:(vw h).le (vw h')) (hb : ∀b,v.ownBlock=RJ b->h.size<=b):Cx V h0 W h' (o.upd k (it e v l)):=
 ⟨c.own.add hk o2 hle hb,c.old,RE c.le0 hle,λj i b hj hb'=>by
  by_cases e:j=k
  ·subst e;rw[Own.aj]at hj;cases hj;exact OD (cw c.le0) (hb b hb')
  rw[Own.aB e]at hj;exact c.new j i b hj hb'⟩
end
end Go.Lft
namespace Go.Proofs.YtnfiilgdjpdlkaaGreatDoor
open Go Go.Lft
theorem eR {α:Type} [Rep α] {H:View} {v:Value} {l:List α} (s:SlRd H v l) : ∃a n c,v = .slice a n c:=let ⟨a,c,e,_⟩:=s;⟨a,_,c,e⟩
theorem JS {v0 v1 v2:Value} {m:aF} {takes inner:List Int} {h:Heap} {W:View} (hW:W.le (vw h)) (h0:Rd W v0 m) (h1:SlRd W v1 takes) (h2:SlRd W v2 inner) :
  az RP 104 #[v0,v1,v2] h (λu h'=>(vw h).le (vw h')/\∃b,u = .tuple #[.agg #[v1,v2,RL (RJ ⟨b,0,RK⟩) 1 1,RG RH 0,RG RH 0,RG RH 0,RL RK 0 0,RG RI 0],.bool RN]/\OwnT W h' T.cU (RL (RJ ⟨b,0,RK⟩) 1 1) [m]/\h.size<=b):=by
 refine ao (args:=[v0,v1,v2]) follows Tryz.func104 E.ov RB λK hK=>?_;dsimp only[L.ov,lkF,lkG];have c0:=Cx.start hW;refine aa λz hz=>?_;simp;refine c0.Gz (k:=(0,1)) rfl rfl h0 R4 λB ha hlea ca=>?_;refine ca.bU (k:=(0,0)) (n:=7) (z:=.agg fitZ.toArray) RA R1 rfl R4 R8 λR hb hleb cb=>?_;subst hz;obtain⟨um,hum,hmr⟩:=cb.GI (k:=(0,1)) (e:=T.cU) (B:=B) (d:=m) rfl rfl (N:=8) rfl;refine aa λz hz=>?_;simp[hum];refine wJ (α:=aF) (W:=W) (v:=um) El.cW Sa hmr R4 λhc hlec own=>?_;have cc:=cb.add (k:=(0,2)) RA own hlec λb hb=>by simp only[Value.ownBlock,NN]at hb;omega
 obtain⟨a1,n1,k1,rfl⟩:=eR h1;obtain⟨a2,n2,k2,rfl⟩:=eR h2;refine ak (z:=.agg fitZ.toArray) (places:=[(0,1),(1,1),(2,1),(3,5)]) (vs:=[(0,.slice a1 n1 k1),(1,.slice a2 n2 k2),(2,RL (RJ ⟨hb.size,0,RK⟩) 1 1)]) (cs:=#[.slice a1 n1 k1,.slice a2 n2 k2,RL (RJ ⟨hb.size,0,RK⟩) 1 1,RG RH 0,RG RH 0,RG RH 0,RL RK 0 0,RG RI 0]) R1 R1 Sa R1 ?_;refine cc.iR (k:=(0,0)) (n:=7) (l':=[.slice a1 n1 k1,.slice a2 n2 k2,RL (RJ ⟨hb.size,0,RK⟩) 1 1,RG RH 0,RG RH 0,RG RH 0,RL RK 0 0,RG RI 0]) RA R1 Sa Sa rfl R7 λhd cd=>?_;subst hz;have hall:=cd.all (k:=(0,0)) (n:=7) (l:=[.slice a1 n1 k1,.slice a2 n2 k2,RL (RJ ⟨hb.size,0,RK⟩) 1 1,RG RH 0,RG RH 0,RG RH 0,RL RK 0 0,RG RI 0]) (B:=R) (e:=T.bc) RA;simp at hall;simp[hall];refine hK _ _ ⟨cd.le0,_,rfl,cd.own.get (k:=(0,2)) RA,?_⟩;have q1:=cw hlea;have q2:=cw hleb;omega
end Go.Proofs.YtnfiilgdjpdlkaaGreatDoor
namespace Go.Proofs.YtnfiilgdjpdlkaaGreatDoor
open Go Go.Lft
section
variable {V:View} {h:Heap} {S I O P Q LL TT:Nat} {s:cn} {op plain sum:Int}
set_option maxHeartbeats 4000000 in
theorem Je(mx:Mx V S I O P Q LL TT s op plain sum)(hV:V.le (vw h))(hok:nz s)(hop:s.i.op=op)(ho:op=15\/op=16)(hp0:0<=sum/\sum<=100)(ht:-9223372036854775808<=s.temp/\s.temp<=9223372036854775807):
    az RP 135 #[ptr S,ptr I,ptr TT,ptr LL,ptr Q] h (λu h'=>bW V h h' u (memS s.f s.i s.temp op plain sum 3)):=by
  refine ao (args:=[ptr S,ptr I,ptr TT,ptr LL,ptr Q]) follows Tryz.func135 E.dD RB λK hK=>?_
  dsimp only[L.dD,lkF,lkG]
  have c0:=Cx.start hV
  have l1:1<=s.i.args.length:=by
    rcases ho with q | q
    · exact hok.one.one (hop.trans q)
    · have:=hok.one.two (.inr (.inl (hop.trans q)));omega
  have l2:op=15\/2<=s.i.args.length:=ho.imp id λq=>hok.one.two (.inr (.inl (hop.trans q)))
  refine aa λz hz=>?_
  simp
  refine c0.bU (k:=(0,0)) (n:=7) (z:=.agg fitZ.toArray) rfl R1 rfl R4 R8 λR hb hleb cb=>?_
  subst hz
  have i4:=(mx.ct.ins.part InsD.gx)
  have r4:=i4.mP
  have i4:an V ⟨I,4,RK⟩=RJ (RG RI s.i.imm.v):=by simpa using i4.i32
  obtain⟨va,i3,hva⟩:=(mx.ct.ins.part InsD.eX).sl
  have i3:an V ⟨I,3,RK⟩=RJ va:=by simpa using i3
  have s12:an V ⟨S,12,RK⟩=RJ (RG RH s.temp):=by simpa using(mx.ct.site.part cn.DN).int
  have a0:=hva.rng (i:=0) R3
  have most:=hok.one.most
  have q0:=hva.idx1 (k:=.i64) (i:=0) rfl R4 R3
  have d0:=hva.int (View.le_refl V) (i:=0) R3
  simp at q0
  have eL:=mx.laid
  have eT:=mx.with_
  have eQ:=mx.sum
  have hm : ∀X,Rd X (.agg #[RG RH 4,RG RH s.temp,RG RH 0,RG RH 0,RG RH 0,RG RH 0,RG RI s.i.imm.v,RL RK 0 0]) (⟨4,s.temp,0,0,0,0,s.i.imm,[]⟩:aF):=λX=>dT R9 r4 aE
  have hm2 : ∀X,Rd X (.agg #[RG RH sum,RG RH 0,RG RH 0,RG RH (nth s.i.args 0),RG RH s.temp,RG RH 0,RG RI 0,RL RK 0 0]) (⟨sum,0,0,nth s.i.args 0,s.temp,0,⟨0⟩,[]⟩:aF):=λX=>dT (imm:=⟨0⟩) R9 Sa aE
  have fin : ∀(W:View) (hx:Heap) (o:Own) (l9:List Value),Cx V h W hx o->Rd W (.agg l9.toArray) (⟨nth s.i.args 0::s.i.args.drop 1,[],[⟨4,s.temp,0,0,0,0,s.i.imm,[]⟩,fY s.i op plain ⟨sum,0,0,nth s.i.args 0,s.temp,0,⟨0⟩,[]⟩],cy⟩:FitD)->K (.tuple #[.agg l9.toArray,.bool RN]) hx:=λW hx o l9 c hr=>
    hK _ _ (bW.of c hr rfl λy e=>by simp only[memS]at e;cases e;rfl)
  clear hK
  refine aa λz hz=>?_
  refine aH V cb.wle ?_
  have c:=cb
  have hWV:V.le V:=View.le_refl _
  repeat' (first
    | refine eg ?_ ?_
    | (refine aw λy hy=>?_
       simp[i3,i4,s12,q0,d0,eL,eT,eQ]
       first
       | refine ak (t:=T.cU) (z:=.agg vG.toArray) (places:=[(0,1),(1,1),(2,1),(3,1),(4,1),(5,1),(6,1),(7,1)]) (vs:=[(0,RG RH 4),(1,RG RH s.temp),(6,RG RI s.i.imm.v)]) (cs:=#[RG RH 4,RG RH s.temp,RG RH 0,RG RH 0,RG RH 0,RG RH 0,RG RI s.i.imm.v,RL RK 0 0]) R1 R1 Sa R1 ?_
       | (refine c.jK (k:=(0,2)) (n:=1) (l:=[nth s.i.args 0]) RA El.aQ ?_ ?_ rfl R4 λuA h hle c=>?_
          · simp;done
          · simp;omega)
       | refine c.bU (k:=(0,1)) (n:=7) (z:=.agg fitZ.toArray) RA R1 rfl R4 R8 λR2 h hle c=>?_
       | (refine bV (ops:=[.tmp 20]) (caps:=#[ptr I]) rfl R1 (wN mx RC c.wle (c.own.get (k:=(0,2)) (v:=uA) (l:=[nth s.i.args 0]) RA) Sa l1 R3) ?_
          rintro uw h ⟨own2,mv⟩
          have c:=c.iH (k:=(0,2)) (v:=uA) (l:=[nth s.i.args 0]) RA own2 mv
          obtain⟨W,hW,c,huA⟩:=c.freeze (k:=(0,2)) (v:=uw) (l:=[nth s.i.args 0]++s.i.args.drop 1) RA)
       | (refine ah R1 (JS c.wle (hm _) (huA.mono RC) aE) ?_
          rintro _ h ⟨hle,b3,rfl,own3,hb3⟩
          have c:=c.add (k:=(0,3)) RA own3 hle λb hb=>by simp only[Value.ownBlock,NN]at hb;omega)
       | (obtain⟨a5,n5,k5,rfl⟩:=eR huA
          refine c.iR (k:=(0,1)) (n:=7) (l:=fitZ) (l':=[.slice a5 n5 k5,RL RK 0 0,RL (RJ ⟨b3,0,RK⟩) 1 1,RG RH 0,RG RH 0,RG RH 0,RL RK 0 0,RG RI 0]) RA R1 rfl rfl rfl R7 λh c=>?_)
       try refine⟨RE RC c.wle,?_⟩
       subst hy))
  all_goals
    simp
    rw[hz]
    refine aa λx hx=>?_
    have hcode:=c.own.raw (k:=(0,1)) (e:=T.bc) (B:=R2) (n:=7) (l:=[.slice a5 n5 k5,RL RK 0 0,RL (RJ ⟨b3,0,RK⟩) 1 1,RG RH 0,RG RH 0,RG RH 0,RL RK 0 0,RG RI 0]) RA (i:=2) R4
    simp only[List.getD_cons_succ,QV]at hcode
    have hVh:=RE (show V.le _ from RC) c.wle
    refine aH (vw h) RD ?_
    refine aw λy hy=>?_
    simp[hcode,ae hVh i3,ae hVh s12,q0,ae hVh d0,ae hVh eL,ae hVh eQ]
    refine ak (t:=T.cU) (z:=.agg vG.toArray) (places:=[(0,1),(1,1),(2,1),(3,1),(4,1),(5,1),(6,1),(7,1)]) (vs:=[(0,RG RH sum),(3,RG RH (nth s.i.args 0)),(4,RG RH s.temp)]) (cs:=#[RG RH sum,RG RH 0,RG RH 0,RG RH (nth s.i.args 0),RG RH s.temp,RG RH 0,RG RI 0,RL RK 0 0]) R1 R1 Sa R1 ?_
    refine⟨View.le_refl _,?_⟩
    subst hy
    refine aw λy hy=>?_
    simp
    refine bV (ops:=[.tmp 35]) (caps:=#[ptr O,ptr I,ptr P]) rfl R1 (wH mx RC c.wle (hm2 _) l2) ?_
    rintro um h7 ⟨hle7,hum⟩
    have hW7:=c.up (h':=h7)
    have c7:=c.ext hle7
    refine⟨hle7,?_⟩
    subst hy
    refine aw λy hy=>?_
    simp
    refine c7.ez (α:=aF) (n:=1) (vs:=[um]) (ds:=[fY s.i op plain ⟨sum,0,0,nth s.i.args 0,s.temp,0,⟨0⟩,[]⟩]) El.cW Sa ⟨hum,trivial⟩ rfl R4 R4 λu8 h8 W8 hW8 c8 s8 hle8=>?_
    refine⟨RE hle7 hle8,?_⟩
    subst hy
    refine aw λy hy=>?_
    simp
    refine dU (α:=aF) (v:=RL (RJ ⟨b3,0,RK⟩) 1 1) (u:=u8) (l:=[(⟨4,s.temp,0,0,0,0,s.i.imm,[]⟩:aF)]) (l2:=[fY s.i op plain ⟨sum,0,0,nth s.i.args 0,s.temp,0,⟨0⟩,[]⟩]) El.cW Sa Sa (c8.own.get (k:=(0,3)) RA) (s8.src c8.wle) Sa Sa λv9 h9 o9 mv9=>?_
    have c9:=c8.iH (k:=(0,3)) RA o9 mv9
    obtain⟨W9,hW9,c10,s10⟩:=c9.freeze (k:=(0,3)) (v:=v9) RA
    obtain⟨a9,n9,k9,rfl⟩:=eR s10
    subst hy
    refine aw λy hy=>?_
    simp
    refine c10.dB (k:=(0,1)) (n:=7) (i:=2) (u:=.slice a9 n9 k9) (e:=T.bc) (B:=R2) (l:=[.slice a5 n5 k5,RL RK 0 0,RL (RJ ⟨b3,0,RK⟩) 1 1,RG RH 0,RG RH 0,RG RH 0,RL RK 0 0,RG RI 0]) RA R4 R1 Sa Sa rfl λh11 c11=>?_
    subst hy
    simp
    subst hx
    have hall:=c11.all (k:=(0,1)) (n:=7) (B:=R2) (e:=T.bc) (l:=[.slice a5 n5 k5,RL RK 0 0,.slice a9 n9 k9,RG RH 0,RG RH 0,RG RH 0,RL RK 0 0,RG RI 0]) RA
    simp at hall
    refine aa λx hx=>?_
    simp[hall]
    have hfit:Rd W9 (.agg #[.slice a5 n5 k5,RL RK 0 0,.slice a9 n9 k9,RG RH 0,RG RH 0,RG RH 0,RL RK 0 0,RG RI 0]) (⟨nth s.i.args 0::s.i.args.drop 1,[],[⟨4,s.temp,0,0,0,0,s.i.imm,[]⟩,fY s.i op plain ⟨sum,0,0,nth s.i.args 0,s.temp,0,⟨0⟩,[]⟩],cy⟩:FitD):=
      lR (v1:=.slice a5 n5 k5) (v2:=RL RK 0 0) (v3:=.slice a9 n9 k9) (huA.mono RC) aE s10 (gO Sa R4 aE)
    refine c11.aK (k:=(0,0)) (n:=7) (l:=fitZ) RA hfit rfl rfl R1 Sa Sa λh12 l12 hl12 c12=>?_
    rw[hx]
    have hall:=c12.all (k:=(0,0)) (n:=7) (l:=l12) (B:=R) (e:=T.bc) RA
    simp at hall
    simp[hall]
    exact fin _ _ _ _ c12 (hl12▸hfit)
end
end Go.Proofs.YtnfiilgdjpdlkaaGreatDoor
namespace Go.Lft
open Go
section
variable {po po2:OP} {V W:View} {h0 h h':Heap} {o:Own} {k:Key} {P:Program} {ty:TypeId} {us:List (Nat × Value)}
theorem Cx.cZ {α:Type} [Rep α] {t:TypeId} {z:Value} {d:α} {K:Value->Heap->Prop} (c:Cx V h0 W h o) (hk:o k=RK) (hz:(P.info? t).map (·.zero)=RJ (RJ z)) (hr:Rd W (.agg z.cells) d) (hn:Rep.n α<=1000)
  (hK : ∀B h',(vw h).le (vw h')->Cx V h0 W h' (o.upd k (bx t B d))->K (RM (RJ ⟨B,0,RK⟩)) h'):@step po P (.alloc t) ty us h K:=by
 refine _root_.Go.Lft.cZ hz ?_;have q1:=bM h (.cells z.cells t);have b2:(h.push (.cells z.cells t))[h.size]? = RJ (.cells z.cells t (0,0)):=by simp
 generalize h.push (.cells z.cells t)=h2 at q1 b2;have hz2:(Value.agg z.cells).cells=z.cells:=rfl;refine hK _ _ q1 ⟨c.own.add hk (fX (v:=.agg z.cells) (by rw[hz2];exact b2) hr hn) q1 λb hb=>by simp only[Value.ownBlock,NN]at hb;omega,c.old,RE c.le0 q1,λj i b hj hb=>?_⟩;by_cases e:j=k
 ·subst e;rw[Own.aj]at hj;cases hj;cases hb;exact cw c.le0
 rw[Own.aB e]at hj;exact c.new j i b hj hb
theorem Own.eC {a b:Option Item}:(o.upd k a).upd k b=o.upd k b:=by funext q;unfold Own.upd;split<;>rfl
theorem Own.tV {a:Option Item} (hk:o k=RK):(o.upd k a).upd k RK=o:=by
 funext q;unfold Own.upd;split
 ·rename_i e;subst e;exact hk.symm
 rfl
theorem Cx.pj {α:Type} [Rep α] {e:TypeId} {B:Nat} {d:α} (c:Cx V h0 W h o) (hk:o k=bx e B d) : ∃W',W.le W'/\Cx V h0 W' h (o.upd k RK)/\At W' ⟨B,0,RK⟩ d:=by obtain⟨W',h1,h2,h3⟩:=c.freeze (v:=RL (RJ ⟨B,0,RK⟩) 1 1) (l:=[d]) hk;refine⟨W',h1,h2,?_⟩;have:=h3.at (i:=0) Sa;simpa[slA,Addr.z]using this
end
end Go.Lft
namespace Go.Proofs.YtnfiilgdjpdlkaaGreatDoor
open Go Go.Lft
abbrev insZ:List Value:=[RG RH 0,RG RH 0,RG RH 0,RL RK 0 0,RG RI 0]
section
variable {V:View} {h:Heap} {S I O P Q LL TT:Nat} {s:cn} {op plain sum:Int}
set_option maxHeartbeats 4000000 in
theorem Jc (mx:Mx V S I O P Q LL TT s op plain sum) (hV:V.le (vw h)) (hok:nz s) (hop:s.i.op=op) (ho:op=15\/op=16) (hp0:0<=sum/\sum<=100) :
    az RP 134 #[ptr S,ptr I,ptr LL,ptr Q,ptr TT] h (λu h'=>bW V h h' u (memS s.f s.i s.temp op plain sum 2)):=by
  refine ao (args:=[ptr S,ptr I,ptr LL,ptr Q,ptr TT]) follows Tryz.func134 E.dC RB λK hK=>?_
  dsimp only[L.dC,lkF,lkG]
  have c0:=Cx.start hV
  have l1:1<=s.i.args.length:=by
    rcases ho with q | q
    · exact hok.one.one (hop.trans q)
    · have:=hok.one.two (.inr (.inl (hop.trans q)));omega
  have l2:op=15\/2<=s.i.args.length:=ho.imp id λq=>hok.one.two (.inr (.inl (hop.trans q)))
  refine aa λz hz=>?_
  simp
  refine c0.bU (k:=(0,0)) (n:=7) (z:=.agg fitZ.toArray) rfl R1 rfl R4 R8 λR hb hleb cb=>?_
  subst hz
  have i4:=(mx.ct.ins.part InsD.gx)
  have r4:=i4.mP
  have i4:an V ⟨I,4,RK⟩=RJ (RG RI s.i.imm.v):=by simpa using i4.i32
  obtain⟨va,i3,hva⟩:=(mx.ct.ins.part InsD.eX).sl
  have i3:an V ⟨I,3,RK⟩=RJ va:=by simpa using i3
  have a0:=hva.rng (i:=0) R3
  have most:=hok.one.most
  have q0:=hva.idx1 (k:=.i64) (i:=0) rfl R4 R3
  have d0:=hva.int (View.le_refl V) (i:=0) R3
  simp at q0
  obtain⟨us,hus,rus⟩:=mx.ct.site.ldN rfl (N:=13) rfl
  have hus:=hus V RD
  have hfm:=gL (f:=s.f) (v:=nth s.i.args 0) (op:=2)
  have hdo:memS s.f s.i s.temp op plain sum 2=if(aD s.f (nth s.i.args 0) 2).2&&decide (s.i.imm.v=0) then
      RJ ⟨nth (aD s.f (nth s.i.args 0) 2).1.args 0::nth (aD s.f (nth s.i.args 0) 2).1.args 1::s.i.args.drop 1,[nth s.i.args 0],
        [fY s.i op plain ⟨sum,0,0,nth (aD s.f (nth s.i.args 0) 2).1.args 0,nth (aD s.f (nth s.i.args 0) 2).1.args 1,0,⟨0⟩,[]⟩],cy⟩
    else none:=rfl
  have hF:=@oH s us (nth s.i.args 0) 2
  generalize (aD s.f (nth s.i.args 0) 2).1=m at *
  generalize (aD s.f (nth s.i.args 0) 2).2=b at *
  refine aa λz hz=>?_
  have rest : ∀(W:View) (hx:Heap) (B2:Nat) (ρ:Env),V.le W->Cx V h W hx (Own.upd (λ_=>RK) (0,0) (bx T.bc R (RawN.mk (n:=7) fitZ)))->At W ⟨B2,0,RK⟩ m->
      Lft.look ρ 0=RJ (ptr S)->Lft.look ρ 1=RJ (ptr I)->Lft.look ρ 2=RJ (ptr LL)->Lft.look ρ 3=RJ (ptr Q)->Lft.look ρ 4=RJ (ptr TT)->Lft.look ρ 5=RJ (ptr R)->Lft.look ρ 7=RJ (ptr B2)->Lft.look ρ 8=RJ (.bool b)->
      LC.wp RP z (cO [.un (.aZ 8) (.tmp 5),.tmp 6] K) ρ hx:=by
    intro W hx B2 ρ hVW c hat g0 g1 g2 g3 g4 g5 g7 g8
    rw[hz]
    refine aa λx hx'=>?_
    have none_ : ∀(hy:Heap) (o:Own) (l9:List Value),Cx V h W hy o->Rd W (.agg l9.toArray) nw->(b&&decide (s.i.imm.v=0))=RO->K (.tuple #[.agg l9.toArray,.bool RO]) hy:=λhy o l9 c hr e=>
      hK _ _ (bW.of c hr (by rw[hdo,e];rfl) λy e2=>by rw[hdo,e]at e2;cases e2)
    cases b with
    | false=>
      simp[g8,af,ag,g5]
      refine ak (t:=T.bc) (z:=.agg fitZ.toArray) (places:=[(0,1),(1,1),(2,1),(3,5)]) (vs:=[]) (cs:=fitZ.toArray) R1 R1 Sa R1 ?_
      refine c.aK (k:=(0,0)) (n:=7) (l:=fitZ) RA fP rfl rfl R1 Sa Sa λh9 l9 hl9 c9=>?_
      have hall:=c9.all (k:=(0,0)) (n:=7) (l:=l9) (B:=R) (e:=T.bc) RA
      simp at hall
      simp[hall]
      exact none_ _ _ _ c9 (hl9▸fP) rfl
    | true=>
      by_cases e0:s.i.imm.v=0
      · obtain⟨m1,m2,-⟩:=hfm rfl
        have hma:=(hok.all _ m1).two R3
        obtain⟨vb,j3,hvb⟩:=(hat.part InsD.eX).sl
        have j3:an W ⟨B2,3,RK⟩=RJ vb:=by simpa using j3
        have b0:=hvb.rng (i:=0) R3
        have b1:=hvb.rng (i:=1) R3
        have q2:=hvb.idx1 (k:=.i64) (i:=0) rfl R4 R3
        have q3:=hvb.idx1 (k:=.i64) (i:=1) rfl R4 R3
        have d2:=hvb.int (View.le_refl W) (i:=0) R3
        have d3:=hvb.int (View.le_refl W) (i:=1) R3
        simp at q2 q3
        have i4':=ae hVW i4
        have i3:=ae hVW i3
        have d0:=ae hVW d0
        have eL:=ae hVW mx.laid
        have eT:=ae hVW mx.with_
        have eQ:=ae hVW mx.sum
        have mx:=mx.mono hVW
        simp[g0,g1,g2,g3,g4,g5,g7,g8,af,ag,ae c.wle i4',e0]
        rw[hx'];clear hx'
        have hm : ∀X,Rd X (.agg #[RG RH sum,RG RH 0,RG RH 0,RG RH (nth m.args 0),RG RH (nth m.args 1),RG RH 0,RG RI 0,RL RK 0 0]) (⟨sum,0,0,nth m.args 0,nth m.args 1,0,⟨0⟩,[]⟩:aF):=λX=>dT (imm:=⟨0⟩) R9 Sa aE
        have fin : ∀(W:View) (hx:Heap) (o:Own) (l9:List Value),Cx V h W hx o->Rd W (.agg l9.toArray) (⟨nth m.args 0::nth m.args 1::s.i.args.drop 1,[nth s.i.args 0],[fY s.i op plain ⟨sum,0,0,nth m.args 0,nth m.args 1,0,⟨0⟩,[]⟩],cy⟩:FitD)->K (.tuple #[.agg l9.toArray,.bool RN]) hx:=λW hx o l9 c hr=>
          hK _ _ (bW.of c hr (by rw[hdo];simp[e0]) λy e=>by rw[hdo,e0]at e;cases e;rfl)
        clear none_ hK
        refine aa λx hx'=>?_
        refine aH W c.wle ?_
        have hWV:W.le W:=View.le_refl _
        repeat' (first
          | refine eg ?_ ?_
          | (refine aw λy hy=>?_
             simp[g0,g1,g2,g3,g4,g5,g7,g8,af,ag,i3,j3,q0,q2,q3,d0,d2,d3,eL,eT,eQ]
             first
             | refine ak (t:=T.cU) (z:=.agg vG.toArray) (places:=[(0,1),(1,1),(2,1),(3,1),(4,1),(5,1),(6,1),(7,1)]) (vs:=[(0,RG RH sum),(3,RG RH (nth m.args 0)),(4,RG RH (nth m.args 1))]) (cs:=#[RG RH sum,RG RH 0,RG RH 0,RG RH (nth m.args 0),RG RH (nth m.args 1),RG RH 0,RG RI 0,RL RK 0 0]) R1 R1 Sa R1 ?_
             | (refine c.jK (k:=(0,2)) (n:=2) (l:=[nth m.args 0,nth m.args 1]) RA El.aQ ?_ ?_ rfl R4 λuA h hle c=>?_
                · simp;done
                · simp;omega)
             | (refine c.ez (α:=Int) (n:=1) (vs:=[RG RH (nth s.i.args 0)]) (ds:=[nth s.i.args 0]) El.aQ ?_ ⟨bg.2 ⟨rfl,a0⟩,trivial⟩ rfl R4 R4 λuB h W hW c huB hle=>?_
                · simp;done)
             | (refine bV (ops:=[.tmp 36]) (caps:=#[ptr O,ptr I,ptr P]) rfl R1 (wH mx RC c.wle (hm _) l2) ?_
                rintro um h ⟨hle,hum⟩
                have hW:=c.up (h':=h)
                have c:=c.ext hle)
             | (refine bV (ops:=[.tmp 47]) (caps:=#[ptr I]) rfl R1 (wN mx RC c.wle (c.own.get (k:=(0,2)) (v:=uA) (l:=[nth m.args 0,nth m.args 1]) RA) Sa l1 R3) ?_
                rintro uw h ⟨own2,mv⟩
                have c:=c.iH (k:=(0,2)) (v:=uA) (l:=[nth m.args 0,nth m.args 1]) RA own2 mv
                obtain⟨W,hW,c,huA⟩:=c.freeze (k:=(0,2)) (v:=uw) (l:=[nth m.args 0,nth m.args 1]++s.i.args.drop 1) RA)
             | (refine ah R1 (lg c.wle (hum.mono RC) (huA.mono RC) (huB.mono RC)) ?_
                rintro _ h ⟨hle,vf,rfl,hvf⟩
                have hW:=c.up (h':=h)
                have c:=c.ext hle)
             | refine c.aK (k:=(0,0)) (n:=7) (l:=fitZ) RA hvf rfl rfl R1 Sa Sa λh l9 hl9 c=>?_
             try refine⟨RE RC c.wle,?_⟩
             subst hy))
        all_goals
          simp[g0,g1,g2,g3,g4,g5,g7,g8,af,ag]
          rw[hx']
          have hall:=c.all (k:=(0,0)) (n:=7) (l:=l9) (B:=R) (e:=T.bc) RA
          simp at hall
          simp[g0,g1,g2,g3,g4,g5,g7,g8,af,ag,hall]
          exact fin _ _ _ _ c (hl9▸hvf)
      · simp[g0,g1,g2,g3,g4,g5,g7,g8,af,ag,ae c.wle (ae hVW i4),e0]
        refine ak (t:=T.bc) (z:=.agg fitZ.toArray) (places:=[(0,1),(1,1),(2,1),(3,5)]) (vs:=[]) (cs:=fitZ.toArray) R1 R1 Sa R1 ?_
        refine c.aK (k:=(0,0)) (n:=7) (l:=fitZ) RA fP rfl rfl R1 Sa Sa λh9 l9 hl9 c9=>?_
        have hall:=c9.all (k:=(0,0)) (n:=7) (l:=l9) (B:=R) (e:=T.bc) RA
        simp at hall
        simp[hall]
        exact none_ _ _ _ c9 (hl9▸fP) (by simp[e0])
  refine aH V cb.wle ?_
  have c:=cb
  refine eg ?_ ?_
  · refine aw λy hy=>?_
    simp[hus,i3,q0,d0]
    refine ah R1 (hF c.wle rus hok.sm a0) ?_
    rintro _ h1 ⟨hle1,vm,rfl,hvm⟩
    have hW1:=c.up (h':=h1)
    have c:=c.ext hle1
    subst hy
    refine aw λy hy=>?_
    simp
    refine c.cZ (k:=(0,4)) (z:=.agg insZ.toArray) (d:=eV) RA R1 iN R4 λB2 h2 hle2 c=>?_
    subst hy
    refine aw λy hy=>?_
    simp
    refine c.cI Part.all (k:=(0,4)) (D:=eV) (d:=m) RA R1 Sa Sa hvm λh3 c=>?_
    subst hy
    simp
    obtain⟨W4,hW4,c,hat⟩:=c.pj (k:=(0,4)) (B:=B2) (d:=m) RA
    rw[Own.eC,Own.tV RA]at c
    exact rest _ _ _ _ (RE hW1 hW4) c hat rfl rfl rfl rfl rfl rfl rfl rfl
  · refine aw λy hy=>?_
    simp[hus,i3,q0,d0]
    refine c.cZ (k:=(0,4)) (z:=.agg insZ.toArray) (d:=eV) RA R1 iN R4 λB2 h2 hle2 c=>?_
    refine⟨c.wle,?_⟩
    subst hy
    refine aw λy hy=>?_
    simp
    refine ah R1 (hF c.wle rus hok.sm a0) ?_
    rintro _ h1 ⟨hle1,vm,rfl,hvm⟩
    have hW1:=c.up (h':=h1)
    have c:=c.ext hle1
    subst hy
    refine aw λy hy=>?_
    simp
    refine c.cI Part.all (k:=(0,4)) (D:=eV) (d:=m) RA R1 Sa Sa hvm λh3 c=>?_
    subst hy
    simp
    obtain⟨W4,hW4,c,hat⟩:=c.pj (k:=(0,4)) (B:=B2) (d:=m) RA
    rw[Own.eC,Own.tV RA]at c
    exact rest _ _ _ _ (RE hW1 hW4) c hat rfl rfl rfl rfl rfl rfl rfl rfl
end
end Go.Proofs.YtnfiilgdjpdlkaaGreatDoor
namespace Go.Lft
open Go
def DU (subs:List (Array Bool × Reg)) (l:Array Bool):Option Reg:=(subs.find? λp=>p.1 == l).map (·.2)
theorem E5{subs:List (Array Bool × Reg)}{l:Array Bool}{R:Reg}(h:DU subs l=RJ R):(l,R)∈subs:=by
 unfold DU at h;rw[NR]at h;obtain⟨p,hp,rfl⟩:=h;have h1:=P1 hp;have h2:=O4 hp;have:p.1=l:=by simpa using h1
 subst this;exact h2
def Kg (P:Program) (N:Nat) (ops:Array Oper) (live:List Nat) (l0:Option Nat) (listed:Array Bool) (subs:List (Array Bool × Reg)):Option Reg:=
 match py P ops l0 ops.size listed with
 | none=>RK
 | some (qs,l1)=>match rdy ops l1 with
  | []=>Be P N ops live (mV ops qs)
  | rs=>jB (λi=>match ops[i]? with
   | none=>RK
   | some o=>match DU subs (l1.setIfInBounds i RN)with
    | some next=>uz P N ops live (mV ops qs) o (xZ ops (l1.setIfInBounds i RN)) (l0 == RJ i) next
    | none=>RK) rs
theorem rW {f g:Nat->Option Reg} (h : ∀i X,f i=RJ X->g i=RJ X) : ∀{rs:List Nat} {R:Reg},jB f rs=RJ R->jB g rs=RJ R
 | [],_,e=>by cases e
 | [i],_,e=>h i _ e
 | i::j::rs,R,e=>by
  unfold jB at e ⊢;cases h1:f i with
  | none=>rw[h1]at e;cases e
  | some x=>
   cases h2:jB f (j::rs)with
   | none=>rw[h1,h2]at e;cases e
   | some y=>rw[h1,h2]at e;rw[h i x h1,rW h h2];exact e
theorem bQ{P:Program}{N:Nat}{ops:Array Oper}{live:List Nat}{l0:Option Nat}{listed:Array Bool}{subs:List (Array Bool × Reg)}{R:Reg}{f:Nat}(h:Kg P N ops live l0 listed subs=RJ R)(hs : ∀p∈subs,regD P N ops live l0 f p.1=RJ p.2):regD P N ops live l0 (f+1) listed=RJ R:=by
 unfold Kg at h;unfold regD;split at h
 ·cases h
 rename_i qs l1 hq;rw[hq];simp only;split at h
 ·rename_i hr;rw[hr];exact h
 rename_i hne;split
 ·rename_i hr;exact absurd hr hne
 refine rW (λi X e=>?_) h;cases ho:ops[i]? with
 | none=>rw[ho]at e;cases e
 | some o=>
  rw[ho]at e;simp only at e ⊢;cases hb:DU subs (l1.setIfInBounds i RN)with
  | none=>rw[hb]at e;cases e
  | some next=>rw[hb]at e;rw[hs _ (E5 hb)];exact e
def seqL:Code->Code | .seq x _=>x | x=>x
def seqR:Code->Code | .seq _ y=>y | x=>x
def J6:Code->Bool | .seq _ _=>RN | _=>RO
def opsR:Code->Array Oper | .region _ ops _=>ops | _=>#[]
def DW:Code->Bool | .region _ ops d=>d&&ops.all λo=>eB o.op | _=>RO
theorem kO{P:Program}{N:Nat}{lv lr:List Nat}{b:Bool}{c:Code}{x y:LC}(hc:J6 c=RN)(h1:eF P N lv lr b (seqL c)=RJ x)(h2:eF P N lv lr b (seqR c)=RJ y):eF P N lv lr b c=RJ (.seq x y):=by cases c<;>simp[J6]at hc;simp only[seqL,seqR]at h1 h2;simp only[eF,h1,h2]
theorem AN{P:Program}{N:Nat}{lv lr:List Nat}{b:Bool}{c:Code}{R:Reg}{l0:Option Nat}{n:Nat}(hc:DW c=RN)(h0:Cs P (opsR c)=l0)(hn:(opsR c).size=n)(h:regD P N (opsR c) lv l0 (n+1) (Array.replicate n RO)=RJ R):eF P N lv lr b c=RJ (.reg RN R):=by subst h0;subst hn;cases c<;>simp[DW]at hc;simp only[opsR]at h;simp only[eF];rw[if_pos hc.1,if_pos (by simpa using hc.2),h];rfl
def uO (fn:Func):Code:=fn.body.getD .skip
theorem I5{P:Program}{fn:Func}{res:List E}{x:LC}{lv lr:List Nat}{n:Nat}(hb:fn.body.isSome=RN)(hr:fn.results.toList.mapM (resE P)=RJ res)(h1:ln (uO fn)++tZ fn (uO fn)=lv)(h2:tZ fn (uO fn)=lr)(hn:fn.ntmps=n)(h:eF P n lv lr RO (uO fn)=RJ x):aL P fn=RJ ⟨res,x⟩:=by
 subst h1;subst h2;subst hn;unfold uO at h;unfold aL;cases hb':fn.body with
 | none=>rw[hb']at hb;cases hb
 | some c=>rw[hb']at h;simp only[QO]at h;simp only[hr,h]
end Go.Lft
namespace Go.Proofs.YtnfiilgdjpdlkaaGreatDoor
open Go Go.Lft
section
set_option maxRecDepth 100000
noncomputable def L.ab.q0.ops:Array Oper:=opsR (seqL (seqR (seqR (seqR (seqR (uO Tryz.f133))))))
def L.ab.q0.r0:Reg:=(.fin [11] [] [(.tmp 65)])
def L.ab.q0.r1:Reg:=by apply(fun{b:Reg}(_:b=s [] [] (w [10,64]) (.store 101 (a 10) (a 64)) L.ab.q0.r0)=>b);simp only[sh];rfl
def L.ab.q0.r2:Reg:=by apply(fun{b:Reg}(_:b=l [33,64,65] [(64,.un (.ext 0) (t 63)),(65,.un (.ext 1) (t 63))] [] (.alloc 101) 0 10 L.ab.q0.r1)=>b);simp only[sh];rfl
def L.ab.q0.r3:Reg:=by apply(fun{b:Reg}(_:b=s [33,64,65] [(65,.un (.ext 1) (t 63))] [(10,t 10),(64,.un (.ext 0) (t 63))] (.store 101 (a 10) (a 64)) L.ab.q0.r0)=>b);simp only[sh];rfl
def L.ab.q0.r4:Reg:=by apply(fun{b:Reg}(_:b=.loud [] [] (w [46,53,62]) RK [] RN (x 104 [46,53,62] [80,22,22]) 102 (RJ 63) RN L.ab.q0.r3)=>b);simp only[sh];rfl
def L.ab.q0.r5:Reg:=by apply(fun{b:Reg}(_:b=.both (.loud [] [] (w [46,53,62]) RK [] RN (x 104 [46,53,62] [80,22,22]) 102 (RJ 63) RN L.ab.q0.r2) (p [] (.alloc 101) 0 10 L.ab.q0.r4))=>b);simp only[sh];rfl
def L.ab.q0.r6:Reg:=by apply(fun{b:Reg}(_:b=p (w [57,61]) (.buildSlice 22 2 #[(0,a 57),(1,a 61)]) 22 62 L.ab.q0.r4)=>b);simp only[sh];rfl
def L.ab.q0.r7:Reg:=by apply(fun{b:Reg}(_:b=.both (p (w [57,61]) (.buildSlice 22 2 #[(0,a 57),(1,a 61)]) 22 62 L.ab.q0.r5) (p [] (.alloc 101) 0 10 L.ab.q0.r6))=>b);simp only[sh];rfl
def L.ab.q0.r8:Reg:=by apply(fun{b:Reg}(_:b=p (w [47,52]) (.call ⟨.value (a 47),#[a 52],#[22]⟩) 22 53 L.ab.q0.r4)=>b);simp only[sh];rfl
def L.ab.q0.r9:Reg:=by apply(fun{b:Reg}(_:b=.both (p (w [47,52]) (.call ⟨.value (a 47),#[a 52],#[22]⟩) 22 53 L.ab.q0.r5) (p [] (.alloc 101) 0 10 L.ab.q0.r8))=>b);simp only[sh];rfl
def L.ab.q0.r10:Reg:=by apply(fun{b:Reg}(_:b=.both (p (w [47,52]) (.call ⟨.value (a 47),#[a 52],#[22]⟩) 22 53 L.ab.q0.r6) (p (w [57,61]) (.buildSlice 22 2 #[(0,a 57),(1,a 61)]) 22 62 L.ab.q0.r8))=>b);simp only[sh];rfl
def L.ab.q0.r11:Reg:=by apply(fun{b:Reg}(_:b=.both (p (w [47,52]) (.call ⟨.value (a 47),#[a 52],#[22]⟩) 22 53 L.ab.q0.r7) (.both (p (w [57,61]) (.buildSlice 22 2 #[(0,a 57),(1,a 61)]) 22 62 L.ab.q0.r9) (p [] (.alloc 101) 0 10 L.ab.q0.r10)))=>b);simp only[sh];rfl
def L.ab.q0.r12:Reg:=by apply(fun{b:Reg}(_:b=p (w [51]) (.buildSlice 22 1 #[(0,a 51)]) 22 52 L.ab.q0.r8)=>b);simp only[sh];rfl
def L.ab.q0.r13:Reg:=by apply(fun{b:Reg}(_:b=.both (p (w [51]) (.buildSlice 22 1 #[(0,a 51)]) 22 52 L.ab.q0.r9) (p [] (.alloc 101) 0 10 L.ab.q0.r12))=>b);simp only[sh];rfl
def L.ab.q0.r14:Reg:=by apply(fun{b:Reg}(_:b=.both (p (w [51]) (.buildSlice 22 1 #[(0,a 51)]) 22 52 L.ab.q0.r10) (p (w [57,61]) (.buildSlice 22 2 #[(0,a 57),(1,a 61)]) 22 62 L.ab.q0.r12))=>b);simp only[sh];rfl
def L.ab.q0.r15:Reg:=by apply(fun{b:Reg}(_:b=.both (p (w [51]) (.buildSlice 22 1 #[(0,a 51)]) 22 52 L.ab.q0.r11) (.both (p (w [57,61]) (.buildSlice 22 2 #[(0,a 57),(1,a 61)]) 22 62 L.ab.q0.r13) (p [] (.alloc 101) 0 10 L.ab.q0.r14)))=>b);simp only[sh];rfl
def L.ab.q0.r16:Reg:=by apply(fun{b:Reg}(_:b=p (w [34,45]) (.call ⟨.value (a 34),#[a 45],#[80]⟩) 80 46 L.ab.q0.r8)=>b);simp only[sh];rfl
def L.ab.q0.r17:Reg:=by apply(fun{b:Reg}(_:b=.both (p (w [34,45]) (.call ⟨.value (a 34),#[a 45],#[80]⟩) 80 46 L.ab.q0.r9) (p [] (.alloc 101) 0 10 L.ab.q0.r16))=>b);simp only[sh];rfl
def L.ab.q0.r18:Reg:=by apply(fun{b:Reg}(_:b=.both (p (w [34,45]) (.call ⟨.value (a 34),#[a 45],#[80]⟩) 80 46 L.ab.q0.r10) (p (w [57,61]) (.buildSlice 22 2 #[(0,a 57),(1,a 61)]) 22 62 L.ab.q0.r16))=>b);simp only[sh];rfl
def L.ab.q0.r19:Reg:=by apply(fun{b:Reg}(_:b=.both (p (w [34,45]) (.call ⟨.value (a 34),#[a 45],#[80]⟩) 80 46 L.ab.q0.r11) (.both (p (w [57,61]) (.buildSlice 22 2 #[(0,a 57),(1,a 61)]) 22 62 L.ab.q0.r17) (p [] (.alloc 101) 0 10 L.ab.q0.r18)))=>b);simp only[sh];rfl
def L.ab.q0.r20:Reg:=by apply(fun{b:Reg}(_:b=.both (p (w [34,45]) (.call ⟨.value (a 34),#[a 45],#[80]⟩) 80 46 L.ab.q0.r12) (p (w [51]) (.buildSlice 22 1 #[(0,a 51)]) 22 52 L.ab.q0.r16))=>b);simp only[sh];rfl
def L.ab.q0.r21:Reg:=by apply(fun{b:Reg}(_:b=.both (p (w [34,45]) (.call ⟨.value (a 34),#[a 45],#[80]⟩) 80 46 L.ab.q0.r13) (.both (p (w [51]) (.buildSlice 22 1 #[(0,a 51)]) 22 52 L.ab.q0.r17) (p [] (.alloc 101) 0 10 L.ab.q0.r20)))=>b);simp only[sh];rfl
def L.ab.q0.r22:Reg:=by apply(fun{b:Reg}(_:b=.both (p (w [34,45]) (.call ⟨.value (a 34),#[a 45],#[80]⟩) 80 46 L.ab.q0.r14) (.both (p (w [51]) (.buildSlice 22 1 #[(0,a 51)]) 22 52 L.ab.q0.r18) (p (w [57,61]) (.buildSlice 22 2 #[(0,a 57),(1,a 61)]) 22 62 L.ab.q0.r20)))=>b);simp only[sh];rfl
def L.ab.q0.r23:Reg:=by apply(fun{b:Reg}(_:b=.both (p (w [34,45]) (.call ⟨.value (a 34),#[a 45],#[80]⟩) 80 46 L.ab.q0.r15) (.both (p (w [51]) (.buildSlice 22 1 #[(0,a 51)]) 22 52 L.ab.q0.r19) (.both (p (w [57,61]) (.buildSlice 22 2 #[(0,a 57),(1,a 61)]) 22 62 L.ab.q0.r21) (p [] (.alloc 101) 0 10 L.ab.q0.r22))))=>b);simp only[sh];rfl
def L.ab.q0.r24:Reg:=by apply(fun{b:Reg}(_:b=p (w [35,39,44]) (.build 80 #[(0,a 35),(3,a 39),(6,a 44)]) 80 45 L.ab.q0.r16)=>b);simp only[sh];rfl
def L.ab.q0.r25:Reg:=by apply(fun{b:Reg}(_:b=.both (p (w [35,39,44]) (.build 80 #[(0,a 35),(3,a 39),(6,a 44)]) 80 45 L.ab.q0.r17) (p [] (.alloc 101) 0 10 L.ab.q0.r24))=>b);simp only[sh];rfl
def L.ab.q0.r26:Reg:=by apply(fun{b:Reg}(_:b=.both (p (w [35,39,44]) (.build 80 #[(0,a 35),(3,a 39),(6,a 44)]) 80 45 L.ab.q0.r18) (p (w [57,61]) (.buildSlice 22 2 #[(0,a 57),(1,a 61)]) 22 62 L.ab.q0.r24))=>b);simp only[sh];rfl
def L.ab.q0.r27:Reg:=by apply(fun{b:Reg}(_:b=.both (p (w [35,39,44]) (.build 80 #[(0,a 35),(3,a 39),(6,a 44)]) 80 45 L.ab.q0.r19) (.both (p (w [57,61]) (.buildSlice 22 2 #[(0,a 57),(1,a 61)]) 22 62 L.ab.q0.r25) (p [] (.alloc 101) 0 10 L.ab.q0.r26)))=>b);simp only[sh];rfl
def L.ab.q0.r28:Reg:=by apply(fun{b:Reg}(_:b=.both (p (w [35,39,44]) (.build 80 #[(0,a 35),(3,a 39),(6,a 44)]) 80 45 L.ab.q0.r20) (p (w [51]) (.buildSlice 22 1 #[(0,a 51)]) 22 52 L.ab.q0.r24))=>b);simp only[sh];rfl
def L.ab.q0.r29:Reg:=by apply(fun{b:Reg}(_:b=.both (p (w [35,39,44]) (.build 80 #[(0,a 35),(3,a 39),(6,a 44)]) 80 45 L.ab.q0.r21) (.both (p (w [51]) (.buildSlice 22 1 #[(0,a 51)]) 22 52 L.ab.q0.r25) (p [] (.alloc 101) 0 10 L.ab.q0.r28)))=>b);simp only[sh];rfl
def L.ab.q0.r30:Reg:=by apply(fun{b:Reg}(_:b=.both (p (w [35,39,44]) (.build 80 #[(0,a 35),(3,a 39),(6,a 44)]) 80 45 L.ab.q0.r22) (.both (p (w [51]) (.buildSlice 22 1 #[(0,a 51)]) 22 52 L.ab.q0.r26) (p (w [57,61]) (.buildSlice 22 2 #[(0,a 57),(1,a 61)]) 22 62 L.ab.q0.r28)))=>b);simp only[sh];rfl
def L.ab.q0.r31:Reg:=by apply(fun{b:Reg}(_:b=.both (l [34,35,36,37,38,39,40,41,42,43,44,47,48,49,50,51,54,55,56,57,58,59,60,61] [(34,d (t 2)),(47,d (t 4)),(51,d (i 1 (g 3 (t 7)) (c 0))),(57,d (i 1 (g 3 (t 1)) (c 0))),(61,d (i 1 (g 3 (t 7)) (c 1)))] [(35,d (t 3)),(39,d (i 1 (g 3 (t 7)) (c 0))),(44,o (.un (.conv .i32) (t 9)) (g 4 (t 1)))] (.build 80 #[(0,a 35),(3,a 39),(6,a 44)]) 80 45 L.ab.q0.r23) (.both (l [34,35,36,37,38,39,40,41,42,43,44,47,48,49,50,51,54,55,56,57,58,59,60,61] [(34,d (t 2)),(35,d (t 3)),(39,d (i 1 (g 3 (t 7)) (c 0))),(44,o (.un (.conv .i32) (t 9)) (g 4 (t 1))),(47,d (t 4)),(57,d (i 1 (g 3 (t 1)) (c 0))),(61,d (i 1 (g 3 (t 7)) (c 1)))] [(51,d (i 1 (g 3 (t 7)) (c 0)))] (.buildSlice 22 1 #[(0,a 51)]) 22 52 L.ab.q0.r27) (.both (l [34,35,36,37,38,39,40,41,42,43,44,47,48,49,50,51,54,55,56,57,58,59,60,61] [(34,d (t 2)),(35,d (t 3)),(39,d (i 1 (g 3 (t 7)) (c 0))),(44,o (.un (.conv .i32) (t 9)) (g 4 (t 1))),(47,d (t 4)),(51,d (i 1 (g 3 (t 7)) (c 0)))] [(57,d (i 1 (g 3 (t 1)) (c 0))),(61,d (i 1 (g 3 (t 7)) (c 1)))] (.buildSlice 22 2 #[(0,a 57),(1,a 61)]) 22 62 L.ab.q0.r29) (l [34,35,36,37,38,39,40,41,42,43,44,47,48,49,50,51,54,55,56,57,58,59,60,61] [(34,d (t 2)),(35,d (t 3)),(39,d (i 1 (g 3 (t 7)) (c 0))),(44,o (.un (.conv .i32) (t 9)) (g 4 (t 1))),(47,d (t 4)),(51,d (i 1 (g 3 (t 7)) (c 0))),(57,d (i 1 (g 3 (t 1)) (c 0))),(61,d (i 1 (g 3 (t 7)) (c 1)))] [] (.alloc 101) 0 10 L.ab.q0.r30))))=>b);simp only[sh];rfl
theorem E.ab.q0r0:regD RP 76 L.ab.q0.ops [22,5,6,1,0,8,5,7,4,9,3,2,10] (RJ 29) 29 (RF 36 34359738367)=RJ L.ab.q0.r0:=bQ (subs:=[]) R1 (λ_ h=>by cases h)
theorem E.ab.q0r1:regD RP 76 L.ab.q0.ops [22,5,6,1,0,8,5,7,4,9,3,2,10] (RJ 29) 30 (RF 36 17179869183)=RJ L.ab.q0.r1:=bQ (subs:=[((RF 36 34359738367),L.ab.q0.r0)]) R1 (NP.2 ⟨E.ab.q0r0,λ_ h=>by cases h⟩)
theorem E.ab.q0r2:regD RP 76 L.ab.q0.ops [22,5,6,1,0,8,5,7,4,9,3,2,10] (RJ 29) 31 (RF 36 1073741823)=RJ L.ab.q0.r2:=bQ (subs:=[((RF 36 17179869183),L.ab.q0.r1)]) R1 (NP.2 ⟨E.ab.q0r1,λ_ h=>by cases h⟩)
theorem E.ab.q0r3:regD RP 76 L.ab.q0.ops [22,5,6,1,0,8,5,7,4,9,3,2,10] (RJ 29) 30 (RF 36 9663676415)=RJ L.ab.q0.r3:=bQ (subs:=[((RF 36 34359738367),L.ab.q0.r0)]) R1 (NP.2 ⟨E.ab.q0r0,λ_ h=>by cases h⟩)
theorem E.ab.q0r4:regD RP 76 L.ab.q0.ops [22,5,6,1,0,8,5,7,4,9,3,2,10] (RJ 29) 31 (RF 36 9126805503)=RJ L.ab.q0.r4:=bQ (subs:=[((RF 36 9663676415),L.ab.q0.r3)]) R1 (NP.2 ⟨E.ab.q0r3,λ_ h=>by cases h⟩)
theorem E.ab.q0r5:regD RP 76 L.ab.q0.ops [22,5,6,1,0,8,5,7,4,9,3,2,10] (RJ 29) 32 (RF 36 536870911)=RJ L.ab.q0.r5:=bQ (subs:=[((RF 36 1073741823),L.ab.q0.r2),((RF 36 9126805503),L.ab.q0.r4)]) R1 (NP.2 ⟨E.ab.q0r2,NP.2 ⟨E.ab.q0r4,λ_ h=>by cases h⟩⟩)
theorem E.ab.q0r6:regD RP 76 L.ab.q0.ops [22,5,6,1,0,8,5,7,4,9,3,2,10] (RJ 29) 32 (RF 36 8858370047)=RJ L.ab.q0.r6:=bQ (subs:=[((RF 36 9126805503),L.ab.q0.r4)]) R1 (NP.2 ⟨E.ab.q0r4,λ_ h=>by cases h⟩)
theorem E.ab.q0r7:regD RP 76 L.ab.q0.ops [22,5,6,1,0,8,5,7,4,9,3,2,10] (RJ 29) 33 (RF 36 268435455)=RJ L.ab.q0.r7:=bQ (subs:=[((RF 36 536870911),L.ab.q0.r5),((RF 36 8858370047),L.ab.q0.r6)]) R1 (NP.2 ⟨E.ab.q0r5,NP.2 ⟨E.ab.q0r6,λ_ h=>by cases h⟩⟩)
theorem E.ab.q0r8:regD RP 76 L.ab.q0.ops [22,5,6,1,0,8,5,7,4,9,3,2,10] (RJ 29) 32 (RF 36 9126281215)=RJ L.ab.q0.r8:=bQ (subs:=[((RF 36 9126805503),L.ab.q0.r4)]) R1 (NP.2 ⟨E.ab.q0r4,λ_ h=>by cases h⟩)
theorem E.ab.q0r9:regD RP 76 L.ab.q0.ops [22,5,6,1,0,8,5,7,4,9,3,2,10] (RJ 29) 33 (RF 36 536346623)=RJ L.ab.q0.r9:=bQ (subs:=[((RF 36 536870911),L.ab.q0.r5),((RF 36 9126281215),L.ab.q0.r8)]) R1 (NP.2 ⟨E.ab.q0r5,NP.2 ⟨E.ab.q0r8,λ_ h=>by cases h⟩⟩)
theorem E.ab.Hr:regD RP 76 L.ab.q0.ops [22,5,6,1,0,8,5,7,4,9,3,2,10] (RJ 29) 33 (RF 36 8857845759)=RJ L.ab.q0.r10:=bQ (subs:=[((RF 36 8858370047),L.ab.q0.r6),((RF 36 9126281215),L.ab.q0.r8)]) R1 (NP.2 ⟨E.ab.q0r6,NP.2 ⟨E.ab.q0r8,λ_ h=>by cases h⟩⟩)
theorem E.ab.KA:regD RP 76 L.ab.q0.ops [22,5,6,1,0,8,5,7,4,9,3,2,10] (RJ 29) 34 (RF 36 267911167)=RJ L.ab.q0.r11:=bQ (subs:=[((RF 36 268435455),L.ab.q0.r7),((RF 36 536346623),L.ab.q0.r9),((RF 36 8857845759),L.ab.q0.r10)]) R1 (NP.2 ⟨E.ab.q0r7,NP.2 ⟨E.ab.q0r9,NP.2 ⟨E.ab.Hr,λ_ h=>by cases h⟩⟩⟩)
theorem E.ab.G0:regD RP 76 L.ab.q0.ops [22,5,6,1,0,8,5,7,4,9,3,2,10] (RJ 29) 33 (RF 36 9126019071)=RJ L.ab.q0.r12:=bQ (subs:=[((RF 36 9126281215),L.ab.q0.r8)]) R1 (NP.2 ⟨E.ab.q0r8,λ_ h=>by cases h⟩)
theorem E.ab.Kv:regD RP 76 L.ab.q0.ops [22,5,6,1,0,8,5,7,4,9,3,2,10] (RJ 29) 34 (RF 36 536084479)=RJ L.ab.q0.r13:=bQ (subs:=[((RF 36 536346623),L.ab.q0.r9),((RF 36 9126019071),L.ab.q0.r12)]) R1 (NP.2 ⟨E.ab.q0r9,NP.2 ⟨E.ab.G0,λ_ h=>by cases h⟩⟩)
theorem E.ab.Kr:regD RP 76 L.ab.q0.ops [22,5,6,1,0,8,5,7,4,9,3,2,10] (RJ 29) 34 (RF 36 8857583615)=RJ L.ab.q0.r14:=bQ (subs:=[((RF 36 8857845759),L.ab.q0.r10),((RF 36 9126019071),L.ab.q0.r12)]) R1 (NP.2 ⟨E.ab.Hr,NP.2 ⟨E.ab.G0,λ_ h=>by cases h⟩⟩)
theorem E.ab.MK:regD RP 76 L.ab.q0.ops [22,5,6,1,0,8,5,7,4,9,3,2,10] (RJ 29) 35 (RF 36 267649023)=RJ L.ab.q0.r15:=bQ (subs:=[((RF 36 267911167),L.ab.q0.r11),((RF 36 536084479),L.ab.q0.r13),((RF 36 8857583615),L.ab.q0.r14)]) R1 (NP.2 ⟨E.ab.KA,NP.2 ⟨E.ab.Kv,NP.2 ⟨E.ab.Kr,λ_ h=>by cases h⟩⟩⟩)
theorem E.ab.Er:regD RP 76 L.ab.q0.ops [22,5,6,1,0,8,5,7,4,9,3,2,10] (RJ 29) 33 (RF 36 9126277119)=RJ L.ab.q0.r16:=bQ (subs:=[((RF 36 9126281215),L.ab.q0.r8)]) R1 (NP.2 ⟨E.ab.q0r8,λ_ h=>by cases h⟩)
theorem E.ab.Gi:regD RP 76 L.ab.q0.ops [22,5,6,1,0,8,5,7,4,9,3,2,10] (RJ 29) 34 (RF 36 536342527)=RJ L.ab.q0.r17:=bQ (subs:=[((RF 36 536346623),L.ab.q0.r9),((RF 36 9126277119),L.ab.q0.r16)]) R1 (NP.2 ⟨E.ab.q0r9,NP.2 ⟨E.ab.Er,λ_ h=>by cases h⟩⟩)
theorem E.ab.Hj:regD RP 76 L.ab.q0.ops [22,5,6,1,0,8,5,7,4,9,3,2,10] (RJ 29) 34 (RF 36 8857841663)=RJ L.ab.q0.r18:=bQ (subs:=[((RF 36 8857845759),L.ab.q0.r10),((RF 36 9126277119),L.ab.q0.r16)]) R1 (NP.2 ⟨E.ab.Hr,NP.2 ⟨E.ab.Er,λ_ h=>by cases h⟩⟩)
theorem E.ab.KB:regD RP 76 L.ab.q0.ops [22,5,6,1,0,8,5,7,4,9,3,2,10] (RJ 29) 35 (RF 36 267907071)=RJ L.ab.q0.r19:=bQ (subs:=[((RF 36 267911167),L.ab.q0.r11),((RF 36 536342527),L.ab.q0.r17),((RF 36 8857841663),L.ab.q0.r18)]) R1 (NP.2 ⟨E.ab.KA,NP.2 ⟨E.ab.Gi,NP.2 ⟨E.ab.Hj,λ_ h=>by cases h⟩⟩⟩)
theorem E.ab.Gw:regD RP 76 L.ab.q0.ops [22,5,6,1,0,8,5,7,4,9,3,2,10] (RJ 29) 34 (RF 36 9126014975)=RJ L.ab.q0.r20:=bQ (subs:=[((RF 36 9126019071),L.ab.q0.r12),((RF 36 9126277119),L.ab.q0.r16)]) R1 (NP.2 ⟨E.ab.G0,NP.2 ⟨E.ab.Er,λ_ h=>by cases h⟩⟩)
theorem E.ab.Kw:regD RP 76 L.ab.q0.ops [22,5,6,1,0,8,5,7,4,9,3,2,10] (RJ 29) 35 (RF 36 536080383)=RJ L.ab.q0.r21:=bQ (subs:=[((RF 36 536084479),L.ab.q0.r13),((RF 36 536342527),L.ab.q0.r17),((RF 36 9126014975),L.ab.q0.r20)]) R1 (NP.2 ⟨E.ab.Kv,NP.2 ⟨E.ab.Gi,NP.2 ⟨E.ab.Gw,λ_ h=>by cases h⟩⟩⟩)
theorem E.ab.KC:regD RP 76 L.ab.q0.ops [22,5,6,1,0,8,5,7,4,9,3,2,10] (RJ 29) 35 (RF 36 8857579519)=RJ L.ab.q0.r22:=bQ (subs:=[((RF 36 8857583615),L.ab.q0.r14),((RF 36 8857841663),L.ab.q0.r18),((RF 36 9126014975),L.ab.q0.r20)]) R1 (NP.2 ⟨E.ab.Kr,NP.2 ⟨E.ab.Hj,NP.2 ⟨E.ab.Gw,λ_ h=>by cases h⟩⟩⟩)
theorem E.ab.Md:regD RP 76 L.ab.q0.ops [22,5,6,1,0,8,5,7,4,9,3,2,10] (RJ 29) 36 (RF 36 267644927)=RJ L.ab.q0.r23:=bQ (subs:=[((RF 36 267649023),L.ab.q0.r15),((RF 36 267907071),L.ab.q0.r19),((RF 36 536080383),L.ab.q0.r21),((RF 36 8857579519),L.ab.q0.r22)]) R1 (NP.2 ⟨E.ab.MK,NP.2 ⟨E.ab.KB,NP.2 ⟨E.ab.Kw,NP.2 ⟨E.ab.KC,λ_ h=>by cases h⟩⟩⟩⟩)
theorem E.ab.G7:regD RP 76 L.ab.q0.ops [22,5,6,1,0,8,5,7,4,9,3,2,10] (RJ 29) 34 (RF 36 9126275071)=RJ L.ab.q0.r24:=bQ (subs:=[((RF 36 9126277119),L.ab.q0.r16)]) R1 (NP.2 ⟨E.ab.Er,λ_ h=>by cases h⟩)
theorem E.ab.J7:regD RP 76 L.ab.q0.ops [22,5,6,1,0,8,5,7,4,9,3,2,10] (RJ 29) 35 (RF 36 536340479)=RJ L.ab.q0.r25:=bQ (subs:=[((RF 36 536342527),L.ab.q0.r17),((RF 36 9126275071),L.ab.q0.r24)]) R1 (NP.2 ⟨E.ab.Gi,NP.2 ⟨E.ab.G7,λ_ h=>by cases h⟩⟩)
theorem E.ab.Kt:regD RP 76 L.ab.q0.ops [22,5,6,1,0,8,5,7,4,9,3,2,10] (RJ 29) 35 (RF 36 8857839615)=RJ L.ab.q0.r26:=bQ (subs:=[((RF 36 8857841663),L.ab.q0.r18),((RF 36 9126275071),L.ab.q0.r24)]) R1 (NP.2 ⟨E.ab.Hj,NP.2 ⟨E.ab.G7,λ_ h=>by cases h⟩⟩)
theorem E.ab.MM:regD RP 76 L.ab.q0.ops [22,5,6,1,0,8,5,7,4,9,3,2,10] (RJ 29) 36 (RF 36 267905023)=RJ L.ab.q0.r27:=bQ (subs:=[((RF 36 267907071),L.ab.q0.r19),((RF 36 536340479),L.ab.q0.r25),((RF 36 8857839615),L.ab.q0.r26)]) R1 (NP.2 ⟨E.ab.KB,NP.2 ⟨E.ab.J7,NP.2 ⟨E.ab.Kt,λ_ h=>by cases h⟩⟩⟩)
theorem E.ab.Kn:regD RP 76 L.ab.q0.ops [22,5,6,1,0,8,5,7,4,9,3,2,10] (RJ 29) 35 (RF 36 9126012927)=RJ L.ab.q0.r28:=bQ (subs:=[((RF 36 9126014975),L.ab.q0.r20),((RF 36 9126275071),L.ab.q0.r24)]) R1 (NP.2 ⟨E.ab.Gw,NP.2 ⟨E.ab.G7,λ_ h=>by cases h⟩⟩)
theorem E.ab.Ml:regD RP 76 L.ab.q0.ops [22,5,6,1,0,8,5,7,4,9,3,2,10] (RJ 29) 36 (RF 36 536078335)=RJ L.ab.q0.r29:=bQ (subs:=[((RF 36 536080383),L.ab.q0.r21),((RF 36 536340479),L.ab.q0.r25),((RF 36 9126012927),L.ab.q0.r28)]) R1 (NP.2 ⟨E.ab.Kw,NP.2 ⟨E.ab.J7,NP.2 ⟨E.ab.Kn,λ_ h=>by cases h⟩⟩⟩)
theorem E.ab.MC:regD RP 76 L.ab.q0.ops [22,5,6,1,0,8,5,7,4,9,3,2,10] (RJ 29) 36 (RF 36 8857577471)=RJ L.ab.q0.r30:=bQ (subs:=[((RF 36 8857579519),L.ab.q0.r22),((RF 36 8857839615),L.ab.q0.r26),((RF 36 9126012927),L.ab.q0.r28)]) R1 (NP.2 ⟨E.ab.KC,NP.2 ⟨E.ab.Kt,NP.2 ⟨E.ab.Kn,λ_ h=>by cases h⟩⟩⟩)
theorem E.ab.Mz:regD RP 76 L.ab.q0.ops [22,5,6,1,0,8,5,7,4,9,3,2,10] (RJ 29) 37 (Array.replicate 36 RO)=RJ L.ab.q0.r31:=bQ (subs:=[((RF 36 267644927),L.ab.q0.r23),((RF 36 267905023),L.ab.q0.r27),((RF 36 536078335),L.ab.q0.r29),((RF 36 8857577471),L.ab.q0.r30)]) R1 (NP.2 ⟨E.ab.Md,NP.2 ⟨E.ab.MM,NP.2 ⟨E.ab.Ml,NP.2 ⟨E.ab.MC,λ_ h=>by cases h⟩⟩⟩⟩)
def L.ab:LFn:=
⟨[(.un (.aZ 8) (.tmp 5)),(.tmp 6)],
 (.seq
 (.reg RO (.loud [] [] [] RK [] RO (.alloc 101) 0 (RJ 5) RN
  (.fin [6] [(6,(.con (.bool RO)))] [])))
 (.seq
 (.reg RN (.both
  (.loud [13,14,15,16,17] [] [(13,(.un (.aZ 13) (.tmp 0))),(17,(.un .load (.bin (.idx 1) (.un .load (.un (.fld 3) (.tmp 1))) (.con (RG RH 0)))))] RK [] RN (.call ⟨.value (.func 100),#[(.tmp 13),(.tmp 17),(.const (RG RH 2))],#[97,3,3]⟩) 163 (RJ 18) RN
   (.loud [12,19,20] [(19,(.un (.ext 0) (.tmp 18))),(20,(.un (.ext 1) (.tmp 18)))] [] RK [] RO (.alloc 70) 0 (RJ 7) RN
    (.loud [] [] [(7,(.tmp 7)),(19,(.tmp 19))] RK [] RO (.store 70 (.tmp 7) (.tmp 19)) 0 RK RO
     (.fin [8] [(8,(.tmp 20))] []))))
  (.loud [13,14,15,16,17] [(13,(.un (.aZ 13) (.tmp 0))),(17,(.un .load (.bin (.idx 1) (.un .load (.un (.fld 3) (.tmp 1))) (.con (RG RH 0)))))] [] RK [] RO (.alloc 70) 0 (RJ 7) RN
   (.loud [] [] [(13,(.tmp 13)),(17,(.tmp 17))] RK [] RN (.call ⟨.value (.func 100),#[(.tmp 13),(.tmp 17),(.const (RG RH 2))],#[97,3,3]⟩) 163 (RJ 18) RN
    (.loud [12,19,20] [(20,(.un (.ext 1) (.tmp 18)))] [(7,(.tmp 7)),(19,(.un (.ext 0) (.tmp 18)))] RK [] RO (.store 70 (.tmp 7) (.tmp 19)) 0 RK RO
     (.fin [8] [(8,(.tmp 20))] []))))))
 (.seq
 (.seq
 (.reg RO (.fin [21,22] [(22,(.un .not (.tmp 8)))] []))
 (.cond (.tmp 22) [22]
  (.seq
  (.reg RO (.loud [] [] [] RK [] RO (.build 101 #[]) 101 (RJ 23) RN
   (.loud [] [] [(5,(.tmp 5)),(23,(.tmp 23))] RK [] RO (.store 101 (.tmp 5) (.tmp 23)) 0 RK RO
    (.fin [6] [(6,(.con (.bool RO)))] []))))
  .ret)
  .skip))
 (.seq
 (.reg RN (.loud [25,26,27,28,29] [] [(25,(.un (.aZ 13) (.tmp 0))),(29,(.un .load (.bin (.idx 1) (.un .load (.un (.fld 3) (.tmp 7))) (.con (RG RH 1)))))] RK [] RN (.call ⟨.value (.func 109),#[(.tmp 25),(.tmp 29),(.const (RG RH (-2147483648))),(.const (RG RH 2147483647))],#[97,3,3,3]⟩) 167 (RJ 30) RN
  (.fin [24,31,32,9,8] [(9,(.un (.ext 0) (.tmp 30))),(8,(.un (.ext 1) (.tmp 30)))] [])))
 (.seq
 (.reg RN L.ab.q0.r31)
 (.seq
 (.reg RN (.loud [66,67,68,69,70,71,72,73] [(66,(.un (.aZ 8) (.tmp 10))),(68,(.tmp 8))] [(73,(.gd (.tmp 8) RN (.bin (.arith .add) (.tmp 9) (.un (.conv .i64) (.un .load (.un (.fld 4) (.tmp 1)))))))] (RJ ((.tmp 8),RN)) [] RO (.call ⟨.value (.func 42),#[(.tmp 73),(.const (RG RH 0)),(.const (RG RH 255))],#[3,3,3]⟩) 4 (RJ 74) RN
  (.loud [75] [(75,(.ite (.tmp 68) (.tmp 74) (.con (.bool RO))))] [(5,(.tmp 5)),(66,(.tmp 66))] RK [] RN (.store 101 (.tmp 5) (.tmp 66)) 0 RK RO
   (.fin [6] [(6,(.tmp 75))] []))))
 .ret))))))⟩
theorem E.ab:aL RP Tryz.f133=RJ L.ab:=I5 (lv:=[22,5,6,1,0,8,5,7,4,9,3,2,10]) (lr:=[5,6,1,0,8,5,7,4,9,3,2,10]) (n:=76) R1 R1 R1 R1 R1
 (kO R1 R1
 (kO R1 R1
 (kO R1 R1
 (kO R1 R1
 (kO R1 (AN (l0:=(RJ 29)) (n:=36) R1 R1 R1 E.ab.Mz)
 (kO R1 R1
 R1))))))
end
theorem wrap32_in{a:Int}(h0:-2147483648<=a)(h1:a<=2147483647):IntKind.i32.wrap a=a:=by unfold IntKind.wrap;simp[IntKind.signed,IntKind.bits];omega
section
variable {V:View} {h:Heap} {S I O P Q LL TT:Nat} {s:cn} {op plain sum:Int}
set_option maxHeartbeats 4000000 in
theorem IF(mx:Mx V S I O P Q LL TT s op plain sum)(hV:V.le (vw h))(hok:nz s)(hop:s.i.op=op)(ho:op=15\/op=16)(hp0:0<=plain/\plain<=100):
    az RP 133 #[ptr S,ptr I,ptr LL,ptr P,ptr TT] h (λu h'=>bW V h h' u (memS s.f s.i s.temp op plain sum 1)):=by
  refine ao (args:=[ptr S,ptr I,ptr LL,ptr P,ptr TT]) follows Tryz.func133 E.ab RB λK hK=>?_
  dsimp only[L.ab,lkF,lkG]
  have c0:=Cx.start hV
  have l1:1<=s.i.args.length:=by
    rcases ho with q | q
    · exact hok.one.one (hop.trans q)
    · have:=hok.one.two (.inr (.inl (hop.trans q)));omega
  have l2:op=15\/2<=s.i.args.length:=ho.imp id λq=>hok.one.two (.inr (.inl (hop.trans q)))
  refine aa λz hz=>?_
  simp
  refine c0.bU (k:=(0,0)) (n:=7) (z:=.agg fitZ.toArray) rfl R1 rfl R4 R8 λR hb hleb cb=>?_
  subst hz
  have i4:=(mx.ct.ins.part InsD.gx)
  have r4:=i4.mP
  have i4:an V ⟨I,4,RK⟩=RJ (RG RI s.i.imm.v):=by simpa using i4.i32
  obtain⟨va,i3,hva⟩:=(mx.ct.ins.part InsD.eX).sl
  have i3:an V ⟨I,3,RK⟩=RJ va:=by simpa using i3
  have a0:=hva.rng (i:=0) R3
  have most:=hok.one.most
  have q0:=hva.idx1 (k:=.i64) (i:=0) rfl R4 R3
  have d0:=hva.int (View.le_refl V) (i:=0) R3
  simp at q0
  obtain⟨us,hus,rus⟩:=mx.ct.site.ldN rfl (N:=13) rfl
  have hus:=hus V RD
  have hfm:=gL (f:=s.f) (v:=nth s.i.args 0) (op:=2)
  have hdo:memS s.f s.i s.temp op plain sum 1=if(aD s.f (nth s.i.args 0) 2).2 then
      if(dz s.f (nth (aD s.f (nth s.i.args 0) 2).1.args 1) (-2147483648) 2147483647).2&&inR ((dz s.f (nth (aD s.f (nth s.i.args 0) 2).1.args 1) (-2147483648) 2147483647).1+s.i.imm.v) 0 255 then
        RJ ⟨nth (aD s.f (nth s.i.args 0) 2).1.args 0::s.i.args.drop 1,[nth s.i.args 0,nth (aD s.f (nth s.i.args 0) 2).1.args 1],
          [fY s.i op plain ⟨plain,0,0,nth (aD s.f (nth s.i.args 0) 2).1.args 0,0,0,w32 ((dz s.f (nth (aD s.f (nth s.i.args 0) 2).1.args 1) (-2147483648) 2147483647).1+s.i.imm.v),[]⟩],cy⟩
      else RK
    else none:=rfl
  have hF:=@oH s us (nth s.i.args 0) 2
  generalize (aD s.f (nth s.i.args 0) 2).1=m at *
  generalize (aD s.f (nth s.i.args 0) 2).2=b at *
  refine aa λz hz=>?_
  have rest : ∀(W:View) (hx:Heap) (B2:Nat) (ρ:Env),V.le W->Cx V h W hx (Own.upd (λ_=>RK) (0,0) (bx T.bc R (RawN.mk (n:=7) fitZ)))->At W ⟨B2,0,RK⟩ m->
      Lft.look ρ 0=RJ (ptr S)->Lft.look ρ 1=RJ (ptr I)->Lft.look ρ 2=RJ (ptr LL)->Lft.look ρ 3=RJ (ptr P)->Lft.look ρ 4=RJ (ptr TT)->Lft.look ρ 5=RJ (ptr R)->Lft.look ρ 7=RJ (ptr B2)->Lft.look ρ 8=RJ (.bool b)->
      LC.wp RP z (cO [.un (.aZ 8) (.tmp 5),.tmp 6] K) ρ hx:=by
    intro W hx B2 ρ hVW c hat g0 g1 g2 g3 g4 g5 g7 g8
    rw[hz]
    refine aa λx hx'=>?_
    have none_ : ∀(hy:Heap) (o:Own) (l9:List Value),Cx V h W hy o->Rd W (.agg l9.toArray) nw->b=RO->K (.tuple #[.agg l9.toArray,.bool RO]) hy:=λhy o l9 c hr e=>
      hK _ _ (bW.of c hr (by rw[hdo,e];rfl) λy e2=>by rw[hdo,e]at e2;cases e2)
    cases b with
    | false=>
      simp[g0,g1,g2,g3,g4,g5,g7,af,ag,g8]
      refine ak (t:=T.bc) (z:=.agg fitZ.toArray) (places:=[(0,1),(1,1),(2,1),(3,5)]) (vs:=[]) (cs:=fitZ.toArray) R1 R1 Sa R1 ?_
      refine c.aK (k:=(0,0)) (n:=7) (l:=fitZ) RA fP rfl rfl R1 Sa Sa λh9 l9 hl9 c9=>?_
      have hall:=c9.all (k:=(0,0)) (n:=7) (l:=l9) (B:=R) (e:=T.bc) RA
      simp at hall
      simp[hall]
      exact none_ _ _ _ c9 (hl9▸fP) rfl
    | true=>
      obtain⟨m1,m2,-⟩:=hfm rfl
      have hma:=(hok.all _ m1).two R3
      obtain⟨vb,j3,hvb⟩:=(hat.part InsD.eX).sl
      have j3:an W ⟨B2,3,RK⟩=RJ vb:=by simpa using j3
      have b0:=hvb.rng (i:=0) R3
      have b1:=hvb.rng (i:=1) R3
      have q2:=hvb.idx1 (k:=.i64) (i:=0) rfl R4 R3
      have q3:=hvb.idx1 (k:=.i64) (i:=1) rfl R4 R3
      have d2:=hvb.int (View.le_refl W) (i:=0) R3
      have d3:=hvb.int (View.le_refl W) (i:=1) R3
      simp at q2 q3
      have i4:=ae hVW i4
      have i3:=ae hVW i3
      have d0:=ae hVW d0
      have hus:=dk (ρ:=λ_=>RK) (e:=.un (.aZ 13) (.con (RM (RJ ⟨S,0,RK⟩)))) hVW (v:=us) (by simpa using hus)
      have hus:Un.ev W (.aZ 13) (RM (RJ ⟨S,0,RK⟩))=RJ us:=by simpa using hus
      have rus:=rus.mono hVW
      have eL:=ae hVW mx.laid
      have eT:=ae hVW mx.with_
      have eP:=ae hVW mx.plain
      have mx:=mx.mono hVW
      simp[g0,g1,g2,g3,g4,g5,g7,af,ag,g8]
      rw[hx'];clear hx' x
      refine aa λx hx'=>?_
      refine aH W c.wle ?_
      simp[g0,g1,g2,g3,g4,g5,g7,af,ag,hus,j3,q3,d3]
      refine ah R1 (vH c.wle rus hok.sm b1) ?_
      rintro _ hc ⟨hle,rfl⟩
      have rk:-2147483648<=(dz s.f (nth m.args 1) (-2147483648) 2147483647).1/\(dz s.f (nth m.args 1) (-2147483648) 2147483647).1<=2147483647:=xY hok.rng
      generalize (dz s.f (nth m.args 1) (-2147483648) 2147483647).1=k at *
      generalize (dz s.f (nth m.args 1) (-2147483648) 2147483647).2=ok at *
      have cc:Cx V h W hc _:=⟨c.own.ext' hle,c.old,RE c.le0 hle,c.new⟩
      simp[g0,g1,g2,g3,g4,g5,g7,af,ag]
      rw[hx'];clear hx' x
      have ei:IntKind.i32.wrap k=k:=wrap32_in rk.1 rk.2
      have e2:IntKind.i64.wrap s.i.imm.v=s.i.imm.v:=bh R3 R3
      have e3:IntKind.i64.wrap (k+s.i.imm.v)=k+s.i.imm.v:=bh R3 R3
      have hm : ∀X,Rd X (.agg #[RG RH plain,RG RH 0,RG RH 0,RG RH (nth m.args 0),RG RH 0,RG RH 0,RG RI (IntKind.i32.wrap (k+s.i.imm.v)),RL RK 0 0]) (⟨plain,0,0,nth m.args 0,0,0,w32 (k+s.i.imm.v),[]⟩:aF):=λX=>dT (imm:=w32 (k+s.i.imm.v)) R9 (wZ _) aE
      have fin : ∀(W:View) (hx:Heap) (o:Own) (l9:List Value),Cx V h W hx o->Rd W (.agg l9.toArray) (⟨nth m.args 0::s.i.args.drop 1,[nth s.i.args 0,nth m.args 1],[fY s.i op plain ⟨plain,0,0,nth m.args 0,0,0,w32 (k+s.i.imm.v),[]⟩],cy⟩:FitD)->K (.tuple #[.agg l9.toArray,.bool (ok&&inR (k+s.i.imm.v) 0 255)]) hx:=λW hx o l9 c hr=>
        hK _ _ (bW.of c hr (by rw[hdo];cases ok&&inR (k+s.i.imm.v) 0 255<;>rfl) λy e=>by
          rw[hdo,if_pos rfl]at e
          split at e
          · cases e;rfl
          · cases e)
      clear none_ hK hdo hF hfm hus
      refine aa λx hx'=>?_
      have tl : ∀(h2:Heap) (W2:View) (o:Own) (R2:Nat) (l9:List Value) (ρ2:Env),W.le W2->Cx V h W2 h2 o->o (0,0)=bx T.bc R (RawN.mk (n:=7) fitZ)->o (0,1)=bx T.bc R2 (RawN.mk (n:=7) l9)->Rd W2 (.agg l9.toArray) (⟨nth m.args 0::s.i.args.drop 1,[nth s.i.args 0,nth m.args 1],[fY s.i op plain ⟨plain,0,0,nth m.args 0,0,0,w32 (k+s.i.imm.v),[]⟩],cy⟩:FitD)->
          Lft.look ρ2 1=RJ (ptr I)->Lft.look ρ2 5=RJ (ptr R)->Lft.look ρ2 8=RJ (.bool ok)->Lft.look ρ2 9=RJ (RG RH k)->Lft.look ρ2 10=RJ (ptr R2)->LC.wp RP x (cO [.un (.aZ 8) (.tmp 5),.tmp 6] K) ρ2 h2:=by
        intro h2 W2 o R2 l9 ρ2 hW2 c ho1 ho2 hr f1 f5 f8 f9 f10
        rw[hx']
        refine aa λv hv=>?_
        have hall:=c.all (k:=(0,1)) (n:=7) (l:=l9) (B:=R2) (e:=T.bc) ho2
        simp at hall
        refine aH (vw h2) RD ?_
        have last : ∀(b:Bool) (ρ3:Env),Lft.look ρ3 5=RJ (ptr R)->Lft.look ρ3 6=RJ (.bool (ok&&inR (k+s.i.imm.v) 0 255))->∀h3 l3,Cx V h W2 h3 (o.upd (0,0) (bx T.bc R (RawN.mk (n:=7) l3)))->Value.agg l9.toArray=Value.agg l3.toArray->LC.wp RP v (cO [.un (.aZ 8) (.tmp 5),.tmp 6] K) ρ3 h3:=λb ρ3 k5 k6 h3 l3 c3 el=>by
          rw[hv]
          have hall:=c3.all (k:=(0,0)) (n:=7) (l:=l3) (B:=R) (e:=T.bc) Own.aj
          simp at hall
          simp[k5,k6,hall]
          exact fin _ _ _ _ c3 (el▸hr)
        refine aw λy hy=>?_
        cases ok with
        | false=>
          simp[f1,f5,f8,f9,f10,af,ag,hall,ae (RE hW2 c.wle) i4,e2,e3]
          subst hy
          refine aw λy hy=>?_
          simp[f1,f5,f8,f9,f10,af,ag]
          refine c.aK (k:=(0,0)) (n:=7) (l:=fitZ) ho1 hr rfl rfl R1 Sa Sa λh4 l4 hl4 c4=>?_
          subst hy
          simp[f1,f5,f8,f9,f10,af,ag]
          exact last RO _ (by simp[f1,f5,f8,f9,f10,af,ag]) (by simp[f1,f5,f8,f9,f10,af,ag]) _ _ c4 hl4
        | true=>
          simp[f1,f5,f8,f9,f10,af,ag,hall,ae (RE hW2 c.wle) i4,e2,e3]
          refine ah R1 jQ ?_
          rintro _ h3 ⟨rfl,rfl⟩
          refine⟨View.le_refl _,?_⟩
          subst hy
          refine aw λy hy=>?_
          simp[f1,f5,f8,f9,f10,af,ag]
          refine c.aK (k:=(0,0)) (n:=7) (l:=fitZ) ho1 hr rfl rfl R1 Sa Sa λh4 l4 hl4 c4=>?_
          subst hy
          simp[f1,f5,f8,f9,f10,af,ag]
          exact last RO _ (by simp[f1,f5,f8,f9,f10,af,ag]) (by simp[f1,f5,f8,f9,f10,af,ag]) _ _ c4 hl4
      clear fin
      have c:=cc
      refine aH W c.wle ?_
      have hWV:W.le W:=View.le_refl _
      repeat' (first
        | refine eg ?_ ?_
        | (refine aw λy hy=>?_
           simp[g0,g1,g2,g3,g4,g5,g7,af,ag,i3,i4,j3,q0,q2,q3,d0,d2,d3,eL,eT,eP,ei]
           first
           | refine ak (t:=T.cU) (z:=.agg vG.toArray) (places:=[(0,1),(1,1),(2,1),(3,1),(4,1),(5,1),(6,1),(7,1)]) (vs:=[(0,RG RH plain),(3,RG RH (nth m.args 0)),(6,RG RI (IntKind.i32.wrap (k+s.i.imm.v)))]) (cs:=#[RG RH plain,RG RH 0,RG RH 0,RG RH (nth m.args 0),RG RH 0,RG RH 0,RG RI (IntKind.i32.wrap (k+s.i.imm.v)),RL RK 0 0]) R1 R1 Sa R1 ?_
           | (refine c.jK (k:=(0,2)) (n:=1) (l:=[nth m.args 0]) RA El.aQ ?_ ?_ rfl R4 λuA h hle c=>?_
              · simp;done
              · simp;omega)
           | (refine c.ez (α:=Int) (n:=2) (vs:=[RG RH (nth s.i.args 0),RG RH (nth m.args 1)]) (ds:=[nth s.i.args 0,nth m.args 1]) El.aQ ?_ ⟨bg.2 ⟨rfl,a0⟩,bg.2 ⟨rfl,b1⟩,trivial⟩ rfl R4 R4 λuB h W hW c huB hle=>?_
              · simp;done)
           | (refine bV (ops:=[.tmp 45]) (caps:=#[ptr O,ptr I,ptr P]) rfl R1 (wH mx RC c.wle (hm _) l2) ?_
              rintro um h ⟨hle,hum⟩
              have hW:=c.up (h':=h)
              have c:=c.ext hle)
           | (refine bV (ops:=[.tmp 52]) (caps:=#[ptr I]) rfl R1 (wN mx RC c.wle (c.own.get (k:=(0,2)) (v:=uA) (l:=[nth m.args 0]) RA) Sa l1 R3) ?_
              rintro uw h ⟨own2,mv⟩
              have c:=c.iH (k:=(0,2)) (v:=uA) (l:=[nth m.args 0]) RA own2 mv
              obtain⟨W,hW,c,huA⟩:=c.freeze (k:=(0,2)) (v:=uw) (l:=[nth m.args 0]++s.i.args.drop 1) RA)
           | refine c.bU (k:=(0,1)) (n:=7) (z:=.agg fitZ.toArray) RA R1 rfl R4 R8 λR2 h hle c=>?_
           | (refine ah R1 (lg c.wle (hum.mono RC) (huA.mono RC) (huB.mono RC)) ?_
              rintro _ h ⟨hle,vf,rfl,hvf⟩
              have hW:=c.up (h':=h)
              have c:=c.ext hle)
           | refine c.aK (k:=(0,1)) (n:=7) (l:=fitZ) RA (hvf.mono RC) rfl rfl R1 Sa Sa λh l9 hl9 c=>?_
           try refine⟨RE RC c.wle,?_⟩
           subst hy))
      all_goals
        simp[g0,g1,g2,g3,g4,g5,g7,af,ag,L.ab.q0.r0]
        exact tl _ _ _ _ _ _ RC c RA RA (hl9▸hvf.mono RC) (by simp[g0,g1,g2,g3,g4,g5,g7,af,ag]) (by simp[g0,g1,g2,g3,g4,g5,g7,af,ag]) (by simp[g0,g1,g2,g3,g4,g5,g7,af,ag]) (by simp[g0,g1,g2,g3,g4,g5,g7,af,ag]) (by simp[g0,g1,g2,g3,g4,g5,g7,af,ag])
  refine aH V cb.wle ?_
  have c:=cb
  refine eg ?_ ?_
  · refine aw λy hy=>?_
    simp[hus,i3,q0,d0]
    refine ah R1 (hF c.wle rus hok.sm a0) ?_
    rintro _ h1 ⟨hle1,vm,rfl,hvm⟩
    have hW1:=c.up (h':=h1)
    have c:=c.ext hle1
    subst hy
    refine aw λy hy=>?_
    simp
    refine c.cZ (k:=(0,4)) (z:=.agg insZ.toArray) (d:=eV) RA R1 iN R4 λB2 h2 hle2 c=>?_
    subst hy
    refine aw λy hy=>?_
    simp
    refine c.cI Part.all (k:=(0,4)) (D:=eV) (d:=m) RA R1 Sa Sa hvm λh3 c=>?_
    subst hy
    simp
    obtain⟨W4,hW4,c,hat⟩:=c.pj (k:=(0,4)) (B:=B2) (d:=m) RA
    rw[Own.eC,Own.tV RA]at c
    exact rest _ _ _ _ (RE hW1 hW4) c hat rfl rfl rfl rfl rfl rfl rfl rfl
  · refine aw λy hy=>?_
    simp[hus,i3,q0,d0]
    refine c.cZ (k:=(0,4)) (z:=.agg insZ.toArray) (d:=eV) RA R1 iN R4 λB2 h2 hle2 c=>?_
    refine⟨c.wle,?_⟩
    subst hy
    refine aw λy hy=>?_
    simp
    refine ah R1 (hF c.wle rus hok.sm a0) ?_
    rintro _ h1 ⟨hle1,vm,rfl,hvm⟩
    have hW1:=c.up (h':=h1)
    have c:=c.ext hle1
    subst hy
    refine aw λy hy=>?_
    simp
    refine c.cI Part.all (k:=(0,4)) (D:=eV) (d:=m) RA R1 Sa Sa hvm λh3 c=>?_
    subst hy
    simp
    obtain⟨W4,hW4,c,hat⟩:=c.pj (k:=(0,4)) (B:=B2) (d:=m) RA
    rw[Own.eC,Own.tV RA]at c
    exact rest _ _ _ _ (RE hW1 hW4) c hat rfl rfl rfl rfl rfl rfl rfl rfl
end
theorem LG:lY:=λV h s S I O P Q L T op plain sum mx hV hok hop ho hne hp hs ht=>⟨IG mx hV hok hop ho hp,IF mx hV hok hop ho hp,Jc mx hV hok hop ho hs,Je mx hV hok hop ho hs ht⟩
abbrev Wh:=Int->Option (Int × Int)
def EC (can:Int->Int->Bool):Option (Int × Int)->Bool
 | none=>RN
 | some w=>can w.1 w.2
def wM (can:Int->Int->Bool) (wh:Wh) (l:List Int):Bool:=l.all λv=>EC can (wh v)
def HT (can:Int->Int->Bool) (wh:Wh):Option FitD->Bool
 | none=>RO
 | some x=>wM can wh x.takes
def canP (f:aq) (has:Int->Bool) (wh:Wh) (can:Int->Int->Bool) (b i pat:Int):Bool:=has pat&&HT can wh (tryS (eK f b i 0) pat)
def canS (f:aq) (has:Int->Bool) (wh:Wh):Nat->Int->Int->Bool
 | 0,_,_=>RO
 | n+1,b,i=>(List.range 38).any λk=>canP f has wh (canS f has wh n) b i (k:Int)
theorem CY{f:aq}{t:cB}{pat:Int}(h:¬(0<=pat/\pat<38)):eh f t pat=none:=by unfold eh;rw[if_neg R3,if_neg R3,if_neg R3,if_neg R3,if_neg R3,if_neg R3]
theorem EY{s:cn}{pat:Int}(h:¬(0<=pat/\pat<38)):tryS s pat=none:=by
 unfold tryS;split
 ·exact CY h
 unfold patS;rw[if_neg R3]
theorem BU{f:aq}{has:Int->Bool}{wh:Wh}{n:Nat}{b i:Int}:canS f has wh (n+1) b i=RN↔∃pat,canP f has wh (canS f has wh n) b i pat=true:=by
 unfold canS;rw[O0];constructor
 ·rintro⟨k,_,hk⟩;exact⟨_,hk⟩
 rintro⟨pat,hp⟩;by_cases h:0<=pat/\pat<38
 ·refine⟨pat.toNat,PC.2 R3,?_⟩;rw[N9 h.1];exact hp
 unfold canP at hp;rw[EY h]at hp;simp[HT]at hp
def twoV (w:Int × Int):Value:=.agg #[RG RH w.1,RG RH w.2]
structure Cv (W:View) (F H Q C r1 r2:Nat) (f:aq) (has:Int->Bool) (wh:Wh):Prop where
 fc:At W ⟨F,0,RK⟩ f
 hasR : ∀p,has p=RN->I64 p
 hasC:an W ⟨H,0,RK⟩=RJ (.map (RJ r1))
 hasM : ∀h,W.le (vw h)->dW (.int .i64) h r1 (mapB has)
 whC:an W ⟨Q,0,RK⟩=RJ (.map (RJ r2))
 whR : ∀v w,wh v=RJ w->I64 w.1/\I64 w.2
 whM : ∀h,W.le (vw h)->dW (.int .i64) h r2 (mapE twoV wh)
 can:an W ⟨C,0,RK⟩=RJ (.func (.func 43) #[] #[ptr F,ptr H,ptr Q,ptr C])
theorem Cv.mono {W W':View} {F H Q C r1 r2:Nat} {f:aq} {has:Int->Bool} {wh:Wh} (c:Cv W F H Q C r1 r2 f has wh) (h:W.le W'):Cv W' F H Q C r1 r2 f has wh:=
 ⟨c.fc.mono h,c.hasR,ae h c.hasC,λg hg=>c.hasM g (RE h hg),ae h c.whC,c.whR,λg hg=>c.whM g (RE h hg),ae h c.can⟩
def Down (f:aq) (wh:Wh):Prop:=∀b i pat x v w,dy f b i=RN->tryS (eK f b i 0) pat=RJ x->v∈x.takes->wh v=RJ w->dy f w.1 w.2=RN/\w.2<i
theorem Ft{s:Int->Bool}{u v:Value}(hk:MapKept.IsKey (.int .i64) u)(h:mapB s u=RJ v): ∃p:Int,u = RG RH p/\s p=RN/\v = .bool true:=by
 cases u<;>simp[MapKept.IsKey]at hk;rename_i k p;subst hk;rw[CB]at h;split at h
 ·rename_i hs;cases h;exact⟨p,rfl,hs,rfl⟩
 cases h
theorem xp{h h':Heap}{b r:Nat}{left:List (Value × Value)}(m:It h b r left)(hle:(vw h).le (vw h')):It h' b r left:=by
 have l:=m.lt;have e : ∀k,k<h.size->h'[k]? = h[k]?:=λk hk=>by have:=hle k h[k] (N6 hk);rw[N6 hk];exact this
 exact m.same (e _ l.1) (e _ l.2.1)
theorem Gg {f:aq} {has:Int->Bool} {wh:Wh} (m:nD f) (hsm:SmF f) (hM : ∀i∈dM f,i.op=15\/i.op=16->lY) (hd:Down f wh) : ∀(n:Nat) {b i:Int} {Fb H Q C r1 r2:Nat} {W:View} {h:Heap},Cv W Fb H Q C r1 r2 f has wh->W.le (vw h)->dy f b i=RN->i<n->
  az RP 43 #[RG RH b,RG RH i,ptr Fb,ptr H,ptr Q,ptr C] h (λu h'=>(vw h).le (vw h')/\u = .bool (canS f has wh n b i))
 | 0,b,i,Fb,H,Q,C,r1,r2,W,h,cv,hW,hpl,hi=>by simp[dy]at hpl;omega
 | n+1,b,i,Fb,H,Q,C,r1,r2,W,h,cv,hW,hpl,hi=>by
  have ih:=@Gg f has wh m hsm hM hd n;refine ao (args:=[RG RH b,RG RH i,ptr Fb,ptr H,ptr Q,ptr C]) follows Tryz.func43 E.cH RB λK hK=>?_;dsimp only[L.cH,lkF,lkG];have c0:=Cx.start hW;refine aa λz hz=>?_;simp;subst hz;refine aa λz hz=>?_;obtain⟨uf,huf,ruf⟩:=cv.fc.ldN rfl (N:=2) rfl;have hr:=wL ruf;simp[huf _ hW];refine ah R1 (Iu (b:=b) (p:=i) hW ruf (by constructor<;>decide)) ?_;rintro _ h1 ⟨hle1,vs,rfl,hvs⟩;have c1:=c0.ext hle1;have hW1:=c0.up (h':=h1);have hpS:od f b i 0=eK f b i 0:=by unfold od;rw[hpl,if_pos rfl]
  rw[hpS]at hvs;simp;refine c1.dA (α:=cn) hvs (n:=13) (z:=.agg pS.toArray) R1 rfl rfl R1 R5 R5 λB h2 W2 hW2 c2 at2 hle2=>?_;have cv2:=cv.mono (RE hW1 hW2);subst hz;refine aa λz hz=>?_;refine aa λy hy=>?_;simp[ae c2.wle cv2.hasC];refine Bc U.jO rfl (cv2.hasM h2 c2.wle) λh3 left hle3 hs3 it3 nd3 key3 mem3=>?_;have hall : ∀u v,(u,v)∈left->∃p:Int,u = RG RH p/\has p=true:=λu v hu=>by obtain⟨p,e1,e2,-⟩:=Ft (key3 u v hu) ((mem3 u v (key3 u v hu)).1 hu);exact⟨p,e1,e2⟩
  have hrest : ∀p:Int,has p=RN->(∃v,(RG RH p,v)∈left):=λp hp=>⟨.bool RN,(mem3 _ _ fH).2 (by rw[CB,hp,if_pos rfl])⟩;have hr3:W2 h2.size=none:=View.cM c2.wle (NO _);have hs0:h.size<=h2.size:=cw c2.le0;have c3:Cx W h W2 h3 λ_=>none:=⟨Owns.start (RE c2.wle hle3),c2.old,RE c2.le0 hle3,λ_ _ _ e=>by cases e⟩;obtain⟨r,hr0⟩ : ∃r,r=h2.size:=⟨_,rfl⟩;rw[<-hr0]at it3 hr3 hs0 ⊢;subst hy;simp only[aU];refine gY [0,1,2,3,4,5,9,26] (λmm ρ hx=>∃(left:List (Value × Value)) (Wx:View),mm=left.length/\ρ=[(0,RG RH b),(1,RG RH i),(2,ptr Fb),(3,ptr H),(4,ptr Q),(5,ptr C),(9,ptr B),(26,ptr r)]/\W2.le Wx/\Cx W h Wx hx (λ_=>RK)/\Wx r=RK/\It hx r1 r left/\
   (∀u v,(u,v)∈left->∃p:Int,u = RG RH p/\has p=RN)/\(∀p:Int,has p=RN->(∃v,(RG RH p,v)∈left)\/canP f has wh (canS f has wh n) b i p=RO)) left.length
   ⟨left,W2,rfl,rfl,View.le_refl _,c3,hr3,it3,hall,λp hp=>.inl (hrest p hp)⟩ ?_;clear hall hrest it3 nd3 key3 mem3 c3;rintro mm ρ hx ⟨left,Wx,rfl,rfl,lx,cx,hrx,itx,hall,hrest⟩ K2 hK2;refine aa λy hy=>?_;simp;refine Dz rfl itx ?_ ?_
  ·rintro rfl;have hno:canS f has wh (n+1) b i=false:=by
    cases e:canS f has wh (n+1) b i with
    | false=>rfl
    | true=>
     obtain⟨p,hp⟩:=BU.1 e;have hh:has p=true:=by unfold canP at hp;simp at hp;exact hp.1
     rcases hrest p hh with⟨v,hv⟩ | hv
     ·cases hv
     rw[hp]at hv;cases hv
   simp;subst hy;simp;subst hz;simp;exact hK _ _ ⟨cx.le0,by rw[hno]⟩
  intro a p q h4 el hs4 ho4 it4;obtain⟨pat,e1,e2⟩:=hall p.1 p.2 (by rw[el];simp);have hpe:p=(RG RH pat,p.2):=by rw[<-e1]
  have le4 : ∀X:View,X.le (vw hx)->X r=RK->X.le (vw h4):=λX hX hn b o hb=>by show h4[b]? = RJ o;rw[ho4 b (by rintro rfl;rw[hn]at hb;cases hb)];exact hX b o hb
  have le04:(vw h).le (vw h4):=λb o hb=>by have hlt:=View.lt (View.le_refl (vw h)) hb;show h4[b]? = RJ o;rw[ho4 b R3];exact cx.le0 b o hb
  have hW4:=le4 Wx cx.wle hrx;have c4:Cx W h Wx h4 λ_=>none:=⟨Owns.start hW4,cx.old,le04,λ_ _ _ e=>by cases e⟩;have hrest4 : ∀p:Int,p≠pat->has p=RN->(∃v,(RG RH p,v)∈a++q)\/canP f has wh (canS f has wh n) b i p=false:=λp' hne hp'=>by
   rcases hrest p' hp' with⟨v,hv⟩ | hv
   ·rw[el,NU,N5]at hv;rcases hv with hv | hv | hv
    ·exact .inl ⟨v,NU.2 (.inl hv)⟩
    ·rw[hpe]at hv;simp at hv;exact absurd hv.1 hne
    exact .inl ⟨v,NU.2 (.inr hv)⟩
   exact .inr hv
  have hall4 : ∀u v,(u,v)∈a++q->∃p:Int,u = RG RH p/\has p=true:=λu v hu=>hall u v (by rw[el,NU,N5];rcases NU.1 hu with hu | hu<;>simp[hu]);have hlen:(a++q).length<left.length:=by rw[el];simp
  have at4:=at2.mono lx;have cv4:=cv2.mono lx;clear hrest hall itx cx;simp;subst hy;refine aa λy hy=>?_;refine aN Sa ?_;simp;subst hy;simp only[aU];refine aa λy hy=>?_;simp;refine H3 rfl it4 ?_;simp[e1];subst hy;refine aa λy hy=>?_;obtain⟨us,hus,rus⟩:=at4.ldN rfl (N:=13) rfl;simp[hus _ c4.wle];refine ah R1 (zR c4.wle rus m hsm hr hM hpl (cv.hasR _ e2)) ?_;rintro _ h5 ⟨hle5,vf,x,rfl,hvf,hxx⟩;have c5:=c4.ext hle5;have hW5:=c4.up (h':=h5);have it5:=xp it4.it hle5;simp;refine dt (X:=grow Wx h4 h5) (α:=FitD) (z:=.agg fitZ.toArray) R1 rfl R1 hvf R5 R5 λh6 hle6 hs6 hat6=>?_;have c6:=c5.ext hle6;have hW6:=c5.up (h':=h6);have at6:=hat6 _ hW6 (ck (NO _));have hr6:grow (grow Wx h4 h5) h5 h6 r=none:=by rw[jo (xp it4.it hle5).lt.2.1,jo it4.it.lt.2.1];exact hrx
  generalize grow (grow Wx h4 h5) h5 h6=W6 at *;generalize h5.size=B3 at *;have it6:=xp it5 hle6;subst hy;refine aa λy hy=>?_;have pt:=(at6.part FitD.As).sl;obtain⟨vt,k1,s1⟩:=pt;have k1:an W6 ⟨B3,0,RK⟩=RJ vt:=by simpa using k1
  refine aa λw hw=>?_;simp[ae c6.wle k1,s1.len];subst hw;simp only[aU];have bt:=s1.bound;obtain⟨okS,hok⟩ : ∃okS:Nat->Bool,okS=λj=>(tryS (eK f b i 0) pat).isSome&&wM (canS f has wh n) wh (x.takes.take j):=⟨_,rfl⟩;have ok0:(tryS (eK f b i 0) pat).isSome=okS 0:=by rw[hok];simp[wM]
  have okJ : ∀j,j<x.takes.length->okS (j+1)=(okS j&&EC (canS f has wh n) (wh (nth x.takes j))):=λj hj=>by rw[hok];simp only[wM];rw[NT hj,List.all_append,aA hj];simp[Rx]
  have okE:okS x.takes.length=canP f has wh (canS f has wh n) b i pat:=by
   rw[hok];simp only[OK];unfold canP;rw[e2];cases hq:tryS (eK f b i 0) pat with
   | none=>rfl
   | some y=>rw[hxx y hq];rfl
  have okV : ∀j,j<x.takes.length->okS j=RN->∀w,wh (nth x.takes j)=RJ w->dy f w.1 w.2=RN/\w.2<i:=λj hj ho w hw=>by rw[hok]at ho;simp only[NS]at ho;obtain⟨y,hy⟩:=PB.1 ho.1;have:=hxx y hy;subst this;exact hd b i pat x _ w hpl hy (bz hj) hw
  rw[ok0];clear hok ok0;refine aV [0,1,2,3,4,5,9,11,12,13,26,38,39,40] (fun(_:Unit) j=>[RG RH b,RG RH i,ptr Fb,ptr H,ptr Q,ptr C,ptr B,RG RH pat,ptr B3,.bool (okS j),ptr r,vt,RG RH x.takes.length,RG RH j])
   (λ_ j h7=>∃W7,W6.le W7/\Cx W h W7 h7 (λ_=>RK)/\W7 r=RK/\It h7 r1 r (a++q)) x.takes.length ()
   rfl R3 rfl ⟨W6,View.le_refl _,c6,hr6,it6⟩ (λ_ _=>rfl) (λv i h1 hk m=>by simp) ?_ ?_
  ·rintro _ j h7 hj ⟨W7,lW7,c7,hr7,it7⟩ K3 hK3;have s7:=s1.mono (RE lW7 c7.wle);have cv7:=(cv4.mono hW5).mono (RE hW6 lW7);have okj:=okJ j hj;have okv:=okV j hj;refine aa λw hw=>?_;simp(disch:=omega)[s7.idx1 rfl,s7.int RD];subst hw;generalize nth x.takes j=vv at *;refine aa λw hw=>?_;simp[ae c7.wle cv7.whC];refine nJ (f:=mapE twoV wh) (z:=.agg #[RG RH 0,RG RH 0]) (k:=T.int) (e:=T.iy) (d:=.int .i64) (r:=r2) (u:=RG RH vv) U.gP U.int R1 rfl rfl fH (cv7.whM h7 c7.wle) ?_;have wr:Rd W7 (((wh vv).map twoV).getD (.agg #[RG RH 0,RG RH 0])) ((wh vv).getD (0,0)):=by
    cases hv:wh vv with
    | none=>exact rI.2 ⟨rfl,by decide,by decide⟩
    | some w=>exact rI.2 ⟨rfl,(cv7.whR vv w hv).1,(cv7.whR vv w hv).2⟩
   simp;refine dt (X:=W7) (α:=Int × Int) (z:=.agg #[RG RH 0,RG RH 0]) R1 rfl R1 wr R5 R5 λh8 hle8 hs8 hat8=>?_;have c8:=c7.ext hle8;have hW8:=c7.up (h':=h8);have at8:=hat8 _ hW8 (ck (NO _));have it8:=xp it7 hle8;have hr8:grow W7 h7 h8 r=none:=by rw[jo it7.lt.2.1];exact hr7
   generalize grow W7 h7 h8=W8 at *;generalize h7.size=B4 at *;subst hw;refine aa λw hw=>?_;cases ho:okS j with
   | false=>rw[ho]at okj;simp;subst hw;simp;exact hK3 () _ _ rfl (by simp[bF,okj]) ⟨W8,RE lW7 hW8,c8,hr8,it8⟩
   | true=>
    rw[ho]at okj;cases hv:wh vv with
    | none=>rw[hv]at okj;simp;subst hw;simp;exact hK3 () _ _ rfl (by simp[bF,okj,EC]) ⟨W8,RE lW7 hW8,c8,hr8,it8⟩
    | some ww=>
     rw[hv]at okj at8;obtain⟨g1,g2⟩:=okv ho ww hv;have at8:At W8 ⟨B4,0,RK⟩ ww:=at8;obtain⟨cs,q1,q2,-⟩:=at8;have x0:an W8 ⟨B4,0,RK⟩=RJ (RG RH ww.1):=by have:=gq q1 (i:=0) (v:=RG RH ww.1) (by rw[q2];rfl);simpa using this
     have x1:an W8 ⟨B4,1,RK⟩=RJ (RG RH ww.2):=by have:=gq q1 (i:=1) (v:=RG RH ww.2) (by rw[q2];rfl);simpa using this
     have cv8:=cv7.mono hW8;simp;subst hw;have y0:Bn.ev (.aidx 2 1) (RM (RJ ⟨B4,0,RK⟩)) (RG RH 0)=RJ (RM (RJ ⟨B4,0,RK⟩)):=rfl;have y1:Bn.ev (.aidx 2 1) (RM (RJ ⟨B4,0,RK⟩)) (RG RH 1)=RJ (RM (RJ ⟨B4,1,RK⟩)):=rfl;simp[ae c8.wle cv8.can,ae c8.wle x0,ae c8.wle x1,y0,y1];refine bV (ops:=[.tmp 56,.tmp 58]) (caps:=#[ptr Fb,ptr H,ptr Q,ptr C]) rfl R1 (ih (b:=ww.1) (i:=ww.2) cv8 c8.wle g1 R3) ?_;rintro _ h9 ⟨hle9,rfl⟩;have c9:=c8.ext hle9;have hW9:=c8.up (h':=h9);refine hK3 () _ _ rfl (by simp[bF,okj,EC]) ⟨_,RE lW7 (RE hW8 hW9),c9,?_,xp it8 hle9⟩;rw[jo it8.lt.2.1];exact hr8
  rintro _ h7 ⟨W7,lW7,c7,hr7,it7⟩;rw[okE];simp;subst hy;cases hcp:canP f has wh (canS f has wh n) b i pat with
  | true=>have hyes:canS f has wh (n+1) b i=true:=BU.2 ⟨pat,hcp⟩;simp;exact hK _ _ ⟨c7.le0,by rw[hyes]⟩
  | false=>
   simp;refine hK2 (a++q).length _ _ hlen ⟨a++q,W7,rfl,rfl,RE lx (RE hW5 (RE hW6 lW7)),c7,hr7,it7,hall4,λp' hp'=>?_⟩;by_cases hne:p'=pat
   ·exact .inr (hne▸hcp)
   exact hrest4 p' hne hp'
end Go.Proofs.YtnfiilgdjpdlkaaGreatDoor
namespace Go.Lft
open Go
theorem Db {po:OP} {P:Program} {ty t e rt:TypeId} {us:List (Nat × Value)} {h:Heap} {K:Value->Heap->Prop} {a b c d:Int} {ki:IntKind} {x y:Operand} (hu:P.underlying t=RJ (.array 2 e)) (he:P.underlying e=RJ (.int ki)) (hs:df P e=RJ 1) (ha:oq P e=RJ RO) (hgd:P.eqGuardType P.depth t=RO)
  (hx:asg us x = .agg #[.int ki a,.int ki b]) (hy:asg us y = .agg #[.int ki c,.int ki d]) (hk:K (.bool (a == c&&b == d)) h):@step po P (.binOp .eql t x y rt) ty us h K:=by refine du (cK λw hw=>⟨_,w,?_,Same.refl _,by rw[hw];exact hk⟩);simp only[bT,execOp,hx,hy];simp[eqGuard,binOp,AU hu he hs ha,program,Sem.run,hgd]
end Go.Lft
namespace Go.Proofs.YtnfiilgdjpdlkaaGreatDoor
open Go Go.Lft
structure Mq (V:View) (h0:Heap) (W:View) (h:Heap) (r:Nat) (g:Value->Option Value):Prop where
 c:Cx V h0 W h λ_=>RK
 av:W r=RK
 lo:h0.size<=r
 m:dW (.int .i64) h r g
section
variable {po po2:OP} {V W:View} {h0 h h':Heap} {r:Nat} {g g':Value->Option Value}
theorem Mq.ext (k:Mq V h0 W h r g) (hle:(vw h).le (vw h')):Mq V h0 (grow W h h') h' r g:=⟨k.c.ext hle,by rw[jo k.m.lt];exact k.av,k.lo,k.m.ext hle⟩
theorem Mq.up (k:Mq V h0 W h r g):W.le (grow W h h'):=k.c.up
theorem Mq.wle (k:Mq V h0 W h r g):W.le (vw h):=k.c.wle
theorem Mq.upd (k:Mq V h0 W h r g) (ho : ∀b,b≠r->h'[b]? = h[b]?) (hm:dW (.int .i64) h' r g'):Mq V h0 W h' r g':=
 ⟨⟨Owns.start λb o hb=>by
   show h'[b]? = RJ o;rw[ho b (by rintro rfl;rw[k.av]at hb;cases hb)];exact k.wle b o hb,k.c.old,λb o hb=>by
   have hlt:=View.lt (View.le_refl (vw h0)) hb;have:=k.lo;show h'[b]? = RJ o;rw[ho b R3];exact k.c.le0 b o hb,λ_ _ _ e=>by cases e⟩,k.av,k.lo,hm⟩
theorem Mq.dA {α:Type} [Rep α] {P:Program} {ty:TypeId} {us:List (Nat × Value)} {t ty2:TypeId} {n:Nat} {z:Value} {x y:Operand} {us2:Value->List (Nat × Value)} {v:Value} {d:α} {K:Value->Heap->Prop} (k:Mq V h0 W h r g) (hv:Rd W v d) (hz:(P.info? t).map (·.zero)=RJ (RJ z)) (hN:Rep.n α=n) (hzc:z.cells.size=n) (hsz:df P t=RJ n)
  (hx : ∀p,asg (us2 p) x=p) (hy : ∀p,asg (us2 p) y=v) (hk : ∀B h' W',W.le W'->Mq V h0 W' h' r g->At W' ⟨B,0,RK⟩ d->(vw h).le (vw h')->K (RM (RJ ⟨B,0,RK⟩)) h') :
  @Lft.step po P (.alloc t) ty us h λp h2=>@Lft.step po2 P (.store t x y) ty2 (us2 p) h2 λ_ h3=>K p h3:=by subst hN;refine dt (X:=W) hz hzc hsz hv hx hy λh1 hle hs hat=>?_;exact hk _ _ _ k.up (k.ext hle) (hat _ k.up (ck (NO _))) hle
theorem Mq.freeze (k:Mq V h0 W h r g) : ∃W',W.le W'/\Cx V h0 W' h (λ_=>RK)/\(∀g2:Heap,W'.le (vw g2)->dW (.int .i64) g2 r g):=by
 obtain⟨es,cl,e1,e2⟩:=k.m.ex;have hle:W.le (W.set r (.map es cl)):=λb o hb=>by unfold View.set;rw[if_neg (by rintro rfl;rw[k.av]at hb;cases hb)];exact hb
 have hw:(W.set r (.map es cl)).le (vw h):=λb o hb=>by
  unfold View.set at hb;split at hb
  ·rename_i e;subst e;cases hb;exact e1
  exact k.wle b o hb
 refine⟨_,hle,⟨Owns.start hw,λb o hb hx=>?_,k.c.le0,λ_ _ _ e=>by cases e⟩,λg2 hg2=>⟨es,cl,hg2 r _ (by unfold View.set;rw[if_pos rfl]),e2⟩⟩;unfold View.set at hx;have:=k.lo;rw[if_neg R3]at hx;exact k.c.old b o hb hx
end
def hasS (l:List fk):Int->Bool:=λp=>decide (p=0)||l.any λt=>decide (t.pat=p)
def lU (f:aq) (b k:Nat) (wh:Wh):Wh:=
 if(!decide ((nth (nth f.blocks b).ins k).op=16)&&!decide ((nth (nth f.blocks b).ins k).op=18))&&dK f (nth (nth f.blocks b).ins k).dst then putM wh (nth (nth f.blocks b).ins k).dst ((b:Int),(k:Int)) else wh
def whTo (f:aq) (n:Nat):Wh:=Lft.up (λb wh=>Lft.up (lU f b) (nth f.blocks b).ins.length wh) n (λ_=>RK)
def whS (f:aq):Wh:=whTo f f.blocks.length
theorem zk {f:aq} {n:Nat}:whTo f (n+1)=Lft.up (lU f n) (nth f.blocks n).ins.length (whTo f n):=rfl
theorem tg : ∀{l:List fk} {n:Nat},(mB n l).1=0->∀t∈l,eS t=0
 | [],_,_,t,ht=>by cases ht
 | a::l,n,h,t,ht=>by
  unfold mB at h;split at h
  ·rename_i e;rcases N5.1 ht with rfl | ht
   ·exact e
   exact tg h t ht
  rename_i e;exact absurd h e
theorem E6 {l:List fk} (h:(ku l).1=0) {t:fk} (ht:t∈l):inR t.pat 1 37=true:=by
 unfold ku at h;split at h
 ·cases h
 have:=tg h t ht;unfold eS at this;cases e:inR t.pat 1 37 with
 | true=>rfl
 | false=>rw[if_pos e]at this;cases this
theorem JU {l:List fk} (h:(ku l).1=0) {p:Int} (hp:hasS l p=RN):I64 p:=by
 unfold hasS at hp;simp at hp;rcases hp with rfl | ⟨t,ht,rfl⟩
 ·constructor<;>decide
 have:=E6 h ht;simp[inR]at this;constructor<;>omega
def WhAt (f:aq) (v:Int) (w:Int × Int):Prop:=∃b k:Nat,b<f.blocks.length/\k<(nth f.blocks b).ins.length/\w=((b:Int),(k:Int))/\(nth (nth f.blocks b).ins k).dst=v/\(nth (nth f.blocks b).ins k).op≠16/\(nth (nth f.blocks b).ins k).op≠18/\dK f v=RN
theorem FX {f:aq} {b k:Nat} {g:Wh} (hb:b<f.blocks.length) (hk:k<(nth f.blocks b).ins.length) (hg : ∀v w,g v=RJ w->WhAt f v w) : ∀v w,lU f b k g v=RJ w->WhAt f v w:=by
 intro v w h;unfold lU at h;split at h
 ·rename_i c;simp at c;unfold putM at h;split at h
  ·rename_i e;cases h;exact⟨b,k,hb,hk,rfl,e.symm,c.1.1,c.1.2,e▸c.2⟩
  exact hg v w h
 exact hg v w h
theorem EE {f:aq} : ∀{n:Nat},n<=f.blocks.length->∀v w,whTo f n v=RJ w->WhAt f v w
 | 0,_,v,w,h=>by cases h
 | n+1,hn,v,w,h=>by
  rw[zk]at h;have key : ∀k,k<=(nth f.blocks n).ins.length->∀v w,Lft.up (lU f n) k (whTo f n) v=RJ w->WhAt f v w:=by
   intro k;induction k with
   | zero=>exact λ_ v w h=>EE R3 v w h
   | succ k ih=>exact λhk=>FX R3 R3 (ih R3)
  exact key _ (NO _) v w h
theorem Ic {f:aq} {v:Int} {w:Int × Int} (h:whS f v=RJ w):WhAt f v w:=EE (NO _) v w h
theorem K6 {f:aq} (hsm:SmF f) {v:Int} {w:Int × Int} (h:whS f v=RJ w):I64 w.1/\I64 w.2:=by obtain⟨b,k,hb,hk,rfl,-⟩:=Ic h;have h1:=hsm.len;have h2:=(hsm.blk b hb).ins;refine⟨⟨?_,?_⟩,?_,?_⟩<;>simp only<;>omega
def pT (f:aq) (wh:Wh) (b i:Nat):Bool:=!(decide (i<(nth f.blocks b).ins.length)&&(!decide ((nth (nth f.blocks b).ins i).op=16)&&decide (wh (nth (nth f.blocks b).ins i).dst=RJ ((b:Int),(i:Int)))))
def vN (f:aq) (has:Int->Bool) (b i:Nat):Bool:=pT f (whS f) b i&&!canS f has (whS f) (i+1) b i
def xW (f:aq) (has:Int->Bool) (b:Nat):Option Nat:=(List.range ((nth f.blocks b).ins.length+1)).find? (vN f has b)
def qO (f:aq) (has:Int->Bool):Option (Nat × Nat):=(List.range f.blocks.length).findSome? λb=>(xW f has b).map λi=>(b,i)
def KG:Option (Nat × Nat)->Int × Int × Int
 | none=>(0,0,0)
 | some w=>(21,w.1,w.2)
def jE (l:List fk) (f:aq):Int × Int × Int:=if(ku l).1≠0 then((ku l).1,0,0) else if lV f=RO then(1,0,0) else KG (qO f (hasS l))
theorem find_range {p:Nat->Bool} {n i:Nat} (hi:i<n) (h1:(List.range i).find? p=RK) (h2:p i=RN):(List.range n).find? p=RJ i:=by obtain⟨d,rfl⟩ : ∃d,n=i+(d+1):=⟨n-i-1,by omega⟩;rw[List.range_add,PN,h1,PI,Rt];simp[h2]
theorem yn {α:Type} {p:Nat->Option α} {n i:Nat} {a:α} (hi:i<n) (h1:(List.range i).findSome? p=RK) (h2:p i=RJ a):(List.range n).findSome? p=RJ a:=by obtain⟨d,rfl⟩ : ∃d,n=i+(d+1):=⟨n-i-1,by omega⟩;rw[List.range_add,P5,h1,PI,Rt];simp[h2]
def Looks (ρ:Env) (l:List (Nat × Value)):Prop:=∀p∈l,Lft.look ρ p.1=RJ p.2
set_option maxHeartbeats 4000000 in
theorem Fx {l:List fk} {f:aq} {vl vf:Value} {h:Heap} {W:View} (hW:W.le (vw h)) (hl:SlRd W vl l) (hf:Rd W vf f) (hsm:SmF f) (ht:Tab h) (hM : ∀i∈dM f,i.op=15\/i.op=16->lY) (hd:lV f=RN->Down f (whS f)) :
  az RP 26 #[vl,vf] h (λu h'=>(vw h).le (vw h')/\u = .tuple #[RG RH (jE l f).1,RG RH (jE l f).2.1,RG RH (jE l f).2.2]):=by
 refine ao (args:=[vl,vf]) follows Tryz.func26 E.bw RB λK hK=>?_;dsimp only[L.bw,lkF,lkG];have c0:=Cx.start hW;refine aa λz hz=>?_;simp;refine c0.cu rfl hf λF1 h1 W1 hW1 c1 at1 hle1=>?_;subst hz;refine aa λz hz=>?_;refine aa λy hy=>?_;simp;refine ah R1 (zq c1.wle (hl.mono hW1) (ht.mono c1.le0)) ?_;rintro _ h2 ⟨hle2,rfl⟩;have c2:=c1.ext hle2;have hW2:=c1.up (h':=h2);simp;subst hy;refine aa λy hy=>?_;simp;subst hy;by_cases e1:(ku l).1=0
 ·simp[e1];subst hz;refine aa λz hz=>?_;refine aa λy hy=>?_;obtain⟨uf,huf,ruf⟩:=at1.ldN rfl (N:=2) rfl;simp[huf _ (RE hW2 c2.wle)];refine ah R1 (yj (ruf.mono (RE hW2 c2.wle)) hsm) ?_;rintro _ h3 ⟨rfl,hle3⟩;have c3:=c2.ext hle3;have hW3:=c2.up (h':=h3);subst hy;cases hrt:lV f with
  | false=>
   have hrt2:decide ((lJ f).1=0)=false:=hrt;have e:jE l f=(1,0,0):=by unfold jE;rw[if_neg (by rw[e1];simp),if_pos hrt]
   simp[hrt2];exact hK _ _ ⟨c3.le0,by rw[e]⟩
  | true=>
   have hrt2:decide ((lJ f).1=0)=true:=hrt;have hcov:jE l f=KG (qO f (hasS l)):=by unfold jE;rw[if_neg (by rw[e1];simp),if_neg (by simp[hrt])]
   rw[hcov]at hK;have m:=oB hrt;have hd:=hd hrt;simp[hrt2];subst hz;refine aa λz hz=>?_;simp;refine nj ?_;have m3:dW (.int .i64) (h3.push (.map #[] 0)) h3.size λ_=>none:=dW.none Sa;have q3:=bM h3 (.map #[] 0);have av3:grow (grow W1 h1 h2) h2 h3 h3.size=none:=View.cM c3.wle (NO _);have hs3:h.size<=h3.size:=cw c3.le0;have hW13:W1.le (grow (grow W1 h1 h2) h2 h3):=RE hW2 hW3;generalize grow (grow W1 h1 h2) h2 h3=W3 at *;generalize h3.push (.map #[] 0)=h4 at *;obtain⟨r1,hr1⟩ : ∃r,r=h3.size:=⟨_,rfl⟩;rw[<-hr1]at m3 av3 hs3 ⊢;have k4:Mq W h W3 h4 r1 λ_=>none:=⟨⟨Owns.start (RE c3.wle q3),c3.old,RE c3.le0 q3,λ_ _ _ e=>by cases e⟩,av3,hs3,m3⟩;refine kU (.inr rfl) (t:=T.jO) (k:=T.int) (e:=T.bool) (u:=RG RH 0) U.jO U.int rfl rfl rfl fH k4.m (mapB (hasS [])) (by simp[hasS]) (λu hu=>?_) λh5 hs5 ho5 hm5=>?_
   ·cases u with
    | int k j=>cases k<;>first | rfl | (simp[hasS];intro e;exact hu (by rw[e]))
    | _=>rfl
   have k5:=k4.upd ho5 hm5;refine fG (n:=1) (z:=.map RK) (v:=.map (RJ r1)) R1 rfl R1 rfl R8 R5 R5 λh6 hle6 hs6 hb6=>?_;have k6:=k5.ext hle6;have hW6:=k5.up (h':=h6);have x9:an (grow W3 h5 h6) ⟨h5.size,0,RK⟩=RJ (.map (RJ r1)):=cell_of (by rw[ck (NO _)];exact hb6) rfl;generalize grow W3 h5 h6=W6 at *;generalize h5.size=B9 at *;subst hz;refine aa λz hz=>?_;refine aa λy hy=>?_;have hl6:=hl.mono (RE hW1 (RE hW13 hW6));have bl:=hl.bound;simp[hl6.len];subst hy;refine aV [0,1,3,9,37,38,39] (fun(_:Unit) k=>[vl,vf,ptr F1,ptr B9,vl,RG RH l.length,RG RH k])
    (λ_ k hx=>∃Wx,W6.le Wx/\Mq W h Wx hx r1 (mapB (hasS (l.take k)))) l.length ()
    rfl R3 rfl ⟨W6,View.le_refl _,k6⟩ (λ_ _=>rfl) (λv i h1 hk m=>by simp) ?_ ?_
   ·rintro _ k hx hk ⟨Wx,lx,kx⟩ K2 hK2;obtain⟨ut,hut,rut⟩:=(hl6.mono lx).wh rfl (N:=2) rfl hk;refine aa λy hy=>?_;simp(disch:=omega)[((hl6.mono lx).mono kx.wle).idxn (N:=2) rfl,hut _ kx.wle];refine kx.dA (α:=fk) rut (n:=2) (z:=.agg #[RG RH 0,RG RH 0]) R1 rfl rfl R1 R5 R5 λB h7 W7 hW7 k7 at7 hle7=>?_;have q0:an W7 ⟨B,0,RK⟩=RJ (RG RH (nth l k).pat):=by simpa using(at7.part fk.KF).int
    subst hy;simp[ae k7.wle q0,ae (RE lx (RE hW7 k7.wle)) x9];have hst : ∀p,hasS (l.take (k+1)) p=if p=(nth l k).pat then RN else hasS (l.take k) p:=λp=>by
     unfold hasS;rw[NT hk,List.any_append,aA hk];by_cases e:p=l[k].pat
     ·simp[e]
     simp[e,Ne.symm e]
    obtain⟨g1,g2⟩:=HW (f:=hasS (l.take k)) (g:=hasS (l.take (k+1))) (j:=(nth l k).pat) hst;refine kU (.inl rfl) (t:=T.jO) (k:=T.int) (e:=T.bool) (u:=RG RH (nth l k).pat) U.jO U.int rfl rfl rfl fH k7.m (mapB (hasS (l.take (k+1)))) g1 g2 λh8 hs8 ho8 hm8=>?_;exact hK2 () _ _ rfl rfl ⟨W7,RE lx hW7,k7.upd ho8 hm8⟩
   rintro _ h7 ⟨W7,l7,k7⟩;rw[OK]at k7;obtain⟨W8,l8,c8,hasM⟩:=k7.freeze;clear k4 k5 k6 k7 m3 hm5 ho5;have x9:=ae (RE l7 l8) x9;have l18:W1.le W8:=RE hW13 (RE hW6 (RE l7 l8));have at8:=at1.mono l18;simp;subst hz;refine aa λz hz=>?_;simp;refine nj ?_;have m9:dW (.int .i64) (h7.push (.map #[] 0)) h7.size (mapE twoV λ_=>RK):=by rw[qY];exact dW.none Sa
   have q9:=bM h7 (.map #[] 0);have av9:W8 h7.size=none:=View.cM c8.wle (NO _);have hs9:h.size<=h7.size:=cw c8.le0;generalize h7.push (.map #[] 0)=h9 at *;obtain⟨r2,hr2⟩ : ∃r,r=h7.size:=⟨_,rfl⟩;rw[<-hr2]at m9 av9 hs9 ⊢;have k9:Mq W h W8 h9 r2 (mapE twoV λ_=>RK):=⟨⟨Owns.start (RE c8.wle q9),c8.old,RE c8.le0 q9,λ_ _ _ e=>by cases e⟩,av9,hs9,m9⟩;refine fG (n:=1) (z:=.map RK) (v:=.map (RJ r2)) R1 rfl R1 rfl R8 R5 R5 λh10 hle10 hs10 hb10=>?_;have k10:=k9.ext hle10;have hW10:=k9.up (h':=h10);have x12:an (grow W8 h9 h10) ⟨h9.size,0,RK⟩=RJ (.map (RJ r2)):=cell_of (by rw[ck (NO _)];exact hb10) rfl;have l110:=RE l18 hW10;have x9:=ae hW10 x9;have hasM:=fun(g2:Heap) (hg:(grow W8 h9 h10).le (vw g2))=>hasM g2 (RE hW10 hg);generalize grow W8 h9 h10=W10 at *;generalize h9.size=B12 at *;have at10:=at1.mono l110
   clear k9 m9 c8 at8 hle10 hb10 q9;subst hz;refine aa λz hz=>?_;refine aa λy hy=>?_;obtain⟨-,vb,hb1,hb2⟩:=gH at10;have bdf:=hb2.bound;simp[ae k10.wle hb1,hb2.len];subst hy;obtain⟨uf',huf',ruf'⟩:=at10.ldN rfl (N:=2) rfl;have smlen:=hsm.len;refine aV [0,1,3,9,12,37,38,39,49,50,51] (fun(_:Unit) b=>[vl,vf,ptr F1,ptr B9,ptr B12,vl,RG RH l.length,RG RH l.length,vb,RG RH f.blocks.length,RG RH b])
    (λ_ b hx=>∃Wx,W10.le Wx/\Mq W h Wx hx r2 (mapE twoV (whTo f b))) f.blocks.length ()
    rfl R3 rfl ⟨W10,View.le_refl _,k10⟩ (λ_ _=>rfl) (λv i h1 hk m=>by simp) ?_ ?_
   ·rintro _ b hx hb ⟨Wx,lx,kx⟩ K2 hK2;obtain⟨ub,hub,rub⟩:=(hb2.mono lx).wh rfl (N:=6) rfl hb;have sb:=hsm.blk b hb;refine aa λy hy=>?_;simp(disch:=omega)[((hb2.mono lx).mono kx.wle).idxn (N:=6) rfl,hub _ kx.wle];refine kx.dA (α:=BlkD) rub (n:=6) (z:=.agg #[RL RK 0 0,RL RK 0 0,RG RH 0,RL RK 0 0,RL RK 0 0,RG RI 0]) R1 rfl rfl R1 R5 R5 λB2 h11 W11 hW11 k11 at11 hle11=>?_;subst hy;refine aa λy hy=>?_;obtain⟨vp,vi,va,vt,-,si,-⟩:=jm at11;have bi:=si.2.bound;simp[ae k11.wle si.1,si.2.len];subst hy;refine aV [0,1,3,9,12,13,14,37,38,39,49,50,51,57,58,59] (fun(_:Unit) k=>[vl,vf,ptr F1,ptr B9,ptr B12,RG RH b,ptr B2,vl,RG RH l.length,RG RH l.length,vb,RG RH f.blocks.length,RG RH b,vi,RG RH (nth f.blocks b).ins.length,RG RH k])
     (λ_ k hy=>∃Wy,W11.le Wy/\Mq W h Wy hy r2 (mapE twoV (Lft.up (lU f b) k (whTo f b)))) (nth f.blocks b).ins.length ()
     rfl R3 rfl ⟨W11,View.le_refl _,k11⟩ (λ_ _=>rfl) (λv i h1 hk m=>by simp) ?_ ?_
    ·rintro _ k h12 hk ⟨Wy,ly,ky⟩ K3 hK3;have hst:Lft.up (lU f b) (k+1) (whTo f b)=if(!decide ((nth (nth f.blocks b).ins k).op=16)&&!decide ((nth (nth f.blocks b).ins k).op=18))&&dK f (nth (nth f.blocks b).ins k).dst then putM (Lft.up (lU f b) k (whTo f b)) (nth (nth f.blocks b).ins k).dst ((b:Int),(k:Int)) else Lft.up (lU f b) k (whTo f b):=rfl;obtain⟨ui,hui,rui⟩:=(si.2.mono ly).wh rfl (N:=5) rfl hk;refine aa λy hy=>?_;simp(disch:=omega)[((si.2.mono ly).mono ky.wle).idxn (N:=5) rfl,hui _ ky.wle];refine ky.dA (α:=InsD) rui (n:=5) (z:=.agg #[RG RH 0,RG RH 0,RG RH 0,RL RK 0 0,RG RI 0]) R1 rfl rfl R1 R5 R5 λB4 h13 W13 hW13 k13 at13 hle13=>?_;obtain⟨q0,q1,-⟩:=fI at13;have r1:=(at13.part InsD.iB).rng;have l1013:W10.le W13:=RE lx (RE hW11 (RE ly hW13));generalize Lft.up (lU f b) k (whTo f b)=g at *;generalize nth (nth f.blocks b).ins k=ii at *;have q0:=ae k13.wle q0;have q1':=q1;have q1:=ae k13.wle q1;subst hy;refine aa λy hy=>?_;have skip : ∀(h14:Heap) (W14:View),W13.le W14->Mq W h W14 h14 r2 (mapE twoV g)->Lft.up (lU f b) (k+1) (whTo f b)=g->∃Wy,W11.le Wy/\Mq W h Wy h14 r2 (mapE twoV (Lft.up (lU f b) (k+1) (whTo f b))):=λh14 W14 l14 k14 e=>⟨W14,RE ly (RE hW13 l14),by rw[e];exact k14⟩;by_cases o16:ii.op=16
     ·rw[if_neg (by simp[o16])]at hst;simp[q0,o16];subst hy;simp;exact hK3 () _ _ rfl rfl (skip _ _ RD k13 hst)
     by_cases o18:ii.op=18
     ·rw[if_neg (by simp[o18])]at hst;simp[q0,o18];subst hy;simp;exact hK3 () _ _ rfl rfl (skip _ _ RD k13 hst)
     simp[q0,o16,o18,q1,huf' _ (RE l1013 k13.wle)];refine ah R1 (wu (ruf'.mono (RE l1013 k13.wle)) hsm r1) ?_;rintro _ h14 ⟨rfl,hle14⟩;have k14:=k13.ext hle14;have hW14:=k13.up (h':=h14);cases hfo:dK f ii.dst with
     | false=>rw[if_neg (by simp[hfo])]at hst;subst hy;simp;exact hK3 () _ _ rfl rfl (skip _ _ hW14 k14 hst)
     | true=>rw[if_pos (by simp[o16,o18,hfo])]at hst;subst hy;simp[ae (RE l1013 (RE hW14 k14.wle)) x12,ae (RE hW14 k14.wle) q1'];refine ak (z:=.agg #[RG RH 0,RG RH 0]) (places:=[(0,1),(1,1)]) (vs:=[(0,RG RH b),(1,RG RH k)]) (cs:=#[RG RH b,RG RH k]) R1 R1 Sa R1 ?_;refine kU (.inl rfl) (t:=T.gP) (k:=T.int) (e:=T.iy) (u:=RG RH ii.dst) (v:=twoV ((b:Int),(k:Int))) U.gP U.int rfl rfl rfl fH k14.m (mapE twoV (putM g ii.dst ((b:Int),(k:Int)))) jA.1 jA.2 λh15 hs15 ho15 hm15=>?_;exact hK3 () _ _ rfl rfl ⟨_,RE ly (RE hW13 hW14),by rw[hst];exact k14.upd ho15 hm15⟩
    rintro _ h12 ⟨Wy,ly,ky⟩;exact hK2 () _ _ rfl rfl ⟨Wy,RE lx (RE hW11 ly),by rw[zk];exact ky⟩
   rintro _ h11 ⟨W11,l11,k11⟩;obtain⟨W12,l12,c12,whM⟩:=k11.freeze;have whM : ∀g2:Heap,W12.le (vw g2)->dW (.int .i64) g2 r2 (mapE twoV (whS f)):=whM;have x9:=ae (RE l11 l12) x9;have x12:=ae (RE l11 l12) x12;have l1012:=RE l11 l12;clear k10 k11;simp;subst hz;refine aa λz hz=>?_;simp;refine cZ (z:=.nilFunc) R1 ?_;have q13:=bM h11 (.cells (Value.nilFunc).cells T.gg);have b13:(h11.push (.cells (Value.nilFunc).cells T.gg))[h11.size]? = RJ (.cells (Value.nilFunc).cells T.gg (0,0)):=by simp
   generalize h11.push (.cells (Value.nilFunc).cells T.gg)=h13 at *;subst hz;refine aa λz hz=>?_;simp;refine eJ (g:=h11.size) (o:=0) (n:=1) (v:=.func (.func 43) #[] #[ptr F1,ptr B9,ptr B12,ptr h11.size]) (cur:=(Value.nilFunc).cells) (e:=T.gg) R1 rfl rfl rfl R8 b13 (by simp[Value.cells]) λh14 hs14 ⟨row,hr14,he14⟩ ho14=>?_;have hrow:row=(Value.func (.func 43) #[] #[ptr F1,ptr B9,ptr B12,ptr h11.size]).cells:=by rw[<-Array.toList_inj,he14];simp[Value.cells]
   rw[hrow]at hr14;have le14:(vw h11).le (vw h14):=λb o hb=>by have hlt:=View.lt (View.le_refl (vw h11)) hb;show h14[b]? = _;rw[ho14 b R3];exact q13 b o hb
   have c14:=c12.ext le14;have hW14:=c12.up (h':=h14);have x17:an (grow W12 h11 h14) ⟨h11.size,0,RK⟩=RJ (.func (.func 43) #[] #[ptr F1,ptr B9,ptr B12,ptr h11.size]):=cell_of (by rw[ck (NO _)];exact hr14) rfl;have l1014:=RE l1012 hW14;have cv:Cv (grow W12 h11 h14) F1 B9 B12 h11.size r1 r2 f (hasS l) (whS f):=⟨at10.mono l1014,λp hp=>JU e1 hp,ae hW14 x9,λg2 hg=>hasM g2 (RE l1014 hg),ae hW14 x12,λv w hw=>K6 hsm hw,λg2 hg=>whM g2 (RE hW14 hg),x17⟩;have hb1:=ae l1014 hb1;have hb2:=hb2.mono l1014;generalize grow W12 h11 h14=W14 at *;generalize h11.size=C at *;clear hr14 ho14 he14 b13 q13 le14 x9 x12 x17 hasM whM;subst hz;refine aa λz hz=>?_;refine aa λy hy=>?_;simp[ae c14.wle hb1,hb2.len];subst hy;refine aV [0,1,3,9,12,17,37,38,39,49,50,51,88,89,90] (fun(_:Unit) b=>[vl,vf,ptr F1,ptr B9,ptr B12,ptr C,vl,RG RH l.length,RG RH l.length,vb,RG RH f.blocks.length,RG RH f.blocks.length,vb,RG RH f.blocks.length,RG RH b])
    (λ_ b hx=>∃Wx,W14.le Wx/\Cx W h Wx hx (λ_=>RK)/\((List.range b).findSome? λb=>(xW f (hasS l) b).map λi=>(b,i))=RK) f.blocks.length ()
    rfl R3 rfl ⟨W14,View.le_refl _,c14,rfl⟩ (λ_ _=>rfl) (λv i h1 hk m=>by simp) ?_ ?_
   ·rintro _ b hx hb ⟨Wx,lx,cx,hno⟩ K2 hK2;obtain⟨ub,hub,rub⟩:=(hb2.mono lx).wh rfl (N:=6) rfl hb;have sb:=hsm.blk b hb;have sbi:=sb.ins;simp only[aU];refine aa λy hy=>?_;simp(disch:=omega)[((hb2.mono lx).mono cx.wle).idxn (N:=6) rfl,hub _ cx.wle];refine cx.dA (α:=BlkD) rub (n:=6) (z:=.agg #[RL RK 0 0,RL RK 0 0,RG RH 0,RL RK 0 0,RL RK 0 0,RG RI 0]) R1 rfl rfl R1 R5 R5 λB2 h15 W15 hW15 c15 at15 hle15=>?_;subst hy;refine aa λy hy=>?_;obtain⟨vp,vi,va,vt,-,si,-⟩:=jm at15;have bi:=si.2.bound;simp(disch:=omega)[ae c15.wle si.1,si.2.len];subst hy;have eN:((nth f.blocks b).ins.length:Int)+1=(((nth f.blocks b).ins.length+1:Nat):Int):=by omega
    rw[eN];have l1415:=RE lx hW15;refine aV [0,1,3,9,12,17,18,19,37,38,39,49,50,51,88,89,90,98,99] (fun(_:Unit) i=>[vl,vf,ptr F1,ptr B9,ptr B12,ptr C,RG RH b,ptr B2,vl,RG RH l.length,RG RH l.length,vb,RG RH f.blocks.length,RG RH f.blocks.length,vb,RG RH f.blocks.length,RG RH b,RG RH (((nth f.blocks b).ins.length+1:Nat):Int),RG RH i])
     (λ_ i hx=>∃Wx,W15.le Wx/\Cx W h Wx hx (λ_=>RK)/\(List.range i).find? (vN f (hasS l) b)=RK) ((nth f.blocks b).ins.length+1) ()
     rfl R3 rfl ⟨W15,View.le_refl _,c15,rfl⟩ (λ_ _=>rfl) (λv i h1 hk m=>by simp) ?_ ?_
    ·rintro _ i h16 hi ⟨W16,l16,c16,hno2⟩ K3 hK3;have si16:=si.2.mono l16;have x0:=ae (RE l16 c16.wle) si.1;have cv16:=cv.mono (RE l1415 l16);simp only[aU];refine aa λy hy=>?_;simp;subst hy;refine aa λy hy=>?_;simp;subst hy;refine aa λy hy=>?_;refine ff (λρ h17=>∃W17,W16.le W17/\Cx W h W17 h17 (λ_=>RK)/\Looks ρ [(0,vl),(1,vf),(3,ptr F1),(9,ptr B9),(12,ptr B12),(17,ptr C),(18,RG RH b),(19,ptr B2),(20,RG RH i),(21,.bool (pT f (whS f) b i)),(37,vl),(38,RG RH l.length),(39,RG RH l.length),(49,vb),(50,RG RH f.blocks.length),(51,RG RH f.blocks.length),(88,vb),(89,RG RH f.blocks.length),(90,RG RH b),(98,RG RH (((nth f.blocks b).ins.length+1:Nat):Int)),(99,RG RH i)]) ?_ ?_
     ·intro K4 hK4;refine aa λx hx=>?_;by_cases ci:i<(nth f.blocks b).ins.length
      ·have hii:((i:Int)<((nth f.blocks b).ins.length:Int)):=by omega
       have ax:=(si16.at ci);rw[<-aA ci]at ax;have q0:=ae c16.wle (ax.part InsD.tN).int;have q1:=(ax.part InsD.iB).int;have hx5:=si16.idxn (k:=.i64) (N:=5) rfl (i:=(i:Int)) R3 R3;generalize hii2:nth (nth f.blocks b).ins i=ii at *;have q0:an (vw h16) (((slA vi).add (i*5)).add 0)=RJ (RG RH ii.op):=q0;have q1:an W16 (((slA vi).add (i*5)).add 1)=RJ (RG RH ii.dst):=q1;have hx5:Bn.ev (.idx 5) vi (RG RH (i:Int))=RJ (RM (RJ ((slA vi).add (i*5)))):=by simpa using hx5
       by_cases o16:ii.op=16
       ·have hn:pT f (whS f) b i=true:=by unfold pT;rw[hii2];simp[o16]
        simp[x0,si16.len,hii,hx5,q0,o16];subst hx;simp;exact hK4 _ _ ⟨W16,View.le_refl _,c16,by rw[hn];simp[Looks]⟩
       have hn:pT f (whS f) b i=!decide (whS f ii.dst=RJ ((b:Int),(i:Int))):=by unfold pT;rw[hii2];simp[o16,ci]
       simp[x0,si16.len,hii,hx5,q0,o16];subst hx;refine aN Sa ?_;refine aa λx hx=>?_;have wr:Rd W16 (((whS f ii.dst).map twoV).getD (.agg #[RG RH 0,RG RH 0])) ((whS f ii.dst).getD (0,0)):=by
        cases hv:whS f ii.dst with
        | none=>exact rI.2 ⟨rfl,by decide,by decide⟩
        | some w=>exact rI.2 ⟨rfl,(cv16.whR ii.dst w hv).1,(cv16.whR ii.dst w hv).2⟩
       have hww:((whS f ii.dst).map twoV).getD (.agg #[RG RH 0,RG RH 0])=twoV ((whS f ii.dst).getD (0,0)):=by cases whS f ii.dst<;>rfl
       refine ff (λρ h17=>∃B22,Cx W h W16 h17 (λ_=>RK)/\Un.ev (vw h17) (.aZ 2) (ptr B22)=RJ (twoV ((whS f ii.dst).getD (0,0)))/\Looks ρ [(0,vl),(1,vf),(3,ptr F1),(9,ptr B9),(12,ptr B12),(17,ptr C),(18,RG RH b),(19,ptr B2),(20,RG RH i),(21,.bool RN),(22,ptr B22),(23,.bool (whS f ii.dst).isSome),(37,vl),(38,RG RH l.length),(39,RG RH l.length),(49,vb),(50,RG RH f.blocks.length),(51,RG RH f.blocks.length),(88,vb),(89,RG RH f.blocks.length),(90,RG RH b),(98,RG RH (((nth f.blocks b).ins.length+1:Nat):Int)),(99,RG RH i)]) ?_ ?_
       ·intro K5 hK5;refine aH W16 c16.wle ?_;have q1:=q1;refine eg ?_ ?_
        ·simp[cv16.whC,si.1,si.1,ae l16 si.1,hx5,q1];refine nJ (f:=mapE twoV (whS f)) (z:=.agg #[RG RH 0,RG RH 0]) (k:=T.int) (e:=T.iy) (d:=.int .i64) (r:=r2) (u:=RG RH ii.dst) U.gP U.int R1 rfl rfl fH (cv16.whM h16 c16.wle) ?_;simp;refine c16.bU (k:=(0,0)) (n:=1) (z:=.agg #[RG RH 0,RG RH 0]) rfl R1 rfl R4 R8 λB22 h17 hle17 c17=>?_;refine c17.aK (k:=(0,0)) (n:=1) Own.aj wr rfl rfl R1 rfl rfl λh18 l18 hl18 c18=>?_;have hall:=c18.all (k:=(0,0)) (n:=1) (l:=l18) (B:=B22) (e:=T.iy) Own.aj;refine hK5 _ _ ⟨B22,⟨c18.own.sub λk i e=>by(cases e),c18.old,c18.le0,λ_ _ _ e=>by cases e⟩,?_,by simp[Looks]⟩;rw[<-hww,hl18];exact hall
        simp[cv16.whC,si.1,ae l16 si.1,hx5,q1];refine c16.bU (k:=(0,0)) (n:=1) (z:=.agg #[RG RH 0,RG RH 0]) rfl R1 rfl R4 R8 λB22 h17 hle17 c17=>?_;refine⟨c17.wle,?_⟩;refine nJ (f:=mapE twoV (whS f)) (z:=.agg #[RG RH 0,RG RH 0]) (k:=T.int) (e:=T.iy) (d:=.int .i64) (r:=r2) (u:=RG RH ii.dst) U.gP U.int R1 rfl rfl fH (cv16.whM h17 c17.wle) ?_;simp;refine c17.aK (k:=(0,0)) (n:=1) Own.aj wr rfl rfl R1 rfl rfl λh18 l18 hl18 c18=>?_;have hall:=c18.all (k:=(0,0)) (n:=1) (l:=l18) (B:=B22) (e:=T.iy) Own.aj;refine hK5 _ _ ⟨B22,⟨c18.own.sub λk i e=>by(cases e),c18.old,c18.le0,λ_ _ _ e=>by cases e⟩,?_,by simp[Looks]⟩;rw[<-hww,hl18];exact hall
       rintro ρ h17 ⟨B22,c17,x22,L⟩;have L0:=L (0,vl) Sa;have L1:=L (1,vf) Sa;have L3:=L (3,ptr F1) Sa;have L9:=L (9,ptr B9) Sa;have L12:=L (12,ptr B12) Sa;have L17:=L (17,ptr C) Sa;have L18:=L (18,RG RH b) Sa;have L19:=L (19,ptr B2) Sa;have L20:=L (20,RG RH i) Sa;have L21:=L (21,.bool RN) Sa;have L22:=L (22,ptr B22) Sa;have L23:=L (23,.bool (whS f ii.dst).isSome) Sa;have L37:=L (37,vl) Sa;have L38:=L (38,RG RH l.length) Sa;have L39:=L (39,RG RH l.length) Sa;have L49:=L (49,vb) Sa;have L50:=L (50,RG RH f.blocks.length) Sa;have L51:=L (51,RG RH f.blocks.length) Sa;have L88:=L (88,vb) Sa;have L89:=L (89,RG RH f.blocks.length) Sa;have L90:=L (90,RG RH b) Sa;have L98:=L (98,RG RH (((nth f.blocks b).ins.length+1:Nat):Int)) Sa;have L99:=L (99,RG RH i) Sa;simp only at L0 L1 L3 L9 L12 L17 L18 L19 L20 L21 L22 L23 L37 L38 L39 L49 L50 L51 L88 L89 L90 L98 L99;subst hx;refine aa λx hx=>?_;cases hv:whS f ii.dst with
       | none=>
        have hn:pT f (whS f) b i=true:=by rw[hn,hv];rfl
        rw[hv]at L23;simp[af,ag,L0,L1,L3,L9,L12,L17,L18,L19,L20,L21,L22,L23,L37,L38,L39,L49,L50,L51,L88,L89,L90,L98,L99];subst hx;simp[af,ag,L0,L1,L3,L9,L12,L17,L18,L19,L20,L21,L22,L23,L37,L38,L39,L49,L50,L51,L88,L89,L90,L98,L99];exact hK4 _ _ ⟨W16,View.le_refl _,c17,by rw[hn];simp[Looks,af,ag,L0,L1,L3,L9,L12,L17,L18,L19,L20,L21,L22,L23,L37,L38,L39,L49,L50,L51,L88,L89,L90,L98,L99]⟩
       | some w=>
        have hn:pT f (whS f) b i=!(w.1 == (b:Int)&&w.2 == (i:Int)):=by rw[hn,hv];obtain⟨w1,w2⟩:=w;rw[OA];simp
        rw[hv]at L23 x22;have x22:Un.ev (vw h17) (.aZ 2) (ptr B22)=RJ (.agg #[RG RH w.1,RG RH w.2]):=x22;simp[af,ag,L0,L1,L3,L9,L12,L17,L18,L19,L20,L21,L22,L23,L37,L38,L39,L49,L50,L51,L88,L89,L90,L98,L99,x22];refine ak (z:=.agg #[RG RH 0,RG RH 0]) (places:=[(0,1),(1,1)]) (vs:=[(0,RG RH b),(1,RG RH i)]) (cs:=#[RG RH b,RG RH i]) R1 R1 Sa R1 ?_;refine Db (t:=T.iy) (e:=T.int) (a:=w.1) (b:=w.2) (c:=(b:Int)) (d:=(i:Int)) (ki:=.i64) U.iy U.int R1 R1 R1 rfl rfl ?_;subst hx;cases he:(w.1 == (b:Int)&&w.2 == (i:Int))with
        | false=>rw[he]at hn;simp[af,ag,L0,L1,L3,L9,L12,L17,L18,L19,L20,L21,L22,L23,L37,L38,L39,L49,L50,L51,L88,L89,L90,L98,L99];exact hK4 _ _ ⟨W16,View.le_refl _,c17,by rw[hn];simp[Looks,af,ag,L0,L1,L3,L9,L12,L17,L18,L19,L20,L21,L22,L23,L37,L38,L39,L49,L50,L51,L88,L89,L90,L98,L99]⟩
        | true=>rw[he]at hn;simp[af,ag,L0,L1,L3,L9,L12,L17,L18,L19,L20,L21,L22,L23,L37,L38,L39,L49,L50,L51,L88,L89,L90,L98,L99];exact hK4 _ _ ⟨W16,View.le_refl _,c17,by rw[hn];simp[Looks,af,ag,L0,L1,L3,L9,L12,L17,L18,L19,L20,L21,L22,L23,L37,L38,L39,L49,L50,L51,L88,L89,L90,L98,L99]⟩
      have hn:pT f (whS f) b i=true:=by unfold pT;simp[ci]
      have hii:¬((i:Int)<((nth f.blocks b).ins.length:Int)):=by omega
      simp[x0,si16.len,hii];subst hx;simp;exact hK4 _ _ ⟨W16,View.le_refl _,c16,by rw[hn];simp[Looks]⟩
     rintro ρ h17 ⟨W17,l17,c17,L⟩;have L0:=L (0,vl) Sa;have L1:=L (1,vf) Sa;have L3:=L (3,ptr F1) Sa;have L9:=L (9,ptr B9) Sa;have L12:=L (12,ptr B12) Sa;have L17:=L (17,ptr C) Sa;have L18:=L (18,RG RH b) Sa;have L19:=L (19,ptr B2) Sa;have L20:=L (20,RG RH i) Sa;have L21:=L (21,.bool (pT f (whS f) b i)) Sa;have L37:=L (37,vl) Sa;have L38:=L (38,RG RH l.length) Sa;have L39:=L (39,RG RH l.length) Sa;have L49:=L (49,vb) Sa;have L50:=L (50,RG RH f.blocks.length) Sa;have L51:=L (51,RG RH f.blocks.length) Sa;have L88:=L (88,vb) Sa;have L89:=L (89,RG RH f.blocks.length) Sa;have L90:=L (90,RG RH b) Sa;have L98:=L (98,RG RH (((nth f.blocks b).ins.length+1:Nat):Int)) Sa;have L99:=L (99,RG RH i) Sa;simp only at L0 L1 L3 L9 L12 L17 L18 L19 L20 L21 L37 L38 L39 L49 L50 L51 L88 L89 L90 L98 L99;have cv17:=cv16.mono l17;have hplc:dy f b i=true:=by simp[dy];omega
     have hstep : ∀X,vN f (hasS l) b i=X->X=RO->(List.range (i+1)).find? (vN f (hasS l) b)=none:=λX hX hf=>by rw[P2,PN,hno2,PI,QS,hX,hf];rfl
     subst hy;refine aa λy hy=>?_;cases hn:pT f (whS f) b i with
     | false=>rw[hn]at L21;simp[af,ag,L0,L1,L3,L9,L12,L17,L18,L19,L20,L21,L37,L38,L39,L49,L50,L51,L88,L89,L90,L98,L99];subst hy;simp[af,ag,L0,L1,L3,L9,L12,L17,L18,L19,L20,L21,L37,L38,L39,L49,L50,L51,L88,L89,L90,L98,L99];refine hK3 () _ _ (by simp[af,ag,L0,L1,L3,L9,L12,L17,L18,L19,L20,L21,L37,L38,L39,L49,L50,L51,L88,L89,L90,L98,L99]) (by simp[bF,af,ag,L0,L1,L3,L9,L12,L17,L18,L19,L20,L21,L37,L38,L39,L49,L50,L51,L88,L89,L90,L98,L99]) ⟨W17,RE l16 l17,c17,hstep _ rfl (by unfold vN;rw[hn];rfl)⟩
     | true=>
      rw[hn]at L21;simp[af,ag,L0,L1,L3,L9,L12,L17,L18,L19,L20,L21,L37,L38,L39,L49,L50,L51,L88,L89,L90,L98,L99,ae c17.wle cv17.can];refine bV (ops:=[.tmp 138,.tmp 139]) (caps:=#[ptr F1,ptr B9,ptr B12,ptr C]) rfl R1 (Gg m hsm hM hd (i+1) (b:=(b:Int)) (i:=(i:Int)) cv17 c17.wle hplc R3) ?_;rintro _ h18 ⟨hle18,rfl⟩;have c18:=c17.ext hle18;have hW18:=c17.up (h':=h18);simp[af,ag,L0,L1,L3,L9,L12,L17,L18,L19,L20,L21,L37,L38,L39,L49,L50,L51,L88,L89,L90,L98,L99];subst hy;cases hcn:canS f (hasS l) (whS f) (i+1) b i with
      | true=>simp[af,ag,L0,L1,L3,L9,L12,L17,L18,L19,L20,L21,L37,L38,L39,L49,L50,L51,L88,L89,L90,L98,L99];refine hK3 () _ _ (by simp[af,ag,L0,L1,L3,L9,L12,L17,L18,L19,L20,L21,L37,L38,L39,L49,L50,L51,L88,L89,L90,L98,L99]) (by simp[bF,af,ag,L0,L1,L3,L9,L12,L17,L18,L19,L20,L21,L37,L38,L39,L49,L50,L51,L88,L89,L90,L98,L99]) ⟨_,RE l16 (RE l17 hW18),c18,hstep _ rfl (by unfold vN;rw[hn,hcn];rfl)⟩
      | false=>
       have hbad:vN f (hasS l) b i=true:=by unfold vN;rw[hn,hcn];rfl
       have hrow:xW f (hasS l) b=RJ i:=by unfold xW;exact find_range hi hno2 hbad
       have hfirst:qO f (hasS l)=RJ (b,i):=by unfold qO;exact yn hb hno (by rw[hrow];rfl)
       rw[hfirst]at hK;simp[af,ag,L0,L1,L3,L9,L12,L17,L18,L19,L20,L21,L37,L38,L39,L49,L50,L51,L88,L89,L90,L98,L99];exact hK _ _ ⟨c18.le0,rfl⟩
    rintro _ h16 ⟨W16,l16,c16,hno2⟩;refine hK2 () _ _ rfl rfl ⟨W16,RE l1415 l16,c16,?_⟩;rw[P2,P5,hno,PI];simp[xW,hno2]
   rintro _ hx ⟨Wx,lx,cx,hno⟩;have e:qO f (hasS l)=none:=hno;rw[e]at hK;simp;subst hz;simp;exact hK _ _ ⟨cx.le0,rfl⟩
 have e:jE l f=((ku l).1,0,0):=by unfold jE;rw[if_pos e1]
 simp[e1];exact hK _ _ ⟨c2.le0,by rw[e]⟩
end Go.Proofs.YtnfiilgdjpdlkaaGreatDoor
namespace Go.Proofs.YtnfiilgdjpdlkaaGreatDoor
open Go Go.Lft
variable{val:Int}
theorem Dv{x:Int × Int}{l:List Th}: ∀{y:WL},x∈l.foldl (pE val) y↔x∈y\/∃t∈l,x=(t.blk,t.place)/\val∈t.tks:=by
 induction l with
 | nil=>simp
 | cons t l ih=>
  intro y;rw[N8,ih,pE,rY];simp only[N5,exists_eq_or_imp];constructor
  ·rintro((h | h) | h)
   ·exact .inl h
   ·exact .inr (.inl h)
   exact .inr (.inr h)
  rintro(h | h | h)
  ·exact .inl (.inl h)
  ·exact .inl (.inr h)
  exact .inr h
theorem rT{f:aq}{v:Int}(h:dK f v=RN){t t':Th}(ht:t∈aC f)(ht':t'∈aC f)(hm:v∈t.mks)(hk:v∈t'.tks):t.blk=t'.blk/\t.place<t'.place:=by
 unfold dK jr at h;simp only[NS]at h;have hb:=h.1;unfold mE at hb;simp at hb;obtain⟨⟨⟨⟨b1,b2⟩,b3⟩,b4⟩,b5⟩:=hb;have m1:(t.blk,t.place)∈nY v (aC f):=mG.2 (.inr ⟨t,ht,rfl,hm⟩);have m2:(t'.blk,t'.place)∈oo v (aC f):=Dv.2 (.inr ⟨t',ht',rfl,hk⟩);have one : ∀{l:WL} {x:Int × Int},l.length=1->x∈l->nth l 0=x:=by
  intro l x hl hx;match l,hl with
  | [y],_=>simp at hx;rw[hx];rfl
 have e1:=one R3 m1;have e2:=one R3 m2;rw[e1,e2]at b4;rw[e1,e2]at b5;exact⟨b4,by simpa using b5⟩
theorem mM{f:aq}{b k:Nat}(hb:b<f.blocks.length)(hk:k<(nth f.blocks b).ins.length):insT f b k∈aC f:=gC.2 ⟨b,hb,iZ.2 (.inr (.inl ⟨k,hk,rfl⟩))⟩
theorem FQ{f:aq}{b:Nat}(hb:b<f.blocks.length):endT f b∈aC f:=gC.2 ⟨b,hb,iZ.2 (.inr (.inr rfl))⟩
def ownArgs (s:cn):List Int:=if s.term then s.t.args else s.i.args
def xl (f:aq) (args:List Int) (v:Int):Prop:=∃v2 op,v2∈args/\(aD f v2 op).2=RN/\v∈(aD f v2 op).1.args
theorem tC{l:List Int}{v:Int}(h:v∈l.drop 1):v∈l:=List.mem_of_mem_drop h
theorem tf{f:aq}{i:InsD}{m lo hi sg:Int}{x:FitD}(hl:1<=i.args.length)(h:immS f i m lo hi sg=RJ x){v:Int}(hv:v∈x.takes):v∈i.args:=by
 unfold immS at h;split at h
 ·cases h;simp at hv;subst hv;exact bz R3
 cases h
theorem A4{f:aq}{i:InsD}{temp op pl su:Int}{k:Nat}{x:FitD}(hall : ∀i∈dM f,qT i)(hl:1<=i.args.length)(h:memS f i temp op pl su k=RJ x){v:Int}(hv:v∈x.takes):v∈i.args\/xl f i.args v:=by
 have h0:nth i.args 0∈i.args:=bz R3;have hin : ∀{j},(aD f (nth i.args 0) 2).2=RN->j<2->xl f i.args (nth (aD f (nth i.args 0) 2).1.args j):=fun{j} hb hj=>by obtain⟨m1,m2,-⟩:=gL hb;have:=(hall _ m1).two R3;exact⟨_,2,h0,hb,bz R3⟩
 match k with
 | 0=>
  simp only[memS]at h;split at h
  ·cases h;rcases N5.1 hv with rfl | hv
   ·exact .inl h0
   exact .inl (tC hv)
  cases h
 | 1=>
  simp only[memS]at h;split at h
  ·rename_i c;split at h
   ·cases h;rcases N5.1 hv with rfl | hv
    ·exact .inr (hin c R4)
    exact .inl (tC hv)
   cases h
  cases h
 | 2=>
  simp only[memS]at h;split at h
  ·rename_i c;simp only[NS]at c;cases h;rcases N5.1 hv with rfl | hv
   ·exact .inr (hin c.1 R4)
   rcases N5.1 hv with rfl | hv
   ·exact .inr (hin c.1 R4)
   exact .inl (tC hv)
  cases h
 | k+3=>
  simp only[memS]at h;cases h;rcases N5.1 hv with rfl | hv
  ·exact .inl h0
  exact .inl (tC hv)
theorem DM{s:cn}{pat:Int}{x:FitD}(hok:nz s)(ht:vx s.t)(h:tryS s pat=RJ x){v:Int}(hv:v∈x.takes):v∈ownArgs s\/xl s.f (ownArgs s) v:=by
 unfold tryS at h;unfold ownArgs;cases htm:s.term with
 | true=>
  rw[htm,if_pos rfl]at h;rw[if_pos rfl];unfold eh at h;split at h
  ·cases h;cases hv
  split at h
  ·cases h;exact .inl hv
  split at h
  ·cases h;cases hv
  split at h
  ·cases h;exact .inl hv
  split at h
  ·rename_i c;split at h
   ·rename_i c2;cases h;exact .inr ⟨_,_,bz (ht.one (.inl c.2)),c2,hv⟩
   cases h
  split at h
  ·cases h;exact .inl hv
  cases h
 | false=>
  rw[htm,if_neg Sa]at h;rw[if_neg Sa];unfold patS at h;split at h
  ·rename_i c;obtain⟨c1,c2,c3⟩:=c;have hp1:1<=pat.toNat/\pat.toNat<=32:=by omega
   generalize pat.toNat=p at *;have len:16<=p->p<=30->1<=s.i.args.length:=by
    intro h2 h30;have hopr:(2<=s.i.op/\s.i.op<=14)\/s.i.op=16\/s.i.op=15:=by
     rw[c3];unfold opOf;repeat' split
     all_goals omega
    rcases hopr with q | q | q
    ·have:=hok.one.two (.inl q);omega
    ·have:=hok.one.two (.inr (.inl q));omega
    exact hok.one.one q
   unfold doS at h;by_cases p1:p=1
   ·rw[if_pos p1]at h;by_cases q:inR s.i.imm.v (-32768) 32767=RN
    ·rw[if_pos q]at h;cases h;cases hv
    rw[if_neg q]at h;cases h
   rw[if_neg p1]at h;by_cases p2:p=2
   ·rw[if_pos p2]at h;cases h;cases hv
   rw[if_neg p2]at h;by_cases p15:p<=15
   ·rw[if_pos p15]at h;cases h;exact .inl hv
   rw[if_neg p15]at h;by_cases p16:p=16
   ·rw[if_pos p16]at h;exact .inl (tf (len R3 R3) h hv)
   rw[if_neg p16]at h;by_cases p17:p=17
   ·rw[if_pos p17]at h;exact .inl (tf (len R3 R3) h hv)
   rw[if_neg p17]at h;by_cases p18:p=18
   ·rw[if_pos p18]at h;exact .inl (tf (len R3 R3) h hv)
   rw[if_neg p18]at h;by_cases p21:p<=21
   ·rw[if_pos p21]at h;exact .inl (tf (len R3 R3) h hv)
   rw[if_neg p21]at h;by_cases p22:p=22
   ·rw[if_pos p22]at h;by_cases q:(aD s.f (nth s.i.args 0) 4).2=RN
    ·rw[if_pos q]at h;have l1:=len R3 R3;have l2:=hok.one.two (by rw[c3,p22];exact .inl R4);obtain⟨m1,m2,-⟩:=gL q;have l3:=(hok.all _ m1).two R3;cases h;rcases N5.1 hv with rfl | hv
     ·exact .inr ⟨_,_,bz R3,q,bz R3⟩
     rcases N5.1 hv with rfl | hv
     ·exact .inr ⟨_,_,bz R3,q,bz R3⟩
     rcases N5.1 hv with rfl | hv
     ·exact .inl (bz R3)
     cases hv
    rw[if_neg q]at h;cases h
   rw[if_neg p22]at h;by_cases p26:p<=26
   ·rw[if_pos p26]at h;exact A4 hok.all (len R3 R3) h hv
   rw[if_neg p26]at h;by_cases p30:p<=30
   ·rw[if_pos p30]at h;exact A4 hok.all (len R3 R3) h hv
   rw[if_neg p30]at h;by_cases p31:p=31
   ·rw[if_pos p31]at h;cases h;exact .inl hv
   rw[if_neg p31]at h;cases h;exact .inl hv
  cases h
theorem Jy{f:aq}(m:nD f)(hsm:SmF f)(hr : ∀i∈dM f,-2147483648<=i.imm.v/\i.imm.v<=2147483647):Down f (whS f):=by
 intro b i pat x v w hpl hx hv hw;obtain⟨h1,h2,h3,h4⟩:=Bj (temp:=0) m hsm hr hpl;obtain⟨b',k',hb',hk',rfl,hd,ho16,ho18,hfo⟩:=Ic hw;simp[dy]at hpl;obtain⟨⟨⟨g1,g2⟩,g3⟩,g4⟩:=hpl;have hb:b.toNat<f.blocks.length:=by omega
 have made : ∀{b k:Nat} {u:Int},b<f.blocks.length->k<(nth f.blocks b).ins.length->(nth (nth f.blocks b).ins k).dst=u->(nth (nth f.blocks b).ins k).op≠16->u∈(insT f b k).mks:=by intro b k u hb hk hd ho;show u∈cT (nth (nth f.blocks b).ins k);unfold cT;rw[if_neg ho];split<;>simp[hd]
 have hmk:=made hb' hk' hd ho16;obtain⟨t,ht,htb,htp,hta⟩ : ∃t∈aC f,t.blk=b/\t.place=i/\t.tks=ownArgs (eK f b i 0):=by
  unfold ownArgs eK;by_cases e:i=(nth f.blocks b.toNat).ins.length
  ·rw[if_pos e,if_pos rfl];exact⟨_,FQ hb,by show((b.toNat:Nat):Int)=b;omega,by show(((nth f.blocks b.toNat).ins.length:Nat):Int)=i;omega,rfl⟩
  rw[if_neg e,if_neg Sa];exact⟨_,mM hb (k:=i.toNat) R3,by show((b.toNat:Nat):Int)=b;omega,by show((i.toNat:Nat):Int)=i;omega,rfl⟩
 have key : ∃t2∈aC f,t2.blk=b/\t2.place<=i/\v∈t2.tks:=by
  rcases DM h1 h2 hx hv with hv | ⟨v2,op,hv2,hf2,hv⟩
  ·exact⟨t,ht,htb,by omega,by rw[hta];exact hv⟩
  rw[h4]at hf2 hv;obtain⟨m1,m2,m3,m4,m5⟩:=gL hf2;obtain⟨b2,k2,hb2,hk2,e2⟩:=gS.1 m1;rw[e2]at m4 m5 hv;have hm2:=made hb2 hk2 m4 m5;obtain⟨q1,q2⟩:=rT m3 (mM hb2 hk2) ht hm2 (by rw[hta];exact hv2);exact⟨_,mM hb2 hk2,by rw[q1,htb],by rw[htp]at q2;omega,hv⟩
 obtain⟨t2,ht2,e1,e2,e3⟩:=key;obtain⟨q1,q2⟩:=rT hfo (mM hb' hk') ht2 hmk e3;have q1:(b':Int)=t2.blk:=q1;have q2:(k':Int)<t2.place:=q2;refine⟨?_,by simp only;omega⟩;simp[dy];omega
def qz (f:aq) (v:Int):Option Th:=(aC f).find? λt=>t.mks.contains v
def uV (f:aq) (v op:Int):Option Th->InsD × Bool
 | none=>(eV,RO)
 | some t=>if t.place<0 then(eV,RO) else(fw f t,decide ((fw f t).op=op)&&dK f v)
def cV (f:aq) (v op:Int):InsD × Bool:=uV f v op (qz f v)
theorem CT{i:InsD}(h:i.op≠16):i.dst∈cT i:=by unfold cT;rw[if_neg h];split<;>simp
theorem Fm{f:aq}{v:Int}(h:dK f v=RN): ∃b k:Nat,b<f.blocks.length/\k<(nth f.blocks b).ins.length/\(nth (nth f.blocks b).ins k).dst=v/\(nth (nth f.blocks b).ins k).op≠16/\v∈(insT f b k).mks/\
  ∀t∈aC f,v∈t.mks->t.blk=b/\t.place=k:=by
 unfold dK jr at h;simp only[NS,decide_eq_true_eq]at h;obtain⟨hb,hd,hc⟩:=h;unfold mE at hb;simp at hb;obtain⟨⟨⟨⟨b1,b2⟩,b3⟩,b4⟩,b5⟩:=hb;have one : ∀{l:WL} {x:Int × Int},l.length=1->x∈l->nth l 0=x:=by
  intro l x hl hx;match l,hl with
  | [y],_=>simp at hx;rw[hx];rfl
 have hw:nth (nY v (aC f)) 0∈nY v (aC f):=bz R3;rcases mG.1 hw with hn | ⟨t,ht,e,hm⟩
 ·cases hn
 obtain⟨b,hbl,htb⟩:=gC.1 ht;rcases iZ.1 htb with⟨i,hi,rfl⟩ | ⟨k,hk,rfl⟩ | rfl
 ·rw[e]at b3;simp[phiT]at b3;omega
 ·rw[e]at hd hc;have e1:((insT f b k).blk).toNat=b:=by simp[insT]
  have e2:((insT f b k).place).toNat=k:=by simp[insT]
  simp only[e1,e2]at hd hc;refine⟨b,k,hbl,hk,hd,λh16=>?_,hm,λt' ht' hm'=>?_⟩
  ·rw[h16]at hc;exact absurd hc R4
  have m1:(t'.blk,t'.place)∈nY v (aC f):=mG.2 (.inr ⟨t',ht',rfl,hm'⟩);have:=one R3 m1;rw[e]at this;have:=Prod.mk.inj this;simp[insT]at this;exact⟨this.1.symm,this.2.symm⟩
 cases hm
theorem pa{f:aq}{v op:Int}:(cV f v op).2=(aD f v op).2/\((aD f v op).2=RN->(cV f v op).1=(aD f v op).1):=by
 cases h:dK f v with
 | false=>
  have e:(aD f v op).2=false:=by unfold aD C7;cases mf f v<;>simp[h]
  refine⟨?_,λhh=>by rw[e]at hh;cases hh⟩;rw[e];unfold cV uV;cases qz f v with
  | none=>rfl
  | some t=>dsimp only;split<;>simp[h]
 | true=>
  obtain⟨b,k,hb,hk,hd,h16,hm,hu⟩:=Fm h;have hs : ∃t,qz f v=RJ t/\t.blk=b/\t.place=k:=by
   have:(qz f v).isSome=true:=by unfold qz;rw[List.find?_isSome];exact⟨_,mM hb hk,by simpa using hm⟩
   obtain⟨t,ht⟩:=PB.1 this;have h1:=O4 ht;have h2:=P1 ht;obtain⟨g1,g2⟩:=hu t h1 (by simpa using h2);exact⟨t,ht,g1,g2⟩
  obtain⟨t,ht,t1,t2⟩:=hs;have hi:fw f t=nth (nth f.blocks b).ins k:=by unfold fw eY;rw[t1,t2];simp
  have hmI:mf f v=RJ (nth (nth f.blocks b).ins k):=by
   have:(mf f v).isSome=true:=by unfold mf;rw[List.find?_isSome];exact⟨nth (nth f.blocks b).ins k,gS.2 ⟨b,k,hb,hk,rfl⟩,by simp[iA,h16,hd]⟩
   obtain⟨i,hmi⟩:=PB.1 this;have h1:=O4 hmi;have h2:=P1 hmi;obtain⟨b',k',hb',hk',rfl⟩:=gS.1 h1;simp[iA]at h2;obtain⟨g1,g2⟩:=hu _ (mM hb' hk') (by have:=CT h2.1;rw[h2.2]at this;exact this);simp[insT]at g1 g2;obtain rfl:b'=b:=by omega
   obtain rfl:k'=k:=by omega
   exact hmi
  unfold cV uV aD C7;rw[ht,hmI];dsimp only;rw[if_neg R3,hi];exact⟨rfl,λ_=>rfl⟩
def lX (f:aq) (v lo hi:Int):Int × Bool:=((cV f v 1).1.imm.v,(cV f v 1).2&&inR (cV f v 1).1.imm.v lo hi)
theorem xO{f:aq}{v lo hi:Int}:(lX f v lo hi).2=(dz f v lo hi).2/\((dz f v lo hi).2=RN->(lX f v lo hi).1=(dz f v lo hi).1):=by
 obtain⟨h1,h2⟩:=pa (f:=f) (v:=v) (op:=1);unfold lX dz;dsimp only;rw[h1];cases h:(aD f v 1).2 with
 | false=>simp
 | true=>rw[h2 h];simp
def dZ (val:Int) (l:List Int):Nat:=l.foldl (λc n=>if n=val then c+1 else c) 0
theorem tj {val:Int} : ∀{l:List Int} {c:Nat},l.foldl (λc n=>if n=val then c+1 else c) c<=c+l.length
 | [],c=>NO _
 | a::l,c=>by
  rw[N8];have:=tj (val:=val) (l:=l) (c:=if a=val then c+1 else c);have h2:(if a=val then c+1 else c)<=c+1:=by split<;>omega
  simp only[OX];omega
theorem He{l:List Int}{vl:Value}{h:Heap}(hl:SlRd (vw h) vl l):
  az RP 147 #[vl,RG RH val] h (λu h'=>u = RG RH (dZ val l:Nat)/\h'=h):=by
 refine ao (args:=[vl,RG RH val]) follows Tryz.func147 E.fL RB λK hK=>?_;have hb:=hl.bound;dsimp only[L.fL,lkF,lkG];refine aa λz hz=>?_;simp;subst hz;refine aa λz hz=>?_;simp;subst hz;refine aa λz hz=>?_;simp;refine bX [0,1,5,6] (fun(_:Unit) i=>[vl,RG RH val,RG RH (dZ val (l.take i):Nat),RG RH i]) (λ_ i h3=>h3=h) l.length ()
  rfl R3 rfl rfl (λ_ _=>rfl) (λv k h3 hk m=>by simp[hl.len]) ?_ ?_
 ·rintro _ i h hlti rfl K2 hK2;have hst:dZ val (l.take (i+1))=if nth l i=val then dZ val (l.take i)+1 else dZ val (l.take i):=by rw[NT hlti];unfold dZ;rw[O8,aA hlti];rfl
  have hc:dZ val (l.take i)<=l.length:=by
   have:=tj (val:=val) (l:=l.take i) (c:=0);have h2:(l.take i).length<=l.length:=by simp;omega
   unfold dZ;omega
  by_cases e:nth l i=val
  ·rw[if_pos e]at hst;simp(disch:=omega)[hl.idx1 rfl,hl.int RD,e];exact hK2 () _ _ rfl (by simp[bF,hst]) rfl
  rw[if_neg e]at hst;simp(disch:=omega)[hl.idx1 rfl,hl.int RD,e];exact hK2 () _ _ rfl (by simp[bF,hst]) rfl
 rintro _ h rfl;rw[OK];simp;subst hz;simp;exact hK _ _ ⟨rfl,rfl⟩
structure FSt where
 made:Nat
 taken:Nat
 p:Th
 q:Th
def thZ:Th:=⟨0,0,[],[]⟩
def nF (val:Int) (s:FSt) (t:Th):FSt:=⟨s.made+dZ val t.mks,s.taken+dZ val t.tks,if 0<dZ val t.mks then t else s.p,if 0<dZ val t.tks then t else s.q⟩
def fAll (val:Int) (l:List Th):FSt:=l.foldl (nF val) ⟨0,0,thZ,thZ⟩
def fBad (s:FSt):Bool:=!decide (s.made=1)||!decide (s.taken=1)||decide (s.p.place<0)||decide (s.q.place<=s.p.place)||!decide (s.q.blk=s.p.blk)
def kr (f:aq) (val:Int):Bool:=!fBad (fAll val (aC f))&&(decide ((fw f (fAll val (aC f)).p).dst=val)&&[1,2,4,11,12,13].contains (fw f (fAll val (aC f)).p).op)
def pR (D E:Nat) (p q:Th):Own:=λk=>if k=(0,0) then bx T.cC D p else if k=(0,1) then bx T.cC E q else RK
theorem Nq{D E:Nat}{p q p':Th}(k:Key):pR D E p' q k=(pR D E p q).upd (0,0) (bx T.cC D p') k:=by
 unfold pR Own.upd;repeat' split
 all_goals first | rfl | simp_all
theorem Nr{D E:Nat}{p q q':Th}(k:Key):pR D E p q' k=(pR D E p q).upd (0,1) (bx T.cC E q') k:=by
 unfold pR Own.upd;repeat' split
 all_goals first | rfl | simp_all
theorem Is {val:Int} {L:List Th} : ∀{l:List Th} {s:FSt},(∀t∈l,t∈L)->(0<s.made->s.p∈L/\0<dZ val s.p.mks)->0<(l.foldl (nF val) s).made->(l.foldl (nF val) s).p∈L/\0<dZ val (l.foldl (nF val) s).p.mks
 | [],s,_,h=>h
 | t::l,s,hl,h=>by
  rw[N8];refine Is (λt ht=>hl t (NZ _ ht)) λhm=>?_;unfold nF at hm ⊢;simp only at hm ⊢;by_cases c:0<dZ val t.mks
  ·rw[if_pos c];exact⟨hl t NX,c⟩
  rw[if_neg c];exact h R3
theorem xr{f:aq}{v:Value}{h:Heap}(hv:Rd (vw h) v f)(hsm:SmF f):
  az RP 128 #[v,RG RH val] h (λu h'=>u = .bool (kr f val)/\(vw h).le (vw h')):=by
 refine ao (args:=[v,RG RH val]) follows Tryz.func128 E.dq RB λK hK=>?_;dsimp only[L.dq,lkF,lkG];refine aa λz hz=>?_;simp;refine fW rfl hv λh1 _ hle1 hs1 hat=>?_;obtain⟨_,vb,cb⟩:=gH hat;obtain⟨u,hu,hur⟩:=hat.aZ rfl;have hu:Un.ev (vw h1) (.aZ 2) (RM (RJ ⟨h.size,0,RK⟩))=RJ u:=hu;generalize h.size=B at cb hu;subst hz;refine aa λz hz=>?_;simp[hu];refine ah R1 (kD hur RD hsm) ?_;rintro vt h2 ⟨hle2,ht⟩;have hW2:(grow (vw h1) h1 h2).le (vw h2):=gU hle2;have hV2:(vw h1).le (grow (vw h1) h1 h2):=aW RD;generalize grow (vw h1) h1 h2=W2 at ht hW2 hV2;subst hz;refine aa λz hz=>?_;simp;subst hz;refine aa λz hz=>?_;simp;subst hz;refine aa λz hz=>?_;have rz : ∀{W:View},Rd W (.agg #[RG RH 0,RG RH 0,RL RK 0 0,RL RK 0 0]) thZ:=fun{W}=>Bl ⟨R4,R4⟩ ⟨R4,R4⟩ aE aE;simp;refine ak (z:=.agg #[RG RH 0,RG RH 0,RL RK 0 0,RL RK 0 0]) (places:=[(0,1),(1,1),(2,1),(3,1)]) (vs:=[]) (cs:=#[RG RH 0,RG RH 0,RL RK 0 0,RL RK 0 0]) R1 R1 Sa R1 ?_;refine fG (n:=4) (v:=.agg #[RG RH 0,RG RH 0,RL RK 0 0,RL RK 0 0]) (z:=.agg #[RG RH 0,RG RH 0,RL RK 0 0,RL RK 0 0]) R1 rfl R1 rfl R8 R5 R5 λh3 hle3 hs3 hb3=>?_;have w3:=(Owns.start hW2).add (k:=(0,0)) rfl (fX (h:=h3) (d:=thZ) hb3 rz R4) hle3 (λb hb=>by simp only[Value.ownBlock,NN]at hb;omega)
 generalize h2.size=D at w3;subst hz;refine aa λz hz=>?_;simp;refine ak (z:=.agg #[RG RH 0,RG RH 0,RL RK 0 0,RL RK 0 0]) (places:=[(0,1),(1,1),(2,1),(3,1)]) (vs:=[]) (cs:=#[RG RH 0,RG RH 0,RL RK 0 0,RL RK 0 0]) R1 R1 Sa R1 ?_;refine fG (n:=4) (v:=.agg #[RG RH 0,RG RH 0,RL RK 0 0,RL RK 0 0]) (z:=.agg #[RG RH 0,RG RH 0,RL RK 0 0,RL RK 0 0]) R1 rfl R1 rfl R8 R5 R5 λh4 hle4 hs4 hb4=>?_;have w4:=w3.add (k:=(0,1)) rfl (fX (h:=h4) (d:=thZ) hb4 rz R4) hle4 (λb hb=>by simp only[Value.ownBlock,NN]at hb;omega);generalize h3.size=E at w4;have w4:Owns W2 h4 (pR D E thZ thZ):=w4.congr λq=>by
  unfold pR Own.upd;repeat' split
  all_goals first | rfl | simp_all
 have hth : ∀t∈aC f,ThOk f t:=λt ht=>lM hsm ht;have htl:=xE hsm;have hfs:kr f val=(!fBad (fAll val (aC f))&&(decide ((fw f (fAll val (aC f)).p).dst=val)&&[1,2,4,11,12,13].contains (fw f (fAll val (aC f)).p).op)):=rfl;generalize aC f=ts at ht hth htl hfs;subst hz;refine aa λz hz=>?_;simp;refine bX [1,2,5,6,7,8,9,10] (fun(_:Unit) i=>[RG RH val,RM (RJ ⟨B,0,RK⟩),vt,RG RH (fAll val (ts.take i)).made,RG RH (fAll val (ts.take i)).taken,RM (RJ ⟨D,0,RK⟩),RM (RJ ⟨E,0,RK⟩),RG RH i])
  (λ_ i h5=>Owns W2 h5 (pR D E (fAll val (ts.take i)).p (fAll val (ts.take i)).q)/\(fAll val (ts.take i)).made<=i*10000/\(fAll val (ts.take i)).taken<=i*10000) ts.length ()
  rfl R3 rfl ⟨w4,PV _,PV _⟩ (λ_ _=>rfl) (λv k h5 hk m=>by simp[(ht.mono m.1.wle).len]) ?_ ?_
 ·rintro _ i h5 hlti ⟨w5,g1,g2⟩ K2 hK2;have hst:fAll val (ts.take (i+1))=nF val (fAll val (ts.take i)) (nth ts i):=by rw[NT hlti,aA hlti];unfold fAll;rw[O8];rfl
  have hok:=hth _ (bz hlti);obtain⟨ut,hut,hutr⟩:=ht.wh rfl (N:=4) rfl hlti;have hat:=ht.at hlti;rw[<-aA hlti]at hat;obtain⟨vm,hvm⟩:=(hat.part Th.BI).sl;obtain⟨vk,hvk⟩:=(hat.part Th.Bq).sl;have hvm1:an W2 (((slA vt).add (i*4)).add 2)=RJ vm:=hvm.1;have hvk1:an W2 (((slA vt).add (i*4)).add 3)=RJ vk:=hvk.1;have hvm2:=hvm.2;have hvk2:=hvk.2;generalize nth ts i=t at hst hvm2 hvk2 hutr hok;generalize fAll val (ts.take i)=s at hst w5 g1 g2;clear hat hvm hvk;have l1:dZ val t.mks<=10000:=by have:=tj (val:=val) (l:=t.mks) (c:=0);have:=hok.mks;unfold dZ;omega
  have l2:dZ val t.tks<=10000:=by have:=tj (val:=val) (l:=t.tks) (c:=0);have:=hok.tks;unfold dZ;omega
  have hfin : ∀ρ' h',Lft.look ρ' 10=RJ (RG RH i)->bF [1,2,5,6,7,8,9,10] (setE ρ' 10 (RG RH ((i:Int)+1)))=[1,2,5,6,7,8,9,10].zip [RG RH val,RM (RJ ⟨B,0,RK⟩),vt,RG RH ((s.made+dZ val t.mks:Nat):Int),RG RH ((s.taken+dZ val t.tks:Nat):Int),RM (RJ ⟨D,0,RK⟩),RM (RJ ⟨E,0,RK⟩),RG RH ((i+1:Nat):Int)]->Owns W2 h' (pR D E (if 0<dZ val t.mks then t else s.p) (if 0<dZ val t.tks then t else s.q))->K2 ρ' h':=λρ' h' a1 a2 a3=>hK2 () ρ' h' a1 (by rw[a2,hst];rfl) (by rw[hst];exact⟨a3,by show s.made+dZ val t.mks<=_;omega,by show s.taken+dZ val t.tks<=_;omega⟩);refine aa λy hy=>?_;simp(disch:=omega)[(ht.mono w5.wle).idxn (N:=4) rfl,ae w5.wle hvm1];refine ah R1 (He (hvm2.mono w5.wle)) ?_;rintro _ h5 ⟨rfl,rfl⟩;subst hy;refine aa λy hy=>?_;simp(disch:=omega)[(ht.mono w5.wle).idxn (N:=4) rfl,ae w5.wle hvk1];refine ah R1 (He (hvk2.mono w5.wle)) ?_;rintro _ h5 ⟨rfl,rfl⟩;subst hy;generalize dZ val t.mks=a at hfin l1;generalize dZ val t.tks=b at hfin l2;refine ff (λρ h6=>∃tl,Owns W2 h6 (pR D E (if 0<a then t else s.p) s.q)/\ρ=[(1,RG RH val),(2,RM (RJ ⟨B,0,RK⟩)),(5,vt),(6,RG RH s.made),(7,RG RH s.taken),(8,RM (RJ ⟨D,0,RK⟩)),(9,RM (RJ ⟨E,0,RK⟩)),(10,RG RH i),(11,RG RH a),(12,RG RH b)]++tl) ?_ ?_
  ·intro K3 hK3;by_cases c1:0<a
   ·rw[if_pos c1]at hK3;simp(disch:=omega)[c1,(ht.mono w5.wle).idxn (N:=4) rfl,hut _ w5.wle];refine w5.cI (k:=(0,0)) (e:=T.cC) (B:=D) (D:=s.p) Part.all (d:=t) rfl R1 rfl rfl hutr λh6 w6 _=>?_;exact hK3 _ _ ⟨_,w6.congr Nq,rfl⟩
   rw[if_neg c1]at hK3;simp(disch:=omega)[c1];exact hK3 _ _ ⟨_,w5,rfl⟩
  rintro ρ h6 ⟨tl,w6,rfl⟩;refine ff (λρ h7=>∃tl,Owns W2 h7 (pR D E (if 0<a then t else s.p) (if 0<b then t else s.q))/\ρ=[(1,RG RH val),(2,RM (RJ ⟨B,0,RK⟩)),(5,vt),(6,RG RH s.made),(7,RG RH s.taken),(8,RM (RJ ⟨D,0,RK⟩)),(9,RM (RJ ⟨E,0,RK⟩)),(10,RG RH i),(11,RG RH a),(12,RG RH b)]++tl) ?_ ?_
  ·intro K3 hK3;by_cases c1:0<b
   ·rw[if_pos c1]at hK3;simp(disch:=omega)[c1,(ht.mono w6.wle).idxn (N:=4) rfl,hut _ w6.wle,af,ag];refine w6.cI (k:=(0,1)) (e:=T.cC) (B:=E) (D:=s.q) Part.all (d:=t) rfl R1 rfl rfl hutr λh7 w7 _=>?_;exact hK3 _ _ ⟨_,w7.congr Nr,rfl⟩
   rw[if_neg c1]at hK3;simp(disch:=omega)[c1,af,ag];exact hK3 _ _ ⟨_,w6,rfl⟩
  rintro ρ h7 ⟨tl,w7,rfl⟩;simp(disch:=omega)[af,ag];exact hfin _ _ (by simp[af,ag]) (by simp[bF,af,ag]) w7
 rintro _ h5 ⟨w5,g1,g2⟩;have hp:0<(fAll val ts).made->(fAll val ts).p∈ts/\0<dZ val (fAll val ts).p.mks:=λh=>Is (l:=ts) (s:=⟨0,0,thZ,thZ⟩) (λt ht=>ht) (λh=>by cases h) h;rw[OK]at w5 g1 g2;rw[OK];generalize fAll val ts=s at w5 hfs g1 g2 hp;obtain⟨pb,pp,_,_⟩:=yl (w5.at (k:=(0,0)) (e:=T.cC) (B:=D) (d:=s.p) rfl);obtain⟨qb,qp,_,_⟩:=yl (w5.at (k:=(0,1)) (e:=T.cC) (B:=E) (d:=s.q) rfl);have hle:=RE hle1 (RE hV2 w5.wle);simp;subst hz;refine aa λz hz=>?_;simp[pb,pp,qb,qp];have hfb:(!decide ((s.made:Int)=1)||!decide ((s.taken:Int)=1)||decide (s.p.place<0)||decide (s.q.place<=s.p.place)||!decide (s.q.blk=s.p.blk))=fBad s:=by
  unfold fBad;have e1:decide ((s.made:Int)=1)=decide (s.made=1):=by rw[OA];simp;omega
  have e2:decide ((s.taken:Int)=1)=decide (s.taken=1):=by rw[OA];simp;omega
  rw[e1,e2]
 rw[hfb];cases hbad:fBad s with
 | true=>rw[sP];rw[hbad]at hfs;exact hK _ _ ⟨by rw[hfs];rfl,hle⟩
 | false=>
  rw[qF];rw[hbad]at hfs;simp only[fBad,O2,Bool.not_eq_false',decide_eq_true_eq,decide_eq_false_iff_not]at hbad;obtain⟨⟨⟨⟨b1,b2⟩,b3⟩,b4⟩,b5⟩:=hbad;obtain⟨hm,hc⟩:=hp R3;have hok:=hth _ hm;have hpb:=hok.blk;have hpl:=hok.ins R3 (λe=>by rw[e]at hc;exact absurd hc (by simp[dZ]));have cc5:=ae (RE hV2 w5.wle) cb.1;have cb5:=cb.2.mono (RE hV2 w5.wle);obtain⟨ul,hul⟩:=((cb5.at (i:=s.p.blk.toNat) R3).part BlkD.jY).sl;rw[<-aA R3]at hul;have hul1:an (vw h5) (((slA vb).add (s.p.blk.toNat*6)).add 1)=RJ ul:=hul.1;obtain⟨ui,hui,huir⟩:=hul.2.wh rfl (N:=5) rfl (i:=s.p.place.toNat) R3;have hli:=hul.2;have hins:fw f s.p=nth (nth f.blocks s.p.blk.toNat).ins s.p.place.toNat:=rfl;rw[hins]at hfs;generalize nth (nth f.blocks s.p.blk.toNat).ins s.p.place.toNat=x at huir hfs;subst hz;refine aa λz hz=>?_;refine aH (vw h5) RD ?_;simp(disch:=omega)[pb,pp,cc5,cb5.idxn (N:=6) rfl,hul1,hli.idxn (N:=5) rfl,hui _ RD];refine cZ (z:=.agg #[RG RH 0,RG RH 0,RG RH 0,RL RK 0 0,RG RI 0]) R1 ?_;have hle6:=bM h5 (.cells (Value.cells (.agg #[RG RH 0,RG RH 0,RG RH 0,RL RK 0 0,RG RI 0])) T.dR);have hb6:(h5.push (.cells (Value.cells (.agg #[RG RH 0,RG RH 0,RG RH 0,RL RK 0 0,RG RI 0])) T.dR))[h5.size]? = RJ (.cells (Value.cells (.agg #[RG RH 0,RG RH 0,RG RH 0,RL RK 0 0,RG RI 0])) T.dR (0,0)):=by simp
  generalize h5.push (.cells (Value.cells (.agg #[RG RH 0,RG RH 0,RG RH 0,RL RK 0 0,RG RI 0])) T.dR)=h6 at hle6 hb6;refine⟨hle6,?_⟩;obtain⟨g1',g2',g3'⟩:=fS huir;refine eJ (g:=h5.size) (o:=0) (n:=5) (v:=ui) R1 rfl rfl g2' g3' hb6 Sa λh7 hs7 ⟨row,hr7,he7⟩ ho7=>?_;have hrow:row=ui.cells:=by have g2'':ui.cells.size=5:=g2';rw[<-Array.toList_inj,he7];simp
  rw[hrow]at hr7;have hle7:(vw h5).le (vw h7):=λb o hb=>by have hlt:=View.lt (View.le_refl (vw h5)) hb;show h7[b]? = _;rw[ho7 b R3];exact hle6 b o hb
  have hat7:At (vw h7) ⟨h5.size,0,RK⟩ x:=og (show vw h7 h5.size=_ from hr7) (huir.mono hle7);obtain⟨q0,q1,_⟩:=fI hat7;generalize h5.size=D7 at q0 q1;subst hz;have hres:kr f val=(decide (x.dst=val)&&[1,2,4,11,12,13].contains x.op):=by rw[hfs];rfl
  by_cases c6:x.dst=val
  ·simp[q0,q1,c6];have hc6:[1,2,4,11,12,13].contains x.op=(decide (x.op=1)||decide (x.op=2)||decide (x.op=4)||decide (x.op=11)||decide (x.op=12)||decide (x.op=13)):=by rw[OA];simp[or_assoc]
   exact hK _ _ ⟨by rw[hres,decide_eq_true c6,Pj,hc6],RE hle hle7⟩
  simp[q0,q1,c6];exact hK _ _ ⟨by rw[hres,decide_eq_false c6,Q8],RE hle hle7⟩
def Lst (l:WL) (c:Nat) (t:Th):Prop:=l.length=c/\(0<c->∃a,l=a++[(t.blk,t.place)])
theorem yT {val:Int} {w:Int × Int} : ∀{ns:List Int} {l:WL},(ns.foldl (bJ val w) l).length=l.length+dZ val ns/\(0<dZ val ns->∃a,ns.foldl (bJ val w) l=a++[w])/\(dZ val ns=0->ns.foldl (bJ val w) l=l)
 | [],l=>⟨rfl,(λh=>absurd h (Nat.lt_irrefl 0)),λ_=>rfl⟩
 | n::ns,l=>by
  have hc:dZ val (n::ns)=(if n=val then 1 else 0)+dZ val ns:=by
   have key : ∀(ns:List Int) (c:Nat),ns.foldl (λc n=>if n=val then c+1 else c) c=c+dZ val ns:=by
    intro ns;induction ns with
    | nil=>intro c;rfl
    | cons a ns ih=>intro c;unfold dZ;rw[N8,N8,ih,ih (if a=val then 0+1 else 0)];split<;>omega
   unfold dZ;rw[N8,key];unfold dZ;split<;>omega
  rw[N8];obtain⟨h1,h2,h3⟩:=yT (val:=val) (w:=w) (ns:=ns) (l:=bJ val w l n);unfold bJ at h1 h2 h3 ⊢;by_cases e:n=val
  ·rw[if_pos e]at hc h1 h2 h3 ⊢;refine⟨?_,λ_=>?_,λh=>by omega⟩
   ·have:(l++[w]).length=l.length+1:=by simp
    omega
   rcases PG (dZ val ns)with h0 | h0
   ·exact⟨l,h3 h0⟩
   exact h2 h0
  rw[if_neg e]at hc h1 h2 h3 ⊢;rw[O7]at hc;rw[hc];exact⟨h1,h2,h3⟩
theorem Cf{l:WL}{c:Nat}{p t:Th}{ns:List Int}(h:Lst l c p):Lst (ns.foldl (bJ val (t.blk,t.place)) l) (c+dZ val ns) (if 0<dZ val ns then t else p):=by
 obtain⟨h1,h2,h3⟩:=yT (val:=val) (w:=(t.blk,t.place)) (ns:=ns) (l:=l);refine⟨by rw[h1,h.1],λhp=>?_⟩;by_cases e:0<dZ val ns
 ·rw[if_pos e];exact h2 e
 rw[if_neg e,h3 R3];exact h.2 R3
theorem EG {val:Int} : ∀{ts:List Th} {l1 l2:WL} {s:FSt},Lst l1 s.made s.p->Lst l2 s.taken s.q->Lst (ts.foldl (sA val) l1) (ts.foldl (nF val) s).made (ts.foldl (nF val) s).p/\Lst (ts.foldl (pE val) l2) (ts.foldl (nF val) s).taken (ts.foldl (nF val) s).q
 | [],_,_,_,h1,h2=>⟨h1,h2⟩
 | t::ts,l1,l2,s,h1,h2=>by rw[N8,N8,N8];exact EG (s:=nF val s t) (Cf h1) (Cf h2)
theorem Eh{l:WL}{t:Th}(h:Lst l 1 t):nth l 0=(t.blk,t.place):=by obtain⟨h1,h2⟩:=h;obtain⟨a,e⟩:=h2 R3;have ha:a=[]:=N3 (by rw[e,N1,OC]at h1;omega);subst ha;rw[e];rfl
theorem yE{f:aq}:dK f val=kr f val:=by
 obtain⟨h1,h2⟩:=EG (val:=val) (ts:=aC f) (l1:=[]) (l2:=[]) (s:=⟨0,0,thZ,thZ⟩) ⟨rfl,λh=>by cases h⟩ ⟨rfl,λh=>by cases h⟩;have e1:dK f val=jr f val ((aC f).foldl (sA val) []) ((aC f).foldl (pE val) []):=rfl;have e2:kr f val=(!fBad (fAll val (aC f))&&(decide ((fw f (fAll val (aC f)).p).dst=val)&&[1,2,4,11,12,13].contains (fw f (fAll val (aC f)).p).op)):=rfl;rw[e1,e2];have e3:(aC f).foldl (nF val) ⟨0,0,thZ,thZ⟩=fAll val (aC f):=rfl;rw[e3]at h1 h2;generalize (aC f).foldl (sA val) []=l1 at h1;generalize (aC f).foldl (pE val) []=l2 at h2;generalize fAll val (aC f)=s at h1 h2;unfold jr mE fBad;rw[h1.1,h2.1];by_cases c1:s.made=1
 ·by_cases c2:s.taken=1
  ·rw[c1]at h1;rw[c2]at h2;rw[Eh h1,Eh h2];have hins:nth (nth f.blocks s.p.blk.toNat).ins s.p.place.toNat=fw f s.p:=rfl;rw[hins];have e4:decide (s.p.blk=s.q.blk)=decide (s.q.blk=s.p.blk):=by rw[OA];simp;exact eq_comm
   simp only[e4];congr 2;cases decide (s.p.place<0)<;>cases decide (s.q.place<=s.p.place)<;>cases decide (s.q.blk=s.p.blk)<;>simp[c1,c2]
  simp[c2]
 simp[c1]
end Go.Proofs.YtnfiilgdjpdlkaaGreatDoor
