/- A part of the proof: Shelf, Wk, Wl, Wm, Wn, Wo, Wq, Wr, Ws, Wt, Ha, Hb, Hc, Pa, Pb, Pd, Pc, Pe, Pf, Pg, Ph, Hd, He, Hf. -/
import Derived.Test.YtmhnaeecolpfkaaGreatDoorZCOwn1
import Derived.Shelf.Small.Bits
import Derived.Shelf.Small.Wraps
import Derived.Shelf.Strconv.Itoa0
import Derived.Shelf.Sort.Plain
import Derived.Shelf.Unicode.Latin
import Derived.Shelf.Unicode.Is16White
import Derived.Shelf.Unicode.IsSpaceAny
import Derived.Shelf.Unicode.Is16Any
import Derived.Shelf.Unicode.Is32Any
import Derived.Shelf.Unicode.ExclAny
import Derived.Shelf.Slices.Turned
import Derived.Shelf.Slices.Reverse
import Derived.Ground.Names2Prog
import Derived.Shelf.Slices.CompactI
import Derived.Shelf.Slices.SearchI
import Derived.Shelf.Slices.Cells
import Derived.Shelf.Slices.In.SortNone
import Derived.Test.YtmhnaeecolpfkaaGreatDoorProg
set_option linter.unusedSimpArgs false
set_option linter.unusedVariables false
open Go.Value renaming int->UH,slice->UM,pointer->UN
open Go.IntKind renaming i64->UI
open Option renaming some->UK,none->UL
open Bool renaming true->UO,false->UP
open Go.Proofs.Tryz renaming prog->UQ
namespace Go.Proofs
open Go.Shelf
def Tryz.Ep:Go.Shelf.Ren:=⟨fun | 189=>242 | 125=>248 | 257=>247 | 128=>258 | 129=>259 | 294=>249 | 295=>250 | 296=>251 | 297=>252 | 298=>253 | 299=>254 | 216=>255 | 300=>256 | 301=>257 | 328=>260 | 329=>261 | 330=>262 | 331=>263 | 332=>264 | 215=>265 | 343=>266 | n=>n,fun | 28=>22 | 3=>3 | 46=>68 | 0=>0 | 51=>226 | 53=>348 | 4=>4 | 183=>342 | 182=>341 | 131=>120 | 5=>5 | 9=>9 | 218=>349 | 222=>353 | 228=>355 | 229=>292 | n=>n,fun | n=>n⟩
theorem Tryz.Gq:Go.Proofs.Lays.n189 UQ Tryz.Ep:={
 mixed:=by kernel_rfl
 f125:=Tryz.func248.trans (congrArg UK U0)
 f128:=Tryz.func258.trans (congrArg UK U0)
 f129:=Tryz.func259.trans (congrArg UK U0)
 f189:=Tryz.func242.trans (congrArg UK U0)
 f215:=Tryz.func265.trans (congrArg UK U0)
 f216:=Tryz.func255.trans (congrArg UK U0)
 f257:=Tryz.func247.trans (congrArg UK U0)
 f294:=Tryz.func249.trans (congrArg UK U0)
 f295:=Tryz.func250.trans (congrArg UK U0)
 f296:=Tryz.func251.trans (congrArg UK U0)
 f297:=Tryz.func252.trans (congrArg UK U0)
 f298:=Tryz.func253.trans (congrArg UK U0)
 f299:=Tryz.func254.trans (congrArg UK U0)
 f300:=Tryz.func256.trans (congrArg UK U0)
 f301:=Tryz.func257.trans (congrArg UK U0)
 f328:=Tryz.func260.trans (congrArg UK U0)
 f329:=Tryz.func261.trans (congrArg UK U0)
 f330:=Tryz.func262.trans (congrArg UK U0)
 f331:=Tryz.func263.trans (congrArg UK U0)
 f332:=Tryz.func264.trans (congrArg UK U0)
 f343:=Tryz.func266.trans (congrArg UK U0)
 t0:=Tryz.underlying0
 a0:=Tryz.isAgg0
 z0:=Tryz.sizeOf0
 v0:=Tryz.zeroValue0
 t3:=Tryz.underlying3
 a3:=Tryz.isAgg3
 z3:=Tryz.sizeOf3
 v3:=Tryz.zeroValue3
 t4:=Tryz.underlying4
 a4:=Tryz.isAgg4
 z4:=Tryz.sizeOf4
 v4:=Tryz.zeroValue4
 t5:=Tryz.underlying5
 a5:=Tryz.isAgg5
 z5:=Tryz.sizeOf5
 v5:=Tryz.zeroValue5
 t9:=Tryz.underlying9
 a9:=Tryz.isAgg9
 z9:=Tryz.sizeOf9
 v9:=Tryz.zeroValue9
 t28:=Tryz.underlying22
 a28:=Tryz.isAgg22
 z28:=Tryz.sizeOf22
 v28:=Tryz.zeroValue22
 t46:=Tryz.underlying68
 a46:=Tryz.isAgg68
 z46:=Tryz.sizeOf68
 v46:=Tryz.zeroValue68
 t51:=Tryz.underlying226
 a51:=Tryz.isAgg226
 z51:=Tryz.sizeOf226
 v51:=Tryz.zeroValue226
 t53:=Tryz.underlying348
 a53:=Tryz.isAgg348
 z53:=Tryz.sizeOf348
 v53:=Tryz.zeroValue348
 t131:=Tryz.underlying120
 a131:=Tryz.isAgg120
 z131:=Tryz.sizeOf120
 v131:=Tryz.zeroValue120
 t182:=Tryz.underlying341
 a182:=Tryz.isAgg341
 z182:=Tryz.sizeOf341
 v182:=Tryz.zeroValue341
 t183:=Tryz.underlying342
 a183:=Tryz.isAgg342
 z183:=Tryz.sizeOf342
 v183:=Tryz.zeroValue342
 t218:=Tryz.underlying349
 a218:=Tryz.isAgg349
 z218:=Tryz.sizeOf349
 v218:=Tryz.zeroValue349
 t222:=Tryz.underlying353
 a222:=Tryz.isAgg353
 z222:=Tryz.sizeOf353
 v222:=Tryz.zeroValue353
 t228:=Tryz.underlying355
 a228:=Tryz.isAgg355
 z228:=Tryz.sizeOf355
 v228:=Tryz.zeroValue355
 t229:=Tryz.underlying292
 a229:=Tryz.isAgg292
 z229:=Tryz.sizeOf292
 v229:=Tryz.zeroValue292 }
open Go.Sort Go.RowKit in
theorem Tryz.slices_Sort_int(blk off cap:Nat)(zs:List Int)(w:World)(hH:Holds (UH .i64) w blk off zs.toArray)(hblk:blk<w.heap.size)(hsz:zs.length<4611686018427387904) :
  Calls UQ 242 #[UM (UK ⟨blk,off,UL⟩) zs.length cap] w λe w'=>e = .returned (.tuple #[])/\∃n os,w'=grow (putRow (UH .i64) (Sort.ahead w n) blk off (zs.mergeSort λx y=>decide (x<=y)).toArray) os:=Any.slices_Sort_int Tryz.Gq blk off cap zs w hH hblk hsz
def Tryz.DR:Go.Shelf.Ren:=⟨fun | 112=>237 | n=>n,fun | 28=>22 | 3=>3 | 4=>4 | 0=>0 | n=>n,fun | n=>n⟩
theorem Tryz.G4:Go.Proofs.Lays.n112 UQ Tryz.DR:={
 mixed:=by kernel_rfl
 f112:=Tryz.func237.trans (congrArg UK U0)
 t0:=Tryz.underlying0
 a0:=Tryz.isAgg0
 z0:=Tryz.sizeOf0
 v0:=Tryz.zeroValue0
 t3:=Tryz.underlying3
 a3:=Tryz.isAgg3
 z3:=Tryz.sizeOf3
 v3:=Tryz.zeroValue3
 t4:=Tryz.underlying4
 a4:=Tryz.isAgg4
 z4:=Tryz.sizeOf4
 v4:=Tryz.zeroValue4
 t28:=Tryz.underlying22
 a28:=Tryz.isAgg22
 z28:=Tryz.sizeOf22
 v28:=Tryz.zeroValue22 }
open Go.RowKit Go.Lib Go.Sort in
/-- slices.Reverse at []int: "Reverse reverses the elements of the slice in place.": THE SLICE's CELLS HOLD 'zs.reverse' BEHIND THE CALL; all else is as it was, but for the count of draws (the exchange 's[i], s[j] = s[j], s[i]' draws its order, once a round). IN THE WORDS OF slices.Sort's CONTRACT: 'Holds': the cells hold zs and none is frozen; 'putRow': the world with those cells holding another array. A slice of length 0 that is not nil is among them ('zs = []'); nil: '.._nil'. (LAID: no walk: one application.) -/
theorem Tryz.slices_Reverse_int(blk off cap:Nat)(zs:List Int)(w:World)(hH:Holds (UH .i64) w blk off zs.toArray)(hsz:zs.length<=9223372036854775807) :
  Calls UQ 237 #[UM (UK ⟨blk,off,UL⟩) zs.length cap] w λe w'=>e = .returned (.tuple #[])/\∃n,w'=putRow (UH .i64) (Sort.ahead w n) blk off zs.reverse.toArray:=Any.slices_Reverse_int Tryz.G4 blk off cap zs w hH hsz
open Go.RowKit Go.Lib Go.Sort in
/-- The same at a slice of length 0, a nil one too: nothing is read, nothing written, nothing drawn. (LAID: no walk: one application.) -/
theorem Tryz.slices_Reverse_int_empty(a:Option Addr)(cap:Nat)(w:World) :
  Calls UQ 237 #[.slice a 0 cap] w λe w'=>e = .returned (.tuple #[])/\w'=w:=Any.slices_Reverse_int_empty Tryz.G4 a cap w
def Tryz.Ag:Go.Shelf.Ren:=⟨fun | 20=>243 | n=>n,fun | 22=>22 | 3=>3 | 4=>4 | 0=>0 | n=>n,fun | n=>n⟩
theorem Tryz.Bd:Go.Proofs.Lays2.n20 UQ Tryz.Ag:={
 mixed:=by kernel_rfl
 f20:=Tryz.func243.trans (congrArg UK U0)
 t0:=Tryz.underlying0
 a0:=Tryz.isAgg0
 z0:=Tryz.sizeOf0
 v0:=Tryz.zeroValue0
 t3:=Tryz.underlying3
 a3:=Tryz.isAgg3
 z3:=Tryz.sizeOf3
 v3:=Tryz.zeroValue3
 t4:=Tryz.underlying4
 a4:=Tryz.isAgg4
 z4:=Tryz.sizeOf4
 v4:=Tryz.zeroValue4
 t22:=Tryz.underlying22
 a22:=Tryz.isAgg22
 z22:=Tryz.sizeOf22
 v22:=Tryz.zeroValue22
 i3:=by kernel_rfl }
open Go.RowKit Go.Lib Go.Sort in
/-- slices.Compact at []int: "Compact replaces consecutive runs of equal elements with a single copy. This is like the uniq command found on Unix. Compact modifies the contents of the slice s and returns the modified slice, which may have a smaller length. Compact zeroes the elements between the new length and the original length. The result preserves the nilness of s.": IT RETURNS THE SLICE CUT TO 'Lib.compact zs'; ITS CELLS HOLD 'Lib.compact zs', THEN ZERO VALUES up to the old length; all else is as it was, but for the count of draws. IN THE WORDS OF slices.Sort's CONTRACT ('Holds', 'putRow'): so the everyday 'slices.Sort(xs); xs = slices.Compact(xs)' goes from the one contract to the other. It asks 'zs.length <= cap' (every slice's: the reslicing 's[:k]' looks at it). Length 0, nil: '.._empty'. (LAID: no walk: one application.) -/
theorem Tryz.slices_Compact_int(blk off cap:Nat)(zs:List Int)(w:World)(hH:Holds (UH .i64) w blk off zs.toArray)(hsz:zs.length<=9223372036854775807)(hcap:zs.length<=cap) :
  Calls UQ 243 #[UM (UK ⟨blk,off,UL⟩) zs.length cap] w λe w'=>e = .returned (UM (UK ⟨blk,off,UL⟩) (Lib.compact zs).length cap)/\∃q,w'=putRow (UH .i64) (Sort.ahead w q) blk off (Lib.compact zs++List.replicate (zs.length-(Lib.compact zs).length) 0).toArray:=Any.slices_Compact_int Tryz.Bd blk off cap zs w hH hsz hcap
open Go.RowKit Go.Lib Go.Sort in
/-- The same at a slice of length 0, a nil one too: it comes back as it is. (LAID: no walk: one application.) -/
theorem Tryz.slices_Compact_int_empty(a:Option Addr)(cap:Nat)(w:World) :
  Calls UQ 243 #[.slice a 0 cap] w λe w'=>e = .returned (.slice a 0 cap)/\w'=w:=Any.slices_Compact_int_empty Tryz.Bd a cap w
open Go.RowKit Go.Sort in
/-- .. and plain. (LAID: no walk: one application.) -/
theorem Tryz.slices_Sort_int_none(p:Option Addr)(cap:Nat)(w:World) :
  Calls UQ 242 #[.slice p 0 cap] w λe w'=>e = .returned (.tuple #[])/\w'=w:=Any.slices_Sort_int_none Tryz.Gq p cap w
end Go.Proofs
open Go.Proofs
namespace Go.Lft
def I64(x:Int):Prop:=-9223372036854775808<=x/\x<=9223372036854775807
variable{W:View}
theorem sE{h:Heap}{e:TypeId}{v:Value}{l:List Int}:OwnT W h e v l↔l.length<=140737488355328/\(∀x∈l,I64 x)/\((v = UM UL 0 0/\l=[])\/
  ∃g cap cur,v = UM (UK ⟨g,0,UL⟩) l.length cap/\h[g]? = UK (.cells cur e (0,0))/\l.length<=cap/\cap<=maxLen/\cur.size=cap/\cur.toList.take l.length=l.map (.int .i64)):=by
 have hn:Rep.n Int=1:=rfl;constructor
 ·rintro⟨hb,xs,⟨hl,hown⟩,hel⟩;rw[hn,RY]at hl;have hel' : ∀(i:Nat) (hi:i<l.length),xs[i]? = UK (UH UI l[i])/\I64 l[i]:=λi hi=>by
   obtain⟨h1,h2⟩:=hel i hi;rw[hn,RY]at h1;have:(xs.drop i).take 1=[UH UI l[i]]:=h1;have h3:((xs.drop i).take 1)[0]? = UK (UH UI l[i]):=by rw[this];rfl
   rw[St,if_pos U3,Ti]at h3;exact⟨by simpa using h3,h2⟩
  have hxs:xs=l.map (.int .i64):=by
   refine TN λi=>?_;rcases Ri i l.length with hi | hi
   ·rw[(hel' i hi).1];simp[hi]
   rw[RP U1,RP (by simpa using hi)]
  refine⟨hb,λx hx=>?_,?_⟩
  ·obtain⟨i,hi,rfl⟩:=RH hx;exact(hel' i hi).2
  rcases hown with⟨rfl,h0⟩ | ⟨g,cap,cur,rfl,hg,h1,h2,h3,h4⟩
  ·exact .inl ⟨rfl,Ry h0⟩
  rw[hn,RY]at h3 h4;exact .inr ⟨g,cap,cur,rfl,hg,h1,h2,h3,by rw[h4,hxs]⟩
 rintro⟨hb,hr,hown⟩;refine⟨hb,l.map (.int .i64),⟨by rw[hn];simp,?_⟩,λi hi=>?_⟩
 ·rcases hown with⟨rfl,rfl⟩ | ⟨g,cap,cur,rfl,hg,h1,h2,h3,h4⟩
  ·exact .inl ⟨rfl,rfl⟩
  exact .inr ⟨g,cap,cur,rfl,hg,h1,h2,by rw[hn,RY];exact h3,by rw[hn,RY];exact h4⟩
 rw[hn,RY];refine⟨?_,hr _ (Sp hi)⟩;refine TN λj=>?_;rw[St];rcases Ri j 1 with hj | hj
 ·have:j=0:=by omega
  subst this;simp[hi]
 rw[if_neg U1];simp;omega
theorem wZ{w:World}{g cap:Nat}{cur:Array Value}{e:TypeId}{l:List Int}(hg:w.heap[g]? = UK (.cells cur e (0,0)))(h1:l.length<=cur.size)(h4:cur.toList.take l.length=l.map (.int .i64)):Go.Sort.Holds (UH .i64) w g 0 l.toArray:=by
 intro j hj;simp only[S2]at hj;have hc:cur[j]? = UK (UH UI l[j]):=by have:=congrArg (λx:List Value=>x[j]?) h4;simp only[St,hj,if_true,SH]at this;simpa[hj]using this
 constructor
 ·simp[World.cell?,hg,hc,hj]
 simp[World.frozen?,hg]
variable{h':Heap}
theorem CN{w:World}{e:TypeId}{v:Value}{g cap:Nat}{cur:Array Value}{l d:List Int}(hv:v = UM (UK ⟨g,0,UL⟩) l.length cap)(hg:w.heap[g]? = UK (.cells cur e (0,0)))(h1:l.length<=cap)(h2:cap<=maxLen)(h3:cur.size=cap)(hd:d.length=l.length)(hb:l.length<=140737488355328)(hr : ∀x∈d,I64 x)(n:Nat)(os:Array Obj)(hh:h'=(Go.Sort.grow (Go.Sort.putRow (UH .i64) (Go.Sort.ahead w n) g 0 d.toArray) os).heap):
  OwnT W h' e v d/\Kept w.heap h' v.ownBlock:=by
 subst hv;have hlt:g<w.heap.size:=(Rk.1 hg).1;have hcur:(Go.Sort.putCells (UH .i64) 0 d.toArray cur).toList.take d.length=d.map (.int .i64):=by
  refine TN λj=>?_;rw[St];split
  ·rename_i hj;have hjc:j<cur.size:=by omega
   simp[Go.Sort.putCells,hj,hjc]
  rename_i hj;exact(RP (by simpa using Nat.le_of_not_lt hj)).symm
 have hblk : ∀k,k<w.heap.size->h'[k]? = if g=k then(w.heap[k]?).map (Go.Sort.onCells (Go.Sort.putCells (UH .i64) 0 d.toArray)) else w.heap[k]?:=by intro k hk;subst hh;simp only[Go.Sort.grow,Go.Sort.putRow,Go.Sort.mapBlock,Go.Sort.ahead];rw[T9 (by simpa using hk),SY]
 have hsz:w.heap.size<=h'.size:=by subst hh;simp[Go.Sort.grow,Go.Sort.putRow,Go.Sort.mapBlock,Go.Sort.ahead]
 refine⟨sE.2 ⟨by omega,hr,.inr ⟨g,cap,Go.Sort.putCells (UH .i64) 0 d.toArray cur,by rw[hd],?_,by omega,h2,by simp[Go.Sort.putCells,h3],hcur⟩⟩,hsz,λk hk hne=>?_⟩
 ·rw[hblk g hlt,if_pos rfl,hg];rfl
 rw[hblk k hk,if_neg (λe=>hne (by simp[Value.ownBlock,e]))]
theorem tJ(w:World)(n g:Nat)(d:Array Int)(os:Array Obj):Same w (Go.Sort.grow (Go.Sort.putRow (UH .i64) (Go.Sort.ahead w n) g 0 d) os):=
 ⟨rfl,rfl,rfl,by simp[Go.Sort.grow,Go.Sort.putRow,Go.Sort.mapBlock,Go.Sort.ahead],λb hb=>by
  have hlt:=(Rk.1 hb).1;simp only[Go.Sort.grow,Go.Sort.putRow,Go.Sort.mapBlock,Go.Sort.ahead];rw[T9 (by simpa using hlt),SY];split
  ·rw[hb];rfl
  exact hb⟩
def sw(l:List Int):List Int:=l.mergeSort λx y=>decide (x<=y)
theorem Ml{h:Heap}{e:TypeId}{v:Value}{l:List Int}(o:OwnT W h e v l):ay UQ 242 #[v] h (λ_ h'=>OwnT W h' e v (sw l)/\Kept h h' v.ownBlock):=by
 rintro w rfl;obtain⟨hb,hr,hown⟩:=sE.1 o;have hlen:(sw l).length=l.length:=List.length_mergeSort _;have hr' : ∀x∈sw l,I64 x:=λx hx=>hr x (Uc.1 hx);rcases hown with⟨rfl,rfl⟩ | ⟨g,cap,cur,rfl,hg,h1,h2,h3,h4⟩
 ·refine(Tryz.slices_Sort_int_none UL 0 w).mono ?_;rintro e' w' ⟨rfl,rfl⟩;exact⟨_,rfl,⟨by simpa[sw]using o,Kept.refl _ _⟩,Same.refl _⟩
 refine(Tryz.slices_Sort_int g 0 cap l w (wZ (cap:=cap) hg U1 h4) (Rk.1 hg).1 U1).mono ?_;rintro e' w' ⟨rfl,n,os,rfl⟩;exact⟨_,rfl,CN rfl hg h1 h2 h3 hlen hb hr' n os rfl,tJ _ _ _ _ _⟩
variable{n:Nat}
theorem JX{h:Heap}{e:TypeId}{g cap:Nat}{l:List Int}(o:OwnT W h e (UM (UK ⟨g,0,UL⟩) l.length cap) l)(hn:n<=l.length):OwnT W h e (UM (UK ⟨g,0,UL⟩) n cap) (l.take n):=by
 obtain⟨hb,hr,hown⟩:=sE.1 o;have hl:(l.take n).length=n:=by simp;omega
 rcases hown with⟨hv,_⟩ | ⟨g',cap',cur,hv,hg,h1,h2,h3,h4⟩
 ·cases hv
 cases hv;refine sE.2 ⟨by omega,λx hx=>hr x (List.mem_of_mem_take hx),.inr ⟨g,cap,cur,by rw[hl],hg,by omega,h2,h3,?_⟩⟩;rw[hl,List.map_take,<-h4,Sy,Sv hn]
theorem xP{l:List Int}:(Lib.compact l).length<=l.length:=by unfold Lib.compact Lib.compactUpTo;rw[SJ];exact Rt (TV _ _) U2
theorem rE{l:List Int}{x:Int}(hx:x∈Lib.compact l):x∈l:=by unfold Lib.compact Lib.compactUpTo at hx;simp only[Sf,SP,SG]at hx;obtain⟨i,⟨hi,_⟩,rfl⟩:=hx;simp[hi]
theorem Gc{h:Heap}{e:TypeId}{v:Value}{l:List Int}(o:OwnT W h e v l):ay UQ 243 #[v] h (λv' h'=>OwnT W h' e v' (Lib.compact l)/\lA h h' v v'):=by
 rintro w rfl;obtain⟨hb,hr,hown⟩:=sE.1 o;have hlen:=xP (l:=l);rcases hown with⟨rfl,rfl⟩ | ⟨g,cap,cur,rfl,hg,h1,h2,h3,h4⟩
 ·refine(Tryz.slices_Compact_int_empty UL 0 w).mono ?_;rintro e' w' ⟨rfl,rfl⟩;exact⟨_,rfl,⟨o,Kept.refl _ _,.inl rfl⟩,Same.refl _⟩
 refine(Tryz.slices_Compact_int g 0 cap l w (wZ (cap:=cap) hg U1 h4) U1 h1).mono ?_;rintro e' w' ⟨rfl,n,hw⟩;have hw':w'=Go.Sort.grow (Go.Sort.putRow (UH .i64) (Go.Sort.ahead w n) g 0 (Lib.compact l++List.replicate (l.length-(Lib.compact l).length) 0).toArray) #[]:=by rw[hw];simp
 have hdl:(Lib.compact l++List.replicate (l.length-(Lib.compact l).length) 0).length=l.length:=by simp;omega
 have hrd : ∀x∈(Lib.compact l++List.replicate (l.length-(Lib.compact l).length) (0:Int)),I64 x:=λx hx=>by
  rcases Rj.1 hx with hx | hx
  ·exact hr x (rE hx)
  obtain⟨_,rfl⟩:=List.mem_replicate.1 hx;exact U6
 obtain⟨o2,k2⟩:=CN (W:=W) (h':=w'.heap) rfl hg h1 h2 h3 hdl hb hrd n #[] (by rw[hw']);have o3:=JX (n:=(Lib.compact l).length) (by rw[hdl];exact o2) U2;rw[List.take_left'  rfl]at o3;exact⟨_,rfl,⟨o3,k2,.inl rfl⟩,by rw[hw'];exact tJ _ _ _ _ _⟩
theorem Gj{h:Heap}{e:TypeId}{v:Value}{l:List Int}(o:OwnT W h e v l):ay UQ 237 #[v] h (λ_ h'=>OwnT W h' e v l.reverse/\Kept h h' v.ownBlock):=by
 rintro w rfl;obtain⟨hb,hr,hown⟩:=sE.1 o;rcases hown with⟨rfl,rfl⟩ | ⟨g,cap,cur,rfl,hg,h1,h2,h3,h4⟩
 ·refine(Tryz.slices_Reverse_int_empty UL 0 w).mono ?_;rintro e' w' ⟨rfl,rfl⟩;exact⟨_,rfl,⟨o,Kept.refl _ _⟩,Same.refl _⟩
 refine(Tryz.slices_Reverse_int g 0 cap l w (wZ (cap:=cap) hg U1 h4) U1).mono ?_;rintro e' w' ⟨rfl,n,hw⟩;have hw':w'=Go.Sort.grow (Go.Sort.putRow (UH .i64) (Go.Sort.ahead w n) g 0 l.reverse.toArray) #[]:=by rw[hw];simp
 exact⟨_,rfl,CN rfl hg h1 h2 h3 U2 hb (λx hx=>hr x (by simpa using hx)) n #[] (by rw[hw']),by rw[hw'];exact tJ _ _ _ _ _⟩
def rz(row:List Int)(n:Int)(i:Nat):Bool:=decide (0<=nth row i)&&decide (nth row i<n)
def mL(row:List Int)(n:Int):List Int:=Lib.compact (sw (sift (rz row n) (λi=>nth row i) row.length))
variable{row:List Int}
theorem Gw{n:Int}{vr:Value}{h:Heap}(hr:SlRd (vw h) vr row)(hs:row.length<=1000000):
  ay UQ 234 #[vr,UH UI n] h (λv h'=>∃W,Mine nothing h h' W T.int v (mL row n)):=by
 refine aq (args:=[vr,UH UI n]) follows Tryz.func234 E.fj UC λK hK=>?_;simp[L.fj,hr.len];refine aG [0,1,5,8,9,10] (fun(v:Value) k=>[vr,UH UI n,v,vr,UH UI row.length,UH UI k]) (λv k h1=>Mine nothing h h1 nothing T.int v (sift (rz row n) (λi=>nth row i) k)) row.length (UM UL 0 0)
  rfl U1 rfl (Mine.start (λ_ _ h=>by cases h)) (λ_ _=>rfl) (λv k h1 hk m=>by simp) ?_ ?_
 ·intro v k h1 hlt m K2 hK2;have hr1:=hr.mono m.old;have hrange:=hr.range hlt;have:=rX (p:=rz row n) (x:=λi=>nth row i) k;simp(disch:=omega)[hr1.idx1 rfl,hr1.int UE,lM,-Bool.and_eq_true,-Bool.and_eq_false_imp];refine⟨λhe=>?_,λhe=>hK2 v _ _ rfl rfl (by rw[nV (show rz row n k=UP from he)];exact m)⟩;refine m.push El.aY (by simp<;>rfl) (rB hrange.1 hrange.2) U1 U1 U5 U5 λu v' h3 m'=>hK2 v' _ _ rfl rfl (by rw[oZ (show rz row n k=UO from he)];exact m')
 intro v h1 m;simp;refine ah U0 (Ml m.own) ?_;rintro _ h2 ⟨o2,k2⟩;have m2:=m.gA o2 ⟨k2,.inl rfl⟩;try simp
 refine ah U0 (Gc m2.own) ?_;rintro v3 h3 ⟨o3,k3⟩;have m3:=m2.gA o3 k3;try simp
 exact hK _ _ ⟨_,m3⟩
def dJ(g:Gr):Gr:=rows (λa=>mL (nth g a) g.length) g.length
def Sm(g:Gr):Prop:=g.length<=1000000/\∀i,i<g.length->(nth g i).length<=1000000
theorem Km{α:Type}[Rep α]:Rep.rd W (UM UL 0 0).cells.toList ([]:List α):=⟨UM UL 0 0,rfl,UL,0,rfl,by simp,by simp,.inl rfl⟩
variable{vg:Value}
theorem DY{g:Gr}{h:Heap}(hg:SlRd (vw h) vg g)(hs:Sm g):
  ay UQ 235 #[vg] h (λv h'=>∃W,Mine nothing h h' W T.aY v (dJ g)):=by
 refine aq (args:=[vg]) follows Tryz.func235 E.eE UC λK hK=>?_;have hs1:=hs.1;simp[L.eE,hg.len];refine Mine.made (α:=List Int) (V:=nothing) (W:=nothing) (h0:=h) (n:=g.length) (d:=[]) El.kZ UE (λ_ _ h=>by cases h) (Old.nothing _ _) (by simp<;>rfl) (by simp<;>rfl) Km U1 U1 λv h1 m _ _=>?_;refine aG [0,3,9,10,11] (fun(_:View) k=>[vg,v,vg,UH UI g.length,UH UI k]) (λW k h2=>Mine nothing h h2 W T.aY v (rows (λa=>mL (nth g a) g.length) k++List.replicate (g.length-k) [])) g.length nothing
  rfl U1 rfl m (λ_ _=>rfl) (λv k h1 hk m=>by simp) ?_ ?_
 ·intro W a h2 hlta m K2 hK2;have hg2:=hg.mono m.old;obtain⟨rv,hrv⟩:=hg2.rows;obtain⟨cv,rr⟩:=hrv a hlta;have hl5:(rows (λa=>mL (nth g a) g.length) a++List.replicate (g.length-a) ([]:List Int)).length=g.length:=by simp;omega
  simp(disch:=omega)[hg2.idx1 rfl,cv _ UE,hg.len];refine ah U0 (Gw rr (hs.2 a hlta)) ?_;rintro r h3 ⟨W',mr⟩;have m3:=m.ext mr.old;have hr:=mr.fresh.mono (kg W _ _);simp(disch:=omega)[m3.now.idx1 rfl];refine m3.put1 (α:=List Int) (i:=a) U0 rfl U2 (by simp<;>rfl) U1 (dD.2 hr) λh4 m4=>hK2 (grow W h2 h3) _ _ rfl rfl ?_;rw[z6 (x:=λa=>mL (nth g a) g.length) hlta]at m4;exact m4
 intro W h2 m;simp at m;simp;exact hK _ _ ⟨_,m⟩
theorem yN{l:List Int}{x:Int}{v:Value}{h:Heap}{b:Addr}(hl:SlRd (vw h) v l)(hb:an (vw h) b=UK v):
  ay UQ 240 #[UH UI x,UN (UK b)] h (λu h'=>u = .bool (decide (0<=x)&&decide (x<l.length))/\h'=h):=by refine aq (args:=[UH UI x,UN (UK b)]) follows Tryz.func240 E.iH UC λK hK=>?_;simp[L.iH,hb,hl.len];exact hK _ _ ⟨rfl,rfl⟩
variable{b:Int}
theorem CH{l:List Int}{a:Int}{v:Value}{h:Heap}(hl:SlRd (vw h) v l):
  ay UQ 217 #[v,UH UI a,UH UI b] h (λu h'=>u = .bool (eR l a b)/\(vw h).le (vw h')):=by
 refine aq (args:=[v,UH UI a,UH UI b]) follows Tryz.func217 E.dp UC λK hK=>?_;have bl:=hl.bound;simp[L.dp];refine ey (v:=v) U2 ?_;have hvc:v.cells = #[v]:=by obtain⟨_,_,rfl,_⟩:=hl;rfl
 rw[hvc];have hle:=bQ h (.cells #[v] T.aY);have hl:=hl.mono hle;have hb:an (vw (h.push (.cells #[v] T.aY))) ⟨h.size,0,UL⟩=UK v:=by simp[an,vw]
 generalize h.push (.cells #[v] T.aY)=h1 at hle hl hb;generalize h.size=B at hb;refine bZ (ops:=[.tmp 10]) rfl U0 (by simpa using yN (x:=a) hl hb) ?_;rintro _ _ ⟨rfl,rfl⟩;cases ha:decide (0<=a)&&decide (a<l.length)with
 | false=>
  have hsp:eR l a b=false:=by simp only[TW,decide_eq_false_iff_not]at ha;simp[eR];intros;omega
  rw[hsp]at hK;simp[grdP];exact hK _ _ ⟨rfl,hle⟩
 | true=>
  simp only[Q9,decide_eq_true_eq]at ha;simp[grdP];refine bZ (ops:=[.tmp 15]) rfl U0 (by simpa using yN (x:=b) hl hb) ?_;rintro _ _ ⟨rfl,rfl⟩;cases hbb:decide (0<=b)&&decide (b<l.length)with
  | false=>
   have hsp:eR l a b=false:=by simp only[TW,decide_eq_false_iff_not]at hbb;simp[eR];intros;omega
   rw[hsp]at hK;simp;exact hK _ _ ⟨rfl,hle⟩
  | true=>
   simp only[Q9,decide_eq_true_eq]at hbb;have hsp:eR l a b=qS l a (l.length+1) b:=by simp[eR,ha,hbb]
   rw[hsp]at hK;simp(disch:=omega)[hb,hl.len];refine aG [1,2,3,6,7,21,22] (fun(c:Int) k=>[UH UI a,UH UI c,ptz B,.bool UP,.func (.func 240) #[] #[ptz B],UH UI ((l.length:Int)+1),UH UI k])
    (λc k h2=>h2=_/\qS l a (l.length+1-k) c=qS l a (l.length+1) b) (l.length+1) b
    rfl U1 rfl ⟨rfl,rfl⟩ (λ_ _=>rfl) (λv k h1 hk m=>by simp) ?_ ?_
   ·rintro c k h2 hlt ⟨rfl,hch⟩ K2 hK2;have hfu:l.length+1-k=(l.length-k)+1:=by omega
    rw[hfu,qS]at hch;simp;refine⟨λhe=>hK _ _ ⟨by rw[<-hch,if_pos he.symm],hle⟩,λhe=>?_⟩;rw[if_neg (λe=>he e.symm)]at hch;refine bZ (ops:=[.tmp 28]) rfl U0 (by simpa using yN (x:=c) hl hb) ?_;rintro _ _ ⟨rfl,rfl⟩;cases hc:decide (0<=c)&&decide (c<l.length)with
    | false=>simp only[TW,decide_eq_false_iff_not]at hc;simp;exact hK _ _ ⟨by rw[<-hch,if_pos U1],hle⟩
    | true=>simp only[Q9,decide_eq_true_eq]at hc;rw[if_neg U1]at hch;simp(disch:=omega)[hb,hl.idx1 rfl,hl.int UE];refine hK2 (nth l c.toNat) _ _ rfl rfl ⟨rfl,?_⟩;rw[<-hch];congr 1;omega
   rintro c h2 ⟨rfl,hch⟩;rw[Tw,qS]at hch;simp;exact hK _ _ ⟨by rw[<-hch],hle⟩
def lP(idom number:List Int):Nat->Int->Int->Option Int
 | 0,_,_=>UL
 | n+1,a,b=>
  if 0<=a/\a<number.length/\a<idom.length/\0<=b/\b<number.length/\b<idom.length then
   if nth number b.toNat<nth number a.toNat then lP idom number n (nth idom a.toNat) b
   else if nth number a.toNat<nth number b.toNat then lP idom number n a (nth idom b.toNat)
   else UK a
  else UL
variable{number:List Int}
theorem BF{idom:List Int}{vi vn:Value}{h:Heap}{r:Int}(hi:SlRd (vw h) vi idom)(hn:SlRd (vw h) vn number){a:Int}(hc:lP idom number n a b=UK r):
  ay UQ 239 #[vi,vn,UH UI a,UH UI b] h (λu h'=>u = UH UI r/\h'=h):=by
 refine aq (args:=[vi,vn,UH UI a,UH UI b]) follows Tryz.func239 E.dP UC λK hK=>?_;simp[L.dP];refine ik [0,1,2,3] (λm ρ h'=>∃(c d:Int),ρ=[(0,vi),(1,vn),(2,UH UI c),(3,UH UI d)]/\h'=h/\lP idom number m c d=UK r) n ⟨a,b,rfl,rfl,hc⟩ ?_;rintro m ρ h' ⟨c,d,rfl,rfl,hc⟩ K2 hK2;cases m with
 | zero=>cases hc
 | succ m=>
  rw[lP]at hc;split at hc;case isFalse=>cases hc
  rename_i hr;obtain⟨r1,r2,r3,r4,r5,r6⟩:=hr;simp(disch:=omega)[L.dP.l1,hn.idx1 rfl,hn.int UE];refine⟨λh1=>?_,λh1=>?_⟩
  ·rw[if_pos h1]at hc;simp(disch:=omega)[hi.idx1 rfl,hi.int UE];exact hK2 m _ _ U1 ⟨_,_,rfl,rfl,hc⟩
  rw[if_neg U1]at hc;refine⟨λh2=>?_,λh2=>?_⟩
  ·rw[if_pos h2]at hc;simp(disch:=omega)[hi.idx1 rfl,hi.int UE];exact hK2 m _ _ U1 ⟨_,_,rfl,rfl,hc⟩
  rw[if_neg U1]at hc;cases hc;exact hK _ _ ⟨rfl,rfl⟩
structure Wo(W:View)(h:Heap)(B:Nat)(vt vl:Value)(s:List Bool × List Int):Prop where
 wle:W.le (vw h)
 box:h[B]? = UK (.cells #[vl] T.aY (0,0))
 wB:W B=UL
 avt:Av W vt
 avl:Av W vl
 nt:vt.ownBlock≠UK B
 nl:vl.ownBlock≠UK B
 ne:vl.ownBlock=UL\/vl.ownBlock≠vt.ownBlock
 ot:OwnT nothing h T.bool vt s.1
 ol:OwnT nothing h T.int vl s.2
 nn:vt.ownBlock=UL\/vt.ownBlock≠vl.ownBlock
theorem Wo.lt{W:View}{h:Heap}{B:Nat}{vt vl:Value}{s:List Bool × List Int}(k:Wo W h B vt vl s):B<h.size:=(Rk.1 k.box).1
theorem Wo.ext{W:View}{h h':Heap}{B:Nat}{vt vl:Value}{s:List Bool × List Int}(k:Wo W h B vt vl s)(hle:(vw h).le (vw h')):Wo W h' B vt vl s:=
 {k with wle:=UF k.wle hle,box:=hle _ _ k.box,ot:=k.ot.ext hle,ol:=k.ol.ext hle }
variable{vt vl:Value}
theorem Wo.flag{h:Heap}{B:Nat}{s:List Bool × List Int}{t':List Bool}(k:Wo W h B vt vl s)(o:OwnT nothing h' T.bool vt t')(m:lA h h' vt vt):Wo W h' B vt vl (t',s.2):=
 {k with
  wle:=(m.view k.wle k.avt).1
  box:=by rw[m.kept.block B k.lt (λe=>k.nt e.symm)];exact k.box
  ot:=o
  ol:=k.ol.kept m.kept k.ne }
theorem Wo.Oj{h h'':Heap}{B:Nat}{vl':Value}{s:List Bool × List Int}{l':List Int}(k:Wo W h B vt vl s)(o:OwnT nothing h' T.int vl' l')(m:lA h h' vl vl')(hsz:h''.size=h'.size)(hB:h''[B]? = UK (.cells #[vl'] T.aY (0,0)))(hoth : ∀j,j≠B->h''[j]? = h'[j]?):Wo W h'' B vt vl' (s.1,l'):=by
 obtain⟨hw',ha'⟩:=m.view k.wle k.avl;have hlt:=k.lt;have nl':vl'.ownBlock≠UK B:=by
  rcases m.at_ with e | e
  ·rw[e];exact k.nl
  rw[e];intro e2;cases e2;omega
 have kep:Kept h' h'' (UK B):=⟨by omega,λj _ hj=>hoth j (λe=>hj (by rw[e]))⟩;refine⟨λb x hb=>?_,hB,k.wB,k.avt,ha',k.nt,nl',?_,?_,?_,?_⟩
 ·have hne:b≠B:=λe=>by rw[e,k.wB]at hb;cases hb
  show h''[b]? = _;rw[hoth b hne];exact hw' b x hb
 ·rcases m.at_ with e | e
  ·rw[e];exact k.ne
  right;rw[e];intro e2;have:=k.ot.lt e2.symm;omega
 ·exact(k.ot.kept m.kept k.nn).kept kep (.inr k.nt)
 ·exact o.kept kep (.inr nl')
 rcases m.at_ with e | e
 ·rw[e];exact k.nn
 right;rw[e];intro e2;have:=k.ot.lt e2;omega
theorem Wo.cell{h:Heap}{B:Nat}{s:List Bool × List Int}(k:Wo W h B vt vl s):an (vw h) ⟨B,0,UL⟩=UK vl:=by simp[an,vw,k.box]
def nx(rows:Gr)(a:Int):List Int:=nth rows a.toNat
theorem Ed{rows:Gr}{vr:Value}{Tp R O:Addr}{B:Nat}(hs:rows.length<=1000000)(hin : ∀i,i<rows.length->∀j,j<(nth rows i).length->0<=nth (nth rows i) j/\nth (nth rows i) j<rows.length) : ∀(n:Nat) {M:Nat} {W:View} {h:Heap} {vt vl:Value} {s:List Bool × List Int} {a:Int},Wo W h B vt vl s->SlRd W vr rows->
  an W Tp=UK vt->an W R=UK vr->an W O=UK (.func (.func 236) #[] #[UN (UK Tp),UN (UK R),UN (UK O),ptz B])->0<=a->a<rows.length->s.1.length=rows.length->nth s.1 a.toNat=UP->
  dH s.1<=n->s.2.length+dH s.1<=M->M<=1000000->
  ay UQ 236 #[UH UI a,UN (UK Tp),UN (UK R),UN (UK O),ptz B] h (λ_ h'=>∃vl',Wo W h' B vt vl' (kE (nx rows) n a s)/\(kE (nx rows) n a s).2.length+dH (kE (nx rows) n a s).1<=M)
 | 0,M,W,h,vt,vl,s,a,k,hg,hT,hR,hO,h0,h1,hl,hf,hc,hb,hM=>by exfalso;have:=km (t:=s.1) (i:=a.toNat) U1 hf;omega
 | n+1,M,W,h,vt,vl,(t,l),a,k,hg,hT,hR,hO,h0,h1,hl,hf,hc,hb,hM=>by
  obtain⟨i,rfl⟩:=Sg h0;simp only at hl hf hc hb;have hfs:=km (t:=t) (i:=i) U1 (by simpa using hf);refine aq (args:=[UH UI i,UN (UK Tp),UN (UK R),UN (UK O),ptz B]) follows Tryz.func236 E.dN UC λK hK=>?_;have hnow:SlRd (vw h) vt t:=k.ot.now (λ_ _ h=>by cases h);simp(disch:=omega)[L.dN,ae k.wle hT,hnow.idx1 rfl];refine tT (W:=nothing) (i:=i) (d:=true) U0 (by simp[show Rep.n Bool=1 from rfl]) (by simp<;>rfl) k.ot (by simpa using by omega) OV λh2 o2 m2=>?_;have k2:=k.flag o2 m2;have hg2:=hg.mono k2.wle;obtain⟨rv,hrv⟩:=hg.rows;obtain⟨cv,rr⟩:=hrv i U1;have br:=rr.bound;have hov:kE (nx rows) (n+1) i (t,l)=((up (dq (nx rows) n i) (nx rows i).length (t.set i UO,l)).1,(up (dq (nx rows) n i) (nx rows i).length (t.set i UO,l)).2++[(i:Int)]):=lJ;rw[hov]at hK;have hnx:nx rows i=nth rows i:=rfl;rw[hnx]at hK;simp(disch:=omega)[ae k2.wle hR,hg2.idx1 rfl,cv _ k2.wle,rr.len];refine aG [0,1,2,3,4,14,15,16] (fun(_:Value) j=>[UH UI i,UN (UK Tp),UN (UK R),UN (UK O),ptz B,rv i,UH UI (nth rows i).length,UH UI j]) (λvl j h4=>Wo W h4 B vt vl (up (dq (nx rows) n i) j (t.set i UO,l))/\(up (dq (nx rows) n i) j (t.set i UO,l)).2.length+dH (up (dq (nx rows) n i) j (t.set i UO,l)).1<=M-1) (nth rows i).length vl
   rfl U1 rfl ⟨k2,by simp[up];omega⟩ (λ_ _=>rfl) (λv j h4 hk m=>by simp) ?_ ?_
  ·rintro vl j h4 hltj ⟨k4,hb4⟩ K2 hK2;have hinv:=xe (λs:List Bool × List Int=>s.1.length=rows.length/\dH s.1<=n) (f:=dq (nx rows) n i) (λk x hx=>by
    unfold dq;split
    ·exact hx
    exact rN n _ x hx) j (t.set i UO,l) ⟨by simpa using hl,by simp only;omega⟩;generalize hx:up (dq (nx rows) n i) j (t.set i UO,l)=x at k4 hb4 hinv;obtain⟨e0,e1⟩:=hin i U1 j hltj;have hr4:=rr.mono k4.wle;have hnow4:=k4.ot.now (λ_ _ h=>by cases h);simp(disch:=omega)[ae k4.wle hT,hr4.idx1 rfl,hr4.int UE,hnow4.idx1 rfl,hnow4.bool UE,lM];refine⟨λhe=>?_,λhe=>hK2 vl _ _ rfl rfl ?_⟩
   ·simp[ae k4.wle hO];refine bZ (ops:=[.tmp 26]) rfl U0 (by simpa using Ed hs hin n k4 hg hT hR hO e0 e1 hinv.1 he hinv.2 hb4 U1) ?_;rintro _ h5 ⟨⟨vl',k5⟩,hb5⟩;have hst:up (dq (nx rows) n i) (j+1) (t.set i UO,l)=kE (nx rows) n (nth (nth rows i) j) x:=by rw[up,hx,dq,show nx rows i=nth rows i from rfl,he];rfl
    refine hK2 vl' _ _ rfl rfl ?_;rw[hst];exact⟨k5,hb5⟩
   have hst:up (dq (nx rows) n i) (j+1) (t.set i UO,l)=x:=by rw[up,hx,dq,show nx rows i=nth rows i from rfl,he];rfl
   rw[hst];exact⟨k4,hb4⟩
  rintro vl h4 ⟨k4,hb4⟩;generalize hx:up (dq (nx rows) n i) (nth rows i).length (t.set i UO,l)=x at k4 hb4 hK;simp[k4.cell];refine mC (α:=Int) (W:=nothing) El.aY (by simp<;>rfl) (rB U1 U1) λu h5 hsrc hle5 _=>?_;have k5:=k4.ext hle5;refine dA El.aY U2 U2 k5.ol hsrc U9 U9 λvl' h6 o6 m6=>?_;have hB6:h6[B]? = UK (.cells #[vl] T.aY (0,0)):=by rw[m6.kept.block B k5.lt (λe=>k5.nl e.symm)];exact k5.box
  obtain⟨hcells,hone⟩:=mQ o6;refine eh (g:=B) (o:=0) (n:=1) (v:=vl') U0 U2 U2 (by rw[hcells];rfl) (by rw[hcells];simpa using hone) hB6 U2 λh7 hsz7 ⟨row,hrow,he⟩ hoth=>hK _ _ ⟨vl',?_,?_⟩
  ·have hrow2:row = #[vl']:=by rw[<-Array.toList_inj,he,hcells];rfl
   rw[hrow2]at hrow;exact k5.Oj o6 m6 hsz7 hrow hoth
  simp;omega
def bI(g:Gr):List Int:=mI (nx (dJ g)) g.length
theorem iV{g:Gr}:(dJ g).length=g.length:=by simp[dJ]
theorem xl{g:Gr}: ∀i,i<(dJ g).length->∀j,j<(nth (dJ g) i).length->0<=nth (nth (dJ g) i) j/\nth (nth (dJ g) i) j<(dJ g).length:=by
 intro i hi j hj;rw[iV]at hi;have hm:=bF hj;rw[dJ,gH hi,mL]at hm;have h2:=rE hm;rw[sw,Uc,sB]at h2;simp only[Sf,SP,SG,rz,Q9,decide_eq_true_eq]at h2;obtain⟨k,⟨_,h3⟩,h4⟩:=h2;rw[iV];have e:nth (nth (dJ g) i) j=nth (nth g i) k:=by rw[dJ,gH hi,mL,h4,sw,sB]
 rw[e];exact h3
theorem Dh{g:Gr}{h:Heap}(hg:SlRd (vw h) vg g)(hs:Sm g):
  ay UQ 213 #[vg] h (λv h'=>(vw h).le (vw h')/\SlRd (fresh h h') v (bI g)):=by
 refine aq (args:=[vg]) follows Tryz.func213 E.oA UC λK hK=>?_;have hs1:=hs.1;simp[L.oA,hg.len];refine⟨λh0=>?_,λh0=>?_⟩
 ·exact hK _ _ ⟨View.le_refl _,⟨UL,0,by simp[bI,mI,h0],by simp[bI,mI,h0],by simp[bI,mI,h0],.inl (by simp[bI,mI,h0])⟩⟩
 refine ah U0 (DY hg hs) ?_;rintro vr h1 ⟨W1,m1⟩;have hvr:=m1.now;obtain⟨hrc,hro⟩:=mQ m1.own;refine wC (z:=UM UL 0 0) U0 rfl U0 hrc hro U5 U5 λh2 hle2 hsz2 hR2=>?_;refine oz (W:=nothing) (n:=g.length) (d:=false) El.qd (by simp<;>rfl) (by simp<;>rfl) rfl U1 U1 λvt h3 o3 m3 hle3 hb3=>?_;obtain⟨htc,hto⟩:=mQ o3;refine wC (z:=UM UL 0 0) U0 rfl U0 htc hto U5 U5 λh4 hle4 hsz4 hT4=>?_;refine dK (z:=UM UL 0 0) U0 ?_;refine dK (z:=.nilFunc) U0 ?_;have hsz3:h2.size<h3.size:=o3.lt hb3;have hle6:(vw h4).le (vw ((h4.push (.cells (UM UL 0 0).cells T.aY)).push (.cells Value.nilFunc.cells T.DL))):=UF (bQ _ _) (bQ _ _);refine eh (g:=h4.size+1) (o:=0) (n:=1) (e:=T.DL) (cur:=#[.nilFunc]) (v:=.func (.func 236) #[] #[ptz h3.size,ptz h1.size,UN (UK ⟨h4.size+1,0,UL⟩),ptz h4.size]) U0 U2 U2 rfl U8 (by rw[show h4.size+1=(h4.push (.cells (UM UL 0 0).cells T.aY)).size by simp];exact SL) U2 λh7 hsz7 ⟨row,hrow,he⟩ hoth=>?_;have hrow2:row = #[.func (.func 236) #[] #[ptz h3.size,ptz h1.size,UN (UK ⟨h4.size+1,0,UL⟩),ptz h4.size]]:=by rw[<-Array.toList_inj,he];rfl
 rw[hrow2]at hrow;have hle7:(vw h4).le (vw h7):=λb o hb=>by have hlt:=View.lt (View.le_refl (vw h4)) hb;show h7[b]? = _;rw[hoth b U1];exact hle6 b o hb
 have hL7:h7[h4.size]? = UK (.cells #[UM UL 0 0] T.aY (0,0)):=by rw[hoth _ U1,Array.getElem?_push,if_neg U2,SL];rfl
 have hle27:=UF hle3 (UF hle4 hle7);have hle17:=UF hle2 hle27;obtain⟨W,hW⟩ : ∃W:View,W=λb=>if b=h2.size\/b=h4.size then UL else h7[b]?:=⟨_,rfl⟩;have hWle:W.le (vw h7):=by
  intro b o hb;rw[hW]at hb;simp only at hb;split at hb
  ·cases hb
  exact hb
 have hW1:(vw h1).le W:=λb o hb=>by have hlt:=View.lt (View.le_refl (vw h1)) hb;rw[hW];simp only;rw[if_neg U1];exact hle17 b o hb
 have k7:Wo W h7 h4.size vt (UM UL 0 0) (List.replicate g.length UP,[]):=
  ⟨hWle,hL7,by rw[hW];simp,λb hb=>by rw[hb3]at hb;cases hb;rw[hW];simp,Av.nil _ _ _,by rw[hb3];intro e;simp only[Q2]at e;omega,by simp[Value.ownBlock],.inl rfl,
   (o3.ext hle4).ext hle7,OwnT.nil ..,.inr (by rw[hb3];simp[Value.ownBlock])⟩
 have hT:an W ⟨h3.size,0,UL⟩=UK vt:=by
  have h5:W h3.size=UK (.cells #[vt] T.qd (0,0)):=by rw[hW];simp only;rw[if_neg U1];exact hle7 _ _ hT4
  simp[an,h5]
 have hR:an W ⟨h1.size,0,UL⟩=UK vr:=by
  have h5:W h1.size=UK (.cells #[vr] T.kZ (0,0)):=by rw[hW];simp only;rw[if_neg U1];exact hle27 _ _ hR2
  simp[an,h5]
 have hO:an W ⟨h4.size+1,0,UL⟩=UK (.func (.func 236) #[] #[ptz h3.size,ptz h1.size,UN (UK ⟨h4.size+1,0,UL⟩),ptz h4.size]):=by
  have h5:W (h4.size+1)=h7[h4.size+1]?:=by rw[hW];simp only;rw[if_neg U1]
  rw[hrow]at h5;simp[an,h5]
 have hvrW:=hvr.mono hW1;have hlen:g.length≠0:=by simpa using h0
 have hcl:=iV (g:=g);have hfa:dH (List.replicate g.length UP)=g.length:=by simp[dH]
 simp[ae hWle hO];refine bZ (ops:=[.const (UH UI 0)]) (f:=236) (caps:=#[ptz h3.size,ptz h1.size,UN (UK ⟨h4.size+1,0,UL⟩),ptz h4.size]) U2 U0
  (by simpa using Ed U1 xl g.length (M:=g.length) k7 hvrW hT hR hO (a:=0) U1 U1 (by simp[hcl]) (by rw[aC U9];simp) (by rw[hfa];exact Q4 _) (by simp[hfa]) U1) ?_;rintro _ h8 ⟨⟨vl,k8⟩,hb8⟩;have hord:bI g=(kE (nx (dJ g)) g.length 0 (List.replicate g.length UP,[])).2.reverse:=by simp[bI,mI,h0]
 rw[hord]at hK;generalize kE (nx (dJ g)) g.length 0 (List.replicate g.length UP,[])=s at k8 hb8 hK;simp[k8.cell];refine ah U0 (Gj k8.ol) ?_;rintro _ h9 ⟨o9,k9⟩;have hB9:h9[h4.size]? = UK (.cells #[vl] T.aY (0,0)):=by rw[k9.block _ k8.lt (λe=>k8.nl e.symm)];exact k8.box
 have hc9:an (vw h9) ⟨h4.size,0,UL⟩=UK vl:=by simp[an,vw,hB9]
 have hW9:=k9.view k8.wle k8.avl;have hle9:(vw h).le (vw h9):=UF (UF m1.old hW1) hW9;have hav:Av (vw h) vl:=λb hb=>by
  cases hx:vw h b with
  | none=>rfl
  | some o=>have:=(UF m1.old hW1) _ _ hx;rw[k8.avl b hb]at this;cases this
 simp[hc9];exact hK _ _ ⟨hle9,o9.fresh (λ_ _ h=>by cases h) hav⟩
def lz(f:Nat->List Int)(n:Nat):List (Int × Int):=(List.range n).flatMap λa=>(f a).map λb=>((a:Int),b)
theorem j9{f:Nat->List Int}:lz f (n+1)=lz f n++(f n).map λb=>((n:Int),b):=by simp[lz,SA]
theorem HL{f:Nat->List Int}{m:Nat}(h:n<=m): ∃t,lz f m=lz f n++t:=by
 induction m with
 | zero=>exact⟨[],by simp[show n=0 by omega]⟩
 | succ m ih=>
  rcases Ri n (m+1)with h1 | h1
  ·obtain⟨t,ht⟩:=ih U1;exact⟨t++(f m).map λb=>((m:Int),b),by rw[j9,ht,Rn]⟩
  exact⟨[],by simp[show n=m+1 by omega]⟩
theorem Ht{f:Nat->List Int}{a j:Nat}(ha:a<n)(hj:j<(f a).length):(lz f n)[(lz f a).length+j]? = UK ((a:Int),nth (f a) j):=by obtain⟨t,ht⟩:=HL (f:=f) (n:=a+1) (m:=n) U1;rw[ht,j9,Rn,Ud U1,Uq,Ty (by simpa using hj)];simp[aC hj,hj]
def jF(g:Gr):List (Int × Int):=lz (λa=>nth (dJ g) a) g.length
def JC(e:Int × Int):List Value:=[UH UI e.1,UH UI e.2]
def Cp(g:Gr):List (List Value):=(jF g).map JC
theorem JJ{h:Heap}:
  ay UQ 238 #[vg] h (λv h'=>v = .func (.func 244) #[] #[ptz h.size]/\h'=h.push (.cells vg.cells T.kZ)):=by refine aq (args:=[vg]) follows Tryz.func238 E.oC UC λK hK=>?_;simp[L.oC];refine ey rfl ?_;simp;exact hK _ _ ⟨rfl,rfl⟩
theorem D9{g:Gr}{V:View}{p:Addr}(hg:SlRd V vg g)(hp:an V p=UK vg)(hs:Sm g):Iter UQ 244 [UN (UK p)] V (Cp g):=by
 intro l J W h hM hV hVl h0 hround;have hW:=(hM UO 0).le h0;refine aq (args:=[.func (.yield l) #[] #[],UN (UK p)]) follows Tryz.func244 E.cQ UC λK hK=>?_;simp[L.cQ,ae (UF hV hW) hp];refine ah U0 (DY (hg.mono (UF hV hW)) hs) ?_;rintro vr h1 ⟨W1,m1⟩;have hJ1:=(hM UO 0).grown h0 (Q4 _) m1.old;have hr1:=m1.fresh.mono (kg W h h1);have hag : ∀b,b<h.size->grow W h h1 b=W b:=λb hb=>gP hb;generalize grow W h h1=W2 at hJ1 hr1 hag;have hlen:=hr1.bound;have hcl:=iV (g:=g);obtain⟨rv,hrv⟩:=hr1.rows;simp[hr1.len];have hall : ∀{a j:Nat},a<(dJ g).length->j<(nth (dJ g) a).length->(Cp g)[(lz (λa=>nth (dJ g) a) a).length+j]? = UK [UH UI a,UH UI (nth (nth (dJ g) a) j)]:=by intro a j ha hj;rw[Cp,SH,jF,Ht (f:=λa=>nth (dJ g) a) U1 hj];rfl
 refine aG [0,8,9,10] (fun(_:Unit) k=>[.func (.yield l) #[] #[],vr,UH UI (dJ g).length,UH UI k]) (λ_ k h2=>J UO (lz (λa=>nth (dJ g) a) k).length W2 h2) (dJ g).length ()
  rfl U1 rfl hJ1 (λ_ _=>rfl) (λv k h1 hk m=>by simp) ?_ ?_
 ·intro _ a h2 hlt hJ2 K2 hK2;have hW2:=(hM _ _).le hJ2;obtain⟨cv,rr⟩:=hrv a hlt;have br:=rr.bound;simp(disch:=omega)[hr1.idx1 rfl,cv _ hW2,rr.len];refine aG [0,8,9,10,3,15,16,17] (fun(_:Unit) j=>[.func (.yield l) #[] #[],vr,UH UI (dJ g).length,UH UI a,UH UI a,rv a,UH UI (nth (dJ g) a).length,UH UI j])
   (λ_ j h3=>J UO ((lz (λa=>nth (dJ g) a) a).length+j) W2 h3) (nth (dJ g) a).length () rfl U1 rfl hJ2 (λ_ _=>rfl) (λv k h1 hk m=>by simp) ?_ ?_
  ·intro _ j h3 hlt3 hJ3 K3 hK3;have hW3:=(hM _ _).le hJ3;simp(disch:=omega)[rr.idx1 rfl,rr.int hW3];refine Dx (ops:=[.tmp 22,.tmp 23]) rfl (by simpa using hround _ _ W2 h3 hag (hall hlt hlt3) hJ3) ?_;rintro b h4 ⟨W4,e1,e2,hJ4⟩;cases b with
   | true=>obtain rfl:=e2 rfl;simp[lM];exact hK3 () _ _ rfl rfl hJ4
   | false=>simp[lM];exact hK _ _ ⟨UP,_,W4,λi hi hne=>by rw[e1 i hne,hag i hi],hJ4,λh=>by cases h⟩
  intro _ h3 hJ3;simp;refine hK2 () _ _ rfl rfl ?_;rw[j9,Rl,SJ];exact hJ3
 intro _ h2 hJ2;simp;refine hK _ _ ⟨UO,_,W2,λi hi _=>hag i hi,hJ2,λ_=>?_⟩;rw[Cp,SJ,jF,hcl]
def fK(p:Gr)(e:Int × Int):Gr:=p.set e.2.toNat (nth p e.2.toNat++[e.1])
def dR(g:Gr):Gr:=(jF g).foldl fK (List.replicate g.length [])
theorem xZ{β γ:Type}{f:β->γ->β}{l:List γ}{k:Nat}{x:γ}{b:β}(h:l[k]? = UK x):(l.take (k+1)).foldl f b=f ((l.take k).foldl f b) x:=by rw[To,h,Si];rfl
theorem sT{g:Gr}{e:Int × Int}(h:e∈jF g):(0<=e.1/\e.1<g.length)/\0<=e.2/\e.2<g.length:=by simp only[jF,lz,T0,SG,Sf]at h;obtain⟨a,ha,b,hb,rfl⟩:=h;obtain⟨j,hj,rfl⟩:=RH hb;have:=xl a (by rw[iV];exact ha) j hj;rw[iV,aC hj]at this;exact⟨⟨by omega,by simp only;omega⟩,this⟩
theorem qA{l:List (Int × Int)}{p:Gr}:(l.foldl fK p).length=p.length:=by
 induction l generalizing p with
 | nil=>rfl
 | cons e l ih=>rw[RG,ih];simp[fK]
theorem C3{l:List (Int × Int)}{p:Gr}{i m:Nat}(hp:(nth p i).length<=m):(nth (l.foldl fK p) i).length<=m+l.length:=by
 induction l generalizing p m with
 | nil=>exact hp
 | cons e l ih=>
  rw[RG];have:=ih (p:=fK p e) (m:=m+1) ?_
  ·simp only[RZ];omega
  unfold fK;rcases Ri i p.length with hi | hi
  ·rw[bU hi];split
   ·rename_i h;rw[h];simp;omega
   omega
  rw[dt (by simpa using hi)];simp[default]
theorem Bs{n:Int}:(mL row n).length<=row.length:=by have h1:=rX (p:=rz row n) (x:=λi=>nth row i) row.length;have h2:(sw (sift (rz row n) (λi=>nth row i) row.length)).length=(sift (rz row n) (λi=>nth row i) row.length).length:=List.length_mergeSort _;have h3:=xP (l:=sw (sift (rz row n) (λi=>nth row i) row.length));rw[mL];omega
theorem HM{f:Nat->List Int}{m:Nat}(h : ∀a,a<n->(f a).length<=m):(lz f n).length<=n*m:=by
 induction n with
 | zero=>simp[lz]
 | succ n ih=>have:=ih λa ha=>h a U1;have:=h n U1;rw[j9,Rl,SJ,Sb];omega
theorem FR{g:Gr}(hs:Sm g):(jF g).length<=1000000000000:=by
 have h1:=HM (f:=λa=>nth (dJ g) a) (n:=g.length) (m:=1000000) λa ha=>by have:=hs.2 a ha;rw[dJ,gH ha];exact Rt Bs this
 have h2:g.length*1000000<=1000000*1000000:=RC _ hs.1;rw[jF];omega
theorem DM{g:Gr}{h:Heap}(hg:SlRd (vw h) vg g)(hs:Sm g):
  ay UQ 214 #[vg] h (λv h'=>(vw h).le (vw h')/\SlRd (fresh h h') v (dR g)):=by
 refine rU (args:=[vg]) follows Tryz.func214 E.oD UC λK hK=>?_;have hs1:=hs.1;have hel:=FR hs;simp[L.oD,hg.len];refine I7 (n:=g.length) El.kZ (by simp<;>rfl) (by simp<;>rfl) rfl U1 U1 ?_;refine wC (z:=UM UL 0 0) (v:=UM (UK ⟨h.size,0,UL⟩) g.length g.length) U0 rfl U0 rfl rfl U5 U5 λh2 hle2 hsz2 hB2=>?_;have hle02:(vw h).le (vw h2):=UF (bQ _ _) hle2;have hg2:h2[h.size]? = UK (.cells (List.replicate g.length (UM UL 0 0)).toArray T.aY (0,0)):=hle2 _ _ (show(h.push _)[h.size]? = _ by simp);simp at hsz2 hB2;simp;refine ah U0 JJ ?_;rintro _ _ ⟨rfl,rfl⟩;have hgc:=hg.cells.1;rw[hgc];have hle3:=bQ h2 (.cells #[vg] T.kZ);generalize hh3:h2.push (.cells #[vg] T.kZ)=h3 at hle3;have hsz3:h3.size=h.size+3:=by rw[<-hh3];simp[hsz2]
 obtain⟨W0,hW0⟩ : ∃W:View,W=λb=>if b=h.size then UL else h3[b]?:=⟨_,rfl⟩;have hW0le:W0.le (vw h3):=λb o hb=>by
  rw[hW0]at hb;simp only at hb;split at hb
  ·cases hb
  exact hb
 have h0W:(vw h).le W0:=λb o hb=>by have hlt:=View.lt (View.le_refl (vw h)) hb;rw[hW0];simp only;rw[if_neg U1];exact UF hle02 hle3 b o hb
 have hp3:an W0 ⟨h2.size,0,UL⟩=UK vg:=by
  have e:W0 h2.size=UK (.cells #[vg] T.kZ (0,0)):=by rw[hW0];simp only;rw[if_neg U1,<-hh3];simp
  simp[an,e]
 have hB3:W0 (h.size+1)=UK (.cells #[UM (UK ⟨h.size,0,UL⟩) g.length g.length] T.kZ (0,0)):=by rw[hW0];simp only;rw[if_neg U1];exact hle3 _ _ hB2
 refine ug (enc:=JC) (all:=jF g) (gf:=244) (caps:=[ptz h2.size]) W0 W0 (λe k W h'=>e=UL/\∃rv,Rw W h' T.aY T.int h.size rv (((jF g).take k).foldl fK (List.replicate g.length [])))
  rfl U0 (D9 (hg.mono h0W) hp3 hs) (λ_=>rfl) UE (λe k=>⟨λ⟨_,rv,r⟩=>r.wle,λ⟨a,rv,r⟩ _ h1 h2 _=>⟨a,rv,r.move h1 h2⟩⟩) ⟨rfl,_,Rw.start hW0le (by rw[hW0];simp) (hle3 _ _ hg2)⟩
  (λx h1=>by simp[JC,dE];rfl) ?_ ?_ ?_
 ·rintro k e W h1 hag hk ⟨_,rv,r⟩ K2 hK2 _;have he:=sT (RF hk);have hk1:k<(jF g).length:=(Sk.1 hk).1;have hst:=xZ (f:=fK) (b:=List.replicate g.length []) hk;have hpl:=qA (l:=(jF g).take k) (p:=List.replicate g.length []);have hrl:=C3 (l:=(jF g).take k) (p:=List.replicate g.length []) (i:=e.2.toNat) (m:=0) (by rw[aE U1];simp);rw[RO]at hrl;rw[RX]at hpl;generalize hp:((jF g).take k).foldl fK (List.replicate g.length [])=p at r hst hpl hrl;have hlt:=r.lt;have hB1:h1[h.size+1]? = UK (.cells #[UM (UK ⟨h.size,0,UL⟩) g.length g.length] T.kZ (0,0)):=r.wle _ _ (by rw[hag _ U1];exact hB3);have hlt1:=(Rk.1 hB1).1;obtain⟨H,hH⟩ : ∃H:View,H=λb=>if b=h.size\/b=h.size+1 then h1[b]? else none:=⟨_,rfl⟩;have hHle:H.le (vw h1):=λb o hb=>by
   rw[hH]at hb;simp only at hb;split at hb
   ·exact hb
   cases hb
  have c1:an H ⟨h.size+1,0,UL⟩=UK (UM (UK ⟨h.size,0,UL⟩) g.length g.length):=dg (by rw[hH];simp only;rw[if_pos U2];exact hB1) rfl;have hlen:=r.len;have c2:an H ⟨h.size,e.2.toNat,UL⟩=UK (nth rv e.2.toNat):=dg (by rw[hH];simp only;rw[if_pos U2];exact r.blk) (by rw[aC U1];simp);refine aK H hHle ?_;simp(disch:=omega)[c1,c2,LP];refine mC (α:=Int) (W:=nothing) El.aY (by simp<;>rfl) (rB U1 U1) λu h4 hsrc hle4 _=>⟨UF hHle hle4,?_⟩;have r4:=r.ext hle4;have hi:e.2.toNat<p.length:=by omega
  refine dA El.aY U2 U2 (r4.own _ hi) hsrc U9 U9 λv' h5 o5 m5=>?_;have hg5:h5[h.size]? = UK (.cells rv.toArray T.aY (0,0)):=by rw[m5.kept.block _ r4.lt (λe=>r4.ng _ hi e.symm)];exact r4.blk
  obtain⟨hcells,hone⟩:=mQ o5;have hH5:H.le (vw h5):=by
   intro b o hb;have hlt4:=View.lt (UF hHle hle4) hb;have h4b:=UF hHle hle4 b o hb;show h5[b]? = _;rw[m5.kept.block b hlt4 ?_]
   ·exact h4b
   rw[hH]at hb;simp only at hb;split at hb
   ·rename_i e1;rcases e1 with rfl | rfl
    ·exact λe=>r4.ng _ hi e.symm
    intro e;have:=r4.av _ hi _ e.symm;rw[hag _ U1,hB3]at this;cases this
   cases hb
  refine⟨hH5,?_⟩;refine eh (g:=h.size) (o:=e.2.toNat) (n:=1) (v:=v') U0 U2 U2 (by rw[hcells];rfl) (by rw[hcells];simpa using hone) hg5 U9 λh6 hsz6 ⟨row,hrow,hre⟩ hoth=>?_;refine hK2 _ _ ⟨rfl,rv.set e.2.toNat v',?_⟩;rw[hst,fK];have hrow2:row=(rv.set e.2.toNat v').toArray:=by rw[<-Array.toList_inj,hre,hcells,TI,if_pos U1];simp
  rw[hrow2]at hrow;exact r4.put hi o5 m5 hrow hoth hsz6
 ·rintro W h1 hag ⟨_,rv,r⟩;rw[Rq (Q4 _)]at r;have hB1:h1[h.size+1]? = UK (.cells #[UM (UK ⟨h.size,0,UL⟩) g.length g.length] T.kZ (0,0)):=r.wle _ _ (by rw[hag _ U1];exact hB3);have c1:an (vw h1) ⟨h.size+1,0,UL⟩=UK (UM (UK ⟨h.size,0,UL⟩) g.length g.length):=dg hB1 rfl;simp[c1];intro h4 hsw;have hWW:(vw h).le W:=λb o hb=>by rw[hag b (by have:=View.lt (View.le_refl (vw h)) hb;omega)];exact h0W b o hb
  have hfl:=qA (l:=jF g) (p:=List.replicate g.length []);rw[RX]at hfl;have hfr:=r.fresh hWW U1;rw[hfl]at hfr;exact⟨_,rfl,hK _ _ ⟨hsw.ext (UF hWW r.wle),hsw.rd hfr⟩⟩
 rintro e k W h1 hag ⟨hne,_⟩;cases hne
def fV(n:Nat)(order:List Int):List Int:=up (λi l=>l.set (nth order i).toNat (i:Int)) order.length (List.replicate n (-1))
def bstS(out number:List Int)(n:Nat):List Int->Int->Option Int
 | [],best=>UK best
 | a::l,best=>
  if 0<=a/\a<n then
   if nth number a.toNat<0\/(a≠0/\nth out a.toNat<0) then bstS out number n l best
   else if best<0 then bstS out number n l a
   else(lP out number (2*n+2) best a).bind (bstS out number n l)
  else UL
def setS(out:List Int)(ch:Bool)(b best:Int):List Int × Bool:=if nth out b.toNat≠best then(out.set b.toNat best,UO) else(out,ch)
def uq(number:List Int)(preds:Gr)(n:Nat):List Int->List Int × Bool->Option (List Int × Bool)
 | [],s=>UK s
 | b::l,s=>
  if 0<=b/\b<n then(bstS s.1 number n (nth preds b.toNat) (-1)).bind λbest=>uq number preds n l (setS s.1 s.2 b best)
  else UL
def pw(number:List Int)(preds:Gr)(n:Nat)(tail:List Int):Nat->List Int->Option (List Int)
 | 0,_=>UL
 | m+1,out=>(uq number preds n tail (out,UP)).bind λs=>if s.2 then pw number preds n tail m s.1 else UK s.1
def A5(g:Gr)(fuel:Nat):Option (List Int):=
 pw (fV g.length (bI g)) (dR g) g.length ((bI g).drop (min 1 (bI g).length)) fuel (List.replicate g.length (-1))
theorem jG{out number:List Int}{c:Int} : ∀{k:Nat} {x y:Int},lP out number k x y=UK c->0<=c/\c<number.length
 | 0,x,y,h=>by cases h
 | k+1,x,y,h=>by
  rw[lP]at h;split at h;case isFalse=>cases h
  rename_i hr;split at h
  ·exact jG h
  split at h
  ·exact jG h
  cases h;omega
theorem F9{out:List Int}: ∀{l:List Int} {best r:Int},(-1<=best/\best<n)->out.length=n->number.length=n->(∀i,i<n->-1<=nth out i/\nth out i<n)->bstS out number n l best=UK r->-1<=r/\r<n:=by
 intro l;induction l with
 | nil=>intro best r hb _ _ _ h;simp only[bstS,Q2]at h;subst h;exact hb
 | cons a l ih=>
  intro best r hb h1 h2 h3 h;rw[bstS]at h;split at h;case isFalse=>cases h
  rename_i ha;split at h
  ·exact ih hb h1 h2 h3 h
  split at h
  ·exact ih U6 h1 h2 h3 h
  simp only[Ro]at h;obtain⟨c,hc,h⟩:=h;refine ih ?_ h1 h2 h3 h;have:=jG hc;omega
structure OvOk(m M:Nat)(s:List Bool × List Int):Prop where
 len:s.1.length=m
 cnt:s.2.length+dH s.1<=M
 rng : ∀x∈s.2,0<=x/\x<m
theorem EE{nx:Int->List Int}{m:Nat}(hnx : ∀a:Int,0<=a->a<m->∀i,i<(nx a).length->0<=nth (nx a) i/\nth (nx a) i<m) : ∀(n M:Nat) (a:Int) (s:List Bool × List Int),0<=a->a<m->nth s.1 a.toNat=UP->OvOk m M s->OvOk m M (kE nx n a s)
 | 0,_,_,_,_,_,_,h=>h
 | n+1,M,a,s,h0,h1,hf,h=>by
  rw[lJ];have hlen:=h.len;have hfs:=km (t:=s.1) (i:=a.toNat) U1 hf;have hc:=h.cnt;have hup : ∀k,k<=(nx a).length->OvOk m (M-1) (up (dq nx n a) k (s.1.set a.toNat UO,s.2)):=by
   intro k;induction k with
   | zero=>exact λ_=>⟨by simpa[up]using hlen,by simp only[up];omega,h.rng⟩
   | succ k ih=>
    intro hk;have:=ih U1;rw[up];generalize up (dq nx n a) k (s.1.set a.toNat UO,s.2)=z at this;unfold dq;split
    ·exact this
    rename_i hz;obtain⟨e0,e1⟩:=hnx a h0 h1 k U1;exact EE hnx n (M-1) _ z e0 e1 (by simpa using hz) this
  have:=hup _ (Q4 _);exact⟨this.len,by have:=this.cnt;simp;omega,λx hx=>by
   rcases Rj.1 hx with hx | hx
   ·exact this.rng x hx
   simp only[Q8]at hx;subst hx;exact⟨h0,h1⟩⟩
theorem AH{nx:Int->List Int}{m:Nat}(hnx : ∀a:Int,0<=a->a<m->∀i,i<(nx a).length->0<=nth (nx a) i/\nth (nx a) i<m):(mI nx m).length<=m/\∀x∈mI nx m,0<=x/\x<m:=by
 unfold mI;split
 ·simp
 rename_i h0;have:=EE hnx m m 0 (List.replicate m UP,[]) U1 U1 (aE U9) ⟨by simp,by simp[dH],by simp⟩;refine⟨?_,λx hx=>this.rng x (by simpa using hx)⟩;have:=this.cnt;simp;omega
theorem NM{g:Gr}: ∀a:Int,0<=a->a<(g.length:Int)->∀i,i<(nx (dJ g) a).length->0<=nth (nx (dJ g) a) i/\nth (nx (dJ g) a) i<g.length:=by intro a h0 h1 i hi;have:=xl a.toNat (by rw[iV];omega) i hi;rwa [iV]at this
theorem Ix{g:Gr}{i:Nat}(hi:i<(bI g).length):0<=nth (bI g) i/\nth (bI g) i<g.length:=
 (AH NM).2 _ (bF hi)
theorem uv{g:Gr}:(bI g).length<=g.length:=(AH NM).1
theorem wO{g:Gr}: ∀{l:List (Int × Int)} {p:Gr},(∀e∈l,0<=e.1/\e.1<g.length)->(∀i,∀x∈nth p i,0<=x/\x<g.length)->∀i,∀x∈nth (l.foldl fK p) i,0<=x/\x<g.length:=by
 intro l;induction l with
 | nil=>exact λ_ h=>h
 | cons e l ih=>
  intro p hl hp;rw[RG];refine ih (λe' he'=>hl e' (Q7 _ he')) λi x hx=>?_;unfold fK at hx;rcases Ri i p.length with hi | hi
  ·rw[bU hi]at hx;split at hx
   ·rcases Rj.1 hx with hx | hx
    ·exact hp _ x hx
    simp only[Q8]at hx;subst hx;exact hl e (Rm ..)
   exact hp _ x hx
  rw[dt (by simpa using hi)]at hx;cases hx
theorem yH{h:Heap}{v v':Value}(m:lA h h' v v')(hw:W.le (vw h))(ha:Av W v):W.le (vw h'):=(m.view hw ha).1
theorem LM{g:Gr}{h:Heap}{fuel:Nat}{l:List Int}(hg:SlRd (vw h) vg g)(hs:Sm g)(hl:A5 g fuel=UK l):
  ay UQ 215 #[vg] h (λv h'=>∃W,Mine nothing h h' W T.int v l):=by
 refine aq (args:=[vg]) follows Tryz.func215 E.bN UC λK hK=>?_;have hs1:=hs.1;simp[L.bN,hg.len];refine ah U0 (Dh hg hs) ?_;rintro vo h1 ⟨hle1,ho⟩;have hoin:=@Ix g;have holen:=uv (g:=g);rw[A5]at hl;generalize bI g=order at ho hoin holen hl;refine Mine.made (V:=nothing) (W:=nothing) (h0:=h) (n:=g.length) (d:=(0:Int)) El.aY hle1 (λ_ _ h=>by cases h) (Old.nothing _ _) (by simp<;>rfl) (by simp<;>rfl) ⟨rfl,by omega,by omega⟩ U1 U1 λvn h2 mn hle2 hbn=>?_;refine Mine.made (V:=nothing) (W:=nothing) (h0:=h) (n:=g.length) (d:=(0:Int)) El.aY mn.old (λ_ _ h=>by cases h) (Old.nothing _ _) (by simp<;>rfl) (by simp<;>rfl) ⟨rfl,by omega,by omega⟩ U1 U1 λvi h3 mi hle3 hbi=>?_;have mn3:=mn.ext' hle3;have hne:vn.ownBlock≠vi.ownBlock:=by have:=mn.own.lt hbn;rw[hbn,hbi];intro e;simp only[Q2]at e;omega
 have hle13:(vw h1).le (vw h3):=UF hle2 hle3;have av1n:Av (vw h1) vn:=λb hb=>by rw[hbn]at hb;cases hb;exact View.b8 UE (Q4 _)
 have av1i:Av (vw h1) vi:=λb hb=>by rw[hbi]at hb;cases hb;exact View.b8 hle2 (Q4 _)
 refine aG [0,3,4,5,25,26] (fun(_:Unit) k=>[vg,vo,vn,vi,UH UI g.length,UH UI k])
  (λ_ k h4=>Mine nothing h h4 nothing T.int vn (rows (λ_=>(-1:Int)) k++List.replicate (g.length-k) 0)/\Mine nothing h h4 nothing T.int vi (rows (λ_=>(-1:Int)) k++List.replicate (g.length-k) 0)/\(vw h1).le (vw h4)) g.length ()
  rfl U1 rfl ⟨by simpa using mn3,by simpa using mi,hle13⟩ (λ_ _=>rfl) (λv k h1 hk m=>by simp) ?_ ?_
 ·rintro _ k h4 hlt ⟨m4n,m4i,hle4⟩ K2 hK2;have hlk:(rows (λ_=>(-1:Int)) k++List.replicate (g.length-k) (0:Int)).length=g.length:=by simp;omega
  simp(disch:=omega)[m4n.now.idx1 rfl,m4i.now.idx1 rfl];refine tT (W:=nothing) (i:=k) (d:=(-1:Int)) U0 (by simp[show Rep.n Int=1 from rfl]) (by simp<;>rfl) m4n.own U1 (rB U1 U1) λh5 o5 mv5=>?_;have m5n:=m4n.gA o5 mv5;have m5i:=m4i.beside m5n mv5 (.inr (Ne.symm hne));refine tT (W:=nothing) (i:=k) (d:=(-1:Int)) U0 (by simp[show Rep.n Int=1 from rfl]) (by simp<;>rfl) m5i.own U1 (rB U1 U1) λh6 o6 mv6=>?_;have m6i:=m5i.gA o6 mv6;have m6n:=m5n.beside m6i mv6 (.inr hne);rw[z6 (x:=λ_=>(-1:Int)) hlt]at m6i m6n;exact hK2 () _ _ rfl rfl ⟨m6n,m6i,yH mv6 (yH mv5 hle4 av1n) av1i⟩
 rintro _ h4 ⟨m4n,m4i,hle4⟩;have hrows:rows (λ_=>(-1:Int)) g.length=List.replicate g.length (-1):=by refine S5 U2 λi h1 h2=>?_;simp[rows]
 rw[hrows]at m4n m4i;simp only[Tw,List.replicate_zero,SI]at m4n m4i;have ho1:=ho.mono (mh h h1);simp[ho1.len];refine aG [0,3,4,5,36,37,38] (fun(_:Unit) k=>[vg,vo,vn,vi,vo,UH UI order.length,UH UI k])
  (λ_ k h5=>Mine nothing h h5 nothing T.int vn (up (λi l=>l.set (nth order i).toNat (i:Int)) k (List.replicate g.length (-1)))/\Mine nothing h h5 nothing T.int vi (List.replicate g.length (-1))/\(vw h1).le (vw h5)) order.length ()
  rfl U1 rfl ⟨m4n,m4i,hle4⟩ (λ_ _=>rfl) (λv k h1 hk m=>by simp) ?_ ?_
 ·rintro _ k h5 hlt ⟨m5n,m5i,hle5⟩ K2 hK2;have hlen5:(up (λi l=>l.set (nth order i).toNat (i:Int)) k (List.replicate g.length (-1))).length=g.length:=by rw[BP List.length (λ_ _=>by simp)];simp
  have ho5:=ho1.mono hle5;obtain⟨e0,e1⟩:=hoin hlt;simp(disch:=omega)[ho5.idx1 rfl,ho5.int UE,m5n.now.idx1 rfl];refine tT (W:=nothing) (i:=(nth order k).toNat) (d:=(k:Int)) U0 (by simp[show Rep.n Int=1 from rfl]) (by simp<;>rfl) m5n.own U1 (rB U1 U1) λh6 o6 mv6=>?_;have m6n:=m5n.gA o6 mv6;exact hK2 () _ _ rfl rfl ⟨m6n,m5i.beside m6n mv6 (.inr (Ne.symm hne)),yH mv6 hle5 av1n⟩
 rintro _ h5 ⟨m5n,m5i,hle5⟩;have hnum:up (λi l=>l.set (nth order i).toNat (i:Int)) order.length (List.replicate g.length (-1))=fV g.length order:=rfl;rw[hnum]at m5n;have hnl:(fV g.length order).length=g.length:=by rw[fV,BP List.length (λ_ _=>by simp)];simp
 simp;refine ah U0 (DM (hg.mono m5n.old) hs) ?_;rintro vp h6 ⟨hle6,hp⟩;have hpl:(dR g).length=g.length:=by rw[dR,qA];simp
 have hpin : ∀i,∀x∈nth (dR g) i,0<=x/\x<g.length:=wO (λe he=>(sT he).1) (λi x hx=>by
  rcases Ri i g.length with hi | hi
  ·rw[aE hi]at hx;cases hx
  rw[dt (by simpa using hi)]at hx;cases hx);have m6:=(m5i.ext' hle6).over;have hn6:SlRd (but vi h6) vn (fV g.length order):=(m5n.own.rd (V:=but vi h5) (λ_ _ h=>by cases h) (λb hb=>by unfold but;rw[if_neg (λe=>hne (hb.trans e.symm))])).mono (D0 hle6)
 have hp6:SlRd (but vi h6) vp (dR g):=hp.mono λb o hb=>by
  have hb2:=mh _ _ b o hb;unfold but;split
  ·rename_i e;have:=m5i.own.lt e;unfold fresh at hb;rw[if_pos this]at hb;cases hb
  exact hb2
 have ho6:SlRd (but vi h6) vo order:=ho1.mono (UF (Fc hle5 av1i) (D0 hle6));generalize hW:but vi h6=W at m6 hn6 hp6 ho6;generalize fV g.length order=number at hn6 hnl hl;generalize hpr:dR g=preds at hp6 hpl hpin hl;obtain⟨pv,hpv⟩:=hp6.rows;refine ik [3,4,5,9,10] (λm ρ h7=>∃(out:List Int) (ch:Bool),ρ=[(3,vo),(4,vn),(5,vi),(9,vp),(10,.bool ch)]/\Mine (vw h) h h7 W T.int vi out/\out.length=g.length/\(∀i,i<g.length->-1<=nth out i/\nth out i<g.length)/\
  (ch=UO->pw number preds g.length (order.drop (min 1 order.length)) m out=UK l)/\(ch=UP->out=l)) fuel
  ⟨_,UO,rfl,m6,by simp,λi hi=>by rw[aE hi];omega,λ_=>hl,λh=>by cases h⟩ ?_;rintro m ρ h7 ⟨out,ch,rfl,m7,hol,hor,hch1,hch2⟩ K2 hK2;cases ch with
 | false=>simp[L.bN.l3,lM];have:=hch2 rfl;subst this;exact hK _ _ ⟨_,m7.PS⟩
 | true=>
  have hit:=hch1 rfl;cases m with
  | zero=>cases hit
  | succ m=>
   rw[pw,Ro]at hit;obtain⟨⟨out',ch'⟩,hsw,hfin⟩:=hit;simp only at hfin;simp[L.bN.l3,lM];have hmin:(if(order.length:Int)<1 then(order.length:Int) else 1)=((min 1 order.length:Nat):Int):=by split<;>omega
   obtain⟨u,hu,hur⟩:=ho6.drop (n:=min 1 order.length) U1 (kd:=.i64);rw[show Rep.n Int=1 from rfl]at hu;have hti : ∀j,j<(order.drop (min 1 order.length)).length->nth (order.drop (min 1 order.length)) j=nth order (min 1 order.length+j):=by intro j hj;rw[RQ]at hj;rw[aC (by rw[RQ];omega),aC U1,TL]
   generalize order.drop (min 1 order.length)=tail at hur hti hsw hfin hK2;simp only[ho6.len,RD,O5,hmin,hu,hur.len,lh,dE];have hub:=hur.bound;simp;refine aG [3,4,5,9,10,55,56,57] (fun(s:List Int × Bool) k=>[vo,vn,vi,vp,.bool s.2,u,UH UI tail.length,UH UI k])
    (λs k h8=>Mine (vw h) h h8 W T.int vi s.1/\s.1.length=g.length/\(∀i,i<g.length->-1<=nth s.1 i/\nth s.1 i<g.length)/\uq number preds g.length (tail.drop k) s=UK (out',ch')) tail.length (out,UP)
    rfl U1 rfl ⟨m7,hol,hor,by simpa using hsw⟩ (λ_ _=>rfl) (λv k h1 hk m=>by simp) ?_ ?_
   ·rintro⟨o8,c8⟩ k h8 hlt8 ⟨m8,hol8,hor8,hs8⟩ K3 hK3;simp only at m8 hol8 hor8;rw[RJ hlt8,<-aC hlt8,uq]at hs8;split at hs8;case isFalse=>cases hs8
    rename_i hb;rw[Ro]at hs8;obtain⟨best,hbest,hs8⟩:=hs8;simp only at hbest hs8;have hb2:=F9 U1 hol8 hnl hor8 hbest;generalize hbe:nth tail k=b at hb hbest hs8;obtain⟨cv,rr⟩:=hpv b.toNat U1;have br:=rr.bound;simp(disch:=omega)[hur.idx1 rfl,hur.int m8.wle,hbe,hp6.idx1 rfl,cv _ m8.wle,rr.len];refine aG [3,4,5,9,10,55,56,57,12,13,64,65,66] (fun(bst:Int) j=>[vo,vn,vi,vp,.bool c8,u,UH UI tail.length,UH UI k,UH UI b,UH UI bst,pv b.toNat,UH UI (nth preds b.toNat).length,UH UI j])
     (λbst j h9=>Mine (vw h) h h9 W T.int vi o8/\(-1<=bst/\bst<g.length)/\bstS o8 number g.length ((nth preds b.toNat).drop j) bst=UK best) (nth preds b.toNat).length (-1)
     rfl U1 rfl ⟨m8,by omega,by simpa using hbest⟩ (λ_ _=>rfl) (λv k h1 hk m=>by simp) ?_ ?_
    ·rintro bst j h9 hlt9 ⟨m9,hb9,hs9⟩ K4 hK4;rw[RJ hlt9,<-aC hlt9,bstS]at hs9;have ha:=hpin _ _ (bF hlt9);rw[if_pos ha]at hs9;have hra:=rr.int m9.wle hlt9;generalize nth (nth preds b.toNat) j=a at hs9 ha hra;have hn9:=hn6.int m9.wle (i:=a.toNat) U1;have ho9:=m9.now.int UE (i:=a.toNat) U1;have hi9:=m9.now;by_cases c1:nth number a.toNat<0
     ·rw[if_pos (.inl c1)]at hs9;simp(disch:=omega)[rr.idx1 rfl,hra,hn6.idx1 rfl,hn9,c1,hi9.idx1 rfl,ho9];exact hK4 bst _ _ rfl rfl ⟨m9,hb9,hs9⟩
     by_cases c2:a=0
     ·rw[if_neg (by rintro(h | h);exact c1 h;exact h.1 c2)]at hs9;subst c2;rw[Int.toNat_zero]at hn9 ho9 c1;simp(disch:=omega)[rr.idx1 rfl,hra,hn6.idx1 rfl,hn9,c1,hi9.idx1 rfl,ho9];refine⟨λc4=>?_,λc4=>?_⟩
      ·rw[if_pos c4]at hs9;exact hK4 _ _ _ rfl rfl ⟨m9,by omega,hs9⟩
      rw[if_neg U1,Ro]at hs9;obtain⟨c,hc,hs9⟩:=hs9;have hcr:=jG hc;refine ah U0 (BF m9.now (hn6.mono m9.wle) hc) ?_;rintro _ _ ⟨rfl,rfl⟩;exact hK4 c _ _ rfl rfl ⟨m9,by omega,hs9⟩
     by_cases c3:nth o8 a.toNat<0
     ·rw[if_pos (.inr ⟨c2,c3⟩)]at hs9;simp(disch:=omega)[rr.idx1 rfl,hra,hn6.idx1 rfl,hn9,c1,c2,hi9.idx1 rfl,ho9,c3];exact hK4 bst _ _ rfl rfl ⟨m9,hb9,hs9⟩
     rw[if_neg (by rintro(h | h);exact c1 h;exact c3 h.2)]at hs9;simp(disch:=omega)[rr.idx1 rfl,hra,hn6.idx1 rfl,hn9,c1,c2,hi9.idx1 rfl,ho9,c3];refine⟨λc4=>?_,λc4=>?_⟩
     ·rw[if_pos c4]at hs9;exact hK4 _ _ _ rfl rfl ⟨m9,by omega,hs9⟩
     rw[if_neg U1,Ro]at hs9;obtain⟨c,hc,hs9⟩:=hs9;have hcr:=jG hc;refine ah U0 (BF m9.now (hn6.mono m9.wle) hc) ?_;rintro _ _ ⟨rfl,rfl⟩;exact hK4 c _ _ rfl rfl ⟨m9,by omega,hs9⟩
    rintro bst h9 ⟨m9,hb9,hs9⟩;simp only[List.drop_length,bstS,Q2]at hs9;subst hs9;simp(disch:=omega)[m9.now.idx1 rfl,m9.now.int UE];refine⟨λe=>hK3 (o8,c8) _ _ rfl rfl ⟨m9,hol8,hor8,by rw[setS,if_neg (by simpa using e)]at hs8;exact hs8⟩,λe=>?_⟩;refine m9.put1 (α:=Int) (i:=b.toNat) U0 rfl U2 (by simp<;>rfl) U1 (rB U1 U1) λh10 m10=>hK3 (o8.set b.toNat bst,UO) _ _ rfl rfl ⟨m10,by simpa using hol8,λi hi=>?_,by rw[setS,if_pos e]at hs8;exact hs8⟩;simp only;rw[bU U1];split
    ·exact hb9
    exact hor8 i hi
   rintro⟨o8,c8⟩ h8 ⟨m8,hol8,hor8,hs8⟩;simp only[List.drop_length,uq,Q2,SF]at hs8 m8 hol8 hor8;obtain⟨rfl,rfl⟩:=hs8;simp;refine hK2 m _ _ U1 ⟨_,_,rfl,m8,hol8,hor8,λe=>?_,λe=>?_⟩
   ·rw[if_pos e]at hfin;exact hfin
   rw[if_neg (by simp[e])]at hfin;exact Option.some.inj hfin
abbrev Tr:=Int × Int × Int
def trV(t:Tr):List PanicEntry:=[{ v:=.iface T.gz (.agg #[UH UI t.1,UH UI t.2.1,UH UI t.2.2]),recovered:=false }]
def cu(n a b:Int):Bool:=decide (a<=n)&&decide (n<=b)
theorem kK{n a:Int}{h:Heap}:ay UQ 96 #[UH UI n,UH UI a,UH UI b] h (λv h'=>v = .bool (cu n a b)/\h'=h):=by refine aq (args:=[UH UI n,UH UI a,UH UI b]) follows Tryz.func96 E.mZ UC λK hK=>?_;simp[L.mZ];exact hK _ _ ⟨by by_cases h1:a<=n<;>simp[cu,h1],rfl⟩
theorem iQ{ok:Bool}{e p:Int}{h:Heap}:jo UQ 154 #[.bool ok,UH UI e,UH UI b,UH UI p] h (λv h'=>ok=UO/\h'=h) (λch h'=>ok=UP/\ch=trV (e,b,p)/\h'=h):=by
 refine iW (args:=[.bool ok,UH UI e,UH UI b,UH UI p]) follows Tryz.func154 E.nI UC λK Kp hK hKp=>?_;cases ok with
 | true=>simp[L.nI];exact hK _ _ ⟨rfl,rfl⟩
 | false=>simp[L.nI];refine aA (z:=zz0) (places:=[(0,1),(1,1),(2,1)]) (vs:=[(0,UH UI e),(1,UH UI b),(2,UH UI p)]) (cs:=#[UH UI e,UH UI b,UH UI p]) U0 U0 U2 U0 ?_;refine Jz (d:=(Tryz.prog.underlying T.gz).getD .bool) U0 U0 rfl ?_;simp;refine IP (t:=T.gz) (v:=.agg #[UH UI e,UH UI b,UH UI p]) rfl ?_;exact⟨.inl rfl,hKp _ _ ⟨rfl,rfl,rfl⟩⟩
def gL(op:Int):Int × Int:=if op=1 then(0,0) else if op=15 then(1,1) else if op=17 then(0,4) else(2,2)
theorem EP{op:Int}{h:Heap}:ay UQ 210 #[UH UI op] h (λv h'=>v = .tuple #[UH UI (gL op).1,UH UI (gL op).2]/\h'=h):=by refine aq (args:=[UH UI op]) follows Tryz.func210 E.kO UC λK hK=>?_;simp[L.kO];refine⟨λh1=>hK _ _ ⟨by simp[gL,h1],rfl⟩,λh1=>⟨λh2=>hK _ _ ⟨by simp[gL,h1,h2],rfl⟩,λh2=>⟨λh3=>hK _ _ ⟨by simp[gL,h1,h2,h3],rfl⟩,λh3=>hK _ _ ⟨by simp[gL,h1,h2,h3],rfl⟩⟩⟩⟩
def cO(i:InsD):List Int:=if i.op=16 then[] else if i.op=18 then[i.dst,i.two] else[i.dst]
theorem DS{d:InsD}{v:Value}{h:Heap}(hd:Rd (vw h) v d):ay UQ 140 #[v] h (λu h'=>(vw h).le (vw h')/\SlRd (fresh h h') u (cO d)):=by
 refine aq (args:=[v]) follows Tryz.func140 E.oB UC λK hK=>?_;simp[L.oB];refine fT rfl hd λh1 _ hle1 hsz1 hat=>?_;obtain⟨c0,c1,c2,va,ca⟩:=mT hat;have r1:=(hat.part InsD.gm).rng;have r2:=(hat.part InsD.xV).rng;simp[c0];refine⟨λe1=>hK _ _ ⟨hle1,by simpa[cO,e1]using aS⟩,λe1=>⟨λe2=>?_,λe2=>?_⟩⟩
 ·simp[c1,c2];refine mY (X:=nothing) (ds:=[d.dst,d.two]) (vs:=[UH UI d.dst,UH UI d.two]) rfl El.aY U2 ⟨bw.2 ⟨rfl,r1⟩,bw.2 ⟨rfl,r2⟩,trivial⟩ cW rfl U1 λu h2 hle2 hsz2 hu _=>?_;exact hK _ _ ⟨UF hle1 hle2,by simpa[cO,e2]using hu _ cW (by unfold fresh;rw[if_neg U1])⟩
 simp[c1];refine mY (X:=nothing) (ds:=[d.dst]) (vs:=[UH UI d.dst]) rfl El.aY U2 ⟨bw.2 ⟨rfl,r1⟩,trivial⟩ cW rfl U1 λu h2 hle2 hsz2 hu _=>?_;exact hK _ _ ⟨UF hle1 hle2,by simpa[cO,e1,e2]using hu _ cW (by unfold fresh;rw[if_neg U1])⟩
abbrev MW:=Int->Option (Int × Int)
def encW(w:Int × Int):Value:=.agg #[UH UI w.1,UH UI w.2]
variable{Kb:Nat}
theorem MI{ps n p:Int}{h:Heap}(h0:an (vw h) ⟨Kb,0,UL⟩=UK (UH UI ps)):
  jo UQ 232 #[ptz Kb,UH UI n,UH UI b,UH UI p] h (λ_ h'=>cu n ps 8191=UO/\h'=h) (λch h'=>cu n ps 8191=UP/\ch=trV (11,b,p)/\h'=h):=by
 refine iW (args:=[ptz Kb,UH UI n,UH UI b,UH UI p]) follows Tryz.func232 E.iN UC λK Kp hK hKp=>?_;simp[L.iN,h0];refine ah U0 kK ?_;rintro _ _ ⟨rfl,rfl⟩;refine eo U0 iQ ?_ ?_
 ·rintro _ _ ⟨e,rfl⟩;exact hK _ _ ⟨e,rfl⟩
 rintro _ _ ⟨e,rfl,rfl⟩;exact⟨.inl rfl,hKp _ _ ⟨e,rfl,rfl⟩⟩
theorem LG{r:Nat}{m:MW}{n p:Int}{h:Heap}(h2:an (skip r h) ⟨Kb,2,UL⟩=UK (.map (UK r)))(hm:di (.int .i64) h r (mapE encW m)):
  jo UQ 233 #[ptz Kb,UH UI n,UH UI b,UH UI p] h (λ_ h'=>m n=UL/\di (.int .i64) h' r (mapE encW (putM m n (b,p)))/\Kept h h' (UK r))
   (λch h'=>m n≠UL/\ch=trV (12,b,p)/\Kept h h' (UK r)):=by
 refine iW (args:=[ptz Kb,UH UI n,UH UI b,UH UI p]) follows Tryz.func233 E.iM UC λK Kp hK hKp=>?_;simp[L.iM,ae dk h2];refine eM (z:=zz1) U.gi U.int U0 (by simp<;>rfl) (by simp<;>rfl) cV hm ?_;simp;refine fO (n:=2) (z:=zz1) (v:=((m n).map encW).getD (.agg #[UH UI 0,UH UI 0])) U0 rfl U0 (by cases m n<;>rfl) (by cases m n<;>simp[encW,Value.oneCell']) U5 U5 λh3 hle3 _ _=>?_;have k3:=Kept.of_le (b:=UK r) hle3;have hm3:=hm.ext hle3;have h23:=ae k3.Gp h2;refine eo U0 iQ ?_ ?_
 ·rintro _ _ ⟨e,rfl⟩;simp[h23];refine aA (z:=zz1) (places:=zpd) (vs:=[(0,UH UI b),(1,UH UI p)]) (cs:=#[UH UI b,UH UI p]) U0 U0 U2 U0 ?_;refine kz (v:=encW (b,p)) (.inl rfl) U.gi U.int (by simp<;>rfl) (by simp<;>rfl) (by simp<;>rfl) cV hm3 _ iy.1 iy.2 λh4 hs4 ho4 hm4=>?_;exact hK _ _ ⟨by simpa using e,hm4,k3.trans (Kept.upd hs4 ho4)⟩
 rintro _ _ ⟨e,rfl,rfl⟩;exact⟨.inl rfl,hKp _ _ ⟨(by intro e2;rw[e2]at e;cases e),rfl,k3⟩⟩
def tG(b p:Int)(m:MW)(n:Int):Except Tr MW:=if(m n).isSome then .error (12,b,p) else .ok (putM m n (b,p))
def allS(ps:Int)(l:List Int)(b p:Int)(m:MW):Except Tr MW:=if l.all (λn=>cu n ps 8191) then l.foldlM (tG b p) m else .error (11,b,p)
structure Lk(h:Heap)(Kb r:Nat)(vb:Value)(f:ak)(m:MW):Prop where
 c0:an (skip r h) ⟨Kb,0,UL⟩=UK (UH UI f.params)
 c1:an (skip r h) ⟨Kb,1,UL⟩=UK vb
 c2:an (skip r h) ⟨Kb,2,UL⟩=UK (.map (UK r))
 rb:SlRd (skip r h) vb f.blocks
 map:di (.int .i64) h r (mapE encW m)
theorem Lk.kept{h h':Heap}{Kb r:Nat}{vb:Value}{f:ak}{m m':MW}(k:Lk h Kb r vb f m)(hk:Kept h h' (UK r))(hm:di (.int .i64) h' r (mapE encW m')):Lk h' Kb r vb f m':=
 ⟨ae hk.skip k.c0,ae hk.skip k.c1,ae hk.skip k.c2,k.rb.mono hk.skip,hm⟩
theorem Lk.ext{h h':Heap}{Kb r:Nat}{vb:Value}{f:ak}{m:MW}(k:Lk h Kb r vb f m)(hle:(vw h).le (vw h')):Lk h' Kb r vb f m:=
 k.kept (Kept.of_le hle) (k.map.ext hle)
theorem Ja{r:Nat}{vb:Value}{f:ak}{m:MW}{l:List Int}{p:Int}{h:Heap}(k:Lk h Kb r vb f m)(hl:SlRd (skip r h) vl l):
  jo UQ 209 #[ptz Kb,vl,UH UI b,UH UI p] h (λ_ h'=>∃m',allS f.params l b p m = .ok m'/\Lk h' Kb r vb f m'/\Kept h h' (UK r))
   (λch h'=>∃t,allS f.params l b p m = .error t/\ch=trV t/\Kept h h' (UK r)):=by
 refine iW (args:=[ptz Kb,vl,UH UI b,UH UI p]) follows Tryz.func209 E.bR UC λK Kp hK hKp=>?_;have hlb:=hl.bound;simp[L.bR,hl.len];refine aG [0,1,2,3,12,13,14] (fun(_:Unit) i=>[ptz Kb,vl,UH UI b,UH UI p,vl,UH UI l.length,UH UI i]) (λ_ i h1=>h1=h/\∀j,j<i->cu (nth l j) f.params 8191=UO) l.length ()
  rfl U1 rfl ⟨rfl,λj hj=>by omega⟩ (λ_ _=>rfl) (λv i h1 hk m=>by simp) ?_ ?_
 ·rintro _ i _ hlt ⟨rfl,hpre⟩ K2 hK2;simp(disch:=omega)[hl.idx1 rfl,hl.int dk];refine eo U0 (MI (ae dk k.c0)) ?_ ?_
  ·rintro _ _ ⟨e,rfl⟩;refine hK2 () _ _ rfl rfl ⟨rfl,λj hj=>?_⟩;rcases Ri j i with h | h
   ·exact hpre j h
   have:j=i:=by omega
   subst this;exact e
  rintro _ _ ⟨e,rfl,rfl⟩;refine⟨.inl rfl,hKp _ _ ⟨_,?_,rfl,Kept.refl _ _⟩⟩;rw[allS,if_neg];intro ha;rw[RS.1 ha _ (bF hlt)]at e;cases e
 rintro _ h ⟨rfl,hpre⟩;have hall:allS f.params l b p m=l.foldlM (tG b p) m:=by rw[allS,if_pos];rw[RS];intro x hx;obtain⟨j,hj,rfl⟩:=RH hx;rw[<-aC hj];exact hpre j hj
 rw[hall]at hK hKp;simp[hl.len];refine aG [0,2,3,24,25,26] (fun(_:Unit) i=>[ptz Kb,UH UI b,UH UI p,vl,UH UI l.length,UH UI i]) (λ_ i h1=>∃m',(l.take i).foldlM (tG b p) m = .ok m'/\Lk h1 Kb r vb f m'/\Kept h h1 (UK r)) l.length ()
  rfl U1 rfl ⟨m,rfl,k,Kept.refl _ _⟩ (λ_ _=>rfl) (λv i h1 hk m=>by simp) ?_ ?_
 ·rintro _ i h1 hlt ⟨m1,hm1,k1,kp1⟩ K2 hK2;have hl1:=hl.mono kp1.Gp;have hst:=FH hlt hm1;simp(disch:=omega)[hl1.idx1 rfl,hl1.int UE];refine eo U0 (LG k1.c2 k1.map) ?_ ?_
  ·rintro _ h2 ⟨e,hm2,kp2⟩;refine hK2 () _ _ rfl rfl ⟨_,by rw[hst,tG,e];rfl,k1.kept kp2 hm2,kp1.trans kp2⟩
  rintro _ h2 ⟨e,rfl,kp2⟩;refine⟨.inl rfl,hKp _ _ ⟨_,ID (k:=i+1) (by rw[hst,tG,if_pos (Option.isSome_iff_ne_none.2 e)]),rfl,kp1.trans kp2⟩⟩
 rintro _ h1 ⟨m1,hm1,k1,kp1⟩;rw[RR]at hm1;simp;exact hK _ _ ⟨m1,hm1,k1,kp1⟩
abbrev Sh:=Int × Int × Int × Int
def encS(s:Sh):Value:=.agg #[UH UI s.1,UH UI s.2.1,UH UI s.2.2.1,UH UI s.2.2.2]
def gB:Int->Option Sh:=putM (putM (putM (putM (putM (λ_=>UL) 1 (0,0,1,1)) 2 (1,1,2,2)) 3 (1,1,2,65)) 4 (0,1,0,0)) 5 (0,0,0,0)
theorem rP{po:OP}{ty:TypeId}{us:List (Nat × Value)}{h:Heap}{K:Value->Heap->Prop}{a c d:Int}(hk:K (encS (a,b,c,d)) h):
  Lft.step UQ (.build T.dV #[(0,.const (UH UI a)),(1,.const (UH UI b)),(2,.const (UH UI c)),(3,.const (UH UI d))]) ty us h K:=
 aA (z:=zz2) (places:=zpe) (vs:=[(0,UH UI a),(1,UH UI b),(2,UH UI c),(3,UH UI d)]) (cs:=#[UH UI a,UH UI b,UH UI c,UH UI d]) U0 U0 (by simp only[List.map_toArray,Sn,List.map_nil,BA]) U4 hk
theorem mw{po:OP}{ty:TypeId}{us:List (Nat × Value)}{h:Heap}{K:Value->Heap->Prop}{x y:Operand}{r:Nat}{f:Int->Option Sh}{j:Int}{s:Sh}(hx:asg us x = .map (UK r))(hy:asg us y=encS s)(m:di (.int .i64) h r (mapE encS f))(hk : ∀h':Heap,Kept h h' (UK r)->di (.int .i64) h' r (mapE encS (putM f j s))->K undef h'):Lft.step UQ (.insert T.eB x (.const (UH UI j)) y) ty us h K:=
 kz (v:=encS s) (.inr rfl) U.eB U.int hx rfl hy cV m _ iy.1 iy.2 λh' hs ho hm=>hk h' (Kept.upd hs ho) hm
theorem Al{h:Heap}:ay UQ 211 #[] h (λv h'=>v = .map (UK h.size)/\(vw h).le (vw h')/\di (.int .i64) h' h.size (mapE encS gB)):=by
 refine aq (args:=[]) follows Tryz.func211 E.mP UC λK hK=>?_;simp[L.mP];refine lE ?_;have m0:di (.int .i64) (h.push (.map #[] 0)) h.size (mapE encS λ_=>UL):=by rw[nh];exact di.none U2
 have hle:=bQ h (.map #[] 0);generalize h.push (.map #[] 0)=h0 at m0 hle;refine rP (mw (s:=(0,0,1,1)) rfl rfl m0 λh1 k1 m1=>?_);refine rP (mw (s:=(1,1,2,2)) rfl rfl m1 λh2 k2 m2=>?_);refine rP (mw (s:=(1,1,2,65)) rfl rfl m2 λh3 k3 m3=>?_);refine rP (mw (s:=(0,1,0,0)) rfl rfl m3 λh4 k4 m4=>?_);refine rP (mw (s:=(0,0,0,0)) rfl rfl m4 λh5 k5 m5=>?_);refine hK _ _ ⟨rfl,λb o hb=>?_,m5⟩;have hlt:=View.lt (View.le_refl (vw h)) hb;have kk:=(((k1.trans k2).trans k3).trans k4).trans k5;show h5[b]? = _;rw[kk.block b (Sc hlt (bO hle)) U9];exact hle b o hb
def qU(t:cS):Bool:=match gB t.kind with
 | some s=>cu t.args.length s.1 s.2.1&&cu t.to.length s.2.2.1 s.2.2.2
 | none=>UP
def insS(ps b:Int)(x:BlkD)(i:Nat)(m:MW):Except Tr MW:=
 if cu (nth x.ins i).op 1 18&&cu (nth x.ins i).args.length (gL (nth x.ins i).op).1 (gL (nth x.ins i).op).2 then allS ps (cO (nth x.ins i)) b i m else .error (10,b,i)
def phiS(ps b:Int)(x:BlkD)(i:Nat)(m:MW):Except Tr MW:=allS ps [(nth x.phis i).dst] b (-1-i) m
def endS(n b:Int)(x:BlkD)(m:MW):Except Tr MW:=
 if qU x.term then(if x.term.to.all (λt=>cu t 1 (n-1)) then .ok m else .error (14,b,x.ins.length)) else .error (10,b,x.ins.length)
def blkS(f:ak)(b:Nat)(m:MW):Except Tr MW:=
 match upE (phiS f.params b (nth f.blocks b)) (nth f.blocks b).phis.length m with
 | .error t=>.error t
 | .ok m1=>match upE (insS f.params b (nth f.blocks b)) (nth f.blocks b).ins.length m1 with
  | .error t=>.error t
  | .ok m2=>endS f.blocks.length b (nth f.blocks b) m2
def nm(f:ak)(m:MW):Except Tr MW:=upE (blkS f) f.blocks.length m
theorem IL{r:Nat}{vb:Value}{f:ak}{m:MW}{h:Heap}(k:Lk h Kb r vb f m):
  jo UQ 155 #[ptz Kb] h (λ_ h'=>∃m',nm f m = .ok m'/\Lk h' Kb r vb f m'/\Kept h h' (UK r))
   (λch h'=>∃t,nm f m = .error t/\ch=trV t/\Kept h h' (UK r)):=by
 refine iW (args:=[ptz Kb]) follows Tryz.func155 E.aF UC λK Kp hK hKp=>?_;have hbb:=k.rb.bound;simp[L.aF,ae dk k.c1,k.rb.len];refine aG [0,18,19,20] (fun(_:Unit) b=>[ptz Kb,vb,UH UI f.blocks.length,UH UI b]) (λ_ b h1=>∃m',upE (blkS f) b m = .ok m'/\Lk h1 Kb r vb f m'/\Kept h h1 (UK r)) f.blocks.length ()
  rfl U1 rfl ⟨m,rfl,k,Kept.refl _ _⟩ (λ_ _=>rfl) (λv i h1 hk m=>by simp) ?_ ?_
 ·rintro _ b h1 hltb ⟨m1,hm1,k1,kp1⟩ K2 hK2;have hst:=pB hm1;have her : ∀{t},blkS f b m1 = .error t->nm f m = .error t:=λe=>CE hm1 hltb e;obtain⟨u,hu,hur⟩:=k1.rb.wh rfl (N:=6) rfl hltb;rw[blkS]at hst her;have hr1:=k1.map.lt;generalize hx:nth f.blocks b=x at hst her hur;refine aa λz hz=>?_;simp(disch:=omega)[k1.rb.idxn (N:=6) rfl,hu _ dk];refine dw (z:=zz3) U0 rfl U0 hur U5 U5 λh2 hle2 hsz2 hat=>?_;have k2:=k1.ext hle2;have kp2:=kp1.trans (Kept.of_le hle2);have hat2:=hat (skip r h2) (Kept.of_le hle2).skip (nS U1);obtain⟨vp,vi,va,vt,bp,bi,bk,ba,bt⟩:=iK hat2;generalize h1.size=B at bp bi bk ba bt;subst hz;refine aa λz hz=>?_;simp[ae dk bp.1,bp.2.len];have bph:=bp.2.bound;have bin:=bi.2.bound;have bto:=bt.2.bound;refine aG [0,2,3,18,19,20,26,27,28] (fun(_:Unit) i=>[ptz Kb,UH UI b,ptz B,vb,UH UI f.blocks.length,UH UI b,vp,UH UI x.phis.length,UH UI i])
   (λ_ i h3=>∃m',upE (phiS f.params b x) i m1 = .ok m'/\Lk h3 Kb r vb f m'/\Kept h2 h3 (UK r)) x.phis.length ()
   rfl U1 rfl ⟨m1,rfl,k2,Kept.refl _ _⟩ (λ_ _=>rfl) (λv i h1 hk m=>by simp) ?_ ?_
  ·rintro _ i h3 hlti ⟨m3,hm3,k3,kp3⟩ K3 hK3;have bp3:=bp.2.mono kp3.skip;obtain⟨u5,hu5,hur5⟩:=bp3.wh rfl (N:=2) rfl hlti;have hr3:=k3.map.lt;have hst3:=pB hm3;have her3 : ∀{t},phiS f.params b x i m3 = .error t->upE (phiS f.params b x) x.phis.length m1 = .error t:=λe=>CE hm3 hlti e;rw[phiS]at hst3 her3;refine aa λy hy=>?_;simp(disch:=omega)[bp3.idxn (N:=2) rfl,hu5 _ dk];refine dw (z:=zz4) U0 rfl U0 hur5 U5 U5 λh4 hle4 hsz4 hat4=>?_;have hat4':=hat4 (skip r h4) (Kept.of_le hle4).skip (nS U1);obtain⟨c0,_⟩:=yt hat4';have rd:=(hat4'.part PhiD.gm).rng;generalize nth x.phis i=q at c0 rd hst3 her3;generalize h3.size=B3 at c0;subst hy;simp[ae dk c0];refine mY (X:=nothing) (ds:=[q.dst]) (vs:=[UH UI q.dst]) rfl El.aY U2 ⟨bw.2 ⟨rfl,rd⟩,trivial⟩ cW rfl U1 λu6 h5 hle5 hsz5 hu6 _=>?_;have k5:=(k3.ext hle4).ext hle5;have kp5:=(kp3.trans (Kept.of_le hle4)).trans (Kept.of_le hle5);have hr5:=k5.map.lt;simp(disch:=omega);refine eo U0 (Ja k5 (hu6 _ cW (nS U1))) ?_ ?_
   ·rintro _ h6 ⟨m6,hm6,k6,kp6⟩;exact hK3 () _ _ rfl rfl ⟨m6,by rw[hst3,hm6],k6,kp5.trans kp6⟩
   rintro _ h6 ⟨t,ht,rfl,kp6⟩;exact⟨.inl rfl,hKp _ _ ⟨t,her (by rw[her3 ht]),rfl,(kp2.trans kp5).trans kp6⟩⟩
  rintro _ h3 ⟨m3,hm3,k3,kp3⟩;simp only[hm3]at hst her;simp;subst hz;refine aa λz hz=>?_;have bi3:=bi.2.mono kp3.skip;have ci3:=ae kp3.Gp bi.1;have kp03:=kp2.trans kp3;simp[ci3,bi3.len];refine aG [0,2,3,18,19,20,43,44,45] (fun(_:Unit) i=>[ptz Kb,UH UI b,ptz B,vb,UH UI f.blocks.length,UH UI b,vi,UH UI x.ins.length,UH UI i])
   (λ_ i h4=>∃m',upE (insS f.params b x) i m3 = .ok m'/\Lk h4 Kb r vb f m'/\Kept h3 h4 (UK r)) x.ins.length ()
   rfl U1 rfl ⟨m3,rfl,k3,Kept.refl _ _⟩ (λ_ _=>rfl) (λv i h1 hk m=>by simp) ?_ ?_
  ·rintro _ i h4 hlti ⟨m4,hm4,k4,kp4⟩ K3 hK3;have bi4:=bi3.mono kp4.skip;obtain⟨u5,hu5,hur5⟩:=bi4.wh rfl (N:=5) rfl hlti;have hr4:=k4.map.lt;have hst4:=pB hm4;have her4 : ∀{t},insS f.params b x i m4 = .error t->upE (insS f.params b x) x.ins.length m3 = .error t:=λe=>CE hm4 hlti e;rw[insS]at hst4 her4;refine aa λy hy=>?_;simp(disch:=omega)[bi4.idxn (N:=5) rfl,hu5 _ dk];refine dw (z:=zz5) U0 rfl U0 hur5 U5 U5 λh5 hle5 hsz5 hat5=>?_;have hat5':=hat5 (skip r h5) (Kept.of_le hle5).skip (nS U1);obtain⟨c0,c1,c2,va5,ca5⟩:=mT hat5';have k5:=k4.ext hle5;have kp5:=kp4.trans (Kept.of_le hle5);have whole : ∃w,Un.ev (vw h5) (.bM 5) (ptz h4.size)=UK w/\Rd (vw h5) w (nth x.ins i):=by obtain⟨w,w1,w2⟩:=(hat5'.mono dk).bM rfl;exact⟨w,w1,w2⟩
   obtain⟨w,w1,w2⟩:=whole;generalize nth x.ins i=q at c0 c1 c2 ca5 hst4 her4 w2;generalize h4.size=B4 at c0 c1 c2 ca5 w1;subst hy;refine aa λy hy=>?_;simp[ae dk c0];refine ah U0 kK ?_;rintro _ _ ⟨rfl,rfl⟩;refine eo U0 iQ ?_ ?_;rotate_left
   ·rintro _ _ ⟨e,rfl,rfl⟩;exact⟨.inl rfl,hKp _ _ ⟨_,her (by rw[her4 (by rw[if_neg (by simp[e])])]),rfl,kp03.trans kp5⟩⟩
   rintro _ _ ⟨e1,rfl⟩;subst hy;refine aa λy hy=>?_;simp[ae dk c0];refine ah U0 EP ?_;rintro _ _ ⟨rfl,rfl⟩;simp;subst hy;refine aa λy hy=>?_;simp[ae dk ca5.1,ca5.2.len];refine ah U0 kK ?_;rintro _ _ ⟨rfl,rfl⟩;refine eo U0 iQ ?_ ?_;rotate_left
   ·rintro _ _ ⟨e,rfl,rfl⟩;exact⟨.inl rfl,hKp _ _ ⟨_,her (by rw[her4 (by rw[if_neg (by simp[e])])]),rfl,kp03.trans kp5⟩⟩
   rintro _ _ ⟨e2,rfl⟩;subst hy;simp[w1];refine ah U0 (DS w2) ?_;rintro u6 h6 ⟨hle6,hu6⟩;have k6:=k5.ext hle6;have kp6:=kp5.trans (Kept.of_le hle6);rw[if_pos (by simp[e1,e2])]at hst4 her4;have hr5:=k5.map.lt;refine eo U0 (Ja k6 (hu6.mono λb o hb=>?_)) ?_ ?_
   ·unfold fresh at hb;unfold Lft.skip;split at hb
    ·cases hb
    rw[if_neg U1];exact hb
   ·rintro _ h7 ⟨m7,hm7,k7,kp7⟩;exact hK3 () _ _ rfl rfl ⟨m7,by rw[hst4,hm7],k7,kp6.trans kp7⟩
   rintro _ h7 ⟨t,ht,rfl,kp7⟩;exact⟨.inl rfl,hKp _ _ ⟨t,her (by rw[her4 ht]),rfl,(kp03.trans kp6).trans kp7⟩⟩
  rintro _ h4 ⟨m4,hm4,k4,kp4⟩;simp only[hm4]at hst her;simp;subst hz;refine aa λz hz=>?_;have kp24:=kp3.trans kp4;have hr4:=k4.map.lt;have ck4:=ae kp24.skip bk;have hc : ∀{h5:Heap},Kept h4 h5 (UK r)->(skip r h4).le (vw h5):=λhk=>hk.Gp;have cellsS : ∀o:Option Sh,((o.map encS).getD (.agg #[UH UI 0,UH UI 0,UH UI 0,UH UI 0]))=encS (o.getD (0,0,0,0)):=λo=>by cases o<;>rfl
  have hone : ∀s:Sh,∀c∈(encS s).cells.toList,c.oneCell'=true:=λs=>by simp[encS,Value.oneCell']
  refine gC (λρ h5=>∃(B5:Nat) (v79 v83:Value) (tl:Env),ρ=[(0,ptz Kb),(2,UH UI b),(3,ptz B),(10,ptz B5),(11,.bool (gB x.term.kind).isSome),(18,vb),(19,UH UI f.blocks.length),(20,UH UI b),(43,vi),
    (44,UH UI x.ins.length),(45,UH UI x.ins.length),(79,v79),(82,UH UI x.term.kind),(83,v83)]++tl/\Lk h5 Kb r vb f m4/\Kept h4 h5 (UK r)/\B5≠r/\h5[B5]? = UK (.cells (encS ((gB x.term.kind).getD (0,0,0,0))).cells T.dV (0,0))) ?_ ?_
  ·intro K3 hK3;refine aK (skip r h4) dk ?_;simp[ck4];refine⟨?_,?_⟩
   ·refine ah U0 Al ?_;rintro _ h5 ⟨rfl,hle5,hm5⟩;have hs5:=bO hle5;refine⟨hc (Kept.of_le hle5),?_,?_⟩
    ·refine eM (z:=zz2) U.eB U.int U0 (by simp<;>rfl) (by simp<;>rfl) cV hm5 ?_;rw[rC,cellsS,Ul];simp;refine fO (n:=4) (v:=encS ((gB x.term.kind).getD (0,0,0,0))) (z:=zz2) U0 rfl U0 rfl (hone _) U5 U5 λh6 hle6 hsz6 hb6=>?_;exact hK3 _ _ ⟨_,_,_,_,rfl,(k4.ext hle5).ext hle6,(Kept.of_le hle5).trans (Kept.of_le hle6),by omega,hb6⟩
    refine dK (z:=zz2) U0 ?_;have hle6:=bQ h5 (.cells (Value.cells (.agg #[UH UI 0,UH UI 0,UH UI 0,UH UI 0])) T.dV);have hb6:(h5.push (.cells (Value.cells (.agg #[UH UI 0,UH UI 0,UH UI 0,UH UI 0])) T.dV))[h5.size]? = UK (.cells (Value.cells (.agg #[UH UI 0,UH UI 0,UH UI 0,UH UI 0])) T.dV (0,0)):=by simp
    have hs6:(h5.push (.cells (Value.cells (.agg #[UH UI 0,UH UI 0,UH UI 0,UH UI 0])) T.dV)).size=h5.size+1:=by simp
    generalize h5.push (.cells (Value.cells (.agg #[UH UI 0,UH UI 0,UH UI 0,UH UI 0])) T.dV)=h6 at hle6 hb6 hs6;refine⟨hc ((Kept.of_le hle5).trans (Kept.of_le hle6)),?_⟩;refine eM (z:=zz2) U.eB U.int U0 (by simp<;>rfl) (by simp<;>rfl) cV (hm5.ext hle6) ?_;rw[rC,cellsS,Ul];simp;refine eh (g:=h5.size) (o:=0) (n:=4) (v:=encS ((gB x.term.kind).getD (0,0,0,0))) U0 rfl rfl rfl (hone _) hb6 U2 λh7 hs7 ⟨row,hb7,hrow⟩ ho7=>?_;have hrow2:row=(encS ((gB x.term.kind).getD (0,0,0,0))).cells:=by rw[<-Array.toList_inj,hrow];simp
    rw[hrow2]at hb7;have kp7:Kept h4 h7 (UK r):=⟨by omega,λq hq hne=>by rw[ho7 q U1];exact hle6 _ _ (hle5 _ _ (RA hq)) |>.trans (RA hq).symm⟩;exact hK3 _ _ ⟨_,_,_,_,rfl,k4.kept kp7 (((k4.map.ext hle5).ext hle6).same (ho7 r U1)),kp7,by omega,hb7⟩
   refine dK (z:=zz2) U0 ?_;have hle5:=bQ h4 (.cells (Value.cells (.agg #[UH UI 0,UH UI 0,UH UI 0,UH UI 0])) T.dV);have hb5:(h4.push (.cells (Value.cells (.agg #[UH UI 0,UH UI 0,UH UI 0,UH UI 0])) T.dV))[h4.size]? = UK (.cells (Value.cells (.agg #[UH UI 0,UH UI 0,UH UI 0,UH UI 0])) T.dV (0,0)):=by simp
   have hs5:(h4.push (.cells (Value.cells (.agg #[UH UI 0,UH UI 0,UH UI 0,UH UI 0])) T.dV)).size=h4.size+1:=by simp
   generalize h4.push (.cells (Value.cells (.agg #[UH UI 0,UH UI 0,UH UI 0,UH UI 0])) T.dV)=h5 at hle5 hb5 hs5;refine⟨hc (Kept.of_le hle5),?_⟩;refine ah U0 Al ?_;rintro _ h6 ⟨rfl,hle6,hm6⟩;have hs6:=bO hle6;refine⟨hc ((Kept.of_le hle5).trans (Kept.of_le hle6)),?_⟩;refine eM (z:=zz2) U.eB U.int U0 (by simp<;>rfl) (by simp<;>rfl) cV hm6 ?_;rw[rC,cellsS,Ul];simp;refine eh (g:=h4.size) (o:=0) (n:=4) (v:=encS ((gB x.term.kind).getD (0,0,0,0))) U0 rfl rfl rfl (hone _) (hle6 _ _ hb5) U2 λh7 hs7 ⟨row,hb7,hrow⟩ ho7=>?_;have hrow2:row=(encS ((gB x.term.kind).getD (0,0,0,0))).cells:=by rw[<-Array.toList_inj,hrow];simp
   rw[hrow2]at hb7;have kp7:Kept h4 h7 (UK r):=⟨by omega,λq hq hne=>by rw[ho7 q U1];exact hle6 _ _ (hle5 _ _ (RA hq)) |>.trans (RA hq).symm⟩;exact hK3 _ _ ⟨_,_,_,_,rfl,k4.kept kp7 (((k4.map.ext hle5).ext hle6).same (ho7 r U1)),kp7,by omega,hb7⟩
  rintro ρ h5 ⟨B5,v79,v83,tl,rfl,k5,kp5,hB5,hb5⟩;subst hz;refine aa λz hz=>?_;have kp25:=kp24.trans kp5;have ci5:=ae kp25.skip bi.1;have bi5:=bi.2.mono kp25.skip;have ca5:=ae kp25.skip ba.1;have ba5:=ba.2.mono kp25.skip;have ct5:=ae kp25.skip bt.1;have bt5:=bt.2.mono kp25.skip;have hb5':skip r h5 B5=UK (.cells (encS ((gB x.term.kind).getD (0,0,0,0))).cells T.dV (0,0)):=by rw[nS hB5];exact hb5
  generalize hsh:(gB x.term.kind).getD (0,0,0,0)=s at hb5';have d0:an (skip r h5) ⟨B5,0,UL⟩=UK (UH UI s.1):=dg hb5' rfl;have d1:an (skip r h5) ⟨B5,1,UL⟩=UK (UH UI s.2.1):=dg hb5' rfl;have d2:an (skip r h5) ⟨B5,2,UL⟩=UK (UH UI s.2.2.1):=dg hb5' rfl;have d3:an (skip r h5) ⟨B5,3,UL⟩=UK (UH UI s.2.2.2):=dg hb5' rfl;have hto:qU x.term=((gB x.term.kind).isSome&&(cu x.term.args.length s.1 s.2.1&&cu x.term.to.length s.2.2.1 s.2.2.2)):=by rw[qU,<-hsh];cases gB x.term.kind<;>rfl
  refine aK (skip r h5) dk ?_;have bad:qU x.term=UP->∀ch,ch=trV (10,(b:Int),(x.ins.length:Int))->Kp ch h5:=λe ch hch=>hKp _ _ ⟨_,her (by rw[endS,if_neg (by simp[e])]),hch,kp03.trans (kp4.trans kp5)⟩;have good:qU x.term=UO->∀tl:Env,@LC.wp (ppOf Kp) UQ z (dT 1 (fJ K2 (dT 0 (@dY [] K)))) ([(0,ptz Kb),(2,UH UI b),(3,ptz B),(10,ptz B5),(11,.bool UO),(18,vb),(19,UH UI f.blocks.length),(20,UH UI b),(43,vi),
   (44,UH UI x.ins.length),(45,UH UI x.ins.length),(79,v79),(82,UH UI x.term.kind),(83,v83)]++tl) h5:=by
   intro hgood tl;subst hz;have ct5':=ae dk ct5;have cb5:=k5.c1;have hne:0<f.blocks.length:=by omega
   simp[ct5',bt5.len];refine aG [0,2,3,18,19,20,116,117,118] (fun(_:Unit) i=>[ptz Kb,UH UI b,ptz B,vb,UH UI f.blocks.length,UH UI b,vt,UH UI x.term.to.length,UH UI i])
    (λ_ i h6=>h6=h5/\∀j,j<i->cu (nth x.term.to j) 1 (f.blocks.length-1)=UO) x.term.to.length ()
    rfl U1 (by simp[aX,af,ag]) ⟨rfl,λj hj=>by omega⟩ (λ_ _=>rfl) (λv i h1 hk m=>by simp) ?_ ?_
   ·rintro _ i h5 hlti ⟨rfl,hpre⟩ K3 hK3;refine aa λy hy=>?_;simp(disch:=omega)[bt5.idx1 rfl,bt5.int dk];subst hy;refine aK (skip r h5) dk ?_;simp(disch:=omega)[ci5,bi5.len,cb5,k5.rb.len];refine ah U0 kK ?_;rintro _ _ ⟨rfl,rfl⟩;refine⟨dk,?_⟩;refine eo U0 iQ ?_ ?_
    ·rintro _ _ ⟨e,rfl⟩;refine hK3 () _ _ rfl rfl ⟨rfl,λj hj=>?_⟩;rcases Ri j i with h | h
     ·exact hpre j h
     have:j=i:=by omega
     subst this;exact e
    rintro ch _ ⟨e,hch,rfl⟩;refine⟨.inr λ_=>trivial,hKp _ _ ⟨_,her ?_,hch,kp03.trans (kp4.trans kp5)⟩⟩;rw[endS,if_pos hgood,if_neg];intro ha;rw[RS.1 ha _ (bF hlti)]at e;cases e
   rintro _ h5 ⟨rfl,hpre⟩;simp;refine hK2 () _ _ rfl rfl ⟨m4,?_,k5,kp03.trans (kp4.trans kp5)⟩;rw[hst,endS,if_pos hgood,if_pos];rw[RS];intro y hy;obtain⟨j,hj,rfl⟩:=RH hy;rw[<-aC hj];exact hpre j hj
  cases hso:(gB x.term.kind).isSome with
  | false=>
   simp[ci5,bi5.len,d0,d1,d2,d3,ca5,ba5.len,ct5,bt5.len,af,ag];refine eo U0 iQ ?_ ?_
   ·rintro _ _ ⟨e,_⟩;cases e
   rintro ch _ ⟨_,hch,rfl⟩;exact⟨.inr λ_=>trivial,bad (by rw[hto,hso];rfl) _ hch⟩
  | true=>
   rw[hso,Tl]at hto;simp[ci5,bi5.len,d0,d1,d2,d3,ca5,ba5.len,ct5,bt5.len,af,ag];refine ah U0 kK ?_;rintro _ _ ⟨rfl,rfl⟩;refine⟨dk,?_⟩;cases hw1:cu x.term.args.length s.1 s.2.1 with
   | false=>
    simp[af,ag];refine eo U0 iQ ?_ ?_
    ·rintro _ _ ⟨e,_⟩;cases e
    rintro ch _ ⟨_,hch,rfl⟩;exact⟨.inr λ_=>trivial,bad (by rw[hto,hw1];rfl) _ hch⟩
   | true=>
    simp[af,ag];refine ah U0 kK ?_;rintro _ _ ⟨rfl,rfl⟩;refine⟨dk,?_⟩;refine eo U0 iQ ?_ ?_
    ·rintro _ _ ⟨e,rfl⟩;exact good (by rw[hto,hw1,e];rfl) _
    rintro ch _ ⟨e,hch,rfl⟩;exact⟨.inr λ_=>trivial,bad (by rw[hto,hw1,e];rfl) _ hch⟩
 rintro _ h1 ⟨m1,hm1,k1,kp1⟩;simp;exact hK _ _ ⟨m1,hm1,k1,kp1⟩
theorem tx : ∀{a b:List Int},a.Pairwise (· < ·)->b.Pairwise (· < ·)->(∀x,x∈a↔x∈b)->a=b
 | [],[],_,_,_=>rfl
 | [],y::b,_,_,h=>by have:=(h y).2 (Rm ..);cases this
 | x::a,[],_,_,h=>by have:=(h x).1 (Rm ..);cases this
 | x::a,y::b,ha,hb,h=>by
  obtain⟨a1,a2⟩:=Ue.1 ha;obtain⟨b1,b2⟩:=Ue.1 hb;have e:x=y:=by
   rcases Ru.1 ((h x).1 (Rm ..))with e | h1
   ·exact e
   rcases Ru.1 ((h y).2 (Rm ..))with e | h2
   ·exact e.symm
   have:=a1 y h2;have:=b1 x h1;omega
  subst e;rw[tx a2 b2 λz=>?_];constructor
  ·intro hz;rcases Ru.1 ((h z).1 (Q7 _ hz))with e | h1
   ·have:=a1 z hz;omega
   exact h1
  intro hz;rcases Ru.1 ((h z).2 (Q7 _ hz))with e | h1
  ·have:=b1 z hz;omega
  exact h1
theorem BM(l:List Int):(sw l).Pairwise (·<=·):=by have:=List.pairwise_mergeSort (le:=λx y:Int=>decide (x<=y)) (λa b c h1 h2=>by simp at *;omega) (λa b=>by simp;omega) l;exact this.imp λh=>by simpa using h
theorem get!_nth{l:List Int}{i:Nat}:l.toArray[i]! = nth l i:=by simp[nth,SW]
theorem zD{l:List Int}(hs:l.Pairwise (·<=·)){i j:Nat}(hij:i<=j)(hj:j<l.length):nth l i<=nth l j:=by
 rw[aC U1,aC hj];rcases Ri i j with h | h
 ·exact List.pairwise_iff_getElem.1 hs i j U1 hj h
 have:i=j:=by omega
 subst this;exact SR _
theorem zm{l:List Int}(hs:l.Pairwise (·<=·)):(Lib.compact l).Pairwise (· < ·):=by unfold Lib.compact Lib.compactUpTo;rw[List.pairwise_map,List.pairwise_filter];refine(List.pairwise_lt_range (n:=l.length)).imp_of_mem fun{i j} hi hj hij ki kj=>?_;simp only[SG]at hi hj;simp only[Lib.keeps,get!_nth,decide_eq_true_eq]at kj;rw[get!_nth,get!_nth];have h1:=zD hs (i:=i) (j:=j-1) U1 U1;have h2:=zD hs (i:=j-1) (j:=j) U1 hj;rcases kj with h | h<;>omega
theorem yb{l:List Int}{x:Int}:x∈Lib.compact l↔x∈l:=by
 refine⟨rE,λhx=>?_⟩;obtain⟨j,hj,rfl⟩:=RH hx;have key : ∀j,j<l.length->nth l j∈Lib.compact l:=by
  intro j;induction j with
  | zero=>intro h;unfold Lib.compact Lib.compactUpTo;refine Sf.2 ⟨0,SP.2 ⟨by simpa using h,by simp[Lib.keeps]⟩,get!_nth⟩
  | succ j ih=>
   intro h;by_cases he:nth l (j+1)=nth l j
   ·rw[he];exact ih U1
   unfold Lib.compact Lib.compactUpTo;refine Sf.2 ⟨j+1,SP.2 ⟨by simpa using h,by simp only[Lib.keeps,get!_nth,decide_eq_true_eq];exact .inr (by simpa using he)⟩,get!_nth⟩
 rw[<-aC hj];exact key j hj
theorem qY{β:Type}{p:Nat->Bool}{x:Nat->β}{y:β}:y∈sift p x n↔∃i,i<n/\p i=UO/\x i=y:=by rw[sB];simp[and_assoc]
theorem CM{n:Int}:(mL row n).Pairwise (· < ·):=zm (BM _)
theorem vZ{n x:Int}:x∈mL row n↔x∈row/\0<=x/\x<n:=by
 rw[mL,yb,sw,Uc,qY];simp only[rz,Q9,decide_eq_true_eq];constructor
 ·rintro⟨i,hi,h,rfl⟩;exact⟨bF hi,h⟩
 rintro⟨h,h1⟩;obtain⟨i,hi,rfl⟩:=RH h;exact⟨i,hi,by rw[aC hi];exact h1,aC hi⟩
theorem jz{g:Gr}{a:Int}:pH g a b=UO↔(0<=a/\a<g.length/\0<=b/\b<g.length)/\b∈nth g a.toNat:=by simp[pH]
theorem Dl{p:Nat->Bool}:(sift p (λb=>(b:Int)) n).Pairwise (· < ·):=by rw[sB,List.pairwise_map,List.pairwise_filter];exact List.pairwise_lt_range.imp λh _ _=>by omega
theorem iC{g:Gr}{a:Int}:b∈mK g a↔pH g a b=true:=by
 rw[mK,qY];constructor
 ·rintro⟨i,_,h,rfl⟩;exact h
 intro h;have:=(jz.1 h).1;exact⟨b.toNat,by omega,by rw[RE U1];exact h,RE U1⟩
theorem vu{g:Gr}{a:Int}:(mK g a).Pairwise (· < ·):=Dl
theorem zo{g:Gr}{a:Nat}(ha:a<g.length):nth (dJ g) a=mK g a:=by rw[dJ,gH ha];refine tx CM vu λx=>?_;rw[vZ,iC,jz,RB];exact⟨λ⟨h1,h2,h3⟩=>⟨⟨by omega,by omega,h2,h3⟩,h1⟩,λ⟨⟨_,_,h2,h3⟩,h1⟩=>⟨h1,h2,h3⟩⟩
theorem EV{f k:Nat->List Int}(h : ∀a,a<n->f a=k a):lz f n=lz k n:=by
 induction n with
 | zero=>rfl
 | succ n ih=>rw[j9,j9,ih λa ha=>h a U1,h n U1]
theorem Iw{g:Gr}:jF g=lz (λa=>mK g a) g.length:=EV λa ha=>zo ha
theorem JN{l:List (Int × Int)}: ∀{p:Gr} {i:Nat},i<p.length->nth (l.foldl fK p) i=nth p i++(l.filter λe=>decide (e.2.toNat=i)).map Prod.fst:=by
 induction l with
 | nil=>intro p i _;simp
 | cons e l ih=>
  intro p i hi;rw[RG,ih (by simpa[fK]using hi),fK,bU hi,TY];split
  ·rename_i h;simp[h]
  rename_i h;simp[h]
theorem filter_one{l:List Int}(hs:l.Pairwise (· < ·)):l.filter (λx=>decide (x=b))=if b∈l then[b] else[]:=by
 induction l with
 | nil=>simp
 | cons x l ih=>
  obtain⟨h1,h2⟩:=Ue.1 hs;rw[TY,ih h2];by_cases hx:x=b
  ·subst hx;have:¬x∈l:=λh=>by have:=h1 x h;omega
   simp[this]
  simp[hx,Ne.symm hx]
theorem Ki{f:Nat->List Int}(hf : ∀a,(f a).Pairwise (· < ·))(hp : ∀a,∀x∈f a,0<=x){b:Nat}:((lz f n).filter λe=>decide (e.2.toNat=b)).map Prod.fst=sift (λa=>decide ((b:Int)∈f a)) (λa=>(a:Int)) n:=by
 induction n with
 | zero=>rfl
 | succ n ih=>
  rw[j9,SK,Tj,ih];have e1:((f n).map λb=>((n:Int),b)).filter (λe=>decide (e.2.toNat=b))=((f n).filter λx=>decide (x=(b:Int))).map λb=>((n:Int),b):=by rw[List.filter_map];congr 1;refine TP λx hx=>?_;have:=hp n x hx;simp only[Function.comp,decide_eq_decide];omega
  rw[e1,filter_one (hf n)];by_cases h:(b:Int)∈f n
  ·rw[if_pos h,oZ (by simpa using h)];rfl
  rw[if_neg h,nV (by simpa using h)];simp
theorem qW{g:Gr}:(dR g).length=g.length:=by rw[dR,qA];simp
theorem DA{g:Gr}:dR g=wM g:=by
 refine AL (by rw[qW,E7]) λb hb=>?_;rw[qW]at hb;rw[dR,JN (by simpa using hb),aE hb,RV,wM,gH hb,Iw,Ki (λ_=>vu) (λa x hx=>by have:=(jz.1 (iC.1 hx)).1;omega)];have e:(λa:Nat=>decide ((b:Int)∈mK g a))=λa:Nat=>pH g a b:=by funext a;rw[RM];simp[iC]
 rw[e]
theorem HY{g:Gr}{a:Int}(hb:0<=b/\b<g.length):a∈nth (dR g) b.toNat↔pH g a b=true:=by
 rw[DA,wM,gH U1,qY];constructor
 ·rintro⟨i,_,h,rfl⟩;rwa [RE hb.1]at h
 intro h;have:=(jz.1 h).1;exact⟨a.toNat,by omega,by rw[RE U1,RE U1];exact h,RE U1⟩
structure Le(x y:List Bool):Prop where
 len:y.length=x.length
 le : ∀i,nth x i=UO->nth y i=UO
theorem Le.refl(x:List Bool):Le x x:=⟨rfl,λ_ h=>h⟩
theorem Le.trans{x y z:List Bool}(h:Le x y)(k:Le y z):Le x z:=⟨k.len.trans h.len,λi e=>k.le i (h.le i e)⟩
theorem Le.antisymm{x y:List Bool}(h:Le x y)(k:Le y x):x=y:=by refine AL h.len.symm λi _=>?_;rw[RM];exact⟨h.le i,k.le i⟩
theorem Le.dH : ∀{x y:List Bool},Le x y->x=y\/dH y<dH x
 | [],y,h=>.inl (Ry h.len).symm
 | a::x,y,h=>by
  match y,h with
  | [],h=>have:=h.len;simp at this
  | b::y,h=>
   have h2:Le x y:=⟨by simpa using h.len,λi e=>by have:=h.le (i+1);simpa[nth]using this (by simpa[nth]using e)⟩;have h0:a=UO->b=true:=λe=>by have:=h.le 0;simpa[nth]using this (by simpa[nth]using e)
   unfold Go.Lft.dH;rcases h2.dH with rfl | h3
   ·cases a<;>cases b<;>simp at h0 ⊢
   unfold Go.Lft.dH at h3;cases a<;>cases b<;>simp at h0 ⊢<;>omega
theorem Oi{x:List Bool}{i:Nat}{b:Bool}(hb:nth x i=UO->b=UO):Le x (x.set i b):=by
 refine⟨by simp,λj hj=>?_⟩;rcases Ri j x.length with h | h
 ·rw[bU h];split
  ·rename_i e;subst e;exact hb hj
  exact hj
 rw[dt h]at hj;cases hj
theorem AY{f:Nat->List Bool->List Bool}(hf : ∀k x,Le x (f k x))(x:List Bool) : ∀n m,n<=m->Le (up f n x) (up f m x)
  | n,0,h=>by
                  obtain rfl:n=0:=by omega
                  exact Le.refl _
  | n,m+1,h=>by
    rcases Ri n (m+1)with h1 | h1
    · exact(AY hf x n m U1).trans (hf m _)
    · obtain rfl:n=m+1:=by omega
      exact Le.refl _
theorem N4{f:Nat->List Bool->List Bool}(hf : ∀k x,Le x (f k x)){x:List Bool}(h:up f n x=x): ∀k,k<n->f k x=x:=by
 have key : ∀k,k<=n->up f k x=x:=λk hk=>by have h1:=AY hf x k n hk;rw[h]at h1;have h2:=AY hf x 0 k (SD _);exact(h2.antisymm h1).symm
 intro k hk;have h1:=key (k+1) U1;rw[up,key k U1]at h1;exact h1
theorem DB{β:Type}{F:β->β} : ∀(n:Nat) (x:β),up (λ_=>F) (n+1) x=up (λ_=>F) n (F x)
 | 0,x=>rfl
 | n+1,x=>by show F (up (λ_=>F) (n+1) x)=F (up (λ_=>F) n (F x));rw[DB n x]
theorem DP{β:Type}{F:β->β}{x:β}(h:F x=x) : ∀n,up (λ_=>F) n x=x
 | 0=>rfl
 | n+1=>by show F (up (λ_=>F) n x)=x;rw[DP h n,h]
theorem Jk{F:List Bool->List Bool}(hF : ∀x,Le x (F x)) : ∀(n:Nat) (x:List Bool),dH x<=n->F (up (λ_=>F) n x)=up (λ_=>F) n x
 | 0,x,h=>by
  rcases(hF x).dH with e | e
  ·exact e.symm
  omega
 | n+1,x,h=>by
  rw[DB];rcases(hF x).dH with e | e
  ·rw[<-e,DP e.symm];exact e.symm
  exact Jk hF n _ U1
inductive Re(g:Gr)(gone:Int):Nat->Prop
 | root:0<g.length->gone≠0->Re g gone 0
 | step {a b:Nat}:Re g gone a->pH g a b=UO->(b:Int)≠gone->Re g gone b
theorem Re.lt{g:Gr}{gone:Int}{b:Nat}(h:Re g gone b):b<g.length:=by
 cases h with
 | root h _=>exact h
 | step _ h _=>have:=(jz.1 h).1;omega
variable{gone:Int}
theorem Re.ne{g:Gr}{b:Nat}(h:Re g gone b):(b:Int)≠gone:=by
 cases h with
 | root _ h=>exact λe=>h e.symm
 | step _ _ h=>exact h
theorem Re.all{g:Gr}{b:Nat}(h:Re g gone b):Re g (-1) b:=by
 induction h with
 | root h _=>exact .root h U3
 | step _ h _ ih=>exact .step ih h U1
theorem zV{l:List Int}{i:Nat}{x:List Bool}:Le x (yh gone l i x):=Oi λh=>by rw[h];rfl
theorem xJ{g:Gr}{a:Nat}{x:List Bool}:Le x (outBlock g gone a x):=by
 unfold outBlock;split
 ·exact AY (λk x=>zV) x 0 _ (SD _)
 exact Le.refl _
theorem xw{g:Gr}{x:List Bool}:Le x (pA g gone x):=AY (λk x=>xJ) x 0 _ (SD _)
theorem uK{β:Type}(I:β->Prop){f:Nat->β->β}(hf : ∀k x,k<n->I x->I (f k x)){x:β}(hx:I x):I (up f n x):=by
 have : ∀m,m<=n->I (up f m x):=by
  intro m;induction m with
  | zero=>exact λ_=>hx
  | succ m ih=>exact λh=>hf _ _ U1 (ih U1)
 exact this n (Q4 _)
theorem CU{g:Gr}{b:Nat}:nth (px g gone) b=UO↔Re g gone b:=by
 by_cases h0:g.length=0\/gone=0
 ·rw[px,if_pos h0];constructor
  ·intro h;rcases Ri b g.length with h1 | h1
   ·rw[aE h1]at h;cases h
   rw[dt (by simpa using h1)]at h;cases h
  intro h;exfalso;induction h with
  | root h1 h2=>rcases h0 with h0 | h0;omega;exact h2 h0
  | step _ _ _ ih=>exact ih
 rw[px,if_neg h0];have hg:g.length≠0:=λe=>h0 (.inl e);have hgone:gone≠0:=λe=>h0 (.inr e);have hinit:((List.replicate g.length UP).set 0 UO).length=g.length:=by simp
 constructor
 ·have hI : ∀x:List Bool,(∀b,nth x b=UO->Re g gone b)->∀b,nth (pA g gone x) b=UO->Re g gone b:=by
   intro x hx;refine uK (λx:List Bool=>∀b,nth x b=UO->Re g gone b) (λa x ha hx=>?_) hx;unfold outBlock;split
   ·rename_i hxa;have hra:=hx a hxa;refine uK (λx:List Bool=>∀b,nth x b=UO->Re g gone b) (λi x hi hx=>?_) hx;intro b hb;have hm:=bF hi;have hed:=iC.1 hm;have hrng:=(jz.1 hed).1;unfold yh at hb;rcases Ri b x.length with h1 | h1
    ·rw[bU h1]at hb;split at hb
     ·rename_i e;rcases(Sa _ _).mp hb with h2 | h2
      ·rw[e]at h2;exact hx b h2
      have eb:(b:Int)=nth (mK g a) i:=by omega
      exact .step hra (by rw[eb];exact hed) (by rw[eb];simpa using h2)
     exact hx b hb
    rw[dt (by simpa using h1)]at hb;cases hb
   exact hx
  exact uK (λx:List Bool=>∀b,nth x b=UO->Re g gone b) (λ_ x _ hx=>hI x hx) (λb hb=>by
   rcases Ri b g.length with h1 | h1
   ·rw[bU (by simpa using h1)]at hb;split at hb
    ·rename_i e;subst e;exact .root U1 hgone
    rw[aE h1]at hb;cases hb
   rw[dt (by simpa using h1)]at hb;cases hb) b
 intro h;have hfix:=Jk (F:=pA g gone) (λx=>xw) g.length ((List.replicate g.length UP).set 0 UO) (by
  have:=Ak (t:=List.replicate g.length UP) (i:=0);have h2:dH (List.replicate g.length UP)=g.length:=by simp[dH]
  omega);have hle:=AY (f:=λ_=>pA g gone) (λ_ x=>xw) ((List.replicate g.length UP).set 0 UO) 0 g.length (SD _);generalize up (λ_=>pA g gone) g.length ((List.replicate g.length UP).set 0 UO)=x at hfix hle;have hxl:x.length=g.length:=hle.len.trans hinit;induction h with
 | root h1 _=>exact hle.le 0 (by show nth ((List.replicate g.length UP).set 0 UO) 0=UO;rw[bU (by simpa using h1),if_pos rfl])
 | step ha he hb ih=>rename_i a b;have hrng:=(jz.1 he).1;have h1:=N4 (λk x=>xJ) hfix a U1;rw[outBlock,if_pos ih]at h1;obtain⟨i,hi,e⟩:=RH (iC.2 he);have h2:=N4 (λk x=>zV) h1 i hi;rw[<-aC hi]at e;unfold yh at h2;rw[e]at h2;have h3:=congrArg (λl=>nth l b) h2;simp only[RB]at h3;rw[bU U1,if_pos rfl]at h3;rw[<-h3];simp[hb]
theorem rM{g:Gr}{a b:Nat}:domC g a b=UO↔Re g (-1) a/\Re g (-1) b/\¬Re g a b:=by
 rw[domC];simp only[Q9,Sa,Sr,decide_eq_true_eq,CU,Tq,ne_eq];constructor
 ·rintro⟨⟨h1,h2⟩,h3⟩;refine⟨h1,h2,?_⟩;rcases h3 with h3 | h3
  ·exact λh=>h.ne h3.symm
  exact h3
 rintro⟨h1,h2,h3⟩;exact⟨⟨h1,h2⟩,.inr h3⟩
def Bef(l:List Int)(u v:Int):Prop:=∃p q,l=p++u::q/\v∈q
theorem Bef.app{l:List Int}{u v:Int}(h:Bef l u v)(t:List Int):Bef (l++t) u v:=by obtain⟨p,q,rfl,hv⟩:=h;exact⟨p,q++t,by simp,Ss _ hv⟩
theorem Bef.pre{l:List Int}{u v:Int}(h:Bef l u v)(t:List Int):Bef (t++l) u v:=by obtain⟨p,q,rfl,hv⟩:=h;exact⟨t++p,q,by simp,hv⟩
theorem Bef.Gu{l t:List Int}{u v:Int}(hu:u∈l)(hv:v∈t):Bef (l++t) u v:=by obtain⟨p,q,rfl⟩:=List.append_of_mem hu;exact⟨p,q++t,by simp,Sq _ hv⟩
theorem Bef.mem{l:List Int}{u v:Int}(h:Bef l u v):u∈l/\v∈l:=by obtain⟨p,q,rfl,hv⟩:=h;exact⟨by simp,by simp[hv]⟩
inductive Adv(nx:Int->List Int)(l:List Int)(u:Int):Int->Prop
 | self:Adv nx l u u
 | step {p q:Int}:Adv nx l u p->q∈nx p->Bef l q p->Adv nx l u q
theorem Adv.app{nx:Int->List Int}{l:List Int}{u v:Int}(h:Adv nx l u v)(t:List Int):Adv nx (l++t) u v:=by
 induction h with
 | self=>exact .self
 | step _ h1 h2 ih=>exact .step ih h1 (h2.app t)
theorem Adv.pre{nx:Int->List Int}{l:List Int}{u v:Int}(h:Adv nx l u v)(t:List Int):Adv nx (t++l) u v:=by
 induction h with
 | self=>exact .self
 | step _ h1 h2 ih=>exact .step ih h1 (h2.pre t)
theorem Adv.trans{nx:Int->List Int}{l:List Int}{u v w:Int}(h:Adv nx l u v)(k:Adv nx l v w):Adv nx l u w:=by
 induction k with
 | self=>exact h
 | step _ h1 h2 ih=>exact .step ih h1 h2
def vis(s:List Bool × List Int)(x:Int):Prop:=nth s.1 x.toNat=UO
structure Told(nx:Int->List Int)(m:Nat)(a:Int)(s s':List Bool × List Int)(new:List Int):Prop where
 out:s'.2=s.2++new
 len:s'.1.length=s.1.length
 nodup:new.Nodup
 visd : ∀x,0<=x->(vis s' x↔vis s x\/x∈new)
 fresh : ∀x∈new,¬vis s x/\0<=x/\x<m
 last : ∃t,new=t++[a]
 clos : ∀x∈new,∀y∈nx x,vis s' y
 par : ∀x∈new,x≠a->∃p∈new,x∈nx p/\Bef new x p
 desc : ∀x∈new,Adv nx new a x
 ret : ∀x∈new,∀y∈nx x,y∈new->Bef new y x\/Adv nx new y x
structure Half(nx:Int->List Int)(m:Nat)(a:Int)(k:Nat)(s s':List Bool × List Int)(new:List Int):Prop where
 out:s'.2=s.2++new
 len:s'.1.length=s.1.length
 nodup:new.Nodup
 visd : ∀x,0<=x->(vis s' x↔vis s x\/x=a\/x∈new)
 fresh : ∀x∈new,¬vis s x/\(0<=x/\x<m)/\x≠a
 clos : ∀x∈new,∀y∈nx x,vis s' y
 done : ∀j,j<k->vis s' (nth (nx a) j)
 par : ∀x∈new,x∈nx a\/∃p∈new,x∈nx p/\Bef new x p
 desc : ∀x∈new,∃b∈new,b∈nx a/\Adv nx new b x
 ret : ∀x∈new,∀y∈nx x,y∈new->Bef new y x\/Adv nx new y x
theorem AS{nx:Int->List Int}{m:Nat}(hnx : ∀a:Int,0<=a->a<m->∀y∈nx a,0<=y/\y<m) : ∀(n:Nat) (a:Int) (s:List Bool × List Int),0<=a->a<m->s.1.length=m->nth s.1 a.toNat=UP->dH s.1<=n->
  ∃new,Told nx m a s (kE nx n a s) new
 | 0,a,s,h0,h1,hl,hf,hc=>by exfalso;have:=km (t:=s.1) (i:=a.toNat) U1 hf;omega
 | n+1,a,s,h0,h1,hl,hf,hc=>by
  have hfs:=km (t:=s.1) (i:=a.toNat) U1 hf;rw[lJ];have half : ∀k,k<=(nx a).length->∃new,Half nx m a k s (up (dq nx n a) k (s.1.set a.toNat UO,s.2)) new/\dH (up (dq nx n a) k (s.1.set a.toNat UO,s.2)).1<=n:=by
   intro k;induction k with
   | zero=>
    intro _;refine⟨[],⟨by simp[up],by simp[up],by simp,λx hx=>?_,by simp,by simp,by simp,by simp,by simp,by simp⟩,by simp only[up];omega⟩;unfold vis;show nth (s.1.set a.toNat UO) x.toNat=UO↔_;rcases Ri x.toNat s.1.length with hlt | hge
    ·rw[bU hlt];split
     ·rename_i e;have:x=a:=by omega
      simp[this]
     rename_i e;have:x≠a:=λh=>e (by rw[h]);simp[this]
    rw[dt (by simpa using hge),dt hge];have:x≠a:=by omega
    simp[this]
   | succ k ih=>
    intro hk;obtain⟨new,H,hcn⟩:=ih U1;rw[up];generalize up (dq nx n a) k (s.1.set a.toNat UO,s.2)=z at H hcn;have hb:=hnx a h0 h1 (nth (nx a) k) (bF U1);have hbm:nth (nx a) k∈nx a:=bF U1;have hzl:z.1.length=m:=H.len.trans hl;rw[dq];split
    ·rename_i hv;refine⟨new,{ H with done:=λj hj=>?_ },hcn⟩;rcases Ri j k with h | h
     ·exact H.done j h
     obtain rfl:j=k:=by omega
     exact hv
    rename_i hv;obtain⟨new',T⟩:=AS hnx n (nth (nx a) k) z hb.1 hb.2 hzl (by simpa using hv) hcn;have hkeep:=(rN (nx:=nx) (m:=m) (c:=n) n (nth (nx a) k) z ⟨hzl,hcn⟩).2;generalize kE nx n (nth (nx a) k) z=z' at T hkeep;obtain⟨t,ht⟩:=T.last;have hbn:nth (nx a) k∈new':=by rw[ht];simp
    have up : ∀y,0<=y->vis z y->vis z' y:=λy hy h=>(T.visd y hy).2 (.inl h);have hnv : ∀x∈new,vis z x:=λx hx=>(H.visd x (H.fresh x hx).2.1.1).2 (.inr (.inr hx));refine⟨new++new',⟨?_,?_,?_,?_,?_,?_,?_,?_,?_,?_⟩,hkeep⟩
    ·rw[T.out,H.out,Rn]
    ·rw[T.len,H.len]
    ·exact SO.2 ⟨H.nodup,T.nodup,λx hx y hy e=>by subst e;exact(T.fresh x hy).1 (hnv x hx)⟩
    ·intro x hx;rw[T.visd x hx,H.visd x hx,Rj];constructor
     ·rintro((h | h | h) | h)
      ·exact .inl h
      ·exact .inr (.inl h)
      ·exact .inr (.inr (.inl h))
      exact .inr (.inr (.inr h))
     rintro(h | h | h | h)
     ·exact .inl (.inl h)
     ·exact .inl (.inr (.inl h))
     ·exact .inl (.inr (.inr h))
     exact .inr h
    ·intro x hx;rcases Rj.1 hx with hx | hx
     ·exact H.fresh x hx
     obtain⟨g1,g2⟩:=T.fresh x hx;refine⟨λh=>g1 ((H.visd x g2.1).2 (.inl h)),g2,λe=>g1 ((H.visd x g2.1).2 (.inr (.inl e)))⟩
    ·intro x hx y hy;rcases Rj.1 hx with hx | hx
     ·have hxr:=(H.fresh x hx).2.1;exact up y (hnx x hxr.1 hxr.2 y hy).1 (H.clos x hx y hy)
     exact T.clos x hx y hy
    ·intro j hj;rcases Ri j k with h | h
     ·exact up _ (hnx a h0 h1 _ (bF U1)).1 (H.done j h)
     obtain rfl:j=k:=by omega
     exact(T.visd _ hb.1).2 (.inr hbn)
    ·intro x hx;rcases Rj.1 hx with hx | hx
     ·rcases H.par x hx with h | ⟨p,hp,h2,h3⟩
      ·exact .inl h
      exact .inr ⟨p,Ss _ hp,h2,h3.app _⟩
     by_cases e:x=nth (nx a) k
     ·exact .inl (e▸hbm)
     obtain⟨p,hp,h2,h3⟩:=T.par x hx e;exact .inr ⟨p,Sq _ hp,h2,h3.pre _⟩
    ·intro x hx;rcases Rj.1 hx with hx | hx
     ·obtain⟨b,hb,h2,h3⟩:=H.desc x hx;exact⟨b,Ss _ hb,h2,h3.app _⟩
     exact⟨_,Sq _ hbn,hbm,(T.desc x hx).pre _⟩
    intro x hx y hy hyn;rcases Rj.1 hx with hx | hx<;>rcases Rj.1 hyn with hyn | hyn
    ·exact(H.ret x hx y hy hyn).imp (·.app _) (·.app _)
    ·exact absurd (H.clos x hx y hy) (T.fresh y hyn).1
    ·exact .inl (Bef.Gu hyn hx)
    exact(T.ret x hx y hy hyn).imp (·.pre _) (·.pre _)
  obtain⟨new,H,hcn⟩:=half (nx a).length (Q4 _);generalize up (dq nx n a) (nx a).length (s.1.set a.toNat UO,s.2)=z at H hcn;have hda : ∀y∈nx a,vis z y:=by intro y hy;obtain⟨j,hj,rfl⟩:=RH hy;have:=H.done j hj;rwa [aC hj]at this
  have hadv : ∀x∈new,Adv nx (new++[a]) a x:=by intro x hx;obtain⟨b,hb,h2,h3⟩:=H.desc x hx;exact(Adv.step .self h2 (Bef.Gu hb U2)).trans (h3.app _)
  refine⟨new++[a],⟨?_,H.len,?_,?_,?_,⟨new,rfl⟩,?_,?_,?_,?_⟩⟩
  ·simp only[H.out,Rn]
  ·refine SO.2 ⟨H.nodup,by simp,λx hx y hy e=>?_⟩;simp only[Q8]at hy;exact(H.fresh x hx).2.2 (e.trans hy)
  ·intro x hx;show nth z.1 x.toNat=UO↔_;have:=H.visd x hx;unfold vis at this ⊢;rw[this];simp only[Rj,Q8];constructor
   ·rintro(h | h | h)
    ·exact .inl h
    ·exact .inr (.inr h)
    exact .inr (.inl h)
   rintro(h | h | h)
   ·exact .inl h
   ·exact .inr (.inr h)
   exact .inr (.inl h)
  ·intro x hx;rcases Rj.1 hx with hx | hx
   ·exact⟨(H.fresh x hx).1,(H.fresh x hx).2.1⟩
   simp only[Q8]at hx;subst hx;exact⟨by unfold vis;rw[hf];simp,h0,h1⟩
  ·intro x hx y hy;rcases Rj.1 hx with hx | hx
   ·exact H.clos x hx y hy
   simp only[Q8]at hx;subst hx;exact hda y hy
  ·intro x hx hne;rcases Rj.1 hx with hx | hx
   ·rcases H.par x hx with h | ⟨p,hp,h2,h3⟩
    ·exact⟨a,by simp,h,Bef.Gu hx U2⟩
    exact⟨p,Ss _ hp,h2,h3.app _⟩
   simp only[Q8]at hx;exact absurd hx hne
  ·intro x hx;rcases Rj.1 hx with hx | hx
   ·exact hadv x hx
   simp only[Q8]at hx;subst hx;exact .self
  intro x hx y hy hyn;rcases Rj.1 hyn with hn | hn
  ·rcases Rj.1 hx with hx | hx
   ·exact(H.ret x hx y hy hn).imp (·.app _) (·.app _)
   simp only[Q8]at hx;subst hx;exact .inl (Bef.Gu hn U2)
  simp only[Q8]at hn;subst hn;rcases Rj.1 hx with hx | hx
  ·exact .inr (hadv x hx)
  simp only[Q8]at hx;subst hx;exact .inr .self
end Go.Lft
namespace Go.Lft.Chk
inductive Anc(o:Nat->Nat)(x:Nat):Nat->Prop
 | self:Anc o x x
 | up {b:Nat}:b≠0->Anc o x (o b)->Anc o x b
theorem vC{o:Nat->Nat}{x:Nat}:Anc o x 0↔x=0:=by
 constructor
 ·intro h;cases h with
  | self=>rfl
  | up h _=>exact absurd rfl h
 rintro rfl;exact .self
variable{b:Nat}
theorem qg{o:Nat->Nat}{x:Nat}(hb:b≠0):Anc o x b↔x=b\/Anc o x (o b):=by
 constructor
 ·intro h;cases h with
  | self=>exact .inl rfl
  | up _ h=>exact .inr h
 rintro(rfl | h)
 ·exact .self
 exact .up hb h
theorem Anc.trans{o:Nat->Nat}{x y:Nat}(h:Anc o x y)(k:Anc o y b):Anc o x b:=by
 induction k with
 | self=>exact h
 | up hb _ ih=>exact .up hb ih
theorem Anc.total{o:Nat->Nat}{x y:Nat}(h:Anc o x b)(k:Anc o y b):Anc o x y\/Anc o y x:=by
 induction h with
 | self=>exact .inr k
 | up hb h ih=>
  cases k with
  | self=>exact .inl (.up hb h)
  | up _ k=>exact ih k
structure Ch(R:Nat->Prop)(r:Nat->Nat)(E:Nat->Nat->Prop)(f:Nat->Nat)(D:Nat->Nat->Prop):Prop where
 inj : ∀a b,R a->R b->r a=r b->a=b
 R0:R 0
 r0:r 0=0
 hf : ∀x,R x->x≠0->R (f x)/\E (f x) x/\r (f x)<r x
 d1 : ∀d b a,D d b->d≠b->E a b->R a->D d a
 d0 : ∀d,D d 0->d=0
def Ok(Pr:Nat->Prop)(x:Nat):Prop:=x=0\/Pr x
structure Inv(R:Nat->Prop)(r:Nat->Nat)(E:Nat->Nat->Prop)(f:Nat->Nat)(D:Nat->Nat->Prop)(k:Nat)(o:Nat->Nat)(Pr:Nat->Prop):Prop where
 pr : ∀b,Pr b->R b/\b≠0/\Ok Pr (o b)/\r (o b)<r b
 all : ∀b,R b->b≠0->r b<k->Pr b
 fok : ∀b,Pr b->Ok Pr (f b)
 K : ∀b,Pr b->∀x,(∀a,E a b->R a->Ok Pr a->Anc o x a)->Anc o x (o b)
 FP : ∀b,Pr b->∀y,Anc o y (o b)->k<=r y->Anc o y (f b)
 FP2 : ∀b,Pr b->r b<k->Anc o (o b) (f b)
 S : ∀b,Pr b->∀d,D d b->d≠b->Anc o d (o b)
section
variable{R:Nat->Prop}{r:Nat->Nat}{E:Nat->Nat->Prop}{f:Nat->Nat}{D:Nat->Nat->Prop}{k:Nat}{o:Nat->Nat}{Pr:Nat->Prop}
theorem Inv.okR(I:Inv R r E f D k o Pr)(C:Ch R r E f D){x:Nat}(h:Ok Pr x):R x:=by
 rcases h with rfl | h
 ·exact C.R0
 exact(I.pr x h).1
theorem Inv.anc(I:Inv R r E f D k o Pr){x:Nat}(h:Anc o x b):Ok Pr b->Ok Pr x/\(x=b\/r x<r b):=by
 induction h with
 | self=>exact λhb=>⟨hb,.inl rfl⟩
 | up hb _ ih=>
  intro hok;rcases hok with rfl | hp
  ·exact absurd rfl hb
  obtain⟨_,_,h3,h4⟩:=I.pr _ hp;obtain⟨h5,h6⟩:=ih h3;refine⟨h5,.inr ?_⟩;rcases h6 with rfl | h6
  ·exact h4
  omega
theorem Inv.dom(I:Inv R r E f D k o Pr)(C:Ch R r E f D){d:Nat}(hb:Ok Pr b)(h:D d b):Anc o d b:=by
 by_cases e:d=b
 ·subst e;exact .self
 rcases hb with rfl | hb
 ·exact absurd (C.d0 d h) e
 exact .up (I.pr b hb).2.1 (I.S b hb d h e)
def upd(o:Nat->Nat)(c q:Nat):Nat->Nat:=λb=>if b=c then q else o b
def add(Pr:Nat->Prop)(c:Nat):Nat->Prop:=λb=>b=c\/Pr b
theorem ld{c q x:Nat}(h:¬Anc o c b):Anc (upd o c q) x b↔Anc o x b:=by
 constructor
 ·intro k;induction k with
  | self=>exact .self
  | up hb k ih=>
   rename_i b;have hne:b≠c:=λe=>h (e▸.self);have e:upd o c q b=o b:=by unfold upd;rw[if_neg hne]
   rw[e]at ih k;exact .up hb (ih λhc=>h (.up hb hc))
 intro k;induction k with
 | self=>exact .self
 | up hb k ih=>
  rename_i b;have hne:b≠c:=λe=>h (e▸.self);have e:upd o c q b=o b:=by unfold upd;rw[if_neg hne]
  exact .up hb (by rw[e];exact ih λhc=>h (.up hb hc))
theorem OW{c q x:Nat}(hc:c≠0)(hq:¬Anc o c q):Anc (upd o c q) x c↔x=c\/Anc o x q:=by rw[qg hc,show upd o c q c=q by simp[upd],ld hq]
theorem Inv.LS(I:Inv R r E f D k o Pr){x y:Nat}(hx:Ok Pr x)(hy:Ok Pr y)(h1:Anc o x y)(h2:Anc o y x):x=y:=by have e1:=(I.anc h1 hy).2;have e2:=(I.anc h2 hx).2;omega
theorem Inv.below(I:Inv R r E f D k o Pr){c q x:Nat}(hpc:Pr c)(hq:¬Anc o c q)(h:Anc o c b):Ok Pr b->(Anc (upd o c q) x b↔(Anc o x b/\Anc o c x)\/Anc o x q):=by
 have hc:=(I.pr c hpc).2.1;induction h with
 | self=>
  intro hb;rw[OW hc hq];constructor
  ·rintro(rfl | h)
   ·exact .inl ⟨.self,.self⟩
   exact .inr h
  rintro(⟨h1,h2⟩ | h)
  ·exact .inl (I.LS (I.anc h1 hb).1 hb h1 h2)
  exact .inr h
 | up hb h ih=>
  rename_i b;intro hok;have hpb:Pr b:=hok.resolve_left hb;obtain⟨_,_,h3,h4⟩:=I.pr b hpb;have hne:b≠c:=λe=>by
   subst e;rcases(I.anc h h3).2 with e | e
   ·rw[<-e]at h4;omega
   omega
  have e:upd o c q b=o b:=by unfold upd;rw[if_neg hne]
  rw[qg hb,e,ih h3,qg hb];constructor
  ·rintro(rfl | ⟨h1,h2⟩ | h1)
   ·exact .inl ⟨.inl rfl,.up hb h⟩
   ·exact .inl ⟨.inr h1,h2⟩
   exact .inr h1
  rintro(⟨rfl | h1,h2⟩ | h1)
  ·exact .inl rfl
  ·exact .inr (.inl ⟨h1,h2⟩)
  exact .inr (.inr h1)
structure Turn(R:Nat->Prop)(r:Nat->Nat)(E:Nat->Nat->Prop)(o:Nat->Nat)(Pr:Nat->Prop)(c q:Nat):Prop where
 ok:Ok Pr q
 q : ∀x,Anc o x q↔∀a,E a c->R a->Ok Pr a->Anc o x a
theorem Inv.fc(I:Inv R r E f D k o Pr)(C:Ch R r E f D){c:Nat}(hR:R c)(hc:c≠0)(hk:r c=k):Ok Pr (f c):=by
 obtain⟨h1,_,h3⟩:=C.hf c hR hc;by_cases e:f c=0
 ·exact .inl e
 exact .inr (I.all _ h1 e U1)
theorem Turn.lt{c q:Nat}(T:Turn R r E o Pr c q)(I:Inv R r E f D k o Pr)(C:Ch R r E f D)(hR:R c)(hc:c≠0)(hk:r c=k):r q<r c/\Anc o q (f c):=by
 obtain⟨h1,h2,h3⟩:=C.hf c hR hc;have h4:=(T.q q).1 .self (f c) h2 h1 (I.fc C hR hc hk);have:=(I.anc h4 (I.fc C hR hc hk)).2;refine⟨?_,h4⟩;rcases this with e | e
 ·rw[e];exact h3
 omega
theorem Inv.turn(I:Inv R r E f D k o Pr)(C:Ch R r E f D){c q:Nat}(hR:R c)(hc:c≠0)(hk:r c=k)(T:Turn R r E o Pr c q):Inv R r E f D (k+1) (upd o c q) (add Pr c):=by
 obtain⟨f1,f2,f3⟩:=C.hf c hR hc;have hfok:=I.fc C hR hc hk;obtain⟨hlt,hqf⟩:=T.lt I C hR hc hk;have hq:¬Anc o c q:=λh=>by
  have:=(I.anc h T.ok).2;rcases this with e | e
  ·rw[e]at hlt;omega
  omega
 have hcf:¬Anc o c (f c):=λh=>by
  have:=(I.anc h hfok).2;rcases this with e | e
  ·rw[<-e]at f3;omega
  omega
 have okm : ∀x,Ok Pr x->Ok (add Pr c) x:=λx h=>h.imp id .inr;have up_ne : ∀b,b≠c->upd o c q b=o b:=λb hb=>by unfold upd;rw[if_neg hb]
 have up_c:upd o c q c=q:=by simp[upd]
 have hpc : ∀b,Ok Pr b->Anc o c b->Pr c:=λb hb h=>((I.anc h hb).1).resolve_left hc;have mono : ∀b,Ok Pr b->∀x,Anc (upd o c q) x b->Anc o x b:=by
  intro b hb x h;by_cases hcb:Anc o c b
  ·have hp:=hpc b hb hcb;rcases(I.below hp hq hcb hb).1 h with⟨h1,_⟩ | h1
   ·exact h1
   exact(Anc.up hc (I.K c hp x ((T.q x).1 h1))).trans hcb
  exact(ld hcb).1 h
 have stay : ∀b,Ok Pr b->∀x,Anc o x b->(Anc o c b->Anc o c x\/Anc o x q)->Anc (upd o c q) x b:=by
  intro b hb x h h2;by_cases hcb:Anc o c b
  ·refine(I.below (hpc b hb hcb) hq hcb hb).2 ?_;rcases h2 hcb with h3 | h3
   ·exact .inl ⟨h,h3⟩
   exact .inr h3
  exact(ld hcb).2 h
 have domc : ∀n b,r b<=n->Ok Pr b->Anc o c b->∀d,D d b->r d<r c->D d c:=by
  intro n;induction n with
  | zero=>
   intro b hb hok hcb d hd hlt;have:=(I.anc hcb hok).2;rcases this with rfl | h
   ·exact hd
   omega
  | succ n ih=>
   intro b hb hok hcb d hd hlt;by_cases e:c=b
   ·subst e;exact hd
   have hb0:b≠0:=λe0=>by subst e0;exact e (vC.1 hcb)
   have hpb:=hok.resolve_left hb0;have hcb':Anc o c (o b):=((qg hb0).1 hcb).resolve_left e;obtain⟨g1,g2,g3⟩:=C.hf b (I.pr b hpb).1 hb0;have hlb:=(I.anc hcb hok).2;have hdb:d≠b:=λe2=>by subst e2;omega
   exact ih (f b) U1 (I.fok b hpb) (I.FP b hpb c hcb' U1) d (C.d1 d b (f b) hd hdb g2 g1) hlt
 have domq : ∀d,D d c->d≠c->Anc o d q:=by intro d hd hne;refine(T.q d).2 λa ha hRa hoka=>?_;exact I.dom C hoka (C.d1 d c a hd hne ha hRa)
 refine⟨?_,?_,?_,?_,?_,?_,?_⟩
 ·rintro b (rfl | hb)
  ·rw[up_c];exact⟨hR,hc,okm _ T.ok,hlt⟩
  by_cases e:b=c
  ·subst e;rw[up_c];exact⟨hR,hc,okm _ T.ok,hlt⟩
  rw[up_ne b e];obtain⟨h1,h2,h3,h4⟩:=I.pr b hb;exact⟨h1,h2,okm _ h3,h4⟩
 ·intro b hRb hb0 hlt;by_cases e:r b=k
  ·exact .inl (C.inj b c hRb hR U1)
  exact .inr (I.all b hRb hb0 U1)
 ·rintro b (rfl | hb)
  ·exact okm _ hfok
  exact okm _ (I.fok b hb)
 ·intro b hb x hx;have hx' : ∀a,E a b->R a->Ok Pr a->Anc o x a:=λa h1 h2 h3=>mono a h3 x (hx a h1 h2 (okm a h3));by_cases e:b=c
  ·subst e;rw[up_c,ld hq];exact(T.q x).2 hx'
  have hpb:Pr b:=hb.resolve_left e;rw[up_ne b e];obtain⟨h1,h2,h3,h4⟩:=I.pr b hpb;have hxo:=I.K b hpb x hx';refine stay (o b) h3 x hxo λhco=>?_;rcases Anc.total hxo hco with h5 | h5
  ·obtain⟨g1,g2,g3⟩:=C.hf b h1 h2;have hcf2:=I.FP b hpb c hco U1;have hxf:=hx (f b) g2 g1 (okm _ (I.fok b hpb));rcases(I.below (hpc _ h3 hco) hq hcf2 (I.fok b hpb)).1 hxf with⟨_,h6⟩ | h6
   ·exact .inl h6
   exact .inr h6
  exact .inl h5
 ·intro b hb y hy hky;by_cases e:b=c
  ·subst e;rw[up_c,ld hq]at hy;exact(ld hcf).2 (hy.trans hqf)
  have hpb:Pr b:=hb.resolve_left e;rw[up_ne b e]at hy;obtain⟨h1,h2,h3,h4⟩:=I.pr b hpb;have hyf:=I.FP b hpb y (mono _ h3 y hy) U1;refine stay (f b) (I.fok b hpb) y hyf λhcf2=>?_;rcases Anc.total hyf hcf2 with h5 | h5
  ·exfalso;have:=(I.anc h5 (.inr (hpc _ (I.fok b hpb) hcf2))).2;rcases this with e2 | e2
   ·subst e2;omega
   omega
  exact .inl h5
 ·intro b hb hlt;by_cases e:b=c
  ·subst e;rw[up_c];exact(ld hcf).2 hqf
  have hpb:Pr b:=hb.resolve_left e;rw[up_ne b e];obtain⟨h1,h2,h3,h4⟩:=I.pr b hpb;obtain⟨g1,g2,g3⟩:=C.hf b h1 h2;have hbk:r b<k:=by
   rcases Ri (r b) k with h | h
   ·exact h
   exact absurd (C.inj b c h1 hR U1) e
  have h5:=I.FP2 b hpb hbk;refine(ld λhcf2=>?_).2 h5;have:=(I.anc hcf2 (I.fok b hpb)).2;rcases this with e2 | e2
  ·rw[<-e2]at g3;omega
  omega
 intro b hb d hd hne;by_cases e:b=c
 ·subst e;rw[up_c,ld hq];exact domq d hd hne
 have hpb:Pr b:=hb.resolve_left e;rw[up_ne b e];obtain⟨h1,h2,h3,h4⟩:=I.pr b hpb;have hdo:=I.S b hpb d hd hne;refine stay (o b) h3 d hdo λhco=>?_;rcases Anc.total hdo hco with h5 | h5
 ·have hpcc:=hpc _ h3 hco;rcases(I.anc h5 (.inr hpcc)).2 with e2 | e2
  ·subst e2;exact .inl .self
  exact .inr (domq d (domc (r b) b (Q4 _) (.inr hpb) (.up h2 hco) d hd e2) λe3=>by subst e3;omega)
 exact .inl h5
theorem Inv.again(I:Inv R r E f D k o Pr)(hk : ∀b,R b->r b<k):Inv R r E f D 0 o Pr:=by refine⟨I.pr,λb hR h0 h=>I.all b hR h0 (hk b hR),I.fok,I.K,λb hb y hy _=>?_,λb _ h=>absurd h U1,I.S⟩;exact hy.trans (I.FP2 b hb (hk b (I.pr b hb).1))
theorem Inv.start:Inv R r E f D 0 o (λ_=>False):=
 ⟨λ_ h=>h.elim,λ_ _ _ h=>absurd h U1,λ_ h=>h.elim,λ_ h=>h.elim,λ_ h=>h.elim,λ_ h=>h.elim,λ_ h=>h.elim⟩
theorem Inv.PB(I:Inv R r E f D k o Pr){c q:Nat}(T:Turn R r E o Pr c q)(hp:Pr c):q=o c\/r q<r (o c):=by have:=I.K c hp q ((T.q q).1 .self);exact(I.anc this (I.pr c hp).2.2.1).2
end
end Go.Lft.Chk
namespace Go.Lft
open Chk
theorem Jt{β:Type}{f k:Nat->β->β}{n:Nat}(I:β->Prop)(h : ∀i x,i<n->I x->f i x=k i x)(hI : ∀i x,i<n->I x->I (f i x)){x:β}(hx:I x):up f n x=up k n x:=by
 have key : ∀m,m<=n->up f m x=up k m x/\I (up f m x):=by
  intro m;induction m with
  | zero=>exact λ_=>⟨rfl,hx⟩
  | succ m ih=>intro hm;obtain⟨h1,h2⟩:=ih U1;exact⟨by rw[up,up,<-h1,h m _ U1 h2],hI _ _ U1 h2⟩
 exact(key n (Q4 _)).1
theorem xR{nx nx':Int->List Int}{m:Nat}(hnx : ∀a:Int,0<=a->a<m->nx a=nx' a/\∀y∈nx a,0<=y/\y<m) : ∀(n:Nat) (a:Int) (s:List Bool × List Int),0<=a->a<m->kE nx n a s=kE nx' n a s
 | 0,_,_,_,_=>rfl
 | n+1,a,s,h0,h1=>by
  obtain⟨e,hr⟩:=hnx a h0 h1;rw[lJ,lJ,<-e];have:up (dq nx n a) (nx a).length (s.1.set a.toNat UO,s.2)=up (dq nx' n a) (nx a).length (s.1.set a.toNat UO,s.2):=by refine Jt (λ_=>True) (λi x hi _=>?_) (λ_ _ _ _=>trivial) trivial;unfold dq;rw[<-e];obtain⟨g0,g1⟩:=hr _ (bF hi);rw[xR hnx n _ x g0 g1]
  rw[this]
theorem Ay{g:Gr}{a y:Int}(h:y∈mK g a):0<=y/\y<g.length:=by have:=(jz.1 (iC.1 h)).1;omega
theorem GB{g:Gr}{a:Int}(h0:0<=a)(h1:a<g.length):nx (dJ g) a=mK g a:=by unfold nx;rw[zo U1,RE h0]
theorem JW{g:Gr}:bI g=mI (mK g) g.length:=by
 unfold bI mI;split
 ·rfl
 rw[xR (m:=g.length) (λa h0 h1=>⟨GB h0 h1,λy hy=>Ay (by rwa [GB h0 h1]at hy)⟩) _ _ _ U1 U1]
structure Ord(g:Gr)(order:List Int):Prop where
 nodup:order.Nodup
 mem : ∀x:Nat,(x:Int)∈order↔Re g (-1) x
 rng : ∀x∈order,0<=x/\x<g.length
 head:order[0]? = UK 0
 par : ∀x∈order,x≠0->∃p∈order,pH g p x=UO/\order.idxOf p<order.idxOf x
 ret : ∀x∈order,∀y∈order,pH g x y=UO->order.idxOf y<=order.idxOf x->∃l,Adv (mK g) l y x/\∀u v,Bef l u v->order.idxOf v<order.idxOf u
theorem xd{l:List Int}(hn:l.Nodup){u v:Int}(h:Bef l u v):l.reverse.idxOf v<l.reverse.idxOf u:=by
 obtain⟨p,q,rfl,hv⟩:=h;have hu:u∉q:=by have:=(SO.1 hn).2.1;exact(S0.1 this).1
 rw[List.reverse_append,List.reverse_cons,Rn];have h1:(q.reverse++([u]++p.reverse)).idxOf v<q.reverse.length:=by rw[List.idxOf_append,if_pos (by simpa using hv)];exact T5 (by simpa using hv)
 have h2:(q.reverse++([u]++p.reverse)).idxOf u=q.reverse.length:=by rw[List.idxOf_append,if_neg (by simpa using hu)];simp
 omega
theorem kU{g:Gr}(hg:0<g.length):Ord g (bI g):=by
 have hT:=AS (nx:=mK g) (m:=g.length) (λa _ _ y hy=>Ay hy) g.length 0 (List.replicate g.length UP,[]) U1 U1 U2 (aE (by simpa using hg)) (by simp[dH]);have ho:bI g=(kE (mK g) g.length 0 (List.replicate g.length UP,[])).2.reverse:=by rw[JW,mI,if_neg U1]
 obtain⟨new,T⟩:=hT;have hout:=T.out;simp only[RV]at hout;rw[ho,hout];have hv0 : ∀x:Int,¬vis (List.replicate g.length UP,([]:List Int)) x:=by
  intro x h;unfold vis at h;simp only at h;rcases Ri x.toNat g.length with h1 | h1
  ·rw[aE h1]at h;cases h
  rw[dt (by simpa using h1)]at h;cases h
 have hvis : ∀x,0<=x->(vis (kE (mK g) g.length 0 (List.replicate g.length UP,[])) x↔x∈new):=λx hx=>by rw[T.visd x hx];exact⟨λh=>h.resolve_left (hv0 x),.inr⟩
 obtain⟨t,ht⟩:=T.last;have h0:(0:Int)∈new:=by rw[ht];simp
 have hre : ∀x∈new,Re g (-1) x.toNat:=by
  intro x hx;have:=T.desc x hx;clear hx;induction this with
  | self=>exact .root hg U3
  | step _ h1 h2 ih=>have hpr:=T.fresh _ h2.mem.2;have hqr:=T.fresh _ h2.mem.1;have he:=iC.1 h1;refine .step ih ?_ U1;rwa [RE hpr.2.1,RE hqr.2.1]
 refine⟨by simpa[List.Nodup,List.pairwise_reverse,ne_comm]using T.nodup,λx=>?_,λx hx=>(T.fresh x (by simpa using hx)).2,?_,?_,?_⟩
 ·rw[List.mem_reverse];constructor
  ·intro h;simpa using hre x h
  intro h;induction h with
  | root _ _=>exact h0
  | step _ he _ ih=>exact(hvis _ U1).1 (T.clos _ ih _ (iC.2 he))
 ·rw[ht,List.reverse_append];rfl
 ·intro x hx hne;obtain⟨p,hp,h1,h2⟩:=T.par x (by simpa using hx) hne;exact⟨p,by simpa using hp,iC.1 h1,xd T.nodup h2⟩
 intro x hx y hy he hle;rcases T.ret x (by simpa using hx) y (iC.2 he) (by simpa using hy)with h | h
 ·have:=xd T.nodup h;omega
 exact⟨new,h,λu v huv=>xd T.nodup huv⟩
theorem xL{n:Nat}{order:List Int}(hn:order.Nodup)(hr : ∀x∈order,0<=x/\x<(n:Int)){x:Nat}(hx:x<n):nth (fV n order) x=if(x:Int)∈order then(order.idxOf (x:Int):Int) else -1:=by
 have key : ∀k,k<=order.length->(up (λi l=>l.set (nth order i).toNat (i:Int)) k (List.replicate n (-1))).length=n/\nth (up (λi l=>l.set (nth order i).toNat (i:Int)) k (List.replicate n (-1))) x=if(x:Int)∈order.take k then(order.idxOf (x:Int):Int) else -1:=by
  intro k;induction k with
  | zero=>intro _;exact⟨by simp[up],by rw[up,aE hx];simp⟩
  | succ k ih=>
   intro hk;obtain⟨h1,h2⟩:=ih U1;rw[up];refine⟨by simpa using h1,?_⟩;rw[bU U1,Rr U1,h2];have hmem:order[k]∈order:=Sp _;have hrk:=hr _ hmem;rw[aC (show k<order.length by omega)];by_cases e:order[k].toNat=x
   ·have e2:order[k]=(x:Int):=by omega
    rw[if_pos e,if_pos (by rw[<-e2];exact Sq _ (Q8.2 rfl)),<-e2,TD hn]
   rw[if_neg e];have e2:¬(x:Int)=order[k]:=λh=>e U1;simp only[Rj,Q8,e2,or_false]
 have:=(key order.length (Q4 _)).2;rw[Rq (Q4 _)]at this;exact this
def st(out:List Int):Nat->Nat:=λb=>(nth out b).toNat
def pd(out:List Int):Nat->Prop:=λb=>b<out.length/\0<=nth out b
def rk(g:Gr)(x:Nat):Nat:=(bI g).idxOf (x:Int)
def Eg(g:Gr)(a b:Nat):Prop:=pH g a b=UO
def Dm(g:Gr)(d b:Nat):Prop:=domC g d b=UO
def Rg(g:Gr)(x:Nat):Prop:=Re g (-1) x
section
variable{g:Gr}
theorem GG{x:Nat}(h:Rg g x):rk g x<(bI g).length:=T5 (((kU (Nat.lt_of_le_of_lt (SD _) h.lt)).mem x).2 h)
theorem Rg.pos{x:Nat}(h:Rg g x):0<g.length:=Nat.lt_of_le_of_lt (SD _) h.lt
theorem Ma{x:Nat}(h:Rg g x):rk g x<g.length:=Sc (GG h) uv
theorem FE{a b:Nat}(ha:Rg g a)(hb:Rg g b)(h:rk g a=rk g b):a=b:=by
 have O:=kU ha.pos;have h1:=List.getElem_idxOf (GG ha);have h2:=List.getElem_idxOf (GG hb);have:(a:Int)=(b:Int):=by rw[<-h1,<-h2];congr 1
 omega
theorem yo(hg:0<g.length):rk g 0=0:=by
 have O:=kU hg;unfold rk;have hl:0<(bI g).length:=by
  have:=O.head;rcases Su (bI g).length with h | h
  ·rw[Ry h]at this;cases this
  exact h
 have h0:=O.head;rw[RK hl]at h0;have h1:(bI g)[0]=0:=Option.some.inj h0;have:=TD O.nodup 0 hl;rw[h1]at this;exact this
theorem wR{x:Nat}(h:Rg g x):nth (fV g.length (bI g)) x=(rk g x:Int):=by have O:=kU h.pos;rw[xL O.nodup O.rng h.lt,if_pos ((O.mem x).2 h)];rfl
theorem E4{x:Nat}(hx:x<g.length)(h:¬Rg g x):nth (fV g.length (bI g)) x=-1:=by have O:=kU (g:=g) U1;rw[xL O.nodup O.rng hx,if_neg λe=>h ((O.mem x).1 e)]
theorem Lv(hg:0<g.length): ∃f:Nat->Nat,∀x,Rg g x->x≠0->Rg g (f x)/\Eg g (f x) x/\rk g (f x)<rk g x:=by
 have O:=kU hg;have : ∀x,∃p,Rg g x->x≠0->Rg g p/\Eg g p x/\rk g p<rk g x:=by
  intro x;by_cases h:Rg g x/\x≠0
  ·obtain⟨p,hp,h1,h2⟩:=O.par x ((O.mem x).2 h.1) U1;have hr:=O.rng p hp;have e:((p.toNat:Nat):Int)=p:=RE hr.1;refine⟨p.toNat,λ_ _=>⟨(O.mem _).1 (by rw[e];exact hp),by unfold Eg;rw[e];exact h1,by unfold rk;rw[e];exact h2⟩⟩
  exact⟨0,λh1 h2=>absurd ⟨h1,h2⟩ h⟩
 exact⟨λx=>(this x).choose,λx=>(this x).choose_spec⟩
theorem PO(hg:0<g.length){f:Nat->Nat}(hf : ∀x,Rg g x->x≠0->Rg g (f x)/\Eg g (f x) x/\rk g (f x)<rk g x):Ch (Rg g) (rk g) (Eg g) f (Dm g) where
 inj:=λa b ha hb h=>FE ha hb h
 R0:=.root hg U3
 r0:=yo hg
 hf:=hf
 d1:=λd b a hd hne he ha=>by
  obtain⟨h1,h2,h3⟩:=rM.1 hd
  exact rM.2 ⟨h1,ha,λh=>h3 (.step h he U1)⟩
 d0:=λd hd=>by
  obtain⟨h1,h2,h3⟩:=rM.1 hd
  rcases Su d with h | h
  ·exact h
  ·exact absurd (.root hg U1) h3
structure Good(g:Gr)(f:Nat->Nat)(k:Nat)(out:List Int):Prop where
 len:out.length=g.length
 rng : ∀b,b<g.length->nth out b=-1\/(0<=nth out b/\nth out b<g.length)
 inv:Inv (Rg g) (rk g) (Eg g) f (Dm g) k (st out) (pd out)
variable{f:Nat->Nat}{k:Nat}{out:List Int}
theorem Good.DH(G:Good g f k out)(C:Ch (Rg g) (rk g) (Eg g) f (Dm g)){x:Nat}(h:Ok (pd out) x):Rg g x/\x<g.length:=⟨G.inv.okR C h,(G.inv.okR C h).lt⟩
theorem rW(G:Good g f k out)(C:Ch (Rg g) (rk g) (Eg g) f (Dm g)) : ∀(fuel a b:Nat),Ok (pd out) a->Ok (pd out) b->rk g a+rk g b<fuel->
  ∃c:Nat,lP out (fV g.length (bI g)) fuel a b=UK (c:Int)/\Ok (pd out) c/\∀x,Anc (st out) x c↔Anc (st out) x a/\Anc (st out) x b
 | 0,a,b,_,_,h=>by omega
 | fuel+1,a,b,ha,hb,h=>by
  obtain⟨ra,la⟩:=G.DH C ha;obtain⟨rb,lb⟩:=G.DH C hb;have hg:=ra.pos;have hnl:(fV g.length (bI g)).length=g.length:=by rw[fV,BP List.length (λ_ _=>by simp)];simp
  have hol:=G.len;rw[lP,if_pos U1,RB,RB,wR ra,wR rb];have step : ∀a b:Nat,Ok (pd out) a->Ok (pd out) b->rk g b<rk g a->a≠0/\nth out a=((st out a:Nat):Int)/\Ok (pd out) (st out a)/\rk g (st out a)<rk g a/\∀x,Anc (st out) x (st out a)/\Anc (st out) x b↔Anc (st out) x a/\Anc (st out) x b:=by
   intro a b ha hb hlt;have ha0:a≠0:=λe=>by subst e;rw[yo hg]at hlt;omega
   have hpa:=ha.resolve_left ha0;obtain⟨_,_,h3,h4⟩:=G.inv.pr a hpa;refine⟨ha0,(RE hpa.2).symm,h3,h4,λx=>⟨λ⟨h5,h6⟩=>⟨.up ha0 h5,h6⟩,λ⟨h5,h6⟩=>⟨?_,h6⟩⟩⟩;rcases(qg ha0).1 h5 with rfl | h7
   ·have:=(G.inv.anc h6 hb).2;rcases this with e | e
    ·subst e;omega
    omega
   exact h7
  by_cases h1:rk g b<rk g a
  ·rw[if_pos U1];obtain⟨ha0,e,h3,h4,h5⟩:=step a b ha hb h1;rw[e];obtain⟨c,h6,h7,h8⟩:=rW G C fuel (st out a) b h3 hb U1;exact⟨c,h6,h7,λx=>(h8 x).trans (h5 x)⟩
  rw[if_neg U1];by_cases h2:rk g a<rk g b
  ·rw[if_pos U1];obtain⟨hb0,e,h3,h4,h5⟩:=step b a hb ha h2;rw[e];obtain⟨c,h6,h7,h8⟩:=rW G C fuel a (st out b) ha h3 U1;exact⟨c,h6,h7,λx=>(h8 x).trans (by rw[and_comm,h5 x,and_comm])⟩
  rw[if_neg U1];have e:a=b:=FE ra rb U1;subst e;exact⟨a,rfl,ha,λx=>by simp⟩
def Bst(out:List Int)(best:Int)(Q:Nat->Prop):Prop:=
 (best=-1/\∀a,¬Q a)\/∃c:Nat,best=(c:Int)/\Ok (pd out) c/\(∃a,Q a)/\∀x,Anc (st out) x c↔∀a,Q a->Anc (st out) x a
def Cons(g:Gr)(out:List Int)(a:Nat):Prop:=Rg g a/\Ok (pd out) a
theorem sU{best:Int}{Q Q':Nat->Prop}(h : ∀a,Q a↔Q' a)(b:Bst out best Q):Bst out best Q':=by have:Q=Q':=funext λa=>propext (h a);rw[<-this];exact b
theorem vN(G:Good g f k out)(C:Ch (Rg g) (rk g) (Eg g) f (Dm g)) : ∀(l:List Int) (best:Int) (Q:Nat->Prop),Bst out best Q->(∀a∈l,0<=a/\a<(g.length:Int))->
  ∃best',bstS out (fV g.length (bI g)) g.length l best=UK best'/\Bst out best' λa=>Q a\/((a:Int)∈l/\Cons g out a)
 | [],best,Q,hB,_=>⟨best,rfl,sU (λa=>by simp) hB⟩
 | a::l,best,Q,hB,hl=>by
  obtain⟨h0,h1⟩:=hl a (Rm ..);have hl':=λx hx=>hl x (Q7 _ hx);obtain⟨n,rfl⟩:=Sg h0;have hn:n<g.length:=by omega
  have hol:=G.len;rw[bstS,if_pos ⟨h0,h1⟩,RB];have hcons:(nth (fV g.length (bI g)) n<0\/((n:Int)≠0/\nth out n<0))↔¬Cons g out n:=by
   by_cases hr:Rg g n
   ·rw[wR hr];constructor
    ·rintro(h | ⟨h2,h3⟩)
     ·omega
     rintro⟨_,h4 | h4⟩
     ·omega
     have:=h4.2;omega
    intro h;right;refine⟨λe=>h ⟨hr,.inl U1⟩,?_⟩;rcases Int.lt_or_le (nth out n) 0 with h2 | h2
    ·exact h2
    exact absurd ⟨hr,.inr ⟨by omega,h2⟩⟩ h
   rw[E4 hn hr];exact⟨λ_ h=>hr h.1,λ_=>.inl U1⟩
  by_cases hc:Cons g out n
  ·rw[if_neg λh=>hcons.1 h hc];rcases hB with⟨rfl,hQ⟩ | ⟨c,rfl,hok,hex,hq⟩
   ·rw[if_pos U3];obtain⟨b',h2,h3⟩:=vN G C l n (λa=>a=n) (.inr ⟨n,rfl,hc.2,⟨n,rfl⟩,λx=>by simp⟩) hl';refine⟨b',h2,sU (λa=>?_) h3⟩;constructor
    ·rintro(rfl | ⟨h4,h5⟩)
     ·exact .inr ⟨Rm ..,hc⟩
     exact .inr ⟨Q7 _ h4,h5⟩
    rintro(h4 | ⟨h4,h5⟩)
    ·exact absurd h4 (hQ a)
    rcases Ru.1 h4 with h4 | h4
    ·exact .inl U1
    exact .inr ⟨h4,h5⟩
   rw[if_neg U1];obtain⟨rc,_⟩:=G.DH C hok;obtain⟨d,h2,h3,h4⟩:=rW G C (2*g.length+2) c n hok hc.2 (by have:=Ma rc;have:=Ma hc.1;omega);rw[h2];simp only[RD];obtain⟨b',h5,h6⟩:=vN G C l d (λa=>Q a\/a=n) (.inr ⟨d,rfl,h3,⟨n,.inr rfl⟩,λx=>by
    rw[h4,hq];constructor
    ·rintro⟨h7,h8⟩ a (ha | rfl)
     ·exact h7 a ha
     exact h8
    intro h7;exact⟨λa ha=>h7 a (.inl ha),h7 n (.inr rfl)⟩⟩) hl';refine⟨b',h5,sU (λa=>?_) h6⟩;constructor
   ·rintro((h7 | rfl) | ⟨h7,h8⟩)
    ·exact .inl h7
    ·exact .inr ⟨Rm ..,hc⟩
    exact .inr ⟨Q7 _ h7,h8⟩
   rintro(h7 | ⟨h7,h8⟩)
   ·exact .inl (.inl h7)
   rcases Ru.1 h7 with h7 | h7
   ·exact .inl (.inr U1)
   exact .inr ⟨h7,h8⟩
  rw[if_pos (hcons.2 hc)];obtain⟨b',h2,h3⟩:=vN G C l best Q hB hl';refine⟨b',h2,sU (λa=>?_) h3⟩;constructor
  ·rintro(h4 | ⟨h4,h5⟩)
   ·exact .inl h4
   exact .inr ⟨Q7 _ h4,h5⟩
  rintro(h4 | ⟨h4,h5⟩)
  ·exact .inl h4
  rcases Ru.1 h4 with h6 | h6
  ·exact absurd ((show a=n by omega)▸h5) hc
  exact .inr ⟨h6,h5⟩
theorem HC(G:Good g f k out)(C:Ch (Rg g) (rk g) (Eg g) f (Dm g)){c:Nat}(hR:Rg g c)(hc:c≠0)(hk:rk g c=k):
  ∃q:Nat,bstS out (fV g.length (bI g)) g.length (nth (dR g) c) (-1)=UK (q:Int)/\Turn (Rg g) (rk g) (Eg g) (st out) (pd out) c q:=by
 have hlt:=hR.lt;obtain⟨best,h1,h2⟩:=vN G C (nth (dR g) c) (-1) (λ_=>False) (.inl ⟨rfl,λ_ h=>h⟩) (wO (λe he=>(sT he).1) (λi x hx=>by
  rcases Ri i g.length with hi | hi
  ·rw[aE hi]at hx;cases hx
  rw[dt (by simpa using hi)]at hx;cases hx) c);have hm : ∀a:Nat,(a:Int)∈nth (dR g) c↔Eg g a c:=λa=>by have:=HY (g:=g) (a:=a) (b:=c) U6;rwa [RB]at this
 obtain⟨f1,f2,f3⟩:=C.hf c hR hc;rcases h2 with⟨_,h3⟩ | ⟨q,rfl,hok,_,hq⟩
 ·exact absurd (.inr ⟨(hm _).2 f2,f1,G.inv.fc C hR hc hk⟩) (h3 (f c))
 refine⟨q,h1,hok,λx=>?_⟩;rw[hq];constructor
 ·intro h a h4 h5 h6;exact h a (.inr ⟨(hm a).2 h4,h5,h6⟩)
 rintro h a (h4 | ⟨h4,h5,h6⟩)
 ·exact h4.elim
 exact h a ((hm a).1 h4) h5 h6
end
def sr(w:Nat->Nat):Nat->Nat
 | 0=>0
 | n+1=>sr w n+w n
theorem Js{w w':Nat->Nat} : ∀{n:Nat},(∀b,b<n->w' b<=w b)->sr w' n<=sr w n
 | 0,_=>Q4 _
 | n+1,h=>Nat.add_le_add (Js λb hb=>h b U1) (h n U1)
theorem JL{w w':Nat->Nat}{c:Nat} : ∀{n:Nat},(∀b,b<n->w' b<=w b)->c<n->w' c<w c->sr w' n<sr w n
 | 0,_,h,_=>by omega
 | n+1,h,hc,hlt=>by
  rcases Ri c n with h1 | h1
  ·have:=JL (n:=n) (λb hb=>h b U1) h1 hlt;have:=h n U1;simp only[sr];omega
  obtain rfl:c=n:=by omega
  have:=Js (n:=c) λb hb=>h b U1;simp only[sr];omega
theorem AU{w:Nat->Nat}{m:Nat} : ∀{n:Nat},(∀b,b<n->w b<=m)->sr w n<=n*m
 | 0,_=>by simp[sr]
 | n+1,h=>by have:=AU (n:=n) λb hb=>h b U1;have:=h n U1;rw[sr,Sb];omega
section
variable{g:Gr}{f:Nat->Nat}{k:Nat}{out:List Int}
def wt(g:Gr)(out:List Int)(b:Nat):Nat:=if nth out b<0 then g.length else rk g (st out b)
def mu(g:Gr)(out:List Int):Nat:=sr (wt g out) g.length
theorem Good.set(G:Good g f k out)(C:Ch (Rg g) (rk g) (Eg g) f (Dm g)){c q:Nat}(hR:Rg g c)(hc:c≠0)(hk:rk g c=k)(T:Turn (Rg g) (rk g) (Eg g) (st out) (pd out) c q)(ch:Bool) :
  Good g f (k+1) (setS out ch c q).1/\mu g (setS out ch c q).1<=mu g out/\((setS out ch c q).2=UO->ch=UO\/mu g (setS out ch c q).1<mu g out)/\((setS out ch c q).2=UP->ch=UP/\(setS out ch c q).1=out/\st out c=q/\pd out c):=by
 have hlt:=hR.lt;have hol:=G.len;obtain⟨hq,hqn⟩:=G.DH C T.ok;have I:=G.inv.turn C hR hc hk T;by_cases e:nth out c=q
 ·have hs:setS out ch c q=(out,ch):=by simp[setS,e]
  rw[hs];have hst:upd (st out) c q=st out:=by
   funext b;unfold upd;split
   ·rename_i hb;subst hb;simp[st,e]
   rfl
  have hpd:add (pd out) c=pd out:=by
   funext b;refine propext ⟨λh=>?_,.inr⟩;rcases h with rfl | h
   ·exact U6
   exact h
  rw[hst,hpd]at I;exact⟨⟨G.len,G.rng,I⟩,Q4 _,.inl,λh=>⟨h,rfl,by simp[st,e],by omega,by omega⟩⟩
 have hs:setS out ch c q=(out.set c q,UO):=by simp[setS,e]
 rw[hs];have hn : ∀b,b<g.length->nth (out.set c q) b=if c=b then(q:Int) else nth out b:=λb hb=>bU U1;have hst:st (out.set c q)=upd (st out) c q:=by
  funext b;unfold upd st;rcases Ri b out.length with hb | hb
  ·rw[bU hb];by_cases h:c=b
   ·rw[if_pos h,if_pos h.symm];simp
   rw[if_neg h,if_neg (Ne.symm h)]
  rw[dt (by simpa using hb),dt hb,if_neg U1]
 have hpd:pd (out.set c q)=add (pd out) c:=by
  funext b;refine propext ?_;unfold pd add;rw[RL];constructor
  ·rintro⟨h1,h2⟩;rw[bU h1]at h2;by_cases h:c=b
   ·exact .inl h.symm
   rw[if_neg h]at h2;exact .inr ⟨h1,h2⟩
  rintro(rfl | ⟨h1,h2⟩)
  ·exact⟨by omega,by rw[bU U1,if_pos rfl];omega⟩
  refine⟨h1,?_⟩;rw[bU h1];split
  ·omega
  exact h2
 have hw : ∀b,b<g.length->wt g (out.set c q) b<=wt g out b/\(b=c->wt g (out.set c q) b<wt g out b):=by
  intro b hb;by_cases h:c=b
  ·subst h;have e1:wt g (out.set c q) c=rk g q:=by unfold wt;rw[hn c hb,if_pos rfl,if_neg U1,hst];simp[upd]
   have e2:rk g q<wt g out c:=by
    unfold wt;split
    ·exact Ma hq
    rename_i h1;have hp:pd out c:=U6;rcases G.inv.PB T hp with h2 | h2
    ·exfalso;have:=RE hp.2;unfold st at h2;omega
    exact h2
   omega
  have e1:wt g (out.set c q) b=wt g out b:=by unfold wt st;rw[hn b hb,if_neg h]
  exact⟨by omega,λe=>absurd e.symm h⟩
 have hmu:mu g (out.set c q)<mu g out:=JL (λb hb=>(hw b hb).1) hlt ((hw c hlt).2 rfl);refine⟨⟨by simpa using hol,λb hb=>?_,by rw[hst,hpd];exact I⟩,by show mu g (out.set c q)<=_;omega,λ_=>.inr hmu,λh=>by cases h⟩;rw[hn b hb];split
 ·right;omega
 exact G.rng b hb
theorem zt(C:Ch (Rg g) (rk g) (Eg g) f (Dm g)) : ∀(l:List Int) (k:Nat) (out:List Int) (ch:Bool),l=(bI g).drop k->1<=k->k<=(bI g).length->Good g f k out->
  ∃out' ch',uq (fV g.length (bI g)) (dR g) g.length l (out,ch)=UK (out',ch')/\Good g f (bI g).length out'/\mu g out'<=mu g out/\(ch'=UO->ch=UO\/mu g out'<mu g out)/\
   (ch'=UP->ch=UP/\out'=out/\∀c:Nat,(c:Int)∈l->pd out c/\Turn (Rg g) (rk g) (Eg g) (st out) (pd out) c (st out c))
 | [],k,out,ch,hl,_,hk,G=>by
  have hk2:(bI g).length<=k:=by have:=congrArg List.length hl;simp only[TE,RQ]at this;omega
  obtain rfl:k=(bI g).length:=by omega
  exact⟨out,ch,rfl,G,Q4 _,.inl,λh=>⟨h,rfl,by simp⟩⟩
 | b::l,k,out,ch,hl,h1,hk,G=>by
  have hlt:k<(bI g).length:=by have:=congrArg List.length hl;simp only[RZ,RQ]at this;omega
  rw[RJ hlt]at hl;obtain⟨hb,hl2⟩:=List.cons.inj hl;have hmem:b∈bI g:=by rw[hb];exact Sp _
  have hg:0<g.length:=by have:=uv (g:=g);omega
  have O:=kU hg;have hr:=O.rng b hmem;obtain⟨c,rfl⟩:=Sg hr.1;have hR:Rg g c:=(O.mem c).1 hmem;have hrk:rk g c=k:=by unfold rk;rw[hb,TD O.nodup]
  have hc0:c≠0:=λe=>by subst e;rw[yo hg]at hrk;omega
  obtain⟨q,h3,T⟩:=HC G C hR hc0 hrk;rw[uq,if_pos hr,RB];simp only;rw[h3];simp only[RD];obtain⟨g1,g2,g3,g4⟩:=G.set C hR hc0 hrk T ch;have e:setS out ch c q=((setS out ch c q).1,(setS out ch c q).2):=rfl;rw[e];generalize hs1:(setS out ch c q).1=o1 at g1 g2 g3 g4;generalize hs2:(setS out ch c q).2=c1 at g3 g4;obtain⟨out',ch',k1,k2,k3,k4,k5⟩:=zt C l (k+1) o1 c1 hl2 U1 U1 g1;refine⟨out',ch',k1,k2,by omega,λh=>?_,λh=>?_⟩
  ·rcases k4 h with h4 | h4
   ·rcases g3 h4 with h5 | h5
    ·exact .inl h5
    exact .inr U1
   exact .inr U1
  obtain⟨h4,rfl,h6⟩:=k5 h;obtain⟨h7,rfl,h8,h9⟩:=g4 h4;refine⟨h7,rfl,λx hx=>?_⟩;rcases Ru.1 hx with hx | hx
  ·obtain rfl:x=c:=by omega
   exact⟨h9,h8▸T⟩
  exact h6 x hx
theorem Good.one(hg:0<g.length)(G:Good g f 0 out):Good g f 1 out:=by have I:=G.inv;have h0 : ∀b,Rg g b->b≠0->¬rk g b<1:=λb hR hb h=>hb (FE hR (.root hg U3) (by rw[yo hg];omega));exact⟨G.len,G.rng,⟨I.pr,λb hR hb h=>absurd h (h0 b hR hb),I.fok,I.K,λb hb y hy _=>I.FP b hb y hy U1,λb hb h=>absurd h (h0 b (I.pr b hb).1 (I.pr b hb).2.1),I.S⟩⟩
structure rS(g:Gr)(f:Nat->Nat)(l:List Int):Prop where
 good:Good g f (bI g).length l
 turn : ∀c,Rg g c->c≠0->pd l c/\Turn (Rg g) (rk g) (Eg g) (st l) (pd l) c (st l c)
theorem AZ(hg:0<g.length)(C:Ch (Rg g) (rk g) (Eg g) f (Dm g)) : ∀(fuel:Nat) (out:List Int),Good g f 0 out->mu g out<fuel->
  ∃l,pw (fV g.length (bI g)) (dR g) g.length ((bI g).drop (min 1 (bI g).length)) fuel out=UK l/\rS g f l
 | 0,_,_,h=>by omega
 | fuel+1,out,G,h=>by
  have O:=kU hg;have hlen:0<(bI g).length:=by
   rcases Su (bI g).length with h | h
   ·have:=O.head;rw[Ry h]at this;cases this
   exact h
  have hm:min 1 (bI g).length=1:=by omega
  rw[pw,hm];obtain⟨out',ch',k1,k2,k3,k4,k5⟩:=zt C ((bI g).drop 1) 1 out UP rfl (Q4 _) hlen (G.one hg);rw[k1];simp only[RD];cases ch' with
  | true=>rw[if_pos rfl];have:=AZ hg C fuel out' ⟨k2.len,k2.rng,k2.inv.again λb hb=>GG hb⟩ (by rcases k4 rfl with h1 | h1;cases h1;omega);rwa [hm]at this
  | false=>
   rw[if_neg U2];obtain⟨_,rfl,h6⟩:=k5 rfl;refine⟨_,rfl,k2,λc hR hc=>h6 c ?_⟩;have hmem:=(O.mem c).2 hR;obtain⟨i,hi,e⟩:=RH hmem;have hi0:i≠0:=λh0=>by subst h0;have:=O.head;rw[RK hi]at this;have:=Option.some.inj this;omega
   rw[<-e];refine List.mem_iff_getElem.2 ⟨i-1,by rw[RQ];omega,?_⟩;rw[TL];congr 1;omega
theorem Aj(hg:0<g.length): ∃f,Ch (Rg g) (rk g) (Eg g) f (Dm g)/\∃l,A5 g (g.length*g.length+1)=UK l/\rS g f l:=by
 obtain⟨f,hf⟩:=Lv hg;have C:=PO hg hf;refine⟨f,C,?_⟩;refine AZ hg C _ _ ⟨by simp,λb hb=>.inl (aE hb),?_⟩ ?_
 ·have:pd (List.replicate g.length (-1))=λ_=>False:=by funext b;refine propext ⟨λ⟨h1,h2⟩=>?_,λh=>h.elim⟩;rw[aE (by simpa using h1)]at h2;omega
  rw[this];exact Inv.start
 have:=AU (w:=wt g (List.replicate g.length (-1))) (m:=g.length) (n:=g.length) λb hb=>by unfold wt;rw[aE hb,if_pos U1];exact Q4 _
 unfold mu;omega
theorem rS.anc{l:List Int}(I:rS g f l)(C:Ch (Rg g) (rk g) (Eg g) f (Dm g)){x b:Nat}(hb:Rg g b):Anc (st l) x b↔Dm g x b:=by
 have hok : ∀b,Rg g b->Ok (pd l) b:=λb h=>by
  by_cases e:b=0
  ·exact .inl e
  exact .inr (I.turn b h e).1
 constructor
 ·intro h;have hx:=(I.good.DH C (I.good.inv.anc h (hok b hb)).1).1;refine rM.2 ⟨hx,hb,λhre=>?_⟩;have key : ∀b,Re g x b->¬Anc (st l) x b:=by
   intro b hre;induction hre with
   | root h1 h2=>intro h;have:=vC.1 h;omega
   | step ha he hne ih=>
    rename_i a b;intro h;by_cases e:b=0
    ·subst e;have:=vC.1 h;omega
    have hRb:Rg g b:=.step ha.all he U1;have h3:=((qg e).1 h).resolve_left U1;exact ih (((I.turn b hRb e).2.q x).1 h3 a he ha.all (hok a ha.all))
  exact key b hre h
 intro h;exact I.good.inv.dom C (hok b hb) h
end
theorem Hk{p:Nat->Bool}{n:Nat}:xH p n=UO↔∀i,i<n->p i=true:=by
 unfold xH;induction n with
 | zero=>simp[up]
 | succ n ih=>
  rw[up,GJ,Q9,ih];constructor
  ·rintro⟨h1,h2⟩ i hi;rcases Ri i n with h | h
   ·exact h1 i h
   obtain rfl:i=n:=by omega
   exact h2
  intro h;exact⟨λi hi=>h i U1,h n U1⟩
section
variable{g:Gr}{f:Nat->Nat}{l:List Int}
theorem rS.none(I:rS g f l){b:Nat}(hb:b<g.length)(h:¬Rg g b\/b=0):nth l b=-1:=by
 rcases I.good.rng b hb with h1 | h1
 ·exact h1
 exfalso;have:=I.good.inv.pr b ⟨by rw[I.good.len];exact hb,h1.1⟩;rcases h with h | h
 ·exact h this.1
 exact this.2.1 h
theorem IG{a:Int}(ha:0<=a): ∀k,qS l a k (-1)=UP
 | 0=>rfl
 | k+1=>by rw[qS,if_neg U1,if_pos (.inl U1)]
theorem zZ(I:rS g f l)(C:Ch (Rg g) (rk g) (Eg g) f (Dm g)){a:Nat} : ∀(k b:Nat),Rg g b->rk g b<k->(qS l a k b=UO↔Anc (st l) a b)
 | 0,b,_,h=>by omega
 | k+1,b,hb,h=>by
  have hlt:=hb.lt;have hll:=I.good.len;rw[qS];by_cases e:(b:Int)=a
  ·rw[if_pos e];have:a=b:=by omega
   subst this;exact⟨λ_=>.self,λ_=>rfl⟩
  rw[if_neg e,if_neg U1,RB];by_cases h0:b=0
  ·subst h0;rw[I.none hlt (.inr rfl),IG U1,vC];constructor
   ·intro h;cases h
   intro h;omega
  obtain⟨hp,_⟩:=I.turn b hb h0;obtain⟨h1,h2,h3,h4⟩:=I.good.inv.pr b hp;have e2:nth l b=((st l b:Nat):Int):=(RE hp.2).symm;rw[e2,zZ I C k (st l b) (I.good.inv.okR C h3) U1,qg h0];exact⟨.inr,λh=>h.resolve_left U1⟩
theorem uI(I:rS g f l)(C:Ch (Rg g) (rk g) (Eg g) f (Dm g)){a b:Nat}(ha:a<g.length)(hb:Rg g b):eR l a b=domC g a b:=by have hlt:=hb.lt;have hll:=I.good.len;rw[eR,decide_eq_true U1,Tl,RM,zZ I C _ _ hb (by have:=Ma hb;omega),I.anc C hb];rfl
end
section
theorem JO{l:List Int}{x:Int}{v:Value}{h:Heap}(hl:SlRd (vw h) v l):ay UQ 185 #[v,UH UI x] h (λu h'=>(∃r:Int,u = UH UI r/\(0<=r↔x∈l))/\h'=h):=by
 refine aq (args:=[v,UH UI x]) follows Tryz.func185 E.slices_Index_int UC λK hK=>?_;have bl:=hl.bound;simp[L.slices_Index_int,hl.len];refine aG [0,1,7,8] (fun(_:Unit) i=>[v,UH UI x,UH UI l.length,UH UI i]) (λ_ i h1=>h1=h/\∀j,j<i->nth l j≠x) l.length ()
  rfl U1 rfl ⟨rfl,λj hj=>by omega⟩ (λ_ _=>rfl) (λv i h1 hk m=>by simp) ?_ ?_
 ·rintro _ i h hlt ⟨rfl,hpre⟩ K2 hK2;simp(disch:=omega)[hl.idx1 rfl,hl.int UE];refine⟨λe=>hK _ _ ⟨⟨i,rfl,by simp;rw[e];exact bF hlt⟩,rfl⟩,λe=>hK2 () _ _ rfl rfl ⟨rfl,λj hj=>?_⟩⟩;rcases Ri j i with h | h
  ·exact hpre j h
  have:j=i:=by omega
  subst this;exact λe2=>e e2.symm
 rintro _ h ⟨rfl,hpre⟩;simp;refine hK _ _ ⟨⟨-1,rfl,by simp;intro hm;obtain⟨j,hj,e⟩:=RH hm;exact hpre j hj (by rw[aC hj];exact e)⟩,rfl⟩
theorem xU{l:List Int}{x:Int}{v:Value}{h:Heap}(hl:SlRd (vw h) v l):ay UQ 137 #[v,UH UI x] h (λu h'=>u = .bool (l.contains x)/\h'=h):=by refine aq (args:=[v,UH UI x]) follows Tryz.func137 E.slices_Contains_int UC λK hK=>?_;simp[L.slices_Contains_int];refine ah U0 (JO hl) ?_;rintro _ _ ⟨⟨r,rfl,hr⟩,rfl⟩;simp;exact hK _ _ ⟨by simp[<-hr],rfl⟩
def ofG(l:List BlkD):Gr:=rows (λi=>mL (nth l i).term.to l.length) l.length
theorem Gf{l:List BlkD}{v:Value}{p:Int}{h:Heap}(hv:SlRd (vw h) v l)(hl:l.length<=1000000)(hs : ∀i,i<l.length->(nth l i).term.to.length<=1000000):
  ay UQ 212 #[.agg #[UH UI p,v]] h (λu h'=>(vw h).le (vw h')/\SlRd (fresh h h') u (ofG l)):=by
 refine aq (args:=[.agg #[UH UI p,v]]) follows Tryz.func212 E.ir UC λK hK=>?_;obtain⟨hvc,hvo⟩:=hv.cells;simp[L.ir];refine ey (v:=.agg #[UH UI p,v]) U2 ?_;have hle1:=bQ h (.cells (Value.agg #[UH UI p,v]).cells T.gx);have hc1:an (vw (h.push (.cells (Value.agg #[UH UI p,v]).cells T.gx))) ⟨h.size,1,UL⟩=UK v:=dg (c:=#[UH UI p,v]) (T:=T.gx) (fz:=(0,0)) (by simp[vw,Value.cells]) rfl;generalize h.push (.cells (Value.agg #[UH UI p,v]).cells T.gx)=h1 at hle1 hc1;have hv1:=hv.mono hle1;simp[hc1,hv1.len];refine Mine.made (α:=List Int) (V:=nothing) (W:=nothing) (h0:=h1) (n:=l.length) (d:=[]) El.kZ UE (λ_ _ h=>by cases h) (Old.nothing _ _) (by simp<;>rfl) (by simp<;>rfl) Km U1 U1 λo h2 m hle2 _=>?_;have hc2:=ae hle2 hc1;have hv2:=hv1.mono hle2;simp[hc2,hv2.len];refine aG [1,3,11,12,13] (fun(_:View) k=>[ptz h.size,o,v,UH UI l.length,UH UI k]) (λW k h3=>Mine nothing h1 h3 W T.aY o (rows (λi=>mL (nth l i).term.to l.length) k++List.replicate (l.length-k) [])) l.length nothing
  rfl U1 rfl m (λ_ _=>rfl) (λv k h1 hk m=>by simp) ?_ ?_
 ·rintro W a h3 hlta m K2 hK2;have hle3:=m.old;have hc3:=ae hle3 hc1;have hv3:=hv1.mono hle3;obtain⟨u,hu1,hu2⟩:=hv3.wh rfl (N:=6) rfl hlta;have hal:=hs a hlta;have hl5:(rows (λi=>mL (nth l i).term.to l.length) a++List.replicate (l.length-a) ([]:List Int)).length=l.length:=by simp;omega
  refine aa λz hz=>?_;simp(disch:=omega)[hv3.idxn (N:=6) rfl,hu1 _ UE];refine dw (z:=zz3) U0 rfl U0 hu2 U5 U5 λh4 hle4 hsz4 hat=>?_;obtain⟨vp,vi,va,vt,bp,bi,bk,ba,bt⟩:=iK (hat (vw h4) hle4 rfl);have hc4:=ae hle4 hc3;have hv4:=hv3.mono hle4;subst hz;simp[bt.1,hc4,hv4.len];refine ah U0 (Gw bt.2 U1) ?_;rintro r h5 ⟨W',mr⟩;have m5:=(m.ext' hle4).ext mr.old;have hr:=mr.fresh.mono (kg W _ _);simp(disch:=omega)[m5.now.idx1 rfl];refine m5.put1 (α:=List Int) (i:=a) U0 rfl U2 (by simp<;>rfl) U1 (dD.2 hr) λh6 m6=>hK2 (grow W h4 h5) _ _ rfl rfl ?_;rw[z6 (x:=λi=>mL (nth l i).term.to l.length) hlta]at m6;exact m6
 rintro W h3 m;simp at m;simp;exact hK _ _ ⟨UF hle1 m.old,m.fresh.mono (zz hle1)⟩
def mN(w:Int × Int)(idom:List Int)(blk at_:Int):Bool:=(decide (w.1=blk)&&(decide (w.2<at_)||decide (w.2<0)))||(!decide (w.1=blk)&&eR idom w.1 blk)
def useS(ps:Int)(m:MW)(idom:List Int)(v blk place at_ told:Int):Except Tr Unit:=
 if 0<=v/\v<ps then .ok () else match m v with
  | none=>.error (13,told,place)
  | some w=>if mN w idom blk at_ then .ok () else .error (13,told,place)
theorem Ft{Kb r:Nat}{vb vd:Value}{f:ak}{m:MW}{idom:List Int}{h:Heap}{p5 p6:Addr}{v blk place at_ told:Int}(k:Lk h Kb r vb f m)(h5:an (vw h) p5=UK (ptz Kb))(h6:an (vw h) p6=UK vd)(hd:SlRd (vw h) vd idom):
  jo UQ 216 #[UH UI v,UH UI blk,UH UI place,UH UI at_,UH UI told,UN (UK p5),UN (UK p6)] h (λ_ h'=>useS f.params m idom v blk place at_ told = .ok ()/\(vw h).le (vw h'))
   (λch h'=>∃t,useS f.params m idom v blk place at_ told = .error t/\ch=trV t/\(vw h).le (vw h')):=by
 refine iW (args:=[UH UI v,UH UI blk,UH UI place,UH UI at_,UH UI told,UN (UK p5),UN (UK p6)]) follows Tryz.func216 E.gD UC λK Kp hK hKp=>?_;dsimp only[L.gD,lkF,lkG];by_cases hp:0<=v/\v<f.params
 ·simp[h5,ae dk k.c0,hp];exact hK _ _ ⟨by simp[useS,hp],View.le_refl _⟩
 have hu:useS f.params m idom v blk place at_ told=match m v with
   | none=>.error (13,told,place)
   | some w=>if mN w idom blk at_ then .ok () else .error (13,told,place):=by rw[useS,if_neg hp]
 rw[hu]at hK hKp;refine aa λz hz=>?_;have hc:(decide (0<=v)&&decide (v<f.params))=false:=by rw[Tq];intro e;exact hp (by simpa using e)
 simp[h5,ae dk k.c0,hc];subst hz;refine aa λz hz=>?_;simp[h5,ae dk k.c2];refine eM (z:=zz1) U.gi U.int U0 (by simp<;>rfl) (by simp<;>rfl) cV k.map ?_;have cellsW:((mapE encW m (UH UI v))).getD (.agg #[UH UI 0,UH UI 0])=encW ((m v).getD (0,0)):=by rw[rC];cases m v<;>rfl
 have isW:(mapE encW m (UH UI v)).isSome=(m v).isSome:=by rw[rC];cases m v<;>rfl
 rw[cellsW,isW];simp;refine fO (n:=2) (v:=encW ((m v).getD (0,0))) (z:=zz1) U0 rfl U0 rfl (by simp[encW,Value.oneCell']) U5 U5 λh3 hle3 hsz3 hb3=>?_;have d0:an (vw h3) ⟨h.size,0,UL⟩=UK (UH UI ((m v).getD (0,0)).1):=dg (show vw h3 h.size=_ from hb3) rfl;have d1:an (vw h3) ⟨h.size,1,UL⟩=UK (UH UI ((m v).getD (0,0)).2):=dg (show vw h3 h.size=_ from hb3) rfl;have h63:=ae hle3 h6;have hd3:=hd.mono hle3;generalize h.size=B at d0 d1;subst hz;have fin : ∀(ok:Bool) (h4:Heap) (ρ:Env) (z:LC),(vw h).le (vw h4)->(∀w,m v=UK w->ok=mN w idom blk at_)->(m v=UL->ok=UP)->z = .reg UP (.loud [65,66,67] [] [(65,.tmp 13),(66,.tmp 4),(67,.tmp 2)] UL [] UP (.call ⟨.value (.func 154),#[.tmp 65,.const (UH UI 13),.tmp 66,.tmp 67],#[T.bool,T.oV,T.int,T.int]⟩) 0 (UK 68) UP (.fin [] [] []))->
   Lft.look ρ 13=UK (.bool ok)->Lft.look ρ 4=UK (UH UI told)->Lft.look ρ 2=UK (UH UI place)->@LC.wp (ppOf Kp) UQ z (@dY [] K) ρ h4:=by
  rintro ok h4 ρ _ hle4 hs hn rfl e13 e4 e2;simp[e13,e4,e2];refine eo U0 iQ ?_ ?_
  ·rintro _ _ ⟨e,rfl⟩;refine hK _ _ ⟨?_,hle4⟩;cases hm:m v with
   | none=>rw[hn hm]at e;cases e
   | some w=>simp only;rw[if_pos (by rw[<-hs w hm];exact e)]
  rintro _ _ ⟨e,rfl,rfl⟩;refine⟨.inl rfl,hKp _ _ ⟨_,?_,rfl,hle4⟩⟩;cases hm:m v with
  | none=>rfl
  | some w=>simp only;rw[if_neg (by rw[<-hs w hm,e];simp)]
 refine aa λz hz=>?_;cases hm:m v with
 | none=>rw[hm]at d0 d1;simp[d0,d1];refine fin UP _ _ _ hle3 (λw hw=>by rw[hm]at hw;cases hw) (λ_=>rfl) hz ?_ ?_ ?_<;>simp
 | some w=>
  rw[hm]at d0 d1;simp at d0 d1;by_cases c1:w.1=blk
  ·by_cases c2:w.2<at_
   ·simp[d0,d1,c1,c2];refine fin UO _ _ _ hle3 (λw' hw=>by rw[hm]at hw;cases hw;simp[mN,c1,c2]) (λe=>by simp[hm]at e) hz ?_ ?_ ?_<;>simp
   by_cases c3:w.2<0
   ·simp[d0,d1,c1,c2,c3];refine fin UO _ _ _ hle3 (λw' hw=>by rw[hm]at hw;cases hw;simp[mN,c1,c2,c3]) (λe=>by simp[hm]at e) hz ?_ ?_ ?_<;>simp
   simp[d0,d1,c1,c2,c3];refine fin UP _ _ _ hle3 (λw' hw=>by rw[hm]at hw;cases hw;simp[mN,c1,c2,c3]) (λe=>by simp[hm]at e) hz ?_ ?_ ?_<;>simp
  simp[d0,d1,c1,h63];refine ah U0 (CH hd3) ?_;rintro _ h4 ⟨rfl,hle4⟩;refine fin _ _ _ _ (UF hle3 hle4) (λw' hw=>by rw[hm]at hw;cases hw;simp[mN,c1];rfl) (λe=>by simp[hm]at e) hz ?_ ?_ ?_<;>simp
end
section
def mq(x:PhiD)(row:List Int)(b:Nat):Bool:=decide (0<b)&&decide ((x.ins.length:Int)=(row.length:Int))
def A8(x:PhiD)(row:List Int)(j:Nat):Bool:=decide ((nth x.ins j).frm=nth row j)
def Ej(x:PhiD)(row:List Int)(b:Nat):Bool:=mq x row b&&xH (A8 x row) x.ins.length
def uAll(g:Nat->Except Tr Unit)(n:Nat):Except Tr Unit:=upE (λi _=>g i) n ()
def phiU(f:ak)(m:MW)(idom:List Int)(preds:Gr)(b i:Nat):Except Tr Unit:=
 let x:=nth (nth f.blocks b).phis i
 if Ej x (nth preds b) b then uAll (λj=>useS f.params m idom (nth x.ins j).val (nth x.ins j).frm (-1-i) (nth f.blocks (nth x.ins j).frm.toNat).ins.length b) x.ins.length else .error (16,b,-1-i)
def insU(f:ak)(m:MW)(idom:List Int)(b i:Nat):Except Tr Unit:=
 uAll (λj=>useS f.params m idom (nth (nth (nth f.blocks b).ins i).args j) b i i b) (nth (nth f.blocks b).ins i).args.length
def endU(f:ak)(m:MW)(idom:List Int)(b:Nat):Except Tr Unit:=
 uAll (λj=>useS f.params m idom (nth (nth f.blocks b).term.args j) b (nth f.blocks b).ins.length (nth f.blocks b).ins.length b) (nth f.blocks b).term.args.length
def andE(x y:Except Tr Unit):Except Tr Unit:=match x with | .ok _=>y | .error t=>.error t
def blkU(f:ak)(m:MW)(idom:List Int)(preds:Gr)(b:Nat):Except Tr Unit:=
 andE (uAll (phiU f m idom preds b) (nth f.blocks b).phis.length) (andE (uAll (insU f m idom b) (nth f.blocks b).ins.length) (endU f m idom b))
def wD(f:ak)(b:Nat):Except Tr Unit:=if decide ((b:Int)∈bI (ofG f.blocks)) then .ok () else .error (15,b,0)
def uS(f:ak)(m:MW)(idom:List Int):Except Tr Unit:=
 andE (uAll (wD f) f.blocks.length) (uAll (blkU f m idom (dR (ofG f.blocks))) f.blocks.length)
theorem qx{g:Nat->Except Tr Unit}{n k:Nat}{t:Tr}(h:uAll g k = .ok ())(hk:k<n)(he:g k = .error t):uAll g n = .error t:=CE h hk he
theorem lD{g:Nat->Except Tr Unit}{k:Nat}(h:uAll g k = .ok ()):uAll g (k+1)=g k:=pB h
theorem Jc{H:View}{B:Nat}{u v:Value}(h0:an H ⟨B,0,UL⟩=UK u)(h1:an H ⟨B,1,UL⟩=UK v):Un.ev H (.bM 2) (ptz B)=UK (.agg #[u,v]):=by simp[Un.ev,vP,ee,h0,h1]
theorem O7{l:List BlkD}(hl:l.length<=1000000)(hs : ∀i,i<l.length->(nth l i).term.to.length<=1000000):Sm (ofG l):=by
 have hlen:(ofG l).length=l.length:=by simp[ofG]
 refine⟨by omega,λi hi=>?_⟩;rw[hlen]at hi;rw[ofG,gH hi];exact Rt Bs (hs i hi)
theorem M9{Kb r:Nat}{vb:Value}{f:ak}{m:MW}{idom:List Int}{fuel:Nat}{h:Heap}(k:Lk h Kb r vb f m)(hn:f.blocks.length<=1000000)(hto : ∀i,i<f.blocks.length->(nth f.blocks i).term.to.length<=1000000)(hd:A5 (ofG f.blocks) fuel=UK idom):
  jo UQ 156 #[ptz Kb] h (λ_ h'=>uS f m idom = .ok ()/\(vw h).le (vw h')) (λch h'=>∃t,uS f m idom = .error t/\ch=trV t/\(vw h).le (vw h')):=by
 refine iW (args:=[ptz Kb]) follows Tryz.func156 E.aw UC λK Kp hK hKp=>?_;have hbb:=k.rb.bound;have hsm:=O7 hn hto;have hgl:(ofG f.blocks).length=f.blocks.length:=by simp[ofG]
 dsimp only[L.aw,lkF,lkG];refine aa λz hz=>?_;simp;refine ey (v:=ptz Kb) U2 ?_;have hle1:=bQ h (.cells (Value.cells (ptz Kb)) T.nw);have h51:an (vw (h.push (.cells (Value.cells (ptz Kb)) T.nw))) ⟨h.size,0,UL⟩=UK (ptz Kb):=by simp[an,vw]
 generalize h.push (.cells (Value.cells (ptz Kb)) T.nw)=h1 at hle1 h51;generalize h.size=B at h51;have k1:=k.ext hle1;subst hz;refine aa λz hz=>?_;simp[h51,Jc (ae dk k1.c0) (ae dk k1.c1)];refine ah U0 (Gf (k1.rb.mono dk) hn hto) ?_;rintro vg h2 ⟨hle2,hg⟩;have hg2:=hg.mono (mh _ _);subst hz;refine aa λz hz=>?_;simp;refine ah U0 (Dh hg2 hsm) ?_;rintro vo h3 ⟨hle3,ho⟩;have ho3:=ho.mono (mh _ _);have hg3:=hg2.mono hle3;have hle13:=UF hle2 hle3;have k3:=k1.ext hle13;have h53:=ae hle13 h51;have hle03:=UF hle1 hle13;subst hz;refine aa λz hz=>?_;simp[h53,ae dk k3.c1,k3.rb.len];refine aG [0,1,2,3,35,36] (fun(_:Unit) b=>[ptz Kb,ptz B,vg,vo,UH UI f.blocks.length,UH UI b]) (λ_ b h4=>h4=h3/\uAll (wD f) b = .ok ()) f.blocks.length ()
  rfl U1 rfl ⟨rfl,rfl⟩ (λ_ _=>rfl) (λv i h1 hk m=>by simp) ?_ ?_
 ·rintro _ b h3 hlt ⟨rfl,hpre⟩ K2 hK2;simp;refine ah U0 (xU ho3) ?_;rintro _ _ ⟨rfl,rfl⟩;simp;refine eo U0 iQ ?_ ?_
  ·rintro _ _ ⟨e,rfl⟩;exact hK2 () _ _ rfl rfl ⟨rfl,by rw[lD hpre,wD,if_pos e]⟩
  rintro _ _ ⟨e,rfl,rfl⟩;exact⟨.inl rfl,hKp _ _ ⟨_,by rw[uS,qx hpre hlt (by rw[wD,if_neg (by rw[e];simp)])];rfl,rfl,hle03⟩⟩
 rintro _ h3 ⟨rfl,hreach⟩;have hus:uS f m idom=uAll (blkU f m idom (dR (ofG f.blocks))) f.blocks.length:=by rw[uS,hreach];rfl
 rw[hus]at hK hKp;simp;subst hz;refine aa λz hz=>?_;simp;refine ah U0 (DM hg3 hsm) ?_;rintro vp h4 ⟨hle4,hp⟩;have hp4:=hp.mono (mh _ _);refine ah U0 (LM (hg3.mono hle4) hsm hd) ?_;rintro vi h5 ⟨W,mi⟩;have hi5:=mi.now;refine dw (α:=List Int) (z:=UM UL 0 0) (X:=vw h5) U0 rfl U0 (dD.2 hi5) U5 U5 λh6 hle6 hsz6 hat=>?_;obtain⟨vd,hvd,hd6⟩:=(hat (vw h6) hle6 rfl).sl;generalize h5.size=C at hvd;subst hz;have hle36:=UF hle4 (UF mi.old hle6);have hp6:=hp4.mono (UF mi.old hle6);have k6:=k3.ext hle36;have h56:=ae hle36 h53;have hle06:=UF hle03 hle36;have hpl:(dR (ofG f.blocks)).length=f.blocks.length:=by rw[qW,hgl]
 have hin : ∀b,∀x∈nth (dR (ofG f.blocks)) b,0<=x/\x<f.blocks.length:=by
  rw[<-hgl];exact wO (λe he=>(sT he).1) (λi x hx=>by
   rcases Ri i (ofG f.blocks).length with hi | hi
   ·rw[aE hi]at hx;cases hx
   rw[dt (by simpa using hi)]at hx;cases hx)
 generalize dR (ofG f.blocks)=preds at hp6 hpl hin hK hKp;obtain⟨pv,hpv⟩:=hp6.rows;simp[h56,ae dk k6.c1,k6.rb.len];refine aG [1,5,7,54,55,56] (fun(_:Unit) b=>[ptz B,vp,.func (.func 216) #[] #[ptz B,ptz C],vb,UH UI f.blocks.length,UH UI b]) (λ_ b h7=>(vw h6).le (vw h7)/\uAll (blkU f m idom preds) b = .ok ()) f.blocks.length ()
  rfl U1 rfl ⟨View.le_refl _,rfl⟩ (λ_ _=>rfl) (λv i h1 hk m=>by simp) ?_ ?_
 ·rintro _ b h7 hltb ⟨hle7,hpre⟩ K2 hK2;have k7:=k6.ext hle7;have rb7:=k7.rb.mono dk;obtain⟨u,hu,hur⟩:=rb7.wh rfl (N:=6) rfl hltb;obtain⟨pc,pr⟩:=hpv b U1;have hst:=lD hpre;have her : ∀{t},blkU f m idom preds b = .error t->uAll (blkU f m idom preds) f.blocks.length = .error t:=λe=>qx hpre hltb e;refine aa λz hz=>?_;simp(disch:=omega)[rb7.idxn (N:=6) rfl,hu _ UE];refine dw (z:=zz3) U0 rfl U0 hur U5 U5 λh8 hle8 hsz8 hat=>?_;obtain⟨wp,wi,wa,wt,bp,bi,bk,ba,bt⟩:=iK (hat (vw h8) hle8 rfl);generalize h7.size=D at bp bi bk ba bt;subst hz;have hle68:=UF hle7 hle8;have bph:=bp.2.bound;have bin:=bi.2.bound;have bar:=ba.2.bound;refine aa λz hz=>?_;simp[bp.1,bp.2.len];refine aG [1,5,7,8,9,54,55,56,62,63,64] (fun(_:Unit) i=>[ptz B,vp,.func (.func 216) #[] #[ptz B,ptz C],UH UI b,ptz D,vb,UH UI f.blocks.length,UH UI b,wp,UH UI (nth f.blocks b).phis.length,UH UI i])
   (λ_ i h9=>(vw h8).le (vw h9)/\uAll (phiU f m idom preds b) i = .ok ()) (nth f.blocks b).phis.length ()
   rfl U1 rfl ⟨View.le_refl _,rfl⟩ (λ_ _=>rfl) (λv i h1 hk m=>by simp) ?_ ?_
  ·rintro _ i h9 hlti ⟨hle9,hpre9⟩ K3 hK3;have hst9:=lD hpre9;have her9 : ∀{t},phiU f m idom preds b i = .error t->blkU f m idom preds b = .error t:=λe=>by rw[blkU,qx hpre9 hlti e];rfl
   have bp9:=bp.2.mono hle9;obtain⟨u9,hu9,hur9⟩:=bp9.wh rfl (N:=2) rfl hlti;refine aa λy hy=>?_;simp(disch:=omega)[bp9.idxn (N:=2) rfl,hu9 _ UE];refine dw (z:=zz4) U0 rfl U0 hur9 U5 U5 λh10 hle10 hsz10 hat10=>?_;obtain⟨_,wq,cq⟩:=yt (hat10 (vw h10) hle10 rfl);simp only[phiU]at hst9 her9;generalize nth (nth f.blocks b).phis i=x at cq hst9 her9;generalize h9.size=D10 at cq;have bq:=cq.2.bound;subst hy;refine aa λy hy=>?_;have hle610:=UF hle68 (UF hle9 hle10);have hp10:=hp6.mono hle610;have pr10:=pr.mono hle610;have hbase:(decide (0<b)&&decide ((x.ins.length:Int)=((nth preds b).length:Int)))=mq x (nth preds b) b:=rfl;simp(disch:=omega)[cq.1,cq.2.len,hp10.idx1 rfl,pc _ hle610,pr10.len];rw[hbase];subst hy;refine aa λy hy=>?_;simp[cq.1,cq.2.len];refine aG [1,5,7,8,9,10,11,12,54,55,56,62,63,64,83,84,85] (fun(_:Unit) j=>[ptz B,vp,.func (.func 216) #[] #[ptz B,ptz C],UH UI b,ptz D,UH UI i,ptz D10,
     .bool (mq x (nth preds b) b&&xH (A8 x (nth preds b)) j),vb,UH UI f.blocks.length,UH UI b,wp,UH UI (nth f.blocks b).phis.length,UH UI i,wq,UH UI x.ins.length,UH UI j])
    (λ_ j h11=>(vw h10).le (vw h11)) x.ins.length ()
    rfl U1 (by simp[aX];intro _;rfl) UE (λ_ _=>rfl) (λv i h1 hk m=>by simp) ?_ ?_
   ·rintro _ j h11 hltj hle11 K4 hK4;have cq11:=cq.2.mono hle11;obtain⟨u11,hu11,hur11⟩:=cq11.wh rfl (N:=2) rfl hltj;refine aa λq hq=>?_;simp(disch:=omega)[cq11.idxn (N:=2) rfl,hu11 _ UE];refine dw (z:=zz1) U0 rfl U0 hur11 U5 U5 λh12 hle12 hsz12 hat12=>?_;obtain⟨e0,e1⟩:=Ff (hat12 (vw h12) hle12 rfl);generalize h11.size=D12 at e0 e1;subst hq;have hle612:=UF hle610 (UF hle11 hle12);have hp12:=hp6.mono hle612;have pr12:=pr.mono hle612;cases hfit:mq x (nth preds b) b&&xH (A8 x (nth preds b)) j with
    | false=>simp;refine hK4 () _ _ rfl ?_ (UF hle11 hle12);rw[zb,<-Bool.and_assoc,hfit];rfl
    | true=>
     have hlen:x.ins.length=(nth preds b).length:=by simp only[Q9,mq,decide_eq_true_eq]at hfit;omega
     simp(disch:=omega)[e0,hp12.idx1 rfl,pc _ hle612,pr12.idx1 rfl,pr12.int UE];refine hK4 () _ _ rfl ?_ (UF hle11 hle12);rw[zb,<-Bool.and_assoc,hfit];rfl
   rintro _ h11 hle11;have hfs:(mq x (nth preds b) b&&xH (A8 x (nth preds b)) x.ins.length)=Ej x (nth preds b) b:=rfl;rw[hfs];simp;subst hy;refine aa λy hy=>?_;simp(disch:=omega);have hle011:=UF hle06 (UF hle610 hle11);refine eo U0 iQ ?_ ?_;rotate_left
   ·rintro _ _ ⟨e,rfl,rfl⟩;exact⟨.inl rfl,hKp _ _ ⟨_,her (her9 (by rw[if_neg (by rw[e];simp)])),rfl,hle011⟩⟩
   rintro _ h11 ⟨efit,rfl⟩;rw[if_pos efit]at hst9;have her9' : ∀{t},uAll (λj=>useS f.params m idom (nth x.ins j).val (nth x.ins j).frm (-1-i) (nth f.blocks (nth x.ins j).frm.toNat).ins.length b) x.ins.length = .error t->blkU f m idom preds b = .error t:=λe=>her9 (by rw[if_pos efit];exact e);have hlen:x.ins.length=(nth preds b).length:=by simp only[Q9,Ej,mq,decide_eq_true_eq]at efit;omega
   have hfrm : ∀j,j<x.ins.length->0<=(nth x.ins j).frm/\(nth x.ins j).frm<f.blocks.length:=λj hj=>by have h1:=Hk.1 (Q9 _ _▸efit:_/\_).2 j hj;simp only[A8,decide_eq_true_eq]at h1;rw[h1];exact hin b _ (bF U1)
   subst hy;have cq11:=cq.2.mono hle11;simp[ae hle11 cq.1,cq11.len];refine aG [1,5,7,8,9,10,11,54,55,56,62,63,64,110,111,112] (fun(_:Unit) j=>[ptz B,vp,.func (.func 216) #[] #[ptz B,ptz C],UH UI b,ptz D,UH UI i,ptz D10,
     vb,UH UI f.blocks.length,UH UI b,wp,UH UI (nth f.blocks b).phis.length,UH UI i,wq,UH UI x.ins.length,UH UI j])
    (λ_ j h12=>(vw h11).le (vw h12)/\uAll (λj=>useS f.params m idom (nth x.ins j).val (nth x.ins j).frm (-1-i) (nth f.blocks (nth x.ins j).frm.toNat).ins.length b) j = .ok ()) x.ins.length ()
    rfl U1 rfl ⟨View.le_refl _,rfl⟩ (λ_ _=>rfl) (λv i h1 hk m=>by simp) ?_ ?_
   ·rintro _ j h12 hltj ⟨hle12,hpre12⟩ K4 hK4;have hst12:=lD hpre12;have cq12:=cq11.mono hle12;obtain⟨u12,hu12,hur12⟩:=cq12.wh rfl (N:=2) rfl hltj;refine aa λq hq=>?_;simp(disch:=omega)[cq12.idxn (N:=2) rfl,hu12 _ UE];refine dw (z:=zz1) U0 rfl U0 hur12 U5 U5 λh13 hle13 hsz13 hat13=>?_;obtain⟨e0,e1⟩:=Ff (hat13 (vw h13) hle13 rfl);generalize h12.size=D13 at e0 e1;have hf:=hfrm j hltj;generalize hxj:nth x.ins j=w at e0 e1 hst12 hf;subst hq;have hle613:=UF hle610 (UF hle11 (UF hle12 hle13));have k13:=k6.ext hle613;have rb13:=k13.rb.mono dk;have h513:=ae hle613 h56;obtain⟨ul,hul⟩:=(((rb13.at (i:=w.frm.toNat) U1).part BlkD.gO)).sl;rw[<-aC U1]at hul;have hul1:an (vw h13) (((slA vb).add (w.frm.toNat*6)).add 1)=UK ul:=hul.1;refine aK (vw h13) UE ?_;simp(disch:=omega)[e0,e1,h513,ae dk k13.c1,rb13.idxn (N:=6) rfl,hul1,hul.2.len];refine wG (ops:=[.tmp 118,.tmp 120,.tmp 122,.tmp 133,.tmp 134]) rfl U0 (Ft k13 h513 (ae hle613 hvd) (hd6.mono hle613)) ?_ ?_
    ·rintro _ h14 ⟨e,hle14⟩;exact hK4 () _ _ rfl rfl ⟨UF hle12 (UF hle13 hle14),by rw[hst12];exact e⟩
    rintro _ h14 ⟨t,e,rfl,hle14⟩;exact⟨.inr λ_=>trivial,hKp _ _ ⟨t,her (her9' (qx hpre12 hltj (by rw[hxj];exact e))),rfl,UF hle06 (UF hle613 hle14)⟩⟩
   rintro _ h12 ⟨hle12,hpre12⟩;simp;exact hK3 () _ _ rfl rfl ⟨UF hle9 (UF hle10 (UF hle11 hle12)),by rw[hst9];exact hpre12⟩
  rintro _ h9 ⟨hle9,hpre9⟩;have hbu:blkU f m idom preds b=andE (uAll (insU f m idom b) (nth f.blocks b).ins.length) (endU f m idom b):=by rw[blkU,hpre9];rfl
  rw[hbu]at hst her;simp;subst hz;refine aa λz hz=>?_;have bi9:=bi.2.mono hle9;simp[ae hle9 bi.1,bi9.len];refine aG [1,5,7,8,9,54,55,56,139,140,141] (fun(_:Unit) i=>[ptz B,vp,.func (.func 216) #[] #[ptz B,ptz C],UH UI b,ptz D,vb,UH UI f.blocks.length,UH UI b,wi,UH UI (nth f.blocks b).ins.length,UH UI i])
   (λ_ i h10=>(vw h9).le (vw h10)/\uAll (insU f m idom b) i = .ok ()) (nth f.blocks b).ins.length ()
   rfl U1 rfl ⟨View.le_refl _,rfl⟩ (λ_ _=>rfl) (λv i h1 hk m=>by simp) ?_ ?_
  ·rintro _ i h10 hlti ⟨hle10,hpre10⟩ K3 hK3;have hst10:=lD hpre10;have her10 : ∀{t},insU f m idom b i = .error t->uAll (blkU f m idom preds) f.blocks.length = .error t:=λe=>her (by rw[qx hpre10 hlti e];rfl);have bi10:=bi9.mono hle10;obtain⟨u10,hu10,hur10⟩:=bi10.wh rfl (N:=5) rfl hlti;refine aa λy hy=>?_;simp(disch:=omega)[bi10.idxn (N:=5) rfl,hu10 _ UE];refine dw (z:=zz5) U0 rfl U0 hur10 U5 U5 λh11 hle11 hsz11 hat11=>?_;obtain⟨_,_,_,wq,cq⟩:=mT (hat11 (vw h11) hle11 rfl);rw[insU]at hst10 her10;generalize nth (nth f.blocks b).ins i=x at cq hst10 her10;generalize h10.size=D11 at cq;have bq:=cq.2.bound;subst hy;simp[cq.1,cq.2.len];refine aG [1,5,7,8,9,17,54,55,56,139,140,141,147,148,149] (fun(_:Unit) j=>[ptz B,vp,.func (.func 216) #[] #[ptz B,ptz C],UH UI b,ptz D,UH UI i,vb,UH UI f.blocks.length,UH UI b,wi,UH UI (nth f.blocks b).ins.length,UH UI i,wq,UH UI x.args.length,UH UI j])
    (λ_ j h12=>(vw h11).le (vw h12)/\uAll (λj=>useS f.params m idom (nth x.args j) b i i b) j = .ok ()) x.args.length ()
    rfl U1 rfl ⟨View.le_refl _,rfl⟩ (λ_ _=>rfl) (λv i h1 hk m=>by simp) ?_ ?_
   ·rintro _ j h12 hltj ⟨hle12,hpre12⟩ K4 hK4;have hst12:=lD hpre12;have cq12:=cq.2.mono hle12;have hle612:=UF hle68 (UF hle9 (UF hle10 (UF hle11 hle12)));have k12:=k6.ext hle612;have h512:=ae hle612 h56;simp(disch:=omega)[cq12.idx1 rfl,cq12.int UE];refine wG (ops:=[.tmp 154,.tmp 155,.tmp 156,.tmp 157,.tmp 158]) rfl U0 (Ft k12 h512 (ae hle612 hvd) (hd6.mono hle612)) ?_ ?_
    ·rintro _ h14 ⟨e,hle14⟩;exact hK4 () _ _ rfl rfl ⟨UF hle12 hle14,by rw[hst12];exact e⟩
    rintro _ h14 ⟨t,e,rfl,hle14⟩;exact⟨.inl rfl,hKp _ _ ⟨t,her10 (qx hpre12 hltj e),rfl,UF hle06 (UF hle612 hle14)⟩⟩
   rintro _ h12 ⟨hle12,hpre12⟩;simp;exact hK3 () _ _ rfl rfl ⟨UF hle10 (UF hle11 hle12),by rw[hst10];exact hpre12⟩
  rintro _ h10 ⟨hle10,hpre10⟩;have hbu2:andE (uAll (insU f m idom b) (nth f.blocks b).ins.length) (endU f m idom b)=endU f m idom b:=by rw[hpre10];rfl
  rw[hbu2]at hst her;rw[endU]at hst her;simp;subst hz;have ba10:=ba.2.mono (UF hle9 hle10);have ca10:=ae (UF hle9 hle10) ba.1;have bi10:=bi9.mono hle10;have ci10:=ae (UF hle9 hle10) bi.1;simp[ca10,ba10.len];refine aG [1,5,7,8,9,54,55,56,164,165,166] (fun(_:Unit) j=>[ptz B,vp,.func (.func 216) #[] #[ptz B,ptz C],UH UI b,ptz D,vb,UH UI f.blocks.length,UH UI b,wa,UH UI (nth f.blocks b).term.args.length,UH UI j])
   (λ_ j h12=>(vw h10).le (vw h12)/\uAll (λj=>useS f.params m idom (nth (nth f.blocks b).term.args j) b (nth f.blocks b).ins.length (nth f.blocks b).ins.length b) j = .ok ()) (nth f.blocks b).term.args.length ()
   rfl U1 rfl ⟨View.le_refl _,rfl⟩ (λ_ _=>rfl) (λv i h1 hk m=>by simp) ?_ ?_
  ·rintro _ j h12 hltj ⟨hle12,hpre12⟩ K4 hK4;have hst12:=lD hpre12;have ba12:=ba10.mono hle12;have bi12:=bi10.mono hle12;have ci12:=ae hle12 ci10;have hle612:=UF hle68 (UF hle9 (UF hle10 hle12));have k12:=k6.ext hle612;have h512:=ae hle612 h56;simp(disch:=omega)[ba12.idx1 rfl,ba12.int UE,ci12,bi12.len];refine wG (ops:=[.tmp 171,.tmp 172,.tmp 175,.tmp 178,.tmp 179]) rfl U0 (Ft k12 h512 (ae hle612 hvd) (hd6.mono hle612)) ?_ ?_
   ·rintro _ h14 ⟨e,hle14⟩;exact hK4 () _ _ rfl rfl ⟨UF hle12 hle14,by rw[hst12];exact e⟩
   rintro _ h14 ⟨t,e,rfl,hle14⟩;exact⟨.inl rfl,hKp _ _ ⟨t,her (qx hpre12 hltj e),rfl,UF hle06 (UF hle612 hle14)⟩⟩
  rintro _ h12 ⟨hle12,hpre12⟩;simp;exact hK2 () _ _ rfl rfl ⟨UF hle7 (UF hle8 (UF hle9 (UF hle10 hle12))),by rw[hst];exact hpre12⟩
 rintro _ h7 ⟨hle7,hpre⟩;simp;exact hK _ _ ⟨hpre,UF hle06 hle7⟩
end
section
def Jo(t:Tr):FrameMode:=.panicking [{ v:=.iface T.gz (.agg #[UH UI t.1,UH UI t.2.1,UH UI t.2.2]),recovered:=true }]
theorem J7{a b c:Nat}{t:Tr}{h:Heap}{ra rb rc:Array Value}{ea eb ec:TypeId}(ha:h[a]? = UK (.cells ra ea (0,0)))(hb:h[b]? = UK (.cells rb eb (0,0)))(hc:h[c]? = UK (.cells rc ec (0,0)))(sa:ra.size=1)(sb:rb.size=1)(sc:rc.size=1)(hab:a≠b)(hac:a≠c)(hbc:b≠c):uh UQ 153 #[ptz a,ptz b,ptz c] (.panicking (trV t)) h
   (λu' h'=>u'=Jo t/\h'[a]? = UK (.cells #[UH UI t.1] ea (0,0))/\h'[b]? = UK (.cells #[UH UI t.2.1] eb (0,0))/\h'[c]? = UK (.cells #[UH UI t.2.2] ec (0,0))/\h.size<=h'.size/\∀k,k<h.size->k≠a->k≠b->k≠c->h'[k]? = h[k]?):=by
 refine rH (args:=[ptz a,ptz b,ptz c]) (t:=6) (L:=L.gj.body.tail) (tys:=#[]) follows Tryz.func153 Q.gj U0 U0 U0 UC E.rQ U0 U0 UC ?_;have ala:a<h.size:=(Rk.1 ha).1;have alb:b<h.size:=(Rk.1 hb).1;have alc:c<h.size:=(Rk.1 hc).1;have hrec:kQ (.panicking (trV t))=(.iface T.gz (.agg #[UH UI t.1,UH UI t.2.1,UH UI t.2.2]),Jo t):=rfl;rw[hrec];simp[L.gj,LC.tail];refine ES (ms:=#[]) U0 rfl (.inr ⟨_,_,rfl,rfl⟩) ?_;simp;refine IJ (d:=(Tryz.prog.underlying T.gz).getD .bool) U0 U0 rfl ?_;simp;refine fO (n:=3) (z:=zz0) (v:=.agg #[UH UI t.1,UH UI t.2.1,UH UI t.2.2]) U0 rfl U0 rfl U7 U5 U5 λh1 hle1 hs1 hb1=>?_;generalize hD:h.size=D at hb1 hs1;obtain⟨H,hH⟩ : ∃H:View,H=λk=>if k=D then h1[k]? else none:=⟨_,rfl⟩;have hHle : ∀h2:Heap,h2[D]? = h1[D]?->H.le (vw h2):=λh2 e k o hk=>by
  rw[hH]at hk;simp only at hk;split at hk
  ·rename_i e2;subst e2;show h2[_]? = _;rw[e];exact hk
  cases hk
 have hHD:H D=UK (.cells #[UH UI t.1,UH UI t.2.1,UH UI t.2.2] T.gz (0,0)):=by rw[hH];simp only[if_true];exact hb1
 have d0:an H ⟨D,0,UL⟩=UK (UH UI t.1):=dg hHD rfl;have d1:an H ⟨D,1,UL⟩=UK (UH UI t.2.1):=dg hHD rfl;have d2:an H ⟨D,2,UL⟩=UK (UH UI t.2.2):=dg hHD rfl;refine aK H (hHle h1 rfl) ?_;simp[d0,d1,d2];refine eh (g:=a) (o:=0) (n:=1) (v:=UH UI t.1) U0 rfl rfl rfl U7 (hle1 _ _ ha) U1 λh2 hs2 ⟨row2,hr2,he2⟩ ho2=>?_;refine⟨hHle h2 (ho2 D U1),?_⟩;refine eh (g:=b) (o:=0) (n:=1) (v:=UH UI t.2.1) U0 rfl rfl rfl U7 ((ho2 b (Ne.symm hab)).trans (hle1 _ _ hb)) U1 λh3 hs3 ⟨row3,hr3,he3⟩ ho3=>?_;refine⟨hHle h3 ((ho3 D U1).trans (ho2 D U1)),?_⟩;refine eh (g:=c) (o:=0) (n:=1) (v:=UH UI t.2.2) U0 rfl rfl rfl U7 ((ho3 c (Ne.symm hbc)).trans ((ho2 c (Ne.symm hac)).trans (hle1 _ _ hc))) U1 λh4 hs4 ⟨row4,hr4,he4⟩ ho4=>?_;have one : ∀{row r:Array Value} {v:Value},v.cells = #[v]->r.size=1->row.toList=r.toList.take 0++v.cells.toList++r.toList.drop (0+1)->row = #[v]:=by intro row r v hv hr he;rw[<-Array.toList_inj,he,hv,SV,RV,RN (by simp[hr])];simp
 rw[one rfl sa he2]at hr2;rw[one rfl sb he3]at hr3;rw[one rfl sc he4]at hr4;refine⟨?_,?_,hr4,by omega,λk hk h1' h2' h3'=>?_⟩
 ·rw[ho4 a hac,ho3 a hab];exact hr2
 ·rw[ho4 b hbc];exact hr3
 rw[ho4 k h3',ho3 k h2',ho2 k h1'];exact(hle1 k h[k] (RA U1)).trans (RA U1).symm
theorem FZ{a b c:Nat}{h:Heap}:uh UQ 153 #[ptz a,ptz b,ptz c] .returning h (λu' h'=>u' = .returning/\h'=h):=by refine rH (args:=[ptz a,ptz b,ptz c]) (t:=6) (L:=L.gj.body.tail) (tys:=#[]) follows Tryz.func153 Q.gj U0 U0 U0 UC E.rQ U0 U0 UC ?_;have hrec:kQ .returning=(.nilIface,.returning):=rfl;rw[hrec];simp[L.gj,LC.tail];refine ES (ms:=#[]) U0 rfl (.inl ⟨rfl,rfl⟩) ?_;simp
def manyN(f:ak)(k:Nat):Int:=up (λi n=>n+(((nth f.blocks i).phis.length:Int)+(nth f.blocks i).ins.length)) k f.blocks.length
def Gn(f:ak):Int:=manyN f f.blocks.length
def tD(g:Gr):List Int:=(A5 g (g.length*g.length+1)).getD []
def BE(f:ak):Except Tr MW->Except Tr Unit
 | .error t=>.error t
 | .ok m=>uS f m (tD (ofG f.blocks))
def ny(f:ak):Except Tr Unit:=
 if cu f.params 0 4=UP then .error (1,0,0)
 else if f.blocks.length=0 then .error (14,0,0)
 else if ¬(f.blocks.length<=512/\Gn f<=4096) then .error (2,0,0)
 else BE f (nm f (λ_=>UL))
def my(f:ak):Tr:=match ny f with
 | .ok _=>(0,0,0)
 | .error t=>t
theorem Nh{f:ak}{k:Nat}:0<=manyN f k:=by
 unfold manyN;induction k with
 | zero=>simp[up]
 | succ k ih=>rw[up];omega
theorem JE{f:ak}{m m':MW}(h:nm f m = .ok m'): ∀i,i<f.blocks.length->(nth f.blocks i).term.to.length<=65:=by
 intro i hi;have key : ∀n,n<=f.blocks.length->∃s,upE (blkS f) n m = .ok s:=λn hn=>by
  cases e:upE (blkS f) n m with
  | ok s=>exact⟨s,rfl⟩
  | error t=>rw[nm,BZ hn e]at h;cases h
 obtain⟨s,hs⟩:=key i U1;obtain⟨s',hs'⟩:=key (i+1) hi;rw[pB hs,blkS]at hs';split at hs'
 ·cases hs'
 split at hs'
 ·cases hs'
 rw[endS]at hs';split at hs'
 ·rename_i hok;rw[qU]at hok;split at hok
  ·rename_i sh hsh;simp only[cu,Q9,decide_eq_true_eq]at hok;have:sh.2.2.2<=65:=by
    simp only[gB,putM]at hsh;repeat' (split at hsh)
    all_goals first | (cases hsh;done) | (cases hsh;decide)
   omega
  cases hok
 cases hs'
end
end Go.Lft
