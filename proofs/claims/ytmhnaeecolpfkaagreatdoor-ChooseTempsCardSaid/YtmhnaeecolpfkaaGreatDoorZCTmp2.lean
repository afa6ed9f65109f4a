/- A part of the proof: Wk, Wl, Wm, Wn, Wo, Wq, Wr, Ws, Wt, Ha, Hb, Hc, Pa, Pb, Pd, Pc, Pe, Pf, Pg, Ph, Hd, He, Hf, Hg. -/
import Derived.Test.YtmhnaeecolpfkaaGreatDoorZCTmp1
set_option linter.unusedSimpArgs false
set_option linter.unusedVariables false
open Go.Value renaming int->Vz,slice->VE,pointer->VF
open Go.IntKind renaming i64->VA
open Option renaming some->VC,none->VD
open Bool renaming true->VG,false->VH
open Go.Proofs.Tryz renaming prog->VI
open Go.Proofs
namespace Go.Lft
def I64(x:Int):Prop:=-9223372036854775808<=x/\x<=9223372036854775807
variable{W:View}
theorem tG{h:Heap}{e:TypeId}{v:Value}{l:List Int}:OwnT W h e v l↔l.length<=140737488355328/\(∀x∈l,I64 x)/\((v = VE VD 0 0/\l=[])\/
  ∃g cap cur,v = VE (VC ⟨g,0,VD⟩) l.length cap/\h[g]? = VC (.cells cur e (0,0))/\l.length<=cap/\cap<=maxLen/\cur.size=cap/\cur.toList.take l.length=l.map (.int .i64)):=by
 have hn:Rep.n Int=1:=rfl;constructor
 ·rintro⟨hb,xs,⟨hl,hown⟩,hel⟩;rw[hn,SX]at hl;have hel' : ∀(i:Nat) (hi:i<l.length),xs[i]? = VC (Vz VA l[i])/\I64 l[i]:=λi hi=>by
   obtain⟨h1,h2⟩:=hel i hi;rw[hn,SX]at h1;have:(xs.drop i).take 1=[Vz VA l[i]]:=h1;have h3:((xs.drop i).take 1)[0]? = VC (Vz VA l[i]):=by rw[this];rfl
   rw[Tu,if_pos V6,Ug]at h3;exact⟨by simpa using h3,h2⟩
  have hxs:xs=l.map (.int .i64):=by
   refine UF λi=>?_;rcases Sb i l.length with hi | hi
   ·rw[(hel' i hi).1];simp[hi]
   rw[SM V4,SM (by simpa using hi)]
  refine⟨hb,λx hx=>?_,?_⟩
  ·obtain⟨i,hi,rfl⟩:=Sy hx;exact(hel' i hi).2
  rcases hown with⟨rfl,h0⟩ | ⟨g,cap,cur,rfl,hg,h1,h2,h3,h4⟩
  ·exact .inl ⟨rfl,Ss h0⟩
  rw[hn,SX]at h3 h4;exact .inr ⟨g,cap,cur,rfl,hg,h1,h2,h3,by rw[h4,hxs]⟩
 rintro⟨hb,hr,hown⟩;refine⟨hb,l.map (.int .i64),⟨by rw[hn];simp,?_⟩,λi hi=>?_⟩
 ·rcases hown with⟨rfl,rfl⟩ | ⟨g,cap,cur,rfl,hg,h1,h2,h3,h4⟩
  ·exact .inl ⟨rfl,rfl⟩
  exact .inr ⟨g,cap,cur,rfl,hg,h1,h2,by rw[hn,SX];exact h3,by rw[hn,SX];exact h4⟩
 rw[hn,SX];refine⟨?_,hr _ (S9 hi)⟩;refine UF λj=>?_;rw[Tu];rcases Sb j 1 with hj | hj
 ·have:j=0:=by omega
  subst this;simp[hi]
 rw[if_neg V4];simp;omega
theorem xF{w:World}{g cap:Nat}{cur:Array Value}{e:TypeId}{l:List Int}(hg:w.heap[g]? = VC (.cells cur e (0,0)))(h1:l.length<=cur.size)(h4:cur.toList.take l.length=l.map (.int .i64)):Go.Sort.Holds (Vz .i64) w g 0 l.toArray:=by
 intro j hj;simp only[T3]at hj;have hc:cur[j]? = VC (Vz VA l[j]):=by have:=congrArg (λx:List Value=>x[j]?) h4;simp only[Tu,hj,if_true,TG]at this;simpa[hj]using this
 constructor
 ·simp[World.cell?,hg,hc,hj]
 simp[World.frozen?,hg]
variable{h':Heap}
theorem Cz{w:World}{e:TypeId}{v:Value}{g cap:Nat}{cur:Array Value}{l d:List Int}(hv:v = VE (VC ⟨g,0,VD⟩) l.length cap)(hg:w.heap[g]? = VC (.cells cur e (0,0)))(h1:l.length<=cap)(h2:cap<=maxLen)(h3:cur.size=cap)(hd:d.length=l.length)(hb:l.length<=140737488355328)(hr : ∀x∈d,I64 x)(n:Nat)(os:Array Obj)(hh:h'=(Go.Sort.grow (Go.Sort.putRow (Vz .i64) (Go.Sort.ahead w n) g 0 d.toArray) os).heap):
  OwnT W h' e v d/\Kept w.heap h' v.ownBlock:=by
 subst hv;have hlt:g<w.heap.size:=(Sj.1 hg).1;have hcur:(Go.Sort.putCells (Vz .i64) 0 d.toArray cur).toList.take d.length=d.map (.int .i64):=by
  refine UF λj=>?_;rw[Tu];split
  ·rename_i hj;have hjc:j<cur.size:=by omega
   simp[Go.Sort.putCells,hj,hjc]
  rename_i hj;exact(SM (by simpa using Nat.le_of_not_lt hj)).symm
 have hblk : ∀k,k<w.heap.size->h'[k]? = if g=k then(w.heap[k]?).map (Go.Sort.onCells (Go.Sort.putCells (Vz .i64) 0 d.toArray)) else w.heap[k]?:=by intro k hk;subst hh;simp only[Go.Sort.grow,Go.Sort.putRow,Go.Sort.mapBlock,Go.Sort.ahead];rw[U1 (by simpa using hk),TZ]
 have hsz:w.heap.size<=h'.size:=by subst hh;simp[Go.Sort.grow,Go.Sort.putRow,Go.Sort.mapBlock,Go.Sort.ahead]
 refine⟨tG.2 ⟨by omega,hr,.inr ⟨g,cap,Go.Sort.putCells (Vz .i64) 0 d.toArray cur,by rw[hd],?_,by omega,h2,by simp[Go.Sort.putCells,h3],hcur⟩⟩,hsz,λk hk hne=>?_⟩
 ·rw[hblk g hlt,if_pos rfl,hg];rfl
 rw[hblk k hk,if_neg (λe=>hne (by simp[Value.ownBlock,e]))]
theorem uZ(w:World)(n g:Nat)(d:Array Int)(os:Array Obj):Same w (Go.Sort.grow (Go.Sort.putRow (Vz .i64) (Go.Sort.ahead w n) g 0 d) os):=
 ⟨rfl,rfl,rfl,by simp[Go.Sort.grow,Go.Sort.putRow,Go.Sort.mapBlock,Go.Sort.ahead],λb hb=>by
  have hlt:=(Sj.1 hb).1;simp only[Go.Sort.grow,Go.Sort.putRow,Go.Sort.mapBlock,Go.Sort.ahead];rw[U1 (by simpa using hlt),TZ];split
  ·rw[hb];rfl
  exact hb⟩
def rW(l:List Int):List Int:=l.mergeSort λx y=>decide (x<=y)
theorem Md{h:Heap}{e:TypeId}{v:Value}{l:List Int}(o:OwnT W h e v l):ay VI 242 #[v] h (λ_ h'=>OwnT W h' e v (rW l)/\Kept h h' v.ownBlock):=by
 rintro w rfl;obtain⟨hb,hr,hown⟩:=tG.1 o;have hlen:(rW l).length=l.length:=List.length_mergeSort _;have hr' : ∀x∈rW l,I64 x:=λx hx=>hr x (U2.1 hx);rcases hown with⟨rfl,rfl⟩ | ⟨g,cap,cur,rfl,hg,h1,h2,h3,h4⟩
 ·refine(Tryz.slices_Sort_int_none VD 0 w).mono ?_;rintro e' w' ⟨rfl,rfl⟩;exact⟨_,rfl,⟨by simpa[rW]using o,Kept.refl _ _⟩,Same.refl _⟩
 refine(Tryz.slices_Sort_int g 0 cap l w (xF (cap:=cap) hg V4 h4) (Sj.1 hg).1 V4).mono ?_;rintro e' w' ⟨rfl,n,os,rfl⟩;exact⟨_,rfl,Cz rfl hg h1 h2 h3 hlen hb hr' n os rfl,uZ _ _ _ _ _⟩
variable{n:Nat}
theorem LF{h:Heap}{e:TypeId}{g cap:Nat}{l:List Int}(o:OwnT W h e (VE (VC ⟨g,0,VD⟩) l.length cap) l)(hn:n<=l.length):OwnT W h e (VE (VC ⟨g,0,VD⟩) n cap) (l.take n):=by
 obtain⟨hb,hr,hown⟩:=tG.1 o;have hl:(l.take n).length=n:=by simp;omega
 rcases hown with⟨hv,_⟩ | ⟨g',cap',cur,hv,hg,h1,h2,h3,h4⟩
 ·cases hv
 cases hv;refine tG.2 ⟨by omega,λx hx=>hr x (List.mem_of_mem_take hx),.inr ⟨g,cap,cur,by rw[hl],hg,by omega,h2,h3,?_⟩⟩;rw[hl,List.map_take,<-h4,TC,Tw hn]
theorem yb{l:List Int}:(Lib.compact l).length<=l.length:=by unfold Lib.compact Lib.compactUpTo;rw[TI];exact St (UM _ _) V5
theorem rQ{l:List Int}{x:Int}(hx:x∈Lib.compact l):x∈l:=by unfold Lib.compact Lib.compactUpTo at hx;simp only[SZ,TQ,TA]at hx;obtain⟨i,⟨hi,_⟩,rfl⟩:=hx;simp[hi]
theorem Fy{h:Heap}{e:TypeId}{v:Value}{l:List Int}(o:OwnT W h e v l):ay VI 243 #[v] h (λv' h'=>OwnT W h' e v' (Lib.compact l)/\lO h h' v v'):=by
 rintro w rfl;obtain⟨hb,hr,hown⟩:=tG.1 o;have hlen:=yb (l:=l);rcases hown with⟨rfl,rfl⟩ | ⟨g,cap,cur,rfl,hg,h1,h2,h3,h4⟩
 ·refine(Tryz.slices_Compact_int_empty VD 0 w).mono ?_;rintro e' w' ⟨rfl,rfl⟩;exact⟨_,rfl,⟨o,Kept.refl _ _,.inl rfl⟩,Same.refl _⟩
 refine(Tryz.slices_Compact_int g 0 cap l w (xF (cap:=cap) hg V4 h4) V4 h1).mono ?_;rintro e' w' ⟨rfl,n,hw⟩;have hw':w'=Go.Sort.grow (Go.Sort.putRow (Vz .i64) (Go.Sort.ahead w n) g 0 (Lib.compact l++List.replicate (l.length-(Lib.compact l).length) 0).toArray) #[]:=by rw[hw];simp
 have hdl:(Lib.compact l++List.replicate (l.length-(Lib.compact l).length) 0).length=l.length:=by simp;omega
 have hrd : ∀x∈(Lib.compact l++List.replicate (l.length-(Lib.compact l).length) (0:Int)),I64 x:=λx hx=>by
  rcases R1.1 hx with hx | hx
  ·exact hr x (rQ hx)
  obtain⟨_,rfl⟩:=List.mem_replicate.1 hx;exact V9
 obtain⟨o2,k2⟩:=Cz (W:=W) (h':=w'.heap) rfl hg h1 h2 h3 hdl hb hrd n #[] (by rw[hw']);have o3:=LF (n:=(Lib.compact l).length) (by rw[hdl];exact o2) V5;rw[List.take_left'  rfl]at o3;exact⟨_,rfl,⟨o3,k2,.inl rfl⟩,by rw[hw'];exact uZ _ _ _ _ _⟩
theorem GC{h:Heap}{e:TypeId}{v:Value}{l:List Int}(o:OwnT W h e v l):ay VI 237 #[v] h (λ_ h'=>OwnT W h' e v l.reverse/\Kept h h' v.ownBlock):=by
 rintro w rfl;obtain⟨hb,hr,hown⟩:=tG.1 o;rcases hown with⟨rfl,rfl⟩ | ⟨g,cap,cur,rfl,hg,h1,h2,h3,h4⟩
 ·refine(Tryz.slices_Reverse_int_empty VD 0 w).mono ?_;rintro e' w' ⟨rfl,rfl⟩;exact⟨_,rfl,⟨o,Kept.refl _ _⟩,Same.refl _⟩
 refine(Tryz.slices_Reverse_int g 0 cap l w (xF (cap:=cap) hg V4 h4) V4).mono ?_;rintro e' w' ⟨rfl,n,hw⟩;have hw':w'=Go.Sort.grow (Go.Sort.putRow (Vz .i64) (Go.Sort.ahead w n) g 0 l.reverse.toArray) #[]:=by rw[hw];simp
 exact⟨_,rfl,Cz rfl hg h1 h2 h3 V5 hb (λx hx=>hr x (by simpa using hx)) n #[] (by rw[hw']),by rw[hw'];exact uZ _ _ _ _ _⟩
def rR(row:List Int)(n:Int)(i:Nat):Bool:=decide (0<=nth row i)&&decide (nth row i<n)
def nm(row:List Int)(n:Int):List Int:=Lib.compact (rW (sift (rR row n) (λi=>nth row i) row.length))
variable{row:List Int}
theorem Hg{n:Int}{vr:Value}{h:Heap}(hr:SlRd (vw h) vr row)(hs:row.length<=1000000):
  ay VI 234 #[vr,Vz VA n] h (λv h'=>∃W,Mine nothing h h' W T.int v (nm row n)):=by
 refine ao (args:=[vr,Vz VA n]) follows Tryz.func234 E.fo Vu λK hK=>?_;simp[L.fo,hr.len];refine aF [0,1,5,8,9,10] (fun(v:Value) k=>[vr,Vz VA n,v,vr,Vz VA row.length,Vz VA k]) (λv k h1=>Mine nothing h h1 nothing T.int v (sift (rR row n) (λi=>nth row i) k)) row.length (VE VD 0 0)
  rfl V4 rfl (Mine.start (λ_ _ h=>by cases h)) (λ_ _=>rfl) (λv k h1 hk m=>by simp) ?_ ?_
 ·intro v k h1 hlt m K2 hK2;have hr1:=hr.mono m.old;have hrange:=hr.range hlt;have:=qv (p:=rR row n) (x:=λi=>nth row i) k;simp(disch:=omega)[hr1.idx1 rfl,hr1.int Vw,mg,-Bool.and_eq_true,-Bool.and_eq_false_imp];refine⟨λhe=>?_,λhe=>hK2 v _ _ rfl rfl (by rw[nX (show rR row n k=VH from he)];exact m)⟩;refine m.push El.aZ (by simp<;>rfl) (sB hrange.1 hrange.2) V4 V4 V8 V8 λu v' h3 m'=>hK2 v' _ _ rfl rfl (by rw[pJ (show rR row n k=VG from he)];exact m')
 intro v h1 m;simp;refine ah V0 (Md m.own) ?_;rintro _ h2 ⟨o2,k2⟩;have m2:=m.gK o2 ⟨k2,.inl rfl⟩;try simp
 refine ah V0 (Fy m2.own) ?_;rintro v3 h3 ⟨o3,k3⟩;have m3:=m2.gK o3 k3;try simp
 exact hK _ _ ⟨_,m3⟩
def dJ(g:Gr):Gr:=rows (λa=>nm (nth g a) g.length) g.length
def Sm(g:Gr):Prop:=g.length<=1000000/\∀i,i<g.length->(nth g i).length<=1000000
theorem Kn{α:Type}[Rep α]:Rep.rd W (VE VD 0 0).cells.toList ([]:List α):=⟨VE VD 0 0,rfl,VD,0,rfl,by simp,by simp,.inl rfl⟩
variable{vg:Value}
theorem DT{g:Gr}{h:Heap}(hg:SlRd (vw h) vg g)(hs:Sm g):
  ay VI 235 #[vg] h (λv h'=>∃W,Mine nothing h h' W T.aZ v (dJ g)):=by
 refine ao (args:=[vg]) follows Tryz.func235 E.eG Vu λK hK=>?_;have hs1:=hs.1;simp[L.eG,hg.len];refine Mine.made (α:=List Int) (V:=nothing) (W:=nothing) (h0:=h) (n:=g.length) (d:=[]) El.lh Vw (λ_ _ h=>by cases h) (Old.nothing _ _) (by simp<;>rfl) (by simp<;>rfl) Kn V4 V4 λv h1 m _ _=>?_;refine aF [0,3,9,10,11] (fun(_:View) k=>[vg,v,vg,Vz VA g.length,Vz VA k]) (λW k h2=>Mine nothing h h2 W T.aZ v (rows (λa=>nm (nth g a) g.length) k++List.replicate (g.length-k) [])) g.length nothing
  rfl V4 rfl m (λ_ _=>rfl) (λv k h1 hk m=>by simp) ?_ ?_
 ·intro W a h2 hlta m K2 hK2;have hg2:=hg.mono m.old;obtain⟨rv,hrv⟩:=hg2.rows;obtain⟨cv,rr⟩:=hrv a hlta;have hl5:(rows (λa=>nm (nth g a) g.length) a++List.replicate (g.length-a) ([]:List Int)).length=g.length:=by simp;omega
  simp(disch:=omega)[hg2.idx1 rfl,cv _ Vw,hg.len];refine ah V0 (Hg rr (hs.2 a hlta)) ?_;rintro r h3 ⟨W',mr⟩;have m3:=m.ext mr.old;have hr:=mr.fresh.mono (kr W _ _);simp(disch:=omega)[m3.now.idx1 rfl];refine m3.put1 (α:=List Int) (i:=a) V0 rfl V5 (by simp<;>rfl) V4 (dw.2 hr) λh4 m4=>hK2 (grow W h2 h3) _ _ rfl rfl ?_;rw[As (x:=λa=>nm (nth g a) g.length) hlta]at m4;exact m4
 intro W h2 m;simp at m;simp;exact hK _ _ ⟨_,m⟩
theorem y7{l:List Int}{x:Int}{v:Value}{h:Heap}{b:Addr}(hl:SlRd (vw h) v l)(hb:aq (vw h) b=VC v):
  ay VI 240 #[Vz VA x,VF (VC b)] h (λu h'=>u = .bool (decide (0<=x)&&decide (x<l.length))/\h'=h):=by refine ao (args:=[Vz VA x,VF (VC b)]) follows Tryz.func240 E.jf Vu λK hK=>?_;simp[L.jf,hb,hl.len];exact hK _ _ ⟨rfl,rfl⟩
variable{b:Int}
theorem CU{l:List Int}{a:Int}{v:Value}{h:Heap}(hl:SlRd (vw h) v l):
  ay VI 217 #[v,Vz VA a,Vz VA b] h (λu h'=>u = .bool (eM l a b)/\(vw h).le (vw h')):=by
 refine ao (args:=[v,Vz VA a,Vz VA b]) follows Tryz.func217 E.dp Vu λK hK=>?_;have bl:=hl.bound;simp[L.dp];refine ef (v:=v) V5 ?_;have hvc:v.cells = #[v]:=by obtain⟨_,_,rfl,_⟩:=hl;rfl
 rw[hvc];have hle:=b8 h (.cells #[v] T.aZ);have hl:=hl.mono hle;have hb:aq (vw (h.push (.cells #[v] T.aZ))) ⟨h.size,0,VD⟩=VC v:=by simp[aq,vw]
 generalize h.push (.cells #[v] T.aZ)=h1 at hle hl hb;generalize h.size=B at hb;refine bW (ops:=[.tmp 10]) rfl V0 (by simpa using y7 (x:=a) hl hb) ?_;rintro _ _ ⟨rfl,rfl⟩;cases ha:decide (0<=a)&&decide (a<l.length)with
 | false=>
  have hsp:eM l a b=false:=by simp only[UN,decide_eq_false_iff_not]at ha;simp[eM];intros;omega
  rw[hsp]at hK;simp[grdP];exact hK _ _ ⟨rfl,hle⟩
 | true=>
  simp only[Se,decide_eq_true_eq]at ha;simp[grdP];refine bW (ops:=[.tmp 15]) rfl V0 (by simpa using y7 (x:=b) hl hb) ?_;rintro _ _ ⟨rfl,rfl⟩;cases hbb:decide (0<=b)&&decide (b<l.length)with
  | false=>
   have hsp:eM l a b=false:=by simp only[UN,decide_eq_false_iff_not]at hbb;simp[eM];intros;omega
   rw[hsp]at hK;simp;exact hK _ _ ⟨rfl,hle⟩
  | true=>
   simp only[Se,decide_eq_true_eq]at hbb;have hsp:eM l a b=sU l a (l.length+1) b:=by simp[eM,ha,hbb]
   rw[hsp]at hK;simp(disch:=omega)[hb,hl.len];refine aF [1,2,3,6,7,21,22] (fun(c:Int) k=>[Vz VA a,Vz VA c,ptz B,.bool VH,.func (.func 240) #[] #[ptz B],Vz VA ((l.length:Int)+1),Vz VA k])
    (λc k h2=>h2=_/\sU l a (l.length+1-k) c=sU l a (l.length+1) b) (l.length+1) b
    rfl V4 rfl ⟨rfl,rfl⟩ (λ_ _=>rfl) (λv k h1 hk m=>by simp) ?_ ?_
   ·rintro c k h2 hlt ⟨rfl,hch⟩ K2 hK2;have hfu:l.length+1-k=(l.length-k)+1:=by omega
    rw[hfu,sU]at hch;simp;refine⟨λhe=>hK _ _ ⟨by rw[<-hch,if_pos he.symm],hle⟩,λhe=>?_⟩;rw[if_neg (λe=>he e.symm)]at hch;refine bW (ops:=[.tmp 28]) rfl V0 (by simpa using y7 (x:=c) hl hb) ?_;rintro _ _ ⟨rfl,rfl⟩;cases hc:decide (0<=c)&&decide (c<l.length)with
    | false=>simp only[UN,decide_eq_false_iff_not]at hc;simp;exact hK _ _ ⟨by rw[<-hch,if_pos V4],hle⟩
    | true=>simp only[Se,decide_eq_true_eq]at hc;rw[if_neg V4]at hch;simp(disch:=omega)[hb,hl.idx1 rfl,hl.int Vw];refine hK2 (nth l c.toNat) _ _ rfl rfl ⟨rfl,?_⟩;rw[<-hch];congr 1;omega
   rintro c h2 ⟨rfl,hch⟩;rw[Uo,sU]at hch;simp;exact hK _ _ ⟨by rw[<-hch],hle⟩
def mz(idom number:List Int):Nat->Int->Int->Option Int
 | 0,_,_=>VD
 | n+1,a,b=>
  if 0<=a/\a<number.length/\a<idom.length/\0<=b/\b<number.length/\b<idom.length then
   if nth number b.toNat<nth number a.toNat then mz idom number n (nth idom a.toNat) b
   else if nth number a.toNat<nth number b.toNat then mz idom number n a (nth idom b.toNat)
   else VC a
  else VD
variable{number:List Int}
theorem Bs{idom:List Int}{vi vn:Value}{h:Heap}{r:Int}(hi:SlRd (vw h) vi idom)(hn:SlRd (vw h) vn number){a:Int}(hc:mz idom number n a b=VC r):
  ay VI 239 #[vi,vn,Vz VA a,Vz VA b] h (λu h'=>u = Vz VA r/\h'=h):=by
 refine ao (args:=[vi,vn,Vz VA a,Vz VA b]) follows Tryz.func239 E.dO Vu λK hK=>?_;simp[L.dO];refine js [0,1,2,3] (λm ρ h'=>∃(c d:Int),ρ=[(0,vi),(1,vn),(2,Vz VA c),(3,Vz VA d)]/\h'=h/\mz idom number m c d=VC r) n ⟨a,b,rfl,rfl,hc⟩ ?_;rintro m ρ h' ⟨c,d,rfl,rfl,hc⟩ K2 hK2;cases m with
 | zero=>cases hc
 | succ m=>
  rw[mz]at hc;split at hc;case isFalse=>cases hc
  rename_i hr;obtain⟨r1,r2,r3,r4,r5,r6⟩:=hr;simp(disch:=omega)[L.dO.l1,hn.idx1 rfl,hn.int Vw];refine⟨λh1=>?_,λh1=>?_⟩
  ·rw[if_pos h1]at hc;simp(disch:=omega)[hi.idx1 rfl,hi.int Vw];exact hK2 m _ _ V4 ⟨_,_,rfl,rfl,hc⟩
  rw[if_neg V4]at hc;refine⟨λh2=>?_,λh2=>?_⟩
  ·rw[if_pos h2]at hc;simp(disch:=omega)[hi.idx1 rfl,hi.int Vw];exact hK2 m _ _ V4 ⟨_,_,rfl,rfl,hc⟩
  rw[if_neg V4]at hc;cases hc;exact hK _ _ ⟨rfl,rfl⟩
structure Wo(W:View)(h:Heap)(B:Nat)(vt vl:Value)(s:List Bool × List Int):Prop where
 wle:W.le (vw h)
 box:h[B]? = VC (.cells #[vl] T.aZ (0,0))
 wB:W B=VD
 avt:Av W vt
 avl:Av W vl
 nt:vt.ownBlock≠VC B
 nl:vl.ownBlock≠VC B
 ne:vl.ownBlock=VD\/vl.ownBlock≠vt.ownBlock
 ot:OwnT nothing h T.bool vt s.1
 ol:OwnT nothing h T.int vl s.2
 nn:vt.ownBlock=VD\/vt.ownBlock≠vl.ownBlock
theorem Wo.lt{W:View}{h:Heap}{B:Nat}{vt vl:Value}{s:List Bool × List Int}(k:Wo W h B vt vl s):B<h.size:=(Sj.1 k.box).1
theorem Wo.ext{W:View}{h h':Heap}{B:Nat}{vt vl:Value}{s:List Bool × List Int}(k:Wo W h B vt vl s)(hle:(vw h).le (vw h')):Wo W h' B vt vl s:=
 {k with wle:=Vx k.wle hle,box:=hle _ _ k.box,ot:=k.ot.ext hle,ol:=k.ol.ext hle }
variable{vt vl:Value}
theorem Wo.flag{h:Heap}{B:Nat}{s:List Bool × List Int}{t':List Bool}(k:Wo W h B vt vl s)(o:OwnT nothing h' T.bool vt t')(m:lO h h' vt vt):Wo W h' B vt vl (t',s.2):=
 {k with
  wle:=(m.view k.wle k.avt).1
  box:=by rw[m.kept.block B k.lt (λe=>k.nt e.symm)];exact k.box
  ot:=o
  ol:=k.ol.kept m.kept k.ne }
theorem Wo.PS{h h'':Heap}{B:Nat}{vl':Value}{s:List Bool × List Int}{l':List Int}(k:Wo W h B vt vl s)(o:OwnT nothing h' T.int vl' l')(m:lO h h' vl vl')(hsz:h''.size=h'.size)(hB:h''[B]? = VC (.cells #[vl'] T.aZ (0,0)))(hoth : ∀j,j≠B->h''[j]? = h'[j]?):Wo W h'' B vt vl' (s.1,l'):=by
 obtain⟨hw',ha'⟩:=m.view k.wle k.avl;have hlt:=k.lt;have nl':vl'.ownBlock≠VC B:=by
  rcases m.at_ with e | e
  ·rw[e];exact k.nl
  rw[e];intro e2;cases e2;omega
 have kep:Kept h' h'' (VC B):=⟨by omega,λj _ hj=>hoth j (λe=>hj (by rw[e]))⟩;refine⟨λb x hb=>?_,hB,k.wB,k.avt,ha',k.nt,nl',?_,?_,?_,?_⟩
 ·have hne:b≠B:=λe=>by rw[e,k.wB]at hb;cases hb
  show h''[b]? = _;rw[hoth b hne];exact hw' b x hb
 ·rcases m.at_ with e | e
  ·rw[e];exact k.ne
  right;rw[e];intro e2;have:=k.ot.lt e2.symm;omega
 ·exact(k.ot.kept m.kept k.nn).kept kep (.inr k.nt)
 ·exact o.kept kep (.inr nl')
 rcases m.at_ with e | e
 ·rw[e];exact k.nn
 right;rw[e];intro e2;have:=k.ot.lt e2;omega
theorem Wo.cell{h:Heap}{B:Nat}{s:List Bool × List Int}(k:Wo W h B vt vl s):aq (vw h) ⟨B,0,VD⟩=VC vl:=by simp[aq,vw,k.box]
def nx(rows:Gr)(a:Int):List Int:=nth rows a.toNat
theorem DF{rows:Gr}{vr:Value}{Tp R O:Addr}{B:Nat}(hs:rows.length<=1000000)(hin : ∀i,i<rows.length->∀j,j<(nth rows i).length->0<=nth (nth rows i) j/\nth (nth rows i) j<rows.length) : ∀(n:Nat) {M:Nat} {W:View} {h:Heap} {vt vl:Value} {s:List Bool × List Int} {a:Int},Wo W h B vt vl s->SlRd W vr rows->
  aq W Tp=VC vt->aq W R=VC vr->aq W O=VC (.func (.func 236) #[] #[VF (VC Tp),VF (VC R),VF (VC O),ptz B])->0<=a->a<rows.length->s.1.length=rows.length->nth s.1 a.toNat=VH->
  dI s.1<=n->s.2.length+dI s.1<=M->M<=1000000->
  ay VI 236 #[Vz VA a,VF (VC Tp),VF (VC R),VF (VC O),ptz B] h (λ_ h'=>∃vl',Wo W h' B vt vl' (kU (nx rows) n a s)/\(kU (nx rows) n a s).2.length+dI (kU (nx rows) n a s).1<=M)
 | 0,M,W,h,vt,vl,s,a,k,hg,hT,hR,hO,h0,h1,hl,hf,hc,hb,hM=>by exfalso;have:=kC (t:=s.1) (i:=a.toNat) V4 hf;omega
 | n+1,M,W,h,vt,vl,(t,l),a,k,hg,hT,hR,hO,h0,h1,hl,hf,hc,hb,hM=>by
  obtain⟨i,rfl⟩:=S0 h0;simp only at hl hf hc hb;have hfs:=kC (t:=t) (i:=i) V4 (by simpa using hf);refine ao (args:=[Vz VA i,VF (VC Tp),VF (VC R),VF (VC O),ptz B]) follows Tryz.func236 E.dM Vu λK hK=>?_;have hnow:SlRd (vw h) vt t:=k.ot.now (λ_ _ h=>by cases h);simp(disch:=omega)[L.dM,ae k.wle hT,hnow.idx1 rfl];refine uR (W:=nothing) (i:=i) (d:=true) V0 (by simp[show Rep.n Bool=1 from rfl]) (by simp<;>rfl) k.ot (by simpa using by omega) PE λh2 o2 m2=>?_;have k2:=k.flag o2 m2;have hg2:=hg.mono k2.wle;obtain⟨rv,hrv⟩:=hg.rows;obtain⟨cv,rr⟩:=hrv i V4;have br:=rr.bound;have hov:kU (nx rows) (n+1) i (t,l)=((up (dq (nx rows) n i) (nx rows i).length (t.set i VG,l)).1,(up (dq (nx rows) n i) (nx rows i).length (t.set i VG,l)).2++[(i:Int)]):=ma;rw[hov]at hK;have hnx:nx rows i=nth rows i:=rfl;rw[hnx]at hK;simp(disch:=omega)[ae k2.wle hR,hg2.idx1 rfl,cv _ k2.wle,rr.len];refine aF [0,1,2,3,4,14,15,16] (fun(_:Value) j=>[Vz VA i,VF (VC Tp),VF (VC R),VF (VC O),ptz B,rv i,Vz VA (nth rows i).length,Vz VA j]) (λvl j h4=>Wo W h4 B vt vl (up (dq (nx rows) n i) j (t.set i VG,l))/\(up (dq (nx rows) n i) j (t.set i VG,l)).2.length+dI (up (dq (nx rows) n i) j (t.set i VG,l)).1<=M-1) (nth rows i).length vl
   rfl V4 rfl ⟨k2,by simp[up];omega⟩ (λ_ _=>rfl) (λv j h4 hk m=>by simp) ?_ ?_
  ·rintro vl j h4 hltj ⟨k4,hb4⟩ K2 hK2;have hinv:=xq (λs:List Bool × List Int=>s.1.length=rows.length/\dI s.1<=n) (f:=dq (nx rows) n i) (λk x hx=>by
    unfold dq;split
    ·exact hx
    exact rL n _ x hx) j (t.set i VG,l) ⟨by simpa using hl,by simp only;omega⟩;generalize hx:up (dq (nx rows) n i) j (t.set i VG,l)=x at k4 hb4 hinv;obtain⟨e0,e1⟩:=hin i V4 j hltj;have hr4:=rr.mono k4.wle;have hnow4:=k4.ot.now (λ_ _ h=>by cases h);simp(disch:=omega)[ae k4.wle hT,hr4.idx1 rfl,hr4.int Vw,hnow4.idx1 rfl,hnow4.bool Vw,mg];refine⟨λhe=>?_,λhe=>hK2 vl _ _ rfl rfl ?_⟩
   ·simp[ae k4.wle hO];refine bW (ops:=[.tmp 26]) rfl V0 (by simpa using DF hs hin n k4 hg hT hR hO e0 e1 hinv.1 he hinv.2 hb4 V4) ?_;rintro _ h5 ⟨⟨vl',k5⟩,hb5⟩;have hst:up (dq (nx rows) n i) (j+1) (t.set i VG,l)=kU (nx rows) n (nth (nth rows i) j) x:=by rw[up,hx,dq,show nx rows i=nth rows i from rfl,he];rfl
    refine hK2 vl' _ _ rfl rfl ?_;rw[hst];exact⟨k5,hb5⟩
   have hst:up (dq (nx rows) n i) (j+1) (t.set i VG,l)=x:=by rw[up,hx,dq,show nx rows i=nth rows i from rfl,he];rfl
   rw[hst];exact⟨k4,hb4⟩
  rintro vl h4 ⟨k4,hb4⟩;generalize hx:up (dq (nx rows) n i) (nth rows i).length (t.set i VG,l)=x at k4 hb4 hK;simp[k4.cell];refine ni (α:=Int) (W:=nothing) El.aZ (by simp<;>rfl) (sB V4 V4) λu h5 hsrc hle5 _=>?_;have k5:=k4.ext hle5;refine dA El.aZ V5 V5 k5.ol hsrc Vt Vt λvl' h6 o6 m6=>?_;have hB6:h6[B]? = VC (.cells #[vl] T.aZ (0,0)):=by rw[m6.kept.block B k5.lt (λe=>k5.nl e.symm)];exact k5.box
  obtain⟨hcells,hone⟩:=nM o6;refine eJ (g:=B) (o:=0) (n:=1) (v:=vl') V0 V5 V5 (by rw[hcells];rfl) (by rw[hcells];simpa using hone) hB6 V5 λh7 hsz7 ⟨row,hrow,he⟩ hoth=>hK _ _ ⟨vl',?_,?_⟩
  ·have hrow2:row = #[vl']:=by rw[<-Array.toList_inj,he,hcells];rfl
   rw[hrow2]at hrow;exact k5.PS o6 m6 hsz7 hrow hoth
  simp;omega
def bN(g:Gr):List Int:=nj (nx (dJ g)) g.length
theorem jo{g:Gr}:(dJ g).length=g.length:=by simp[dJ]
theorem xC{g:Gr}: ∀i,i<(dJ g).length->∀j,j<(nth (dJ g) i).length->0<=nth (nth (dJ g) i) j/\nth (nth (dJ g) i) j<(dJ g).length:=by
 intro i hi j hj;rw[jo]at hi;have hm:=bh hj;rw[dJ,gF hi,nm]at hm;have h2:=rQ hm;rw[rW,U2,tB]at h2;simp only[SZ,TQ,TA,rR,Se,decide_eq_true_eq]at h2;obtain⟨k,⟨_,h3⟩,h4⟩:=h2;rw[jo];have e:nth (nth (dJ g) i) j=nth (nth g i) k:=by rw[dJ,gF hi,nm,h4,rW,tB]
 rw[e];exact h3
theorem D0{g:Gr}{h:Heap}(hg:SlRd (vw h) vg g)(hs:Sm g):
  ay VI 213 #[vg] h (λv h'=>(vw h).le (vw h')/\SlRd (fresh h h') v (bN g)):=by
 refine ao (args:=[vg]) follows Tryz.func213 E.oO Vu λK hK=>?_;have hs1:=hs.1;simp[L.oO,hg.len];refine⟨λh0=>?_,λh0=>?_⟩
 ·exact hK _ _ ⟨View.le_refl _,⟨VD,0,by simp[bN,nj,h0],by simp[bN,nj,h0],by simp[bN,nj,h0],.inl (by simp[bN,nj,h0])⟩⟩
 refine ah V0 (DT hg hs) ?_;rintro vr h1 ⟨W1,m1⟩;have hvr:=m1.now;obtain⟨hrc,hro⟩:=nM m1.own;refine xn (z:=VE VD 0 0) V0 rfl V0 hrc hro V8 V8 λh2 hle2 hsz2 hR2=>?_;refine oZ (W:=nothing) (n:=g.length) (d:=false) El.qG (by simp<;>rfl) (by simp<;>rfl) rfl V4 V4 λvt h3 o3 m3 hle3 hb3=>?_;obtain⟨htc,hto⟩:=nM o3;refine xn (z:=VE VD 0 0) V0 rfl V0 htc hto V8 V8 λh4 hle4 hsz4 hT4=>?_;refine dQ (z:=VE VD 0 0) V0 ?_;refine dQ (z:=.nilFunc) V0 ?_;have hsz3:h2.size<h3.size:=o3.lt hb3;have hle6:(vw h4).le (vw ((h4.push (.cells (VE VD 0 0).cells T.aZ)).push (.cells Value.nilFunc.cells T.DE))):=Vx (b8 _ _) (b8 _ _);refine eJ (g:=h4.size+1) (o:=0) (n:=1) (e:=T.DE) (cur:=#[.nilFunc]) (v:=.func (.func 236) #[] #[ptz h3.size,ptz h1.size,VF (VC ⟨h4.size+1,0,VD⟩),ptz h4.size]) V0 V5 V5 rfl Vs (by rw[show h4.size+1=(h4.push (.cells (VE VD 0 0).cells T.aZ)).size by simp];exact Uw) V5 λh7 hsz7 ⟨row,hrow,he⟩ hoth=>?_;have hrow2:row = #[.func (.func 236) #[] #[ptz h3.size,ptz h1.size,VF (VC ⟨h4.size+1,0,VD⟩),ptz h4.size]]:=by rw[<-Array.toList_inj,he];rfl
 rw[hrow2]at hrow;have hle7:(vw h4).le (vw h7):=λb o hb=>by have hlt:=View.lt (View.le_refl (vw h4)) hb;show h7[b]? = _;rw[hoth b V4];exact hle6 b o hb
 have hL7:h7[h4.size]? = VC (.cells #[VE VD 0 0] T.aZ (0,0)):=by rw[hoth _ V4,Array.getElem?_push,if_neg V5,Uw];rfl
 have hle27:=Vx hle3 (Vx hle4 hle7);have hle17:=Vx hle2 hle27;obtain⟨W,hW⟩ : ∃W:View,W=λb=>if b=h2.size\/b=h4.size then VD else h7[b]?:=⟨_,rfl⟩;have hWle:W.le (vw h7):=by
  intro b o hb;rw[hW]at hb;simp only at hb;split at hb
  ·cases hb
  exact hb
 have hW1:(vw h1).le W:=λb o hb=>by have hlt:=View.lt (View.le_refl (vw h1)) hb;rw[hW];simp only;rw[if_neg V4];exact hle17 b o hb
 have k7:Wo W h7 h4.size vt (VE VD 0 0) (List.replicate g.length VH,[]):=
  ⟨hWle,hL7,by rw[hW];simp,λb hb=>by rw[hb3]at hb;cases hb;rw[hW];simp,Av.nil _ _ _,by rw[hb3];intro e;simp only[RW]at e;omega,by simp[Value.ownBlock],.inl rfl,
   (o3.ext hle4).ext hle7,OwnT.nil ..,.inr (by rw[hb3];simp[Value.ownBlock])⟩
 have hT:aq W ⟨h3.size,0,VD⟩=VC vt:=by
  have h5:W h3.size=VC (.cells #[vt] T.qG (0,0)):=by rw[hW];simp only;rw[if_neg V4];exact hle7 _ _ hT4
  simp[aq,h5]
 have hR:aq W ⟨h1.size,0,VD⟩=VC vr:=by
  have h5:W h1.size=VC (.cells #[vr] T.lh (0,0)):=by rw[hW];simp only;rw[if_neg V4];exact hle27 _ _ hR2
  simp[aq,h5]
 have hO:aq W ⟨h4.size+1,0,VD⟩=VC (.func (.func 236) #[] #[ptz h3.size,ptz h1.size,VF (VC ⟨h4.size+1,0,VD⟩),ptz h4.size]):=by
  have h5:W (h4.size+1)=h7[h4.size+1]?:=by rw[hW];simp only;rw[if_neg V4]
  rw[hrow]at h5;simp[aq,h5]
 have hvrW:=hvr.mono hW1;have hlen:g.length≠0:=by simpa using h0
 have hcl:=jo (g:=g);have hfa:dI (List.replicate g.length VH)=g.length:=by simp[dI]
 simp[ae hWle hO];refine bW (ops:=[.const (Vz VA 0)]) (f:=236) (caps:=#[ptz h3.size,ptz h1.size,VF (VC ⟨h4.size+1,0,VD⟩),ptz h4.size]) V5 V0
  (by simpa using DF V4 xC g.length (M:=g.length) k7 hvrW hT hR hO (a:=0) V4 V4 (by simp[hcl]) (by rw[az Vt];simp) (by rw[hfa];exact RX _) (by simp[hfa]) V4) ?_;rintro _ h8 ⟨⟨vl,k8⟩,hb8⟩;have hord:bN g=(kU (nx (dJ g)) g.length 0 (List.replicate g.length VH,[])).2.reverse:=by simp[bN,nj,h0]
 rw[hord]at hK;generalize kU (nx (dJ g)) g.length 0 (List.replicate g.length VH,[])=s at k8 hb8 hK;simp[k8.cell];refine ah V0 (GC k8.ol) ?_;rintro _ h9 ⟨o9,k9⟩;have hB9:h9[h4.size]? = VC (.cells #[vl] T.aZ (0,0)):=by rw[k9.block _ k8.lt (λe=>k8.nl e.symm)];exact k8.box
 have hc9:aq (vw h9) ⟨h4.size,0,VD⟩=VC vl:=by simp[aq,vw,hB9]
 have hW9:=k9.view k8.wle k8.avl;have hle9:(vw h).le (vw h9):=Vx (Vx m1.old hW1) hW9;have hav:Av (vw h) vl:=λb hb=>by
  cases hx:vw h b with
  | none=>rfl
  | some o=>have:=(Vx m1.old hW1) _ _ hx;rw[k8.avl b hb]at this;cases this
 simp[hc9];exact hK _ _ ⟨hle9,o9.fresh (λ_ _ h=>by cases h) hav⟩
def lR(f:Nat->List Int)(n:Nat):List (Int × Int):=(List.range n).flatMap λa=>(f a).map λb=>((a:Int),b)
theorem kG{f:Nat->List Int}:lR f (n+1)=lR f n++(f n).map λb=>((n:Int),b):=by simp[lR,TD]
theorem Ii{f:Nat->List Int}{m:Nat}(h:n<=m): ∃t,lR f m=lR f n++t:=by
 induction m with
 | zero=>exact⟨[],by simp[show n=0 by omega]⟩
 | succ m ih=>
  rcases Sb n (m+1)with h1 | h1
  ·obtain⟨t,ht⟩:=ih V4;exact⟨t++(f m).map λb=>((m:Int),b),by rw[kG,ht,Sk]⟩
  exact⟨[],by simp[show n=m+1 by omega]⟩
theorem H5{f:Nat->List Int}{a j:Nat}(ha:a<n)(hj:j<(f a).length):(lR f n)[(lR f a).length+j]? = VC ((a:Int),nth (f a) j):=by obtain⟨t,ht⟩:=Ii (f:=f) (n:=a+1) (m:=n) V4;rw[ht,kG,Sk,U3 V4,Vg,Ur (by simpa using hj)];simp[az hj,hj]
def jP(g:Gr):List (Int × Int):=lR (λa=>nth (dJ g) a) g.length
def KC(e:Int × Int):List Value:=[Vz VA e.1,Vz VA e.2]
def Ck(g:Gr):List (List Value):=(jP g).map KC
theorem Lc{h:Heap}:
  ay VI 238 #[vg] h (λv h'=>v = .func (.func 244) #[] #[ptz h.size]/\h'=h.push (.cells vg.cells T.lh)):=by refine ao (args:=[vg]) follows Tryz.func238 E.oT Vu λK hK=>?_;simp[L.oT];refine ef rfl ?_;simp;exact hK _ _ ⟨rfl,rfl⟩
theorem E4{g:Gr}{V:View}{p:Addr}(hg:SlRd V vg g)(hp:aq V p=VC vg)(hs:Sm g):Iter VI 244 [VF (VC p)] V (Ck g):=by
 intro l J W h hM hV hVl h0 hround;have hW:=(hM VG 0).le h0;refine ao (args:=[.func (.yield l) #[] #[],VF (VC p)]) follows Tryz.func244 E.cR Vu λK hK=>?_;simp[L.cR,ae (Vx hV hW) hp];refine ah V0 (DT (hg.mono (Vx hV hW)) hs) ?_;rintro vr h1 ⟨W1,m1⟩;have hJ1:=(hM VG 0).grown h0 (RX _) m1.old;have hr1:=m1.fresh.mono (kr W h h1);have hag : ∀b,b<h.size->grow W h h1 b=W b:=λb hb=>hZ hb;generalize grow W h h1=W2 at hJ1 hr1 hag;have hlen:=hr1.bound;have hcl:=jo (g:=g);obtain⟨rv,hrv⟩:=hr1.rows;simp[hr1.len];have hall : ∀{a j:Nat},a<(dJ g).length->j<(nth (dJ g) a).length->(Ck g)[(lR (λa=>nth (dJ g) a) a).length+j]? = VC [Vz VA a,Vz VA (nth (nth (dJ g) a) j)]:=by intro a j ha hj;rw[Ck,TG,jP,H5 (f:=λa=>nth (dJ g) a) V4 hj];rfl
 refine aF [0,8,9,10] (fun(_:Unit) k=>[.func (.yield l) #[] #[],vr,Vz VA (dJ g).length,Vz VA k]) (λ_ k h2=>J VG (lR (λa=>nth (dJ g) a) k).length W2 h2) (dJ g).length ()
  rfl V4 rfl hJ1 (λ_ _=>rfl) (λv k h1 hk m=>by simp) ?_ ?_
 ·intro _ a h2 hlt hJ2 K2 hK2;have hW2:=(hM _ _).le hJ2;obtain⟨cv,rr⟩:=hrv a hlt;have br:=rr.bound;simp(disch:=omega)[hr1.idx1 rfl,cv _ hW2,rr.len];refine aF [0,8,9,10,3,15,16,17] (fun(_:Unit) j=>[.func (.yield l) #[] #[],vr,Vz VA (dJ g).length,Vz VA a,Vz VA a,rv a,Vz VA (nth (dJ g) a).length,Vz VA j])
   (λ_ j h3=>J VG ((lR (λa=>nth (dJ g) a) a).length+j) W2 h3) (nth (dJ g) a).length () rfl V4 rfl hJ2 (λ_ _=>rfl) (λv k h1 hk m=>by simp) ?_ ?_
  ·intro _ j h3 hlt3 hJ3 K3 hK3;have hW3:=(hM _ _).le hJ3;simp(disch:=omega)[rr.idx1 rfl,rr.int hW3];refine EP (ops:=[.tmp 22,.tmp 23]) rfl (by simpa using hround _ _ W2 h3 hag (hall hlt hlt3) hJ3) ?_;rintro b h4 ⟨W4,e1,e2,hJ4⟩;cases b with
   | true=>obtain rfl:=e2 rfl;simp[mg];exact hK3 () _ _ rfl rfl hJ4
   | false=>simp[mg];exact hK _ _ ⟨VH,_,W4,λi hi hne=>by rw[e1 i hne,hag i hi],hJ4,λh=>by cases h⟩
  intro _ h3 hJ3;simp;refine hK2 () _ _ rfl rfl ?_;rw[kG,Sf,TI];exact hJ3
 intro _ h2 hJ2;simp;refine hK _ _ ⟨VG,_,W2,λi hi _=>hag i hi,hJ2,λ_=>?_⟩;rw[Ck,TI,jP,hcl]
def fP(p:Gr)(e:Int × Int):Gr:=p.set e.2.toNat (nth p e.2.toNat++[e.1])
def dN(g:Gr):Gr:=(jP g).foldl fP (List.replicate g.length [])
theorem yA{β γ:Type}{f:β->γ->β}{l:List γ}{k:Nat}{x:γ}{b:β}(h:l[k]? = VC x):(l.take (k+1)).foldl f b=f ((l.take k).foldl f b) x:=by rw[UG,h,SY];rfl
theorem tH{g:Gr}{e:Int × Int}(h:e∈jP g):(0<=e.1/\e.1<g.length)/\0<=e.2/\e.2<g.length:=by simp only[jP,lR,Te,TA,SZ]at h;obtain⟨a,ha,b,hb,rfl⟩:=h;obtain⟨j,hj,rfl⟩:=Sy hb;have:=xC a (by rw[jo];exact ha) j hj;rw[jo,az hj]at this;exact⟨⟨by omega,by simp only;omega⟩,this⟩
theorem qH{l:List (Int × Int)}{p:Gr}:(l.foldl fP p).length=p.length:=by
 induction l generalizing p with
 | nil=>rfl
 | cons e l ih=>rw[Sx,ih];simp[fP]
theorem EX{l:List (Int × Int)}{p:Gr}{i m:Nat}(hp:(nth p i).length<=m):(nth (l.foldl fP p) i).length<=m+l.length:=by
 induction l generalizing p m with
 | nil=>exact hp
 | cons e l ih=>
  rw[Sx];have:=ih (p:=fP p e) (m:=m+1) ?_
  ·simp only[SL];omega
  unfold fP;rcases Sb i p.length with hi | hi
  ·rw[bs hi];split
   ·rename_i h;rw[h];simp;omega
   omega
  rw[bK (by simpa using hi)];simp[default]
theorem A0{n:Int}:(nm row n).length<=row.length:=by have h1:=qv (p:=rR row n) (x:=λi=>nth row i) row.length;have h2:(rW (sift (rR row n) (λi=>nth row i) row.length)).length=(sift (rR row n) (λi=>nth row i) row.length).length:=List.length_mergeSort _;have h3:=yb (l:=rW (sift (rR row n) (λi=>nth row i) row.length));rw[nm];omega
theorem Ig{f:Nat->List Int}{m:Nat}(h : ∀a,a<n->(f a).length<=m):(lR f n).length<=n*m:=by
 induction n with
 | zero=>simp[lR]
 | succ n ih=>have:=ih λa ha=>h a V4;have:=h n V4;rw[kG,Sf,TI,S5];omega
theorem GA{g:Gr}(hs:Sm g):(jP g).length<=1000000000000:=by
 have h1:=Ig (f:=λa=>nth (dJ g) a) (n:=g.length) (m:=1000000) λa ha=>by have:=hs.2 a ha;rw[dJ,gF ha];exact St A0 this
 have h2:g.length*1000000<=1000000*1000000:=SG _ hs.1;rw[jP];omega
theorem Dz{g:Gr}{h:Heap}(hg:SlRd (vw h) vg g)(hs:Sm g):
  ay VI 214 #[vg] h (λv h'=>(vw h).le (vw h')/\SlRd (fresh h h') v (dN g)):=by
 refine rX (args:=[vg]) follows Tryz.func214 E.pf Vu λK hK=>?_;have hs1:=hs.1;have hel:=GA hs;simp[L.pf,hg.len];refine KK (n:=g.length) El.lh (by simp<;>rfl) (by simp<;>rfl) rfl V4 V4 ?_;refine xn (z:=VE VD 0 0) (v:=VE (VC ⟨h.size,0,VD⟩) g.length g.length) V0 rfl V0 rfl rfl V8 V8 λh2 hle2 hsz2 hB2=>?_;have hle02:(vw h).le (vw h2):=Vx (b8 _ _) hle2;have hg2:h2[h.size]? = VC (.cells (List.replicate g.length (VE VD 0 0)).toArray T.aZ (0,0)):=hle2 _ _ (show(h.push _)[h.size]? = _ by simp);simp at hsz2 hB2;simp;refine ah V0 Lc ?_;rintro _ _ ⟨rfl,rfl⟩;have hgc:=hg.cells.1;rw[hgc];have hle3:=b8 h2 (.cells #[vg] T.lh);generalize hh3:h2.push (.cells #[vg] T.lh)=h3 at hle3;have hsz3:h3.size=h.size+3:=by rw[<-hh3];simp[hsz2]
 obtain⟨W0,hW0⟩ : ∃W:View,W=λb=>if b=h.size then VD else h3[b]?:=⟨_,rfl⟩;have hW0le:W0.le (vw h3):=λb o hb=>by
  rw[hW0]at hb;simp only at hb;split at hb
  ·cases hb
  exact hb
 have h0W:(vw h).le W0:=λb o hb=>by have hlt:=View.lt (View.le_refl (vw h)) hb;rw[hW0];simp only;rw[if_neg V4];exact Vx hle02 hle3 b o hb
 have hp3:aq W0 ⟨h2.size,0,VD⟩=VC vg:=by
  have e:W0 h2.size=VC (.cells #[vg] T.lh (0,0)):=by rw[hW0];simp only;rw[if_neg V4,<-hh3];simp
  simp[aq,e]
 have hB3:W0 (h.size+1)=VC (.cells #[VE (VC ⟨h.size,0,VD⟩) g.length g.length] T.lh (0,0)):=by rw[hW0];simp only;rw[if_neg V4];exact hle3 _ _ hB2
 refine uJ (enc:=KC) (all:=jP g) (gf:=244) (caps:=[ptz h2.size]) W0 W0 (λe k W h'=>e=VD/\∃rv,Rw W h' T.aZ T.int h.size rv (((jP g).take k).foldl fP (List.replicate g.length [])))
  rfl V0 (E4 (hg.mono h0W) hp3 hs) (λ_=>rfl) Vw (λe k=>⟨λ⟨_,rv,r⟩=>r.wle,λ⟨a,rv,r⟩ _ h1 h2 _=>⟨a,rv,r.move h1 h2⟩⟩) ⟨rfl,_,Rw.start hW0le (by rw[hW0];simp) (hle3 _ _ hg2)⟩
  (λx h1=>by simp[KC,dC];rfl) ?_ ?_ ?_
 ·rintro k e W h1 hag hk ⟨_,rv,r⟩ K2 hK2 _;have he:=tH (SE hk);have hk1:k<(jP g).length:=(S7.1 hk).1;have hst:=yA (f:=fP) (b:=List.replicate g.length []) hk;have hpl:=qH (l:=(jP g).take k) (p:=List.replicate g.length []);have hrl:=EX (l:=(jP g).take k) (p:=List.replicate g.length []) (i:=e.2.toNat) (m:=0) (by rw[aD V4];simp);rw[SH]at hrl;rw[SN]at hpl;generalize hp:((jP g).take k).foldl fP (List.replicate g.length [])=p at r hst hpl hrl;have hlt:=r.lt;have hB1:h1[h.size+1]? = VC (.cells #[VE (VC ⟨h.size,0,VD⟩) g.length g.length] T.lh (0,0)):=r.wle _ _ (by rw[hag _ V4];exact hB3);have hlt1:=(Sj.1 hB1).1;obtain⟨H,hH⟩ : ∃H:View,H=λb=>if b=h.size\/b=h.size+1 then h1[b]? else none:=⟨_,rfl⟩;have hHle:H.le (vw h1):=λb o hb=>by
   rw[hH]at hb;simp only at hb;split at hb
   ·exact hb
   cases hb
  have c1:aq H ⟨h.size+1,0,VD⟩=VC (VE (VC ⟨h.size,0,VD⟩) g.length g.length):=df (by rw[hH];simp only;rw[if_pos V5];exact hB1) rfl;have hlen:=r.len;have c2:aq H ⟨h.size,e.2.toNat,VD⟩=VC (nth rv e.2.toNat):=df (by rw[hH];simp only;rw[if_pos V5];exact r.blk) (by rw[az V4];simp);refine aN H hHle ?_;simp(disch:=omega)[c1,c2,Mg];refine ni (α:=Int) (W:=nothing) El.aZ (by simp<;>rfl) (sB V4 V4) λu h4 hsrc hle4 _=>⟨Vx hHle hle4,?_⟩;have r4:=r.ext hle4;have hi:e.2.toNat<p.length:=by omega
  refine dA El.aZ V5 V5 (r4.own _ hi) hsrc Vt Vt λv' h5 o5 m5=>?_;have hg5:h5[h.size]? = VC (.cells rv.toArray T.aZ (0,0)):=by rw[m5.kept.block _ r4.lt (λe=>r4.ng _ hi e.symm)];exact r4.blk
  obtain⟨hcells,hone⟩:=nM o5;have hH5:H.le (vw h5):=by
   intro b o hb;have hlt4:=View.lt (Vx hHle hle4) hb;have h4b:=Vx hHle hle4 b o hb;show h5[b]? = _;rw[m5.kept.block b hlt4 ?_]
   ·exact h4b
   rw[hH]at hb;simp only at hb;split at hb
   ·rename_i e1;rcases e1 with rfl | rfl
    ·exact λe=>r4.ng _ hi e.symm
    intro e;have:=r4.av _ hi _ e.symm;rw[hag _ V4,hB3]at this;cases this
   cases hb
  refine⟨hH5,?_⟩;refine eJ (g:=h.size) (o:=e.2.toNat) (n:=1) (v:=v') V0 V5 V5 (by rw[hcells];rfl) (by rw[hcells];simpa using hone) hg5 Vt λh6 hsz6 ⟨row,hrow,hre⟩ hoth=>?_;refine hK2 _ _ ⟨rfl,rv.set e.2.toNat v',?_⟩;rw[hst,fP];have hrow2:row=(rv.set e.2.toNat v').toArray:=by rw[<-Array.toList_inj,hre,hcells,UB,if_pos V4];simp
  rw[hrow2]at hrow;exact r4.put hi o5 m5 hrow hoth hsz6
 ·rintro W h1 hag ⟨_,rv,r⟩;rw[Sr (RX _)]at r;have hB1:h1[h.size+1]? = VC (.cells #[VE (VC ⟨h.size,0,VD⟩) g.length g.length] T.lh (0,0)):=r.wle _ _ (by rw[hag _ V4];exact hB3);have c1:aq (vw h1) ⟨h.size+1,0,VD⟩=VC (VE (VC ⟨h.size,0,VD⟩) g.length g.length):=df hB1 rfl;simp[c1];intro h4 hsw;have hWW:(vw h).le W:=λb o hb=>by rw[hag b (by have:=View.lt (View.le_refl (vw h)) hb;omega)];exact h0W b o hb
  have hfl:=qH (l:=jP g) (p:=List.replicate g.length []);rw[SN]at hfl;have hfr:=r.fresh hWW V4;rw[hfl]at hfr;exact⟨_,rfl,hK _ _ ⟨hsw.ext (Vx hWW r.wle),hsw.rd hfr⟩⟩
 rintro e k W h1 hag ⟨hne,_⟩;cases hne
def gg(n:Nat)(order:List Int):List Int:=up (λi l=>l.set (nth order i).toNat (i:Int)) order.length (List.replicate n (-1))
def bstS(out number:List Int)(n:Nat):List Int->Int->Option Int
 | [],best=>VC best
 | a::l,best=>
  if 0<=a/\a<n then
   if nth number a.toNat<0\/(a≠0/\nth out a.toNat<0) then bstS out number n l best
   else if best<0 then bstS out number n l a
   else(mz out number (2*n+2) best a).bind (bstS out number n l)
  else VD
def setS(out:List Int)(ch:Bool)(b best:Int):List Int × Bool:=if nth out b.toNat≠best then(out.set b.toNat best,VG) else(out,ch)
def vx(number:List Int)(preds:Gr)(n:Nat):List Int->List Int × Bool->Option (List Int × Bool)
 | [],s=>VC s
 | b::l,s=>
  if 0<=b/\b<n then(bstS s.1 number n (nth preds b.toNat) (-1)).bind λbest=>vx number preds n l (setS s.1 s.2 b best)
  else VD
def pP(number:List Int)(preds:Gr)(n:Nat)(tail:List Int):Nat->List Int->Option (List Int)
 | 0,_=>VD
 | m+1,out=>(vx number preds n tail (out,VH)).bind λs=>if s.2 then pP number preds n tail m s.1 else VC s.1
def BO(g:Gr)(fuel:Nat):Option (List Int):=
 pP (gg g.length (bN g)) (dN g) g.length ((bN g).drop (min 1 (bN g).length)) fuel (List.replicate g.length (-1))
theorem jT{out number:List Int}{c:Int} : ∀{k:Nat} {x y:Int},mz out number k x y=VC c->0<=c/\c<number.length
 | 0,x,y,h=>by cases h
 | k+1,x,y,h=>by
  rw[mz]at h;split at h;case isFalse=>cases h
  rename_i hr;split at h
  ·exact jT h
  split at h
  ·exact jT h
  cases h;omega
theorem FJ{out:List Int}: ∀{l:List Int} {best r:Int},(-1<=best/\best<n)->out.length=n->number.length=n->(∀i,i<n->-1<=nth out i/\nth out i<n)->bstS out number n l best=VC r->-1<=r/\r<n:=by
 intro l;induction l with
 | nil=>intro best r hb _ _ _ h;simp only[bstS,RW]at h;subst h;exact hb
 | cons a l ih=>
  intro best r hb h1 h2 h3 h;rw[bstS]at h;split at h;case isFalse=>cases h
  rename_i ha;split at h
  ·exact ih hb h1 h2 h3 h
  split at h
  ·exact ih V9 h1 h2 h3 h
  simp only[Sq]at h;obtain⟨c,hc,h⟩:=h;refine ih ?_ h1 h2 h3 h;have:=jT hc;omega
structure OvOk(m M:Nat)(s:List Bool × List Int):Prop where
 len:s.1.length=m
 cnt:s.2.length+dI s.1<=M
 rng : ∀x∈s.2,0<=x/\x<m
theorem DK{nx:Int->List Int}{m:Nat}(hnx : ∀a:Int,0<=a->a<m->∀i,i<(nx a).length->0<=nth (nx a) i/\nth (nx a) i<m) : ∀(n M:Nat) (a:Int) (s:List Bool × List Int),0<=a->a<m->nth s.1 a.toNat=VH->OvOk m M s->OvOk m M (kU nx n a s)
 | 0,_,_,_,_,_,_,h=>h
 | n+1,M,a,s,h0,h1,hf,h=>by
  rw[ma];have hlen:=h.len;have hfs:=kC (t:=s.1) (i:=a.toNat) V4 hf;have hc:=h.cnt;have hup : ∀k,k<=(nx a).length->OvOk m (M-1) (up (dq nx n a) k (s.1.set a.toNat VG,s.2)):=by
   intro k;induction k with
   | zero=>exact λ_=>⟨by simpa[up]using hlen,by simp only[up];omega,h.rng⟩
   | succ k ih=>
    intro hk;have:=ih V4;rw[up];generalize up (dq nx n a) k (s.1.set a.toNat VG,s.2)=z at this;unfold dq;split
    ·exact this
    rename_i hz;obtain⟨e0,e1⟩:=hnx a h0 h1 k V4;exact DK hnx n (M-1) _ z e0 e1 (by simpa using hz) this
  have:=hup _ (RX _);exact⟨this.len,by have:=this.cnt;simp;omega,λx hx=>by
   rcases R1.1 hx with hx | hx
   ·exact this.rng x hx
   simp only[RY]at hx;subst hx;exact⟨h0,h1⟩⟩
theorem AK{nx:Int->List Int}{m:Nat}(hnx : ∀a:Int,0<=a->a<m->∀i,i<(nx a).length->0<=nth (nx a) i/\nth (nx a) i<m):(nj nx m).length<=m/\∀x∈nj nx m,0<=x/\x<m:=by
 unfold nj;split
 ·simp
 rename_i h0;have:=DK hnx m m 0 (List.replicate m VH,[]) V4 V4 (aD Vt) ⟨by simp,by simp[dI],by simp⟩;refine⟨?_,λx hx=>this.rng x (by simpa using hx)⟩;have:=this.cnt;simp;omega
theorem Ov{g:Gr}: ∀a:Int,0<=a->a<(g.length:Int)->∀i,i<(nx (dJ g) a).length->0<=nth (nx (dJ g) a) i/\nth (nx (dJ g) a) i<g.length:=by intro a h0 h1 i hi;have:=xC a.toNat (by rw[jo];omega) i hi;rwa [jo]at this
theorem Jj{g:Gr}{i:Nat}(hi:i<(bN g).length):0<=nth (bN g) i/\nth (bN g) i<g.length:=
 (AK Ov).2 _ (bh hi)
theorem uD{g:Gr}:(bN g).length<=g.length:=(AK Ov).1
theorem xy{g:Gr}: ∀{l:List (Int × Int)} {p:Gr},(∀e∈l,0<=e.1/\e.1<g.length)->(∀i,∀x∈nth p i,0<=x/\x<g.length)->∀i,∀x∈nth (l.foldl fP p) i,0<=x/\x<g.length:=by
 intro l;induction l with
 | nil=>exact λ_ h=>h
 | cons e l ih=>
  intro p hl hp;rw[Sx];refine ih (λe' he'=>hl e' (Sa _ he')) λi x hx=>?_;unfold fP at hx;rcases Sb i p.length with hi | hi
  ·rw[bs hi]at hx;split at hx
   ·rcases R1.1 hx with hx | hx
    ·exact hp _ x hx
    simp only[RY]at hx;subst hx;exact hl e (Sg ..)
   exact hp _ x hx
  rw[bK (by simpa using hi)]at hx;cases hx
theorem Ab{h:Heap}{v v':Value}(m:lO h h' v v')(hw:W.le (vw h))(ha:Av W v):W.le (vw h'):=(m.view hw ha).1
theorem Nj{g:Gr}{h:Heap}{fuel:Nat}{l:List Int}(hg:SlRd (vw h) vg g)(hs:Sm g)(hl:BO g fuel=VC l):
  ay VI 215 #[vg] h (λv h'=>∃W,Mine nothing h h' W T.int v l):=by
 refine ao (args:=[vg]) follows Tryz.func215 E.bP Vu λK hK=>?_;have hs1:=hs.1;simp[L.bP,hg.len];refine ah V0 (D0 hg hs) ?_;rintro vo h1 ⟨hle1,ho⟩;have hoin:=@Jj g;have holen:=uD (g:=g);rw[BO]at hl;generalize bN g=order at ho hoin holen hl;refine Mine.made (V:=nothing) (W:=nothing) (h0:=h) (n:=g.length) (d:=(0:Int)) El.aZ hle1 (λ_ _ h=>by cases h) (Old.nothing _ _) (by simp<;>rfl) (by simp<;>rfl) ⟨rfl,by omega,by omega⟩ V4 V4 λvn h2 mn hle2 hbn=>?_;refine Mine.made (V:=nothing) (W:=nothing) (h0:=h) (n:=g.length) (d:=(0:Int)) El.aZ mn.old (λ_ _ h=>by cases h) (Old.nothing _ _) (by simp<;>rfl) (by simp<;>rfl) ⟨rfl,by omega,by omega⟩ V4 V4 λvi h3 mi hle3 hbi=>?_;have mn3:=mn.ext' hle3;have hne:vn.ownBlock≠vi.ownBlock:=by have:=mn.own.lt hbn;rw[hbn,hbi];intro e;simp only[RW]at e;omega
 have hle13:(vw h1).le (vw h3):=Vx hle2 hle3;have av1n:Av (vw h1) vn:=λb hb=>by rw[hbn]at hb;cases hb;exact View.bS Vw (RX _)
 have av1i:Av (vw h1) vi:=λb hb=>by rw[hbi]at hb;cases hb;exact View.bS hle2 (RX _)
 refine aF [0,3,4,5,25,26] (fun(_:Unit) k=>[vg,vo,vn,vi,Vz VA g.length,Vz VA k])
  (λ_ k h4=>Mine nothing h h4 nothing T.int vn (rows (λ_=>(-1:Int)) k++List.replicate (g.length-k) 0)/\Mine nothing h h4 nothing T.int vi (rows (λ_=>(-1:Int)) k++List.replicate (g.length-k) 0)/\(vw h1).le (vw h4)) g.length ()
  rfl V4 rfl ⟨by simpa using mn3,by simpa using mi,hle13⟩ (λ_ _=>rfl) (λv k h1 hk m=>by simp) ?_ ?_
 ·rintro _ k h4 hlt ⟨m4n,m4i,hle4⟩ K2 hK2;have hlk:(rows (λ_=>(-1:Int)) k++List.replicate (g.length-k) (0:Int)).length=g.length:=by simp;omega
  simp(disch:=omega)[m4n.now.idx1 rfl,m4i.now.idx1 rfl];refine uR (W:=nothing) (i:=k) (d:=(-1:Int)) V0 (by simp[show Rep.n Int=1 from rfl]) (by simp<;>rfl) m4n.own V4 (sB V4 V4) λh5 o5 mv5=>?_;have m5n:=m4n.gK o5 mv5;have m5i:=m4i.beside m5n mv5 (.inr (Ne.symm hne));refine uR (W:=nothing) (i:=k) (d:=(-1:Int)) V0 (by simp[show Rep.n Int=1 from rfl]) (by simp<;>rfl) m5i.own V4 (sB V4 V4) λh6 o6 mv6=>?_;have m6i:=m5i.gK o6 mv6;have m6n:=m5n.beside m6i mv6 (.inr hne);rw[As (x:=λ_=>(-1:Int)) hlt]at m6i m6n;exact hK2 () _ _ rfl rfl ⟨m6n,m6i,Ab mv6 (Ab mv5 hle4 av1n) av1i⟩
 rintro _ h4 ⟨m4n,m4i,hle4⟩;have hrows:rows (λ_=>(-1:Int)) g.length=List.replicate g.length (-1):=by refine TJ V5 λi h1 h2=>?_;simp[rows]
 rw[hrows]at m4n m4i;simp only[Uo,List.replicate_zero,TR]at m4n m4i;have ho1:=ho.mono (mO h h1);simp[ho1.len];refine aF [0,3,4,5,36,37,38] (fun(_:Unit) k=>[vg,vo,vn,vi,vo,Vz VA order.length,Vz VA k])
  (λ_ k h5=>Mine nothing h h5 nothing T.int vn (up (λi l=>l.set (nth order i).toNat (i:Int)) k (List.replicate g.length (-1)))/\Mine nothing h h5 nothing T.int vi (List.replicate g.length (-1))/\(vw h1).le (vw h5)) order.length ()
  rfl V4 rfl ⟨m4n,m4i,hle4⟩ (λ_ _=>rfl) (λv k h1 hk m=>by simp) ?_ ?_
 ·rintro _ k h5 hlt ⟨m5n,m5i,hle5⟩ K2 hK2;have hlen5:(up (λi l=>l.set (nth order i).toNat (i:Int)) k (List.replicate g.length (-1))).length=g.length:=by rw[CE List.length (λ_ _=>by simp)];simp
  have ho5:=ho1.mono hle5;obtain⟨e0,e1⟩:=hoin hlt;simp(disch:=omega)[ho5.idx1 rfl,ho5.int Vw,m5n.now.idx1 rfl];refine uR (W:=nothing) (i:=(nth order k).toNat) (d:=(k:Int)) V0 (by simp[show Rep.n Int=1 from rfl]) (by simp<;>rfl) m5n.own V4 (sB V4 V4) λh6 o6 mv6=>?_;have m6n:=m5n.gK o6 mv6;exact hK2 () _ _ rfl rfl ⟨m6n,m5i.beside m6n mv6 (.inr (Ne.symm hne)),Ab mv6 hle5 av1n⟩
 rintro _ h5 ⟨m5n,m5i,hle5⟩;have hnum:up (λi l=>l.set (nth order i).toNat (i:Int)) order.length (List.replicate g.length (-1))=gg g.length order:=rfl;rw[hnum]at m5n;have hnl:(gg g.length order).length=g.length:=by rw[gg,CE List.length (λ_ _=>by simp)];simp
 simp;refine ah V0 (Dz (hg.mono m5n.old) hs) ?_;rintro vp h6 ⟨hle6,hp⟩;have hpl:(dN g).length=g.length:=by rw[dN,qH];simp
 have hpin : ∀i,∀x∈nth (dN g) i,0<=x/\x<g.length:=xy (λe he=>(tH he).1) (λi x hx=>by
  rcases Sb i g.length with hi | hi
  ·rw[aD hi]at hx;cases hx
  rw[bK (by simpa using hi)]at hx;cases hx);have m6:=(m5i.ext' hle6).over;have hn6:SlRd (but vi h6) vn (gg g.length order):=(m5n.own.rd (V:=but vi h5) (λ_ _ h=>by cases h) (λb hb=>by unfold but;rw[if_neg (λe=>hne (hb.trans e.symm))])).mono (E0 hle6)
 have hp6:SlRd (but vi h6) vp (dN g):=hp.mono λb o hb=>by
  have hb2:=mO _ _ b o hb;unfold but;split
  ·rename_i e;have:=m5i.own.lt e;unfold fresh at hb;rw[if_pos this]at hb;cases hb
  exact hb2
 have ho6:SlRd (but vi h6) vo order:=ho1.mono (Vx (FZ hle5 av1i) (E0 hle6));generalize hW:but vi h6=W at m6 hn6 hp6 ho6;generalize gg g.length order=number at hn6 hnl hl;generalize hpr:dN g=preds at hp6 hpl hpin hl;obtain⟨pv,hpv⟩:=hp6.rows;refine js [3,4,5,9,10] (λm ρ h7=>∃(out:List Int) (ch:Bool),ρ=[(3,vo),(4,vn),(5,vi),(9,vp),(10,.bool ch)]/\Mine (vw h) h h7 W T.int vi out/\out.length=g.length/\(∀i,i<g.length->-1<=nth out i/\nth out i<g.length)/\
  (ch=VG->pP number preds g.length (order.drop (min 1 order.length)) m out=VC l)/\(ch=VH->out=l)) fuel
  ⟨_,VG,rfl,m6,by simp,λi hi=>by rw[aD hi];omega,λ_=>hl,λh=>by cases h⟩ ?_;rintro m ρ h7 ⟨out,ch,rfl,m7,hol,hor,hch1,hch2⟩ K2 hK2;cases ch with
 | false=>simp[L.bP.l3,mg];have:=hch2 rfl;subst this;exact hK _ _ ⟨_,m7.Qi⟩
 | true=>
  have hit:=hch1 rfl;cases m with
  | zero=>cases hit
  | succ m=>
   rw[pP,Sq]at hit;obtain⟨⟨out',ch'⟩,hsw,hfin⟩:=hit;simp only at hfin;simp[L.bP.l3,mg];have hmin:(if(order.length:Int)<1 then(order.length:Int) else 1)=((min 1 order.length:Nat):Int):=by split<;>omega
   obtain⟨u,hu,hur⟩:=ho6.drop (n:=min 1 order.length) V4 (kd:=.i64);rw[show Rep.n Int=1 from rfl]at hu;have hti : ∀j,j<(order.drop (min 1 order.length)).length->nth (order.drop (min 1 order.length)) j=nth order (min 1 order.length+j):=by intro j hj;rw[SP]at hj;rw[az (by rw[SP];omega),az V4,UD]
   generalize order.drop (min 1 order.length)=tail at hur hti hsw hfin hK2;simp only[ho6.len,SA,PG,hmin,hu,hur.len,lA,dC];have hub:=hur.bound;simp;refine aF [3,4,5,9,10,55,56,57] (fun(s:List Int × Bool) k=>[vo,vn,vi,vp,.bool s.2,u,Vz VA tail.length,Vz VA k])
    (λs k h8=>Mine (vw h) h h8 W T.int vi s.1/\s.1.length=g.length/\(∀i,i<g.length->-1<=nth s.1 i/\nth s.1 i<g.length)/\vx number preds g.length (tail.drop k) s=VC (out',ch')) tail.length (out,VH)
    rfl V4 rfl ⟨m7,hol,hor,by simpa using hsw⟩ (λ_ _=>rfl) (λv k h1 hk m=>by simp) ?_ ?_
   ·rintro⟨o8,c8⟩ k h8 hlt8 ⟨m8,hol8,hor8,hs8⟩ K3 hK3;simp only at m8 hol8 hor8;rw[SD hlt8,<-az hlt8,vx]at hs8;split at hs8;case isFalse=>cases hs8
    rename_i hb;rw[Sq]at hs8;obtain⟨best,hbest,hs8⟩:=hs8;simp only at hbest hs8;have hb2:=FJ V4 hol8 hnl hor8 hbest;generalize hbe:nth tail k=b at hb hbest hs8;obtain⟨cv,rr⟩:=hpv b.toNat V4;have br:=rr.bound;simp(disch:=omega)[hur.idx1 rfl,hur.int m8.wle,hbe,hp6.idx1 rfl,cv _ m8.wle,rr.len];refine aF [3,4,5,9,10,55,56,57,12,13,64,65,66] (fun(bst:Int) j=>[vo,vn,vi,vp,.bool c8,u,Vz VA tail.length,Vz VA k,Vz VA b,Vz VA bst,pv b.toNat,Vz VA (nth preds b.toNat).length,Vz VA j])
     (λbst j h9=>Mine (vw h) h h9 W T.int vi o8/\(-1<=bst/\bst<g.length)/\bstS o8 number g.length ((nth preds b.toNat).drop j) bst=VC best) (nth preds b.toNat).length (-1)
     rfl V4 rfl ⟨m8,by omega,by simpa using hbest⟩ (λ_ _=>rfl) (λv k h1 hk m=>by simp) ?_ ?_
    ·rintro bst j h9 hlt9 ⟨m9,hb9,hs9⟩ K4 hK4;rw[SD hlt9,<-az hlt9,bstS]at hs9;have ha:=hpin _ _ (bh hlt9);rw[if_pos ha]at hs9;have hra:=rr.int m9.wle hlt9;generalize nth (nth preds b.toNat) j=a at hs9 ha hra;have hn9:=hn6.int m9.wle (i:=a.toNat) V4;have ho9:=m9.now.int Vw (i:=a.toNat) V4;have hi9:=m9.now;by_cases c1:nth number a.toNat<0
     ·rw[if_pos (.inl c1)]at hs9;simp(disch:=omega)[rr.idx1 rfl,hra,hn6.idx1 rfl,hn9,c1,hi9.idx1 rfl,ho9];exact hK4 bst _ _ rfl rfl ⟨m9,hb9,hs9⟩
     by_cases c2:a=0
     ·rw[if_neg (by rintro(h | h);exact c1 h;exact h.1 c2)]at hs9;subst c2;rw[Int.toNat_zero]at hn9 ho9 c1;simp(disch:=omega)[rr.idx1 rfl,hra,hn6.idx1 rfl,hn9,c1,hi9.idx1 rfl,ho9];refine⟨λc4=>?_,λc4=>?_⟩
      ·rw[if_pos c4]at hs9;exact hK4 _ _ _ rfl rfl ⟨m9,by omega,hs9⟩
      rw[if_neg V4,Sq]at hs9;obtain⟨c,hc,hs9⟩:=hs9;have hcr:=jT hc;refine ah V0 (Bs m9.now (hn6.mono m9.wle) hc) ?_;rintro _ _ ⟨rfl,rfl⟩;exact hK4 c _ _ rfl rfl ⟨m9,by omega,hs9⟩
     by_cases c3:nth o8 a.toNat<0
     ·rw[if_pos (.inr ⟨c2,c3⟩)]at hs9;simp(disch:=omega)[rr.idx1 rfl,hra,hn6.idx1 rfl,hn9,c1,c2,hi9.idx1 rfl,ho9,c3];exact hK4 bst _ _ rfl rfl ⟨m9,hb9,hs9⟩
     rw[if_neg (by rintro(h | h);exact c1 h;exact c3 h.2)]at hs9;simp(disch:=omega)[rr.idx1 rfl,hra,hn6.idx1 rfl,hn9,c1,c2,hi9.idx1 rfl,ho9,c3];refine⟨λc4=>?_,λc4=>?_⟩
     ·rw[if_pos c4]at hs9;exact hK4 _ _ _ rfl rfl ⟨m9,by omega,hs9⟩
     rw[if_neg V4,Sq]at hs9;obtain⟨c,hc,hs9⟩:=hs9;have hcr:=jT hc;refine ah V0 (Bs m9.now (hn6.mono m9.wle) hc) ?_;rintro _ _ ⟨rfl,rfl⟩;exact hK4 c _ _ rfl rfl ⟨m9,by omega,hs9⟩
    rintro bst h9 ⟨m9,hb9,hs9⟩;simp only[List.drop_length,bstS,RW]at hs9;subst hs9;simp(disch:=omega)[m9.now.idx1 rfl,m9.now.int Vw];refine⟨λe=>hK3 (o8,c8) _ _ rfl rfl ⟨m9,hol8,hor8,by rw[setS,if_neg (by simpa using e)]at hs8;exact hs8⟩,λe=>?_⟩;refine m9.put1 (α:=Int) (i:=b.toNat) V0 rfl V5 (by simp<;>rfl) V4 (sB V4 V4) λh10 m10=>hK3 (o8.set b.toNat bst,VG) _ _ rfl rfl ⟨m10,by simpa using hol8,λi hi=>?_,by rw[setS,if_pos e]at hs8;exact hs8⟩;simp only;rw[bs V4];split
    ·exact hb9
    exact hor8 i hi
   rintro⟨o8,c8⟩ h8 ⟨m8,hol8,hor8,hs8⟩;simp only[List.drop_length,vx,RW,TM]at hs8 m8 hol8 hor8;obtain⟨rfl,rfl⟩:=hs8;simp;refine hK2 m _ _ V4 ⟨_,_,rfl,m8,hol8,hor8,λe=>?_,λe=>?_⟩
   ·rw[if_pos e]at hfin;exact hfin
   rw[if_neg (by simp[e])]at hfin;exact Option.some.inj hfin
abbrev Tr:=Int × Int × Int
def trV(t:Tr):List PanicEntry:=[{ v:=.iface T.gJ (.agg #[Vz VA t.1,Vz VA t.2.1,Vz VA t.2.2]),recovered:=false }]
def cr(n a b:Int):Bool:=decide (a<=n)&&decide (n<=b)
theorem kL{n a:Int}{h:Heap}:ay VI 96 #[Vz VA n,Vz VA a,Vz VA b] h (λv h'=>v = .bool (cr n a b)/\h'=h):=by refine ao (args:=[Vz VA n,Vz VA a,Vz VA b]) follows Tryz.func96 E.nA Vu λK hK=>?_;simp[L.nA];exact hK _ _ ⟨by by_cases h1:a<=n<;>simp[cr,h1],rfl⟩
theorem iU{ok:Bool}{e p:Int}{h:Heap}:jG VI 154 #[.bool ok,Vz VA e,Vz VA b,Vz VA p] h (λv h'=>ok=VG/\h'=h) (λch h'=>ok=VH/\ch=trV (e,b,p)/\h'=h):=by
 refine jk (args:=[.bool ok,Vz VA e,Vz VA b,Vz VA p]) follows Tryz.func154 E.od Vu λK Kp hK hKp=>?_;cases ok with
 | true=>simp[L.od];exact hK _ _ ⟨rfl,rfl⟩
 | false=>simp[L.od];refine aA (z:=zz0) (places:=[(0,1),(1,1),(2,1)]) (vs:=[(0,Vz VA e),(1,Vz VA b),(2,Vz VA p)]) (cs:=#[Vz VA e,Vz VA b,Vz VA p]) V0 V0 V5 V0 ?_;refine Lz (d:=(Tryz.prog.underlying T.gJ).getD .bool) V0 V0 rfl ?_;simp;refine K7 (t:=T.gJ) (v:=.agg #[Vz VA e,Vz VA b,Vz VA p]) rfl ?_;exact⟨.inl rfl,hKp _ _ ⟨rfl,rfl,rfl⟩⟩
def gT(op:Int):Int × Int:=if op=1 then(0,0) else if op=15 then(1,1) else if op=17 then(0,4) else(2,2)
theorem ES{op:Int}{h:Heap}:ay VI 210 #[Vz VA op] h (λv h'=>v = .tuple #[Vz VA (gT op).1,Vz VA (gT op).2]/\h'=h):=by refine ao (args:=[Vz VA op]) follows Tryz.func210 E.lD Vu λK hK=>?_;simp[L.lD];refine⟨λh1=>hK _ _ ⟨by simp[gT,h1],rfl⟩,λh1=>⟨λh2=>hK _ _ ⟨by simp[gT,h1,h2],rfl⟩,λh2=>⟨λh3=>hK _ _ ⟨by simp[gT,h1,h2,h3],rfl⟩,λh3=>hK _ _ ⟨by simp[gT,h1,h2,h3],rfl⟩⟩⟩⟩
def bz(i:InsD):List Int:=if i.op=16 then[] else if i.op=18 then[i.dst,i.two] else[i.dst]
theorem EM{d:InsD}{v:Value}{h:Heap}(hd:Rd (vw h) v d):ay VI 140 #[v] h (λu h'=>(vw h).le (vw h')/\SlRd (fresh h h') u (bz d)):=by
 refine ao (args:=[v]) follows Tryz.func140 E.pk Vu λK hK=>?_;simp[L.pk];refine eI rfl hd λh1 _ hle1 hsz1 hat=>?_;obtain⟨c0,c1,c2,va,ca⟩:=nC hat;have r1:=(hat.part InsD.iG).rng;have r2:=(hat.part InsD.BT).rng;simp[c0];refine⟨λe1=>hK _ _ ⟨hle1,by simpa[bz,e1]using aL⟩,λe1=>⟨λe2=>?_,λe2=>?_⟩⟩
 ·simp[c1,c2];refine nJ (X:=nothing) (ds:=[d.dst,d.two]) (vs:=[Vz VA d.dst,Vz VA d.two]) rfl El.aZ V5 ⟨bu.2 ⟨rfl,r1⟩,bu.2 ⟨rfl,r2⟩,trivial⟩ cB rfl V4 λu h2 hle2 hsz2 hu _=>?_;exact hK _ _ ⟨Vx hle1 hle2,by simpa[bz,e2]using hu _ cB (by unfold fresh;rw[if_neg V4])⟩
 simp[c1];refine nJ (X:=nothing) (ds:=[d.dst]) (vs:=[Vz VA d.dst]) rfl El.aZ V5 ⟨bu.2 ⟨rfl,r1⟩,trivial⟩ cB rfl V4 λu h2 hle2 hsz2 hu _=>?_;exact hK _ _ ⟨Vx hle1 hle2,by simpa[bz,e1,e2]using hu _ cB (by unfold fresh;rw[if_neg V4])⟩
abbrev MW:=Int->Option (Int × Int)
def encW(w:Int × Int):Value:=.agg #[Vz VA w.1,Vz VA w.2]
variable{Kb:Nat}
theorem NP{ps n p:Int}{h:Heap}(h0:aq (vw h) ⟨Kb,0,VD⟩=VC (Vz VA ps)):
  jG VI 232 #[ptz Kb,Vz VA n,Vz VA b,Vz VA p] h (λ_ h'=>cr n ps 8191=VG/\h'=h) (λch h'=>cr n ps 8191=VH/\ch=trV (11,b,p)/\h'=h):=by
 refine jk (args:=[ptz Kb,Vz VA n,Vz VA b,Vz VA p]) follows Tryz.func232 E.je Vu λK Kp hK hKp=>?_;simp[L.je,h0];refine ah V0 kL ?_;rintro _ _ ⟨rfl,rfl⟩;refine dZ V0 iU ?_ ?_
 ·rintro _ _ ⟨e,rfl⟩;exact hK _ _ ⟨e,rfl⟩
 rintro _ _ ⟨e,rfl,rfl⟩;exact⟨.inl rfl,hKp _ _ ⟨e,rfl,rfl⟩⟩
theorem MX{r:Nat}{m:MW}{n p:Int}{h:Heap}(h2:aq (skip r h) ⟨Kb,2,VD⟩=VC (.map (VC r)))(hm:dh (.int .i64) h r (mapE encW m)):
  jG VI 233 #[ptz Kb,Vz VA n,Vz VA b,Vz VA p] h (λ_ h'=>m n=VD/\dh (.int .i64) h' r (mapE encW (putM m n (b,p)))/\Kept h h' (VC r))
   (λch h'=>m n≠VD/\ch=trV (12,b,p)/\Kept h h' (VC r)):=by
 refine jk (args:=[ptz Kb,Vz VA n,Vz VA b,Vz VA p]) follows Tryz.func233 E.jc Vu λK Kp hK hKp=>?_;simp[L.jc,ae dm h2];refine eo (z:=zz1) U.fV U.int V0 (by simp<;>rfl) (by simp<;>rfl) cM hm ?_;simp;refine gA (n:=2) (z:=zz1) (v:=((m n).map encW).getD (.agg #[Vz VA 0,Vz VA 0])) V0 rfl V0 (by cases m n<;>rfl) (by cases m n<;>simp[encW,Value.oneCell']) V8 V8 λh3 hle3 _ _=>?_;have k3:=Kept.of_le (b:=VC r) hle3;have hm3:=hm.ext hle3;have h23:=ae k3.GU h2;refine dZ V0 iU ?_ ?_
 ·rintro _ _ ⟨e,rfl⟩;simp[h23];refine aA (z:=zz1) (places:=zpd) (vs:=[(0,Vz VA b),(1,Vz VA p)]) (cs:=#[Vz VA b,Vz VA p]) V0 V0 V5 V0 ?_;refine kS (v:=encW (b,p)) (.inl rfl) U.fV U.int (by simp<;>rfl) (by simp<;>rfl) (by simp<;>rfl) cM hm3 _ gX.1 gX.2 λh4 hs4 ho4 hm4=>?_;exact hK _ _ ⟨by simpa using e,hm4,k3.trans (Kept.upd hs4 ho4)⟩
 rintro _ _ ⟨e,rfl,rfl⟩;exact⟨.inl rfl,hKp _ _ ⟨(by intro e2;rw[e2]at e;cases e),rfl,k3⟩⟩
def tZ(b p:Int)(m:MW)(n:Int):Except Tr MW:=if(m n).isSome then .error (12,b,p) else .ok (putM m n (b,p))
def allS(ps:Int)(l:List Int)(b p:Int)(m:MW):Except Tr MW:=if l.all (λn=>cr n ps 8191) then l.foldlM (tZ b p) m else .error (11,b,p)
structure Lk(h:Heap)(Kb r:Nat)(vb:Value)(f:ak)(m:MW):Prop where
 c0:aq (skip r h) ⟨Kb,0,VD⟩=VC (Vz VA f.params)
 c1:aq (skip r h) ⟨Kb,1,VD⟩=VC vb
 c2:aq (skip r h) ⟨Kb,2,VD⟩=VC (.map (VC r))
 rb:SlRd (skip r h) vb f.blocks
 map:dh (.int .i64) h r (mapE encW m)
theorem Lk.kept{h h':Heap}{Kb r:Nat}{vb:Value}{f:ak}{m m':MW}(k:Lk h Kb r vb f m)(hk:Kept h h' (VC r))(hm:dh (.int .i64) h' r (mapE encW m')):Lk h' Kb r vb f m':=
 ⟨ae hk.skip k.c0,ae hk.skip k.c1,ae hk.skip k.c2,k.rb.mono hk.skip,hm⟩
theorem Lk.ext{h h':Heap}{Kb r:Nat}{vb:Value}{f:ak}{m:MW}(k:Lk h Kb r vb f m)(hle:(vw h).le (vw h')):Lk h' Kb r vb f m:=
 k.kept (Kept.of_le hle) (k.map.ext hle)
theorem KR{r:Nat}{vb:Value}{f:ak}{m:MW}{l:List Int}{p:Int}{h:Heap}(k:Lk h Kb r vb f m)(hl:SlRd (skip r h) vl l):
  jG VI 209 #[ptz Kb,vl,Vz VA b,Vz VA p] h (λ_ h'=>∃m',allS f.params l b p m = .ok m'/\Lk h' Kb r vb f m'/\Kept h h' (VC r))
   (λch h'=>∃t,allS f.params l b p m = .error t/\ch=trV t/\Kept h h' (VC r)):=by
 refine jk (args:=[ptz Kb,vl,Vz VA b,Vz VA p]) follows Tryz.func209 E.bT Vu λK Kp hK hKp=>?_;have hlb:=hl.bound;simp[L.bT,hl.len];refine aF [0,1,2,3,12,13,14] (fun(_:Unit) i=>[ptz Kb,vl,Vz VA b,Vz VA p,vl,Vz VA l.length,Vz VA i]) (λ_ i h1=>h1=h/\∀j,j<i->cr (nth l j) f.params 8191=VG) l.length ()
  rfl V4 rfl ⟨rfl,λj hj=>by omega⟩ (λ_ _=>rfl) (λv i h1 hk m=>by simp) ?_ ?_
 ·rintro _ i _ hlt ⟨rfl,hpre⟩ K2 hK2;simp(disch:=omega)[hl.idx1 rfl,hl.int dm];refine dZ V0 (NP (ae dm k.c0)) ?_ ?_
  ·rintro _ _ ⟨e,rfl⟩;refine hK2 () _ _ rfl rfl ⟨rfl,λj hj=>?_⟩;rcases Sb j i with h | h
   ·exact hpre j h
   have:j=i:=by omega
   subst this;exact e
  rintro _ _ ⟨e,rfl,rfl⟩;refine⟨.inl rfl,hKp _ _ ⟨_,?_,rfl,Kept.refl _ _⟩⟩;rw[allS,if_neg];intro ha;rw[SR.1 ha _ (bh hlt)]at e;cases e
 rintro _ h ⟨rfl,hpre⟩;have hall:allS f.params l b p m=l.foldlM (tZ b p) m:=by rw[allS,if_pos];rw[SR];intro x hx;obtain⟨j,hj,rfl⟩:=Sy hx;rw[<-az hj];exact hpre j hj
 rw[hall]at hK hKp;simp[hl.len];refine aF [0,2,3,24,25,26] (fun(_:Unit) i=>[ptz Kb,Vz VA b,Vz VA p,vl,Vz VA l.length,Vz VA i]) (λ_ i h1=>∃m',(l.take i).foldlM (tZ b p) m = .ok m'/\Lk h1 Kb r vb f m'/\Kept h h1 (VC r)) l.length ()
  rfl V4 rfl ⟨m,rfl,k,Kept.refl _ _⟩ (λ_ _=>rfl) (λv i h1 hk m=>by simp) ?_ ?_
 ·rintro _ i h1 hlt ⟨m1,hm1,k1,kp1⟩ K2 hK2;have hl1:=hl.mono kp1.GU;have hst:=FR hlt hm1;simp(disch:=omega)[hl1.idx1 rfl,hl1.int Vw];refine dZ V0 (MX k1.c2 k1.map) ?_ ?_
  ·rintro _ h2 ⟨e,hm2,kp2⟩;refine hK2 () _ _ rfl rfl ⟨_,by rw[hst,tZ,e];rfl,k1.kept kp2 hm2,kp1.trans kp2⟩
  rintro _ h2 ⟨e,rfl,kp2⟩;refine⟨.inl rfl,hKp _ _ ⟨_,Jf (k:=i+1) (by rw[hst,tZ,if_pos (Option.isSome_iff_ne_none.2 e)]),rfl,kp1.trans kp2⟩⟩
 rintro _ h1 ⟨m1,hm1,k1,kp1⟩;rw[SF]at hm1;simp;exact hK _ _ ⟨m1,hm1,k1,kp1⟩
abbrev Sh:=Int × Int × Int × Int
def encS(s:Sh):Value:=.agg #[Vz VA s.1,Vz VA s.2.1,Vz VA s.2.2.1,Vz VA s.2.2.2]
def gQ:Int->Option Sh:=putM (putM (putM (putM (putM (λ_=>VD) 1 (0,0,1,1)) 2 (1,1,2,2)) 3 (1,1,2,65)) 4 (0,1,0,0)) 5 (0,0,0,0)
theorem sN{po:OP}{ty:TypeId}{us:List (Nat × Value)}{h:Heap}{K:Value->Heap->Prop}{a c d:Int}(hk:K (encS (a,b,c,d)) h):
  Lft.step VI (.build T.dS #[(0,.const (Vz VA a)),(1,.const (Vz VA b)),(2,.const (Vz VA c)),(3,.const (Vz VA d))]) ty us h K:=
 aA (z:=zz2) (places:=zpe) (vs:=[(0,Vz VA a),(1,Vz VA b),(2,Vz VA c),(3,Vz VA d)]) (cs:=#[Vz VA a,Vz VA b,Vz VA c,Vz VA d]) V0 V0 (by simp only[List.map_toArray,S8,List.map_nil,AZ]) V7 hk
theorem mW{po:OP}{ty:TypeId}{us:List (Nat × Value)}{h:Heap}{K:Value->Heap->Prop}{x y:Operand}{r:Nat}{f:Int->Option Sh}{j:Int}{s:Sh}(hx:asg us x = .map (VC r))(hy:asg us y=encS s)(m:dh (.int .i64) h r (mapE encS f))(hk : ∀h':Heap,Kept h h' (VC r)->dh (.int .i64) h' r (mapE encS (putM f j s))->K undef h'):Lft.step VI (.insert T.ey x (.const (Vz VA j)) y) ty us h K:=
 kS (v:=encS s) (.inr rfl) U.ey U.int hx rfl hy cM m _ gX.1 gX.2 λh' hs ho hm=>hk h' (Kept.upd hs ho) hm
theorem B0{h:Heap}:ay VI 211 #[] h (λv h'=>v = .map (VC h.size)/\(vw h).le (vw h')/\dh (.int .i64) h' h.size (mapE encS gQ)):=by
 refine ao (args:=[]) follows Tryz.func211 E.nE Vu λK hK=>?_;simp[L.nE];refine lU ?_;have m0:dh (.int .i64) (h.push (.map #[] 0)) h.size (mapE encS λ_=>VD):=by rw[mj];exact dh.none V5
 have hle:=b8 h (.map #[] 0);generalize h.push (.map #[] 0)=h0 at m0 hle;refine sN (mW (s:=(0,0,1,1)) rfl rfl m0 λh1 k1 m1=>?_);refine sN (mW (s:=(1,1,2,2)) rfl rfl m1 λh2 k2 m2=>?_);refine sN (mW (s:=(1,1,2,65)) rfl rfl m2 λh3 k3 m3=>?_);refine sN (mW (s:=(0,1,0,0)) rfl rfl m3 λh4 k4 m4=>?_);refine sN (mW (s:=(0,0,0,0)) rfl rfl m4 λh5 k5 m5=>?_);refine hK _ _ ⟨rfl,λb o hb=>?_,m5⟩;have hlt:=View.lt (View.le_refl (vw h)) hb;have kk:=(((k1.trans k2).trans k3).trans k4).trans k5;show h5[b]? = _;rw[kk.block b (S2 hlt (bL hle)) Vt];exact hle b o hb
def sM(t:db):Bool:=match gQ t.kind with
 | some s=>cr t.args.length s.1 s.2.1&&cr t.to.length s.2.2.1 s.2.2.2
 | none=>VH
def insS(ps b:Int)(x:BlkD)(i:Nat)(m:MW):Except Tr MW:=
 if cr (nth x.ins i).op 1 18&&cr (nth x.ins i).args.length (gT (nth x.ins i).op).1 (gT (nth x.ins i).op).2 then allS ps (bz (nth x.ins i)) b i m else .error (10,b,i)
def phiS(ps b:Int)(x:BlkD)(i:Nat)(m:MW):Except Tr MW:=allS ps [(nth x.phis i).dst] b (-1-i) m
def endS(n b:Int)(x:BlkD)(m:MW):Except Tr MW:=
 if sM x.term then(if x.term.to.all (λt=>cr t 1 (n-1)) then .ok m else .error (14,b,x.ins.length)) else .error (10,b,x.ins.length)
def blkS(f:ak)(b:Nat)(m:MW):Except Tr MW:=
 match upE (phiS f.params b (nth f.blocks b)) (nth f.blocks b).phis.length m with
 | .error t=>.error t
 | .ok m1=>match upE (insS f.params b (nth f.blocks b)) (nth f.blocks b).ins.length m1 with
  | .error t=>.error t
  | .ok m2=>endS f.blocks.length b (nth f.blocks b) m2
def nT(f:ak)(m:MW):Except Tr MW:=upE (blkS f) f.blocks.length m
theorem LU{r:Nat}{vb:Value}{f:ak}{m:MW}{h:Heap}(k:Lk h Kb r vb f m):
  jG VI 155 #[ptz Kb] h (λ_ h'=>∃m',nT f m = .ok m'/\Lk h' Kb r vb f m'/\Kept h h' (VC r))
   (λch h'=>∃t,nT f m = .error t/\ch=trV t/\Kept h h' (VC r)):=by
 refine jk (args:=[ptz Kb]) follows Tryz.func155 E.aE Vu λK Kp hK hKp=>?_;have hbb:=k.rb.bound;simp[L.aE,ae dm k.c1,k.rb.len];refine aF [0,18,19,20] (fun(_:Unit) b=>[ptz Kb,vb,Vz VA f.blocks.length,Vz VA b]) (λ_ b h1=>∃m',upE (blkS f) b m = .ok m'/\Lk h1 Kb r vb f m'/\Kept h h1 (VC r)) f.blocks.length ()
  rfl V4 rfl ⟨m,rfl,k,Kept.refl _ _⟩ (λ_ _=>rfl) (λv i h1 hk m=>by simp) ?_ ?_
 ·rintro _ b h1 hltb ⟨m1,hm1,k1,kp1⟩ K2 hK2;have hst:=qn hm1;have her : ∀{t},blkS f b m1 = .error t->nT f m = .error t:=λe=>CF hm1 hltb e;obtain⟨u,hu,hur⟩:=k1.rb.wh rfl (N:=6) rfl hltb;rw[blkS]at hst her;have hr1:=k1.map.lt;generalize hx:nth f.blocks b=x at hst her hur;refine aa λz hz=>?_;simp(disch:=omega)[k1.rb.idxn (N:=6) rfl,hu _ dm];refine cW (z:=zz3) V0 rfl V0 hur V8 V8 λh2 hle2 hsz2 hat=>?_;have k2:=k1.ext hle2;have kp2:=kp1.trans (Kept.of_le hle2);have hat2:=hat (skip r h2) (Kept.of_le hle2).skip (n8 V4);obtain⟨vp,vi,va,vt,bp,bi,bk,ba,bt⟩:=mD hat2;generalize h1.size=B at bp bi bk ba bt;subst hz;refine aa λz hz=>?_;simp[ae dm bp.1,bp.2.len];have bph:=bp.2.bound;have bin:=bi.2.bound;have bto:=bt.2.bound;refine aF [0,2,3,18,19,20,26,27,28] (fun(_:Unit) i=>[ptz Kb,Vz VA b,ptz B,vb,Vz VA f.blocks.length,Vz VA b,vp,Vz VA x.phis.length,Vz VA i])
   (λ_ i h3=>∃m',upE (phiS f.params b x) i m1 = .ok m'/\Lk h3 Kb r vb f m'/\Kept h2 h3 (VC r)) x.phis.length ()
   rfl V4 rfl ⟨m1,rfl,k2,Kept.refl _ _⟩ (λ_ _=>rfl) (λv i h1 hk m=>by simp) ?_ ?_
  ·rintro _ i h3 hlti ⟨m3,hm3,k3,kp3⟩ K3 hK3;have bp3:=bp.2.mono kp3.skip;obtain⟨u5,hu5,hur5⟩:=bp3.wh rfl (N:=2) rfl hlti;have hr3:=k3.map.lt;have hst3:=qn hm3;have her3 : ∀{t},phiS f.params b x i m3 = .error t->upE (phiS f.params b x) x.phis.length m1 = .error t:=λe=>CF hm3 hlti e;rw[phiS]at hst3 her3;refine aa λy hy=>?_;simp(disch:=omega)[bp3.idxn (N:=2) rfl,hu5 _ dm];refine cW (z:=zz4) V0 rfl V0 hur5 V8 V8 λh4 hle4 hsz4 hat4=>?_;have hat4':=hat4 (skip r h4) (Kept.of_le hle4).skip (n8 V4);obtain⟨c0,_⟩:=yP hat4';have rd:=(hat4'.part PhiD.iG).rng;generalize nth x.phis i=q at c0 rd hst3 her3;generalize h3.size=B3 at c0;subst hy;simp[ae dm c0];refine nJ (X:=nothing) (ds:=[q.dst]) (vs:=[Vz VA q.dst]) rfl El.aZ V5 ⟨bu.2 ⟨rfl,rd⟩,trivial⟩ cB rfl V4 λu6 h5 hle5 hsz5 hu6 _=>?_;have k5:=(k3.ext hle4).ext hle5;have kp5:=(kp3.trans (Kept.of_le hle4)).trans (Kept.of_le hle5);have hr5:=k5.map.lt;simp(disch:=omega);refine dZ V0 (KR k5 (hu6 _ cB (n8 V4))) ?_ ?_
   ·rintro _ h6 ⟨m6,hm6,k6,kp6⟩;exact hK3 () _ _ rfl rfl ⟨m6,by rw[hst3,hm6],k6,kp5.trans kp6⟩
   rintro _ h6 ⟨t,ht,rfl,kp6⟩;exact⟨.inl rfl,hKp _ _ ⟨t,her (by rw[her3 ht]),rfl,(kp2.trans kp5).trans kp6⟩⟩
  rintro _ h3 ⟨m3,hm3,k3,kp3⟩;simp only[hm3]at hst her;simp;subst hz;refine aa λz hz=>?_;have bi3:=bi.2.mono kp3.skip;have ci3:=ae kp3.GU bi.1;have kp03:=kp2.trans kp3;simp[ci3,bi3.len];refine aF [0,2,3,18,19,20,43,44,45] (fun(_:Unit) i=>[ptz Kb,Vz VA b,ptz B,vb,Vz VA f.blocks.length,Vz VA b,vi,Vz VA x.ins.length,Vz VA i])
   (λ_ i h4=>∃m',upE (insS f.params b x) i m3 = .ok m'/\Lk h4 Kb r vb f m'/\Kept h3 h4 (VC r)) x.ins.length ()
   rfl V4 rfl ⟨m3,rfl,k3,Kept.refl _ _⟩ (λ_ _=>rfl) (λv i h1 hk m=>by simp) ?_ ?_
  ·rintro _ i h4 hlti ⟨m4,hm4,k4,kp4⟩ K3 hK3;have bi4:=bi3.mono kp4.skip;obtain⟨u5,hu5,hur5⟩:=bi4.wh rfl (N:=5) rfl hlti;have hr4:=k4.map.lt;have hst4:=qn hm4;have her4 : ∀{t},insS f.params b x i m4 = .error t->upE (insS f.params b x) x.ins.length m3 = .error t:=λe=>CF hm4 hlti e;rw[insS]at hst4 her4;refine aa λy hy=>?_;simp(disch:=omega)[bi4.idxn (N:=5) rfl,hu5 _ dm];refine cW (z:=zz5) V0 rfl V0 hur5 V8 V8 λh5 hle5 hsz5 hat5=>?_;have hat5':=hat5 (skip r h5) (Kept.of_le hle5).skip (n8 V4);obtain⟨c0,c1,c2,va5,ca5⟩:=nC hat5';have k5:=k4.ext hle5;have kp5:=kp4.trans (Kept.of_le hle5);have whole : ∃w,Un.ev (vw h5) (.bI 5) (ptz h4.size)=VC w/\Rd (vw h5) w (nth x.ins i):=by obtain⟨w,w1,w2⟩:=(hat5'.mono dm).bI rfl;exact⟨w,w1,w2⟩
   obtain⟨w,w1,w2⟩:=whole;generalize nth x.ins i=q at c0 c1 c2 ca5 hst4 her4 w2;generalize h4.size=B4 at c0 c1 c2 ca5 w1;subst hy;refine aa λy hy=>?_;simp[ae dm c0];refine ah V0 kL ?_;rintro _ _ ⟨rfl,rfl⟩;refine dZ V0 iU ?_ ?_;rotate_left
   ·rintro _ _ ⟨e,rfl,rfl⟩;exact⟨.inl rfl,hKp _ _ ⟨_,her (by rw[her4 (by rw[if_neg (by simp[e])])]),rfl,kp03.trans kp5⟩⟩
   rintro _ _ ⟨e1,rfl⟩;subst hy;refine aa λy hy=>?_;simp[ae dm c0];refine ah V0 ES ?_;rintro _ _ ⟨rfl,rfl⟩;simp;subst hy;refine aa λy hy=>?_;simp[ae dm ca5.1,ca5.2.len];refine ah V0 kL ?_;rintro _ _ ⟨rfl,rfl⟩;refine dZ V0 iU ?_ ?_;rotate_left
   ·rintro _ _ ⟨e,rfl,rfl⟩;exact⟨.inl rfl,hKp _ _ ⟨_,her (by rw[her4 (by rw[if_neg (by simp[e])])]),rfl,kp03.trans kp5⟩⟩
   rintro _ _ ⟨e2,rfl⟩;subst hy;simp[w1];refine ah V0 (EM w2) ?_;rintro u6 h6 ⟨hle6,hu6⟩;have k6:=k5.ext hle6;have kp6:=kp5.trans (Kept.of_le hle6);rw[if_pos (by simp[e1,e2])]at hst4 her4;have hr5:=k5.map.lt;refine dZ V0 (KR k6 (hu6.mono λb o hb=>?_)) ?_ ?_
   ·unfold fresh at hb;unfold Lft.skip;split at hb
    ·cases hb
    rw[if_neg V4];exact hb
   ·rintro _ h7 ⟨m7,hm7,k7,kp7⟩;exact hK3 () _ _ rfl rfl ⟨m7,by rw[hst4,hm7],k7,kp6.trans kp7⟩
   rintro _ h7 ⟨t,ht,rfl,kp7⟩;exact⟨.inl rfl,hKp _ _ ⟨t,her (by rw[her4 ht]),rfl,(kp03.trans kp6).trans kp7⟩⟩
  rintro _ h4 ⟨m4,hm4,k4,kp4⟩;simp only[hm4]at hst her;simp;subst hz;refine aa λz hz=>?_;have kp24:=kp3.trans kp4;have hr4:=k4.map.lt;have ck4:=ae kp24.skip bk;have hc : ∀{h5:Heap},Kept h4 h5 (VC r)->(skip r h4).le (vw h5):=λhk=>hk.GU;have cellsS : ∀o:Option Sh,((o.map encS).getD (.agg #[Vz VA 0,Vz VA 0,Vz VA 0,Vz VA 0]))=encS (o.getD (0,0,0,0)):=λo=>by cases o<;>rfl
  have hone : ∀s:Sh,∀c∈(encS s).cells.toList,c.oneCell'=true:=λs=>by simp[encS,Value.oneCell']
  refine gP (λρ h5=>∃(B5:Nat) (v79 v83:Value) (tl:Env),ρ=[(0,ptz Kb),(2,Vz VA b),(3,ptz B),(10,ptz B5),(11,.bool (gQ x.term.kind).isSome),(18,vb),(19,Vz VA f.blocks.length),(20,Vz VA b),(43,vi),
    (44,Vz VA x.ins.length),(45,Vz VA x.ins.length),(79,v79),(82,Vz VA x.term.kind),(83,v83)]++tl/\Lk h5 Kb r vb f m4/\Kept h4 h5 (VC r)/\B5≠r/\h5[B5]? = VC (.cells (encS ((gQ x.term.kind).getD (0,0,0,0))).cells T.dS (0,0))) ?_ ?_
  ·intro K3 hK3;refine aN (skip r h4) dm ?_;simp[ck4];refine⟨?_,?_⟩
   ·refine ah V0 B0 ?_;rintro _ h5 ⟨rfl,hle5,hm5⟩;have hs5:=bL hle5;refine⟨hc (Kept.of_le hle5),?_,?_⟩
    ·refine eo (z:=zz2) U.ey U.int V0 (by simp<;>rfl) (by simp<;>rfl) cM hm5 ?_;rw[og,cellsS,U9];simp;refine gA (n:=4) (v:=encS ((gQ x.term.kind).getD (0,0,0,0))) (z:=zz2) V0 rfl V0 rfl (hone _) V8 V8 λh6 hle6 hsz6 hb6=>?_;exact hK3 _ _ ⟨_,_,_,_,rfl,(k4.ext hle5).ext hle6,(Kept.of_le hle5).trans (Kept.of_le hle6),by omega,hb6⟩
    refine dQ (z:=zz2) V0 ?_;have hle6:=b8 h5 (.cells (Value.cells (.agg #[Vz VA 0,Vz VA 0,Vz VA 0,Vz VA 0])) T.dS);have hb6:(h5.push (.cells (Value.cells (.agg #[Vz VA 0,Vz VA 0,Vz VA 0,Vz VA 0])) T.dS))[h5.size]? = VC (.cells (Value.cells (.agg #[Vz VA 0,Vz VA 0,Vz VA 0,Vz VA 0])) T.dS (0,0)):=by simp
    have hs6:(h5.push (.cells (Value.cells (.agg #[Vz VA 0,Vz VA 0,Vz VA 0,Vz VA 0])) T.dS)).size=h5.size+1:=by simp
    generalize h5.push (.cells (Value.cells (.agg #[Vz VA 0,Vz VA 0,Vz VA 0,Vz VA 0])) T.dS)=h6 at hle6 hb6 hs6;refine⟨hc ((Kept.of_le hle5).trans (Kept.of_le hle6)),?_⟩;refine eo (z:=zz2) U.ey U.int V0 (by simp<;>rfl) (by simp<;>rfl) cM (hm5.ext hle6) ?_;rw[og,cellsS,U9];simp;refine eJ (g:=h5.size) (o:=0) (n:=4) (v:=encS ((gQ x.term.kind).getD (0,0,0,0))) V0 rfl rfl rfl (hone _) hb6 V5 λh7 hs7 ⟨row,hb7,hrow⟩ ho7=>?_;have hrow2:row=(encS ((gQ x.term.kind).getD (0,0,0,0))).cells:=by rw[<-Array.toList_inj,hrow];simp
    rw[hrow2]at hb7;have kp7:Kept h4 h7 (VC r):=⟨by omega,λq hq hne=>by rw[ho7 q V4];exact hle6 _ _ (hle5 _ _ (Sv hq)) |>.trans (Sv hq).symm⟩;exact hK3 _ _ ⟨_,_,_,_,rfl,k4.kept kp7 (((k4.map.ext hle5).ext hle6).same (ho7 r V4)),kp7,by omega,hb7⟩
   refine dQ (z:=zz2) V0 ?_;have hle5:=b8 h4 (.cells (Value.cells (.agg #[Vz VA 0,Vz VA 0,Vz VA 0,Vz VA 0])) T.dS);have hb5:(h4.push (.cells (Value.cells (.agg #[Vz VA 0,Vz VA 0,Vz VA 0,Vz VA 0])) T.dS))[h4.size]? = VC (.cells (Value.cells (.agg #[Vz VA 0,Vz VA 0,Vz VA 0,Vz VA 0])) T.dS (0,0)):=by simp
   have hs5:(h4.push (.cells (Value.cells (.agg #[Vz VA 0,Vz VA 0,Vz VA 0,Vz VA 0])) T.dS)).size=h4.size+1:=by simp
   generalize h4.push (.cells (Value.cells (.agg #[Vz VA 0,Vz VA 0,Vz VA 0,Vz VA 0])) T.dS)=h5 at hle5 hb5 hs5;refine⟨hc (Kept.of_le hle5),?_⟩;refine ah V0 B0 ?_;rintro _ h6 ⟨rfl,hle6,hm6⟩;have hs6:=bL hle6;refine⟨hc ((Kept.of_le hle5).trans (Kept.of_le hle6)),?_⟩;refine eo (z:=zz2) U.ey U.int V0 (by simp<;>rfl) (by simp<;>rfl) cM hm6 ?_;rw[og,cellsS,U9];simp;refine eJ (g:=h4.size) (o:=0) (n:=4) (v:=encS ((gQ x.term.kind).getD (0,0,0,0))) V0 rfl rfl rfl (hone _) (hle6 _ _ hb5) V5 λh7 hs7 ⟨row,hb7,hrow⟩ ho7=>?_;have hrow2:row=(encS ((gQ x.term.kind).getD (0,0,0,0))).cells:=by rw[<-Array.toList_inj,hrow];simp
   rw[hrow2]at hb7;have kp7:Kept h4 h7 (VC r):=⟨by omega,λq hq hne=>by rw[ho7 q V4];exact hle6 _ _ (hle5 _ _ (Sv hq)) |>.trans (Sv hq).symm⟩;exact hK3 _ _ ⟨_,_,_,_,rfl,k4.kept kp7 (((k4.map.ext hle5).ext hle6).same (ho7 r V4)),kp7,by omega,hb7⟩
  rintro ρ h5 ⟨B5,v79,v83,tl,rfl,k5,kp5,hB5,hb5⟩;subst hz;refine aa λz hz=>?_;have kp25:=kp24.trans kp5;have ci5:=ae kp25.skip bi.1;have bi5:=bi.2.mono kp25.skip;have ca5:=ae kp25.skip ba.1;have ba5:=ba.2.mono kp25.skip;have ct5:=ae kp25.skip bt.1;have bt5:=bt.2.mono kp25.skip;have hb5':skip r h5 B5=VC (.cells (encS ((gQ x.term.kind).getD (0,0,0,0))).cells T.dS (0,0)):=by rw[n8 hB5];exact hb5
  generalize hsh:(gQ x.term.kind).getD (0,0,0,0)=s at hb5';have d0:aq (skip r h5) ⟨B5,0,VD⟩=VC (Vz VA s.1):=df hb5' rfl;have d1:aq (skip r h5) ⟨B5,1,VD⟩=VC (Vz VA s.2.1):=df hb5' rfl;have d2:aq (skip r h5) ⟨B5,2,VD⟩=VC (Vz VA s.2.2.1):=df hb5' rfl;have d3:aq (skip r h5) ⟨B5,3,VD⟩=VC (Vz VA s.2.2.2):=df hb5' rfl;have hto:sM x.term=((gQ x.term.kind).isSome&&(cr x.term.args.length s.1 s.2.1&&cr x.term.to.length s.2.2.1 s.2.2.2)):=by rw[sM,<-hsh];cases gQ x.term.kind<;>rfl
  refine aN (skip r h5) dm ?_;have bad:sM x.term=VH->∀ch,ch=trV (10,(b:Int),(x.ins.length:Int))->Kp ch h5:=λe ch hch=>hKp _ _ ⟨_,her (by rw[endS,if_neg (by simp[e])]),hch,kp03.trans (kp4.trans kp5)⟩;have good:sM x.term=VG->∀tl:Env,@LC.wp (ppOf Kp) VI z (eY 1 (fL K2 (eY 0 (@dR [] K)))) ([(0,ptz Kb),(2,Vz VA b),(3,ptz B),(10,ptz B5),(11,.bool VG),(18,vb),(19,Vz VA f.blocks.length),(20,Vz VA b),(43,vi),
   (44,Vz VA x.ins.length),(45,Vz VA x.ins.length),(79,v79),(82,Vz VA x.term.kind),(83,v83)]++tl) h5:=by
   intro hgood tl;subst hz;have ct5':=ae dm ct5;have cb5:=k5.c1;have hne:0<f.blocks.length:=by omega
   simp[ct5',bt5.len];refine aF [0,2,3,18,19,20,116,117,118] (fun(_:Unit) i=>[ptz Kb,Vz VA b,ptz B,vb,Vz VA f.blocks.length,Vz VA b,vt,Vz VA x.term.to.length,Vz VA i])
    (λ_ i h6=>h6=h5/\∀j,j<i->cr (nth x.term.to j) 1 (f.blocks.length-1)=VG) x.term.to.length ()
    rfl V4 (by simp[aY,af,ag]) ⟨rfl,λj hj=>by omega⟩ (λ_ _=>rfl) (λv i h1 hk m=>by simp) ?_ ?_
   ·rintro _ i h5 hlti ⟨rfl,hpre⟩ K3 hK3;refine aa λy hy=>?_;simp(disch:=omega)[bt5.idx1 rfl,bt5.int dm];subst hy;refine aN (skip r h5) dm ?_;simp(disch:=omega)[ci5,bi5.len,cb5,k5.rb.len];refine ah V0 kL ?_;rintro _ _ ⟨rfl,rfl⟩;refine⟨dm,?_⟩;refine dZ V0 iU ?_ ?_
    ·rintro _ _ ⟨e,rfl⟩;refine hK3 () _ _ rfl rfl ⟨rfl,λj hj=>?_⟩;rcases Sb j i with h | h
     ·exact hpre j h
     have:j=i:=by omega
     subst this;exact e
    rintro ch _ ⟨e,hch,rfl⟩;refine⟨.inr λ_=>trivial,hKp _ _ ⟨_,her ?_,hch,kp03.trans (kp4.trans kp5)⟩⟩;rw[endS,if_pos hgood,if_neg];intro ha;rw[SR.1 ha _ (bh hlti)]at e;cases e
   rintro _ h5 ⟨rfl,hpre⟩;simp;refine hK2 () _ _ rfl rfl ⟨m4,?_,k5,kp03.trans (kp4.trans kp5)⟩;rw[hst,endS,if_pos hgood,if_pos];rw[SR];intro y hy;obtain⟨j,hj,rfl⟩:=Sy hy;rw[<-az hj];exact hpre j hj
  cases hso:(gQ x.term.kind).isSome with
  | false=>
   simp[ci5,bi5.len,d0,d1,d2,d3,ca5,ba5.len,ct5,bt5.len,af,ag];refine dZ V0 iU ?_ ?_
   ·rintro _ _ ⟨e,_⟩;cases e
   rintro ch _ ⟨_,hch,rfl⟩;exact⟨.inr λ_=>trivial,bad (by rw[hto,hso];rfl) _ hch⟩
  | true=>
   rw[hso,Ui]at hto;simp[ci5,bi5.len,d0,d1,d2,d3,ca5,ba5.len,ct5,bt5.len,af,ag];refine ah V0 kL ?_;rintro _ _ ⟨rfl,rfl⟩;refine⟨dm,?_⟩;cases hw1:cr x.term.args.length s.1 s.2.1 with
   | false=>
    simp[af,ag];refine dZ V0 iU ?_ ?_
    ·rintro _ _ ⟨e,_⟩;cases e
    rintro ch _ ⟨_,hch,rfl⟩;exact⟨.inr λ_=>trivial,bad (by rw[hto,hw1];rfl) _ hch⟩
   | true=>
    simp[af,ag];refine ah V0 kL ?_;rintro _ _ ⟨rfl,rfl⟩;refine⟨dm,?_⟩;refine dZ V0 iU ?_ ?_
    ·rintro _ _ ⟨e,rfl⟩;exact good (by rw[hto,hw1,e];rfl) _
    rintro ch _ ⟨e,hch,rfl⟩;exact⟨.inr λ_=>trivial,bad (by rw[hto,hw1,e];rfl) _ hch⟩
 rintro _ h1 ⟨m1,hm1,k1,kp1⟩;simp;exact hK _ _ ⟨m1,hm1,k1,kp1⟩
theorem tR : ∀{a b:List Int},a.Pairwise (· < ·)->b.Pairwise (· < ·)->(∀x,x∈a↔x∈b)->a=b
 | [],[],_,_,_=>rfl
 | [],y::b,_,_,h=>by have:=(h y).2 (Sg ..);cases this
 | x::a,[],_,_,h=>by have:=(h x).1 (Sg ..);cases this
 | x::a,y::b,ha,hb,h=>by
  obtain⟨a1,a2⟩:=U4.1 ha;obtain⟨b1,b2⟩:=U4.1 hb;have e:x=y:=by
   rcases Sp.1 ((h x).1 (Sg ..))with e | h1
   ·exact e
   rcases Sp.1 ((h y).2 (Sg ..))with e | h2
   ·exact e.symm
   have:=a1 y h2;have:=b1 x h1;omega
  subst e;rw[tR a2 b2 λz=>?_];constructor
  ·intro hz;rcases Sp.1 ((h z).1 (Sa _ hz))with e | h1
   ·have:=a1 z hz;omega
   exact h1
  intro hz;rcases Sp.1 ((h z).2 (Sa _ hz))with e | h1
  ·have:=b1 z hz;omega
  exact h1
theorem CJ(l:List Int):(rW l).Pairwise (·<=·):=by have:=List.pairwise_mergeSort (le:=λx y:Int=>decide (x<=y)) (λa b c h1 h2=>by simp at *;omega) (λa b=>by simp;omega) l;exact this.imp λh=>by simpa using h
theorem get!_nth{l:List Int}{i:Nat}:l.toArray[i]! = nth l i:=by simp[nth,TX]
theorem zE{l:List Int}(hs:l.Pairwise (·<=·)){i j:Nat}(hij:i<=j)(hj:j<l.length):nth l i<=nth l j:=by
 rw[az V4,az hj];rcases Sb i j with h | h
 ·exact List.pairwise_iff_getElem.1 hs i j V4 hj h
 have:i=j:=by omega
 subst this;exact Tf _
theorem yV{l:List Int}(hs:l.Pairwise (·<=·)):(Lib.compact l).Pairwise (· < ·):=by unfold Lib.compact Lib.compactUpTo;rw[List.pairwise_map,List.pairwise_filter];refine(List.pairwise_lt_range (n:=l.length)).imp_of_mem fun{i j} hi hj hij ki kj=>?_;simp only[TA]at hi hj;simp only[Lib.keeps,get!_nth,decide_eq_true_eq]at kj;rw[get!_nth,get!_nth];have h1:=zE hs (i:=i) (j:=j-1) V4 V4;have h2:=zE hs (i:=j-1) (j:=j) V4 hj;rcases kj with h | h<;>omega
theorem yy{l:List Int}{x:Int}:x∈Lib.compact l↔x∈l:=by
 refine⟨rQ,λhx=>?_⟩;obtain⟨j,hj,rfl⟩:=Sy hx;have key : ∀j,j<l.length->nth l j∈Lib.compact l:=by
  intro j;induction j with
  | zero=>intro h;unfold Lib.compact Lib.compactUpTo;refine SZ.2 ⟨0,TQ.2 ⟨by simpa using h,by simp[Lib.keeps]⟩,get!_nth⟩
  | succ j ih=>
   intro h;by_cases he:nth l (j+1)=nth l j
   ·rw[he];exact ih V4
   unfold Lib.compact Lib.compactUpTo;refine SZ.2 ⟨j+1,TQ.2 ⟨by simpa using h,by simp only[Lib.keeps,get!_nth,decide_eq_true_eq];exact .inr (by simpa using he)⟩,get!_nth⟩
 rw[<-az hj];exact key j hj
theorem sA{β:Type}{p:Nat->Bool}{x:Nat->β}{y:β}:y∈sift p x n↔∃i,i<n/\p i=VG/\x i=y:=by rw[tB];simp[and_assoc]
theorem CP{n:Int}:(nm row n).Pairwise (· < ·):=yV (CJ _)
theorem xf{n x:Int}:x∈nm row n↔x∈row/\0<=x/\x<n:=by
 rw[nm,yy,rW,U2,sA];simp only[rR,Se,decide_eq_true_eq];constructor
 ·rintro⟨i,hi,h,rfl⟩;exact⟨bh hi,h⟩
 rintro⟨h,h1⟩;obtain⟨i,hi,rfl⟩:=Sy h;exact⟨i,hi,by rw[az hi];exact h1,az hi⟩
theorem jx{g:Gr}{a:Int}:pZ g a b=VG↔(0<=a/\a<g.length/\0<=b/\b<g.length)/\b∈nth g a.toNat:=by simp[pZ]
theorem ER{p:Nat->Bool}:(sift p (λb=>(b:Int)) n).Pairwise (· < ·):=by rw[tB,List.pairwise_map,List.pairwise_filter];exact List.pairwise_lt_range.imp λh _ _=>by omega
theorem iR{g:Gr}{a:Int}:b∈nr g a↔pZ g a b=true:=by
 rw[nr,sA];constructor
 ·rintro⟨i,_,h,rfl⟩;exact h
 intro h;have:=(jx.1 h).1;exact⟨b.toNat,by omega,by rw[SB V4];exact h,SB V4⟩
theorem wu{g:Gr}{a:Int}:(nr g a).Pairwise (· < ·):=ER
theorem zA{g:Gr}{a:Nat}(ha:a<g.length):nth (dJ g) a=nr g a:=by rw[dJ,gF ha];refine tR CP wu λx=>?_;rw[xf,iR,jx,Sn];exact⟨λ⟨h1,h2,h3⟩=>⟨⟨by omega,by omega,h2,h3⟩,h1⟩,λ⟨⟨_,_,h2,h3⟩,h1⟩=>⟨h1,h2,h3⟩⟩
theorem D1{f k:Nat->List Int}(h : ∀a,a<n->f a=k a):lR f n=lR k n:=by
 induction n with
 | zero=>rfl
 | succ n ih=>rw[kG,kG,ih λa ha=>h a V4,h n V4]
theorem HX{g:Gr}:jP g=lR (λa=>nr g a) g.length:=D1 λa ha=>zA ha
theorem K1{l:List (Int × Int)}: ∀{p:Gr} {i:Nat},i<p.length->nth (l.foldl fP p) i=nth p i++(l.filter λe=>decide (e.2.toNat=i)).map Prod.fst:=by
 induction l with
 | nil=>intro p i _;simp
 | cons e l ih=>
  intro p i hi;rw[Sx,ih (by simpa[fP]using hi),fP,bs hi,UP];split
  ·rename_i h;simp[h]
  rename_i h;simp[h]
theorem filter_one{l:List Int}(hs:l.Pairwise (· < ·)):l.filter (λx=>decide (x=b))=if b∈l then[b] else[]:=by
 induction l with
 | nil=>simp
 | cons x l ih=>
  obtain⟨h1,h2⟩:=U4.1 hs;rw[UP,ih h2];by_cases hx:x=b
  ·subst hx;have:¬x∈l:=λh=>by have:=h1 x h;omega
   simp[this]
  simp[hx,Ne.symm hx]
theorem JC{f:Nat->List Int}(hf : ∀a,(f a).Pairwise (· < ·))(hp : ∀a,∀x∈f a,0<=x){b:Nat}:((lR f n).filter λe=>decide (e.2.toNat=b)).map Prod.fst=sift (λa=>decide ((b:Int)∈f a)) (λa=>(a:Int)) n:=by
 induction n with
 | zero=>rfl
 | succ n ih=>
  rw[kG,TL,TP,ih];have e1:((f n).map λb=>((n:Int),b)).filter (λe=>decide (e.2.toNat=b))=((f n).filter λx=>decide (x=(b:Int))).map λb=>((n:Int),b):=by rw[List.filter_map];congr 1;refine UH λx hx=>?_;have:=hp n x hx;simp only[Function.comp,decide_eq_decide];omega
  rw[e1,filter_one (hf n)];by_cases h:(b:Int)∈f n
  ·rw[if_pos h,pJ (by simpa using h)];rfl
  rw[if_neg h,nX (by simpa using h)];simp
theorem sr{g:Gr}:(dN g).length=g.length:=by rw[dN,qH];simp
theorem Fa{g:Gr}:dN g=xE g:=by
 refine BG (by rw[sr,FD]) λb hb=>?_;rw[sr]at hb;rw[dN,K1 (by simpa using hb),aD hb,SV,xE,gF hb,HX,JC (λ_=>wu) (λa x hx=>by have:=(jx.1 (iR.1 hx)).1;omega)];have e:(λa:Nat=>decide ((b:Int)∈nr g a))=λa:Nat=>pZ g a b:=by funext a;rw[SI];simp[iR]
 rw[e]
theorem Il{g:Gr}{a:Int}(hb:0<=b/\b<g.length):a∈nth (dN g) b.toNat↔pZ g a b=true:=by
 rw[Fa,xE,gF V4,sA];constructor
 ·rintro⟨i,_,h,rfl⟩;rwa [SB hb.1]at h
 intro h;have:=(jx.1 h).1;exact⟨a.toNat,by omega,by rw[SB V4,SB V4];exact h,SB V4⟩
structure Le(x y:List Bool):Prop where
 len:y.length=x.length
 le : ∀i,nth x i=VG->nth y i=VG
theorem Le.refl(x:List Bool):Le x x:=⟨rfl,λ_ h=>h⟩
theorem Le.trans{x y z:List Bool}(h:Le x y)(k:Le y z):Le x z:=⟨k.len.trans h.len,λi e=>k.le i (h.le i e)⟩
theorem Le.antisymm{x y:List Bool}(h:Le x y)(k:Le y x):x=y:=by refine BG h.len.symm λi _=>?_;rw[SI];exact⟨h.le i,k.le i⟩
theorem Le.dI : ∀{x y:List Bool},Le x y->x=y\/dI y<dI x
 | [],y,h=>.inl (Ss h.len).symm
 | a::x,y,h=>by
  match y,h with
  | [],h=>have:=h.len;simp at this
  | b::y,h=>
   have h2:Le x y:=⟨by simpa using h.len,λi e=>by have:=h.le (i+1);simpa[nth]using this (by simpa[nth]using e)⟩;have h0:a=VG->b=true:=λe=>by have:=h.le 0;simpa[nth]using this (by simpa[nth]using e)
   unfold Go.Lft.dI;rcases h2.dI with rfl | h3
   ·cases a<;>cases b<;>simp at h0 ⊢
   unfold Go.Lft.dI at h3;cases a<;>cases b<;>simp at h0 ⊢<;>omega
theorem Pa{x:List Bool}{i:Nat}{b:Bool}(hb:nth x i=VG->b=VG):Le x (x.set i b):=by
 refine⟨by simp,λj hj=>?_⟩;rcases Sb j x.length with h | h
 ·rw[bs h];split
  ·rename_i e;subst e;exact hb hj
  exact hj
 rw[bK h]at hj;cases hj
theorem A4{f:Nat->List Bool->List Bool}(hf : ∀k x,Le x (f k x))(x:List Bool) : ∀n m,n<=m->Le (up f n x) (up f m x)
  | n,0,h=>by
                  obtain rfl:n=0:=by omega
                  exact Le.refl _
  | n,m+1,h=>by
    rcases Sb n (m+1)with h1 | h1
    · exact(A4 hf x n m V4).trans (hf m _)
    · obtain rfl:n=m+1:=by omega
      exact Le.refl _
theorem OQ{f:Nat->List Bool->List Bool}(hf : ∀k x,Le x (f k x)){x:List Bool}(h:up f n x=x): ∀k,k<n->f k x=x:=by
 have key : ∀k,k<=n->up f k x=x:=λk hk=>by have h1:=A4 hf x k n hk;rw[h]at h1;have h2:=A4 hf x 0 k (Tv _);exact(h2.antisymm h1).symm
 intro k hk;have h1:=key (k+1) V4;rw[up,key k V4]at h1;exact h1
theorem Fe{β:Type}{F:β->β} : ∀(n:Nat) (x:β),up (λ_=>F) (n+1) x=up (λ_=>F) n (F x)
 | 0,x=>rfl
 | n+1,x=>by show F (up (λ_=>F) (n+1) x)=F (up (λ_=>F) n (F x));rw[Fe n x]
theorem Ej{β:Type}{F:β->β}{x:β}(h:F x=x) : ∀n,up (λ_=>F) n x=x
 | 0=>rfl
 | n+1=>by show F (up (λ_=>F) n x)=x;rw[Ej h n,h]
theorem Lj{F:List Bool->List Bool}(hF : ∀x,Le x (F x)) : ∀(n:Nat) (x:List Bool),dI x<=n->F (up (λ_=>F) n x)=up (λ_=>F) n x
 | 0,x,h=>by
  rcases(hF x).dI with e | e
  ·exact e.symm
  omega
 | n+1,x,h=>by
  rw[Fe];rcases(hF x).dI with e | e
  ·rw[<-e,Ej e.symm];exact e.symm
  exact Lj hF n _ V4
inductive Re(g:Gr)(gone:Int):Nat->Prop
 | root:0<g.length->gone≠0->Re g gone 0
 | step {a b:Nat}:Re g gone a->pZ g a b=VG->(b:Int)≠gone->Re g gone b
theorem Re.lt{g:Gr}{gone:Int}{b:Nat}(h:Re g gone b):b<g.length:=by
 cases h with
 | root h _=>exact h
 | step _ h _=>have:=(jx.1 h).1;omega
variable{gone:Int}
theorem Re.ne{g:Gr}{b:Nat}(h:Re g gone b):(b:Int)≠gone:=by
 cases h with
 | root _ h=>exact λe=>h e.symm
 | step _ _ h=>exact h
theorem Re.all{g:Gr}{b:Nat}(h:Re g gone b):Re g (-1) b:=by
 induction h with
 | root h _=>exact .root h V6
 | step _ h _ ih=>exact .step ih h V4
theorem Az{l:List Int}{i:Nat}{x:List Bool}:Le x (yK gone l i x):=Pa λh=>by rw[h];rfl
theorem yf{g:Gr}{a:Nat}{x:List Bool}:Le x (outBlock g gone a x):=by
 unfold outBlock;split
 ·exact A4 (λk x=>Az) x 0 _ (Tv _)
 exact Le.refl _
theorem xU{g:Gr}{x:List Bool}:Le x (pL g gone x):=A4 (λk x=>yf) x 0 _ (Tv _)
theorem vN{β:Type}(I:β->Prop){f:Nat->β->β}(hf : ∀k x,k<n->I x->I (f k x)){x:β}(hx:I x):I (up f n x):=by
 have : ∀m,m<=n->I (up f m x):=by
  intro m;induction m with
  | zero=>exact λ_=>hx
  | succ m ih=>exact λh=>hf _ _ V4 (ih V4)
 exact this n (RX _)
theorem C4{g:Gr}{b:Nat}:nth (pT g gone) b=VG↔Re g gone b:=by
 by_cases h0:g.length=0\/gone=0
 ·rw[pT,if_pos h0];constructor
  ·intro h;rcases Sb b g.length with h1 | h1
   ·rw[aD h1]at h;cases h
   rw[bK (by simpa using h1)]at h;cases h
  intro h;exfalso;induction h with
  | root h1 h2=>rcases h0 with h0 | h0;omega;exact h2 h0
  | step _ _ _ ih=>exact ih
 rw[pT,if_neg h0];have hg:g.length≠0:=λe=>h0 (.inl e);have hgone:gone≠0:=λe=>h0 (.inr e);have hinit:((List.replicate g.length VH).set 0 VG).length=g.length:=by simp
 constructor
 ·have hI : ∀x:List Bool,(∀b,nth x b=VG->Re g gone b)->∀b,nth (pL g gone x) b=VG->Re g gone b:=by
   intro x hx;refine vN (λx:List Bool=>∀b,nth x b=VG->Re g gone b) (λa x ha hx=>?_) hx;unfold outBlock;split
   ·rename_i hxa;have hra:=hx a hxa;refine vN (λx:List Bool=>∀b,nth x b=VG->Re g gone b) (λi x hi hx=>?_) hx;intro b hb;have hm:=bh hi;have hed:=iR.1 hm;have hrng:=(jx.1 hed).1;unfold yK at hb;rcases Sb b x.length with h1 | h1
    ·rw[bs h1]at hb;split at hb
     ·rename_i e;rcases(S1 _ _).mp hb with h2 | h2
      ·rw[e]at h2;exact hx b h2
      have eb:(b:Int)=nth (nr g a) i:=by omega
      exact .step hra (by rw[eb];exact hed) (by rw[eb];simpa using h2)
     exact hx b hb
    rw[bK (by simpa using h1)]at hb;cases hb
   exact hx
  exact vN (λx:List Bool=>∀b,nth x b=VG->Re g gone b) (λ_ x _ hx=>hI x hx) (λb hb=>by
   rcases Sb b g.length with h1 | h1
   ·rw[bs (by simpa using h1)]at hb;split at hb
    ·rename_i e;subst e;exact .root V4 hgone
    rw[aD h1]at hb;cases hb
   rw[bK (by simpa using h1)]at hb;cases hb) b
 intro h;have hfix:=Lj (F:=pL g gone) (λx=>xU) g.length ((List.replicate g.length VH).set 0 VG) (by
  have:=BD (t:=List.replicate g.length VH) (i:=0);have h2:dI (List.replicate g.length VH)=g.length:=by simp[dI]
  omega);have hle:=A4 (f:=λ_=>pL g gone) (λ_ x=>xU) ((List.replicate g.length VH).set 0 VG) 0 g.length (Tv _);generalize up (λ_=>pL g gone) g.length ((List.replicate g.length VH).set 0 VG)=x at hfix hle;have hxl:x.length=g.length:=hle.len.trans hinit;induction h with
 | root h1 _=>exact hle.le 0 (by show nth ((List.replicate g.length VH).set 0 VG) 0=VG;rw[bs (by simpa using h1),if_pos rfl])
 | step ha he hb ih=>rename_i a b;have hrng:=(jx.1 he).1;have h1:=OQ (λk x=>yf) hfix a V4;rw[outBlock,if_pos ih]at h1;obtain⟨i,hi,e⟩:=Sy (iR.2 he);have h2:=OQ (λk x=>Az) h1 i hi;rw[<-az hi]at e;unfold yK at h2;rw[e]at h2;have h3:=congrArg (λl=>nth l b) h2;simp only[Sn]at h3;rw[bs V4,if_pos rfl]at h3;rw[<-h3];simp[hb]
theorem sQ{g:Gr}{a b:Nat}:domC g a b=VG↔Re g (-1) a/\Re g (-1) b/\¬Re g a b:=by
 rw[domC];simp only[Se,S1,Tm,decide_eq_true_eq,C4,T4,ne_eq];constructor
 ·rintro⟨⟨h1,h2⟩,h3⟩;refine⟨h1,h2,?_⟩;rcases h3 with h3 | h3
  ·exact λh=>h.ne h3.symm
  exact h3
 rintro⟨h1,h2,h3⟩;exact⟨⟨h1,h2⟩,.inr h3⟩
def Bef(l:List Int)(u v:Int):Prop:=∃p q,l=p++u::q/\v∈q
theorem Bef.app{l:List Int}{u v:Int}(h:Bef l u v)(t:List Int):Bef (l++t) u v:=by obtain⟨p,q,rfl,hv⟩:=h;exact⟨p,q++t,by simp,SK _ hv⟩
theorem Bef.pre{l:List Int}{u v:Int}(h:Bef l u v)(t:List Int):Bef (t++l) u v:=by obtain⟨p,q,rfl,hv⟩:=h;exact⟨t++p,q,by simp,hv⟩
theorem Bef.G7{l t:List Int}{u v:Int}(hu:u∈l)(hv:v∈t):Bef (l++t) u v:=by obtain⟨p,q,rfl⟩:=List.append_of_mem hu;exact⟨p,q++t,by simp,SQ _ hv⟩
theorem Bef.mem{l:List Int}{u v:Int}(h:Bef l u v):u∈l/\v∈l:=by obtain⟨p,q,rfl,hv⟩:=h;exact⟨by simp,by simp[hv]⟩
inductive Adv(nx:Int->List Int)(l:List Int)(u:Int):Int->Prop
 | self:Adv nx l u u
 | step {p q:Int}:Adv nx l u p->q∈nx p->Bef l q p->Adv nx l u q
theorem Adv.app{nx:Int->List Int}{l:List Int}{u v:Int}(h:Adv nx l u v)(t:List Int):Adv nx (l++t) u v:=by
 induction h with
 | self=>exact .self
 | step _ h1 h2 ih=>exact .step ih h1 (h2.app t)
theorem Adv.pre{nx:Int->List Int}{l:List Int}{u v:Int}(h:Adv nx l u v)(t:List Int):Adv nx (t++l) u v:=by
 induction h with
 | self=>exact .self
 | step _ h1 h2 ih=>exact .step ih h1 (h2.pre t)
theorem Adv.trans{nx:Int->List Int}{l:List Int}{u v w:Int}(h:Adv nx l u v)(k:Adv nx l v w):Adv nx l u w:=by
 induction k with
 | self=>exact h
 | step _ h1 h2 ih=>exact .step ih h1 h2
def vis(s:List Bool × List Int)(x:Int):Prop:=nth s.1 x.toNat=VG
structure Told(nx:Int->List Int)(m:Nat)(a:Int)(s s':List Bool × List Int)(new:List Int):Prop where
 out:s'.2=s.2++new
 len:s'.1.length=s.1.length
 nodup:new.Nodup
 visd : ∀x,0<=x->(vis s' x↔vis s x\/x∈new)
 fresh : ∀x∈new,¬vis s x/\0<=x/\x<m
 last : ∃t,new=t++[a]
 clos : ∀x∈new,∀y∈nx x,vis s' y
 par : ∀x∈new,x≠a->∃p∈new,x∈nx p/\Bef new x p
 desc : ∀x∈new,Adv nx new a x
 ret : ∀x∈new,∀y∈nx x,y∈new->Bef new y x\/Adv nx new y x
structure Half(nx:Int->List Int)(m:Nat)(a:Int)(k:Nat)(s s':List Bool × List Int)(new:List Int):Prop where
 out:s'.2=s.2++new
 len:s'.1.length=s.1.length
 nodup:new.Nodup
 visd : ∀x,0<=x->(vis s' x↔vis s x\/x=a\/x∈new)
 fresh : ∀x∈new,¬vis s x/\(0<=x/\x<m)/\x≠a
 clos : ∀x∈new,∀y∈nx x,vis s' y
 done : ∀j,j<k->vis s' (nth (nx a) j)
 par : ∀x∈new,x∈nx a\/∃p∈new,x∈nx p/\Bef new x p
 desc : ∀x∈new,∃b∈new,b∈nx a/\Adv nx new b x
 ret : ∀x∈new,∀y∈nx x,y∈new->Bef new y x\/Adv nx new y x
theorem Bz{nx:Int->List Int}{m:Nat}(hnx : ∀a:Int,0<=a->a<m->∀y∈nx a,0<=y/\y<m) : ∀(n:Nat) (a:Int) (s:List Bool × List Int),0<=a->a<m->s.1.length=m->nth s.1 a.toNat=VH->dI s.1<=n->
  ∃new,Told nx m a s (kU nx n a s) new
 | 0,a,s,h0,h1,hl,hf,hc=>by exfalso;have:=kC (t:=s.1) (i:=a.toNat) V4 hf;omega
 | n+1,a,s,h0,h1,hl,hf,hc=>by
  have hfs:=kC (t:=s.1) (i:=a.toNat) V4 hf;rw[ma];have half : ∀k,k<=(nx a).length->∃new,Half nx m a k s (up (dq nx n a) k (s.1.set a.toNat VG,s.2)) new/\dI (up (dq nx n a) k (s.1.set a.toNat VG,s.2)).1<=n:=by
   intro k;induction k with
   | zero=>
    intro _;refine⟨[],⟨by simp[up],by simp[up],by simp,λx hx=>?_,by simp,by simp,by simp,by simp,by simp,by simp⟩,by simp only[up];omega⟩;unfold vis;show nth (s.1.set a.toNat VG) x.toNat=VG↔_;rcases Sb x.toNat s.1.length with hlt | hge
    ·rw[bs hlt];split
     ·rename_i e;have:x=a:=by omega
      simp[this]
     rename_i e;have:x≠a:=λh=>e (by rw[h]);simp[this]
    rw[bK (by simpa using hge),bK hge];have:x≠a:=by omega
    simp[this]
   | succ k ih=>
    intro hk;obtain⟨new,H,hcn⟩:=ih V4;rw[up];generalize up (dq nx n a) k (s.1.set a.toNat VG,s.2)=z at H hcn;have hb:=hnx a h0 h1 (nth (nx a) k) (bh V4);have hbm:nth (nx a) k∈nx a:=bh V4;have hzl:z.1.length=m:=H.len.trans hl;rw[dq];split
    ·rename_i hv;refine⟨new,{ H with done:=λj hj=>?_ },hcn⟩;rcases Sb j k with h | h
     ·exact H.done j h
     obtain rfl:j=k:=by omega
     exact hv
    rename_i hv;obtain⟨new',T⟩:=Bz hnx n (nth (nx a) k) z hb.1 hb.2 hzl (by simpa using hv) hcn;have hkeep:=(rL (nx:=nx) (m:=m) (c:=n) n (nth (nx a) k) z ⟨hzl,hcn⟩).2;generalize kU nx n (nth (nx a) k) z=z' at T hkeep;obtain⟨t,ht⟩:=T.last;have hbn:nth (nx a) k∈new':=by rw[ht];simp
    have up : ∀y,0<=y->vis z y->vis z' y:=λy hy h=>(T.visd y hy).2 (.inl h);have hnv : ∀x∈new,vis z x:=λx hx=>(H.visd x (H.fresh x hx).2.1.1).2 (.inr (.inr hx));refine⟨new++new',⟨?_,?_,?_,?_,?_,?_,?_,?_,?_,?_⟩,hkeep⟩
    ·rw[T.out,H.out,Sk]
    ·rw[T.len,H.len]
    ·exact Ti.2 ⟨H.nodup,T.nodup,λx hx y hy e=>by subst e;exact(T.fresh x hy).1 (hnv x hx)⟩
    ·intro x hx;rw[T.visd x hx,H.visd x hx,R1];constructor
     ·rintro((h | h | h) | h)
      ·exact .inl h
      ·exact .inr (.inl h)
      ·exact .inr (.inr (.inl h))
      exact .inr (.inr (.inr h))
     rintro(h | h | h | h)
     ·exact .inl (.inl h)
     ·exact .inl (.inr (.inl h))
     ·exact .inl (.inr (.inr h))
     exact .inr h
    ·intro x hx;rcases R1.1 hx with hx | hx
     ·exact H.fresh x hx
     obtain⟨g1,g2⟩:=T.fresh x hx;refine⟨λh=>g1 ((H.visd x g2.1).2 (.inl h)),g2,λe=>g1 ((H.visd x g2.1).2 (.inr (.inl e)))⟩
    ·intro x hx y hy;rcases R1.1 hx with hx | hx
     ·have hxr:=(H.fresh x hx).2.1;exact up y (hnx x hxr.1 hxr.2 y hy).1 (H.clos x hx y hy)
     exact T.clos x hx y hy
    ·intro j hj;rcases Sb j k with h | h
     ·exact up _ (hnx a h0 h1 _ (bh V4)).1 (H.done j h)
     obtain rfl:j=k:=by omega
     exact(T.visd _ hb.1).2 (.inr hbn)
    ·intro x hx;rcases R1.1 hx with hx | hx
     ·rcases H.par x hx with h | ⟨p,hp,h2,h3⟩
      ·exact .inl h
      exact .inr ⟨p,SK _ hp,h2,h3.app _⟩
     by_cases e:x=nth (nx a) k
     ·exact .inl (e▸hbm)
     obtain⟨p,hp,h2,h3⟩:=T.par x hx e;exact .inr ⟨p,SQ _ hp,h2,h3.pre _⟩
    ·intro x hx;rcases R1.1 hx with hx | hx
     ·obtain⟨b,hb,h2,h3⟩:=H.desc x hx;exact⟨b,SK _ hb,h2,h3.app _⟩
     exact⟨_,SQ _ hbn,hbm,(T.desc x hx).pre _⟩
    intro x hx y hy hyn;rcases R1.1 hx with hx | hx<;>rcases R1.1 hyn with hyn | hyn
    ·exact(H.ret x hx y hy hyn).imp (·.app _) (·.app _)
    ·exact absurd (H.clos x hx y hy) (T.fresh y hyn).1
    ·exact .inl (Bef.G7 hyn hx)
    exact(T.ret x hx y hy hyn).imp (·.pre _) (·.pre _)
  obtain⟨new,H,hcn⟩:=half (nx a).length (RX _);generalize up (dq nx n a) (nx a).length (s.1.set a.toNat VG,s.2)=z at H hcn;have hda : ∀y∈nx a,vis z y:=by intro y hy;obtain⟨j,hj,rfl⟩:=Sy hy;have:=H.done j hj;rwa [az hj]at this
  have hadv : ∀x∈new,Adv nx (new++[a]) a x:=by intro x hx;obtain⟨b,hb,h2,h3⟩:=H.desc x hx;exact(Adv.step .self h2 (Bef.G7 hb V5)).trans (h3.app _)
  refine⟨new++[a],⟨?_,H.len,?_,?_,?_,⟨new,rfl⟩,?_,?_,?_,?_⟩⟩
  ·simp only[H.out,Sk]
  ·refine Ti.2 ⟨H.nodup,by simp,λx hx y hy e=>?_⟩;simp only[RY]at hy;exact(H.fresh x hx).2.2 (e.trans hy)
  ·intro x hx;show nth z.1 x.toNat=VG↔_;have:=H.visd x hx;unfold vis at this ⊢;rw[this];simp only[R1,RY];constructor
   ·rintro(h | h | h)
    ·exact .inl h
    ·exact .inr (.inr h)
    exact .inr (.inl h)
   rintro(h | h | h)
   ·exact .inl h
   ·exact .inr (.inr h)
   exact .inr (.inl h)
  ·intro x hx;rcases R1.1 hx with hx | hx
   ·exact⟨(H.fresh x hx).1,(H.fresh x hx).2.1⟩
   simp only[RY]at hx;subst hx;exact⟨by unfold vis;rw[hf];simp,h0,h1⟩
  ·intro x hx y hy;rcases R1.1 hx with hx | hx
   ·exact H.clos x hx y hy
   simp only[RY]at hx;subst hx;exact hda y hy
  ·intro x hx hne;rcases R1.1 hx with hx | hx
   ·rcases H.par x hx with h | ⟨p,hp,h2,h3⟩
    ·exact⟨a,by simp,h,Bef.G7 hx V5⟩
    exact⟨p,SK _ hp,h2,h3.app _⟩
   simp only[RY]at hx;exact absurd hx hne
  ·intro x hx;rcases R1.1 hx with hx | hx
   ·exact hadv x hx
   simp only[RY]at hx;subst hx;exact .self
  intro x hx y hy hyn;rcases R1.1 hyn with hn | hn
  ·rcases R1.1 hx with hx | hx
   ·exact(H.ret x hx y hy hn).imp (·.app _) (·.app _)
   simp only[RY]at hx;subst hx;exact .inl (Bef.G7 hn V5)
  simp only[RY]at hn;subst hn;rcases R1.1 hx with hx | hx
  ·exact .inr (hadv x hx)
  simp only[RY]at hx;subst hx;exact .inr .self
end Go.Lft
namespace Go.Lft.Chk
inductive Anc(o:Nat->Nat)(x:Nat):Nat->Prop
 | self:Anc o x x
 | up {b:Nat}:b≠0->Anc o x (o b)->Anc o x b
theorem vG{o:Nat->Nat}{x:Nat}:Anc o x 0↔x=0:=by
 constructor
 ·intro h;cases h with
  | self=>rfl
  | up h _=>exact absurd rfl h
 rintro rfl;exact .self
variable{b:Nat}
theorem qL{o:Nat->Nat}{x:Nat}(hb:b≠0):Anc o x b↔x=b\/Anc o x (o b):=by
 constructor
 ·intro h;cases h with
  | self=>exact .inl rfl
  | up _ h=>exact .inr h
 rintro(rfl | h)
 ·exact .self
 exact .up hb h
theorem Anc.trans{o:Nat->Nat}{x y:Nat}(h:Anc o x y)(k:Anc o y b):Anc o x b:=by
 induction k with
 | self=>exact h
 | up hb _ ih=>exact .up hb ih
theorem Anc.total{o:Nat->Nat}{x y:Nat}(h:Anc o x b)(k:Anc o y b):Anc o x y\/Anc o y x:=by
 induction h with
 | self=>exact .inr k
 | up hb h ih=>
  cases k with
  | self=>exact .inl (.up hb h)
  | up _ k=>exact ih k
structure Ch(R:Nat->Prop)(r:Nat->Nat)(E:Nat->Nat->Prop)(f:Nat->Nat)(D:Nat->Nat->Prop):Prop where
 inj : ∀a b,R a->R b->r a=r b->a=b
 R0:R 0
 r0:r 0=0
 hf : ∀x,R x->x≠0->R (f x)/\E (f x) x/\r (f x)<r x
 d1 : ∀d b a,D d b->d≠b->E a b->R a->D d a
 d0 : ∀d,D d 0->d=0
def Ok(Pr:Nat->Prop)(x:Nat):Prop:=x=0\/Pr x
structure Inv(R:Nat->Prop)(r:Nat->Nat)(E:Nat->Nat->Prop)(f:Nat->Nat)(D:Nat->Nat->Prop)(k:Nat)(o:Nat->Nat)(Pr:Nat->Prop):Prop where
 pr : ∀b,Pr b->R b/\b≠0/\Ok Pr (o b)/\r (o b)<r b
 all : ∀b,R b->b≠0->r b<k->Pr b
 fok : ∀b,Pr b->Ok Pr (f b)
 K : ∀b,Pr b->∀x,(∀a,E a b->R a->Ok Pr a->Anc o x a)->Anc o x (o b)
 FP : ∀b,Pr b->∀y,Anc o y (o b)->k<=r y->Anc o y (f b)
 FP2 : ∀b,Pr b->r b<k->Anc o (o b) (f b)
 S : ∀b,Pr b->∀d,D d b->d≠b->Anc o d (o b)
section
variable{R:Nat->Prop}{r:Nat->Nat}{E:Nat->Nat->Prop}{f:Nat->Nat}{D:Nat->Nat->Prop}{k:Nat}{o:Nat->Nat}{Pr:Nat->Prop}
theorem Inv.okR(I:Inv R r E f D k o Pr)(C:Ch R r E f D){x:Nat}(h:Ok Pr x):R x:=by
 rcases h with rfl | h
 ·exact C.R0
 exact(I.pr x h).1
theorem Inv.anc(I:Inv R r E f D k o Pr){x:Nat}(h:Anc o x b):Ok Pr b->Ok Pr x/\(x=b\/r x<r b):=by
 induction h with
 | self=>exact λhb=>⟨hb,.inl rfl⟩
 | up hb _ ih=>
  intro hok;rcases hok with rfl | hp
  ·exact absurd rfl hb
  obtain⟨_,_,h3,h4⟩:=I.pr _ hp;obtain⟨h5,h6⟩:=ih h3;refine⟨h5,.inr ?_⟩;rcases h6 with rfl | h6
  ·exact h4
  omega
theorem Inv.dom(I:Inv R r E f D k o Pr)(C:Ch R r E f D){d:Nat}(hb:Ok Pr b)(h:D d b):Anc o d b:=by
 by_cases e:d=b
 ·subst e;exact .self
 rcases hb with rfl | hb
 ·exact absurd (C.d0 d h) e
 exact .up (I.pr b hb).2.1 (I.S b hb d h e)
def upd(o:Nat->Nat)(c q:Nat):Nat->Nat:=λb=>if b=c then q else o b
def add(Pr:Nat->Prop)(c:Nat):Nat->Prop:=λb=>b=c\/Pr b
theorem lz{c q x:Nat}(h:¬Anc o c b):Anc (upd o c q) x b↔Anc o x b:=by
 constructor
 ·intro k;induction k with
  | self=>exact .self
  | up hb k ih=>
   rename_i b;have hne:b≠c:=λe=>h (e▸.self);have e:upd o c q b=o b:=by unfold upd;rw[if_neg hne]
   rw[e]at ih k;exact .up hb (ih λhc=>h (.up hb hc))
 intro k;induction k with
 | self=>exact .self
 | up hb k ih=>
  rename_i b;have hne:b≠c:=λe=>h (e▸.self);have e:upd o c q b=o b:=by unfold upd;rw[if_neg hne]
  exact .up hb (by rw[e];exact ih λhc=>h (.up hb hc))
theorem Pb{c q x:Nat}(hc:c≠0)(hq:¬Anc o c q):Anc (upd o c q) x c↔x=c\/Anc o x q:=by rw[qL hc,show upd o c q c=q by simp[upd],lz hq]
theorem Inv.Ns(I:Inv R r E f D k o Pr){x y:Nat}(hx:Ok Pr x)(hy:Ok Pr y)(h1:Anc o x y)(h2:Anc o y x):x=y:=by have e1:=(I.anc h1 hy).2;have e2:=(I.anc h2 hx).2;omega
theorem Inv.below(I:Inv R r E f D k o Pr){c q x:Nat}(hpc:Pr c)(hq:¬Anc o c q)(h:Anc o c b):Ok Pr b->(Anc (upd o c q) x b↔(Anc o x b/\Anc o c x)\/Anc o x q):=by
 have hc:=(I.pr c hpc).2.1;induction h with
 | self=>
  intro hb;rw[Pb hc hq];constructor
  ·rintro(rfl | h)
   ·exact .inl ⟨.self,.self⟩
   exact .inr h
  rintro(⟨h1,h2⟩ | h)
  ·exact .inl (I.Ns (I.anc h1 hb).1 hb h1 h2)
  exact .inr h
 | up hb h ih=>
  rename_i b;intro hok;have hpb:Pr b:=hok.resolve_left hb;obtain⟨_,_,h3,h4⟩:=I.pr b hpb;have hne:b≠c:=λe=>by
   subst e;rcases(I.anc h h3).2 with e | e
   ·rw[<-e]at h4;omega
   omega
  have e:upd o c q b=o b:=by unfold upd;rw[if_neg hne]
  rw[qL hb,e,ih h3,qL hb];constructor
  ·rintro(rfl | ⟨h1,h2⟩ | h1)
   ·exact .inl ⟨.inl rfl,.up hb h⟩
   ·exact .inl ⟨.inr h1,h2⟩
   exact .inr h1
  rintro(⟨rfl | h1,h2⟩ | h1)
  ·exact .inl rfl
  ·exact .inr (.inl ⟨h1,h2⟩)
  exact .inr (.inr h1)
structure Turn(R:Nat->Prop)(r:Nat->Nat)(E:Nat->Nat->Prop)(o:Nat->Nat)(Pr:Nat->Prop)(c q:Nat):Prop where
 ok:Ok Pr q
 q : ∀x,Anc o x q↔∀a,E a c->R a->Ok Pr a->Anc o x a
theorem Inv.fc(I:Inv R r E f D k o Pr)(C:Ch R r E f D){c:Nat}(hR:R c)(hc:c≠0)(hk:r c=k):Ok Pr (f c):=by
 obtain⟨h1,_,h3⟩:=C.hf c hR hc;by_cases e:f c=0
 ·exact .inl e
 exact .inr (I.all _ h1 e V4)
theorem Turn.lt{c q:Nat}(T:Turn R r E o Pr c q)(I:Inv R r E f D k o Pr)(C:Ch R r E f D)(hR:R c)(hc:c≠0)(hk:r c=k):r q<r c/\Anc o q (f c):=by
 obtain⟨h1,h2,h3⟩:=C.hf c hR hc;have h4:=(T.q q).1 .self (f c) h2 h1 (I.fc C hR hc hk);have:=(I.anc h4 (I.fc C hR hc hk)).2;refine⟨?_,h4⟩;rcases this with e | e
 ·rw[e];exact h3
 omega
theorem Inv.turn(I:Inv R r E f D k o Pr)(C:Ch R r E f D){c q:Nat}(hR:R c)(hc:c≠0)(hk:r c=k)(T:Turn R r E o Pr c q):Inv R r E f D (k+1) (upd o c q) (add Pr c):=by
 obtain⟨f1,f2,f3⟩:=C.hf c hR hc;have hfok:=I.fc C hR hc hk;obtain⟨hlt,hqf⟩:=T.lt I C hR hc hk;have hq:¬Anc o c q:=λh=>by
  have:=(I.anc h T.ok).2;rcases this with e | e
  ·rw[e]at hlt;omega
  omega
 have hcf:¬Anc o c (f c):=λh=>by
  have:=(I.anc h hfok).2;rcases this with e | e
  ·rw[<-e]at f3;omega
  omega
 have okm : ∀x,Ok Pr x->Ok (add Pr c) x:=λx h=>h.imp id .inr;have up_ne : ∀b,b≠c->upd o c q b=o b:=λb hb=>by unfold upd;rw[if_neg hb]
 have up_c:upd o c q c=q:=by simp[upd]
 have hpc : ∀b,Ok Pr b->Anc o c b->Pr c:=λb hb h=>((I.anc h hb).1).resolve_left hc;have mono : ∀b,Ok Pr b->∀x,Anc (upd o c q) x b->Anc o x b:=by
  intro b hb x h;by_cases hcb:Anc o c b
  ·have hp:=hpc b hb hcb;rcases(I.below hp hq hcb hb).1 h with⟨h1,_⟩ | h1
   ·exact h1
   exact(Anc.up hc (I.K c hp x ((T.q x).1 h1))).trans hcb
  exact(lz hcb).1 h
 have stay : ∀b,Ok Pr b->∀x,Anc o x b->(Anc o c b->Anc o c x\/Anc o x q)->Anc (upd o c q) x b:=by
  intro b hb x h h2;by_cases hcb:Anc o c b
  ·refine(I.below (hpc b hb hcb) hq hcb hb).2 ?_;rcases h2 hcb with h3 | h3
   ·exact .inl ⟨h,h3⟩
   exact .inr h3
  exact(lz hcb).2 h
 have domc : ∀n b,r b<=n->Ok Pr b->Anc o c b->∀d,D d b->r d<r c->D d c:=by
  intro n;induction n with
  | zero=>
   intro b hb hok hcb d hd hlt;have:=(I.anc hcb hok).2;rcases this with rfl | h
   ·exact hd
   omega
  | succ n ih=>
   intro b hb hok hcb d hd hlt;by_cases e:c=b
   ·subst e;exact hd
   have hb0:b≠0:=λe0=>by subst e0;exact e (vG.1 hcb)
   have hpb:=hok.resolve_left hb0;have hcb':Anc o c (o b):=((qL hb0).1 hcb).resolve_left e;obtain⟨g1,g2,g3⟩:=C.hf b (I.pr b hpb).1 hb0;have hlb:=(I.anc hcb hok).2;have hdb:d≠b:=λe2=>by subst e2;omega
   exact ih (f b) V4 (I.fok b hpb) (I.FP b hpb c hcb' V4) d (C.d1 d b (f b) hd hdb g2 g1) hlt
 have domq : ∀d,D d c->d≠c->Anc o d q:=by intro d hd hne;refine(T.q d).2 λa ha hRa hoka=>?_;exact I.dom C hoka (C.d1 d c a hd hne ha hRa)
 refine⟨?_,?_,?_,?_,?_,?_,?_⟩
 ·rintro b (rfl | hb)
  ·rw[up_c];exact⟨hR,hc,okm _ T.ok,hlt⟩
  by_cases e:b=c
  ·subst e;rw[up_c];exact⟨hR,hc,okm _ T.ok,hlt⟩
  rw[up_ne b e];obtain⟨h1,h2,h3,h4⟩:=I.pr b hb;exact⟨h1,h2,okm _ h3,h4⟩
 ·intro b hRb hb0 hlt;by_cases e:r b=k
  ·exact .inl (C.inj b c hRb hR V4)
  exact .inr (I.all b hRb hb0 V4)
 ·rintro b (rfl | hb)
  ·exact okm _ hfok
  exact okm _ (I.fok b hb)
 ·intro b hb x hx;have hx' : ∀a,E a b->R a->Ok Pr a->Anc o x a:=λa h1 h2 h3=>mono a h3 x (hx a h1 h2 (okm a h3));by_cases e:b=c
  ·subst e;rw[up_c,lz hq];exact(T.q x).2 hx'
  have hpb:Pr b:=hb.resolve_left e;rw[up_ne b e];obtain⟨h1,h2,h3,h4⟩:=I.pr b hpb;have hxo:=I.K b hpb x hx';refine stay (o b) h3 x hxo λhco=>?_;rcases Anc.total hxo hco with h5 | h5
  ·obtain⟨g1,g2,g3⟩:=C.hf b h1 h2;have hcf2:=I.FP b hpb c hco V4;have hxf:=hx (f b) g2 g1 (okm _ (I.fok b hpb));rcases(I.below (hpc _ h3 hco) hq hcf2 (I.fok b hpb)).1 hxf with⟨_,h6⟩ | h6
   ·exact .inl h6
   exact .inr h6
  exact .inl h5
 ·intro b hb y hy hky;by_cases e:b=c
  ·subst e;rw[up_c,lz hq]at hy;exact(lz hcf).2 (hy.trans hqf)
  have hpb:Pr b:=hb.resolve_left e;rw[up_ne b e]at hy;obtain⟨h1,h2,h3,h4⟩:=I.pr b hpb;have hyf:=I.FP b hpb y (mono _ h3 y hy) V4;refine stay (f b) (I.fok b hpb) y hyf λhcf2=>?_;rcases Anc.total hyf hcf2 with h5 | h5
  ·exfalso;have:=(I.anc h5 (.inr (hpc _ (I.fok b hpb) hcf2))).2;rcases this with e2 | e2
   ·subst e2;omega
   omega
  exact .inl h5
 ·intro b hb hlt;by_cases e:b=c
  ·subst e;rw[up_c];exact(lz hcf).2 hqf
  have hpb:Pr b:=hb.resolve_left e;rw[up_ne b e];obtain⟨h1,h2,h3,h4⟩:=I.pr b hpb;obtain⟨g1,g2,g3⟩:=C.hf b h1 h2;have hbk:r b<k:=by
   rcases Sb (r b) k with h | h
   ·exact h
   exact absurd (C.inj b c h1 hR V4) e
  have h5:=I.FP2 b hpb hbk;refine(lz λhcf2=>?_).2 h5;have:=(I.anc hcf2 (I.fok b hpb)).2;rcases this with e2 | e2
  ·rw[<-e2]at g3;omega
  omega
 intro b hb d hd hne;by_cases e:b=c
 ·subst e;rw[up_c,lz hq];exact domq d hd hne
 have hpb:Pr b:=hb.resolve_left e;rw[up_ne b e];obtain⟨h1,h2,h3,h4⟩:=I.pr b hpb;have hdo:=I.S b hpb d hd hne;refine stay (o b) h3 d hdo λhco=>?_;rcases Anc.total hdo hco with h5 | h5
 ·have hpcc:=hpc _ h3 hco;rcases(I.anc h5 (.inr hpcc)).2 with e2 | e2
  ·subst e2;exact .inl .self
  exact .inr (domq d (domc (r b) b (RX _) (.inr hpb) (.up h2 hco) d hd e2) λe3=>by subst e3;omega)
 exact .inl h5
theorem Inv.again(I:Inv R r E f D k o Pr)(hk : ∀b,R b->r b<k):Inv R r E f D 0 o Pr:=by refine⟨I.pr,λb hR h0 h=>I.all b hR h0 (hk b hR),I.fok,I.K,λb hb y hy _=>?_,λb _ h=>absurd h V4,I.S⟩;exact hy.trans (I.FP2 b hb (hk b (I.pr b hb).1))
theorem Inv.start:Inv R r E f D 0 o (λ_=>False):=
 ⟨λ_ h=>h.elim,λ_ _ _ h=>absurd h V4,λ_ h=>h.elim,λ_ h=>h.elim,λ_ h=>h.elim,λ_ h=>h.elim,λ_ h=>h.elim⟩
theorem Inv.Qs(I:Inv R r E f D k o Pr){c q:Nat}(T:Turn R r E o Pr c q)(hp:Pr c):q=o c\/r q<r (o c):=by have:=I.K c hp q ((T.q q).1 .self);exact(I.anc this (I.pr c hp).2.2.1).2
end
end Go.Lft.Chk
namespace Go.Lft
open Chk
theorem Ku{β:Type}{f k:Nat->β->β}{n:Nat}(I:β->Prop)(h : ∀i x,i<n->I x->f i x=k i x)(hI : ∀i x,i<n->I x->I (f i x)){x:β}(hx:I x):up f n x=up k n x:=by
 have key : ∀m,m<=n->up f m x=up k m x/\I (up f m x):=by
  intro m;induction m with
  | zero=>exact λ_=>⟨rfl,hx⟩
  | succ m ih=>intro hm;obtain⟨h1,h2⟩:=ih V4;exact⟨by rw[up,up,<-h1,h m _ V4 h2],hI _ _ V4 h2⟩
 exact(key n (RX _)).1
theorem yq{nx nx':Int->List Int}{m:Nat}(hnx : ∀a:Int,0<=a->a<m->nx a=nx' a/\∀y∈nx a,0<=y/\y<m) : ∀(n:Nat) (a:Int) (s:List Bool × List Int),0<=a->a<m->kU nx n a s=kU nx' n a s
 | 0,_,_,_,_=>rfl
 | n+1,a,s,h0,h1=>by
  obtain⟨e,hr⟩:=hnx a h0 h1;rw[ma,ma,<-e];have:up (dq nx n a) (nx a).length (s.1.set a.toNat VG,s.2)=up (dq nx' n a) (nx a).length (s.1.set a.toNat VG,s.2):=by refine Ku (λ_=>True) (λi x hi _=>?_) (λ_ _ _ _=>trivial) trivial;unfold dq;rw[<-e];obtain⟨g0,g1⟩:=hr _ (bh hi);rw[yq hnx n _ x g0 g1]
  rw[this]
theorem AO{g:Gr}{a y:Int}(h:y∈nr g a):0<=y/\y<g.length:=by have:=(jx.1 (iR.1 h)).1;omega
theorem Hk{g:Gr}{a:Int}(h0:0<=a)(h1:a<g.length):nx (dJ g) a=nr g a:=by unfold nx;rw[zA V4,SB h0]
theorem LR{g:Gr}:bN g=nj (nr g) g.length:=by
 unfold bN nj;split
 ·rfl
 rw[yq (m:=g.length) (λa h0 h1=>⟨Hk h0 h1,λy hy=>AO (by rwa [Hk h0 h1]at hy)⟩) _ _ _ V4 V4]
structure Ord(g:Gr)(order:List Int):Prop where
 nodup:order.Nodup
 mem : ∀x:Nat,(x:Int)∈order↔Re g (-1) x
 rng : ∀x∈order,0<=x/\x<g.length
 head:order[0]? = VC 0
 par : ∀x∈order,x≠0->∃p∈order,pZ g p x=VG/\order.idxOf p<order.idxOf x
 ret : ∀x∈order,∀y∈order,pZ g x y=VG->order.idxOf y<=order.idxOf x->∃l,Adv (nr g) l y x/\∀u v,Bef l u v->order.idxOf v<order.idxOf u
theorem wY{l:List Int}(hn:l.Nodup){u v:Int}(h:Bef l u v):l.reverse.idxOf v<l.reverse.idxOf u:=by
 obtain⟨p,q,rfl,hv⟩:=h;have hu:u∉q:=by have:=(Ti.1 hn).2.1;exact(T1.1 this).1
 rw[List.reverse_append,List.reverse_cons,Sk];have h1:(q.reverse++([u]++p.reverse)).idxOf v<q.reverse.length:=by rw[List.idxOf_append,if_pos (by simpa using hv)];exact UX (by simpa using hv)
 have h2:(q.reverse++([u]++p.reverse)).idxOf u=q.reverse.length:=by rw[List.idxOf_append,if_neg (by simpa using hu)];simp
 omega
theorem lu{g:Gr}(hg:0<g.length):Ord g (bN g):=by
 have hT:=Bz (nx:=nr g) (m:=g.length) (λa _ _ y hy=>AO hy) g.length 0 (List.replicate g.length VH,[]) V4 V4 V5 (aD (by simpa using hg)) (by simp[dI]);have ho:bN g=(kU (nr g) g.length 0 (List.replicate g.length VH,[])).2.reverse:=by rw[LR,nj,if_neg V4]
 obtain⟨new,T⟩:=hT;have hout:=T.out;simp only[SV]at hout;rw[ho,hout];have hv0 : ∀x:Int,¬vis (List.replicate g.length VH,([]:List Int)) x:=by
  intro x h;unfold vis at h;simp only at h;rcases Sb x.toNat g.length with h1 | h1
  ·rw[aD h1]at h;cases h
  rw[bK (by simpa using h1)]at h;cases h
 have hvis : ∀x,0<=x->(vis (kU (nr g) g.length 0 (List.replicate g.length VH,[])) x↔x∈new):=λx hx=>by rw[T.visd x hx];exact⟨λh=>h.resolve_left (hv0 x),.inr⟩
 obtain⟨t,ht⟩:=T.last;have h0:(0:Int)∈new:=by rw[ht];simp
 have hre : ∀x∈new,Re g (-1) x.toNat:=by
  intro x hx;have:=T.desc x hx;clear hx;induction this with
  | self=>exact .root hg V6
  | step _ h1 h2 ih=>have hpr:=T.fresh _ h2.mem.2;have hqr:=T.fresh _ h2.mem.1;have he:=iR.1 h1;refine .step ih ?_ V4;rwa [SB hpr.2.1,SB hqr.2.1]
 refine⟨by simpa[List.Nodup,List.pairwise_reverse,ne_comm]using T.nodup,λx=>?_,λx hx=>(T.fresh x (by simpa using hx)).2,?_,?_,?_⟩
 ·rw[List.mem_reverse];constructor
  ·intro h;simpa using hre x h
  intro h;induction h with
  | root _ _=>exact h0
  | step _ he _ ih=>exact(hvis _ V4).1 (T.clos _ ih _ (iR.2 he))
 ·rw[ht,List.reverse_append];rfl
 ·intro x hx hne;obtain⟨p,hp,h1,h2⟩:=T.par x (by simpa using hx) hne;exact⟨p,by simpa using hp,iR.1 h1,wY T.nodup h2⟩
 intro x hx y hy he hle;rcases T.ret x (by simpa using hx) y (iR.2 he) (by simpa using hy)with h | h
 ·have:=wY T.nodup h;omega
 exact⟨new,h,λu v huv=>wY T.nodup huv⟩
theorem yv{n:Nat}{order:List Int}(hn:order.Nodup)(hr : ∀x∈order,0<=x/\x<(n:Int)){x:Nat}(hx:x<n):nth (gg n order) x=if(x:Int)∈order then(order.idxOf (x:Int):Int) else -1:=by
 have key : ∀k,k<=order.length->(up (λi l=>l.set (nth order i).toNat (i:Int)) k (List.replicate n (-1))).length=n/\nth (up (λi l=>l.set (nth order i).toNat (i:Int)) k (List.replicate n (-1))) x=if(x:Int)∈order.take k then(order.idxOf (x:Int):Int) else -1:=by
  intro k;induction k with
  | zero=>intro _;exact⟨by simp[up],by rw[up,aD hx];simp⟩
  | succ k ih=>
   intro hk;obtain⟨h1,h2⟩:=ih V4;rw[up];refine⟨by simpa using h1,?_⟩;rw[bs V4,Si V4,h2];have hmem:order[k]∈order:=S9 _;have hrk:=hr _ hmem;rw[az (show k<order.length by omega)];by_cases e:order[k].toNat=x
   ·have e2:order[k]=(x:Int):=by omega
    rw[if_pos e,if_pos (by rw[<-e2];exact SQ _ (RY.2 rfl)),<-e2,Ux hn]
   rw[if_neg e];have e2:¬(x:Int)=order[k]:=λh=>e V4;simp only[R1,RY,e2,or_false]
 have:=(key order.length (RX _)).2;rw[Sr (RX _)]at this;exact this
def st(out:List Int):Nat->Nat:=λb=>(nth out b).toNat
def pd(out:List Int):Nat->Prop:=λb=>b<out.length/\0<=nth out b
def rk(g:Gr)(x:Nat):Nat:=(bN g).idxOf (x:Int)
def Eg(g:Gr)(a b:Nat):Prop:=pZ g a b=VG
def Dm(g:Gr)(d b:Nat):Prop:=domC g d b=VG
def Rg(g:Gr)(x:Nat):Prop:=Re g (-1) x
section
variable{g:Gr}
theorem Ha{x:Nat}(h:Rg g x):rk g x<(bN g).length:=UX (((lu (Nat.lt_of_le_of_lt (Tv _) h.lt)).mem x).2 h)
theorem Rg.pos{x:Nat}(h:Rg g x):0<g.length:=Nat.lt_of_le_of_lt (Tv _) h.lt
theorem Mv{x:Nat}(h:Rg g x):rk g x<g.length:=S2 (Ha h) uD
theorem Gy{a b:Nat}(ha:Rg g a)(hb:Rg g b)(h:rk g a=rk g b):a=b:=by
 have O:=lu ha.pos;have h1:=List.getElem_idxOf (Ha ha);have h2:=List.getElem_idxOf (Ha hb);have:(a:Int)=(b:Int):=by rw[<-h1,<-h2];congr 1
 omega
theorem yF(hg:0<g.length):rk g 0=0:=by
 have O:=lu hg;unfold rk;have hl:0<(bN g).length:=by
  have:=O.head;rcases SW (bN g).length with h | h
  ·rw[Ss h]at this;cases this
  exact h
 have h0:=O.head;rw[SJ hl]at h0;have h1:(bN g)[0]=0:=Option.some.inj h0;have:=Ux O.nodup 0 hl;rw[h1]at this;exact this
theorem wQ{x:Nat}(h:Rg g x):nth (gg g.length (bN g)) x=(rk g x:Int):=by have O:=lu h.pos;rw[yv O.nodup O.rng h.lt,if_pos ((O.mem x).2 h)];rfl
theorem FE{x:Nat}(hx:x<g.length)(h:¬Rg g x):nth (gg g.length (bN g)) x=-1:=by have O:=lu (g:=g) V4;rw[yv O.nodup O.rng hx,if_neg λe=>h ((O.mem x).1 e)]
theorem Mp(hg:0<g.length): ∃f:Nat->Nat,∀x,Rg g x->x≠0->Rg g (f x)/\Eg g (f x) x/\rk g (f x)<rk g x:=by
 have O:=lu hg;have : ∀x,∃p,Rg g x->x≠0->Rg g p/\Eg g p x/\rk g p<rk g x:=by
  intro x;by_cases h:Rg g x/\x≠0
  ·obtain⟨p,hp,h1,h2⟩:=O.par x ((O.mem x).2 h.1) V4;have hr:=O.rng p hp;have e:((p.toNat:Nat):Int)=p:=SB hr.1;refine⟨p.toNat,λ_ _=>⟨(O.mem _).1 (by rw[e];exact hp),by unfold Eg;rw[e];exact h1,by unfold rk;rw[e];exact h2⟩⟩
  exact⟨0,λh1 h2=>absurd ⟨h1,h2⟩ h⟩
 exact⟨λx=>(this x).choose,λx=>(this x).choose_spec⟩
theorem Qt(hg:0<g.length){f:Nat->Nat}(hf : ∀x,Rg g x->x≠0->Rg g (f x)/\Eg g (f x) x/\rk g (f x)<rk g x):Ch (Rg g) (rk g) (Eg g) f (Dm g) where
 inj:=λa b ha hb h=>Gy ha hb h
 R0:=.root hg V6
 r0:=yF hg
 hf:=hf
 d1:=λd b a hd hne he ha=>by
  obtain⟨h1,h2,h3⟩:=sQ.1 hd
  exact sQ.2 ⟨h1,ha,λh=>h3 (.step h he V4)⟩
 d0:=λd hd=>by
  obtain⟨h1,h2,h3⟩:=sQ.1 hd
  rcases SW d with h | h
  ·exact h
  ·exact absurd (.root hg V4) h3
structure Good(g:Gr)(f:Nat->Nat)(k:Nat)(out:List Int):Prop where
 len:out.length=g.length
 rng : ∀b,b<g.length->nth out b=-1\/(0<=nth out b/\nth out b<g.length)
 inv:Inv (Rg g) (rk g) (Eg g) f (Dm g) k (st out) (pd out)
variable{f:Nat->Nat}{k:Nat}{out:List Int}
theorem Good.EJ(G:Good g f k out)(C:Ch (Rg g) (rk g) (Eg g) f (Dm g)){x:Nat}(h:Ok (pd out) x):Rg g x/\x<g.length:=⟨G.inv.okR C h,(G.inv.okR C h).lt⟩
theorem sD(G:Good g f k out)(C:Ch (Rg g) (rk g) (Eg g) f (Dm g)) : ∀(fuel a b:Nat),Ok (pd out) a->Ok (pd out) b->rk g a+rk g b<fuel->
  ∃c:Nat,mz out (gg g.length (bN g)) fuel a b=VC (c:Int)/\Ok (pd out) c/\∀x,Anc (st out) x c↔Anc (st out) x a/\Anc (st out) x b
 | 0,a,b,_,_,h=>by omega
 | fuel+1,a,b,ha,hb,h=>by
  obtain⟨ra,la⟩:=G.EJ C ha;obtain⟨rb,lb⟩:=G.EJ C hb;have hg:=ra.pos;have hnl:(gg g.length (bN g)).length=g.length:=by rw[gg,CE List.length (λ_ _=>by simp)];simp
  have hol:=G.len;rw[mz,if_pos V4,Sn,Sn,wQ ra,wQ rb];have step : ∀a b:Nat,Ok (pd out) a->Ok (pd out) b->rk g b<rk g a->a≠0/\nth out a=((st out a:Nat):Int)/\Ok (pd out) (st out a)/\rk g (st out a)<rk g a/\∀x,Anc (st out) x (st out a)/\Anc (st out) x b↔Anc (st out) x a/\Anc (st out) x b:=by
   intro a b ha hb hlt;have ha0:a≠0:=λe=>by subst e;rw[yF hg]at hlt;omega
   have hpa:=ha.resolve_left ha0;obtain⟨_,_,h3,h4⟩:=G.inv.pr a hpa;refine⟨ha0,(SB hpa.2).symm,h3,h4,λx=>⟨λ⟨h5,h6⟩=>⟨.up ha0 h5,h6⟩,λ⟨h5,h6⟩=>⟨?_,h6⟩⟩⟩;rcases(qL ha0).1 h5 with rfl | h7
   ·have:=(G.inv.anc h6 hb).2;rcases this with e | e
    ·subst e;omega
    omega
   exact h7
  by_cases h1:rk g b<rk g a
  ·rw[if_pos V4];obtain⟨ha0,e,h3,h4,h5⟩:=step a b ha hb h1;rw[e];obtain⟨c,h6,h7,h8⟩:=sD G C fuel (st out a) b h3 hb V4;exact⟨c,h6,h7,λx=>(h8 x).trans (h5 x)⟩
  rw[if_neg V4];by_cases h2:rk g a<rk g b
  ·rw[if_pos V4];obtain⟨hb0,e,h3,h4,h5⟩:=step b a hb ha h2;rw[e];obtain⟨c,h6,h7,h8⟩:=sD G C fuel a (st out b) ha h3 V4;exact⟨c,h6,h7,λx=>(h8 x).trans (by rw[and_comm,h5 x,and_comm])⟩
  rw[if_neg V4];have e:a=b:=Gy ra rb V4;subst e;exact⟨a,rfl,ha,λx=>by simp⟩
def Bst(out:List Int)(best:Int)(Q:Nat->Prop):Prop:=
 (best=-1/\∀a,¬Q a)\/∃c:Nat,best=(c:Int)/\Ok (pd out) c/\(∃a,Q a)/\∀x,Anc (st out) x c↔∀a,Q a->Anc (st out) x a
def Cons(g:Gr)(out:List Int)(a:Nat):Prop:=Rg g a/\Ok (pd out) a
theorem tD{best:Int}{Q Q':Nat->Prop}(h : ∀a,Q a↔Q' a)(b:Bst out best Q):Bst out best Q':=by have:Q=Q':=funext λa=>propext (h a);rw[<-this];exact b
theorem vH(G:Good g f k out)(C:Ch (Rg g) (rk g) (Eg g) f (Dm g)) : ∀(l:List Int) (best:Int) (Q:Nat->Prop),Bst out best Q->(∀a∈l,0<=a/\a<(g.length:Int))->
  ∃best',bstS out (gg g.length (bN g)) g.length l best=VC best'/\Bst out best' λa=>Q a\/((a:Int)∈l/\Cons g out a)
 | [],best,Q,hB,_=>⟨best,rfl,tD (λa=>by simp) hB⟩
 | a::l,best,Q,hB,hl=>by
  obtain⟨h0,h1⟩:=hl a (Sg ..);have hl':=λx hx=>hl x (Sa _ hx);obtain⟨n,rfl⟩:=S0 h0;have hn:n<g.length:=by omega
  have hol:=G.len;rw[bstS,if_pos ⟨h0,h1⟩,Sn];have hcons:(nth (gg g.length (bN g)) n<0\/((n:Int)≠0/\nth out n<0))↔¬Cons g out n:=by
   by_cases hr:Rg g n
   ·rw[wQ hr];constructor
    ·rintro(h | ⟨h2,h3⟩)
     ·omega
     rintro⟨_,h4 | h4⟩
     ·omega
     have:=h4.2;omega
    intro h;right;refine⟨λe=>h ⟨hr,.inl V4⟩,?_⟩;rcases Int.lt_or_le (nth out n) 0 with h2 | h2
    ·exact h2
    exact absurd ⟨hr,.inr ⟨by omega,h2⟩⟩ h
   rw[FE hn hr];exact⟨λ_ h=>hr h.1,λ_=>.inl V4⟩
  by_cases hc:Cons g out n
  ·rw[if_neg λh=>hcons.1 h hc];rcases hB with⟨rfl,hQ⟩ | ⟨c,rfl,hok,hex,hq⟩
   ·rw[if_pos V6];obtain⟨b',h2,h3⟩:=vH G C l n (λa=>a=n) (.inr ⟨n,rfl,hc.2,⟨n,rfl⟩,λx=>by simp⟩) hl';refine⟨b',h2,tD (λa=>?_) h3⟩;constructor
    ·rintro(rfl | ⟨h4,h5⟩)
     ·exact .inr ⟨Sg ..,hc⟩
     exact .inr ⟨Sa _ h4,h5⟩
    rintro(h4 | ⟨h4,h5⟩)
    ·exact absurd h4 (hQ a)
    rcases Sp.1 h4 with h4 | h4
    ·exact .inl V4
    exact .inr ⟨h4,h5⟩
   rw[if_neg V4];obtain⟨rc,_⟩:=G.EJ C hok;obtain⟨d,h2,h3,h4⟩:=sD G C (2*g.length+2) c n hok hc.2 (by have:=Mv rc;have:=Mv hc.1;omega);rw[h2];simp only[SA];obtain⟨b',h5,h6⟩:=vH G C l d (λa=>Q a\/a=n) (.inr ⟨d,rfl,h3,⟨n,.inr rfl⟩,λx=>by
    rw[h4,hq];constructor
    ·rintro⟨h7,h8⟩ a (ha | rfl)
     ·exact h7 a ha
     exact h8
    intro h7;exact⟨λa ha=>h7 a (.inl ha),h7 n (.inr rfl)⟩⟩) hl';refine⟨b',h5,tD (λa=>?_) h6⟩;constructor
   ·rintro((h7 | rfl) | ⟨h7,h8⟩)
    ·exact .inl h7
    ·exact .inr ⟨Sg ..,hc⟩
    exact .inr ⟨Sa _ h7,h8⟩
   rintro(h7 | ⟨h7,h8⟩)
   ·exact .inl (.inl h7)
   rcases Sp.1 h7 with h7 | h7
   ·exact .inl (.inr V4)
   exact .inr ⟨h7,h8⟩
  rw[if_pos (hcons.2 hc)];obtain⟨b',h2,h3⟩:=vH G C l best Q hB hl';refine⟨b',h2,tD (λa=>?_) h3⟩;constructor
  ·rintro(h4 | ⟨h4,h5⟩)
   ·exact .inl h4
   exact .inr ⟨Sa _ h4,h5⟩
  rintro(h4 | ⟨h4,h5⟩)
  ·exact .inl h4
  rcases Sp.1 h4 with h6 | h6
  ·exact absurd ((show a=n by omega)▸h5) hc
  exact .inr ⟨h6,h5⟩
theorem IV(G:Good g f k out)(C:Ch (Rg g) (rk g) (Eg g) f (Dm g)){c:Nat}(hR:Rg g c)(hc:c≠0)(hk:rk g c=k):
  ∃q:Nat,bstS out (gg g.length (bN g)) g.length (nth (dN g) c) (-1)=VC (q:Int)/\Turn (Rg g) (rk g) (Eg g) (st out) (pd out) c q:=by
 have hlt:=hR.lt;obtain⟨best,h1,h2⟩:=vH G C (nth (dN g) c) (-1) (λ_=>False) (.inl ⟨rfl,λ_ h=>h⟩) (xy (λe he=>(tH he).1) (λi x hx=>by
  rcases Sb i g.length with hi | hi
  ·rw[aD hi]at hx;cases hx
  rw[bK (by simpa using hi)]at hx;cases hx) c);have hm : ∀a:Nat,(a:Int)∈nth (dN g) c↔Eg g a c:=λa=>by have:=Il (g:=g) (a:=a) (b:=c) V9;rwa [Sn]at this
 obtain⟨f1,f2,f3⟩:=C.hf c hR hc;rcases h2 with⟨_,h3⟩ | ⟨q,rfl,hok,_,hq⟩
 ·exact absurd (.inr ⟨(hm _).2 f2,f1,G.inv.fc C hR hc hk⟩) (h3 (f c))
 refine⟨q,h1,hok,λx=>?_⟩;rw[hq];constructor
 ·intro h a h4 h5 h6;exact h a (.inr ⟨(hm a).2 h4,h5,h6⟩)
 rintro h a (h4 | ⟨h4,h5,h6⟩)
 ·exact h4.elim
 exact h a ((hm a).1 h4) h5 h6
end
def sI(w:Nat->Nat):Nat->Nat
 | 0=>0
 | n+1=>sI w n+w n
theorem Lm{w w':Nat->Nat} : ∀{n:Nat},(∀b,b<n->w' b<=w b)->sI w' n<=sI w n
 | 0,_=>RX _
 | n+1,h=>Nat.add_le_add (Lm λb hb=>h b V4) (h n V4)
theorem Lq{w w':Nat->Nat}{c:Nat} : ∀{n:Nat},(∀b,b<n->w' b<=w b)->c<n->w' c<w c->sI w' n<sI w n
 | 0,_,h,_=>by omega
 | n+1,h,hc,hlt=>by
  rcases Sb c n with h1 | h1
  ·have:=Lq (n:=n) (λb hb=>h b V4) h1 hlt;have:=h n V4;simp only[sI];omega
  obtain rfl:c=n:=by omega
  have:=Lm (n:=c) λb hb=>h b V4;simp only[sI];omega
theorem Bg{w:Nat->Nat}{m:Nat} : ∀{n:Nat},(∀b,b<n->w b<=m)->sI w n<=n*m
 | 0,_=>by simp[sI]
 | n+1,h=>by have:=Bg (n:=n) λb hb=>h b V4;have:=h n V4;rw[sI,S5];omega
section
variable{g:Gr}{f:Nat->Nat}{k:Nat}{out:List Int}
def wt(g:Gr)(out:List Int)(b:Nat):Nat:=if nth out b<0 then g.length else rk g (st out b)
def mu(g:Gr)(out:List Int):Nat:=sI (wt g out) g.length
theorem Good.set(G:Good g f k out)(C:Ch (Rg g) (rk g) (Eg g) f (Dm g)){c q:Nat}(hR:Rg g c)(hc:c≠0)(hk:rk g c=k)(T:Turn (Rg g) (rk g) (Eg g) (st out) (pd out) c q)(ch:Bool) :
  Good g f (k+1) (setS out ch c q).1/\mu g (setS out ch c q).1<=mu g out/\((setS out ch c q).2=VG->ch=VG\/mu g (setS out ch c q).1<mu g out)/\((setS out ch c q).2=VH->ch=VH/\(setS out ch c q).1=out/\st out c=q/\pd out c):=by
 have hlt:=hR.lt;have hol:=G.len;obtain⟨hq,hqn⟩:=G.EJ C T.ok;have I:=G.inv.turn C hR hc hk T;by_cases e:nth out c=q
 ·have hs:setS out ch c q=(out,ch):=by simp[setS,e]
  rw[hs];have hst:upd (st out) c q=st out:=by
   funext b;unfold upd;split
   ·rename_i hb;subst hb;simp[st,e]
   rfl
  have hpd:add (pd out) c=pd out:=by
   funext b;refine propext ⟨λh=>?_,.inr⟩;rcases h with rfl | h
   ·exact V9
   exact h
  rw[hst,hpd]at I;exact⟨⟨G.len,G.rng,I⟩,RX _,.inl,λh=>⟨h,rfl,by simp[st,e],by omega,by omega⟩⟩
 have hs:setS out ch c q=(out.set c q,VG):=by simp[setS,e]
 rw[hs];have hn : ∀b,b<g.length->nth (out.set c q) b=if c=b then(q:Int) else nth out b:=λb hb=>bs V4;have hst:st (out.set c q)=upd (st out) c q:=by
  funext b;unfold upd st;rcases Sb b out.length with hb | hb
  ·rw[bs hb];by_cases h:c=b
   ·rw[if_pos h,if_pos h.symm];simp
   rw[if_neg h,if_neg (Ne.symm h)]
  rw[bK (by simpa using hb),bK hb,if_neg V4]
 have hpd:pd (out.set c q)=add (pd out) c:=by
  funext b;refine propext ?_;unfold pd add;rw[SC];constructor
  ·rintro⟨h1,h2⟩;rw[bs h1]at h2;by_cases h:c=b
   ·exact .inl h.symm
   rw[if_neg h]at h2;exact .inr ⟨h1,h2⟩
  rintro(rfl | ⟨h1,h2⟩)
  ·exact⟨by omega,by rw[bs V4,if_pos rfl];omega⟩
  refine⟨h1,?_⟩;rw[bs h1];split
  ·omega
  exact h2
 have hw : ∀b,b<g.length->wt g (out.set c q) b<=wt g out b/\(b=c->wt g (out.set c q) b<wt g out b):=by
  intro b hb;by_cases h:c=b
  ·subst h;have e1:wt g (out.set c q) c=rk g q:=by unfold wt;rw[hn c hb,if_pos rfl,if_neg V4,hst];simp[upd]
   have e2:rk g q<wt g out c:=by
    unfold wt;split
    ·exact Mv hq
    rename_i h1;have hp:pd out c:=V9;rcases G.inv.Qs T hp with h2 | h2
    ·exfalso;have:=SB hp.2;unfold st at h2;omega
    exact h2
   omega
  have e1:wt g (out.set c q) b=wt g out b:=by unfold wt st;rw[hn b hb,if_neg h]
  exact⟨by omega,λe=>absurd e.symm h⟩
 have hmu:mu g (out.set c q)<mu g out:=Lq (λb hb=>(hw b hb).1) hlt ((hw c hlt).2 rfl);refine⟨⟨by simpa using hol,λb hb=>?_,by rw[hst,hpd];exact I⟩,by show mu g (out.set c q)<=_;omega,λ_=>.inr hmu,λh=>by cases h⟩;rw[hn b hb];split
 ·right;omega
 exact G.rng b hb
theorem zT(C:Ch (Rg g) (rk g) (Eg g) f (Dm g)) : ∀(l:List Int) (k:Nat) (out:List Int) (ch:Bool),l=(bN g).drop k->1<=k->k<=(bN g).length->Good g f k out->
  ∃out' ch',vx (gg g.length (bN g)) (dN g) g.length l (out,ch)=VC (out',ch')/\Good g f (bN g).length out'/\mu g out'<=mu g out/\(ch'=VG->ch=VG\/mu g out'<mu g out)/\
   (ch'=VH->ch=VH/\out'=out/\∀c:Nat,(c:Int)∈l->pd out c/\Turn (Rg g) (rk g) (Eg g) (st out) (pd out) c (st out c))
 | [],k,out,ch,hl,_,hk,G=>by
  have hk2:(bN g).length<=k:=by have:=congrArg List.length hl;simp only[Uy,SP]at this;omega
  obtain rfl:k=(bN g).length:=by omega
  exact⟨out,ch,rfl,G,RX _,.inl,λh=>⟨h,rfl,by simp⟩⟩
 | b::l,k,out,ch,hl,h1,hk,G=>by
  have hlt:k<(bN g).length:=by have:=congrArg List.length hl;simp only[SL,SP]at this;omega
  rw[SD hlt]at hl;obtain⟨hb,hl2⟩:=List.cons.inj hl;have hmem:b∈bN g:=by rw[hb];exact S9 _
  have hg:0<g.length:=by have:=uD (g:=g);omega
  have O:=lu hg;have hr:=O.rng b hmem;obtain⟨c,rfl⟩:=S0 hr.1;have hR:Rg g c:=(O.mem c).1 hmem;have hrk:rk g c=k:=by unfold rk;rw[hb,Ux O.nodup]
  have hc0:c≠0:=λe=>by subst e;rw[yF hg]at hrk;omega
  obtain⟨q,h3,T⟩:=IV G C hR hc0 hrk;rw[vx,if_pos hr,Sn];simp only;rw[h3];simp only[SA];obtain⟨g1,g2,g3,g4⟩:=G.set C hR hc0 hrk T ch;have e:setS out ch c q=((setS out ch c q).1,(setS out ch c q).2):=rfl;rw[e];generalize hs1:(setS out ch c q).1=o1 at g1 g2 g3 g4;generalize hs2:(setS out ch c q).2=c1 at g3 g4;obtain⟨out',ch',k1,k2,k3,k4,k5⟩:=zT C l (k+1) o1 c1 hl2 V4 V4 g1;refine⟨out',ch',k1,k2,by omega,λh=>?_,λh=>?_⟩
  ·rcases k4 h with h4 | h4
   ·rcases g3 h4 with h5 | h5
    ·exact .inl h5
    exact .inr V4
   exact .inr V4
  obtain⟨h4,rfl,h6⟩:=k5 h;obtain⟨h7,rfl,h8,h9⟩:=g4 h4;refine⟨h7,rfl,λx hx=>?_⟩;rcases Sp.1 hx with hx | hx
  ·obtain rfl:x=c:=by omega
   exact⟨h9,h8▸T⟩
  exact h6 x hx
theorem Good.one(hg:0<g.length)(G:Good g f 0 out):Good g f 1 out:=by have I:=G.inv;have h0 : ∀b,Rg g b->b≠0->¬rk g b<1:=λb hR hb h=>hb (Gy hR (.root hg V6) (by rw[yF hg];omega));exact⟨G.len,G.rng,⟨I.pr,λb hR hb h=>absurd h (h0 b hR hb),I.fok,I.K,λb hb y hy _=>I.FP b hb y hy V4,λb hb h=>absurd h (h0 b (I.pr b hb).1 (I.pr b hb).2.1),I.S⟩⟩
structure s9(g:Gr)(f:Nat->Nat)(l:List Int):Prop where
 good:Good g f (bN g).length l
 turn : ∀c,Rg g c->c≠0->pd l c/\Turn (Rg g) (rk g) (Eg g) (st l) (pd l) c (st l c)
theorem BE(hg:0<g.length)(C:Ch (Rg g) (rk g) (Eg g) f (Dm g)) : ∀(fuel:Nat) (out:List Int),Good g f 0 out->mu g out<fuel->
  ∃l,pP (gg g.length (bN g)) (dN g) g.length ((bN g).drop (min 1 (bN g).length)) fuel out=VC l/\s9 g f l
 | 0,_,_,h=>by omega
 | fuel+1,out,G,h=>by
  have O:=lu hg;have hlen:0<(bN g).length:=by
   rcases SW (bN g).length with h | h
   ·have:=O.head;rw[Ss h]at this;cases this
   exact h
  have hm:min 1 (bN g).length=1:=by omega
  rw[pP,hm];obtain⟨out',ch',k1,k2,k3,k4,k5⟩:=zT C ((bN g).drop 1) 1 out VH rfl (RX _) hlen (G.one hg);rw[k1];simp only[SA];cases ch' with
  | true=>rw[if_pos rfl];have:=BE hg C fuel out' ⟨k2.len,k2.rng,k2.inv.again λb hb=>Ha hb⟩ (by rcases k4 rfl with h1 | h1;cases h1;omega);rwa [hm]at this
  | false=>
   rw[if_neg V5];obtain⟨_,rfl,h6⟩:=k5 rfl;refine⟨_,rfl,k2,λc hR hc=>h6 c ?_⟩;have hmem:=(O.mem c).2 hR;obtain⟨i,hi,e⟩:=Sy hmem;have hi0:i≠0:=λh0=>by subst h0;have:=O.head;rw[SJ hi]at this;have:=Option.some.inj this;omega
   rw[<-e];refine List.mem_iff_getElem.2 ⟨i-1,by rw[SP];omega,?_⟩;rw[UD];congr 1;omega
theorem BY(hg:0<g.length): ∃f,Ch (Rg g) (rk g) (Eg g) f (Dm g)/\∃l,BO g (g.length*g.length+1)=VC l/\s9 g f l:=by
 obtain⟨f,hf⟩:=Mp hg;have C:=Qt hg hf;refine⟨f,C,?_⟩;refine BE hg C _ _ ⟨by simp,λb hb=>.inl (aD hb),?_⟩ ?_
 ·have:pd (List.replicate g.length (-1))=λ_=>False:=by funext b;refine propext ⟨λ⟨h1,h2⟩=>?_,λh=>h.elim⟩;rw[aD (by simpa using h1)]at h2;omega
  rw[this];exact Inv.start
 have:=Bg (w:=wt g (List.replicate g.length (-1))) (m:=g.length) (n:=g.length) λb hb=>by unfold wt;rw[aD hb,if_pos V4];exact RX _
 unfold mu;omega
theorem s9.anc{l:List Int}(I:s9 g f l)(C:Ch (Rg g) (rk g) (Eg g) f (Dm g)){x b:Nat}(hb:Rg g b):Anc (st l) x b↔Dm g x b:=by
 have hok : ∀b,Rg g b->Ok (pd l) b:=λb h=>by
  by_cases e:b=0
  ·exact .inl e
  exact .inr (I.turn b h e).1
 constructor
 ·intro h;have hx:=(I.good.EJ C (I.good.inv.anc h (hok b hb)).1).1;refine sQ.2 ⟨hx,hb,λhre=>?_⟩;have key : ∀b,Re g x b->¬Anc (st l) x b:=by
   intro b hre;induction hre with
   | root h1 h2=>intro h;have:=vG.1 h;omega
   | step ha he hne ih=>
    rename_i a b;intro h;by_cases e:b=0
    ·subst e;have:=vG.1 h;omega
    have hRb:Rg g b:=.step ha.all he V4;have h3:=((qL e).1 h).resolve_left V4;exact ih (((I.turn b hRb e).2.q x).1 h3 a he ha.all (hok a ha.all))
  exact key b hre h
 intro h;exact I.good.inv.dom C (hok b hb) h
end
theorem G0{p:Nat->Bool}{n:Nat}:yi p n=VG↔∀i,i<n->p i=true:=by
 unfold yi;induction n with
 | zero=>simp[up]
 | succ n ih=>
  rw[up,Hy,Se,ih];constructor
  ·rintro⟨h1,h2⟩ i hi;rcases Sb i n with h | h
   ·exact h1 i h
   obtain rfl:i=n:=by omega
   exact h2
  intro h;exact⟨λi hi=>h i V4,h n V4⟩
section
variable{g:Gr}{f:Nat->Nat}{l:List Int}
theorem s9.none(I:s9 g f l){b:Nat}(hb:b<g.length)(h:¬Rg g b\/b=0):nth l b=-1:=by
 rcases I.good.rng b hb with h1 | h1
 ·exact h1
 exfalso;have:=I.good.inv.pr b ⟨by rw[I.good.len];exact hb,h1.1⟩;rcases h with h | h
 ·exact h this.1
 exact this.2.1 h
theorem I8{a:Int}(ha:0<=a): ∀k,sU l a k (-1)=VH
 | 0=>rfl
 | k+1=>by rw[sU,if_neg V4,if_pos (.inl V4)]
theorem yX(I:s9 g f l)(C:Ch (Rg g) (rk g) (Eg g) f (Dm g)){a:Nat} : ∀(k b:Nat),Rg g b->rk g b<k->(sU l a k b=VG↔Anc (st l) a b)
 | 0,b,_,h=>by omega
 | k+1,b,hb,h=>by
  have hlt:=hb.lt;have hll:=I.good.len;rw[sU];by_cases e:(b:Int)=a
  ·rw[if_pos e];have:a=b:=by omega
   subst this;exact⟨λ_=>.self,λ_=>rfl⟩
  rw[if_neg e,if_neg V4,Sn];by_cases h0:b=0
  ·subst h0;rw[I.none hlt (.inr rfl),I8 V4,vG];constructor
   ·intro h;cases h
   intro h;omega
  obtain⟨hp,_⟩:=I.turn b hb h0;obtain⟨h1,h2,h3,h4⟩:=I.good.inv.pr b hp;have e2:nth l b=((st l b:Nat):Int):=(SB hp.2).symm;rw[e2,yX I C k (st l b) (I.good.inv.okR C h3) V4,qL h0];exact⟨.inr,λh=>h.resolve_left V4⟩
theorem vK(I:s9 g f l)(C:Ch (Rg g) (rk g) (Eg g) f (Dm g)){a b:Nat}(ha:a<g.length)(hb:Rg g b):eM l a b=domC g a b:=by have hlt:=hb.lt;have hll:=I.good.len;rw[eM,decide_eq_true V4,Ui,SI,yX I C _ _ hb (by have:=Mv hb;omega),I.anc C hb];rfl
end
section
theorem JW{l:List Int}{x:Int}{v:Value}{h:Heap}(hl:SlRd (vw h) v l):ay VI 185 #[v,Vz VA x] h (λu h'=>(∃r:Int,u = Vz VA r/\(0<=r↔x∈l))/\h'=h):=by
 refine ao (args:=[v,Vz VA x]) follows Tryz.func185 E.slices_Index_int Vu λK hK=>?_;have bl:=hl.bound;simp[L.slices_Index_int,hl.len];refine aF [0,1,7,8] (fun(_:Unit) i=>[v,Vz VA x,Vz VA l.length,Vz VA i]) (λ_ i h1=>h1=h/\∀j,j<i->nth l j≠x) l.length ()
  rfl V4 rfl ⟨rfl,λj hj=>by omega⟩ (λ_ _=>rfl) (λv i h1 hk m=>by simp) ?_ ?_
 ·rintro _ i h hlt ⟨rfl,hpre⟩ K2 hK2;simp(disch:=omega)[hl.idx1 rfl,hl.int Vw];refine⟨λe=>hK _ _ ⟨⟨i,rfl,by simp;rw[e];exact bh hlt⟩,rfl⟩,λe=>hK2 () _ _ rfl rfl ⟨rfl,λj hj=>?_⟩⟩;rcases Sb j i with h | h
  ·exact hpre j h
  have:j=i:=by omega
  subst this;exact λe2=>e e2.symm
 rintro _ h ⟨rfl,hpre⟩;simp;refine hK _ _ ⟨⟨-1,rfl,by simp;intro hm;obtain⟨j,hj,e⟩:=Sy hm;exact hpre j hj (by rw[az hj];exact e)⟩,rfl⟩
theorem yx{l:List Int}{x:Int}{v:Value}{h:Heap}(hl:SlRd (vw h) v l):ay VI 137 #[v,Vz VA x] h (λu h'=>u = .bool (l.contains x)/\h'=h):=by refine ao (args:=[v,Vz VA x]) follows Tryz.func137 E.slices_Contains_int Vu λK hK=>?_;simp[L.slices_Contains_int];refine ah V0 (JW hl) ?_;rintro _ _ ⟨⟨r,rfl,hr⟩,rfl⟩;simp;exact hK _ _ ⟨by simp[<-hr],rfl⟩
def ofG(l:List BlkD):Gr:=rows (λi=>nm (nth l i).term.to l.length) l.length
theorem GK{l:List BlkD}{v:Value}{p:Int}{h:Heap}(hv:SlRd (vw h) v l)(hl:l.length<=1000000)(hs : ∀i,i<l.length->(nth l i).term.to.length<=1000000):
  ay VI 212 #[.agg #[Vz VA p,v]] h (λu h'=>(vw h).le (vw h')/\SlRd (fresh h h') u (ofG l)):=by
 refine ao (args:=[.agg #[Vz VA p,v]]) follows Tryz.func212 E.iM Vu λK hK=>?_;obtain⟨hvc,hvo⟩:=hv.cells;simp[L.iM];refine ef (v:=.agg #[Vz VA p,v]) V5 ?_;have hle1:=b8 h (.cells (Value.agg #[Vz VA p,v]).cells T.gB);have hc1:aq (vw (h.push (.cells (Value.agg #[Vz VA p,v]).cells T.gB))) ⟨h.size,1,VD⟩=VC v:=df (c:=#[Vz VA p,v]) (T:=T.gB) (fz:=(0,0)) (by simp[vw,Value.cells]) rfl;generalize h.push (.cells (Value.agg #[Vz VA p,v]).cells T.gB)=h1 at hle1 hc1;have hv1:=hv.mono hle1;simp[hc1,hv1.len];refine Mine.made (α:=List Int) (V:=nothing) (W:=nothing) (h0:=h1) (n:=l.length) (d:=[]) El.lh Vw (λ_ _ h=>by cases h) (Old.nothing _ _) (by simp<;>rfl) (by simp<;>rfl) Kn V4 V4 λo h2 m hle2 _=>?_;have hc2:=ae hle2 hc1;have hv2:=hv1.mono hle2;simp[hc2,hv2.len];refine aF [1,3,11,12,13] (fun(_:View) k=>[ptz h.size,o,v,Vz VA l.length,Vz VA k]) (λW k h3=>Mine nothing h1 h3 W T.aZ o (rows (λi=>nm (nth l i).term.to l.length) k++List.replicate (l.length-k) [])) l.length nothing
  rfl V4 rfl m (λ_ _=>rfl) (λv k h1 hk m=>by simp) ?_ ?_
 ·rintro W a h3 hlta m K2 hK2;have hle3:=m.old;have hc3:=ae hle3 hc1;have hv3:=hv1.mono hle3;obtain⟨u,hu1,hu2⟩:=hv3.wh rfl (N:=6) rfl hlta;have hal:=hs a hlta;have hl5:(rows (λi=>nm (nth l i).term.to l.length) a++List.replicate (l.length-a) ([]:List Int)).length=l.length:=by simp;omega
  refine aa λz hz=>?_;simp(disch:=omega)[hv3.idxn (N:=6) rfl,hu1 _ Vw];refine cW (z:=zz3) V0 rfl V0 hu2 V8 V8 λh4 hle4 hsz4 hat=>?_;obtain⟨vp,vi,va,vt,bp,bi,bk,ba,bt⟩:=mD (hat (vw h4) hle4 rfl);have hc4:=ae hle4 hc3;have hv4:=hv3.mono hle4;subst hz;simp[bt.1,hc4,hv4.len];refine ah V0 (Hg bt.2 V4) ?_;rintro r h5 ⟨W',mr⟩;have m5:=(m.ext' hle4).ext mr.old;have hr:=mr.fresh.mono (kr W _ _);simp(disch:=omega)[m5.now.idx1 rfl];refine m5.put1 (α:=List Int) (i:=a) V0 rfl V5 (by simp<;>rfl) V4 (dw.2 hr) λh6 m6=>hK2 (grow W h4 h5) _ _ rfl rfl ?_;rw[As (x:=λi=>nm (nth l i).term.to l.length) hlta]at m6;exact m6
 rintro W h3 m;simp at m;simp;exact hK _ _ ⟨Vx hle1 m.old,m.fresh.mono (Aa hle1)⟩
def nz(w:Int × Int)(idom:List Int)(blk at_:Int):Bool:=(decide (w.1=blk)&&(decide (w.2<at_)||decide (w.2<0)))||(!decide (w.1=blk)&&eM idom w.1 blk)
def useS(ps:Int)(m:MW)(idom:List Int)(v blk place at_ told:Int):Except Tr Unit:=
 if 0<=v/\v<ps then .ok () else match m v with
  | none=>.error (13,told,place)
  | some w=>if nz w idom blk at_ then .ok () else .error (13,told,place)
theorem FV{Kb r:Nat}{vb vd:Value}{f:ak}{m:MW}{idom:List Int}{h:Heap}{p5 p6:Addr}{v blk place at_ told:Int}(k:Lk h Kb r vb f m)(h5:aq (vw h) p5=VC (ptz Kb))(h6:aq (vw h) p6=VC vd)(hd:SlRd (vw h) vd idom):
  jG VI 216 #[Vz VA v,Vz VA blk,Vz VA place,Vz VA at_,Vz VA told,VF (VC p5),VF (VC p6)] h (λ_ h'=>useS f.params m idom v blk place at_ told = .ok ()/\(vw h).le (vw h'))
   (λch h'=>∃t,useS f.params m idom v blk place at_ told = .error t/\ch=trV t/\(vw h).le (vw h')):=by
 refine jk (args:=[Vz VA v,Vz VA blk,Vz VA place,Vz VA at_,Vz VA told,VF (VC p5),VF (VC p6)]) follows Tryz.func216 E.gO Vu λK Kp hK hKp=>?_;dsimp only[L.gO,lkF,lkG];by_cases hp:0<=v/\v<f.params
 ·simp[h5,ae dm k.c0,hp];exact hK _ _ ⟨by simp[useS,hp],View.le_refl _⟩
 have hu:useS f.params m idom v blk place at_ told=match m v with
   | none=>.error (13,told,place)
   | some w=>if nz w idom blk at_ then .ok () else .error (13,told,place):=by rw[useS,if_neg hp]
 rw[hu]at hK hKp;refine aa λz hz=>?_;have hc:(decide (0<=v)&&decide (v<f.params))=false:=by rw[T4];intro e;exact hp (by simpa using e)
 simp[h5,ae dm k.c0,hc];subst hz;refine aa λz hz=>?_;simp[h5,ae dm k.c2];refine eo (z:=zz1) U.fV U.int V0 (by simp<;>rfl) (by simp<;>rfl) cM k.map ?_;have cellsW:((mapE encW m (Vz VA v))).getD (.agg #[Vz VA 0,Vz VA 0])=encW ((m v).getD (0,0)):=by rw[og];cases m v<;>rfl
 have isW:(mapE encW m (Vz VA v)).isSome=(m v).isSome:=by rw[og];cases m v<;>rfl
 rw[cellsW,isW];simp;refine gA (n:=2) (v:=encW ((m v).getD (0,0))) (z:=zz1) V0 rfl V0 rfl (by simp[encW,Value.oneCell']) V8 V8 λh3 hle3 hsz3 hb3=>?_;have d0:aq (vw h3) ⟨h.size,0,VD⟩=VC (Vz VA ((m v).getD (0,0)).1):=df (show vw h3 h.size=_ from hb3) rfl;have d1:aq (vw h3) ⟨h.size,1,VD⟩=VC (Vz VA ((m v).getD (0,0)).2):=df (show vw h3 h.size=_ from hb3) rfl;have h63:=ae hle3 h6;have hd3:=hd.mono hle3;generalize h.size=B at d0 d1;subst hz;have fin : ∀(ok:Bool) (h4:Heap) (ρ:Env) (z:LC),(vw h).le (vw h4)->(∀w,m v=VC w->ok=nz w idom blk at_)->(m v=VD->ok=VH)->z = .reg VH (.loud [65,66,67] [] [(65,.tmp 13),(66,.tmp 4),(67,.tmp 2)] VD [] VH (.call ⟨.value (.func 154),#[.tmp 65,.const (Vz VA 13),.tmp 66,.tmp 67],#[T.bool,T.qm,T.int,T.int]⟩) 0 (VC 68) VH (.fin [] [] []))->
   Lft.look ρ 13=VC (.bool ok)->Lft.look ρ 4=VC (Vz VA told)->Lft.look ρ 2=VC (Vz VA place)->@LC.wp (ppOf Kp) VI z (@dR [] K) ρ h4:=by
  rintro ok h4 ρ _ hle4 hs hn rfl e13 e4 e2;simp[e13,e4,e2];refine dZ V0 iU ?_ ?_
  ·rintro _ _ ⟨e,rfl⟩;refine hK _ _ ⟨?_,hle4⟩;cases hm:m v with
   | none=>rw[hn hm]at e;cases e
   | some w=>simp only;rw[if_pos (by rw[<-hs w hm];exact e)]
  rintro _ _ ⟨e,rfl,rfl⟩;refine⟨.inl rfl,hKp _ _ ⟨_,?_,rfl,hle4⟩⟩;cases hm:m v with
  | none=>rfl
  | some w=>simp only;rw[if_neg (by rw[<-hs w hm,e];simp)]
 refine aa λz hz=>?_;cases hm:m v with
 | none=>rw[hm]at d0 d1;simp[d0,d1];refine fin VH _ _ _ hle3 (λw hw=>by rw[hm]at hw;cases hw) (λ_=>rfl) hz ?_ ?_ ?_<;>simp
 | some w=>
  rw[hm]at d0 d1;simp at d0 d1;by_cases c1:w.1=blk
  ·by_cases c2:w.2<at_
   ·simp[d0,d1,c1,c2];refine fin VG _ _ _ hle3 (λw' hw=>by rw[hm]at hw;cases hw;simp[nz,c1,c2]) (λe=>by simp[hm]at e) hz ?_ ?_ ?_<;>simp
   by_cases c3:w.2<0
   ·simp[d0,d1,c1,c2,c3];refine fin VG _ _ _ hle3 (λw' hw=>by rw[hm]at hw;cases hw;simp[nz,c1,c2,c3]) (λe=>by simp[hm]at e) hz ?_ ?_ ?_<;>simp
   simp[d0,d1,c1,c2,c3];refine fin VH _ _ _ hle3 (λw' hw=>by rw[hm]at hw;cases hw;simp[nz,c1,c2,c3]) (λe=>by simp[hm]at e) hz ?_ ?_ ?_<;>simp
  simp[d0,d1,c1,h63];refine ah V0 (CU hd3) ?_;rintro _ h4 ⟨rfl,hle4⟩;refine fin _ _ _ _ (Vx hle3 hle4) (λw' hw=>by rw[hm]at hw;cases hw;simp[nz,c1];rfl) (λe=>by simp[hm]at e) hz ?_ ?_ ?_<;>simp
end
section
def mY(x:PhiD)(row:List Int)(b:Nat):Bool:=decide (0<b)&&decide ((x.ins.length:Int)=(row.length:Int))
def Ca(x:PhiD)(row:List Int)(j:Nat):Bool:=decide ((nth x.ins j).frm=nth row j)
def DM(x:PhiD)(row:List Int)(b:Nat):Bool:=mY x row b&&yi (Ca x row) x.ins.length
def uAll(g:Nat->Except Tr Unit)(n:Nat):Except Tr Unit:=upE (λi _=>g i) n ()
def phiU(f:ak)(m:MW)(idom:List Int)(preds:Gr)(b i:Nat):Except Tr Unit:=
 let x:=nth (nth f.blocks b).phis i
 if DM x (nth preds b) b then uAll (λj=>useS f.params m idom (nth x.ins j).val (nth x.ins j).frm (-1-i) (nth f.blocks (nth x.ins j).frm.toNat).ins.length b) x.ins.length else .error (16,b,-1-i)
def insU(f:ak)(m:MW)(idom:List Int)(b i:Nat):Except Tr Unit:=
 uAll (λj=>useS f.params m idom (nth (nth (nth f.blocks b).ins i).args j) b i i b) (nth (nth f.blocks b).ins i).args.length
def endU(f:ak)(m:MW)(idom:List Int)(b:Nat):Except Tr Unit:=
 uAll (λj=>useS f.params m idom (nth (nth f.blocks b).term.args j) b (nth f.blocks b).ins.length (nth f.blocks b).ins.length b) (nth f.blocks b).term.args.length
def andE(x y:Except Tr Unit):Except Tr Unit:=match x with | .ok _=>y | .error t=>.error t
def blkU(f:ak)(m:MW)(idom:List Int)(preds:Gr)(b:Nat):Except Tr Unit:=
 andE (uAll (phiU f m idom preds b) (nth f.blocks b).phis.length) (andE (uAll (insU f m idom b) (nth f.blocks b).ins.length) (endU f m idom b))
def xr(f:ak)(b:Nat):Except Tr Unit:=if decide ((b:Int)∈bN (ofG f.blocks)) then .ok () else .error (15,b,0)
def wJ(f:ak)(m:MW)(idom:List Int):Except Tr Unit:=
 andE (uAll (xr f) f.blocks.length) (uAll (blkU f m idom (dN (ofG f.blocks))) f.blocks.length)
theorem qS{g:Nat->Except Tr Unit}{n k:Nat}{t:Tr}(h:uAll g k = .ok ())(hk:k<n)(he:g k = .error t):uAll g n = .error t:=CF h hk he
theorem lX{g:Nat->Except Tr Unit}{k:Nat}(h:uAll g k = .ok ()):uAll g (k+1)=g k:=qn h
theorem JE{H:View}{B:Nat}{u v:Value}(h0:aq H ⟨B,0,VD⟩=VC u)(h1:aq H ⟨B,1,VD⟩=VC v):Un.ev H (.bI 2) (ptz B)=VC (.agg #[u,v]):=by simp[Un.ev,vP,dY,h0,h1]
theorem Pu{l:List BlkD}(hl:l.length<=1000000)(hs : ∀i,i<l.length->(nth l i).term.to.length<=1000000):Sm (ofG l):=by
 have hlen:(ofG l).length=l.length:=by simp[ofG]
 refine⟨by omega,λi hi=>?_⟩;rw[hlen]at hi;rw[ofG,gF hi];exact St A0 (hs i hi)
theorem NU{Kb r:Nat}{vb:Value}{f:ak}{m:MW}{idom:List Int}{fuel:Nat}{h:Heap}(k:Lk h Kb r vb f m)(hn:f.blocks.length<=1000000)(hto : ∀i,i<f.blocks.length->(nth f.blocks i).term.to.length<=1000000)(hd:BO (ofG f.blocks) fuel=VC idom):
  jG VI 156 #[ptz Kb] h (λ_ h'=>wJ f m idom = .ok ()/\(vw h).le (vw h')) (λch h'=>∃t,wJ f m idom = .error t/\ch=trV t/\(vw h).le (vw h')):=by
 refine jk (args:=[ptz Kb]) follows Tryz.func156 E.aw Vu λK Kp hK hKp=>?_;have hbb:=k.rb.bound;have hsm:=Pu hn hto;have hgl:(ofG f.blocks).length=f.blocks.length:=by simp[ofG]
 dsimp only[L.aw,lkF,lkG];refine aa λz hz=>?_;simp;refine ef (v:=ptz Kb) V5 ?_;have hle1:=b8 h (.cells (Value.cells (ptz Kb)) T.nV);have h51:aq (vw (h.push (.cells (Value.cells (ptz Kb)) T.nV))) ⟨h.size,0,VD⟩=VC (ptz Kb):=by simp[aq,vw]
 generalize h.push (.cells (Value.cells (ptz Kb)) T.nV)=h1 at hle1 h51;generalize h.size=B at h51;have k1:=k.ext hle1;subst hz;refine aa λz hz=>?_;simp[h51,JE (ae dm k1.c0) (ae dm k1.c1)];refine ah V0 (GK (k1.rb.mono dm) hn hto) ?_;rintro vg h2 ⟨hle2,hg⟩;have hg2:=hg.mono (mO _ _);subst hz;refine aa λz hz=>?_;simp;refine ah V0 (D0 hg2 hsm) ?_;rintro vo h3 ⟨hle3,ho⟩;have ho3:=ho.mono (mO _ _);have hg3:=hg2.mono hle3;have hle13:=Vx hle2 hle3;have k3:=k1.ext hle13;have h53:=ae hle13 h51;have hle03:=Vx hle1 hle13;subst hz;refine aa λz hz=>?_;simp[h53,ae dm k3.c1,k3.rb.len];refine aF [0,1,2,3,35,36] (fun(_:Unit) b=>[ptz Kb,ptz B,vg,vo,Vz VA f.blocks.length,Vz VA b]) (λ_ b h4=>h4=h3/\uAll (xr f) b = .ok ()) f.blocks.length ()
  rfl V4 rfl ⟨rfl,rfl⟩ (λ_ _=>rfl) (λv i h1 hk m=>by simp) ?_ ?_
 ·rintro _ b h3 hlt ⟨rfl,hpre⟩ K2 hK2;simp;refine ah V0 (yx ho3) ?_;rintro _ _ ⟨rfl,rfl⟩;simp;refine dZ V0 iU ?_ ?_
  ·rintro _ _ ⟨e,rfl⟩;exact hK2 () _ _ rfl rfl ⟨rfl,by rw[lX hpre,xr,if_pos e]⟩
  rintro _ _ ⟨e,rfl,rfl⟩;exact⟨.inl rfl,hKp _ _ ⟨_,by rw[wJ,qS hpre hlt (by rw[xr,if_neg (by rw[e];simp)])];rfl,rfl,hle03⟩⟩
 rintro _ h3 ⟨rfl,hreach⟩;have hus:wJ f m idom=uAll (blkU f m idom (dN (ofG f.blocks))) f.blocks.length:=by rw[wJ,hreach];rfl
 rw[hus]at hK hKp;simp;subst hz;refine aa λz hz=>?_;simp;refine ah V0 (Dz hg3 hsm) ?_;rintro vp h4 ⟨hle4,hp⟩;have hp4:=hp.mono (mO _ _);refine ah V0 (Nj (hg3.mono hle4) hsm hd) ?_;rintro vi h5 ⟨W,mi⟩;have hi5:=mi.now;refine cW (α:=List Int) (z:=VE VD 0 0) (X:=vw h5) V0 rfl V0 (dw.2 hi5) V8 V8 λh6 hle6 hsz6 hat=>?_;obtain⟨vd,hvd,hd6⟩:=(hat (vw h6) hle6 rfl).sl;generalize h5.size=C at hvd;subst hz;have hle36:=Vx hle4 (Vx mi.old hle6);have hp6:=hp4.mono (Vx mi.old hle6);have k6:=k3.ext hle36;have h56:=ae hle36 h53;have hle06:=Vx hle03 hle36;have hpl:(dN (ofG f.blocks)).length=f.blocks.length:=by rw[sr,hgl]
 have hin : ∀b,∀x∈nth (dN (ofG f.blocks)) b,0<=x/\x<f.blocks.length:=by
  rw[<-hgl];exact xy (λe he=>(tH he).1) (λi x hx=>by
   rcases Sb i (ofG f.blocks).length with hi | hi
   ·rw[aD hi]at hx;cases hx
   rw[bK (by simpa using hi)]at hx;cases hx)
 generalize dN (ofG f.blocks)=preds at hp6 hpl hin hK hKp;obtain⟨pv,hpv⟩:=hp6.rows;simp[h56,ae dm k6.c1,k6.rb.len];refine aF [1,5,7,54,55,56] (fun(_:Unit) b=>[ptz B,vp,.func (.func 216) #[] #[ptz B,ptz C],vb,Vz VA f.blocks.length,Vz VA b]) (λ_ b h7=>(vw h6).le (vw h7)/\uAll (blkU f m idom preds) b = .ok ()) f.blocks.length ()
  rfl V4 rfl ⟨View.le_refl _,rfl⟩ (λ_ _=>rfl) (λv i h1 hk m=>by simp) ?_ ?_
 ·rintro _ b h7 hltb ⟨hle7,hpre⟩ K2 hK2;have k7:=k6.ext hle7;have rb7:=k7.rb.mono dm;obtain⟨u,hu,hur⟩:=rb7.wh rfl (N:=6) rfl hltb;obtain⟨pc,pr⟩:=hpv b V4;have hst:=lX hpre;have her : ∀{t},blkU f m idom preds b = .error t->uAll (blkU f m idom preds) f.blocks.length = .error t:=λe=>qS hpre hltb e;refine aa λz hz=>?_;simp(disch:=omega)[rb7.idxn (N:=6) rfl,hu _ Vw];refine cW (z:=zz3) V0 rfl V0 hur V8 V8 λh8 hle8 hsz8 hat=>?_;obtain⟨wp,wi,wa,wt,bp,bi,bk,ba,bt⟩:=mD (hat (vw h8) hle8 rfl);generalize h7.size=D at bp bi bk ba bt;subst hz;have hle68:=Vx hle7 hle8;have bph:=bp.2.bound;have bin:=bi.2.bound;have bar:=ba.2.bound;refine aa λz hz=>?_;simp[bp.1,bp.2.len];refine aF [1,5,7,8,9,54,55,56,62,63,64] (fun(_:Unit) i=>[ptz B,vp,.func (.func 216) #[] #[ptz B,ptz C],Vz VA b,ptz D,vb,Vz VA f.blocks.length,Vz VA b,wp,Vz VA (nth f.blocks b).phis.length,Vz VA i])
   (λ_ i h9=>(vw h8).le (vw h9)/\uAll (phiU f m idom preds b) i = .ok ()) (nth f.blocks b).phis.length ()
   rfl V4 rfl ⟨View.le_refl _,rfl⟩ (λ_ _=>rfl) (λv i h1 hk m=>by simp) ?_ ?_
  ·rintro _ i h9 hlti ⟨hle9,hpre9⟩ K3 hK3;have hst9:=lX hpre9;have her9 : ∀{t},phiU f m idom preds b i = .error t->blkU f m idom preds b = .error t:=λe=>by rw[blkU,qS hpre9 hlti e];rfl
   have bp9:=bp.2.mono hle9;obtain⟨u9,hu9,hur9⟩:=bp9.wh rfl (N:=2) rfl hlti;refine aa λy hy=>?_;simp(disch:=omega)[bp9.idxn (N:=2) rfl,hu9 _ Vw];refine cW (z:=zz4) V0 rfl V0 hur9 V8 V8 λh10 hle10 hsz10 hat10=>?_;obtain⟨_,wq,cq⟩:=yP (hat10 (vw h10) hle10 rfl);simp only[phiU]at hst9 her9;generalize nth (nth f.blocks b).phis i=x at cq hst9 her9;generalize h9.size=D10 at cq;have bq:=cq.2.bound;subst hy;refine aa λy hy=>?_;have hle610:=Vx hle68 (Vx hle9 hle10);have hp10:=hp6.mono hle610;have pr10:=pr.mono hle610;have hbase:(decide (0<b)&&decide ((x.ins.length:Int)=((nth preds b).length:Int)))=mY x (nth preds b) b:=rfl;simp(disch:=omega)[cq.1,cq.2.len,hp10.idx1 rfl,pc _ hle610,pr10.len];rw[hbase];subst hy;refine aa λy hy=>?_;simp[cq.1,cq.2.len];refine aF [1,5,7,8,9,10,11,12,54,55,56,62,63,64,83,84,85] (fun(_:Unit) j=>[ptz B,vp,.func (.func 216) #[] #[ptz B,ptz C],Vz VA b,ptz D,Vz VA i,ptz D10,
     .bool (mY x (nth preds b) b&&yi (Ca x (nth preds b)) j),vb,Vz VA f.blocks.length,Vz VA b,wp,Vz VA (nth f.blocks b).phis.length,Vz VA i,wq,Vz VA x.ins.length,Vz VA j])
    (λ_ j h11=>(vw h10).le (vw h11)) x.ins.length ()
    rfl V4 (by simp[aY];intro _;rfl) Vw (λ_ _=>rfl) (λv i h1 hk m=>by simp) ?_ ?_
   ·rintro _ j h11 hltj hle11 K4 hK4;have cq11:=cq.2.mono hle11;obtain⟨u11,hu11,hur11⟩:=cq11.wh rfl (N:=2) rfl hltj;refine aa λq hq=>?_;simp(disch:=omega)[cq11.idxn (N:=2) rfl,hu11 _ Vw];refine cW (z:=zz1) V0 rfl V0 hur11 V8 V8 λh12 hle12 hsz12 hat12=>?_;obtain⟨e0,e1⟩:=Gf (hat12 (vw h12) hle12 rfl);generalize h11.size=D12 at e0 e1;subst hq;have hle612:=Vx hle610 (Vx hle11 hle12);have hp12:=hp6.mono hle612;have pr12:=pr.mono hle612;cases hfit:mY x (nth preds b) b&&yi (Ca x (nth preds b)) j with
    | false=>simp;refine hK4 () _ _ rfl ?_ (Vx hle11 hle12);rw[zB,<-Bool.and_assoc,hfit];rfl
    | true=>
     have hlen:x.ins.length=(nth preds b).length:=by simp only[Se,mY,decide_eq_true_eq]at hfit;omega
     simp(disch:=omega)[e0,hp12.idx1 rfl,pc _ hle612,pr12.idx1 rfl,pr12.int Vw];refine hK4 () _ _ rfl ?_ (Vx hle11 hle12);rw[zB,<-Bool.and_assoc,hfit];rfl
   rintro _ h11 hle11;have hfs:(mY x (nth preds b) b&&yi (Ca x (nth preds b)) x.ins.length)=DM x (nth preds b) b:=rfl;rw[hfs];simp;subst hy;refine aa λy hy=>?_;simp(disch:=omega);have hle011:=Vx hle06 (Vx hle610 hle11);refine dZ V0 iU ?_ ?_;rotate_left
   ·rintro _ _ ⟨e,rfl,rfl⟩;exact⟨.inl rfl,hKp _ _ ⟨_,her (her9 (by rw[if_neg (by rw[e];simp)])),rfl,hle011⟩⟩
   rintro _ h11 ⟨efit,rfl⟩;rw[if_pos efit]at hst9;have her9' : ∀{t},uAll (λj=>useS f.params m idom (nth x.ins j).val (nth x.ins j).frm (-1-i) (nth f.blocks (nth x.ins j).frm.toNat).ins.length b) x.ins.length = .error t->blkU f m idom preds b = .error t:=λe=>her9 (by rw[if_pos efit];exact e);have hlen:x.ins.length=(nth preds b).length:=by simp only[Se,DM,mY,decide_eq_true_eq]at efit;omega
   have hfrm : ∀j,j<x.ins.length->0<=(nth x.ins j).frm/\(nth x.ins j).frm<f.blocks.length:=λj hj=>by have h1:=G0.1 (Se _ _▸efit:_/\_).2 j hj;simp only[Ca,decide_eq_true_eq]at h1;rw[h1];exact hin b _ (bh V4)
   subst hy;have cq11:=cq.2.mono hle11;simp[ae hle11 cq.1,cq11.len];refine aF [1,5,7,8,9,10,11,54,55,56,62,63,64,110,111,112] (fun(_:Unit) j=>[ptz B,vp,.func (.func 216) #[] #[ptz B,ptz C],Vz VA b,ptz D,Vz VA i,ptz D10,
     vb,Vz VA f.blocks.length,Vz VA b,wp,Vz VA (nth f.blocks b).phis.length,Vz VA i,wq,Vz VA x.ins.length,Vz VA j])
    (λ_ j h12=>(vw h11).le (vw h12)/\uAll (λj=>useS f.params m idom (nth x.ins j).val (nth x.ins j).frm (-1-i) (nth f.blocks (nth x.ins j).frm.toNat).ins.length b) j = .ok ()) x.ins.length ()
    rfl V4 rfl ⟨View.le_refl _,rfl⟩ (λ_ _=>rfl) (λv i h1 hk m=>by simp) ?_ ?_
   ·rintro _ j h12 hltj ⟨hle12,hpre12⟩ K4 hK4;have hst12:=lX hpre12;have cq12:=cq11.mono hle12;obtain⟨u12,hu12,hur12⟩:=cq12.wh rfl (N:=2) rfl hltj;refine aa λq hq=>?_;simp(disch:=omega)[cq12.idxn (N:=2) rfl,hu12 _ Vw];refine cW (z:=zz1) V0 rfl V0 hur12 V8 V8 λh13 hle13 hsz13 hat13=>?_;obtain⟨e0,e1⟩:=Gf (hat13 (vw h13) hle13 rfl);generalize h12.size=D13 at e0 e1;have hf:=hfrm j hltj;generalize hxj:nth x.ins j=w at e0 e1 hst12 hf;subst hq;have hle613:=Vx hle610 (Vx hle11 (Vx hle12 hle13));have k13:=k6.ext hle613;have rb13:=k13.rb.mono dm;have h513:=ae hle613 h56;obtain⟨ul,hul⟩:=(((rb13.at (i:=w.frm.toNat) V4).part BlkD.jm)).sl;rw[<-az V4]at hul;have hul1:aq (vw h13) (((slA vb).add (w.frm.toNat*6)).add 1)=VC ul:=hul.1;refine aN (vw h13) Vw ?_;simp(disch:=omega)[e0,e1,h513,ae dm k13.c1,rb13.idxn (N:=6) rfl,hul1,hul.2.len];refine xk (ops:=[.tmp 118,.tmp 120,.tmp 122,.tmp 133,.tmp 134]) rfl V0 (FV k13 h513 (ae hle613 hvd) (hd6.mono hle613)) ?_ ?_
    ·rintro _ h14 ⟨e,hle14⟩;exact hK4 () _ _ rfl rfl ⟨Vx hle12 (Vx hle13 hle14),by rw[hst12];exact e⟩
    rintro _ h14 ⟨t,e,rfl,hle14⟩;exact⟨.inr λ_=>trivial,hKp _ _ ⟨t,her (her9' (qS hpre12 hltj (by rw[hxj];exact e))),rfl,Vx hle06 (Vx hle613 hle14)⟩⟩
   rintro _ h12 ⟨hle12,hpre12⟩;simp;exact hK3 () _ _ rfl rfl ⟨Vx hle9 (Vx hle10 (Vx hle11 hle12)),by rw[hst9];exact hpre12⟩
  rintro _ h9 ⟨hle9,hpre9⟩;have hbu:blkU f m idom preds b=andE (uAll (insU f m idom b) (nth f.blocks b).ins.length) (endU f m idom b):=by rw[blkU,hpre9];rfl
  rw[hbu]at hst her;simp;subst hz;refine aa λz hz=>?_;have bi9:=bi.2.mono hle9;simp[ae hle9 bi.1,bi9.len];refine aF [1,5,7,8,9,54,55,56,139,140,141] (fun(_:Unit) i=>[ptz B,vp,.func (.func 216) #[] #[ptz B,ptz C],Vz VA b,ptz D,vb,Vz VA f.blocks.length,Vz VA b,wi,Vz VA (nth f.blocks b).ins.length,Vz VA i])
   (λ_ i h10=>(vw h9).le (vw h10)/\uAll (insU f m idom b) i = .ok ()) (nth f.blocks b).ins.length ()
   rfl V4 rfl ⟨View.le_refl _,rfl⟩ (λ_ _=>rfl) (λv i h1 hk m=>by simp) ?_ ?_
  ·rintro _ i h10 hlti ⟨hle10,hpre10⟩ K3 hK3;have hst10:=lX hpre10;have her10 : ∀{t},insU f m idom b i = .error t->uAll (blkU f m idom preds) f.blocks.length = .error t:=λe=>her (by rw[qS hpre10 hlti e];rfl);have bi10:=bi9.mono hle10;obtain⟨u10,hu10,hur10⟩:=bi10.wh rfl (N:=5) rfl hlti;refine aa λy hy=>?_;simp(disch:=omega)[bi10.idxn (N:=5) rfl,hu10 _ Vw];refine cW (z:=zz5) V0 rfl V0 hur10 V8 V8 λh11 hle11 hsz11 hat11=>?_;obtain⟨_,_,_,wq,cq⟩:=nC (hat11 (vw h11) hle11 rfl);rw[insU]at hst10 her10;generalize nth (nth f.blocks b).ins i=x at cq hst10 her10;generalize h10.size=D11 at cq;have bq:=cq.2.bound;subst hy;simp[cq.1,cq.2.len];refine aF [1,5,7,8,9,17,54,55,56,139,140,141,147,148,149] (fun(_:Unit) j=>[ptz B,vp,.func (.func 216) #[] #[ptz B,ptz C],Vz VA b,ptz D,Vz VA i,vb,Vz VA f.blocks.length,Vz VA b,wi,Vz VA (nth f.blocks b).ins.length,Vz VA i,wq,Vz VA x.args.length,Vz VA j])
    (λ_ j h12=>(vw h11).le (vw h12)/\uAll (λj=>useS f.params m idom (nth x.args j) b i i b) j = .ok ()) x.args.length ()
    rfl V4 rfl ⟨View.le_refl _,rfl⟩ (λ_ _=>rfl) (λv i h1 hk m=>by simp) ?_ ?_
   ·rintro _ j h12 hltj ⟨hle12,hpre12⟩ K4 hK4;have hst12:=lX hpre12;have cq12:=cq.2.mono hle12;have hle612:=Vx hle68 (Vx hle9 (Vx hle10 (Vx hle11 hle12)));have k12:=k6.ext hle612;have h512:=ae hle612 h56;simp(disch:=omega)[cq12.idx1 rfl,cq12.int Vw];refine xk (ops:=[.tmp 154,.tmp 155,.tmp 156,.tmp 157,.tmp 158]) rfl V0 (FV k12 h512 (ae hle612 hvd) (hd6.mono hle612)) ?_ ?_
    ·rintro _ h14 ⟨e,hle14⟩;exact hK4 () _ _ rfl rfl ⟨Vx hle12 hle14,by rw[hst12];exact e⟩
    rintro _ h14 ⟨t,e,rfl,hle14⟩;exact⟨.inl rfl,hKp _ _ ⟨t,her10 (qS hpre12 hltj e),rfl,Vx hle06 (Vx hle612 hle14)⟩⟩
   rintro _ h12 ⟨hle12,hpre12⟩;simp;exact hK3 () _ _ rfl rfl ⟨Vx hle10 (Vx hle11 hle12),by rw[hst10];exact hpre12⟩
  rintro _ h10 ⟨hle10,hpre10⟩;have hbu2:andE (uAll (insU f m idom b) (nth f.blocks b).ins.length) (endU f m idom b)=endU f m idom b:=by rw[hpre10];rfl
  rw[hbu2]at hst her;rw[endU]at hst her;simp;subst hz;have ba10:=ba.2.mono (Vx hle9 hle10);have ca10:=ae (Vx hle9 hle10) ba.1;have bi10:=bi9.mono hle10;have ci10:=ae (Vx hle9 hle10) bi.1;simp[ca10,ba10.len];refine aF [1,5,7,8,9,54,55,56,164,165,166] (fun(_:Unit) j=>[ptz B,vp,.func (.func 216) #[] #[ptz B,ptz C],Vz VA b,ptz D,vb,Vz VA f.blocks.length,Vz VA b,wa,Vz VA (nth f.blocks b).term.args.length,Vz VA j])
   (λ_ j h12=>(vw h10).le (vw h12)/\uAll (λj=>useS f.params m idom (nth (nth f.blocks b).term.args j) b (nth f.blocks b).ins.length (nth f.blocks b).ins.length b) j = .ok ()) (nth f.blocks b).term.args.length ()
   rfl V4 rfl ⟨View.le_refl _,rfl⟩ (λ_ _=>rfl) (λv i h1 hk m=>by simp) ?_ ?_
  ·rintro _ j h12 hltj ⟨hle12,hpre12⟩ K4 hK4;have hst12:=lX hpre12;have ba12:=ba10.mono hle12;have bi12:=bi10.mono hle12;have ci12:=ae hle12 ci10;have hle612:=Vx hle68 (Vx hle9 (Vx hle10 hle12));have k12:=k6.ext hle612;have h512:=ae hle612 h56;simp(disch:=omega)[ba12.idx1 rfl,ba12.int Vw,ci12,bi12.len];refine xk (ops:=[.tmp 171,.tmp 172,.tmp 175,.tmp 178,.tmp 179]) rfl V0 (FV k12 h512 (ae hle612 hvd) (hd6.mono hle612)) ?_ ?_
   ·rintro _ h14 ⟨e,hle14⟩;exact hK4 () _ _ rfl rfl ⟨Vx hle12 hle14,by rw[hst12];exact e⟩
   rintro _ h14 ⟨t,e,rfl,hle14⟩;exact⟨.inl rfl,hKp _ _ ⟨t,her (qS hpre12 hltj e),rfl,Vx hle06 (Vx hle612 hle14)⟩⟩
  rintro _ h12 ⟨hle12,hpre12⟩;simp;exact hK2 () _ _ rfl rfl ⟨Vx hle7 (Vx hle8 (Vx hle9 (Vx hle10 hle12))),by rw[hst];exact hpre12⟩
 rintro _ h7 ⟨hle7,hpre⟩;simp;exact hK _ _ ⟨hpre,Vx hle06 hle7⟩
end
section
def KD(t:Tr):FrameMode:=.panicking [{ v:=.iface T.gJ (.agg #[Vz VA t.1,Vz VA t.2.1,Vz VA t.2.2]),recovered:=true }]
theorem LG{a b c:Nat}{t:Tr}{h:Heap}{ra rb rc:Array Value}{ea eb ec:TypeId}(ha:h[a]? = VC (.cells ra ea (0,0)))(hb:h[b]? = VC (.cells rb eb (0,0)))(hc:h[c]? = VC (.cells rc ec (0,0)))(sa:ra.size=1)(sb:rb.size=1)(sc:rc.size=1)(hab:a≠b)(hac:a≠c)(hbc:b≠c):uY VI 153 #[ptz a,ptz b,ptz c] (.panicking (trV t)) h
   (λu' h'=>u'=KD t/\h'[a]? = VC (.cells #[Vz VA t.1] ea (0,0))/\h'[b]? = VC (.cells #[Vz VA t.2.1] eb (0,0))/\h'[c]? = VC (.cells #[Vz VA t.2.2] ec (0,0))/\h.size<=h'.size/\∀k,k<h.size->k≠a->k≠b->k≠c->h'[k]? = h[k]?):=by
 refine rP (args:=[ptz a,ptz b,ptz c]) (t:=6) (L:=L.gj.body.tail) (tys:=#[]) follows Tryz.func153 Q.gj V0 V0 V0 Vu E.sf V0 V0 Vu ?_;have ala:a<h.size:=(Sj.1 ha).1;have alb:b<h.size:=(Sj.1 hb).1;have alc:c<h.size:=(Sj.1 hc).1;have hrec:kZ (.panicking (trV t))=(.iface T.gJ (.agg #[Vz VA t.1,Vz VA t.2.1,Vz VA t.2.2]),KD t):=rfl;rw[hrec];simp[L.gj,LC.tail];refine ED (ms:=#[]) V0 rfl (.inr ⟨_,_,rfl,rfl⟩) ?_;simp;refine IL (d:=(Tryz.prog.underlying T.gJ).getD .bool) V0 V0 rfl ?_;simp;refine gA (n:=3) (z:=zz0) (v:=.agg #[Vz VA t.1,Vz VA t.2.1,Vz VA t.2.2]) V0 rfl V0 rfl Vr V8 V8 λh1 hle1 hs1 hb1=>?_;generalize hD:h.size=D at hb1 hs1;obtain⟨H,hH⟩ : ∃H:View,H=λk=>if k=D then h1[k]? else none:=⟨_,rfl⟩;have hHle : ∀h2:Heap,h2[D]? = h1[D]?->H.le (vw h2):=λh2 e k o hk=>by
  rw[hH]at hk;simp only at hk;split at hk
  ·rename_i e2;subst e2;show h2[_]? = _;rw[e];exact hk
  cases hk
 have hHD:H D=VC (.cells #[Vz VA t.1,Vz VA t.2.1,Vz VA t.2.2] T.gJ (0,0)):=by rw[hH];simp only[if_true];exact hb1
 have d0:aq H ⟨D,0,VD⟩=VC (Vz VA t.1):=df hHD rfl;have d1:aq H ⟨D,1,VD⟩=VC (Vz VA t.2.1):=df hHD rfl;have d2:aq H ⟨D,2,VD⟩=VC (Vz VA t.2.2):=df hHD rfl;refine aN H (hHle h1 rfl) ?_;simp[d0,d1,d2];refine eJ (g:=a) (o:=0) (n:=1) (v:=Vz VA t.1) V0 rfl rfl rfl Vr (hle1 _ _ ha) V4 λh2 hs2 ⟨row2,hr2,he2⟩ ho2=>?_;refine⟨hHle h2 (ho2 D V4),?_⟩;refine eJ (g:=b) (o:=0) (n:=1) (v:=Vz VA t.2.1) V0 rfl rfl rfl Vr ((ho2 b (Ne.symm hab)).trans (hle1 _ _ hb)) V4 λh3 hs3 ⟨row3,hr3,he3⟩ ho3=>?_;refine⟨hHle h3 ((ho3 D V4).trans (ho2 D V4)),?_⟩;refine eJ (g:=c) (o:=0) (n:=1) (v:=Vz VA t.2.2) V0 rfl rfl rfl Vr ((ho3 c (Ne.symm hbc)).trans ((ho2 c (Ne.symm hac)).trans (hle1 _ _ hc))) V4 λh4 hs4 ⟨row4,hr4,he4⟩ ho4=>?_;have one : ∀{row r:Array Value} {v:Value},v.cells = #[v]->r.size=1->row.toList=r.toList.take 0++v.cells.toList++r.toList.drop (0+1)->row = #[v]:=by intro row r v hv hr he;rw[<-Array.toList_inj,he,hv,T8,SV,SO (by simp[hr])];simp
 rw[one rfl sa he2]at hr2;rw[one rfl sb he3]at hr3;rw[one rfl sc he4]at hr4;refine⟨?_,?_,hr4,by omega,λk hk h1' h2' h3'=>?_⟩
 ·rw[ho4 a hac,ho3 a hab];exact hr2
 ·rw[ho4 b hbc];exact hr3
 rw[ho4 k h3',ho3 k h2',ho2 k h1'];exact(hle1 k h[k] (Sv V4)).trans (Sv V4).symm
theorem Gp{a b c:Nat}{h:Heap}:uY VI 153 #[ptz a,ptz b,ptz c] .returning h (λu' h'=>u' = .returning/\h'=h):=by refine rP (args:=[ptz a,ptz b,ptz c]) (t:=6) (L:=L.gj.body.tail) (tys:=#[]) follows Tryz.func153 Q.gj V0 V0 V0 Vu E.sf V0 V0 Vu ?_;have hrec:kZ .returning=(.nilIface,.returning):=rfl;rw[hrec];simp[L.gj,LC.tail];refine ED (ms:=#[]) V0 rfl (.inl ⟨rfl,rfl⟩) ?_;simp
def manyN(f:ak)(k:Nat):Int:=up (λi n=>n+(((nth f.blocks i).phis.length:Int)+(nth f.blocks i).ins.length)) k f.blocks.length
def G2(f:ak):Int:=manyN f f.blocks.length
def tT(g:Gr):List Int:=(BO g (g.length*g.length+1)).getD []
def By(f:ak):Except Tr MW->Except Tr Unit
 | .error t=>.error t
 | .ok m=>wJ f m (tT (ofG f.blocks))
def oy(f:ak):Except Tr Unit:=
 if cr f.params 0 4=VH then .error (1,0,0)
 else if f.blocks.length=0 then .error (14,0,0)
 else if ¬(f.blocks.length<=512/\G2 f<=4096) then .error (2,0,0)
 else By f (nT f (λ_=>VD))
def mP(f:ak):Tr:=match oy f with
 | .ok _=>(0,0,0)
 | .error t=>t
theorem NT{f:ak}{k:Nat}:0<=manyN f k:=by
 unfold manyN;induction k with
 | zero=>simp[up]
 | succ k ih=>rw[up];omega
theorem LW{f:ak}{m m':MW}(h:nT f m = .ok m'): ∀i,i<f.blocks.length->(nth f.blocks i).term.to.length<=65:=by
 intro i hi;have key : ∀n,n<=f.blocks.length->∃s,upE (blkS f) n m = .ok s:=λn hn=>by
  cases e:upE (blkS f) n m with
  | ok s=>exact⟨s,rfl⟩
  | error t=>rw[nT,Cp hn e]at h;cases h
 obtain⟨s,hs⟩:=key i V4;obtain⟨s',hs'⟩:=key (i+1) hi;rw[qn hs,blkS]at hs';split at hs'
 ·cases hs'
 split at hs'
 ·cases hs'
 rw[endS]at hs';split at hs'
 ·rename_i hok;rw[sM]at hok;split at hok
  ·rename_i sh hsh;simp only[cr,Se,decide_eq_true_eq]at hok;have:sh.2.2.2<=65:=by
    simp only[gQ,putM]at hsh;repeat' (split at hsh)
    all_goals first | (cases hsh;done) | (cases hsh;decide)
   omega
  cases hok
 cases hs'
end
section
theorem Ky{g:Gr}(hg:0<g.length):BO g (g.length*g.length+1)=VC (tT g):=by obtain⟨_,_,l,hl,_⟩:=BY hg;rw[tT,hl];rfl
theorem one_cell{row r:Array Value}{v:Value}(hv:v.cells = #[v])(hr:r.size=1)(he:row.toList=r.toList.take 0++v.cells.toList++r.toList.drop (0+1)):row = #[v]:=by rw[<-Array.toList_inj,he,hv,T8,SV,SO (by simp[hr])];simp
structure SmB(x:BlkD):Prop where
 phis:x.phis.length<=10000
 ins:x.ins.length<=10000
 args:x.term.args.length<=10000
 to:x.term.to.length<=10000
 phi : ∀i,i<x.phis.length->(nth x.phis i).ins.length<=10000
 inn : ∀i,i<x.ins.length->(nth x.ins i).args.length<=10000
structure SmF(f:ak):Prop where
 len:f.blocks.length<=10000
 blk : ∀i,i<f.blocks.length->SmB (nth f.blocks i)
theorem MK{f:ak}{v:Value}{h:Heap}(hv:Rd (vw h) v f)(hsm:SmF f):
  ay VI 116 #[v] h (λu h'=>u = .tuple #[Vz VA (mP f).1,Vz VA (mP f).2.1,Vz VA (mP f).2.2]/\(vw h).le (vw h')):=by
 refine tN (args:=[v]) (g:=153) (t:=9) (capops:=#[.tmp 2,.tmp 3,.tmp 4]) (tys:=#[])
  (Mid:=λρ hh=>ρ=[(0,v),(1,ptz h.size),(2,VF (VC ⟨h.size+1,0,VD⟩)),(3,VF (VC ⟨h.size+2,0,VD⟩)),(4,VF (VC ⟨h.size+3,0,VD⟩))]/\hh.size=h.size+4/\(vw h).le (vw hh)/\At (vw hh) ⟨h.size,0,VD⟩ f/\
   hh[h.size+1]? = VC (.cells #[Vz VA 0] T.qm (0,0))/\hh[h.size+2]? = VC (.cells #[Vz VA 0] T.int (0,0))/\hh[h.size+3]? = VC (.cells #[Vz VA 0] T.int (0,0)))
  follows Tryz.func116 B.om V0 V0 V0 V0 V0 V0 Vu V0 E.mA V0 E.iP V0 R.AB Vu ?_ ?_
 ·simp[L.mA];refine eI rfl hv λh1 e1 hle1 hs1 hat=>?_;refine dQ (z:=Vz VA 0) V0 ?_;refine dQ (z:=Vz VA 0) V0 ?_;refine dQ (z:=Vz VA 0) V0 ?_;have q1:=b8 h1 (.cells (Vz VA 0).cells T.qm);generalize e2:h1.push (.cells (Vz VA 0).cells T.qm)=h2 at q1;have b2:h2[h1.size]? = VC (.cells #[Vz VA 0] T.qm (0,0)):=by rw[<-e2];simp
  have s2:h2.size=h1.size+1:=by rw[<-e2];simp
  have q2:=b8 h2 (.cells (Vz VA 0).cells T.int);generalize e3:h2.push (.cells (Vz VA 0).cells T.int)=h3 at q2;have b3:h3[h2.size]? = VC (.cells #[Vz VA 0] T.int (0,0)):=by rw[<-e3];simp
  have s3:h3.size=h2.size+1:=by rw[<-e3];simp
  have q3:=b8 h3 (.cells (Vz VA 0).cells T.int);generalize e4:h3.push (.cells (Vz VA 0).cells T.int)=h4 at q3;have b4:h4[h3.size]? = VC (.cells #[Vz VA 0] T.int (0,0)):=by rw[<-e4];simp
  have s4:h4.size=h3.size+1:=by rw[<-e4];simp
  have hsz:h1.size=h.size+1:=hs1;have e22:h2.size=h.size+2:=by omega
  have e32:h3.size=h.size+3:=by omega
  rw[hsz]at b2;rw[e22]at b3;rw[e32]at b4;rw[e22,e32,hsz];simp;exact⟨by omega,Vx hle1 (Vx q1 (Vx q2 q3)),hat.mono (Vx q1 (Vx q2 q3)),q3 _ _ (q2 _ _ b2),q3 _ _ b3,b4⟩
 rintro ρ hh ⟨rfl,hs,hle,hat,hb1,hb2,hb3⟩;refine⟨[VF (VC ⟨h.size+1,0,VD⟩),VF (VC ⟨h.size+2,0,VD⟩),VF (VC ⟨h.size+3,0,VD⟩)],by simp[wv],
  ⟨λch h2=>∃t,oy f = .error t/\ch=trV t/\(vw hh).le (vw h2),λρ=>Lft.look ρ 2=VC (VF (VC ⟨h.size+1,0,VD⟩))/\Lft.look ρ 3=VC (VF (VC ⟨h.size+2,0,VD⟩))/\Lft.look ρ 4=VC (VF (VC ⟨h.size+3,0,VD⟩))⟩,?_,?_⟩;rotate_left
 ·rintro ch ρ2 h2 ⟨t,ht,rfl,hle2⟩ ⟨l2,l3,l4⟩;refine⟨_,LG (hle2 _ _ hb1) (hle2 _ _ hb2) (hle2 _ _ hb3) rfl rfl rfl V4 V4 V4,?_⟩;rintro u' h3 ⟨rfl,g1,g2,g3,gs,go⟩;have c1:aq (vw h3) ⟨h.size+1,0,VD⟩=VC (Vz VA t.1):=df (show vw h3 _=_ from g1) rfl;have c2:aq (vw h3) ⟨h.size+2,0,VD⟩=VC (Vz VA t.2.1):=df (show vw h3 _=_ from g2) rfl;have c3:aq (vw h3) ⟨h.size+3,0,VD⟩=VC (Vz VA t.2.2):=df (show vw h3 _=_ from g3) rfl;refine⟨rfl,[Vz VA t.1,Vz VA t.2.1,Vz VA t.2.2],by simp[R.om,l2,l3,l4,c1,c2,c3],?_⟩;refine⟨by simp[mP,ht],λb o hb=>?_⟩;have hlt:=View.lt (View.le_refl (vw h)) hb;show h3[b]? = _;have hb2':=hle2 _ _ (hle _ _ hb);have hlt2:=View.lt (View.le_refl (vw h2)) hb2';rw[go b hlt2 V4 V4 V4];exact hb2'
 obtain⟨cp,vb,cb⟩:=fh hat;have hbb:=cb.2.bound;have bad : ∀{t:Tr} {ch:List PanicEntry} {h2:Heap},oy f = .error t->ch=trV t->(vw hh).le (vw h2)->∃t,oy f = .error t/\ch=trV t/\(vw hh).le (vw h2):=λa b c=>⟨_,a,b,c⟩;simp only[oG,Je];dsimp only[L.iP,lkF,lkG];refine aa λz hz=>?_;simp[cp];refine ah V0 kL ?_;rintro _ _ ⟨rfl,rfl⟩;refine dZ V0 iU ?_ ?_;rotate_left
 ·rintro _ _ ⟨e,rfl,rfl⟩;exact⟨.inl rfl,bad (by rw[oy,if_pos e]) rfl Vw⟩
 rintro _ hh ⟨e1,rfl⟩;have e1':¬cr f.params 0 4=false:=by rw[e1];simp
 subst hz;refine aa λz hz=>?_;simp[cb.1,cb.2.len];refine dZ V0 iU ?_ ?_;rotate_left
 ·rintro _ _ ⟨e,rfl,rfl⟩;exact⟨.inl rfl,bad (by rw[oy,if_neg e1',if_pos (by simpa using e)]) rfl Vw⟩
 rintro _ hh ⟨e2,rfl⟩;have e2':¬f.blocks.length=0:=by intro e;rw[e]at e2;simp at e2
 subst hz;refine aa λz hz=>?_;simp[cb.1,cb.2.len];subst hz;refine aa λz hz=>?_;simp[cb.1,cb.2.len];refine aF [1,2,3,4,5,23,24,25] (fun(_:Unit) k=>[ptz h.size,VF (VC ⟨h.size+1,0,VD⟩),VF (VC ⟨h.size+2,0,VD⟩),VF (VC ⟨h.size+3,0,VD⟩),Vz VA (manyN f k),vb,Vz VA f.blocks.length,Vz VA k])
  (λ_ k h1=>(vw hh).le (vw h1)/\manyN f k<=f.blocks.length+k*2000000) f.blocks.length ()
  rfl V4 rfl ⟨View.le_refl _,by simp[manyN,up]⟩ (λ_ _=>rfl) (λv i h1 hk m=>by simp) ?_ ?_
 ·rintro _ k h1 hlt ⟨hle1,hmk⟩ K2 hK2;have cb1:=cb.2.mono hle1;obtain⟨u,hu,hur⟩:=cb1.wh rfl (N:=6) rfl hlt;refine aa λy hy=>?_;simp(disch:=omega)[cb1.idxn (N:=6) rfl,hu _ Vw];refine cW (z:=zz3) V0 rfl V0 hur V8 V8 λh2 hle2 hsz2 hat2=>?_;obtain⟨vp,vi,va,vt,bp,bi,_⟩:=mD (hat2 (vw h2) hle2 rfl);have bph:=bp.2.bound;have bih:=bi.2.bound;have hm1:manyN f (k+1)=manyN f k+(((nth f.blocks k).phis.length:Int)+(nth f.blocks k).ins.length):=rfl;have h0:=NT (f:=f) (k:=k);subst hy;simp[bp.1,bp.2.len,bi.1,bi.2.len];have s1:=(hsm.blk k hlt).phis;have s2:=(hsm.blk k hlt).ins;have s0:=hsm.len;rw[bj (a:=((nth f.blocks k).phis.length:Int)+(nth f.blocks k).ins.length) V4 V4,bj V4 V4];exact hK2 () _ _ rfl (by rw[hm1];rfl) ⟨Vx hle1 hle2,by rw[hm1];omega⟩
 rintro _ h1 ⟨hle1,hmk⟩;simp;subst hz;refine aa λz hz=>?_;have cb1:=cb.2.mono hle1;have cc1:=ae hle1 cb.1;have cp1:=ae hle1 cp;simp[cc1,cb1.len];have hms:manyN f f.blocks.length=G2 f:=rfl;rw[hms];refine dZ V0 iU ?_ ?_;rotate_left
 ·rintro _ _ ⟨e,rfl,rfl⟩;refine⟨.inl rfl,bad ?_ rfl hle1⟩;rw[oy,if_neg e1',if_neg e2',if_pos];intro e3;simp at e;omega
 rintro _ h1 ⟨e3,rfl⟩;have e3':¬¬(f.blocks.length<=512/\G2 f<=4096):=by simp at e3;omega
 have hchk:oy f=By f (nT f (λ_=>VD)):=by rw[oy,if_neg e1',if_neg e2',if_neg e3']
 subst hz;refine aa λz hz=>?_;simp[JE cp1 cc1];refine lU ?_;have hle2:=b8 h1 (.map #[] 0);have hm2:dh (.int .i64) (h1.push (.map #[] 0)) h1.size (mapE encW λ_=>VD):=by rw[mj];exact dh.none V5
 have hs2:(h1.push (.map #[] 0)).size=h1.size+1:=by simp
 generalize h1.push (.map #[] 0)=h2 at hle2 hm2 hs2;refine aA (z:=zz6) (places:=[(0,2),(2,1)]) (vs:=[(0,.agg #[Vz VA f.params,vb]),(1,.map (VC h1.size))]) (cs:=#[Vz VA f.params,vb,.map (VC h1.size)]) V0 V0 V5 V0 ?_;refine ef (v:=.agg #[Vz VA f.params,vb,.map (VC h1.size)]) rfl ?_;have hle3:=b8 h2 (.cells (Value.cells (.agg #[Vz VA f.params,vb,.map (VC h1.size)])) T.jD);have hbk:(h2.push (.cells (Value.cells (.agg #[Vz VA f.params,vb,.map (VC h1.size)])) T.jD))[h2.size]? = VC (.cells #[Vz VA f.params,vb,.map (VC h1.size)] T.jD (0,0)):=by simp
 have hs3:(h2.push (.cells (Value.cells (.agg #[Vz VA f.params,vb,.map (VC h1.size)])) T.jD)).size=h2.size+1:=by simp
 generalize h2.push (.cells (Value.cells (.agg #[Vz VA f.params,vb,.map (VC h1.size)])) T.jD)=h3 at hle3 hbk hs3;subst hz;have hsk:skip h1.size h3 h2.size=VC (.cells #[Vz VA f.params,vb,.map (VC h1.size)] T.jD (0,0)):=by rw[n8 V4];exact hbk
 have hle13:=Vx hle2 hle3;have hle1k:(vw h1).le (skip h1.size h3):=λb o hb=>by have hlt:=View.lt (View.le_refl (vw h1)) hb;rw[n8 V4];exact hle13 b o hb
 have k3:Lk h3 h2.size h1.size vb f (λ_=>VD):=⟨df hsk rfl,df hsk rfl,df hsk rfl,cb1.mono hle1k,hm2.ext hle3⟩;generalize h2.size=Kb at k3;generalize hr:h1.size=r at k3;have hkk : ∀{h':Heap},Kept h3 h' (VC r)->(vw hh).le (vw h'):=λkp b o hb=>by have h1b:=hle1 b o hb;have hlt:=View.lt (View.le_refl (vw h1)) h1b;have h3b:=hle13 b o h1b;have hlt3:=View.lt (View.le_refl (vw h3)) h3b;show _=_;exact(kp.block b hlt3 Vt).trans h3b
 refine aa λz hz=>?_;simp;refine dZ V0 (LU k3) ?_ ?_;rotate_left
 ·rintro _ h4 ⟨t,ht,rfl,kp4⟩;exact⟨.inl rfl,bad (by rw[hchk,ht];rfl) rfl (hkk kp4)⟩
 rintro _ h4 ⟨m4,hm4,k4,kp4⟩;have hto:=LW hm4;rw[hm4]at hchk;have hchk:oy f=wJ f m4 (tT (ofG f.blocks)):=hchk;subst hz;refine aa λz hz=>?_;simp;have hgl:(ofG f.blocks).length=f.blocks.length:=by simp[ofG]
 refine dZ V0 (NU k4 (St hsm.len V6) (λi hi=>St (hto i hi) V6) (Ky V4)) ?_ ?_;rotate_left
 ·rintro _ h5 ⟨t,ht,rfl,hle5⟩;exact⟨.inl rfl,bad (by rw[hchk,ht]) rfl (Vx (hkk kp4) hle5)⟩
 rintro _ h5 ⟨hus,hle5⟩;have hle05:=Vx (hkk kp4) hle5;subst hz;simp;refine eJ (g:=h.size+1) (o:=0) (n:=1) (v:=Vz VA 0) V0 rfl rfl rfl Vr (hle05 _ _ hb1) V5 λh6 hs6 ⟨row6,hr6,he6⟩ ho6=>?_;refine eJ (g:=h.size+2) (o:=0) (n:=1) (v:=Vz VA 0) V0 rfl rfl rfl Vr ((ho6 _ V4).trans (hle05 _ _ hb2)) V5 λh7 hs7 ⟨row7,hr7,he7⟩ ho7=>?_;refine eJ (g:=h.size+3) (o:=0) (n:=1) (v:=Vz VA 0) V0 rfl rfl rfl Vr ((ho7 _ V4).trans ((ho6 _ V4).trans (hle05 _ _ hb3))) V5 λh8 hs8 ⟨row8,hr8,he8⟩ ho8=>?_;rw[one_cell rfl rfl he6]at hr6;rw[one_cell rfl rfl he7]at hr7;rw[one_cell rfl rfl he8]at hr8;refine⟨_,Gp,?_⟩;rintro u' h9 ⟨rfl,rfl⟩;have c1:aq (vw h9) ⟨h.size+1,0,VD⟩=VC (Vz VA 0):=df (show vw h9 _=_ from(ho8 _ V4).trans ((ho7 _ V4).trans hr6)) rfl;have c2:aq (vw h9) ⟨h.size+2,0,VD⟩=VC (Vz VA 0):=df (show vw h9 _=_ from(ho8 _ V4).trans hr7) rfl;have c3:aq (vw h9) ⟨h.size+3,0,VD⟩=VC (Vz VA 0):=df (show vw h9 _=_ from hr8) rfl;refine⟨rfl,[Vz VA 0,Vz VA 0,Vz VA 0],by simp[R.om,c1,c2,c3],?_⟩;have htold:mP f=(0,0,0):=by rw[mP,hchk,hus]
 refine⟨by simp[htold],λb o hb=>?_⟩;have hlt:=View.lt (View.le_refl (vw h)) hb;show h9[b]? = _;rw[ho8 b V4,ho7 b V4,ho6 b V4];exact hle05 _ _ (hle _ _ hb)
theorem zd{f:ak}{v:Value}{h:Heap}(hv:Rd (vw h) v f)(hsm:SmF f):
  ay VI 71 #[v] h (λu h'=>u = .bool (decide ((mP f).1=0))/\(vw h).le (vw h')):=by refine ao (args:=[v]) follows Tryz.func71 E.pg Vu λK hK=>?_;simp[L.pg];refine eI rfl hv λh1 e1 hle1 hs1 hat=>?_;obtain⟨u,hu,hur⟩:=hat.bI rfl;have hu':Un.ev (vw h1) (.bI 2) (ptz h.size)=VC u:=hu;simp[hu'];refine ah V0 (MK hur hsm) ?_;rintro _ h2 ⟨rfl,hle2⟩;simp;exact hK _ _ ⟨rfl,Vx hle1 hle2⟩
end
end Go.Lft
