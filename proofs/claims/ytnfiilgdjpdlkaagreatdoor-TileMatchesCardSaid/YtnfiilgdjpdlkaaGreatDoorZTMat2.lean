/- A part of the proof: Wk, Wl, Wm, Wn, Wo, Wq, Wr, Ws, Wt, Ha, Hb, Hc, Pa, Pb, Pd, Pc, Pe, Pf, Pg, Ph, Hd, He, Hf, Hg. -/
import Derived.Test.YtnfiilgdjpdlkaaGreatDoorZTMat1
set_option linter.unusedSimpArgs false
set_option linter.unusedVariables false
open Go.Value renaming int->Sb,slice->Sg,pointer->Si
open Go.IntKind renaming i64->Sc,i32->Sd
open Option renaming some->Se,none->Sf
open Bool renaming true->Sj,false->Sk
open Go.Proofs.Tryz renaming prog->Sn
namespace Go.Proofs.YtnfiilgdjpdlkaaGreatDoor
open Go Go.Lft
def I64 (x:Int):Prop:=-9223372036854775808<=x/\x<=9223372036854775807
variable{W:View}
theorem rN{h:Heap}{e:TypeId}{v:Value}{l:List Int}:OwnT W h e v l↔l.length<=140737488355328/\(∀x∈l,I64 x)/\((v = Sg Sf 0 0/\l=[])\/
  ∃g cap cur,v = Sg (Se ⟨g,0,Sf⟩) l.length cap/\h[g]? = Se (.cells cur e (0,0))/\l.length<=cap/\cap<=maxLen/\cur.size=cap/\cur.toList.take l.length=l.map (.int .i64)):=by
 have hn:Rep.n Int=1:=rfl;constructor
 ·rintro⟨hb,xs,⟨hl,hown⟩,hel⟩;rw[hn,Pn]at hl;have hel' : ∀(i:Nat) (hi:i<l.length),xs[i]? = Se (Sb Sc l[i])/\I64 l[i]:=λi hi=>by
   obtain⟨h1,h2⟩:=hel i hi;rw[hn,Pn]at h1;have:(xs.drop i).take 1=[Sb Sc l[i]]:=h1;have h3:((xs.drop i).take 1)[0]? = Se (Sb Sc l[i]):=by rw[this];rfl
   rw[PT,if_pos R4,P7]at h3;exact⟨by simpa using h3,h2⟩
  have hxs:xs=l.map (.int .i64):=by
   refine Q4 λi=>?_;rcases Ov i l.length with hi | hi
   ·rw[(hel' i hi).1];simp[hi]
   rw[Pk R3,Pk (by simpa using hi)]
  refine⟨hb,λx hx=>?_,?_⟩
  ·obtain⟨i,hi,rfl⟩:=OS hx;exact(hel' i hi).2
  rcases hown with⟨rfl,h0⟩ | ⟨g,cap,cur,rfl,hg,h1,h2,h3,h4⟩
  ·exact .inl ⟨rfl,OC h0⟩
  rw[hn,Pn]at h3 h4;exact .inr ⟨g,cap,cur,rfl,hg,h1,h2,h3,by rw[h4,hxs]⟩
 rintro⟨hb,hr,hown⟩;refine⟨hb,l.map (.int .i64),⟨by rw[hn];simp,?_⟩,λi hi=>?_⟩
 ·rcases hown with⟨rfl,rfl⟩ | ⟨g,cap,cur,rfl,hg,h1,h2,h3,h4⟩
  ·exact .inl ⟨rfl,rfl⟩
  exact .inr ⟨g,cap,cur,rfl,hg,h1,h2,by rw[hn,Pn];exact h3,by rw[hn,Pn];exact h4⟩
 rw[hn,Pn];refine⟨?_,hr _ (O5 hi)⟩;refine Q4 λj=>?_;rw[PT];rcases Ov j 1 with hj | hj
 ·have:j=0:=by omega
  subst this;simp[hi]
 rw[if_neg R3];simp;omega
theorem v7{w:World}{g cap:Nat}{cur:Array Value}{e:TypeId}{l:List Int}(hg:w.heap[g]? = Se (.cells cur e (0,0)))(h1:l.length<=cur.size)(h4:cur.toList.take l.length=l.map (.int .i64)):Go.Sort.Holds (Sb .i64) w g 0 l.toArray:=by
 intro j hj;simp only[Qv]at hj;have hc:cur[j]? = Se (Sb Sc l[j]):=by have:=congrArg (λx:List Value=>x[j]?) h4;simp only[PT,hj,if_true,Qx]at this;simpa[hj]using this
 constructor
 ·simp[World.cell?,hg,hc,hj]
 simp[World.frozen?,hg]
variable{h':Heap}
theorem A1{w:World}{e:TypeId}{v:Value}{g cap:Nat}{cur:Array Value}{l d:List Int}(hv:v = Sg (Se ⟨g,0,Sf⟩) l.length cap)(hg:w.heap[g]? = Se (.cells cur e (0,0)))(h1:l.length<=cap)(h2:cap<=maxLen)(h3:cur.size=cap)(hd:d.length=l.length)(hb:l.length<=140737488355328)(hr : ∀x∈d,I64 x)(n:Nat)(os:Array Obj)(hh:h'=(Go.Sort.grow (Go.Sort.putRow (Sb .i64) (Go.Sort.ahead w n) g 0 d.toArray) os).heap):
  OwnT W h' e v d/\Kept w.heap h' v.ownBlock:=by
 subst hv;have hlt:g<w.heap.size:=(OG.1 hg).1;have hcur:(Go.Sort.putCells (Sb .i64) 0 d.toArray cur).toList.take d.length=d.map (.int .i64):=by
  refine Q4 λj=>?_;rw[PT];split
  ·rename_i hj;have hjc:j<cur.size:=by omega
   simp[Go.Sort.putCells,hj,hjc]
  rename_i hj;exact(Pk (by simpa using Nat.le_of_not_lt hj)).symm
 have hblk : ∀k,k<w.heap.size->h'[k]? = if g=k then(w.heap[k]?).map (Go.Sort.onCells (Go.Sort.putCells (Sb .i64) 0 d.toArray)) else w.heap[k]?:=by intro k hk;subst hh;simp only[Go.Sort.grow,Go.Sort.putRow,Go.Sort.mapBlock,Go.Sort.ahead];rw[RD (by simpa using hk),Q7]
 have hsz:w.heap.size<=h'.size:=by subst hh;simp[Go.Sort.grow,Go.Sort.putRow,Go.Sort.mapBlock,Go.Sort.ahead]
 refine⟨rN.2 ⟨by omega,hr,.inr ⟨g,cap,Go.Sort.putCells (Sb .i64) 0 d.toArray cur,by rw[hd],?_,by omega,h2,by simp[Go.Sort.putCells,h3],hcur⟩⟩,hsz,λk hk hne=>?_⟩
 ·rw[hblk g hlt,if_pos rfl,hg];rfl
 rw[hblk k hk,if_neg (λe=>hne (by simp[Value.ownBlock,e]))]
theorem ta(w:World)(n g:Nat)(d:Array Int)(os:Array Obj):Same w (Go.Sort.grow (Go.Sort.putRow (Sb .i64) (Go.Sort.ahead w n) g 0 d) os):=
 ⟨rfl,rfl,rfl,by simp[Go.Sort.grow,Go.Sort.putRow,Go.Sort.mapBlock,Go.Sort.ahead],λb hb=>by
  have hlt:=(OG.1 hb).1;simp only[Go.Sort.grow,Go.Sort.putRow,Go.Sort.mapBlock,Go.Sort.ahead];rw[RD (by simpa using hlt),Q7];split
  ·rw[hb];rfl
  exact hb⟩
def qw (l:List Int):List Int:=l.mergeSort λx y=>decide (x<=y)
theorem Jd{h:Heap}{e:TypeId}{v:Value}{l:List Int}(o:OwnT W h e v l):aA Sn 148 #[v] h (λ_ h'=>OwnT W h' e v (qw l)/\Kept h h' v.ownBlock):=by
 rintro w rfl;obtain⟨hb,hr,hown⟩:=rN.1 o;have hlen:(qw l).length=l.length:=List.length_mergeSort _;have hr' : ∀x∈qw l,I64 x:=λx hx=>hr x (RE.1 hx);rcases hown with⟨rfl,rfl⟩ | ⟨g,cap,cur,rfl,hg,h1,h2,h3,h4⟩
 ·refine(Tryz.slices_Sort_int_none Sf 0 w).mono ?_;rintro e' w' ⟨rfl,rfl⟩;exact⟨_,rfl,⟨by simpa[qw]using o,Kept.refl _ _⟩,Same.refl _⟩
 refine(Tryz.slices_Sort_int g 0 cap l w (v7 (cap:=cap) hg R3 h4) (OG.1 hg).1 R3).mono ?_;rintro e' w' ⟨rfl,n,os,rfl⟩;exact⟨_,rfl,A1 rfl hg h1 h2 h3 hlen hb hr' n os rfl,ta _ _ _ _ _⟩
variable{n:Nat}
theorem Hv{h:Heap}{e:TypeId}{g cap:Nat}{l:List Int}(o:OwnT W h e (Sg (Se ⟨g,0,Sf⟩) l.length cap) l)(hn:n<=l.length):OwnT W h e (Sg (Se ⟨g,0,Sf⟩) n cap) (l.take n):=by
 obtain⟨hb,hr,hown⟩:=rN.1 o;have hl:(l.take n).length=n:=by simp;omega
 rcases hown with⟨hv,_⟩ | ⟨g',cap',cur,hv,hg,h1,h2,h3,h4⟩
 ·cases hv
 cases hv;refine rN.2 ⟨by omega,λx hx=>hr x (Rq hx),.inr ⟨g,cap,cur,by rw[hl],hg,by omega,h2,h3,?_⟩⟩;rw[hl,List.map_take,<-h4,PE,Pu hn]
theorem wG{l:List Int}:(Lib.compact l).length<=l.length:=by unfold Lib.compact Lib.compactUpTo;rw[PQ];exact OX (List.length_filter_le _ _) Sa
theorem qE{l:List Int}{x:Int}(hx:x∈Lib.compact l):x∈l:=by unfold Lib.compact Lib.compactUpTo at hx;simp only[PN,QH,P2]at hx;obtain⟨i,⟨hi,_⟩,rfl⟩:=hx;simp[hi]
theorem Ea{h:Heap}{e:TypeId}{v:Value}{l:List Int}(o:OwnT W h e v l):aA Sn 149 #[v] h (λv' h'=>OwnT W h' e v' (Lib.compact l)/\lV h h' v v'):=by
 rintro w rfl;obtain⟨hb,hr,hown⟩:=rN.1 o;have hlen:=wG (l:=l);rcases hown with⟨rfl,rfl⟩ | ⟨g,cap,cur,rfl,hg,h1,h2,h3,h4⟩
 ·refine(Tryz.slices_Compact_int_empty Sf 0 w).mono ?_;rintro e' w' ⟨rfl,rfl⟩;exact⟨_,rfl,⟨o,Kept.refl _ _,.inl rfl⟩,Same.refl _⟩
 refine(Tryz.slices_Compact_int g 0 cap l w (v7 (cap:=cap) hg R3 h4) R3 h1).mono ?_;rintro e' w' ⟨rfl,n,hw⟩;have hw':w'=Go.Sort.grow (Go.Sort.putRow (Sb .i64) (Go.Sort.ahead w n) g 0 (Lib.compact l++List.replicate (l.length-(Lib.compact l).length) 0).toArray) #[]:=by rw[hw];simp
 have hdl:(Lib.compact l++List.replicate (l.length-(Lib.compact l).length) 0).length=l.length:=by simp;omega
 have hrd : ∀x∈(Lib.compact l++List.replicate (l.length-(Lib.compact l).length) (0:Int)),I64 x:=λx hx=>by
  rcases OD.1 hx with hx | hx
  ·exact hr x (qE hx)
  obtain⟨_,rfl⟩:=List.mem_replicate.1 hx;exact R6
 obtain⟨o2,k2⟩:=A1 (W:=W) (h':=w'.heap) rfl hg h1 h2 h3 hdl hb hrd n #[] (by rw[hw']);have o3:=Hv (n:=(Lib.compact l).length) (by rw[hdl];exact o2) Sa;rw[List.take_left'  rfl]at o3;exact⟨_,rfl,⟨o3,k2,.inl rfl⟩,by rw[hw'];exact ta _ _ _ _ _⟩
theorem Dv{h:Heap}{e:TypeId}{v:Value}{l:List Int}(o:OwnT W h e v l):aA Sn 143 #[v] h (λ_ h'=>OwnT W h' e v l.reverse/\Kept h h' v.ownBlock):=by
 rintro w rfl;obtain⟨hb,hr,hown⟩:=rN.1 o;rcases hown with⟨rfl,rfl⟩ | ⟨g,cap,cur,rfl,hg,h1,h2,h3,h4⟩
 ·refine(Tryz.slices_Reverse_int_empty Sf 0 w).mono ?_;rintro e' w' ⟨rfl,rfl⟩;exact⟨_,rfl,⟨o,Kept.refl _ _⟩,Same.refl _⟩
 refine(Tryz.slices_Reverse_int g 0 cap l w (v7 (cap:=cap) hg R3 h4) R3).mono ?_;rintro e' w' ⟨rfl,n,hw⟩;have hw':w'=Go.Sort.grow (Go.Sort.putRow (Sb .i64) (Go.Sort.ahead w n) g 0 l.reverse.toArray) #[]:=by rw[hw];simp
 exact⟨_,rfl,A1 rfl hg h1 h2 h3 Sa hb (λx hx=>hr x (by simpa using hx)) n #[] (by rw[hw']),by rw[hw'];exact ta _ _ _ _ _⟩
def qR (row:List Int) (n:Int) (i:Nat):Bool:=decide (0<=nth row i)&&decide (nth row i<n)
def mq (row:List Int) (n:Int):List Int:=Lib.compact (qw (sift (qR row n) (λi=>nth row i) row.length))
variable{row:List Int}
theorem EY{n:Int}{vr:Value}{h:Heap}(hr:SlRd (vw h) vr row)(hs:row.length<=1000000):
  aA Sn 140 #[vr,Sb Sc n] h (λv h'=>∃W,Mine nothing h h' W T.int v (mq row n)):=by
 refine au (args:=[vr,Sb Sc n]) follows Tryz.func140 E.fu S0 λK hK=>?_;simp[L.fu,hr.len];refine aY [0,1,5,8,9,10] (fun(v:Value) k=>[vr,Sb Sc n,v,vr,Sb Sc row.length,Sb Sc k]) (λv k h1=>Mine nothing h h1 nothing T.int v (sift (qR row n) (λi=>nth row i) k)) row.length (Sg Sf 0 0)
  rfl R3 rfl (Mine.start (λ_ _ h=>by cases h)) (λ_ _=>rfl) (λv k h1 hk m=>by simp) ?_ ?_
 ·intro v k h1 hlt m K2 hK2;have hr1:=hr.mono m.old;have hrange:=hr.range hlt;have:=qH (p:=qR row n) (x:=λi=>nth row i) k;simp(disch:=omega)[hr1.idx1 rfl,hr1.int S2,ln,-Bool.and_eq_true,-Bool.and_eq_false_imp];refine⟨λhe=>?_,λhe=>hK2 v _ _ rfl rfl (by rw[nF (show qR row n k=Sk from he)];exact m)⟩;refine m.push El.aP (by simp<;>rfl) (qk hrange.1 hrange.2) R3 R3 R5 R5 λu v' h3 m'=>hK2 v' _ _ rfl rfl (by rw[oQ (show qR row n k=Sj from he)];exact m')
 intro v h1 m;simp;refine aj R1 (Jd m.own) ?_;rintro _ h2 ⟨o2,k2⟩;have m2:=m.iu o2 ⟨k2,.inl rfl⟩;try simp
 refine aj R1 (Ea m2.own) ?_;rintro v3 h3 ⟨o3,k3⟩;have m3:=m2.iu o3 k3;try simp
 exact hK _ _ ⟨_,m3⟩
def dK (g:Gr):Gr:=rows (λa=>mq (nth g a) g.length) g.length
def Sm (g:Gr):Prop:=g.length<=1000000/\∀i,i<g.length->(nth g i).length<=1000000
theorem HG{α:Type}[Rep α]:Rep.rd W (Sg Sf 0 0).cells.toList ([]:List α):=⟨Sg Sf 0 0,rfl,Sf,0,rfl,by simp,by simp,.inl rfl⟩
variable{vg:Value}
theorem CI{g:Gr}{h:Heap}(hg:SlRd (vw h) vg g)(hs:Sm g):
  aA Sn 141 #[vg] h (λv h'=>∃W,Mine nothing h h' W T.aP v (dK g)):=by
 refine au (args:=[vg]) follows Tryz.func141 E.eK S0 λK hK=>?_;have hs1:=hs.1;simp[L.eK,hg.len];refine Mine.made (α:=List Int) (V:=nothing) (W:=nothing) (h0:=h) (n:=g.length) (d:=[]) El.kJ S2 (λ_ _ h=>by cases h) (Old.nothing _ _) (by simp<;>rfl) (by simp<;>rfl) HG R3 R3 λv h1 m _ _=>?_;refine aY [0,3,9,10,11] (fun(_:View) k=>[vg,v,vg,Sb Sc g.length,Sb Sc k]) (λW k h2=>Mine nothing h h2 W T.aP v (rows (λa=>mq (nth g a) g.length) k++List.replicate (g.length-k) [])) g.length nothing
  rfl R3 rfl m (λ_ _=>rfl) (λv k h1 hk m=>by simp) ?_ ?_
 ·intro W a h2 hlta m K2 hK2;have hg2:=hg.mono m.old;obtain⟨rv,hrv⟩:=hg2.rows;obtain⟨cv,rr⟩:=hrv a hlta;have hl5:(rows (λa=>mq (nth g a) g.length) a++List.replicate (g.length-a) ([]:List Int)).length=g.length:=by simp;omega
  simp(disch:=omega)[hg2.idx1 rfl,cv _ S2,hg.len];refine aj R1 (EY rr (hs.2 a hlta)) ?_;rintro r h3 ⟨W',mr⟩;have m3:=m.ext mr.old;have hr:=mr.fresh.mono (gC W _ _);simp(disch:=omega)[m3.now.idx1 rfl];refine m3.put1 (α:=List Int) (i:=a) R1 rfl Sa (by simp<;>rfl) R3 (eD.2 hr) λh4 m4=>hK2 (grow W h2 h3) _ _ rfl rfl ?_;rw[tO (x:=λa=>mq (nth g a) g.length) hlta]at m4;exact m4
 intro W h2 m;simp at m;simp;exact hK _ _ ⟨_,m⟩
theorem yH{l:List Int}{x:Int}{v:Value}{h:Heap}{b:Addr}(hl:SlRd (vw h) v l)(hb:ao (vw h) b=Se v):
  aA Sn 146 #[Sb Sc x,Si (Se b)] h (λu h'=>u = .bool (decide (0<=x)&&decide (x<l.length))/\h'=h):=by refine au (args:=[Sb Sc x,Si (Se b)]) follows Tryz.func146 E.iI S0 λK hK=>?_;simp[L.iI,hb,hl.len];exact hK _ _ ⟨rfl,rfl⟩
variable{b:Int}
theorem Az{l:List Int}{a:Int}{v:Value}{h:Heap}(hl:SlRd (vw h) v l):
  aA Sn 123 #[v,Sb Sc a,Sb Sc b] h (λu h'=>u = .bool (eV l a b)/\(vw h).le (vw h')):=by
 refine au (args:=[v,Sb Sc a,Sb Sc b]) follows Tryz.func123 E.dm S0 λK hK=>?_;have bl:=hl.bound;simp[L.dm];refine cr (v:=v) Sa ?_;have hvc:v.cells = #[v]:=by obtain⟨_,_,rfl,_⟩:=hl;rfl
 rw[hvc];have hle:=bC h (.cells #[v] T.aP);have hl:=hl.mono hle;have hb:ao (vw (h.push (.cells #[v] T.aP))) ⟨h.size,0,Sf⟩=Se v:=by simp[ao,vw]
 generalize h.push (.cells #[v] T.aP)=h1 at hle hl hb;generalize h.size=B at hb;refine cg (ops:=[.tmp 10]) rfl R1 (by simpa using yH (x:=a) hl hb) ?_;rintro _ _ ⟨rfl,rfl⟩;cases ha:decide (0<=a)&&decide (a<l.length)with
 | false=>
  have hsp:eV l a b=false:=by simp only[Q8,decide_eq_false_iff_not]at ha;simp[eV];intros;omega
  rw[hsp]at hK;simp[grdP];exact hK _ _ ⟨rfl,hle⟩
 | true=>
  simp only[OA,decide_eq_true_eq]at ha;simp[grdP];refine cg (ops:=[.tmp 15]) rfl R1 (by simpa using yH (x:=b) hl hb) ?_;rintro _ _ ⟨rfl,rfl⟩;cases hbb:decide (0<=b)&&decide (b<l.length)with
  | false=>
   have hsp:eV l a b=false:=by simp only[Q8,decide_eq_false_iff_not]at hbb;simp[eV];intros;omega
   rw[hsp]at hK;simp;exact hK _ _ ⟨rfl,hle⟩
  | true=>
   simp only[OA,decide_eq_true_eq]at hbb;have hsp:eV l a b=qS l a (l.length+1) b:=by simp[eV,ha,hbb]
   rw[hsp]at hK;simp(disch:=omega)[hb,hl.len];refine aY [1,2,3,6,7,21,22] (fun(c:Int) k=>[Sb Sc a,Sb Sc c,Si (Se ⟨B,0,Sf⟩),.bool Sk,.func (.func 146) #[] #[Si (Se ⟨B,0,Sf⟩)],Sb Sc ((l.length:Int)+1),Sb Sc k])
    (λc k h2=>h2=_/\qS l a (l.length+1-k) c=qS l a (l.length+1) b) (l.length+1) b
    rfl R3 rfl ⟨rfl,rfl⟩ (λ_ _=>rfl) (λv k h1 hk m=>by simp) ?_ ?_
   ·rintro c k h2 hlt ⟨rfl,hch⟩ K2 hK2;have hfu:l.length+1-k=(l.length-k)+1:=by omega
    rw[hfu,qS]at hch;simp;refine⟨λhe=>hK _ _ ⟨by rw[<-hch,if_pos he.symm],hle⟩,λhe=>?_⟩;rw[if_neg (λe=>he e.symm)]at hch;refine cg (ops:=[.tmp 28]) rfl R1 (by simpa using yH (x:=c) hl hb) ?_;rintro _ _ ⟨rfl,rfl⟩;cases hc:decide (0<=c)&&decide (c<l.length)with
    | false=>simp only[Q8,decide_eq_false_iff_not]at hc;simp;exact hK _ _ ⟨by rw[<-hch,if_pos R3],hle⟩
    | true=>simp only[OA,decide_eq_true_eq]at hc;rw[if_neg R3]at hch;simp(disch:=omega)[hb,hl.idx1 rfl,hl.int S2];refine hK2 (nth l c.toNat) _ _ rfl rfl ⟨rfl,?_⟩;rw[<-hch];congr 1;omega
   rintro c h2 ⟨rfl,hch⟩;rw[Q2,qS]at hch;simp;exact hK _ _ ⟨by rw[<-hch],hle⟩
def lG (idom number:List Int):Nat->Int->Int->Option Int
 | 0,_,_=>Sf
 | n+1,a,b=>
  if 0<=a/\a<number.length/\a<idom.length/\0<=b/\b<number.length/\b<idom.length then
   if nth number b.toNat<nth number a.toNat then lG idom number n (nth idom a.toNat) b
   else if nth number a.toNat<nth number b.toNat then lG idom number n a (nth idom b.toNat)
   else Se a
  else Sf
variable{number:List Int}
theorem zf{idom:List Int}{vi vn:Value}{h:Heap}{r:Int}(hi:SlRd (vw h) vi idom)(hn:SlRd (vw h) vn number){a:Int}(hc:lG idom number n a b=Se r):
  aA Sn 145 #[vi,vn,Sb Sc a,Sb Sc b] h (λu h'=>u = Sb Sc r/\h'=h):=by
 refine au (args:=[vi,vn,Sb Sc a,Sb Sc b]) follows Tryz.func145 E.dQ S0 λK hK=>?_;simp[L.dQ];refine iy [0,1,2,3] (λm ρ h'=>∃(c d:Int),ρ=[(0,vi),(1,vn),(2,Sb Sc c),(3,Sb Sc d)]/\h'=h/\lG idom number m c d=Se r) n ⟨a,b,rfl,rfl,hc⟩ ?_;rintro m ρ h' ⟨c,d,rfl,rfl,hc⟩ K2 hK2;cases m with
 | zero=>cases hc
 | succ m=>
  rw[lG]at hc;split at hc;case isFalse=>cases hc
  rename_i hr;obtain⟨r1,r2,r3,r4,r5,r6⟩:=hr;simp(disch:=omega)[L.dQ.l1,hn.idx1 rfl,hn.int S2];refine⟨λh1=>?_,λh1=>?_⟩
  ·rw[if_pos h1]at hc;simp(disch:=omega)[hi.idx1 rfl,hi.int S2];exact hK2 m _ _ R3 ⟨_,_,rfl,rfl,hc⟩
  rw[if_neg R3]at hc;refine⟨λh2=>?_,λh2=>?_⟩
  ·rw[if_pos h2]at hc;simp(disch:=omega)[hi.idx1 rfl,hi.int S2];exact hK2 m _ _ R3 ⟨_,_,rfl,rfl,hc⟩
  rw[if_neg R3]at hc;cases hc;exact hK _ _ ⟨rfl,rfl⟩
structure Wo (W:View) (h:Heap) (B:Nat) (vt vl:Value) (s:List Bool × List Int):Prop where
 wle:W.le (vw h)
 box:h[B]? = Se (.cells #[vl] T.aP (0,0))
 wB:W B=Sf
 avt:Av W vt
 avl:Av W vl
 nt:vt.ownBlock≠Se B
 nl:vl.ownBlock≠Se B
 ne:vl.ownBlock=Sf\/vl.ownBlock≠vt.ownBlock
 ot:OwnT nothing h T.bool vt s.1
 ol:OwnT nothing h T.int vl s.2
 nn:vt.ownBlock=Sf\/vt.ownBlock≠vl.ownBlock
theorem Wo.lt{W:View}{h:Heap}{B:Nat}{vt vl:Value}{s:List Bool × List Int}(k:Wo W h B vt vl s):B<h.size:=(OG.1 k.box).1
theorem Wo.ext {W:View} {h h':Heap} {B:Nat} {vt vl:Value} {s:List Bool × List Int} (k:Wo W h B vt vl s) (hle:(vw h).le (vw h')):Wo W h' B vt vl s:=
 {k with wle:=S3 k.wle hle,box:=hle _ _ k.box,ot:=k.ot.ext hle,ol:=k.ol.ext hle }
variable{vt vl:Value}
theorem Wo.flag{h:Heap}{B:Nat}{s:List Bool × List Int}{t':List Bool}(k:Wo W h B vt vl s)(o:OwnT nothing h' T.bool vt t')(m:lV h h' vt vt):Wo W h' B vt vl (t',s.2):=
 {k with
  wle:=(m.view k.wle k.avt).1
  box:=by rw[m.kept.block B k.lt (λe=>k.nt e.symm)];exact k.box
  ot:=o
  ol:=k.ol.kept m.kept k.ne }
theorem Wo.Mf{h h'':Heap}{B:Nat}{vl':Value}{s:List Bool × List Int}{l':List Int}(k:Wo W h B vt vl s)(o:OwnT nothing h' T.int vl' l')(m:lV h h' vl vl')(hsz:h''.size=h'.size)(hB:h''[B]? = Se (.cells #[vl'] T.aP (0,0)))(hoth : ∀j,j≠B->h''[j]? = h'[j]?):Wo W h'' B vt vl' (s.1,l'):=by
 obtain⟨hw',ha'⟩:=m.view k.wle k.avl;have hlt:=k.lt;have nl':vl'.ownBlock≠Se B:=by
  rcases m.at_ with e | e
  ·rw[e];exact k.nl
  rw[e];intro e2;cases e2;omega
 have kep:Kept h' h'' (Se B):=⟨by omega,λj _ hj=>hoth j (λe=>hj (by rw[e]))⟩;refine⟨λb x hb=>?_,hB,k.wB,k.avt,ha',k.nt,nl',?_,?_,?_,?_⟩
 ·have hne:b≠B:=λe=>by rw[e,k.wB]at hb;cases hb
  show h''[b]? = _;rw[hoth b hne];exact hw' b x hb
 ·rcases m.at_ with e | e
  ·rw[e];exact k.ne
  right;rw[e];intro e2;have:=k.ot.lt e2.symm;omega
 ·exact(k.ot.kept m.kept k.nn).kept kep (.inr k.nt)
 ·exact o.kept kep (.inr nl')
 rcases m.at_ with e | e
 ·rw[e];exact k.nn
 right;rw[e];intro e2;have:=k.ot.lt e2;omega
theorem Wo.cell{h:Heap}{B:Nat}{s:List Bool × List Int}(k:Wo W h B vt vl s):ao (vw h) ⟨B,0,Sf⟩=Se vl:=by simp[ao,vw,k.box]
def nx (rows:Gr) (a:Int):List Int:=nth rows a.toNat
theorem Cg {rows:Gr} {vr:Value} {Tp R O:Addr} {B:Nat} (hs:rows.length<=1000000) (hin : ∀i,i<rows.length->∀j,j<(nth rows i).length->0<=nth (nth rows i) j/\nth (nth rows i) j<rows.length) : ∀(n:Nat) {M:Nat} {W:View} {h:Heap} {vt vl:Value} {s:List Bool × List Int} {a:Int},Wo W h B vt vl s->SlRd W vr rows->
  ao W Tp=Se vt->ao W R=Se vr->ao W O=Se (.func (.func 142) #[] #[Si (Se Tp),Si (Se R),Si (Se O),Si (Se ⟨B,0,Sf⟩)])->0<=a->a<rows.length->s.1.length=rows.length->nth s.1 a.toNat=Sk->
  dN s.1<=n->s.2.length+dN s.1<=M->M<=1000000->
  aA Sn 142 #[Sb Sc a,Si (Se Tp),Si (Se R),Si (Se O),Si (Se ⟨B,0,Sf⟩)] h (λ_ h'=>∃vl',Wo W h' B vt vl' (j9 (nx rows) n a s)/\(j9 (nx rows) n a s).2.length+dN (j9 (nx rows) n a s).1<=M)
 | 0,M,W,h,vt,vl,s,a,k,hg,hT,hR,hO,h0,h1,hl,hf,hc,hb,hM=>by exfalso;have:=jX (t:=s.1) (i:=a.toNat) R3 hf;omega
 | n+1,M,W,h,vt,vl,(t,l),a,k,hg,hT,hR,hO,h0,h1,hl,hf,hc,hb,hM=>by
  obtain⟨i,rfl⟩:=QZ h0;simp only at hl hf hc hb;have hfs:=jX (t:=t) (i:=i) R3 (by simpa using hf);refine au (args:=[Sb Sc i,Si (Se Tp),Si (Se R),Si (Se O),Si (Se ⟨B,0,Sf⟩)]) follows Tryz.func142 E.dO S0 λK hK=>?_;have hnow:SlRd (vw h) vt t:=k.ot.now (λ_ _ h=>by cases h);simp(disch:=omega)[L.dO,ae k.wle hT,hnow.idx1 rfl];refine sE (W:=nothing) (i:=i) (d:=true) R1 (by simp[show Rep.n Bool=1 from rfl]) (by simp<;>rfl) k.ot (by simpa using by omega) JD λh2 o2 m2=>?_;have k2:=k.flag o2 m2;have hg2:=hg.mono k2.wle;obtain⟨rv,hrv⟩:=hg.rows;obtain⟨cv,rr⟩:=hrv i R3;have br:=rr.bound;have hov:j9 (nx rows) (n+1) i (t,l)=((up (dp (nx rows) n i) (nx rows i).length (t.set i Sj,l)).1,(up (dp (nx rows) n i) (nx rows i).length (t.set i Sj,l)).2++[(i:Int)]):=lz;rw[hov]at hK;have hnx:nx rows i=nth rows i:=rfl;rw[hnx]at hK;simp(disch:=omega)[ae k2.wle hR,hg2.idx1 rfl,cv _ k2.wle,rr.len];refine aY [0,1,2,3,4,14,15,16] (fun(_:Value) j=>[Sb Sc i,Si (Se Tp),Si (Se R),Si (Se O),Si (Se ⟨B,0,Sf⟩),rv i,Sb Sc (nth rows i).length,Sb Sc j]) (λvl j h4=>Wo W h4 B vt vl (up (dp (nx rows) n i) j (t.set i Sj,l))/\(up (dp (nx rows) n i) j (t.set i Sj,l)).2.length+dN (up (dp (nx rows) n i) j (t.set i Sj,l)).1<=M-1) (nth rows i).length vl
   rfl R3 rfl ⟨k2,by simp[up];omega⟩ (λ_ _=>rfl) (λv j h4 hk m=>by simp) ?_ ?_
  ·rintro vl j h4 hltj ⟨k4,hb4⟩ K2 hK2;have hinv:=vG (λs:List Bool × List Int=>s.1.length=rows.length/\dN s.1<=n) (f:=dp (nx rows) n i) (λk x hx=>by
    unfold dp;split
    ·exact hx
    exact qt n _ x hx) j (t.set i Sj,l) ⟨by simpa using hl,by simp only;omega⟩;generalize hx:up (dp (nx rows) n i) j (t.set i Sj,l)=x at k4 hb4 hinv;obtain⟨e0,e1⟩:=hin i R3 j hltj;have hr4:=rr.mono k4.wle;have hnow4:=k4.ot.now (λ_ _ h=>by cases h);simp(disch:=omega)[ae k4.wle hT,hr4.idx1 rfl,hr4.int S2,hnow4.idx1 rfl,hnow4.bool S2,ln];refine⟨λhe=>?_,λhe=>hK2 vl _ _ rfl rfl ?_⟩
   ·simp[ae k4.wle hO];refine cg (ops:=[.tmp 26]) rfl R1 (by simpa using Cg hs hin n k4 hg hT hR hO e0 e1 hinv.1 he hinv.2 hb4 R3) ?_;rintro _ h5 ⟨⟨vl',k5⟩,hb5⟩;have hst:up (dp (nx rows) n i) (j+1) (t.set i Sj,l)=j9 (nx rows) n (nth (nth rows i) j) x:=by rw[up,hx,dp,show nx rows i=nth rows i from rfl,he];rfl
    refine hK2 vl' _ _ rfl rfl ?_;rw[hst];exact⟨k5,hb5⟩
   have hst:up (dp (nx rows) n i) (j+1) (t.set i Sj,l)=x:=by rw[up,hx,dp,show nx rows i=nth rows i from rfl,he];rfl
   rw[hst];exact⟨k4,hb4⟩
  rintro vl h4 ⟨k4,hb4⟩;generalize hx:up (dp (nx rows) n i) (nth rows i).length (t.set i Sj,l)=x at k4 hb4 hK;simp[k4.cell];refine oG (α:=Int) (W:=nothing) El.aP (by simp<;>rfl) (qk R3 R3) λu h5 hsrc hle5 _=>?_;have k5:=k4.ext hle5;refine bO El.aP Sa Sa k5.ol hsrc R9 R9 λvl' h6 o6 m6=>?_;have hB6:h6[B]? = Se (.cells #[vl] T.aP (0,0)):=by rw[m6.kept.block B k5.lt (λe=>k5.nl e.symm)];exact k5.box
  obtain⟨hcells,hone⟩:=mJ o6;refine eR (g:=B) (o:=0) (n:=1) (v:=vl') R1 Sa Sa (by rw[hcells];rfl) (by rw[hcells];simpa using hone) hB6 Sa λh7 hsz7 ⟨row,hrow,he⟩ hoth=>hK _ _ ⟨vl',?_,?_⟩
  ·have hrow2:row = #[vl']:=by rw[<-Array.toList_inj,he,hcells];rfl
   rw[hrow2]at hrow;exact k5.Mf o6 m6 hsz7 hrow hoth
  simp;omega
def bG (g:Gr):List Int:=ma (nx (dK g)) g.length
theorem jf{g:Gr}:(dK g).length=g.length:=by simp[dK]
theorem vu{g:Gr}: ∀i,i<(dK g).length->∀j,j<(nth (dK g) i).length->0<=nth (nth (dK g) i) j/\nth (nth (dK g) i) j<(dK g).length:=by
 intro i hi j hj;rw[jf]at hi;have hm:=bw hj;rw[dK,gL hi,mq]at hm;have h2:=qE hm;rw[qw,RE,ry]at h2;simp only[PN,QH,P2,qR,OA,decide_eq_true_eq]at h2;obtain⟨k,⟨_,h3⟩,h4⟩:=h2;rw[jf];have e:nth (nth (dK g) i) j=nth (nth g i) k:=by rw[dK,gL hi,mq,h4,qw,ry]
 rw[e];exact h3
theorem Cs{g:Gr}{h:Heap}(hg:SlRd (vw h) vg g)(hs:Sm g):
  aA Sn 119 #[vg] h (λv h'=>(vw h).le (vw h')/\SlRd (fresh h h') v (bG g)):=by
 refine au (args:=[vg]) follows Tryz.func119 E.ov S0 λK hK=>?_;have hs1:=hs.1;simp[L.ov,hg.len];refine⟨λh0=>?_,λh0=>?_⟩
 ·exact hK _ _ ⟨View.le_refl _,⟨Sf,0,by simp[bG,ma,h0],by simp[bG,ma,h0],by simp[bG,ma,h0],.inl (by simp[bG,ma,h0])⟩⟩
 refine aj R1 (CI hg hs) ?_;rintro vr h1 ⟨W1,m1⟩;have hvr:=m1.now;obtain⟨hrc,hro⟩:=mJ m1.own;refine vR (z:=Sg Sf 0 0) R1 rfl R1 hrc hro R5 R5 λh2 hle2 hsz2 hR2=>?_;refine mL (W:=nothing) (n:=g.length) (d:=false) El.mg (by simp<;>rfl) (by simp<;>rfl) rfl R3 R3 λvt h3 o3 m3 hle3 hb3=>?_;obtain⟨htc,hto⟩:=mJ o3;refine vR (z:=Sg Sf 0 0) R1 rfl R1 htc hto R5 R5 λh4 hle4 hsz4 hT4=>?_;refine db (z:=Sg Sf 0 0) R1 ?_;refine db (z:=.nilFunc) R1 ?_;have hsz3:h2.size<h3.size:=o3.lt hb3;have hle6:(vw h4).le (vw ((h4.push (.cells (Sg Sf 0 0).cells T.aP)).push (.cells Value.nilFunc.cells T.Cf))):=S3 (bC _ _) (bC _ _);refine eR (g:=h4.size+1) (o:=0) (n:=1) (e:=T.Cf) (cur:=#[.nilFunc]) (v:=.func (.func 142) #[] #[Si (Se ⟨h3.size,0,Sf⟩),Si (Se ⟨h1.size,0,Sf⟩),Si (Se ⟨h4.size+1,0,Sf⟩),Si (Se ⟨h4.size,0,Sf⟩)]) R1 Sa Sa rfl R8 (by rw[show h4.size+1=(h4.push (.cells (Sg Sf 0 0).cells T.aP)).size by simp];exact QT) Sa λh7 hsz7 ⟨row,hrow,he⟩ hoth=>?_;have hrow2:row = #[.func (.func 142) #[] #[Si (Se ⟨h3.size,0,Sf⟩),Si (Se ⟨h1.size,0,Sf⟩),Si (Se ⟨h4.size+1,0,Sf⟩),Si (Se ⟨h4.size,0,Sf⟩)]]:=by rw[<-Array.toList_inj,he];rfl
 rw[hrow2]at hrow;have hle7:(vw h4).le (vw h7):=λb o hb=>by have hlt:=View.lt (View.le_refl (vw h4)) hb;show h7[b]? = _;rw[hoth b R3];exact hle6 b o hb
 have hL7:h7[h4.size]? = Se (.cells #[Sg Sf 0 0] T.aP (0,0)):=by rw[hoth _ R3,Array.getElem?_push,if_neg Sa,QT];rfl
 have hle27:=S3 hle3 (S3 hle4 hle7);have hle17:=S3 hle2 hle27;obtain⟨W,hW⟩ : ∃W:View,W=λb=>if b=h2.size\/b=h4.size then Sf else h7[b]?:=⟨_,rfl⟩;have hWle:W.le (vw h7):=by
  intro b o hb;rw[hW]at hb;simp only at hb;split at hb
  ·cases hb
  exact hb
 have hW1:(vw h1).le W:=λb o hb=>by have hlt:=View.lt (View.le_refl (vw h1)) hb;rw[hW];simp only;rw[if_neg R3];exact hle17 b o hb
 have k7:Wo W h7 h4.size vt (Sg Sf 0 0) (List.replicate g.length Sk,[]):=
  ⟨hWle,hL7,by rw[hW];simp,λb hb=>by rw[hb3]at hb;cases hb;rw[hW];simp,Av.nil _ _ _,by rw[hb3];intro e;simp only[N7]at e;omega,by simp[Value.ownBlock],.inl rfl,
   (o3.ext hle4).ext hle7,OwnT.nil ..,.inr (by rw[hb3];simp[Value.ownBlock])⟩
 have hT:ao W ⟨h3.size,0,Sf⟩=Se vt:=by
  have h5:W h3.size=Se (.cells #[vt] T.mg (0,0)):=by rw[hW];simp only;rw[if_neg R3];exact hle7 _ _ hT4
  simp[ao,h5]
 have hR:ao W ⟨h1.size,0,Sf⟩=Se vr:=by
  have h5:W h1.size=Se (.cells #[vr] T.kJ (0,0)):=by rw[hW];simp only;rw[if_neg R3];exact hle27 _ _ hR2
  simp[ao,h5]
 have hO:ao W ⟨h4.size+1,0,Sf⟩=Se (.func (.func 142) #[] #[Si (Se ⟨h3.size,0,Sf⟩),Si (Se ⟨h1.size,0,Sf⟩),Si (Se ⟨h4.size+1,0,Sf⟩),Si (Se ⟨h4.size,0,Sf⟩)]):=by
  have h5:W (h4.size+1)=h7[h4.size+1]?:=by rw[hW];simp only;rw[if_neg R3]
  rw[hrow]at h5;simp[ao,h5]
 have hvrW:=hvr.mono hW1;have hlen:g.length≠0:=by simpa using h0
 have hcl:=jf (g:=g);have hfa:dN (List.replicate g.length Sk)=g.length:=by simp[dN]
 simp[ae hWle hO];refine cg (ops:=[.const (Sb Sc 0)]) (f:=142) (caps:=#[Si (Se ⟨h3.size,0,Sf⟩),Si (Se ⟨h1.size,0,Sf⟩),Si (Se ⟨h4.size+1,0,Sf⟩),Si (Se ⟨h4.size,0,Sf⟩)]) Sa R1
  (by simpa using Cg R3 vu g.length (M:=g.length) k7 hvrW hT hR hO (a:=0) R3 R3 (by simp[hcl]) (by rw[aB R9];simp) (by rw[hfa];exact N8 _) (by simp[hfa]) R3) ?_;rintro _ h8 ⟨⟨vl,k8⟩,hb8⟩;have hord:bG g=(j9 (nx (dK g)) g.length 0 (List.replicate g.length Sk,[])).2.reverse:=by simp[bG,ma,h0]
 rw[hord]at hK;generalize j9 (nx (dK g)) g.length 0 (List.replicate g.length Sk,[])=s at k8 hb8 hK;simp[k8.cell];refine aj R1 (Dv k8.ol) ?_;rintro _ h9 ⟨o9,k9⟩;have hB9:h9[h4.size]? = Se (.cells #[vl] T.aP (0,0)):=by rw[k9.block _ k8.lt (λe=>k8.nl e.symm)];exact k8.box
 have hc9:ao (vw h9) ⟨h4.size,0,Sf⟩=Se vl:=by simp[ao,vw,hB9]
 have hW9:=k9.view k8.wle k8.avl;have hle9:(vw h).le (vw h9):=S3 (S3 m1.old hW1) hW9;have hav:Av (vw h) vl:=λb hb=>by
  cases hx:vw h b with
  | none=>rfl
  | some o=>have:=(S3 m1.old hW1) _ _ hx;rw[k8.avl b hb]at this;cases this
 simp[hc9];exact hK _ _ ⟨hle9,o9.fresh (λ_ _ h=>by cases h) hav⟩
def kS (f:Nat->List Int) (n:Nat):List (Int × Int):=(List.range n).flatMap λa=>(f a).map λb=>((a:Int),b)
theorem jV{f:Nat->List Int}:kS f (n+1)=kS f n++(f n).map λb=>((n:Int),b):=by simp[kS,QJ]
theorem FT{f:Nat->List Int}{m:Nat}(h:n<=m): ∃t,kS f m=kS f n++t:=by
 induction m with
 | zero=>exact⟨[],by simp[show n=0 by omega]⟩
 | succ m ih=>
  rcases Ov n (m+1)with h1 | h1
  ·obtain⟨t,ht⟩:=ih R3;exact⟨t++(f m).map λb=>((m:Int),b),by rw[jV,ht,ON]⟩
  exact⟨[],by simp[show n=m+1 by omega]⟩
theorem Ga{f:Nat->List Int}{a j:Nat}(ha:a<n)(hj:j<(f a).length):(kS f n)[(kS f a).length+j]? = Se ((a:Int),nth (f a) j):=by obtain⟨t,ht⟩:=FT (f:=f) (n:=a+1) (m:=n) R3;rw[ht,jV,ON,RF R3,RQ,RI (by simpa using hj)];simp[aB hj,hj]
def jE (g:Gr):List (Int × Int):=kS (λa=>nth (dK g) a) g.length
def Hm (e:Int × Int):List Value:=[Sb Sc e.1,Sb Sc e.2]
def As (g:Gr):List (List Value):=(jE g).map Hm
theorem G6{h:Heap}:
  aA Sn 144 #[vg] h (λv h'=>v = .func (.func 150) #[] #[Si (Se ⟨h.size,0,Sf⟩)]/\h'=h.push (.cells vg.cells T.kJ)):=by refine au (args:=[vg]) follows Tryz.func144 E.nX S0 λK hK=>?_;simp[L.nX];refine cr rfl ?_;simp;exact hK _ _ ⟨rfl,rfl⟩
theorem BV{g:Gr}{V:View}{p:Addr}(hg:SlRd V vg g)(hp:ao V p=Se vg)(hs:Sm g):Iter Sn 150 [Si (Se p)] V (As g):=by
 intro l J W h hM hV hVl h0 hround;have hW:=(hM Sj 0).le h0;refine au (args:=[.func (.yield l) #[] #[],Si (Se p)]) follows Tryz.func150 E.cO S0 λK hK=>?_;simp[L.cO,ae (S3 hV hW) hp];refine aj R1 (CI (hg.mono (S3 hV hW)) hs) ?_;rintro vr h1 ⟨W1,m1⟩;have hJ1:=(hM Sj 0).grown h0 (N8 _) m1.old;have hr1:=m1.fresh.mono (gC W h h1);have hag : ∀b,b<h.size->grow W h h1 b=W b:=λb hb=>jo hb;generalize grow W h h1=W2 at hJ1 hr1 hag;have hlen:=hr1.bound;have hcl:=jf (g:=g);obtain⟨rv,hrv⟩:=hr1.rows;simp[hr1.len];have hall : ∀{a j:Nat},a<(dK g).length->j<(nth (dK g) a).length->(As g)[(kS (λa=>nth (dK g) a) a).length+j]? = Se [Sb Sc a,Sb Sc (nth (nth (dK g) a) j)]:=by intro a j ha hj;rw[As,Qx,jE,Ga (f:=λa=>nth (dK g) a) R3 hj];rfl
 refine aY [0,8,9,10] (fun(_:Unit) k=>[.func (.yield l) #[] #[],vr,Sb Sc (dK g).length,Sb Sc k]) (λ_ k h2=>J Sj (kS (λa=>nth (dK g) a) k).length W2 h2) (dK g).length ()
  rfl R3 rfl hJ1 (λ_ _=>rfl) (λv k h1 hk m=>by simp) ?_ ?_
 ·intro _ a h2 hlt hJ2 K2 hK2;have hW2:=(hM _ _).le hJ2;obtain⟨cv,rr⟩:=hrv a hlt;have br:=rr.bound;simp(disch:=omega)[hr1.idx1 rfl,cv _ hW2,rr.len];refine aY [0,8,9,10,3,15,16,17] (fun(_:Unit) j=>[.func (.yield l) #[] #[],vr,Sb Sc (dK g).length,Sb Sc a,Sb Sc a,rv a,Sb Sc (nth (dK g) a).length,Sb Sc j])
   (λ_ j h3=>J Sj ((kS (λa=>nth (dK g) a) a).length+j) W2 h3) (nth (dK g) a).length () rfl R3 rfl hJ2 (λ_ _=>rfl) (λv k h1 hk m=>by simp) ?_ ?_
  ·intro _ j h3 hlt3 hJ3 K3 hK3;have hW3:=(hM _ _).le hJ3;simp(disch:=omega)[rr.idx1 rfl,rr.int hW3];refine GW (ops:=[.tmp 22,.tmp 23]) rfl (by simpa using hround _ _ W2 h3 hag (hall hlt hlt3) hJ3) ?_;rintro b h4 ⟨W4,e1,e2,hJ4⟩;cases b with
   | true=>obtain rfl:=e2 rfl;simp[ln];exact hK3 () _ _ rfl rfl hJ4
   | false=>simp[ln];exact hK _ _ ⟨Sk,_,W4,λi hi hne=>by rw[e1 i hne,hag i hi],hJ4,λh=>by cases h⟩
  intro _ h3 hJ3;simp;refine hK2 () _ _ rfl rfl ?_;rw[jV,OH,PQ];exact hJ3
 intro _ h2 hJ2;simp;refine hK _ _ ⟨Sj,_,W2,λi hi _=>hag i hi,hJ2,λ_=>?_⟩;rw[As,PQ,jE,hcl]
def fL (p:Gr) (e:Int × Int):Gr:=p.set e.2.toNat (nth p e.2.toNat++[e.1])
def dR (g:Gr):Gr:=(jE g).foldl fL (List.replicate g.length [])
theorem wY{β γ:Type}{f:β->γ->β}{l:List γ}{k:Nat}{x:γ}{b:β}(h:l[k]? = Se x):(l.take (k+1)).foldl f b=f ((l.take k).foldl f b) x:=by rw[RN,h,PI];rfl
theorem rK{g:Gr}{e:Int × Int}(h:e∈jE g):(0<=e.1/\e.1<g.length)/\0<=e.2/\e.2<g.length:=by simp only[jE,kS,List.mem_flatMap,P2,PN]at h;obtain⟨a,ha,b,hb,rfl⟩:=h;obtain⟨j,hj,rfl⟩:=OS hb;have:=vu a (by rw[jf];exact ha) j hj;rw[jf,aB hj]at this;exact⟨⟨by omega,by simp only;omega⟩,this⟩
theorem pD{l:List (Int × Int)}{p:Gr}:(l.foldl fL p).length=p.length:=by
 induction l generalizing p with
 | nil=>rfl
 | cons e l ih=>rw[OW,ih];simp[fL]
theorem Bv{l:List (Int × Int)}{p:Gr}{i m:Nat}(hp:(nth p i).length<=m):(nth (l.foldl fL p) i).length<=m+l.length:=by
 induction l generalizing p m with
 | nil=>exact hp
 | cons e l ih=>
  rw[OW];have:=ih (p:=fL p e) (m:=m+1) ?_
  ·simp only[Px];omega
  unfold fL;rcases Ov i p.length with hi | hi
  ·rw[bP hi];split
   ·rename_i h;rw[h];simp;omega
   omega
  rw[dx (by simpa using hi)];simp[default]
theorem Aa{n:Int}:(mq row n).length<=row.length:=by have h1:=qH (p:=qR row n) (x:=λi=>nth row i) row.length;have h2:(qw (sift (qR row n) (λi=>nth row i) row.length)).length=(sift (qR row n) (λi=>nth row i) row.length).length:=List.length_mergeSort _;have h3:=wG (l:=qw (sift (qR row n) (λi=>nth row i) row.length));rw[mq];omega
theorem Fe{f:Nat->List Int}{m:Nat}(h : ∀a,a<n->(f a).length<=m):(kS f n).length<=n*m:=by
 induction n with
 | zero=>simp[kS]
 | succ n ih=>have:=ih λa ha=>h a R3;have:=h n R3;rw[jV,OH,PQ,Pv];omega
theorem Dr{g:Gr}(hs:Sm g):(jE g).length<=1000000000000:=by
 have h1:=Fe (f:=λa=>nth (dK g) a) (n:=g.length) (m:=1000000) λa ha=>by have:=hs.2 a ha;rw[dK,gL ha];exact OX Aa this
 have h2:g.length*1000000<=1000000*1000000:=OY _ hs.1;rw[jE];omega
theorem CH{g:Gr}{h:Heap}(hg:SlRd (vw h) vg g)(hs:Sm g):
  aA Sn 120 #[vg] h (λv h'=>(vw h).le (vw h')/\SlRd (fresh h h') v (dR g)):=by
 refine Ba (args:=[vg]) follows Tryz.func120 E.nW S0 λK hK=>?_;have hs1:=hs.1;have hel:=Dr hs;simp[L.nW,hg.len];refine Hk (n:=g.length) El.kJ (by simp<;>rfl) (by simp<;>rfl) rfl R3 R3 ?_;refine vR (z:=Sg Sf 0 0) (v:=Sg (Se ⟨h.size,0,Sf⟩) g.length g.length) R1 rfl R1 rfl rfl R5 R5 λh2 hle2 hsz2 hB2=>?_;have hle02:(vw h).le (vw h2):=S3 (bC _ _) hle2;have hg2:h2[h.size]? = Se (.cells (List.replicate g.length (Sg Sf 0 0)).toArray T.aP (0,0)):=hle2 _ _ (show(h.push _)[h.size]? = _ by simp);simp at hsz2 hB2;simp;refine aj R1 G6 ?_;rintro _ _ ⟨rfl,rfl⟩;have hgc:=hg.cells.1;rw[hgc];have hle3:=bC h2 (.cells #[vg] T.kJ);generalize hh3:h2.push (.cells #[vg] T.kJ)=h3 at hle3;have hsz3:h3.size=h.size+3:=by rw[<-hh3];simp[hsz2]
 obtain⟨W0,hW0⟩ : ∃W:View,W=λb=>if b=h.size then Sf else h3[b]?:=⟨_,rfl⟩;have hW0le:W0.le (vw h3):=λb o hb=>by
  rw[hW0]at hb;simp only at hb;split at hb
  ·cases hb
  exact hb
 have h0W:(vw h).le W0:=λb o hb=>by have hlt:=View.lt (View.le_refl (vw h)) hb;rw[hW0];simp only;rw[if_neg R3];exact S3 hle02 hle3 b o hb
 have hp3:ao W0 ⟨h2.size,0,Sf⟩=Se vg:=by
  have e:W0 h2.size=Se (.cells #[vg] T.kJ (0,0)):=by rw[hW0];simp only;rw[if_neg R3,<-hh3];simp
  simp[ao,e]
 have hB3:W0 (h.size+1)=Se (.cells #[Sg (Se ⟨h.size,0,Sf⟩) g.length g.length] T.kJ (0,0)):=by rw[hW0];simp only;rw[if_neg R3];exact hle3 _ _ hB2
 refine DZ (enc:=Hm) (all:=jE g) (gf:=150) (caps:=[Si (Se ⟨h2.size,0,Sf⟩)]) W0 W0 (λe k W h'=>e=Sf/\∃rv,Rw W h' T.aP T.int h.size rv (((jE g).take k).foldl fL (List.replicate g.length [])))
  rfl R1 (BV (hg.mono h0W) hp3 hs) (λ_=>rfl) S2 (λe k=>⟨λ⟨_,rv,r⟩=>r.wle,λ⟨a,rv,r⟩ _ h1 h2 _=>⟨a,rv,r.move h1 h2⟩⟩) ⟨rfl,_,Rw.start hW0le (by rw[hW0];simp) (hle3 _ _ hg2)⟩
  (λx h1=>by simp[Hm,dF];rfl) ?_ ?_ ?_
 ·rintro k e W h1 hag hk ⟨_,rv,r⟩ K2 hK2 _;have he:=rK (Pp hk);have hk1:k<(jE g).length:=(QQ.1 hk).1;have hst:=wY (f:=fL) (b:=List.replicate g.length []) hk;have hpl:=pD (l:=(jE g).take k) (p:=List.replicate g.length []);have hrl:=Bv (l:=(jE g).take k) (p:=List.replicate g.length []) (i:=e.2.toNat) (m:=0) (by rw[aL R3];simp);rw[O8]at hrl;rw[Po]at hpl;generalize hp:((jE g).take k).foldl fL (List.replicate g.length [])=p at r hst hpl hrl;have hlt:=r.lt;have hB1:h1[h.size+1]? = Se (.cells #[Sg (Se ⟨h.size,0,Sf⟩) g.length g.length] T.kJ (0,0)):=r.wle _ _ (by rw[hag _ R3];exact hB3);have hlt1:=(OG.1 hB1).1;obtain⟨H,hH⟩ : ∃H:View,H=λb=>if b=h.size\/b=h.size+1 then h1[b]? else none:=⟨_,rfl⟩;have hHle:H.le (vw h1):=λb o hb=>by
   rw[hH]at hb;simp only at hb;split at hb
   ·exact hb
   cases hb
  have c1:ao H ⟨h.size+1,0,Sf⟩=Se (Sg (Se ⟨h.size,0,Sf⟩) g.length g.length):=du (by rw[hH];simp only;rw[if_pos Sa];exact hB1) rfl;have hlen:=r.len;have c2:ao H ⟨h.size,e.2.toNat,Sf⟩=Se (nth rv e.2.toNat):=du (by rw[hH];simp only;rw[if_pos Sa];exact r.blk) (by rw[aB R3];simp);refine aI H hHle ?_;simp(disch:=omega)[c1,c2,Jk];refine oG (α:=Int) (W:=nothing) El.aP (by simp<;>rfl) (qk R3 R3) λu h4 hsrc hle4 _=>⟨S3 hHle hle4,?_⟩;have r4:=r.ext hle4;have hi:e.2.toNat<p.length:=by omega
  refine bO El.aP Sa Sa (r4.own _ hi) hsrc R9 R9 λv' h5 o5 m5=>?_;have hg5:h5[h.size]? = Se (.cells rv.toArray T.aP (0,0)):=by rw[m5.kept.block _ r4.lt (λe=>r4.ng _ hi e.symm)];exact r4.blk
  obtain⟨hcells,hone⟩:=mJ o5;have hH5:H.le (vw h5):=by
   intro b o hb;have hlt4:=View.lt (S3 hHle hle4) hb;have h4b:=S3 hHle hle4 b o hb;show h5[b]? = _;rw[m5.kept.block b hlt4 ?_]
   ·exact h4b
   rw[hH]at hb;simp only at hb;split at hb
   ·rename_i e1;rcases e1 with rfl | rfl
    ·exact λe=>r4.ng _ hi e.symm
    intro e;have:=r4.av _ hi _ e.symm;rw[hag _ R3,hB3]at this;cases this
   cases hb
  refine⟨hH5,?_⟩;refine eR (g:=h.size) (o:=e.2.toNat) (n:=1) (v:=v') R1 Sa Sa (by rw[hcells];rfl) (by rw[hcells];simpa using hone) hg5 R9 λh6 hsz6 ⟨row,hrow,hre⟩ hoth=>?_;refine hK2 _ _ ⟨rfl,rv.set e.2.toNat v',?_⟩;rw[hst,fL];have hrow2:row=(rv.set e.2.toNat v').toArray:=by rw[<-Array.toList_inj,hre,hcells,Q1,if_pos R3];simp
  rw[hrow2]at hrow;exact r4.put hi o5 m5 hrow hoth hsz6
 ·rintro W h1 hag ⟨_,rv,r⟩;rw[OK (N8 _)]at r;have hB1:h1[h.size+1]? = Se (.cells #[Sg (Se ⟨h.size,0,Sf⟩) g.length g.length] T.kJ (0,0)):=r.wle _ _ (by rw[hag _ R3];exact hB3);have c1:ao (vw h1) ⟨h.size+1,0,Sf⟩=Se (Sg (Se ⟨h.size,0,Sf⟩) g.length g.length):=du hB1 rfl;simp[c1];intro h4 hsw;have hWW:(vw h).le W:=λb o hb=>by rw[hag b (by have:=View.lt (View.le_refl (vw h)) hb;omega)];exact h0W b o hb
  have hfl:=pD (l:=jE g) (p:=List.replicate g.length []);rw[Po]at hfl;have hfr:=r.fresh hWW R3;rw[hfl]at hfr;exact⟨_,rfl,hK _ _ ⟨hsw.ext (S3 hWW r.wle),hsw.rd hfr⟩⟩
 rintro e k W h1 hag ⟨hne,_⟩;cases hne
def gk (n:Nat) (order:List Int):List Int:=up (λi l=>l.set (nth order i).toNat (i:Int)) order.length (List.replicate n (-1))
def bstS (out number:List Int) (n:Nat):List Int->Int->Option Int
 | [],best=>Se best
 | a::l,best=>
  if 0<=a/\a<n then
   if nth number a.toNat<0\/(a≠0/\nth out a.toNat<0) then bstS out number n l best
   else if best<0 then bstS out number n l a
   else(lG out number (2*n+2) best a).bind (bstS out number n l)
  else Sf
def setS (out:List Int) (ch:Bool) (b best:Int):List Int × Bool:=if nth out b.toNat≠best then(out.set b.toNat best,Sj) else(out,ch)
def sG (number:List Int) (preds:Gr) (n:Nat):List Int->List Int × Bool->Option (List Int × Bool)
 | [],s=>Se s
 | b::l,s=>
  if 0<=b/\b<n then(bstS s.1 number n (nth preds b.toNat) (-1)).bind λbest=>sG number preds n l (setS s.1 s.2 b best)
  else Sf
def oR (number:List Int) (preds:Gr) (n:Nat) (tail:List Int):Nat->List Int->Option (List Int)
 | 0,_=>Sf
 | m+1,out=>(sG number preds n tail (out,Sk)).bind λs=>if s.2 then oR number preds n tail m s.1 else Se s.1
def zZ (g:Gr) (fuel:Nat):Option (List Int):=
 oR (gk g.length (bG g)) (dR g) g.length ((bG g).drop (min 1 (bG g).length)) fuel (List.replicate g.length (-1))
theorem jH {out number:List Int} {c:Int} : ∀{k:Nat} {x y:Int},lG out number k x y=Se c->0<=c/\c<number.length
 | 0,x,y,h=>by cases h
 | k+1,x,y,h=>by
  rw[lG]at h;split at h;case isFalse=>cases h
  rename_i hr;split at h
  ·exact jH h
  split at h
  ·exact jH h
  cases h;omega
theorem Dw{out:List Int}: ∀{l:List Int} {best r:Int},(-1<=best/\best<n)->out.length=n->number.length=n->(∀i,i<n->-1<=nth out i/\nth out i<n)->bstS out number n l best=Se r->-1<=r/\r<n:=by
 intro l;induction l with
 | nil=>intro best r hb _ _ _ h;simp only[bstS,N7]at h;subst h;exact hb
 | cons a l ih=>
  intro best r hb h1 h2 h3 h;rw[bstS]at h;split at h;case isFalse=>cases h
  rename_i ha;split at h
  ·exact ih hb h1 h2 h3 h
  split at h
  ·exact ih R6 h1 h2 h3 h
  simp only[OM]at h;obtain⟨c,hc,h⟩:=h;refine ih ?_ h1 h2 h3 h;have:=jH hc;omega
structure OvOk (m M:Nat) (s:List Bool × List Int):Prop where
 len:s.1.length=m
 cnt:s.2.length+dN s.1<=M
 rng : ∀x∈s.2,0<=x/\x<m
theorem Bp {nx:Int->List Int} {m:Nat} (hnx : ∀a:Int,0<=a->a<m->∀i,i<(nx a).length->0<=nth (nx a) i/\nth (nx a) i<m) : ∀(n M:Nat) (a:Int) (s:List Bool × List Int),0<=a->a<m->nth s.1 a.toNat=Sk->OvOk m M s->OvOk m M (j9 nx n a s)
 | 0,_,_,_,_,_,_,h=>h
 | n+1,M,a,s,h0,h1,hf,h=>by
  rw[lz];have hlen:=h.len;have hfs:=jX (t:=s.1) (i:=a.toNat) R3 hf;have hc:=h.cnt;have hup : ∀k,k<=(nx a).length->OvOk m (M-1) (up (dp nx n a) k (s.1.set a.toNat Sj,s.2)):=by
   intro k;induction k with
   | zero=>exact λ_=>⟨by simpa[up]using hlen,by simp only[up];omega,h.rng⟩
   | succ k ih=>
    intro hk;have:=ih R3;rw[up];generalize up (dp nx n a) k (s.1.set a.toNat Sj,s.2)=z at this;unfold dp;split
    ·exact this
    rename_i hz;obtain⟨e0,e1⟩:=hnx a h0 h1 k R3;exact Bp hnx n (M-1) _ z e0 e1 (by simpa using hz) this
  have:=hup _ (N8 _);exact⟨this.len,by have:=this.cnt;simp;omega,λx hx=>by
   rcases OD.1 hx with hx | hx
   ·exact this.rng x hx
   simp only[OI]at hx;subst hx;exact⟨h0,h1⟩⟩
theorem zR{nx:Int->List Int}{m:Nat}(hnx : ∀a:Int,0<=a->a<m->∀i,i<(nx a).length->0<=nth (nx a) i/\nth (nx a) i<m):(ma nx m).length<=m/\∀x∈ma nx m,0<=x/\x<m:=by
 unfold ma;split
 ·simp
 rename_i h0;have:=Bp hnx m m 0 (List.replicate m Sk,[]) R3 R3 (aL R9) ⟨by simp,by simp[dN],by simp⟩;refine⟨?_,λx hx=>this.rng x (by simpa using hx)⟩;have:=this.cnt;simp;omega
theorem Kx{g:Gr}: ∀a:Int,0<=a->a<(g.length:Int)->∀i,i<(nx (dK g) a).length->0<=nth (nx (dK g) a) i/\nth (nx (dK g) a) i<g.length:=by intro a h0 h1 i hi;have:=vu a.toNat (by rw[jf];omega) i hi;rwa [jf]at this
theorem FA{g:Gr}{i:Nat}(hi:i<(bG g).length):0<=nth (bG g) i/\nth (bG g) i<g.length:=
 (zR Kx).2 _ (bw hi)
theorem sQ{g:Gr}:(bG g).length<=g.length:=(zR Kx).1
theorem uI{g:Gr}: ∀{l:List (Int × Int)} {p:Gr},(∀e∈l,0<=e.1/\e.1<g.length)->(∀i,∀x∈nth p i,0<=x/\x<g.length)->∀i,∀x∈nth (l.foldl fL p) i,0<=x/\x<g.length:=by
 intro l;induction l with
 | nil=>exact λ_ h=>h
 | cons e l ih=>
  intro p hl hp;rw[OW];refine ih (λe' he'=>hl e' (OL _ he')) λi x hx=>?_;unfold fL at hx;rcases Ov i p.length with hi | hi
  ·rw[bP hi]at hx;split at hx
   ·rcases OD.1 hx with hx | hx
    ·exact hp _ x hx
    simp only[OI]at hx;subst hx;exact hl e (OJ ..)
   exact hp _ x hx
  rw[dx (by simpa using hi)]at hx;cases hx
theorem yf{h:Heap}{v v':Value}(m:lV h h' v v')(hw:W.le (vw h))(ha:Av W v):W.le (vw h'):=(m.view hw ha).1
theorem Kd{g:Gr}{h:Heap}{fuel:Nat}{l:List Int}(hg:SlRd (vw h) vg g)(hs:Sm g)(hl:zZ g fuel=Se l):
  aA Sn 121 #[vg] h (λv h'=>∃W,Mine nothing h h' W T.int v l):=by
 refine au (args:=[vg]) follows Tryz.func121 E.bH S0 λK hK=>?_;have hs1:=hs.1;simp[L.bH,hg.len];refine aj R1 (Cs hg hs) ?_;rintro vo h1 ⟨hle1,ho⟩;have hoin:=@FA g;have holen:=sQ (g:=g);rw[zZ]at hl;generalize bG g=order at ho hoin holen hl;refine Mine.made (V:=nothing) (W:=nothing) (h0:=h) (n:=g.length) (d:=(0:Int)) El.aP hle1 (λ_ _ h=>by cases h) (Old.nothing _ _) (by simp<;>rfl) (by simp<;>rfl) ⟨rfl,by omega,by omega⟩ R3 R3 λvn h2 mn hle2 hbn=>?_;refine Mine.made (V:=nothing) (W:=nothing) (h0:=h) (n:=g.length) (d:=(0:Int)) El.aP mn.old (λ_ _ h=>by cases h) (Old.nothing _ _) (by simp<;>rfl) (by simp<;>rfl) ⟨rfl,by omega,by omega⟩ R3 R3 λvi h3 mi hle3 hbi=>?_;have mn3:=mn.ext' hle3;have hne:vn.ownBlock≠vi.ownBlock:=by have:=mn.own.lt hbn;rw[hbn,hbi];intro e;simp only[N7]at e;omega
 have hle13:(vw h1).le (vw h3):=S3 hle2 hle3;have av1n:Av (vw h1) vn:=λb hb=>by rw[hbn]at hb;cases hb;exact View.cS S2 (N8 _)
 have av1i:Av (vw h1) vi:=λb hb=>by rw[hbi]at hb;cases hb;exact View.cS hle2 (N8 _)
 refine aY [0,3,4,5,25,26] (fun(_:Unit) k=>[vg,vo,vn,vi,Sb Sc g.length,Sb Sc k])
  (λ_ k h4=>Mine nothing h h4 nothing T.int vn (rows (λ_=>(-1:Int)) k++List.replicate (g.length-k) 0)/\Mine nothing h h4 nothing T.int vi (rows (λ_=>(-1:Int)) k++List.replicate (g.length-k) 0)/\(vw h1).le (vw h4)) g.length ()
  rfl R3 rfl ⟨by simpa using mn3,by simpa using mi,hle13⟩ (λ_ _=>rfl) (λv k h1 hk m=>by simp) ?_ ?_
 ·rintro _ k h4 hlt ⟨m4n,m4i,hle4⟩ K2 hK2;have hlk:(rows (λ_=>(-1:Int)) k++List.replicate (g.length-k) (0:Int)).length=g.length:=by simp;omega
  simp(disch:=omega)[m4n.now.idx1 rfl,m4i.now.idx1 rfl];refine sE (W:=nothing) (i:=k) (d:=(-1:Int)) R1 (by simp[show Rep.n Int=1 from rfl]) (by simp<;>rfl) m4n.own R3 (qk R3 R3) λh5 o5 mv5=>?_;have m5n:=m4n.iu o5 mv5;have m5i:=m4i.beside m5n mv5 (.inr (Ne.symm hne));refine sE (W:=nothing) (i:=k) (d:=(-1:Int)) R1 (by simp[show Rep.n Int=1 from rfl]) (by simp<;>rfl) m5i.own R3 (qk R3 R3) λh6 o6 mv6=>?_;have m6i:=m5i.iu o6 mv6;have m6n:=m5n.beside m6i mv6 (.inr hne);rw[tO (x:=λ_=>(-1:Int)) hlt]at m6i m6n;exact hK2 () _ _ rfl rfl ⟨m6n,m6i,yf mv6 (yf mv5 hle4 av1n) av1i⟩
 rintro _ h4 ⟨m4n,m4i,hle4⟩;have hrows:rows (λ_=>(-1:Int)) g.length=List.replicate g.length (-1):=by refine PU Sa λi h1 h2=>?_;simp[rows]
 rw[hrows]at m4n m4i;simp only[Q2,List.replicate_zero,PO]at m4n m4i;have ho1:=ho.mono (lX h h1);simp[ho1.len];refine aY [0,3,4,5,36,37,38] (fun(_:Unit) k=>[vg,vo,vn,vi,vo,Sb Sc order.length,Sb Sc k])
  (λ_ k h5=>Mine nothing h h5 nothing T.int vn (up (λi l=>l.set (nth order i).toNat (i:Int)) k (List.replicate g.length (-1)))/\Mine nothing h h5 nothing T.int vi (List.replicate g.length (-1))/\(vw h1).le (vw h5)) order.length ()
  rfl R3 rfl ⟨m4n,m4i,hle4⟩ (λ_ _=>rfl) (λv k h1 hk m=>by simp) ?_ ?_
 ·rintro _ k h5 hlt ⟨m5n,m5i,hle5⟩ K2 hK2;have hlen5:(up (λi l=>l.set (nth order i).toNat (i:Int)) k (List.replicate g.length (-1))).length=g.length:=by rw[Ay List.length (λ_ _=>by simp)];simp
  have ho5:=ho1.mono hle5;obtain⟨e0,e1⟩:=hoin hlt;simp(disch:=omega)[ho5.idx1 rfl,ho5.int S2,m5n.now.idx1 rfl];refine sE (W:=nothing) (i:=(nth order k).toNat) (d:=(k:Int)) R1 (by simp[show Rep.n Int=1 from rfl]) (by simp<;>rfl) m5n.own R3 (qk R3 R3) λh6 o6 mv6=>?_;have m6n:=m5n.iu o6 mv6;exact hK2 () _ _ rfl rfl ⟨m6n,m5i.beside m6n mv6 (.inr (Ne.symm hne)),yf mv6 hle5 av1n⟩
 rintro _ h5 ⟨m5n,m5i,hle5⟩;have hnum:up (λi l=>l.set (nth order i).toNat (i:Int)) order.length (List.replicate g.length (-1))=gk g.length order:=rfl;rw[hnum]at m5n;have hnl:(gk g.length order).length=g.length:=by rw[gk,Ay List.length (λ_ _=>by simp)];simp
 simp;refine aj R1 (CH (hg.mono m5n.old) hs) ?_;rintro vp h6 ⟨hle6,hp⟩;have hpl:(dR g).length=g.length:=by rw[dR,pD];simp
 have hpin : ∀i,∀x∈nth (dR g) i,0<=x/\x<g.length:=uI (λe he=>(rK he).1) (λi x hx=>by
  rcases Ov i g.length with hi | hi
  ·rw[aL hi]at hx;cases hx
  rw[dx (by simpa using hi)]at hx;cases hx);have m6:=(m5i.ext' hle6).over;have hn6:SlRd (but vi h6) vn (gk g.length order):=(m5n.own.rd (V:=but vi h5) (λ_ _ h=>by cases h) (λb hb=>by unfold but;rw[if_neg (λe=>hne (hb.trans e.symm))])).mono (Bg hle6)
 have hp6:SlRd (but vi h6) vp (dR g):=hp.mono λb o hb=>by
  have hb2:=lX _ _ b o hb;unfold but;split
  ·rename_i e;have:=m5i.own.lt e;unfold fresh at hb;rw[if_pos this]at hb;cases hb
  exact hb2
 have ho6:SlRd (but vi h6) vo order:=ho1.mono (S3 (LW hle5 av1i) (Bg hle6));generalize hW:but vi h6=W at m6 hn6 hp6 ho6;generalize gk g.length order=number at hn6 hnl hl;generalize hpr:dR g=preds at hp6 hpl hpin hl;obtain⟨pv,hpv⟩:=hp6.rows;refine iy [3,4,5,9,10] (λm ρ h7=>∃(out:List Int) (ch:Bool),ρ=[(3,vo),(4,vn),(5,vi),(9,vp),(10,.bool ch)]/\Mine (vw h) h h7 W T.int vi out/\out.length=g.length/\(∀i,i<g.length->-1<=nth out i/\nth out i<g.length)/\
  (ch=Sj->oR number preds g.length (order.drop (min 1 order.length)) m out=Se l)/\(ch=Sk->out=l)) fuel
  ⟨_,Sj,rfl,m6,by simp,λi hi=>by rw[aL hi];omega,λ_=>hl,λh=>by cases h⟩ ?_;rintro m ρ h7 ⟨out,ch,rfl,m7,hol,hor,hch1,hch2⟩ K2 hK2;cases ch with
 | false=>simp[L.bH.l3,ln];have:=hch2 rfl;subst this;exact hK _ _ ⟨_,m7.Na⟩
 | true=>
  have hit:=hch1 rfl;cases m with
  | zero=>cases hit
  | succ m=>
   rw[oR,OM]at hit;obtain⟨⟨out',ch'⟩,hsw,hfin⟩:=hit;simp only at hfin;simp[L.bH.l3,ln];have hmin:(if(order.length:Int)<1 then(order.length:Int) else 1)=((min 1 order.length:Nat):Int):=by split<;>omega
   obtain⟨u,hu,hur⟩:=ho6.drop (n:=min 1 order.length) R3 (kd:=.i64);rw[show Rep.n Int=1 from rfl]at hu;have hti : ∀j,j<(order.drop (min 1 order.length)).length->nth (order.drop (min 1 order.length)) j=nth order (min 1 order.length+j):=by intro j hj;rw[O9]at hj;rw[aB (by rw[O9];omega),aB R3,QL]
   generalize order.drop (min 1 order.length)=tail at hur hti hsw hfin hK2;simp only[ho6.len,OT,L2,hmin,hu,hur.len,kG,dF];have hub:=hur.bound;simp;refine aY [3,4,5,9,10,55,56,57] (fun(s:List Int × Bool) k=>[vo,vn,vi,vp,.bool s.2,u,Sb Sc tail.length,Sb Sc k])
    (λs k h8=>Mine (vw h) h h8 W T.int vi s.1/\s.1.length=g.length/\(∀i,i<g.length->-1<=nth s.1 i/\nth s.1 i<g.length)/\sG number preds g.length (tail.drop k) s=Se (out',ch')) tail.length (out,Sk)
    rfl R3 rfl ⟨m7,hol,hor,by simpa using hsw⟩ (λ_ _=>rfl) (λv k h1 hk m=>by simp) ?_ ?_
   ·rintro⟨o8,c8⟩ k h8 hlt8 ⟨m8,hol8,hor8,hs8⟩ K3 hK3;simp only at m8 hol8 hor8;rw[O4 hlt8,<-aB hlt8,sG]at hs8;split at hs8;case isFalse=>cases hs8
    rename_i hb;rw[OM]at hs8;obtain⟨best,hbest,hs8⟩:=hs8;simp only at hbest hs8;have hb2:=Dw R3 hol8 hnl hor8 hbest;generalize hbe:nth tail k=b at hb hbest hs8;obtain⟨cv,rr⟩:=hpv b.toNat R3;have br:=rr.bound;simp(disch:=omega)[hur.idx1 rfl,hur.int m8.wle,hbe,hp6.idx1 rfl,cv _ m8.wle,rr.len];refine aY [3,4,5,9,10,55,56,57,12,13,64,65,66] (fun(bst:Int) j=>[vo,vn,vi,vp,.bool c8,u,Sb Sc tail.length,Sb Sc k,Sb Sc b,Sb Sc bst,pv b.toNat,Sb Sc (nth preds b.toNat).length,Sb Sc j])
     (λbst j h9=>Mine (vw h) h h9 W T.int vi o8/\(-1<=bst/\bst<g.length)/\bstS o8 number g.length ((nth preds b.toNat).drop j) bst=Se best) (nth preds b.toNat).length (-1)
     rfl R3 rfl ⟨m8,by omega,by simpa using hbest⟩ (λ_ _=>rfl) (λv k h1 hk m=>by simp) ?_ ?_
    ·rintro bst j h9 hlt9 ⟨m9,hb9,hs9⟩ K4 hK4;rw[O4 hlt9,<-aB hlt9,bstS]at hs9;have ha:=hpin _ _ (bw hlt9);rw[if_pos ha]at hs9;have hra:=rr.int m9.wle hlt9;generalize nth (nth preds b.toNat) j=a at hs9 ha hra;have hn9:=hn6.int m9.wle (i:=a.toNat) R3;have ho9:=m9.now.int S2 (i:=a.toNat) R3;have hi9:=m9.now;by_cases c1:nth number a.toNat<0
     ·rw[if_pos (.inl c1)]at hs9;simp(disch:=omega)[rr.idx1 rfl,hra,hn6.idx1 rfl,hn9,c1,hi9.idx1 rfl,ho9];exact hK4 bst _ _ rfl rfl ⟨m9,hb9,hs9⟩
     by_cases c2:a=0
     ·rw[if_neg (by rintro(h | h);exact c1 h;exact h.1 c2)]at hs9;subst c2;rw[Int.toNat_zero]at hn9 ho9 c1;simp(disch:=omega)[rr.idx1 rfl,hra,hn6.idx1 rfl,hn9,c1,hi9.idx1 rfl,ho9];refine⟨λc4=>?_,λc4=>?_⟩
      ·rw[if_pos c4]at hs9;exact hK4 _ _ _ rfl rfl ⟨m9,by omega,hs9⟩
      rw[if_neg R3,OM]at hs9;obtain⟨c,hc,hs9⟩:=hs9;have hcr:=jH hc;refine aj R1 (zf m9.now (hn6.mono m9.wle) hc) ?_;rintro _ _ ⟨rfl,rfl⟩;exact hK4 c _ _ rfl rfl ⟨m9,by omega,hs9⟩
     by_cases c3:nth o8 a.toNat<0
     ·rw[if_pos (.inr ⟨c2,c3⟩)]at hs9;simp(disch:=omega)[rr.idx1 rfl,hra,hn6.idx1 rfl,hn9,c1,c2,hi9.idx1 rfl,ho9,c3];exact hK4 bst _ _ rfl rfl ⟨m9,hb9,hs9⟩
     rw[if_neg (by rintro(h | h);exact c1 h;exact c3 h.2)]at hs9;simp(disch:=omega)[rr.idx1 rfl,hra,hn6.idx1 rfl,hn9,c1,c2,hi9.idx1 rfl,ho9,c3];refine⟨λc4=>?_,λc4=>?_⟩
     ·rw[if_pos c4]at hs9;exact hK4 _ _ _ rfl rfl ⟨m9,by omega,hs9⟩
     rw[if_neg R3,OM]at hs9;obtain⟨c,hc,hs9⟩:=hs9;have hcr:=jH hc;refine aj R1 (zf m9.now (hn6.mono m9.wle) hc) ?_;rintro _ _ ⟨rfl,rfl⟩;exact hK4 c _ _ rfl rfl ⟨m9,by omega,hs9⟩
    rintro bst h9 ⟨m9,hb9,hs9⟩;simp only[List.drop_length,bstS,N7]at hs9;subst hs9;simp(disch:=omega)[m9.now.idx1 rfl,m9.now.int S2];refine⟨λe=>hK3 (o8,c8) _ _ rfl rfl ⟨m9,hol8,hor8,by rw[setS,if_neg (by simpa using e)]at hs8;exact hs8⟩,λe=>?_⟩;refine m9.put1 (α:=Int) (i:=b.toNat) R1 rfl Sa (by simp<;>rfl) R3 (qk R3 R3) λh10 m10=>hK3 (o8.set b.toNat bst,Sj) _ _ rfl rfl ⟨m10,by simpa using hol8,λi hi=>?_,by rw[setS,if_pos e]at hs8;exact hs8⟩;simp only;rw[bP R3];split
    ·exact hb9
    exact hor8 i hi
   rintro⟨o8,c8⟩ h8 ⟨m8,hol8,hor8,hs8⟩;simp only[List.drop_length,sG,N7,PW]at hs8 m8 hol8 hor8;obtain⟨rfl,rfl⟩:=hs8;simp;refine hK2 m _ _ R3 ⟨_,_,rfl,m8,hol8,hor8,λe=>?_,λe=>?_⟩
   ·rw[if_pos e]at hfin;exact hfin
   rw[if_neg (by simp[e])]at hfin;exact Option.some.inj hfin
abbrev Tr:=Int × Int × Int
def trV (t:Tr):List PanicEntry:=[{ v:=.iface T.gA (.agg #[Sb Sc t.1,Sb Sc t.2.1,Sb Sc t.2.2]),recovered:=false }]
def cI (n a b:Int):Bool:=decide (a<=n)&&decide (n<=b)
theorem lB{n a:Int}{h:Heap}:aA Sn 69 #[Sb Sc n,Sb Sc a,Sb Sc b] h (λv h'=>v = .bool (cI n a b)/\h'=h):=by refine au (args:=[Sb Sc n,Sb Sc a,Sb Sc b]) follows Tryz.func69 E.mP S0 λK hK=>?_;simp[L.mP];exact hK _ _ ⟨by by_cases h1:a<=n<;>simp[cI,h1],rfl⟩
theorem iL{ok:Bool}{e p:Int}{h:Heap}:ju Sn 68 #[.bool ok,Sb Sc e,Sb Sc b,Sb Sc p] h (λv h'=>ok=Sj/\h'=h) (λch h'=>ok=Sk/\ch=trV (e,b,p)/\h'=h):=by
 refine iW (args:=[.bool ok,Sb Sc e,Sb Sc b,Sb Sc p]) follows Tryz.func68 E.nG S0 λK Kp hK hKp=>?_;cases ok with
 | true=>simp[L.nG];exact hK _ _ ⟨rfl,rfl⟩
 | false=>simp[L.nG];refine an (z:=.agg #[Sb Sc 0,Sb Sc 0,Sb Sc 0]) (places:=[(0,1),(1,1),(2,1)]) (vs:=[(0,Sb Sc e),(1,Sb Sc b),(2,Sb Sc p)]) (cs:=#[Sb Sc e,Sb Sc b,Sb Sc p]) R1 R1 Sa R1 ?_;refine HU (d:=(Tryz.prog.underlying T.gA).getD .bool) R1 R1 rfl ?_;simp;refine H4 (t:=T.gA) (v:=.agg #[Sb Sc e,Sb Sc b,Sb Sc p]) rfl ?_;exact⟨.inl rfl,hKp _ _ ⟨rfl,rfl,rfl⟩⟩
def gQ (op:Int):Int × Int:=if op=1 then(0,0) else if op=15 then(1,1) else if op=17 then(0,4) else(2,2)
theorem Bu{op:Int}{h:Heap}:aA Sn 116 #[Sb Sc op] h (λv h'=>v = .tuple #[Sb Sc (gQ op).1,Sb Sc (gQ op).2]/\h'=h):=by refine au (args:=[Sb Sc op]) follows Tryz.func116 E.kQ S0 λK hK=>?_;simp[L.kQ];refine⟨λh1=>hK _ _ ⟨by simp[gQ,h1],rfl⟩,λh1=>⟨λh2=>hK _ _ ⟨by simp[gQ,h1,h2],rfl⟩,λh2=>⟨λh3=>hK _ _ ⟨by simp[gQ,h1,h2,h3],rfl⟩,λh3=>hK _ _ ⟨by simp[gQ,h1,h2,h3],rfl⟩⟩⟩⟩
def cU (i:InsD):List Int:=if i.op=16 then[] else if i.op=18 then[i.dst,i.two] else[i.dst]
theorem BU{d:InsD}{v:Value}{h:Heap}(hd:Rd (vw h) v d):aA Sn 72 #[v] h (λu h'=>(vw h).le (vw h')/\SlRd (fresh h h') u (cU d)):=by
 refine au (args:=[v]) follows Tryz.func72 E.oc S0 λK hK=>?_;simp[L.oc];refine gp rfl hd λh1 _ hle1 hsz1 hat=>?_;obtain⟨c0,c1,c2,va,ca⟩:=fO hat;have r1:=(hat.part InsD.iq).rng;have r2:=(hat.part InsD.yn).rng;simp[c0];refine⟨λe1=>hK _ _ ⟨hle1,by simpa[cU,e1]using aF⟩,λe1=>⟨λe2=>?_,λe2=>?_⟩⟩
 ·simp[c1,c2];refine mM (X:=nothing) (ds:=[d.dst,d.two]) (vs:=[Sb Sc d.dst,Sb Sc d.two]) rfl El.aP Sa ⟨aX.2 ⟨rfl,r1⟩,aX.2 ⟨rfl,r2⟩,trivial⟩ bQ rfl R3 λu h2 hle2 hsz2 hu _=>?_;exact hK _ _ ⟨S3 hle1 hle2,by simpa[cU,e2]using hu _ bQ (by unfold fresh;rw[if_neg R3])⟩
 simp[c1];refine mM (X:=nothing) (ds:=[d.dst]) (vs:=[Sb Sc d.dst]) rfl El.aP Sa ⟨aX.2 ⟨rfl,r1⟩,trivial⟩ bQ rfl R3 λu h2 hle2 hsz2 hu _=>?_;exact hK _ _ ⟨S3 hle1 hle2,by simpa[cU,e1,e2]using hu _ bQ (by unfold fresh;rw[if_neg R3])⟩
abbrev MW:=Int->Option (Int × Int)
def encW (w:Int × Int):Value:=.agg #[Sb Sc w.1,Sb Sc w.2]
variable{Kb:Nat}
theorem IZ{ps n p:Int}{h:Heap}(h0:ao (vw h) ⟨Kb,0,Sf⟩=Se (Sb Sc ps)):
  ju Sn 138 #[Si (Se ⟨Kb,0,Sf⟩),Sb Sc n,Sb Sc b,Sb Sc p] h (λ_ h'=>cI n ps 8191=Sj/\h'=h) (λch h'=>cI n ps 8191=Sk/\ch=trV (11,b,p)/\h'=h):=by
 refine iW (args:=[Si (Se ⟨Kb,0,Sf⟩),Sb Sc n,Sb Sc b,Sb Sc p]) follows Tryz.func138 E.iM S0 λK Kp hK hKp=>?_;simp[L.iM,h0];refine aj R1 lB ?_;rintro _ _ ⟨rfl,rfl⟩;refine ez R1 iL ?_ ?_
 ·rintro _ _ ⟨e,rfl⟩;exact hK _ _ ⟨e,rfl⟩
 rintro _ _ ⟨e,rfl,rfl⟩;exact⟨.inl rfl,hKp _ _ ⟨e,rfl,rfl⟩⟩
theorem JM{r:Nat}{m:MW}{n p:Int}{h:Heap}(h2:ao (skip r h) ⟨Kb,2,Sf⟩=Se (.map (Se r)))(hm:ee (.int .i64) h r (mapE encW m)):
  ju Sn 139 #[Si (Se ⟨Kb,0,Sf⟩),Sb Sc n,Sb Sc b,Sb Sc p] h (λ_ h'=>m n=Sf/\ee (.int .i64) h' r (mapE encW (putM m n (b,p)))/\Kept h h' (Se r))
   (λch h'=>m n≠Sf/\ch=trV (12,b,p)/\Kept h h' (Se r)):=by
 refine iW (args:=[Si (Se ⟨Kb,0,Sf⟩),Sb Sc n,Sb Sc b,Sb Sc p]) follows Tryz.func139 E.iK S0 λK Kp hK hKp=>?_;simp[L.iK,ae di h2];refine nr (z:=.agg #[Sb Sc 0,Sb Sc 0]) U.fZ U.int R1 (by simp<;>rfl) (by simp<;>rfl) fN hm ?_;simp;refine fT (n:=2) (z:=.agg #[Sb Sc 0,Sb Sc 0]) (v:=((m n).map encW).getD (.agg #[Sb Sc 0,Sb Sc 0])) R1 rfl R1 (by cases m n<;>rfl) (by cases m n<;>simp[encW,Value.oneCell']) R5 R5 λh3 hle3 _ _=>?_;have k3:=Kept.of_le (b:=Se r) hle3;have hm3:=hm.ext hle3;have h23:=ae k3.Ej h2;refine ez R1 iL ?_ ?_
 ·rintro _ _ ⟨e,rfl⟩;simp[h23];refine an (z:=.agg #[Sb Sc 0,Sb Sc 0]) (places:=[(0,1),(1,1)]) (vs:=[(0,Sb Sc b),(1,Sb Sc p)]) (cs:=#[Sb Sc b,Sb Sc p]) R1 R1 Sa R1 ?_;refine lg (v:=encW (b,p)) (.inl rfl) U.fZ U.int (by simp<;>rfl) (by simp<;>rfl) (by simp<;>rfl) fN hm3 _ jG.1 jG.2 λh4 hs4 ho4 hm4=>?_;exact hK _ _ ⟨by simpa using e,hm4,k3.trans (Kept.upd hs4 ho4)⟩
 rintro _ _ ⟨e,rfl,rfl⟩;exact⟨.inl rfl,hKp _ _ ⟨(by intro e2;rw[e2]at e;cases e),rfl,k3⟩⟩
def sB (b p:Int) (m:MW) (n:Int):Except Tr MW:=if(m n).isSome then .error (12,b,p) else .ok (putM m n (b,p))
def allS (ps:Int) (l:List Int) (b p:Int) (m:MW):Except Tr MW:=if l.all (λn=>cI n ps 8191) then l.foldlM (sB b p) m else .error (11,b,p)
structure Lk (h:Heap) (Kb r:Nat) (vb:Value) (f:aq) (m:MW):Prop where
 c0:ao (skip r h) ⟨Kb,0,Sf⟩=Se (Sb Sc f.params)
 c1:ao (skip r h) ⟨Kb,1,Sf⟩=Se vb
 c2:ao (skip r h) ⟨Kb,2,Sf⟩=Se (.map (Se r))
 rb:SlRd (skip r h) vb f.blocks
 map:ee (.int .i64) h r (mapE encW m)
theorem Lk.kept{h h':Heap}{Kb r:Nat}{vb:Value}{f:aq}{m m':MW}(k:Lk h Kb r vb f m)(hk:Kept h h' (Se r))(hm:ee (.int .i64) h' r (mapE encW m')):Lk h' Kb r vb f m':=
 ⟨ae hk.skip k.c0,ae hk.skip k.c1,ae hk.skip k.c2,k.rb.mono hk.skip,hm⟩
theorem Lk.ext {h h':Heap} {Kb r:Nat} {vb:Value} {f:aq} {m:MW} (k:Lk h Kb r vb f m) (hle:(vw h).le (vw h')):Lk h' Kb r vb f m:=
 k.kept (Kept.of_le hle) (k.map.ext hle)
theorem GV{r:Nat}{vb:Value}{f:aq}{m:MW}{l:List Int}{p:Int}{h:Heap}(k:Lk h Kb r vb f m)(hl:SlRd (skip r h) vl l):
  ju Sn 115 #[Si (Se ⟨Kb,0,Sf⟩),vl,Sb Sc b,Sb Sc p] h (λ_ h'=>∃m',allS f.params l b p m = .ok m'/\Lk h' Kb r vb f m'/\Kept h h' (Se r))
   (λch h'=>∃t,allS f.params l b p m = .error t/\ch=trV t/\Kept h h' (Se r)):=by
 refine iW (args:=[Si (Se ⟨Kb,0,Sf⟩),vl,Sb Sc b,Sb Sc p]) follows Tryz.func115 E.bN S0 λK Kp hK hKp=>?_;have hlb:=hl.bound;simp[L.bN,hl.len];refine aY [0,1,2,3,12,13,14] (fun(_:Unit) i=>[Si (Se ⟨Kb,0,Sf⟩),vl,Sb Sc b,Sb Sc p,vl,Sb Sc l.length,Sb Sc i]) (λ_ i h1=>h1=h/\∀j,j<i->cI (nth l j) f.params 8191=Sj) l.length ()
  rfl R3 rfl ⟨rfl,λj hj=>by omega⟩ (λ_ _=>rfl) (λv i h1 hk m=>by simp) ?_ ?_
 ·rintro _ i _ hlt ⟨rfl,hpre⟩ K2 hK2;simp(disch:=omega)[hl.idx1 rfl,hl.int di];refine ez R1 (IZ (ae di k.c0)) ?_ ?_
  ·rintro _ _ ⟨e,rfl⟩;refine hK2 () _ _ rfl rfl ⟨rfl,λj hj=>?_⟩;rcases Ov j i with h | h
   ·exact hpre j h
   have:j=i:=by omega
   subst this;exact e
  rintro _ _ ⟨e,rfl,rfl⟩;refine⟨.inl rfl,hKp _ _ ⟨_,?_,rfl,Kept.refl _ _⟩⟩;rw[allS,if_neg];intro ha;rw[O7.1 ha _ (bw hlt)]at e;cases e
 rintro _ h ⟨rfl,hpre⟩;have hall:allS f.params l b p m=l.foldlM (sB b p) m:=by rw[allS,if_pos];rw[O7];intro x hx;obtain⟨j,hj,rfl⟩:=OS hx;rw[<-aB hj];exact hpre j hj
 rw[hall]at hK hKp;simp[hl.len];refine aY [0,2,3,24,25,26] (fun(_:Unit) i=>[Si (Se ⟨Kb,0,Sf⟩),Sb Sc b,Sb Sc p,vl,Sb Sc l.length,Sb Sc i]) (λ_ i h1=>∃m',(l.take i).foldlM (sB b p) m = .ok m'/\Lk h1 Kb r vb f m'/\Kept h h1 (Se r)) l.length ()
  rfl R3 rfl ⟨m,rfl,k,Kept.refl _ _⟩ (λ_ _=>rfl) (λv i h1 hk m=>by simp) ?_ ?_
 ·rintro _ i h1 hlt ⟨m1,hm1,k1,kp1⟩ K2 hK2;have hl1:=hl.mono kp1.Ej;have hst:=Dk hlt hm1;simp(disch:=omega)[hl1.idx1 rfl,hl1.int S2];refine ez R1 (JM k1.c2 k1.map) ?_ ?_
  ·rintro _ h2 ⟨e,hm2,kp2⟩;refine hK2 () _ _ rfl rfl ⟨_,by rw[hst,sB,e];rfl,k1.kept kp2 hm2,kp1.trans kp2⟩
  rintro _ h2 ⟨e,rfl,kp2⟩;refine⟨.inl rfl,hKp _ _ ⟨_,FH (k:=i+1) (by rw[hst,sB,if_pos (Option.isSome_iff_ne_none.2 e)]),rfl,kp1.trans kp2⟩⟩
 rintro _ h1 ⟨m1,hm1,k1,kp1⟩;rw[Pj]at hm1;simp;exact hK _ _ ⟨m1,hm1,k1,kp1⟩
abbrev Sh:=Int × Int × Int × Int
def encS (s:Sh):Value:=.agg #[Sb Sc s.1,Sb Sc s.2.1,Sb Sc s.2.2.1,Sb Sc s.2.2.2]
def gE:Int->Option Sh:=putM (putM (putM (putM (putM (λ_=>Sf) 1 (0,0,1,1)) 2 (1,1,2,2)) 3 (1,1,2,65)) 4 (0,1,0,0)) 5 (0,0,0,0)
theorem qO{po:OP}{ty:TypeId}{us:List (Nat × Value)}{h:Heap}{K:Value->Heap->Prop}{a c d:Int}(hk:K (encS (a,b,c,d)) h):
  Lft.step Sn (.build T.dW #[(0,.const (Sb Sc a)),(1,.const (Sb Sc b)),(2,.const (Sb Sc c)),(3,.const (Sb Sc d))]) ty us h K:=
 an (z:=.agg #[Sb Sc 0,Sb Sc 0,Sb Sc 0,Sb Sc 0]) (places:=[(0,1),(1,1),(2,1),(3,1)]) (vs:=[(0,Sb Sc a),(1,Sb Sc b),(2,Sb Sc c),(3,Sb Sc d)]) (cs:=#[Sb Sc a,Sb Sc b,Sb Sc c,Sb Sc d]) R1 R1 (by simp only[List.map_toArray,PX,List.map_nil,zh]) RZ hk
theorem lT{po:OP}{ty:TypeId}{us:List (Nat × Value)}{h:Heap}{K:Value->Heap->Prop}{x y:Operand}{r:Nat}{f:Int->Option Sh}{j:Int}{s:Sh}(hx:asg us x = .map (Se r))(hy:asg us y=encS s)(m:ee (.int .i64) h r (mapE encS f))(hk : ∀h':Heap,Kept h h' (Se r)->ee (.int .i64) h' r (mapE encS (putM f j s))->K undef h'):Lft.step Sn (.insert T.eJ x (.const (Sb Sc j)) y) ty us h K:=
 lg (v:=encS s) (.inr rfl) U.eJ U.int hx rfl hy fN m _ jG.1 jG.2 λh' hs ho hm=>hk h' (Kept.upd hs ho) hm
theorem yZ{h:Heap}:aA Sn 117 #[] h (λv h'=>v = .map (Se h.size)/\(vw h).le (vw h')/\ee (.int .i64) h' h.size (mapE encS gE)):=by
 refine au (args:=[]) follows Tryz.func117 E.mF S0 λK hK=>?_;simp[L.mF];refine nN ?_;have m0:ee (.int .i64) (h.push (.map #[] 0)) h.size (mapE encS λ_=>Sf):=by rw[rM];exact ee.none Sa
 have hle:=bC h (.map #[] 0);generalize h.push (.map #[] 0)=h0 at m0 hle;refine qO (lT (s:=(0,0,1,1)) rfl rfl m0 λh1 k1 m1=>?_);refine qO (lT (s:=(1,1,2,2)) rfl rfl m1 λh2 k2 m2=>?_);refine qO (lT (s:=(1,1,2,65)) rfl rfl m2 λh3 k3 m3=>?_);refine qO (lT (s:=(0,1,0,0)) rfl rfl m3 λh4 k4 m4=>?_);refine qO (lT (s:=(0,0,0,0)) rfl rfl m4 λh5 k5 m5=>?_);refine hK _ _ ⟨rfl,λb o hb=>?_,m5⟩;have hlt:=View.lt (View.le_refl (vw h)) hb;have kk:=(((k1.trans k2).trans k3).trans k4).trans k5;show h5[b]? = _;rw[kk.block b (QX hlt (cD hle)) R9];exact hle b o hb
def qQ (t:cK):Bool:=match gE t.kind with
 | some s=>cI t.args.length s.1 s.2.1&&cI t.to.length s.2.2.1 s.2.2.2
 | none=>Sk
def insS (ps b:Int) (x:BlkD) (i:Nat) (m:MW):Except Tr MW:=
 if cI (nth x.ins i).op 1 18&&cI (nth x.ins i).args.length (gQ (nth x.ins i).op).1 (gQ (nth x.ins i).op).2 then allS ps (cU (nth x.ins i)) b i m else .error (10,b,i)
def phiS (ps b:Int) (x:BlkD) (i:Nat) (m:MW):Except Tr MW:=allS ps [(nth x.phis i).dst] b (-1-i) m
def endS (n b:Int) (x:BlkD) (m:MW):Except Tr MW:=
 if qQ x.term then(if x.term.to.all (λt=>cI t 1 (n-1)) then .ok m else .error (14,b,x.ins.length)) else .error (10,b,x.ins.length)
def blkS (f:aq) (b:Nat) (m:MW):Except Tr MW:=
 match upE (phiS f.params b (nth f.blocks b)) (nth f.blocks b).phis.length m with
 | .error t=>.error t
 | .ok m1=>match upE (insS f.params b (nth f.blocks b)) (nth f.blocks b).ins.length m1 with
  | .error t=>.error t
  | .ok m2=>endS f.blocks.length b (nth f.blocks b) m2
def nD (f:aq) (m:MW):Except Tr MW:=upE (blkS f) f.blocks.length m
theorem Ie{r:Nat}{vb:Value}{f:aq}{m:MW}{h:Heap}(k:Lk h Kb r vb f m):
  ju Sn 70 #[Si (Se ⟨Kb,0,Sf⟩)] h (λ_ h'=>∃m',nD f m = .ok m'/\Lk h' Kb r vb f m'/\Kept h h' (Se r))
   (λch h'=>∃t,nD f m = .error t/\ch=trV t/\Kept h h' (Se r)):=by
 refine iW (args:=[Si (Se ⟨Kb,0,Sf⟩)]) follows Tryz.func70 E.aN S0 λK Kp hK hKp=>?_;have hbb:=k.rb.bound;simp[L.aN,ae di k.c1,k.rb.len];refine aY [0,18,19,20] (fun(_:Unit) b=>[Si (Se ⟨Kb,0,Sf⟩),vb,Sb Sc f.blocks.length,Sb Sc b]) (λ_ b h1=>∃m',upE (blkS f) b m = .ok m'/\Lk h1 Kb r vb f m'/\Kept h h1 (Se r)) f.blocks.length ()
  rfl R3 rfl ⟨m,rfl,k,Kept.refl _ _⟩ (λ_ _=>rfl) (λv i h1 hk m=>by simp) ?_ ?_
 ·rintro _ b h1 hltb ⟨m1,hm1,k1,kp1⟩ K2 hK2;have hst:=jF hm1;have her : ∀{t},blkS f b m1 = .error t->nD f m = .error t:=λe=>qz hm1 hltb e;obtain⟨u,hu,hur⟩:=k1.rb.wh rfl (N:=6) rfl hltb;rw[blkS]at hst her;have hr1:=k1.map.lt;generalize hx:nth f.blocks b=x at hst her hur;refine aa λz hz=>?_;simp(disch:=omega)[k1.rb.idxn (N:=6) rfl,hu _ di];refine dB (z:=.agg #[Sg Sf 0 0,Sg Sf 0 0,Sb Sc 0,Sg Sf 0 0,Sg Sf 0 0,Sb Sd 0]) R1 rfl R1 hur R5 R5 λh2 hle2 hsz2 hat=>?_;have k2:=k1.ext hle2;have kp2:=kp1.trans (Kept.of_le hle2);have hat2:=hat (skip r h2) (Kept.of_le hle2).skip (mY R3);obtain⟨vp,vi,va,vt,bp,bi,bk,ba,bt⟩:=jr hat2;generalize h1.size=B at bp bi bk ba bt;subst hz;refine aa λz hz=>?_;simp[ae di bp.1,bp.2.len];have bph:=bp.2.bound;have bin:=bi.2.bound;have bto:=bt.2.bound;refine aY [0,2,3,18,19,20,26,27,28] (fun(_:Unit) i=>[Si (Se ⟨Kb,0,Sf⟩),Sb Sc b,Si (Se ⟨B,0,Sf⟩),vb,Sb Sc f.blocks.length,Sb Sc b,vp,Sb Sc x.phis.length,Sb Sc i])
   (λ_ i h3=>∃m',upE (phiS f.params b x) i m1 = .ok m'/\Lk h3 Kb r vb f m'/\Kept h2 h3 (Se r)) x.phis.length ()
   rfl R3 rfl ⟨m1,rfl,k2,Kept.refl _ _⟩ (λ_ _=>rfl) (λv i h1 hk m=>by simp) ?_ ?_
  ·rintro _ i h3 hlti ⟨m3,hm3,k3,kp3⟩ K3 hK3;have bp3:=bp.2.mono kp3.skip;obtain⟨u5,hu5,hur5⟩:=bp3.wh rfl (N:=2) rfl hlti;have hr3:=k3.map.lt;have hst3:=jF hm3;have her3 : ∀{t},phiS f.params b x i m3 = .error t->upE (phiS f.params b x) x.phis.length m1 = .error t:=λe=>qz hm3 hlti e;rw[phiS]at hst3 her3;refine aa λy hy=>?_;simp(disch:=omega)[bp3.idxn (N:=2) rfl,hu5 _ di];refine dB (z:=.agg #[Sb Sc 0,Sg Sf 0 0]) R1 rfl R1 hur5 R5 R5 λh4 hle4 hsz4 hat4=>?_;have hat4':=hat4 (skip r h4) (Kept.of_le hle4).skip (mY R3);obtain⟨c0,_⟩:=A3 hat4';have rd:=(hat4'.part PhiD.iq).rng;generalize nth x.phis i=q at c0 rd hst3 her3;generalize h3.size=B3 at c0;subst hy;simp[ae di c0];refine mM (X:=nothing) (ds:=[q.dst]) (vs:=[Sb Sc q.dst]) rfl El.aP Sa ⟨aX.2 ⟨rfl,rd⟩,trivial⟩ bQ rfl R3 λu6 h5 hle5 hsz5 hu6 _=>?_;have k5:=(k3.ext hle4).ext hle5;have kp5:=(kp3.trans (Kept.of_le hle4)).trans (Kept.of_le hle5);have hr5:=k5.map.lt;simp(disch:=omega);refine ez R1 (GV k5 (hu6 _ bQ (mY R3))) ?_ ?_
   ·rintro _ h6 ⟨m6,hm6,k6,kp6⟩;exact hK3 () _ _ rfl rfl ⟨m6,by rw[hst3,hm6],k6,kp5.trans kp6⟩
   rintro _ h6 ⟨t,ht,rfl,kp6⟩;exact⟨.inl rfl,hKp _ _ ⟨t,her (by rw[her3 ht]),rfl,(kp2.trans kp5).trans kp6⟩⟩
  rintro _ h3 ⟨m3,hm3,k3,kp3⟩;simp only[hm3]at hst her;simp;subst hz;refine aa λz hz=>?_;have bi3:=bi.2.mono kp3.skip;have ci3:=ae kp3.Ej bi.1;have kp03:=kp2.trans kp3;simp[ci3,bi3.len];refine aY [0,2,3,18,19,20,43,44,45] (fun(_:Unit) i=>[Si (Se ⟨Kb,0,Sf⟩),Sb Sc b,Si (Se ⟨B,0,Sf⟩),vb,Sb Sc f.blocks.length,Sb Sc b,vi,Sb Sc x.ins.length,Sb Sc i])
   (λ_ i h4=>∃m',upE (insS f.params b x) i m3 = .ok m'/\Lk h4 Kb r vb f m'/\Kept h3 h4 (Se r)) x.ins.length ()
   rfl R3 rfl ⟨m3,rfl,k3,Kept.refl _ _⟩ (λ_ _=>rfl) (λv i h1 hk m=>by simp) ?_ ?_
  ·rintro _ i h4 hlti ⟨m4,hm4,k4,kp4⟩ K3 hK3;have bi4:=bi3.mono kp4.skip;obtain⟨u5,hu5,hur5⟩:=bi4.wh rfl (N:=5) rfl hlti;have hr4:=k4.map.lt;have hst4:=jF hm4;have her4 : ∀{t},insS f.params b x i m4 = .error t->upE (insS f.params b x) x.ins.length m3 = .error t:=λe=>qz hm4 hlti e;rw[insS]at hst4 her4;refine aa λy hy=>?_;simp(disch:=omega)[bi4.idxn (N:=5) rfl,hu5 _ di];refine dB (z:=.agg #[Sb Sc 0,Sb Sc 0,Sb Sc 0,Sg Sf 0 0,Sb Sd 0]) R1 rfl R1 hur5 R5 R5 λh5 hle5 hsz5 hat5=>?_;have hat5':=hat5 (skip r h5) (Kept.of_le hle5).skip (mY R3);obtain⟨c0,c1,c2,va5,ca5⟩:=fO hat5';have k5:=k4.ext hle5;have kp5:=kp4.trans (Kept.of_le hle5);have whole : ∃w,Un.ev (vw h5) (.aT 5) (Si (Se ⟨h4.size,0,Sf⟩))=Se w/\Rd (vw h5) w (nth x.ins i):=by obtain⟨w,w1,w2⟩:=(hat5'.mono di).aT rfl;exact⟨w,w1,w2⟩
   obtain⟨w,w1,w2⟩:=whole;generalize nth x.ins i=q at c0 c1 c2 ca5 hst4 her4 w2;generalize h4.size=B4 at c0 c1 c2 ca5 w1;subst hy;refine aa λy hy=>?_;simp[ae di c0];refine aj R1 lB ?_;rintro _ _ ⟨rfl,rfl⟩;refine ez R1 iL ?_ ?_;rotate_left
   ·rintro _ _ ⟨e,rfl,rfl⟩;exact⟨.inl rfl,hKp _ _ ⟨_,her (by rw[her4 (by rw[if_neg (by simp[e])])]),rfl,kp03.trans kp5⟩⟩
   rintro _ _ ⟨e1,rfl⟩;subst hy;refine aa λy hy=>?_;simp[ae di c0];refine aj R1 Bu ?_;rintro _ _ ⟨rfl,rfl⟩;simp;subst hy;refine aa λy hy=>?_;simp[ae di ca5.1,ca5.2.len];refine aj R1 lB ?_;rintro _ _ ⟨rfl,rfl⟩;refine ez R1 iL ?_ ?_;rotate_left
   ·rintro _ _ ⟨e,rfl,rfl⟩;exact⟨.inl rfl,hKp _ _ ⟨_,her (by rw[her4 (by rw[if_neg (by simp[e])])]),rfl,kp03.trans kp5⟩⟩
   rintro _ _ ⟨e2,rfl⟩;subst hy;simp[w1];refine aj R1 (BU w2) ?_;rintro u6 h6 ⟨hle6,hu6⟩;have k6:=k5.ext hle6;have kp6:=kp5.trans (Kept.of_le hle6);rw[if_pos (by simp[e1,e2])]at hst4 her4;have hr5:=k5.map.lt;refine ez R1 (GV k6 (hu6.mono λb o hb=>?_)) ?_ ?_
   ·unfold fresh at hb;unfold Lft.skip;split at hb
    ·cases hb
    rw[if_neg R3];exact hb
   ·rintro _ h7 ⟨m7,hm7,k7,kp7⟩;exact hK3 () _ _ rfl rfl ⟨m7,by rw[hst4,hm7],k7,kp6.trans kp7⟩
   rintro _ h7 ⟨t,ht,rfl,kp7⟩;exact⟨.inl rfl,hKp _ _ ⟨t,her (by rw[her4 ht]),rfl,(kp03.trans kp6).trans kp7⟩⟩
  rintro _ h4 ⟨m4,hm4,k4,kp4⟩;simp only[hm4]at hst her;simp;subst hz;refine aa λz hz=>?_;have kp24:=kp3.trans kp4;have hr4:=k4.map.lt;have ck4:=ae kp24.skip bk;have hc : ∀{h5:Heap},Kept h4 h5 (Se r)->(skip r h4).le (vw h5):=λhk=>hk.Ej;have cellsS : ∀o:Option Sh,((o.map encS).getD (.agg #[Sb Sc 0,Sb Sc 0,Sb Sc 0,Sb Sc 0]))=encS (o.getD (0,0,0,0)):=λo=>by cases o<;>rfl
  have hone : ∀s:Sh,∀c∈(encS s).cells.toList,c.oneCell'=true:=λs=>by simp[encS,Value.oneCell']
  refine fl (λρ h5=>∃(B5:Nat) (v79 v83:Value) (tl:Env),ρ=[(0,Si (Se ⟨Kb,0,Sf⟩)),(2,Sb Sc b),(3,Si (Se ⟨B,0,Sf⟩)),(10,Si (Se ⟨B5,0,Sf⟩)),(11,.bool (gE x.term.kind).isSome),(18,vb),(19,Sb Sc f.blocks.length),(20,Sb Sc b),(43,vi),
    (44,Sb Sc x.ins.length),(45,Sb Sc x.ins.length),(79,v79),(82,Sb Sc x.term.kind),(83,v83)]++tl/\Lk h5 Kb r vb f m4/\Kept h4 h5 (Se r)/\B5≠r/\h5[B5]? = Se (.cells (encS ((gE x.term.kind).getD (0,0,0,0))).cells T.dW (0,0))) ?_ ?_
  ·intro K3 hK3;refine aI (skip r h4) di ?_;simp[ck4];refine⟨?_,?_⟩
   ·refine aj R1 yZ ?_;rintro _ h5 ⟨rfl,hle5,hm5⟩;have hs5:=cD hle5;refine⟨hc (Kept.of_le hle5),?_,?_⟩
    ·refine nr (z:=.agg #[Sb Sc 0,Sb Sc 0,Sb Sc 0,Sb Sc 0]) U.eJ U.int R1 (by simp<;>rfl) (by simp<;>rfl) fN hm5 ?_;rw[qF,cellsS,RO];simp;refine fT (n:=4) (v:=encS ((gE x.term.kind).getD (0,0,0,0))) (z:=.agg #[Sb Sc 0,Sb Sc 0,Sb Sc 0,Sb Sc 0]) R1 rfl R1 rfl (hone _) R5 R5 λh6 hle6 hsz6 hb6=>?_;exact hK3 _ _ ⟨_,_,_,_,rfl,(k4.ext hle5).ext hle6,(Kept.of_le hle5).trans (Kept.of_le hle6),by omega,hb6⟩
    refine db (z:=.agg #[Sb Sc 0,Sb Sc 0,Sb Sc 0,Sb Sc 0]) R1 ?_;have hle6:=bC h5 (.cells (Value.cells (.agg #[Sb Sc 0,Sb Sc 0,Sb Sc 0,Sb Sc 0])) T.dW);have hb6:(h5.push (.cells (Value.cells (.agg #[Sb Sc 0,Sb Sc 0,Sb Sc 0,Sb Sc 0])) T.dW))[h5.size]? = Se (.cells (Value.cells (.agg #[Sb Sc 0,Sb Sc 0,Sb Sc 0,Sb Sc 0])) T.dW (0,0)):=by simp
    have hs6:(h5.push (.cells (Value.cells (.agg #[Sb Sc 0,Sb Sc 0,Sb Sc 0,Sb Sc 0])) T.dW)).size=h5.size+1:=by simp
    generalize h5.push (.cells (Value.cells (.agg #[Sb Sc 0,Sb Sc 0,Sb Sc 0,Sb Sc 0])) T.dW)=h6 at hle6 hb6 hs6;refine⟨hc ((Kept.of_le hle5).trans (Kept.of_le hle6)),?_⟩;refine nr (z:=.agg #[Sb Sc 0,Sb Sc 0,Sb Sc 0,Sb Sc 0]) U.eJ U.int R1 (by simp<;>rfl) (by simp<;>rfl) fN (hm5.ext hle6) ?_;rw[qF,cellsS,RO];simp;refine eR (g:=h5.size) (o:=0) (n:=4) (v:=encS ((gE x.term.kind).getD (0,0,0,0))) R1 rfl rfl rfl (hone _) hb6 Sa λh7 hs7 ⟨row,hb7,hrow⟩ ho7=>?_;have hrow2:row=(encS ((gE x.term.kind).getD (0,0,0,0))).cells:=by rw[<-Array.toList_inj,hrow];simp
    rw[hrow2]at hb7;have kp7:Kept h4 h7 (Se r):=⟨by omega,λq hq hne=>by rw[ho7 q R3];exact hle6 _ _ (hle5 _ _ (OV hq)) |>.trans (OV hq).symm⟩;exact hK3 _ _ ⟨_,_,_,_,rfl,k4.kept kp7 (((k4.map.ext hle5).ext hle6).same (ho7 r R3)),kp7,by omega,hb7⟩
   refine db (z:=.agg #[Sb Sc 0,Sb Sc 0,Sb Sc 0,Sb Sc 0]) R1 ?_;have hle5:=bC h4 (.cells (Value.cells (.agg #[Sb Sc 0,Sb Sc 0,Sb Sc 0,Sb Sc 0])) T.dW);have hb5:(h4.push (.cells (Value.cells (.agg #[Sb Sc 0,Sb Sc 0,Sb Sc 0,Sb Sc 0])) T.dW))[h4.size]? = Se (.cells (Value.cells (.agg #[Sb Sc 0,Sb Sc 0,Sb Sc 0,Sb Sc 0])) T.dW (0,0)):=by simp
   have hs5:(h4.push (.cells (Value.cells (.agg #[Sb Sc 0,Sb Sc 0,Sb Sc 0,Sb Sc 0])) T.dW)).size=h4.size+1:=by simp
   generalize h4.push (.cells (Value.cells (.agg #[Sb Sc 0,Sb Sc 0,Sb Sc 0,Sb Sc 0])) T.dW)=h5 at hle5 hb5 hs5;refine⟨hc (Kept.of_le hle5),?_⟩;refine aj R1 yZ ?_;rintro _ h6 ⟨rfl,hle6,hm6⟩;have hs6:=cD hle6;refine⟨hc ((Kept.of_le hle5).trans (Kept.of_le hle6)),?_⟩;refine nr (z:=.agg #[Sb Sc 0,Sb Sc 0,Sb Sc 0,Sb Sc 0]) U.eJ U.int R1 (by simp<;>rfl) (by simp<;>rfl) fN hm6 ?_;rw[qF,cellsS,RO];simp;refine eR (g:=h4.size) (o:=0) (n:=4) (v:=encS ((gE x.term.kind).getD (0,0,0,0))) R1 rfl rfl rfl (hone _) (hle6 _ _ hb5) Sa λh7 hs7 ⟨row,hb7,hrow⟩ ho7=>?_;have hrow2:row=(encS ((gE x.term.kind).getD (0,0,0,0))).cells:=by rw[<-Array.toList_inj,hrow];simp
   rw[hrow2]at hb7;have kp7:Kept h4 h7 (Se r):=⟨by omega,λq hq hne=>by rw[ho7 q R3];exact hle6 _ _ (hle5 _ _ (OV hq)) |>.trans (OV hq).symm⟩;exact hK3 _ _ ⟨_,_,_,_,rfl,k4.kept kp7 (((k4.map.ext hle5).ext hle6).same (ho7 r R3)),kp7,by omega,hb7⟩
  rintro ρ h5 ⟨B5,v79,v83,tl,rfl,k5,kp5,hB5,hb5⟩;subst hz;refine aa λz hz=>?_;have kp25:=kp24.trans kp5;have ci5:=ae kp25.skip bi.1;have bi5:=bi.2.mono kp25.skip;have ca5:=ae kp25.skip ba.1;have ba5:=ba.2.mono kp25.skip;have ct5:=ae kp25.skip bt.1;have bt5:=bt.2.mono kp25.skip;have hb5':skip r h5 B5=Se (.cells (encS ((gE x.term.kind).getD (0,0,0,0))).cells T.dW (0,0)):=by rw[mY hB5];exact hb5
  generalize hsh:(gE x.term.kind).getD (0,0,0,0)=s at hb5';have d0:ao (skip r h5) ⟨B5,0,Sf⟩=Se (Sb Sc s.1):=du hb5' rfl;have d1:ao (skip r h5) ⟨B5,1,Sf⟩=Se (Sb Sc s.2.1):=du hb5' rfl;have d2:ao (skip r h5) ⟨B5,2,Sf⟩=Se (Sb Sc s.2.2.1):=du hb5' rfl;have d3:ao (skip r h5) ⟨B5,3,Sf⟩=Se (Sb Sc s.2.2.2):=du hb5' rfl;have hto:qQ x.term=((gE x.term.kind).isSome&&(cI x.term.args.length s.1 s.2.1&&cI x.term.to.length s.2.2.1 s.2.2.2)):=by rw[qQ,<-hsh];cases gE x.term.kind<;>rfl
  refine aI (skip r h5) di ?_;have bad:qQ x.term=Sk->∀ch,ch=trV (10,(b:Int),(x.ins.length:Int))->Kp ch h5:=λe ch hch=>hKp _ _ ⟨_,her (by rw[endS,if_neg (by simp[e])]),hch,kp03.trans (kp4.trans kp5)⟩;have good:qQ x.term=Sj->∀tl:Env,@LC.wp (ppOf Kp) Sn z (fm 1 (fh K2 (fm 0 (@cz [] K)))) ([(0,Si (Se ⟨Kb,0,Sf⟩)),(2,Sb Sc b),(3,Si (Se ⟨B,0,Sf⟩)),(10,Si (Se ⟨B5,0,Sf⟩)),(11,.bool Sj),(18,vb),(19,Sb Sc f.blocks.length),(20,Sb Sc b),(43,vi),
   (44,Sb Sc x.ins.length),(45,Sb Sc x.ins.length),(79,v79),(82,Sb Sc x.term.kind),(83,v83)]++tl) h5:=by
   intro hgood tl;subst hz;have ct5':=ae di ct5;have cb5:=k5.c1;have hne:0<f.blocks.length:=by omega
   simp[ct5',bt5.len];refine aY [0,2,3,18,19,20,116,117,118] (fun(_:Unit) i=>[Si (Se ⟨Kb,0,Sf⟩),Sb Sc b,Si (Se ⟨B,0,Sf⟩),vb,Sb Sc f.blocks.length,Sb Sc b,vt,Sb Sc x.term.to.length,Sb Sc i])
    (λ_ i h6=>h6=h5/\∀j,j<i->cI (nth x.term.to j) 1 (f.blocks.length-1)=Sj) x.term.to.length ()
    rfl R3 (by simp[bD,af,ag]) ⟨rfl,λj hj=>by omega⟩ (λ_ _=>rfl) (λv i h1 hk m=>by simp) ?_ ?_
   ·rintro _ i h5 hlti ⟨rfl,hpre⟩ K3 hK3;refine aa λy hy=>?_;simp(disch:=omega)[bt5.idx1 rfl,bt5.int di];subst hy;refine aI (skip r h5) di ?_;simp(disch:=omega)[ci5,bi5.len,cb5,k5.rb.len];refine aj R1 lB ?_;rintro _ _ ⟨rfl,rfl⟩;refine⟨di,?_⟩;refine ez R1 iL ?_ ?_
    ·rintro _ _ ⟨e,rfl⟩;refine hK3 () _ _ rfl rfl ⟨rfl,λj hj=>?_⟩;rcases Ov j i with h | h
     ·exact hpre j h
     have:j=i:=by omega
     subst this;exact e
    rintro ch _ ⟨e,hch,rfl⟩;refine⟨.inr λ_=>trivial,hKp _ _ ⟨_,her ?_,hch,kp03.trans (kp4.trans kp5)⟩⟩;rw[endS,if_pos hgood,if_neg];intro ha;rw[O7.1 ha _ (bw hlti)]at e;cases e
   rintro _ h5 ⟨rfl,hpre⟩;simp;refine hK2 () _ _ rfl rfl ⟨m4,?_,k5,kp03.trans (kp4.trans kp5)⟩;rw[hst,endS,if_pos hgood,if_pos];rw[O7];intro y hy;obtain⟨j,hj,rfl⟩:=OS hy;rw[<-aB hj];exact hpre j hj
  cases hso:(gE x.term.kind).isSome with
  | false=>
   simp[ci5,bi5.len,d0,d1,d2,d3,ca5,ba5.len,ct5,bt5.len,af,ag];refine ez R1 iL ?_ ?_
   ·rintro _ _ ⟨e,_⟩;cases e
   rintro ch _ ⟨_,hch,rfl⟩;exact⟨.inr λ_=>trivial,bad (by rw[hto,hso];rfl) _ hch⟩
  | true=>
   rw[hso,PL]at hto;simp[ci5,bi5.len,d0,d1,d2,d3,ca5,ba5.len,ct5,bt5.len,af,ag];refine aj R1 lB ?_;rintro _ _ ⟨rfl,rfl⟩;refine⟨di,?_⟩;cases hw1:cI x.term.args.length s.1 s.2.1 with
   | false=>
    simp[af,ag];refine ez R1 iL ?_ ?_
    ·rintro _ _ ⟨e,_⟩;cases e
    rintro ch _ ⟨_,hch,rfl⟩;exact⟨.inr λ_=>trivial,bad (by rw[hto,hw1];rfl) _ hch⟩
   | true=>
    simp[af,ag];refine aj R1 lB ?_;rintro _ _ ⟨rfl,rfl⟩;refine⟨di,?_⟩;refine ez R1 iL ?_ ?_
    ·rintro _ _ ⟨e,rfl⟩;exact good (by rw[hto,hw1,e];rfl) _
    rintro ch _ ⟨e,hch,rfl⟩;exact⟨.inr λ_=>trivial,bad (by rw[hto,hw1,e];rfl) _ hch⟩
 rintro _ h1 ⟨m1,hm1,k1,kp1⟩;simp;exact hK _ _ ⟨m1,hm1,k1,kp1⟩
theorem rV : ∀{a b:List Int},a.Pairwise (· < ·)->b.Pairwise (· < ·)->(∀x,x∈a↔x∈b)->a=b
 | [],[],_,_,_=>rfl
 | [],y::b,_,_,h=>by have:=(h y).2 (OJ ..);cases this
 | x::a,[],_,_,h=>by have:=(h x).1 (OJ ..);cases this
 | x::a,y::b,ha,hb,h=>by
  obtain⟨a1,a2⟩:=RG.1 ha;obtain⟨b1,b2⟩:=RG.1 hb;have e:x=y:=by
   rcases OO.1 ((h x).1 (OJ ..))with e | h1
   ·exact e
   rcases OO.1 ((h y).2 (OJ ..))with e | h2
   ·exact e.symm
   have:=a1 y h2;have:=b1 x h1;omega
  subst e;rw[rV a2 b2 λz=>?_];constructor
  ·intro hz;rcases OO.1 ((h z).1 (OL _ hz))with e | h1
   ·have:=a1 z hz;omega
   exact h1
  intro hz;rcases OO.1 ((h z).2 (OL _ hz))with e | h1
  ·have:=b1 z hz;omega
  exact h1
theorem A4(l:List Int):(qw l).Pairwise (·<=·):=by have:=List.pairwise_mergeSort (le:=λx y:Int=>decide (x<=y)) (λa b c h1 h2=>by simp at *;omega) (λa b=>by simp;omega) l;exact this.imp λh=>by simpa using h
theorem get!_nth{l:List Int}{i:Nat}:l.toArray[i]! = nth l i:=by simp[nth,Qi]
theorem xE{l:List Int}(hs:l.Pairwise (·<=·)){i j:Nat}(hij:i<=j)(hj:j<l.length):nth l i<=nth l j:=by
 rw[aB R3,aB hj];rcases Ov i j with h | h
 ·exact List.pairwise_iff_getElem.1 hs i j R3 hj h
 have:i=j:=by omega
 subst this;exact QY _
theorem xG{l:List Int}(hs:l.Pairwise (·<=·)):(Lib.compact l).Pairwise (· < ·):=by unfold Lib.compact Lib.compactUpTo;rw[List.pairwise_map,List.pairwise_filter];refine(List.pairwise_lt_range (n:=l.length)).imp_of_mem fun{i j} hi hj hij ki kj=>?_;simp only[P2]at hi hj;simp only[Lib.keeps,get!_nth,decide_eq_true_eq]at kj;rw[get!_nth,get!_nth];have h1:=xE hs (i:=i) (j:=j-1) R3 R3;have h2:=xE hs (i:=j-1) (j:=j) R3 hj;rcases kj with h | h<;>omega
theorem wV{l:List Int}{x:Int}:x∈Lib.compact l↔x∈l:=by
 refine⟨qE,λhx=>?_⟩;obtain⟨j,hj,rfl⟩:=OS hx;have key : ∀j,j<l.length->nth l j∈Lib.compact l:=by
  intro j;induction j with
  | zero=>intro h;unfold Lib.compact Lib.compactUpTo;refine PN.2 ⟨0,QH.2 ⟨by simpa using h,by simp[Lib.keeps]⟩,get!_nth⟩
  | succ j ih=>
   intro h;by_cases he:nth l (j+1)=nth l j
   ·rw[he];exact ih R3
   unfold Lib.compact Lib.compactUpTo;refine PN.2 ⟨j+1,QH.2 ⟨by simpa using h,by simp only[Lib.keeps,get!_nth,decide_eq_true_eq];exact .inr (by simpa using he)⟩,get!_nth⟩
 rw[<-aB hj];exact key j hj
theorem oS{β:Type}{p:Nat->Bool}{x:Nat->β}{y:β}:y∈sift p x n↔∃i,i<n/\p i=Sj/\x i=y:=by rw[ry];simp[and_assoc]
theorem AZ{n:Int}:(mq row n).Pairwise (· < ·):=xG (A4 _)
theorem uH{n x:Int}:x∈mq row n↔x∈row/\0<=x/\x<n:=by
 rw[mq,wV,qw,RE,oS];simp only[qR,OA,decide_eq_true_eq];constructor
 ·rintro⟨i,hi,h,rfl⟩;exact⟨bw hi,h⟩
 rintro⟨h,h1⟩;obtain⟨i,hi,rfl⟩:=OS h;exact⟨i,hi,by rw[aB hi];exact h1,aB hi⟩
theorem jx{g:Gr}{a:Int}:oN g a b=Sj↔(0<=a/\a<g.length/\0<=b/\b<g.length)/\b∈nth g a.toNat:=by simp[oN]
theorem By{p:Nat->Bool}:(sift p (λb=>(b:Int)) n).Pairwise (· < ·):=by rw[ry,List.pairwise_map,List.pairwise_filter];exact List.pairwise_lt_range.imp λh _ _=>by omega
theorem iE{g:Gr}{a:Int}:b∈my g a↔oN g a b=true:=by
 rw[my,oS];constructor
 ·rintro⟨i,_,h,rfl⟩;exact h
 intro h;have:=(jx.1 h).1;exact⟨b.toNat,by omega,by rw[O0 R3];exact h,O0 R3⟩
theorem tR{g:Gr}{a:Int}:(my g a).Pairwise (· < ·):=By
theorem xz{g:Gr}{a:Nat}(ha:a<g.length):nth (dK g) a=my g a:=by rw[dK,gL ha];refine rV AZ tR λx=>?_;rw[uH,iE,jx,O2];exact⟨λ⟨h1,h2,h3⟩=>⟨⟨by omega,by omega,h2,h3⟩,h1⟩,λ⟨⟨_,_,h2,h3⟩,h1⟩=>⟨h1,h2,h3⟩⟩
theorem Cl{f k:Nat->List Int}(h : ∀a,a<n->f a=k a):kS f n=kS k n:=by
 induction n with
 | zero=>rfl
 | succ n ih=>rw[jV,jV,ih λa ha=>h a R3,h n R3]
theorem FR{g:Gr}:jE g=kS (λa=>my g a) g.length:=Cl λa ha=>xz ha
theorem HV{l:List (Int × Int)}: ∀{p:Gr} {i:Nat},i<p.length->nth (l.foldl fL p) i=nth p i++(l.filter λe=>decide (e.2.toNat=i)).map Prod.fst:=by
 induction l with
 | nil=>intro p i _;simp
 | cons e l ih=>
  intro p i hi;rw[OW,ih (by simpa[fL]using hi),fL,bP hi,Rk];split
  ·rename_i h;simp[h]
  rename_i h;simp[h]
theorem filter_one{l:List Int}(hs:l.Pairwise (· < ·)):l.filter (λx=>decide (x=b))=if b∈l then[b] else[]:=by
 induction l with
 | nil=>simp
 | cons x l ih=>
  obtain⟨h1,h2⟩:=RG.1 hs;rw[Rk,ih h2];by_cases hx:x=b
  ·subst hx;have:¬x∈l:=λh=>by have:=h1 x h;omega
   simp[this]
  simp[hx,Ne.symm hx]
theorem HB{f:Nat->List Int}(hf : ∀a,(f a).Pairwise (· < ·))(hp : ∀a,∀x∈f a,0<=x){b:Nat}:((kS f n).filter λe=>decide (e.2.toNat=b)).map Prod.fst=sift (λa=>decide ((b:Int)∈f a)) (λa=>(a:Int)) n:=by
 induction n with
 | zero=>rfl
 | succ n ih=>
  rw[jV,RB,QG,ih];have e1:((f n).map λb=>((n:Int),b)).filter (λe=>decide (e.2.toNat=b))=((f n).filter λx=>decide (x=(b:Int))).map λb=>((n:Int),b):=by rw[List.filter_map];congr 1;refine RP λx hx=>?_;have:=hp n x hx;simp only[Function.comp,decide_eq_decide];omega
  rw[e1,filter_one (hf n)];by_cases h:(b:Int)∈f n
  ·rw[if_pos h,oQ (by simpa using h)];rfl
  rw[if_neg h,nF (by simpa using h)];simp
theorem qm{g:Gr}:(dR g).length=g.length:=by rw[dR,pD];simp
theorem Ce{g:Gr}:dR g=vF g:=by
 refine zn (by rw[qm,Dx]) λb hb=>?_;rw[qm]at hb;rw[dR,HV (by simpa using hb),aL hb,OZ,vF,gL hb,FR,HB (λ_=>tR) (λa x hx=>by have:=(jx.1 (iE.1 hx)).1;omega)];have e:(λa:Nat=>decide ((b:Int)∈my g a))=λa:Nat=>oN g a b:=by funext a;rw[O3];simp[iE]
 rw[e]
theorem Gt{g:Gr}{a:Int}(hb:0<=b/\b<g.length):a∈nth (dR g) b.toNat↔oN g a b=true:=by
 rw[Ce,vF,gL R3,oS];constructor
 ·rintro⟨i,_,h,rfl⟩;rwa [O0 hb.1]at h
 intro h;have:=(jx.1 h).1;exact⟨a.toNat,by omega,by rw[O0 R3,O0 R3];exact h,O0 R3⟩
structure Le (x y:List Bool):Prop where
 len:y.length=x.length
 le : ∀i,nth x i=Sj->nth y i=Sj
theorem Le.refl(x:List Bool):Le x x:=⟨rfl,λ_ h=>h⟩
theorem Le.trans {x y z:List Bool} (h:Le x y) (k:Le y z):Le x z:=⟨k.len.trans h.len,λi e=>k.le i (h.le i e)⟩
theorem Le.antisymm{x y:List Bool}(h:Le x y)(k:Le y x):x=y:=by refine zn h.len.symm λi _=>?_;rw[O3];exact⟨h.le i,k.le i⟩
theorem Le.dN : ∀{x y:List Bool},Le x y->x=y\/dN y<dN x
 | [],y,h=>.inl (OC h.len).symm
 | a::x,y,h=>by
  match y,h with
  | [],h=>have:=h.len;simp at this
  | b::y,h=>
   have h2:Le x y:=⟨by simpa using h.len,λi e=>by have:=h.le (i+1);simpa[nth]using this (by simpa[nth]using e)⟩;have h0:a=Sj->b=true:=λe=>by have:=h.le 0;simpa[nth]using this (by simpa[nth]using e)
   unfold Go.Proofs.YtnfiilgdjpdlkaaGreatDoor.dN;rcases h2.dN with rfl | h3
   ·cases a<;>cases b<;>simp at h0 ⊢
   unfold Go.Proofs.YtnfiilgdjpdlkaaGreatDoor.dN at h3;cases a<;>cases b<;>simp at h0 ⊢<;>omega
theorem L6{x:List Bool}{i:Nat}{b:Bool}(hb:nth x i=Sj->b=Sj):Le x (x.set i b):=by
 refine⟨by simp,λj hj=>?_⟩;rcases Ov j x.length with h | h
 ·rw[bP h];split
  ·rename_i e;subst e;exact hb hj
  exact hj
 rw[dx h]at hj;cases hj
theorem zt {f:Nat->List Bool->List Bool} (hf : ∀k x,Le x (f k x)) (x:List Bool) : ∀n m,n<=m->Le (up f n x) (up f m x)
  | n,0,h=>by
                  obtain rfl:n=0:=by omega
                  exact Le.refl _
  | n,m+1,h=>by
    rcases Ov n (m+1)with h1 | h1
    · exact(zt hf x n m R3).trans (hf m _)
    · obtain rfl:n=m+1:=by omega
      exact Le.refl _
theorem KJ{f:Nat->List Bool->List Bool}(hf : ∀k x,Le x (f k x)){x:List Bool}(h:up f n x=x): ∀k,k<n->f k x=x:=by
 have key : ∀k,k<=n->up f k x=x:=λk hk=>by have h1:=zt hf x k n hk;rw[h]at h1;have h2:=zt hf x 0 k (Qw _);exact(h2.antisymm h1).symm
 intro k hk;have h1:=key (k+1) R3;rw[up,key k R3]at h1;exact h1
theorem BA {β:Type} {F:β->β} : ∀(n:Nat) (x:β),up (λ_=>F) (n+1) x=up (λ_=>F) n (F x)
 | 0,x=>rfl
 | n+1,x=>by show F (up (λ_=>F) (n+1) x)=F (up (λ_=>F) n (F x));rw[BA n x]
theorem Bs {β:Type} {F:β->β} {x:β} (h:F x=x) : ∀n,up (λ_=>F) n x=x
 | 0=>rfl
 | n+1=>by show F (up (λ_=>F) n x)=x;rw[Bs h n,h]
theorem GO {F:List Bool->List Bool} (hF : ∀x,Le x (F x)) : ∀(n:Nat) (x:List Bool),dN x<=n->F (up (λ_=>F) n x)=up (λ_=>F) n x
 | 0,x,h=>by
  rcases(hF x).dN with e | e
  ·exact e.symm
  omega
 | n+1,x,h=>by
  rw[BA];rcases(hF x).dN with e | e
  ·rw[<-e,Bs e.symm];exact e.symm
  exact GO hF n _ R3
inductive Re (g:Gr) (gone:Int):Nat->Prop
 | root:0<g.length->gone≠0->Re g gone 0
 | step {a b:Nat}:Re g gone a->oN g a b=Sj->(b:Int)≠gone->Re g gone b
theorem Re.lt{g:Gr}{gone:Int}{b:Nat}(h:Re g gone b):b<g.length:=by
 cases h with
 | root h _=>exact h
 | step _ h _=>have:=(jx.1 h).1;omega
variable{gone:Int}
theorem Re.ne{g:Gr}{b:Nat}(h:Re g gone b):(b:Int)≠gone:=by
 cases h with
 | root _ h=>exact λe=>h e.symm
 | step _ _ h=>exact h
theorem Re.all{g:Gr}{b:Nat}(h:Re g gone b):Re g (-1) b:=by
 induction h with
 | root h _=>exact .root h R4
 | step _ h _ ih=>exact .step ih h R3
theorem yz{l:List Int}{i:Nat}{x:List Bool}:Le x (xg gone l i x):=L6 λh=>by rw[h];rfl
theorem wy{g:Gr}{a:Nat}{x:List Bool}:Le x (outBlock g gone a x):=by
 unfold outBlock;split
 ·exact zt (λk x=>yz) x 0 _ (Qw _)
 exact Le.refl _
theorem wH{g:Gr}{x:List Bool}:Le x (oX g gone x):=zt (λk x=>wy) x 0 _ (Qw _)
theorem AU{β:Type}(I:β->Prop){f:Nat->β->β}(hf : ∀k x,k<n->I x->I (f k x)){x:β}(hx:I x):I (up f n x):=by
 have : ∀m,m<=n->I (up f m x):=by
  intro m;induction m with
  | zero=>exact λ_=>hx
  | succ m ih=>exact λh=>hf _ _ R3 (ih R3)
 exact this n (N8 _)
theorem A7{g:Gr}{b:Nat}:nth (oT g gone) b=Sj↔Re g gone b:=by
 by_cases h0:g.length=0\/gone=0
 ·rw[oT,if_pos h0];constructor
  ·intro h;rcases Ov b g.length with h1 | h1
   ·rw[aL h1]at h;cases h
   rw[dx (by simpa using h1)]at h;cases h
  intro h;exfalso;induction h with
  | root h1 h2=>rcases h0 with h0 | h0;omega;exact h2 h0
  | step _ _ _ ih=>exact ih
 rw[oT,if_neg h0];have hg:g.length≠0:=λe=>h0 (.inl e);have hgone:gone≠0:=λe=>h0 (.inr e);have hinit:((List.replicate g.length Sk).set 0 Sj).length=g.length:=by simp
 constructor
 ·have hI : ∀x:List Bool,(∀b,nth x b=Sj->Re g gone b)->∀b,nth (oX g gone x) b=Sj->Re g gone b:=by
   intro x hx;refine AU (λx:List Bool=>∀b,nth x b=Sj->Re g gone b) (λa x ha hx=>?_) hx;unfold outBlock;split
   ·rename_i hxa;have hra:=hx a hxa;refine AU (λx:List Bool=>∀b,nth x b=Sj->Re g gone b) (λi x hi hx=>?_) hx;intro b hb;have hm:=bw hi;have hed:=iE.1 hm;have hrng:=(jx.1 hed).1;unfold xg at hb;rcases Ov b x.length with h1 | h1
    ·rw[bP h1]at hb;split at hb
     ·rename_i e;rcases(Pt _ _).mp hb with h2 | h2
      ·rw[e]at h2;exact hx b h2
      have eb:(b:Int)=nth (my g a) i:=by omega
      exact .step hra (by rw[eb];exact hed) (by rw[eb];simpa using h2)
     exact hx b hb
    rw[dx (by simpa using h1)]at hb;cases hb
   exact hx
  exact AU (λx:List Bool=>∀b,nth x b=Sj->Re g gone b) (λ_ x _ hx=>hI x hx) (λb hb=>by
   rcases Ov b g.length with h1 | h1
   ·rw[bP (by simpa using h1)]at hb;split at hb
    ·rename_i e;subst e;exact .root R3 hgone
    rw[aL h1]at hb;cases hb
   rw[dx (by simpa using h1)]at hb;cases hb) b
 intro h;have hfix:=GO (F:=oX g gone) (λx=>wH) g.length ((List.replicate g.length Sk).set 0 Sj) (by
  have:=y7 (t:=List.replicate g.length Sk) (i:=0);have h2:dN (List.replicate g.length Sk)=g.length:=by simp[dN]
  omega);have hle:=zt (f:=λ_=>oX g gone) (λ_ x=>wH) ((List.replicate g.length Sk).set 0 Sj) 0 g.length (Qw _);generalize up (λ_=>oX g gone) g.length ((List.replicate g.length Sk).set 0 Sj)=x at hfix hle;have hxl:x.length=g.length:=hle.len.trans hinit;induction h with
 | root h1 _=>exact hle.le 0 (by show nth ((List.replicate g.length Sk).set 0 Sj) 0=Sj;rw[bP (by simpa using h1),if_pos rfl])
 | step ha he hb ih=>rename_i a b;have hrng:=(jx.1 he).1;have h1:=KJ (λk x=>wy) hfix a R3;rw[outBlock,if_pos ih]at h1;obtain⟨i,hi,e⟩:=OS (iE.2 he);have h2:=KJ (λk x=>yz) h1 i hi;rw[<-aB hi]at e;unfold xg at h2;rw[e]at h2;have h3:=congrArg (λl=>nth l b) h2;simp only[O2]at h3;rw[bP R3,if_pos rfl]at h3;rw[<-h3];simp[hb]
theorem qv{g:Gr}{a b:Nat}:domC g a b=Sj↔Re g (-1) a/\Re g (-1) b/\¬Re g a b:=by
 rw[domC];simp only[OA,Pt,PM,decide_eq_true_eq,A7,Ps,ne_eq];constructor
 ·rintro⟨⟨h1,h2⟩,h3⟩;refine⟨h1,h2,?_⟩;rcases h3 with h3 | h3
  ·exact λh=>h.ne h3.symm
  exact h3
 rintro⟨h1,h2,h3⟩;exact⟨⟨h1,h2⟩,.inr h3⟩
def Bef (l:List Int) (u v:Int):Prop:=∃p q,l=p++u::q/\v∈q
theorem Bef.app{l:List Int}{u v:Int}(h:Bef l u v)(t:List Int):Bef (l++t) u v:=by obtain⟨p,q,rfl,hv⟩:=h;exact⟨p,q++t,by simp,PJ _ hv⟩
theorem Bef.pre{l:List Int}{u v:Int}(h:Bef l u v)(t:List Int):Bef (t++l) u v:=by obtain⟨p,q,rfl,hv⟩:=h;exact⟨t++p,q,by simp,hv⟩
theorem Bef.EL{l t:List Int}{u v:Int}(hu:u∈l)(hv:v∈t):Bef (l++t) u v:=by obtain⟨p,q,rfl⟩:=List.append_of_mem hu;exact⟨p,q++t,by simp,PG _ hv⟩
theorem Bef.mem{l:List Int}{u v:Int}(h:Bef l u v):u∈l/\v∈l:=by obtain⟨p,q,rfl,hv⟩:=h;exact⟨by simp,by simp[hv]⟩
inductive Adv (nx:Int->List Int) (l:List Int) (u:Int):Int->Prop
 | self:Adv nx l u u
 | step {p q:Int}:Adv nx l u p->q∈nx p->Bef l q p->Adv nx l u q
theorem Adv.app {nx:Int->List Int} {l:List Int} {u v:Int} (h:Adv nx l u v) (t:List Int):Adv nx (l++t) u v:=by
 induction h with
 | self=>exact .self
 | step _ h1 h2 ih=>exact .step ih h1 (h2.app t)
theorem Adv.pre {nx:Int->List Int} {l:List Int} {u v:Int} (h:Adv nx l u v) (t:List Int):Adv nx (t++l) u v:=by
 induction h with
 | self=>exact .self
 | step _ h1 h2 ih=>exact .step ih h1 (h2.pre t)
theorem Adv.trans{nx:Int->List Int}{l:List Int}{u v w:Int}(h:Adv nx l u v)(k:Adv nx l v w):Adv nx l u w:=by
 induction k with
 | self=>exact h
 | step _ h1 h2 ih=>exact .step ih h1 h2
def vis (s:List Bool × List Int) (x:Int):Prop:=nth s.1 x.toNat=Sj
structure Told (nx:Int->List Int) (m:Nat) (a:Int) (s s':List Bool × List Int) (new:List Int):Prop where
 out:s'.2=s.2++new
 len:s'.1.length=s.1.length
 nodup:new.Nodup
 visd : ∀x,0<=x->(vis s' x↔vis s x\/x∈new)
 fresh : ∀x∈new,¬vis s x/\0<=x/\x<m
 last : ∃t,new=t++[a]
 clos : ∀x∈new,∀y∈nx x,vis s' y
 par : ∀x∈new,x≠a->∃p∈new,x∈nx p/\Bef new x p
 desc : ∀x∈new,Adv nx new a x
 ret : ∀x∈new,∀y∈nx x,y∈new->Bef new y x\/Adv nx new y x
structure Half (nx:Int->List Int) (m:Nat) (a:Int) (k:Nat) (s s':List Bool × List Int) (new:List Int):Prop where
 out:s'.2=s.2++new
 len:s'.1.length=s.1.length
 nodup:new.Nodup
 visd : ∀x,0<=x->(vis s' x↔vis s x\/x=a\/x∈new)
 fresh : ∀x∈new,¬vis s x/\(0<=x/\x<m)/\x≠a
 clos : ∀x∈new,∀y∈nx x,vis s' y
 done : ∀j,j<k->vis s' (nth (nx a) j)
 par : ∀x∈new,x∈nx a\/∃p∈new,x∈nx p/\Bef new x p
 desc : ∀x∈new,∃b∈new,b∈nx a/\Adv nx new b x
 ret : ∀x∈new,∀y∈nx x,y∈new->Bef new y x\/Adv nx new y x
theorem y9 {nx:Int->List Int} {m:Nat} (hnx : ∀a:Int,0<=a->a<m->∀y∈nx a,0<=y/\y<m) : ∀(n:Nat) (a:Int) (s:List Bool × List Int),0<=a->a<m->s.1.length=m->nth s.1 a.toNat=Sk->dN s.1<=n->
  ∃new,Told nx m a s (j9 nx n a s) new
 | 0,a,s,h0,h1,hl,hf,hc=>by exfalso;have:=jX (t:=s.1) (i:=a.toNat) R3 hf;omega
 | n+1,a,s,h0,h1,hl,hf,hc=>by
  have hfs:=jX (t:=s.1) (i:=a.toNat) R3 hf;rw[lz];have half : ∀k,k<=(nx a).length->∃new,Half nx m a k s (up (dp nx n a) k (s.1.set a.toNat Sj,s.2)) new/\dN (up (dp nx n a) k (s.1.set a.toNat Sj,s.2)).1<=n:=by
   intro k;induction k with
   | zero=>
    intro _;refine⟨[],⟨by simp[up],by simp[up],by simp,λx hx=>?_,by simp,by simp,by simp,by simp,by simp,by simp⟩,by simp only[up];omega⟩;unfold vis;show nth (s.1.set a.toNat Sj) x.toNat=Sj↔_;rcases Ov x.toNat s.1.length with hlt | hge
    ·rw[bP hlt];split
     ·rename_i e;have:x=a:=by omega
      simp[this]
     rename_i e;have:x≠a:=λh=>e (by rw[h]);simp[this]
    rw[dx (by simpa using hge),dx hge];have:x≠a:=by omega
    simp[this]
   | succ k ih=>
    intro hk;obtain⟨new,H,hcn⟩:=ih R3;rw[up];generalize up (dp nx n a) k (s.1.set a.toNat Sj,s.2)=z at H hcn;have hb:=hnx a h0 h1 (nth (nx a) k) (bw R3);have hbm:nth (nx a) k∈nx a:=bw R3;have hzl:z.1.length=m:=H.len.trans hl;rw[dp];split
    ·rename_i hv;refine⟨new,{ H with done:=λj hj=>?_ },hcn⟩;rcases Ov j k with h | h
     ·exact H.done j h
     obtain rfl:j=k:=by omega
     exact hv
    rename_i hv;obtain⟨new',T⟩:=y9 hnx n (nth (nx a) k) z hb.1 hb.2 hzl (by simpa using hv) hcn;have hkeep:=(qt (nx:=nx) (m:=m) (c:=n) n (nth (nx a) k) z ⟨hzl,hcn⟩).2;generalize j9 nx n (nth (nx a) k) z=z' at T hkeep;obtain⟨t,ht⟩:=T.last;have hbn:nth (nx a) k∈new':=by rw[ht];simp
    have up : ∀y,0<=y->vis z y->vis z' y:=λy hy h=>(T.visd y hy).2 (.inl h);have hnv : ∀x∈new,vis z x:=λx hx=>(H.visd x (H.fresh x hx).2.1.1).2 (.inr (.inr hx));refine⟨new++new',⟨?_,?_,?_,?_,?_,?_,?_,?_,?_,?_⟩,hkeep⟩
    ·rw[T.out,H.out,ON]
    ·rw[T.len,H.len]
    ·exact Qu.2 ⟨H.nodup,T.nodup,λx hx y hy e=>by subst e;exact(T.fresh x hy).1 (hnv x hx)⟩
    ·intro x hx;rw[T.visd x hx,H.visd x hx,OD];constructor
     ·rintro((h | h | h) | h)
      ·exact .inl h
      ·exact .inr (.inl h)
      ·exact .inr (.inr (.inl h))
      exact .inr (.inr (.inr h))
     rintro(h | h | h | h)
     ·exact .inl (.inl h)
     ·exact .inl (.inr (.inl h))
     ·exact .inl (.inr (.inr h))
     exact .inr h
    ·intro x hx;rcases OD.1 hx with hx | hx
     ·exact H.fresh x hx
     obtain⟨g1,g2⟩:=T.fresh x hx;refine⟨λh=>g1 ((H.visd x g2.1).2 (.inl h)),g2,λe=>g1 ((H.visd x g2.1).2 (.inr (.inl e)))⟩
    ·intro x hx y hy;rcases OD.1 hx with hx | hx
     ·have hxr:=(H.fresh x hx).2.1;exact up y (hnx x hxr.1 hxr.2 y hy).1 (H.clos x hx y hy)
     exact T.clos x hx y hy
    ·intro j hj;rcases Ov j k with h | h
     ·exact up _ (hnx a h0 h1 _ (bw R3)).1 (H.done j h)
     obtain rfl:j=k:=by omega
     exact(T.visd _ hb.1).2 (.inr hbn)
    ·intro x hx;rcases OD.1 hx with hx | hx
     ·rcases H.par x hx with h | ⟨p,hp,h2,h3⟩
      ·exact .inl h
      exact .inr ⟨p,PJ _ hp,h2,h3.app _⟩
     by_cases e:x=nth (nx a) k
     ·exact .inl (e▸hbm)
     obtain⟨p,hp,h2,h3⟩:=T.par x hx e;exact .inr ⟨p,PG _ hp,h2,h3.pre _⟩
    ·intro x hx;rcases OD.1 hx with hx | hx
     ·obtain⟨b,hb,h2,h3⟩:=H.desc x hx;exact⟨b,PJ _ hb,h2,h3.app _⟩
     exact⟨_,PG _ hbn,hbm,(T.desc x hx).pre _⟩
    intro x hx y hy hyn;rcases OD.1 hx with hx | hx<;>rcases OD.1 hyn with hyn | hyn
    ·exact(H.ret x hx y hy hyn).imp (·.app _) (·.app _)
    ·exact absurd (H.clos x hx y hy) (T.fresh y hyn).1
    ·exact .inl (Bef.EL hyn hx)
    exact(T.ret x hx y hy hyn).imp (·.pre _) (·.pre _)
  obtain⟨new,H,hcn⟩:=half (nx a).length (N8 _);generalize up (dp nx n a) (nx a).length (s.1.set a.toNat Sj,s.2)=z at H hcn;have hda : ∀y∈nx a,vis z y:=by intro y hy;obtain⟨j,hj,rfl⟩:=OS hy;have:=H.done j hj;rwa [aB hj]at this
  have hadv : ∀x∈new,Adv nx (new++[a]) a x:=by intro x hx;obtain⟨b,hb,h2,h3⟩:=H.desc x hx;exact(Adv.step .self h2 (Bef.EL hb Sa)).trans (h3.app _)
  refine⟨new++[a],⟨?_,H.len,?_,?_,?_,⟨new,rfl⟩,?_,?_,?_,?_⟩⟩
  ·simp only[H.out,ON]
  ·refine Qu.2 ⟨H.nodup,by simp,λx hx y hy e=>?_⟩;simp only[OI]at hy;exact(H.fresh x hx).2.2 (e.trans hy)
  ·intro x hx;show nth z.1 x.toNat=Sj↔_;have:=H.visd x hx;unfold vis at this ⊢;rw[this];simp only[OD,OI];constructor
   ·rintro(h | h | h)
    ·exact .inl h
    ·exact .inr (.inr h)
    exact .inr (.inl h)
   rintro(h | h | h)
   ·exact .inl h
   ·exact .inr (.inr h)
   exact .inr (.inl h)
  ·intro x hx;rcases OD.1 hx with hx | hx
   ·exact⟨(H.fresh x hx).1,(H.fresh x hx).2.1⟩
   simp only[OI]at hx;subst hx;exact⟨by unfold vis;rw[hf];simp,h0,h1⟩
  ·intro x hx y hy;rcases OD.1 hx with hx | hx
   ·exact H.clos x hx y hy
   simp only[OI]at hx;subst hx;exact hda y hy
  ·intro x hx hne;rcases OD.1 hx with hx | hx
   ·rcases H.par x hx with h | ⟨p,hp,h2,h3⟩
    ·exact⟨a,by simp,h,Bef.EL hx Sa⟩
    exact⟨p,PJ _ hp,h2,h3.app _⟩
   simp only[OI]at hx;exact absurd hx hne
  ·intro x hx;rcases OD.1 hx with hx | hx
   ·exact hadv x hx
   simp only[OI]at hx;subst hx;exact .self
  intro x hx y hy hyn;rcases OD.1 hyn with hn | hn
  ·rcases OD.1 hx with hx | hx
   ·exact(H.ret x hx y hy hn).imp (·.app _) (·.app _)
   simp only[OI]at hx;subst hx;exact .inl (Bef.EL hn Sa)
  simp only[OI]at hn;subst hn;rcases OD.1 hx with hx | hx
  ·exact .inr (hadv x hx)
  simp only[OI]at hx;subst hx;exact .inr .self
end Go.Proofs.YtnfiilgdjpdlkaaGreatDoor
namespace Go.Proofs.YtnfiilgdjpdlkaaGreatDoor.Chk
inductive Anc (o:Nat->Nat) (x:Nat):Nat->Prop
 | self:Anc o x x
 | up {b:Nat}:b≠0->Anc o x (o b)->Anc o x b
theorem uz{o:Nat->Nat}{x:Nat}:Anc o x 0↔x=0:=by
 constructor
 ·intro h;cases h with
  | self=>rfl
  | up h _=>exact absurd rfl h
 rintro rfl;exact .self
variable{b:Nat}
theorem pI{o:Nat->Nat}{x:Nat}(hb:b≠0):Anc o x b↔x=b\/Anc o x (o b):=by
 constructor
 ·intro h;cases h with
  | self=>exact .inl rfl
  | up _ h=>exact .inr h
 rintro(rfl | h)
 ·exact .self
 exact .up hb h
theorem Anc.trans{o:Nat->Nat}{x y:Nat}(h:Anc o x y)(k:Anc o y b):Anc o x b:=by
 induction k with
 | self=>exact h
 | up hb _ ih=>exact .up hb ih
theorem Anc.total{o:Nat->Nat}{x y:Nat}(h:Anc o x b)(k:Anc o y b):Anc o x y\/Anc o y x:=by
 induction h with
 | self=>exact .inr k
 | up hb h ih=>
  cases k with
  | self=>exact .inl (.up hb h)
  | up _ k=>exact ih k
structure Ch (R:Nat->Prop) (r:Nat->Nat) (E:Nat->Nat->Prop) (f:Nat->Nat) (D:Nat->Nat->Prop):Prop where
 inj : ∀a b,R a->R b->r a=r b->a=b
 R0:R 0
 r0:r 0=0
 hf : ∀x,R x->x≠0->R (f x)/\E (f x) x/\r (f x)<r x
 d1 : ∀d b a,D d b->d≠b->E a b->R a->D d a
 d0 : ∀d,D d 0->d=0
def Ok (Pr:Nat->Prop) (x:Nat):Prop:=x=0\/Pr x
structure Inv (R:Nat->Prop) (r:Nat->Nat) (E:Nat->Nat->Prop) (f:Nat->Nat) (D:Nat->Nat->Prop) (k:Nat) (o:Nat->Nat) (Pr:Nat->Prop):Prop where
 pr : ∀b,Pr b->R b/\b≠0/\Ok Pr (o b)/\r (o b)<r b
 all : ∀b,R b->b≠0->r b<k->Pr b
 fok : ∀b,Pr b->Ok Pr (f b)
 K : ∀b,Pr b->∀x,(∀a,E a b->R a->Ok Pr a->Anc o x a)->Anc o x (o b)
 FP : ∀b,Pr b->∀y,Anc o y (o b)->k<=r y->Anc o y (f b)
 FP2 : ∀b,Pr b->r b<k->Anc o (o b) (f b)
 S : ∀b,Pr b->∀d,D d b->d≠b->Anc o d (o b)
section
variable {R:Nat->Prop} {r:Nat->Nat} {E:Nat->Nat->Prop} {f:Nat->Nat} {D:Nat->Nat->Prop} {k:Nat} {o:Nat->Nat} {Pr:Nat->Prop}
theorem Inv.okR(I:Inv R r E f D k o Pr)(C:Ch R r E f D){x:Nat}(h:Ok Pr x):R x:=by
 rcases h with rfl | h
 ·exact C.R0
 exact(I.pr x h).1
theorem Inv.anc(I:Inv R r E f D k o Pr){x:Nat}(h:Anc o x b):Ok Pr b->Ok Pr x/\(x=b\/r x<r b):=by
 induction h with
 | self=>exact λhb=>⟨hb,.inl rfl⟩
 | up hb _ ih=>
  intro hok;rcases hok with rfl | hp
  ·exact absurd rfl hb
  obtain⟨_,_,h3,h4⟩:=I.pr _ hp;obtain⟨h5,h6⟩:=ih h3;refine⟨h5,.inr ?_⟩;rcases h6 with rfl | h6
  ·exact h4
  omega
theorem Inv.dom(I:Inv R r E f D k o Pr)(C:Ch R r E f D){d:Nat}(hb:Ok Pr b)(h:D d b):Anc o d b:=by
 by_cases e:d=b
 ·subst e;exact .self
 rcases hb with rfl | hb
 ·exact absurd (C.d0 d h) e
 exact .up (I.pr b hb).2.1 (I.S b hb d h e)
def upd (o:Nat->Nat) (c q:Nat):Nat->Nat:=λb=>if b=c then q else o b
def add (Pr:Nat->Prop) (c:Nat):Nat->Prop:=λb=>b=c\/Pr b
theorem ko{c q x:Nat}(h:¬Anc o c b):Anc (upd o c q) x b↔Anc o x b:=by
 constructor
 ·intro k;induction k with
  | self=>exact .self
  | up hb k ih=>
   rename_i b;have hne:b≠c:=λe=>h (e▸.self);have e:upd o c q b=o b:=by unfold upd;rw[if_neg hne]
   rw[e]at ih k;exact .up hb (ih λhc=>h (.up hb hc))
 intro k;induction k with
 | self=>exact .self
 | up hb k ih=>
  rename_i b;have hne:b≠c:=λe=>h (e▸.self);have e:upd o c q b=o b:=by unfold upd;rw[if_neg hne]
  exact .up hb (by rw[e];exact ih λhc=>h (.up hb hc))
theorem LH{c q x:Nat}(hc:c≠0)(hq:¬Anc o c q):Anc (upd o c q) x c↔x=c\/Anc o x q:=by rw[pI hc,show upd o c q c=q by simp[upd],ko hq]
theorem Inv.I3(I:Inv R r E f D k o Pr){x y:Nat}(hx:Ok Pr x)(hy:Ok Pr y)(h1:Anc o x y)(h2:Anc o y x):x=y:=by have e1:=(I.anc h1 hy).2;have e2:=(I.anc h2 hx).2;omega
theorem Inv.below(I:Inv R r E f D k o Pr){c q x:Nat}(hpc:Pr c)(hq:¬Anc o c q)(h:Anc o c b):Ok Pr b->(Anc (upd o c q) x b↔(Anc o x b/\Anc o c x)\/Anc o x q):=by
 have hc:=(I.pr c hpc).2.1;induction h with
 | self=>
  intro hb;rw[LH hc hq];constructor
  ·rintro(rfl | h)
   ·exact .inl ⟨.self,.self⟩
   exact .inr h
  rintro(⟨h1,h2⟩ | h)
  ·exact .inl (I.I3 (I.anc h1 hb).1 hb h1 h2)
  exact .inr h
 | up hb h ih=>
  rename_i b;intro hok;have hpb:Pr b:=hok.resolve_left hb;obtain⟨_,_,h3,h4⟩:=I.pr b hpb;have hne:b≠c:=λe=>by
   subst e;rcases(I.anc h h3).2 with e | e
   ·rw[<-e]at h4;omega
   omega
  have e:upd o c q b=o b:=by unfold upd;rw[if_neg hne]
  rw[pI hb,e,ih h3,pI hb];constructor
  ·rintro(rfl | ⟨h1,h2⟩ | h1)
   ·exact .inl ⟨.inl rfl,.up hb h⟩
   ·exact .inl ⟨.inr h1,h2⟩
   exact .inr h1
  rintro(⟨rfl | h1,h2⟩ | h1)
  ·exact .inl rfl
  ·exact .inr (.inl ⟨h1,h2⟩)
  exact .inr (.inr h1)
structure Turn (R:Nat->Prop) (r:Nat->Nat) (E:Nat->Nat->Prop) (o:Nat->Nat) (Pr:Nat->Prop) (c q:Nat):Prop where
 ok:Ok Pr q
 q : ∀x,Anc o x q↔∀a,E a c->R a->Ok Pr a->Anc o x a
theorem Inv.fc(I:Inv R r E f D k o Pr)(C:Ch R r E f D){c:Nat}(hR:R c)(hc:c≠0)(hk:r c=k):Ok Pr (f c):=by
 obtain⟨h1,_,h3⟩:=C.hf c hR hc;by_cases e:f c=0
 ·exact .inl e
 exact .inr (I.all _ h1 e R3)
theorem Turn.lt{c q:Nat}(T:Turn R r E o Pr c q)(I:Inv R r E f D k o Pr)(C:Ch R r E f D)(hR:R c)(hc:c≠0)(hk:r c=k):r q<r c/\Anc o q (f c):=by
 obtain⟨h1,h2,h3⟩:=C.hf c hR hc;have h4:=(T.q q).1 .self (f c) h2 h1 (I.fc C hR hc hk);have:=(I.anc h4 (I.fc C hR hc hk)).2;refine⟨?_,h4⟩;rcases this with e | e
 ·rw[e];exact h3
 omega
theorem Inv.turn(I:Inv R r E f D k o Pr)(C:Ch R r E f D){c q:Nat}(hR:R c)(hc:c≠0)(hk:r c=k)(T:Turn R r E o Pr c q):Inv R r E f D (k+1) (upd o c q) (add Pr c):=by
 obtain⟨f1,f2,f3⟩:=C.hf c hR hc;have hfok:=I.fc C hR hc hk;obtain⟨hlt,hqf⟩:=T.lt I C hR hc hk;have hq:¬Anc o c q:=λh=>by
  have:=(I.anc h T.ok).2;rcases this with e | e
  ·rw[e]at hlt;omega
  omega
 have hcf:¬Anc o c (f c):=λh=>by
  have:=(I.anc h hfok).2;rcases this with e | e
  ·rw[<-e]at f3;omega
  omega
 have okm : ∀x,Ok Pr x->Ok (add Pr c) x:=λx h=>h.imp id .inr;have up_ne : ∀b,b≠c->upd o c q b=o b:=λb hb=>by unfold upd;rw[if_neg hb]
 have up_c:upd o c q c=q:=by simp[upd]
 have hpc : ∀b,Ok Pr b->Anc o c b->Pr c:=λb hb h=>((I.anc h hb).1).resolve_left hc;have mono : ∀b,Ok Pr b->∀x,Anc (upd o c q) x b->Anc o x b:=by
  intro b hb x h;by_cases hcb:Anc o c b
  ·have hp:=hpc b hb hcb;rcases(I.below hp hq hcb hb).1 h with⟨h1,_⟩ | h1
   ·exact h1
   exact(Anc.up hc (I.K c hp x ((T.q x).1 h1))).trans hcb
  exact(ko hcb).1 h
 have stay : ∀b,Ok Pr b->∀x,Anc o x b->(Anc o c b->Anc o c x\/Anc o x q)->Anc (upd o c q) x b:=by
  intro b hb x h h2;by_cases hcb:Anc o c b
  ·refine(I.below (hpc b hb hcb) hq hcb hb).2 ?_;rcases h2 hcb with h3 | h3
   ·exact .inl ⟨h,h3⟩
   exact .inr h3
  exact(ko hcb).2 h
 have domc : ∀n b,r b<=n->Ok Pr b->Anc o c b->∀d,D d b->r d<r c->D d c:=by
  intro n;induction n with
  | zero=>
   intro b hb hok hcb d hd hlt;have:=(I.anc hcb hok).2;rcases this with rfl | h
   ·exact hd
   omega
  | succ n ih=>
   intro b hb hok hcb d hd hlt;by_cases e:c=b
   ·subst e;exact hd
   have hb0:b≠0:=λe0=>by subst e0;exact e (uz.1 hcb)
   have hpb:=hok.resolve_left hb0;have hcb':Anc o c (o b):=((pI hb0).1 hcb).resolve_left e;obtain⟨g1,g2,g3⟩:=C.hf b (I.pr b hpb).1 hb0;have hlb:=(I.anc hcb hok).2;have hdb:d≠b:=λe2=>by subst e2;omega
   exact ih (f b) R3 (I.fok b hpb) (I.FP b hpb c hcb' R3) d (C.d1 d b (f b) hd hdb g2 g1) hlt
 have domq : ∀d,D d c->d≠c->Anc o d q:=by intro d hd hne;refine(T.q d).2 λa ha hRa hoka=>?_;exact I.dom C hoka (C.d1 d c a hd hne ha hRa)
 refine⟨?_,?_,?_,?_,?_,?_,?_⟩
 ·rintro b (rfl | hb)
  ·rw[up_c];exact⟨hR,hc,okm _ T.ok,hlt⟩
  by_cases e:b=c
  ·subst e;rw[up_c];exact⟨hR,hc,okm _ T.ok,hlt⟩
  rw[up_ne b e];obtain⟨h1,h2,h3,h4⟩:=I.pr b hb;exact⟨h1,h2,okm _ h3,h4⟩
 ·intro b hRb hb0 hlt;by_cases e:r b=k
  ·exact .inl (C.inj b c hRb hR R3)
  exact .inr (I.all b hRb hb0 R3)
 ·rintro b (rfl | hb)
  ·exact okm _ hfok
  exact okm _ (I.fok b hb)
 ·intro b hb x hx;have hx' : ∀a,E a b->R a->Ok Pr a->Anc o x a:=λa h1 h2 h3=>mono a h3 x (hx a h1 h2 (okm a h3));by_cases e:b=c
  ·subst e;rw[up_c,ko hq];exact(T.q x).2 hx'
  have hpb:Pr b:=hb.resolve_left e;rw[up_ne b e];obtain⟨h1,h2,h3,h4⟩:=I.pr b hpb;have hxo:=I.K b hpb x hx';refine stay (o b) h3 x hxo λhco=>?_;rcases Anc.total hxo hco with h5 | h5
  ·obtain⟨g1,g2,g3⟩:=C.hf b h1 h2;have hcf2:=I.FP b hpb c hco R3;have hxf:=hx (f b) g2 g1 (okm _ (I.fok b hpb));rcases(I.below (hpc _ h3 hco) hq hcf2 (I.fok b hpb)).1 hxf with⟨_,h6⟩ | h6
   ·exact .inl h6
   exact .inr h6
  exact .inl h5
 ·intro b hb y hy hky;by_cases e:b=c
  ·subst e;rw[up_c,ko hq]at hy;exact(ko hcf).2 (hy.trans hqf)
  have hpb:Pr b:=hb.resolve_left e;rw[up_ne b e]at hy;obtain⟨h1,h2,h3,h4⟩:=I.pr b hpb;have hyf:=I.FP b hpb y (mono _ h3 y hy) R3;refine stay (f b) (I.fok b hpb) y hyf λhcf2=>?_;rcases Anc.total hyf hcf2 with h5 | h5
  ·exfalso;have:=(I.anc h5 (.inr (hpc _ (I.fok b hpb) hcf2))).2;rcases this with e2 | e2
   ·subst e2;omega
   omega
  exact .inl h5
 ·intro b hb hlt;by_cases e:b=c
  ·subst e;rw[up_c];exact(ko hcf).2 hqf
  have hpb:Pr b:=hb.resolve_left e;rw[up_ne b e];obtain⟨h1,h2,h3,h4⟩:=I.pr b hpb;obtain⟨g1,g2,g3⟩:=C.hf b h1 h2;have hbk:r b<k:=by
   rcases Ov (r b) k with h | h
   ·exact h
   exact absurd (C.inj b c h1 hR R3) e
  have h5:=I.FP2 b hpb hbk;refine(ko λhcf2=>?_).2 h5;have:=(I.anc hcf2 (I.fok b hpb)).2;rcases this with e2 | e2
  ·rw[<-e2]at g3;omega
  omega
 intro b hb d hd hne;by_cases e:b=c
 ·subst e;rw[up_c,ko hq];exact domq d hd hne
 have hpb:Pr b:=hb.resolve_left e;rw[up_ne b e];obtain⟨h1,h2,h3,h4⟩:=I.pr b hpb;have hdo:=I.S b hpb d hd hne;refine stay (o b) h3 d hdo λhco=>?_;rcases Anc.total hdo hco with h5 | h5
 ·have hpcc:=hpc _ h3 hco;rcases(I.anc h5 (.inr hpcc)).2 with e2 | e2
  ·subst e2;exact .inl .self
  exact .inr (domq d (domc (r b) b (N8 _) (.inr hpb) (.up h2 hco) d hd e2) λe3=>by subst e3;omega)
 exact .inl h5
theorem Inv.again(I:Inv R r E f D k o Pr)(hk : ∀b,R b->r b<k):Inv R r E f D 0 o Pr:=by refine⟨I.pr,λb hR h0 h=>I.all b hR h0 (hk b hR),I.fok,I.K,λb hb y hy _=>?_,λb _ h=>absurd h R3,I.S⟩;exact hy.trans (I.FP2 b hb (hk b (I.pr b hb).1))
theorem Inv.start:Inv R r E f D 0 o (λ_=>False):=
 ⟨λ_ h=>h.elim,λ_ _ _ h=>absurd h R3,λ_ h=>h.elim,λ_ h=>h.elim,λ_ h=>h.elim,λ_ h=>h.elim,λ_ h=>h.elim⟩
theorem Inv.MZ(I:Inv R r E f D k o Pr){c q:Nat}(T:Turn R r E o Pr c q)(hp:Pr c):q=o c\/r q<r (o c):=by have:=I.K c hp q ((T.q q).1 .self);exact(I.anc this (I.pr c hp).2.2.1).2
end
end Go.Proofs.YtnfiilgdjpdlkaaGreatDoor.Chk
namespace Go.Proofs.YtnfiilgdjpdlkaaGreatDoor
open Go Go.Lft Chk
theorem G7{β:Type}{f k:Nat->β->β}{n:Nat}(I:β->Prop)(h : ∀i x,i<n->I x->f i x=k i x)(hI : ∀i x,i<n->I x->I (f i x)){x:β}(hx:I x):up f n x=up k n x:=by
 have key : ∀m,m<=n->up f m x=up k m x/\I (up f m x):=by
  intro m;induction m with
  | zero=>exact λ_=>⟨rfl,hx⟩
  | succ m ih=>intro hm;obtain⟨h1,h2⟩:=ih R3;exact⟨by rw[up,up,<-h1,h m _ R3 h2],hI _ _ R3 h2⟩
 exact(key n (N8 _)).1
theorem we {nx nx':Int->List Int} {m:Nat} (hnx : ∀a:Int,0<=a->a<m->nx a=nx' a/\∀y∈nx a,0<=y/\y<m) : ∀(n:Nat) (a:Int) (s:List Bool × List Int),0<=a->a<m->j9 nx n a s=j9 nx' n a s
 | 0,_,_,_,_=>rfl
 | n+1,a,s,h0,h1=>by
  obtain⟨e,hr⟩:=hnx a h0 h1;rw[lz,lz,<-e];have:up (dp nx n a) (nx a).length (s.1.set a.toNat Sj,s.2)=up (dp nx' n a) (nx a).length (s.1.set a.toNat Sj,s.2):=by refine G7 (λ_=>True) (λi x hi _=>?_) (λ_ _ _ _=>trivial) trivial;unfold dp;rw[<-e];obtain⟨g0,g1⟩:=hr _ (bw hi);rw[we hnx n _ x g0 g1]
  rw[this]
theorem zp{g:Gr}{a y:Int}(h:y∈my g a):0<=y/\y<g.length:=by have:=(jx.1 (iE.1 h)).1;omega
theorem EG{g:Gr}{a:Int}(h0:0<=a)(h1:a<g.length):nx (dK g) a=my g a:=by unfold nx;rw[xz R3,O0 h0]
theorem HD{g:Gr}:bG g=ma (my g) g.length:=by
 unfold bG ma;split
 ·rfl
 rw[we (m:=g.length) (λa h0 h1=>⟨EG h0 h1,λy hy=>zp (by rwa [EG h0 h1]at hy)⟩) _ _ _ R3 R3]
structure Ord (g:Gr) (order:List Int):Prop where
 nodup:order.Nodup
 mem : ∀x:Nat,(x:Int)∈order↔Re g (-1) x
 rng : ∀x∈order,0<=x/\x<g.length
 head:order[0]? = Se 0
 par : ∀x∈order,x≠0->∃p∈order,oN g p x=Sj/\order.idxOf p<order.idxOf x
 ret : ∀x∈order,∀y∈order,oN g x y=Sj->order.idxOf y<=order.idxOf x->∃l,Adv (my g) l y x/\∀u v,Bef l u v->order.idxOf v<order.idxOf u
theorem vZ{l:List Int}(hn:l.Nodup){u v:Int}(h:Bef l u v):l.reverse.idxOf v<l.reverse.idxOf u:=by
 obtain⟨p,q,rfl,hv⟩:=h;have hu:u∉q:=by have:=(Qu.1 hn).2.1;exact(Rs.1 this).1
 rw[List.reverse_append,List.reverse_cons,ON];have h1:(q.reverse++([u]++p.reverse)).idxOf v<q.reverse.length:=by rw[List.idxOf_append,if_pos (by simpa using hv)];exact Rv (by simpa using hv)
 have h2:(q.reverse++([u]++p.reverse)).idxOf u=q.reverse.length:=by rw[List.idxOf_append,if_neg (by simpa using hu)];simp
 omega
theorem kI{g:Gr}(hg:0<g.length):Ord g (bG g):=by
 have hT:=y9 (nx:=my g) (m:=g.length) (λa _ _ y hy=>zp hy) g.length 0 (List.replicate g.length Sk,[]) R3 R3 Sa (aL (by simpa using hg)) (by simp[dN]);have ho:bG g=(j9 (my g) g.length 0 (List.replicate g.length Sk,[])).2.reverse:=by rw[HD,ma,if_neg R3]
 obtain⟨new,T⟩:=hT;have hout:=T.out;simp only[OZ]at hout;rw[ho,hout];have hv0 : ∀x:Int,¬vis (List.replicate g.length Sk,([]:List Int)) x:=by
  intro x h;unfold vis at h;simp only at h;rcases Ov x.toNat g.length with h1 | h1
  ·rw[aL h1]at h;cases h
  rw[dx (by simpa using h1)]at h;cases h
 have hvis : ∀x,0<=x->(vis (j9 (my g) g.length 0 (List.replicate g.length Sk,[])) x↔x∈new):=λx hx=>by rw[T.visd x hx];exact⟨λh=>h.resolve_left (hv0 x),.inr⟩
 obtain⟨t,ht⟩:=T.last;have h0:(0:Int)∈new:=by rw[ht];simp
 have hre : ∀x∈new,Re g (-1) x.toNat:=by
  intro x hx;have:=T.desc x hx;clear hx;induction this with
  | self=>exact .root hg R4
  | step _ h1 h2 ih=>have hpr:=T.fresh _ h2.mem.2;have hqr:=T.fresh _ h2.mem.1;have he:=iE.1 h1;refine .step ih ?_ R3;rwa [O0 hpr.2.1,O0 hqr.2.1]
 refine⟨by simpa[List.Nodup,List.pairwise_reverse,ne_comm]using T.nodup,λx=>?_,λx hx=>(T.fresh x (by simpa using hx)).2,?_,?_,?_⟩
 ·rw[List.mem_reverse];constructor
  ·intro h;simpa using hre x h
  intro h;induction h with
  | root _ _=>exact h0
  | step _ he _ ih=>exact(hvis _ R3).1 (T.clos _ ih _ (iE.2 he))
 ·rw[ht,List.reverse_append];rfl
 ·intro x hx hne;obtain⟨p,hp,h1,h2⟩:=T.par x (by simpa using hx) hne;exact⟨p,by simpa using hp,iE.1 h1,vZ T.nodup h2⟩
 intro x hx y hy he hle;rcases T.ret x (by simpa using hx) y (iE.2 he) (by simpa using hy)with h | h
 ·have:=vZ T.nodup h;omega
 exact⟨new,h,λu v huv=>vZ T.nodup huv⟩
theorem wD{n:Nat}{order:List Int}(hn:order.Nodup)(hr : ∀x∈order,0<=x/\x<(n:Int)){x:Nat}(hx:x<n):nth (gk n order) x=if(x:Int)∈order then(order.idxOf (x:Int):Int) else -1:=by
 have key : ∀k,k<=order.length->(up (λi l=>l.set (nth order i).toNat (i:Int)) k (List.replicate n (-1))).length=n/\nth (up (λi l=>l.set (nth order i).toNat (i:Int)) k (List.replicate n (-1))) x=if(x:Int)∈order.take k then(order.idxOf (x:Int):Int) else -1:=by
  intro k;induction k with
  | zero=>intro _;exact⟨by simp[up],by rw[up,aL hx];simp⟩
  | succ k ih=>
   intro hk;obtain⟨h1,h2⟩:=ih R3;rw[up];refine⟨by simpa using h1,?_⟩;rw[bP R3,OE R3,h2];have hmem:order[k]∈order:=O5 _;have hrk:=hr _ hmem;rw[aB (show k<order.length by omega)];by_cases e:order[k].toNat=x
   ·have e2:order[k]=(x:Int):=by omega
    rw[if_pos e,if_pos (by rw[<-e2];exact PG _ (OI.2 rfl)),<-e2,QU hn]
   rw[if_neg e];have e2:¬(x:Int)=order[k]:=λh=>e R3;simp only[OD,OI,e2,or_false]
 have:=(key order.length (N8 _)).2;rw[OK (N8 _)]at this;exact this
def st (out:List Int):Nat->Nat:=λb=>(nth out b).toNat
def pd (out:List Int):Nat->Prop:=λb=>b<out.length/\0<=nth out b
def rk (g:Gr) (x:Nat):Nat:=(bG g).idxOf (x:Int)
def Eg (g:Gr) (a b:Nat):Prop:=oN g a b=Sj
def Dm (g:Gr) (d b:Nat):Prop:=domC g d b=Sj
def Rg (g:Gr) (x:Nat):Prop:=Re g (-1) x
section
variable {g:Gr}
theorem ER{x:Nat}(h:Rg g x):rk g x<(bG g).length:=Rv (((kI (Nat.lt_of_le_of_lt (Qw _) h.lt)).mem x).2 h)
theorem Rg.pos{x:Nat}(h:Rg g x):0<g.length:=Nat.lt_of_le_of_lt (Qw _) h.lt
theorem Kl{x:Nat}(h:Rg g x):rk g x<g.length:=QX (ER h) sQ
theorem D0{a b:Nat}(ha:Rg g a)(hb:Rg g b)(h:rk g a=rk g b):a=b:=by
 have O:=kI ha.pos;have h1:=List.getElem_idxOf (ER ha);have h2:=List.getElem_idxOf (ER hb);have:(a:Int)=(b:Int):=by rw[<-h1,<-h2];congr 1
 omega
theorem xn(hg:0<g.length):rk g 0=0:=by
 have O:=kI hg;unfold rk;have hl:0<(bG g).length:=by
  have:=O.head;rcases P8 (bG g).length with h | h
  ·rw[OC h]at this;cases this
  exact h
 have h0:=O.head;rw[Pl hl]at h0;have h1:(bG g)[0]=0:=Option.some.inj h0;have:=QU O.nodup 0 hl;rw[h1]at this;exact this
theorem uS{x:Nat}(h:Rg g x):nth (gk g.length (bG g)) x=(rk g x:Int):=by have O:=kI h.pos;rw[wD O.nodup O.rng h.lt,if_pos ((O.mem x).2 h)];rfl
theorem DF{x:Nat}(hx:x<g.length)(h:¬Rg g x):nth (gk g.length (bG g)) x=-1:=by have O:=kI (g:=g) R3;rw[wD O.nodup O.rng hx,if_neg λe=>h ((O.mem x).1 e)]
theorem Km(hg:0<g.length): ∃f:Nat->Nat,∀x,Rg g x->x≠0->Rg g (f x)/\Eg g (f x) x/\rk g (f x)<rk g x:=by
 have O:=kI hg;have : ∀x,∃p,Rg g x->x≠0->Rg g p/\Eg g p x/\rk g p<rk g x:=by
  intro x;by_cases h:Rg g x/\x≠0
  ·obtain⟨p,hp,h1,h2⟩:=O.par x ((O.mem x).2 h.1) R3;have hr:=O.rng p hp;have e:((p.toNat:Nat):Int)=p:=O0 hr.1;refine⟨p.toNat,λ_ _=>⟨(O.mem _).1 (by rw[e];exact hp),by unfold Eg;rw[e];exact h1,by unfold rk;rw[e];exact h2⟩⟩
  exact⟨0,λh1 h2=>absurd ⟨h1,h2⟩ h⟩
 exact⟨λx=>(this x).choose,λx=>(this x).choose_spec⟩
theorem MG(hg:0<g.length){f:Nat->Nat}(hf : ∀x,Rg g x->x≠0->Rg g (f x)/\Eg g (f x) x/\rk g (f x)<rk g x):Ch (Rg g) (rk g) (Eg g) f (Dm g) where
 inj:=λa b ha hb h=>D0 ha hb h
 R0:=.root hg R4
 r0:=xn hg
 hf:=hf
 d1:=λd b a hd hne he ha=>by
  obtain⟨h1,h2,h3⟩:=qv.1 hd
  exact qv.2 ⟨h1,ha,λh=>h3 (.step h he R3)⟩
 d0:=λd hd=>by
  obtain⟨h1,h2,h3⟩:=qv.1 hd
  rcases P8 d with h | h
  ·exact h
  ·exact absurd (.root hg R3) h3
structure Good (g:Gr) (f:Nat->Nat) (k:Nat) (out:List Int):Prop where
 len:out.length=g.length
 rng : ∀b,b<g.length->nth out b=-1\/(0<=nth out b/\nth out b<g.length)
 inv:Inv (Rg g) (rk g) (Eg g) f (Dm g) k (st out) (pd out)
variable {f:Nat->Nat} {k:Nat} {out:List Int}
theorem Good.BH(G:Good g f k out)(C:Ch (Rg g) (rk g) (Eg g) f (Dm g)){x:Nat}(h:Ok (pd out) x):Rg g x/\x<g.length:=⟨G.inv.okR C h,(G.inv.okR C h).lt⟩
theorem rf (G:Good g f k out) (C:Ch (Rg g) (rk g) (Eg g) f (Dm g)) : ∀(fuel a b:Nat),Ok (pd out) a->Ok (pd out) b->rk g a+rk g b<fuel->
  ∃c:Nat,lG out (gk g.length (bG g)) fuel a b=Se (c:Int)/\Ok (pd out) c/\∀x,Anc (st out) x c↔Anc (st out) x a/\Anc (st out) x b
 | 0,a,b,_,_,h=>by omega
 | fuel+1,a,b,ha,hb,h=>by
  obtain⟨ra,la⟩:=G.BH C ha;obtain⟨rb,lb⟩:=G.BH C hb;have hg:=ra.pos;have hnl:(gk g.length (bG g)).length=g.length:=by rw[gk,Ay List.length (λ_ _=>by simp)];simp
  have hol:=G.len;rw[lG,if_pos R3,O2,O2,uS ra,uS rb];have step : ∀a b:Nat,Ok (pd out) a->Ok (pd out) b->rk g b<rk g a->a≠0/\nth out a=((st out a:Nat):Int)/\Ok (pd out) (st out a)/\rk g (st out a)<rk g a/\∀x,Anc (st out) x (st out a)/\Anc (st out) x b↔Anc (st out) x a/\Anc (st out) x b:=by
   intro a b ha hb hlt;have ha0:a≠0:=λe=>by subst e;rw[xn hg]at hlt;omega
   have hpa:=ha.resolve_left ha0;obtain⟨_,_,h3,h4⟩:=G.inv.pr a hpa;refine⟨ha0,(O0 hpa.2).symm,h3,h4,λx=>⟨λ⟨h5,h6⟩=>⟨.up ha0 h5,h6⟩,λ⟨h5,h6⟩=>⟨?_,h6⟩⟩⟩;rcases(pI ha0).1 h5 with rfl | h7
   ·have:=(G.inv.anc h6 hb).2;rcases this with e | e
    ·subst e;omega
    omega
   exact h7
  by_cases h1:rk g b<rk g a
  ·rw[if_pos R3];obtain⟨ha0,e,h3,h4,h5⟩:=step a b ha hb h1;rw[e];obtain⟨c,h6,h7,h8⟩:=rf G C fuel (st out a) b h3 hb R3;exact⟨c,h6,h7,λx=>(h8 x).trans (h5 x)⟩
  rw[if_neg R3];by_cases h2:rk g a<rk g b
  ·rw[if_pos R3];obtain⟨hb0,e,h3,h4,h5⟩:=step b a hb ha h2;rw[e];obtain⟨c,h6,h7,h8⟩:=rf G C fuel a (st out b) ha h3 R3;exact⟨c,h6,h7,λx=>(h8 x).trans (by rw[and_comm,h5 x,and_comm])⟩
  rw[if_neg R3];have e:a=b:=D0 ra rb R3;subst e;exact⟨a,rfl,ha,λx=>by simp⟩
def Bst (out:List Int) (best:Int) (Q:Nat->Prop):Prop:=
 (best=-1/\∀a,¬Q a)\/∃c:Nat,best=(c:Int)/\Ok (pd out) c/\(∃a,Q a)/\∀x,Anc (st out) x c↔∀a,Q a->Anc (st out) x a
def Cons (g:Gr) (out:List Int) (a:Nat):Prop:=Rg g a/\Ok (pd out) a
theorem rH{best:Int}{Q Q':Nat->Prop}(h : ∀a,Q a↔Q' a)(b:Bst out best Q):Bst out best Q':=by have:Q=Q':=funext λa=>propext (h a);rw[<-this];exact b
theorem tQ (G:Good g f k out) (C:Ch (Rg g) (rk g) (Eg g) f (Dm g)) : ∀(l:List Int) (best:Int) (Q:Nat->Prop),Bst out best Q->(∀a∈l,0<=a/\a<(g.length:Int))->
  ∃best',bstS out (gk g.length (bG g)) g.length l best=Se best'/\Bst out best' λa=>Q a\/((a:Int)∈l/\Cons g out a)
 | [],best,Q,hB,_=>⟨best,rfl,rH (λa=>by simp) hB⟩
 | a::l,best,Q,hB,hl=>by
  obtain⟨h0,h1⟩:=hl a (OJ ..);have hl':=λx hx=>hl x (OL _ hx);obtain⟨n,rfl⟩:=QZ h0;have hn:n<g.length:=by omega
  have hol:=G.len;rw[bstS,if_pos ⟨h0,h1⟩,O2];have hcons:(nth (gk g.length (bG g)) n<0\/((n:Int)≠0/\nth out n<0))↔¬Cons g out n:=by
   by_cases hr:Rg g n
   ·rw[uS hr];constructor
    ·rintro(h | ⟨h2,h3⟩)
     ·omega
     rintro⟨_,h4 | h4⟩
     ·omega
     have:=h4.2;omega
    intro h;right;refine⟨λe=>h ⟨hr,.inl R3⟩,?_⟩;rcases Int.lt_or_le (nth out n) 0 with h2 | h2
    ·exact h2
    exact absurd ⟨hr,.inr ⟨by omega,h2⟩⟩ h
   rw[DF hn hr];exact⟨λ_ h=>hr h.1,λ_=>.inl R3⟩
  by_cases hc:Cons g out n
  ·rw[if_neg λh=>hcons.1 h hc];rcases hB with⟨rfl,hQ⟩ | ⟨c,rfl,hok,hex,hq⟩
   ·rw[if_pos R4];obtain⟨b',h2,h3⟩:=tQ G C l n (λa=>a=n) (.inr ⟨n,rfl,hc.2,⟨n,rfl⟩,λx=>by simp⟩) hl';refine⟨b',h2,rH (λa=>?_) h3⟩;constructor
    ·rintro(rfl | ⟨h4,h5⟩)
     ·exact .inr ⟨OJ ..,hc⟩
     exact .inr ⟨OL _ h4,h5⟩
    rintro(h4 | ⟨h4,h5⟩)
    ·exact absurd h4 (hQ a)
    rcases OO.1 h4 with h4 | h4
    ·exact .inl R3
    exact .inr ⟨h4,h5⟩
   rw[if_neg R3];obtain⟨rc,_⟩:=G.BH C hok;obtain⟨d,h2,h3,h4⟩:=rf G C (2*g.length+2) c n hok hc.2 (by have:=Kl rc;have:=Kl hc.1;omega);rw[h2];simp only[OT];obtain⟨b',h5,h6⟩:=tQ G C l d (λa=>Q a\/a=n) (.inr ⟨d,rfl,h3,⟨n,.inr rfl⟩,λx=>by
    rw[h4,hq];constructor
    ·rintro⟨h7,h8⟩ a (ha | rfl)
     ·exact h7 a ha
     exact h8
    intro h7;exact⟨λa ha=>h7 a (.inl ha),h7 n (.inr rfl)⟩⟩) hl';refine⟨b',h5,rH (λa=>?_) h6⟩;constructor
   ·rintro((h7 | rfl) | ⟨h7,h8⟩)
    ·exact .inl h7
    ·exact .inr ⟨OJ ..,hc⟩
    exact .inr ⟨OL _ h7,h8⟩
   rintro(h7 | ⟨h7,h8⟩)
   ·exact .inl (.inl h7)
   rcases OO.1 h7 with h7 | h7
   ·exact .inl (.inr R3)
   exact .inr ⟨h7,h8⟩
  rw[if_pos (hcons.2 hc)];obtain⟨b',h2,h3⟩:=tQ G C l best Q hB hl';refine⟨b',h2,rH (λa=>?_) h3⟩;constructor
  ·rintro(h4 | ⟨h4,h5⟩)
   ·exact .inl h4
   exact .inr ⟨OL _ h4,h5⟩
  rintro(h4 | ⟨h4,h5⟩)
  ·exact .inl h4
  rcases OO.1 h4 with h6 | h6
  ·exact absurd ((show a=n by omega)▸h5) hc
  exact .inr ⟨h6,h5⟩
theorem FB(G:Good g f k out)(C:Ch (Rg g) (rk g) (Eg g) f (Dm g)){c:Nat}(hR:Rg g c)(hc:c≠0)(hk:rk g c=k):
  ∃q:Nat,bstS out (gk g.length (bG g)) g.length (nth (dR g) c) (-1)=Se (q:Int)/\Turn (Rg g) (rk g) (Eg g) (st out) (pd out) c q:=by
 have hlt:=hR.lt;obtain⟨best,h1,h2⟩:=tQ G C (nth (dR g) c) (-1) (λ_=>False) (.inl ⟨rfl,λ_ h=>h⟩) (uI (λe he=>(rK he).1) (λi x hx=>by
  rcases Ov i g.length with hi | hi
  ·rw[aL hi]at hx;cases hx
  rw[dx (by simpa using hi)]at hx;cases hx) c);have hm : ∀a:Nat,(a:Int)∈nth (dR g) c↔Eg g a c:=λa=>by have:=Gt (g:=g) (a:=a) (b:=c) R6;rwa [O2]at this
 obtain⟨f1,f2,f3⟩:=C.hf c hR hc;rcases h2 with⟨_,h3⟩ | ⟨q,rfl,hok,_,hq⟩
 ·exact absurd (.inr ⟨(hm _).2 f2,f1,G.inv.fc C hR hc hk⟩) (h3 (f c))
 refine⟨q,h1,hok,λx=>?_⟩;rw[hq];constructor
 ·intro h a h4 h5 h6;exact h a (.inr ⟨(hm a).2 h4,h5,h6⟩)
 rintro h a (h4 | ⟨h4,h5,h6⟩)
 ·exact h4.elim
 exact h a ((hm a).1 h4) h5 h6
end
def qN (w:Nat->Nat):Nat->Nat
 | 0=>0
 | n+1=>qN w n+w n
theorem Hu {w w':Nat->Nat} : ∀{n:Nat},(∀b,b<n->w' b<=w b)->qN w' n<=qN w n
 | 0,_=>N8 _
 | n+1,h=>Nat.add_le_add (Hu λb hb=>h b R3) (h n R3)
theorem Hg {w w':Nat->Nat} {c:Nat} : ∀{n:Nat},(∀b,b<n->w' b<=w b)->c<n->w' c<w c->qN w' n<qN w n
 | 0,_,h,_=>by omega
 | n+1,h,hc,hlt=>by
  rcases Ov c n with h1 | h1
  ·have:=Hg (n:=n) (λb hb=>h b R3) h1 hlt;have:=h n R3;simp only[qN];omega
  obtain rfl:c=n:=by omega
  have:=Hu (n:=c) λb hb=>h b R3;simp only[qN];omega
theorem Ab {w:Nat->Nat} {m:Nat} : ∀{n:Nat},(∀b,b<n->w b<=m)->qN w n<=n*m
 | 0,_=>by simp[qN]
 | n+1,h=>by have:=Ab (n:=n) λb hb=>h b R3;have:=h n R3;rw[qN,Pv];omega
section
variable {g:Gr} {f:Nat->Nat} {k:Nat} {out:List Int}
def wt (g:Gr) (out:List Int) (b:Nat):Nat:=if nth out b<0 then g.length else rk g (st out b)
def mu (g:Gr) (out:List Int):Nat:=qN (wt g out) g.length
theorem Good.set (G:Good g f k out) (C:Ch (Rg g) (rk g) (Eg g) f (Dm g)) {c q:Nat} (hR:Rg g c) (hc:c≠0) (hk:rk g c=k) (T:Turn (Rg g) (rk g) (Eg g) (st out) (pd out) c q) (ch:Bool) :
  Good g f (k+1) (setS out ch c q).1/\mu g (setS out ch c q).1<=mu g out/\((setS out ch c q).2=Sj->ch=Sj\/mu g (setS out ch c q).1<mu g out)/\((setS out ch c q).2=Sk->ch=Sk/\(setS out ch c q).1=out/\st out c=q/\pd out c):=by
 have hlt:=hR.lt;have hol:=G.len;obtain⟨hq,hqn⟩:=G.BH C T.ok;have I:=G.inv.turn C hR hc hk T;by_cases e:nth out c=q
 ·have hs:setS out ch c q=(out,ch):=by simp[setS,e]
  rw[hs];have hst:upd (st out) c q=st out:=by
   funext b;unfold upd;split
   ·rename_i hb;subst hb;simp[st,e]
   rfl
  have hpd:add (pd out) c=pd out:=by
   funext b;refine propext ⟨λh=>?_,.inr⟩;rcases h with rfl | h
   ·exact R6
   exact h
  rw[hst,hpd]at I;exact⟨⟨G.len,G.rng,I⟩,N8 _,.inl,λh=>⟨h,rfl,by simp[st,e],by omega,by omega⟩⟩
 have hs:setS out ch c q=(out.set c q,Sj):=by simp[setS,e]
 rw[hs];have hn : ∀b,b<g.length->nth (out.set c q) b=if c=b then(q:Int) else nth out b:=λb hb=>bP R3;have hst:st (out.set c q)=upd (st out) c q:=by
  funext b;unfold upd st;rcases Ov b out.length with hb | hb
  ·rw[bP hb];by_cases h:c=b
   ·rw[if_pos h,if_pos h.symm];simp
   rw[if_neg h,if_neg (Ne.symm h)]
  rw[dx (by simpa using hb),dx hb,if_neg R3]
 have hpd:pd (out.set c q)=add (pd out) c:=by
  funext b;refine propext ?_;unfold pd add;rw[OR];constructor
  ·rintro⟨h1,h2⟩;rw[bP h1]at h2;by_cases h:c=b
   ·exact .inl h.symm
   rw[if_neg h]at h2;exact .inr ⟨h1,h2⟩
  rintro(rfl | ⟨h1,h2⟩)
  ·exact⟨by omega,by rw[bP R3,if_pos rfl];omega⟩
  refine⟨h1,?_⟩;rw[bP h1];split
  ·omega
  exact h2
 have hw : ∀b,b<g.length->wt g (out.set c q) b<=wt g out b/\(b=c->wt g (out.set c q) b<wt g out b):=by
  intro b hb;by_cases h:c=b
  ·subst h;have e1:wt g (out.set c q) c=rk g q:=by unfold wt;rw[hn c hb,if_pos rfl,if_neg R3,hst];simp[upd]
   have e2:rk g q<wt g out c:=by
    unfold wt;split
    ·exact Kl hq
    rename_i h1;have hp:pd out c:=R6;rcases G.inv.MZ T hp with h2 | h2
    ·exfalso;have:=O0 hp.2;unfold st at h2;omega
    exact h2
   omega
  have e1:wt g (out.set c q) b=wt g out b:=by unfold wt st;rw[hn b hb,if_neg h]
  exact⟨by omega,λe=>absurd e.symm h⟩
 have hmu:mu g (out.set c q)<mu g out:=Hg (λb hb=>(hw b hb).1) hlt ((hw c hlt).2 rfl);refine⟨⟨by simpa using hol,λb hb=>?_,by rw[hst,hpd];exact I⟩,by show mu g (out.set c q)<=_;omega,λ_=>.inr hmu,λh=>by cases h⟩;rw[hn b hb];split
 ·right;omega
 exact G.rng b hb
theorem xt (C:Ch (Rg g) (rk g) (Eg g) f (Dm g)) : ∀(l:List Int) (k:Nat) (out:List Int) (ch:Bool),l=(bG g).drop k->1<=k->k<=(bG g).length->Good g f k out->
  ∃out' ch',sG (gk g.length (bG g)) (dR g) g.length l (out,ch)=Se (out',ch')/\Good g f (bG g).length out'/\mu g out'<=mu g out/\(ch'=Sj->ch=Sj\/mu g out'<mu g out)/\
   (ch'=Sk->ch=Sk/\out'=out/\∀c:Nat,(c:Int)∈l->pd out c/\Turn (Rg g) (rk g) (Eg g) (st out) (pd out) c (st out c))
 | [],k,out,ch,hl,_,hk,G=>by
  have hk2:(bG g).length<=k:=by have:=congrArg List.length hl;simp only[QV,O9]at this;omega
  obtain rfl:k=(bG g).length:=by omega
  exact⟨out,ch,rfl,G,N8 _,.inl,λh=>⟨h,rfl,by simp⟩⟩
 | b::l,k,out,ch,hl,h1,hk,G=>by
  have hlt:k<(bG g).length:=by have:=congrArg List.length hl;simp only[Px,O9]at this;omega
  rw[O4 hlt]at hl;obtain⟨hb,hl2⟩:=List.cons.inj hl;have hmem:b∈bG g:=by rw[hb];exact O5 _
  have hg:0<g.length:=by have:=sQ (g:=g);omega
  have O:=kI hg;have hr:=O.rng b hmem;obtain⟨c,rfl⟩:=QZ hr.1;have hR:Rg g c:=(O.mem c).1 hmem;have hrk:rk g c=k:=by unfold rk;rw[hb,QU O.nodup]
  have hc0:c≠0:=λe=>by subst e;rw[xn hg]at hrk;omega
  obtain⟨q,h3,T⟩:=FB G C hR hc0 hrk;rw[sG,if_pos hr,O2];simp only;rw[h3];simp only[OT];obtain⟨g1,g2,g3,g4⟩:=G.set C hR hc0 hrk T ch;have e:setS out ch c q=((setS out ch c q).1,(setS out ch c q).2):=rfl;rw[e];generalize hs1:(setS out ch c q).1=o1 at g1 g2 g3 g4;generalize hs2:(setS out ch c q).2=c1 at g3 g4;obtain⟨out',ch',k1,k2,k3,k4,k5⟩:=xt C l (k+1) o1 c1 hl2 R3 R3 g1;refine⟨out',ch',k1,k2,by omega,λh=>?_,λh=>?_⟩
  ·rcases k4 h with h4 | h4
   ·rcases g3 h4 with h5 | h5
    ·exact .inl h5
    exact .inr R3
   exact .inr R3
  obtain⟨h4,rfl,h6⟩:=k5 h;obtain⟨h7,rfl,h8,h9⟩:=g4 h4;refine⟨h7,rfl,λx hx=>?_⟩;rcases OO.1 hx with hx | hx
  ·obtain rfl:x=c:=by omega
   exact⟨h9,h8▸T⟩
  exact h6 x hx
theorem Good.one(hg:0<g.length)(G:Good g f 0 out):Good g f 1 out:=by have I:=G.inv;have h0 : ∀b,Rg g b->b≠0->¬rk g b<1:=λb hR hb h=>hb (D0 hR (.root hg R4) (by rw[xn hg];omega));exact⟨G.len,G.rng,⟨I.pr,λb hR hb h=>absurd h (h0 b hR hb),I.fok,I.K,λb hb y hy _=>I.FP b hb y hy R3,λb hb h=>absurd h (h0 b (I.pr b hb).1 (I.pr b hb).2.1),I.S⟩⟩
structure qX (g:Gr) (f:Nat->Nat) (l:List Int):Prop where
 good:Good g f (bG g).length l
 turn : ∀c,Rg g c->c≠0->pd l c/\Turn (Rg g) (rk g) (Eg g) (st l) (pd l) c (st l c)
theorem zP (hg:0<g.length) (C:Ch (Rg g) (rk g) (Eg g) f (Dm g)) : ∀(fuel:Nat) (out:List Int),Good g f 0 out->mu g out<fuel->
  ∃l,oR (gk g.length (bG g)) (dR g) g.length ((bG g).drop (min 1 (bG g).length)) fuel out=Se l/\qX g f l
 | 0,_,_,h=>by omega
 | fuel+1,out,G,h=>by
  have O:=kI hg;have hlen:0<(bG g).length:=by
   rcases P8 (bG g).length with h | h
   ·have:=O.head;rw[OC h]at this;cases this
   exact h
  have hm:min 1 (bG g).length=1:=by omega
  rw[oR,hm];obtain⟨out',ch',k1,k2,k3,k4,k5⟩:=xt C ((bG g).drop 1) 1 out Sk rfl (N8 _) hlen (G.one hg);rw[k1];simp only[OT];cases ch' with
  | true=>rw[if_pos rfl];have:=zP hg C fuel out' ⟨k2.len,k2.rng,k2.inv.again λb hb=>ER hb⟩ (by rcases k4 rfl with h1 | h1;cases h1;omega);rwa [hm]at this
  | false=>
   rw[if_neg Sa];obtain⟨_,rfl,h6⟩:=k5 rfl;refine⟨_,rfl,k2,λc hR hc=>h6 c ?_⟩;have hmem:=(O.mem c).2 hR;obtain⟨i,hi,e⟩:=OS hmem;have hi0:i≠0:=λh0=>by subst h0;have:=O.head;rw[Pl hi]at this;have:=Option.some.inj this;omega
   rw[<-e];refine List.mem_iff_getElem.2 ⟨i-1,by rw[O9];omega,?_⟩;rw[QL];congr 1;omega
theorem zv(hg:0<g.length): ∃f,Ch (Rg g) (rk g) (Eg g) f (Dm g)/\∃l,zZ g (g.length*g.length+1)=Se l/\qX g f l:=by
 obtain⟨f,hf⟩:=Km hg;have C:=MG hg hf;refine⟨f,C,?_⟩;refine zP hg C _ _ ⟨by simp,λb hb=>.inl (aL hb),?_⟩ ?_
 ·have:pd (List.replicate g.length (-1))=λ_=>False:=by funext b;refine propext ⟨λ⟨h1,h2⟩=>?_,λh=>h.elim⟩;rw[aL (by simpa using h1)]at h2;omega
  rw[this];exact Inv.start
 have:=Ab (w:=wt g (List.replicate g.length (-1))) (m:=g.length) (n:=g.length) λb hb=>by unfold wt;rw[aL hb,if_pos R3];exact N8 _
 unfold mu;omega
theorem qX.anc {l:List Int} (I:qX g f l) (C:Ch (Rg g) (rk g) (Eg g) f (Dm g)) {x b:Nat} (hb:Rg g b):Anc (st l) x b↔Dm g x b:=by
 have hok : ∀b,Rg g b->Ok (pd l) b:=λb h=>by
  by_cases e:b=0
  ·exact .inl e
  exact .inr (I.turn b h e).1
 constructor
 ·intro h;have hx:=(I.good.BH C (I.good.inv.anc h (hok b hb)).1).1;refine qv.2 ⟨hx,hb,λhre=>?_⟩;have key : ∀b,Re g x b->¬Anc (st l) x b:=by
   intro b hre;induction hre with
   | root h1 h2=>intro h;have:=uz.1 h;omega
   | step ha he hne ih=>
    rename_i a b;intro h;by_cases e:b=0
    ·subst e;have:=uz.1 h;omega
    have hRb:Rg g b:=.step ha.all he R3;have h3:=((pI e).1 h).resolve_left R3;exact ih (((I.turn b hRb e).2.q x).1 h3 a he ha.all (hok a ha.all))
  exact key b hre h
 intro h;exact I.good.inv.dom C (hok b hb) h
end
theorem ES{p:Nat->Bool}{n:Nat}:wj p n=Sj↔∀i,i<n->p i=true:=by
 unfold wj;induction n with
 | zero=>simp[up]
 | succ n ih=>
  rw[up,E1,OA,ih];constructor
  ·rintro⟨h1,h2⟩ i hi;rcases Ov i n with h | h
   ·exact h1 i h
   obtain rfl:i=n:=by omega
   exact h2
  intro h;exact⟨λi hi=>h i R3,h n R3⟩
section
variable {g:Gr} {f:Nat->Nat} {l:List Int}
theorem qX.none(I:qX g f l){b:Nat}(hb:b<g.length)(h:¬Rg g b\/b=0):nth l b=-1:=by
 rcases I.good.rng b hb with h1 | h1
 ·exact h1
 exfalso;have:=I.good.inv.pr b ⟨by rw[I.good.len];exact hb,h1.1⟩;rcases h with h | h
 ·exact h this.1
 exact this.2.1 h
theorem Fl{a:Int}(ha:0<=a): ∀k,qS l a k (-1)=Sk
 | 0=>rfl
 | k+1=>by rw[qS,if_neg R3,if_pos (.inl R3)]
theorem xZ (I:qX g f l) (C:Ch (Rg g) (rk g) (Eg g) f (Dm g)) {a:Nat} : ∀(k b:Nat),Rg g b->rk g b<k->(qS l a k b=Sj↔Anc (st l) a b)
 | 0,b,_,h=>by omega
 | k+1,b,hb,h=>by
  have hlt:=hb.lt;have hll:=I.good.len;rw[qS];by_cases e:(b:Int)=a
  ·rw[if_pos e];have:a=b:=by omega
   subst this;exact⟨λ_=>.self,λ_=>rfl⟩
  rw[if_neg e,if_neg R3,O2];by_cases h0:b=0
  ·subst h0;rw[I.none hlt (.inr rfl),Fl R3,uz];constructor
   ·intro h;cases h
   intro h;omega
  obtain⟨hp,_⟩:=I.turn b hb h0;obtain⟨h1,h2,h3,h4⟩:=I.good.inv.pr b hp;have e2:nth l b=((st l b:Nat):Int):=(O0 hp.2).symm;rw[e2,xZ I C k (st l b) (I.good.inv.okR C h3) R3,pI h0];exact⟨.inr,λh=>h.resolve_left R3⟩
theorem tK(I:qX g f l)(C:Ch (Rg g) (rk g) (Eg g) f (Dm g)){a b:Nat}(ha:a<g.length)(hb:Rg g b):eV l a b=domC g a b:=by have hlt:=hb.lt;have hll:=I.good.len;rw[eV,decide_eq_true R3,PL,O3,xZ I C _ _ hb (by have:=Kl hb;omega),I.anc C hb];rfl
end
section
open Go Go.Lft
theorem Il{l:List Int}{x:Int}{v:Value}{h:Heap}(hl:SlRd (vw h) v l):aA Sn 73 #[v,Sb Sc x] h (λu h'=>(∃r:Int,u = Sb Sc r/\(0<=r↔x∈l))/\h'=h):=by
 refine au (args:=[v,Sb Sc x]) follows Tryz.func73 E.slices_Index_int S0 λK hK=>?_;have bl:=hl.bound;simp[L.slices_Index_int,hl.len];refine aY [0,1,7,8] (fun(_:Unit) i=>[v,Sb Sc x,Sb Sc l.length,Sb Sc i]) (λ_ i h1=>h1=h/\∀j,j<i->nth l j≠x) l.length ()
  rfl R3 rfl ⟨rfl,λj hj=>by omega⟩ (λ_ _=>rfl) (λv i h1 hk m=>by simp) ?_ ?_
 ·rintro _ i h hlt ⟨rfl,hpre⟩ K2 hK2;simp(disch:=omega)[hl.idx1 rfl,hl.int S2];refine⟨λe=>hK _ _ ⟨⟨i,rfl,by simp;rw[e];exact bw hlt⟩,rfl⟩,λe=>hK2 () _ _ rfl rfl ⟨rfl,λj hj=>?_⟩⟩;rcases Ov j i with h | h
  ·exact hpre j h
  have:j=i:=by omega
  subst this;exact λe2=>e e2.symm
 rintro _ h ⟨rfl,hpre⟩;simp;refine hK _ _ ⟨⟨-1,rfl,by simp;intro hm;obtain⟨j,hj,e⟩:=OS hm;exact hpre j hj (by rw[aB hj];exact e)⟩,rfl⟩
theorem wP{l:List Int}{x:Int}{v:Value}{h:Heap}(hl:SlRd (vw h) v l):aA Sn 47 #[v,Sb Sc x] h (λu h'=>u = .bool (l.contains x)/\h'=h):=by refine au (args:=[v,Sb Sc x]) follows Tryz.func47 E.slices_Contains_int S0 λK hK=>?_;simp[L.slices_Contains_int];refine aj R1 (Il hl) ?_;rintro _ _ ⟨⟨r,rfl,hr⟩,rfl⟩;simp;exact hK _ _ ⟨by simp[<-hr],rfl⟩
def ofG (l:List BlkD):Gr:=rows (λi=>mq (nth l i).term.to l.length) l.length
theorem C3{l:List BlkD}{v:Value}{p:Int}{h:Heap}(hv:SlRd (vw h) v l)(hl:l.length<=1000000)(hs : ∀i,i<l.length->(nth l i).term.to.length<=1000000):
  aA Sn 118 #[.agg #[Sb Sc p,v]] h (λu h'=>(vw h).le (vw h')/\SlRd (fresh h h') u (ofG l)):=by
 refine au (args:=[.agg #[Sb Sc p,v]]) follows Tryz.func118 E.iA S0 λK hK=>?_;obtain⟨hvc,hvo⟩:=hv.cells;simp[L.iA];refine cr (v:=.agg #[Sb Sc p,v]) Sa ?_;have hle1:=bC h (.cells (Value.agg #[Sb Sc p,v]).cells T.bY);have hc1:ao (vw (h.push (.cells (Value.agg #[Sb Sc p,v]).cells T.bY))) ⟨h.size,1,Sf⟩=Se v:=du (c:=#[Sb Sc p,v]) (T:=T.bY) (fz:=(0,0)) (by simp[vw,Value.cells]) rfl;generalize h.push (.cells (Value.agg #[Sb Sc p,v]).cells T.bY)=h1 at hle1 hc1;have hv1:=hv.mono hle1;simp[hc1,hv1.len];refine Mine.made (α:=List Int) (V:=nothing) (W:=nothing) (h0:=h1) (n:=l.length) (d:=[]) El.kJ S2 (λ_ _ h=>by cases h) (Old.nothing _ _) (by simp<;>rfl) (by simp<;>rfl) HG R3 R3 λo h2 m hle2 _=>?_;have hc2:=ae hle2 hc1;have hv2:=hv1.mono hle2;simp[hc2,hv2.len];refine aY [1,3,11,12,13] (fun(_:View) k=>[Si (Se ⟨h.size,0,Sf⟩),o,v,Sb Sc l.length,Sb Sc k]) (λW k h3=>Mine nothing h1 h3 W T.aP o (rows (λi=>mq (nth l i).term.to l.length) k++List.replicate (l.length-k) [])) l.length nothing
  rfl R3 rfl m (λ_ _=>rfl) (λv k h1 hk m=>by simp) ?_ ?_
 ·rintro W a h3 hlta m K2 hK2;have hle3:=m.old;have hc3:=ae hle3 hc1;have hv3:=hv1.mono hle3;obtain⟨u,hu1,hu2⟩:=hv3.wh rfl (N:=6) rfl hlta;have hal:=hs a hlta;have hl5:(rows (λi=>mq (nth l i).term.to l.length) a++List.replicate (l.length-a) ([]:List Int)).length=l.length:=by simp;omega
  refine aa λz hz=>?_;simp(disch:=omega)[hv3.idxn (N:=6) rfl,hu1 _ S2];refine dB (z:=.agg #[Sg Sf 0 0,Sg Sf 0 0,Sb Sc 0,Sg Sf 0 0,Sg Sf 0 0,Sb Sd 0]) R1 rfl R1 hu2 R5 R5 λh4 hle4 hsz4 hat=>?_;obtain⟨vp,vi,va,vt,bp,bi,bk,ba,bt⟩:=jr (hat (vw h4) hle4 rfl);have hc4:=ae hle4 hc3;have hv4:=hv3.mono hle4;subst hz;simp[bt.1,hc4,hv4.len];refine aj R1 (EY bt.2 R3) ?_;rintro r h5 ⟨W',mr⟩;have m5:=(m.ext' hle4).ext mr.old;have hr:=mr.fresh.mono (gC W _ _);simp(disch:=omega)[m5.now.idx1 rfl];refine m5.put1 (α:=List Int) (i:=a) R1 rfl Sa (by simp<;>rfl) R3 (eD.2 hr) λh6 m6=>hK2 (grow W h4 h5) _ _ rfl rfl ?_;rw[tO (x:=λi=>mq (nth l i).term.to l.length) hlta]at m6;exact m6
 rintro W h3 m;simp at m;simp;exact hK _ _ ⟨S3 hle1 m.old,m.fresh.mono (yL hle1)⟩
def mS (w:Int × Int) (idom:List Int) (blk at_:Int):Bool:=(decide (w.1=blk)&&(decide (w.2<at_)||decide (w.2<0)))||(!decide (w.1=blk)&&eV idom w.1 blk)
def useS (ps:Int) (m:MW) (idom:List Int) (v blk place at_ told:Int):Except Tr Unit:=
 if 0<=v/\v<ps then .ok () else match m v with
  | none=>.error (13,told,place)
  | some w=>if mS w idom blk at_ then .ok () else .error (13,told,place)
theorem DP{Kb r:Nat}{vb vd:Value}{f:aq}{m:MW}{idom:List Int}{h:Heap}{p5 p6:Addr}{v blk place at_ told:Int}(k:Lk h Kb r vb f m)(h5:ao (vw h) p5=Se (Si (Se ⟨Kb,0,Sf⟩)))(h6:ao (vw h) p6=Se vd)(hd:SlRd (vw h) vd idom):
  ju Sn 122 #[Sb Sc v,Sb Sc blk,Sb Sc place,Sb Sc at_,Sb Sc told,Si (Se p5),Si (Se p6)] h (λ_ h'=>useS f.params m idom v blk place at_ told = .ok ()/\(vw h).le (vw h'))
   (λch h'=>∃t,useS f.params m idom v blk place at_ told = .error t/\ch=trV t/\(vw h).le (vw h')):=by
 refine iW (args:=[Sb Sc v,Sb Sc blk,Sb Sc place,Sb Sc at_,Sb Sc told,Si (Se p5),Si (Se p6)]) follows Tryz.func122 E.gF S0 λK Kp hK hKp=>?_;dsimp only[L.gF,lkF,lkG];by_cases hp:0<=v/\v<f.params
 ·simp[h5,ae di k.c0,hp];exact hK _ _ ⟨by simp[useS,hp],View.le_refl _⟩
 have hu:useS f.params m idom v blk place at_ told=match m v with
   | none=>.error (13,told,place)
   | some w=>if mS w idom blk at_ then .ok () else .error (13,told,place):=by rw[useS,if_neg hp]
 rw[hu]at hK hKp;refine aa λz hz=>?_;have hc:(decide (0<=v)&&decide (v<f.params))=false:=by rw[Ps];intro e;exact hp (by simpa using e)
 simp[h5,ae di k.c0,hc];subst hz;refine aa λz hz=>?_;simp[h5,ae di k.c2];refine nr (z:=.agg #[Sb Sc 0,Sb Sc 0]) U.fZ U.int R1 (by simp<;>rfl) (by simp<;>rfl) fN k.map ?_;have cellsW:((mapE encW m (Sb Sc v))).getD (.agg #[Sb Sc 0,Sb Sc 0])=encW ((m v).getD (0,0)):=by rw[qF];cases m v<;>rfl
 have isW:(mapE encW m (Sb Sc v)).isSome=(m v).isSome:=by rw[qF];cases m v<;>rfl
 rw[cellsW,isW];simp;refine fT (n:=2) (v:=encW ((m v).getD (0,0))) (z:=.agg #[Sb Sc 0,Sb Sc 0]) R1 rfl R1 rfl (by simp[encW,Value.oneCell']) R5 R5 λh3 hle3 hsz3 hb3=>?_;have d0:ao (vw h3) ⟨h.size,0,Sf⟩=Se (Sb Sc ((m v).getD (0,0)).1):=du (show vw h3 h.size=_ from hb3) rfl;have d1:ao (vw h3) ⟨h.size,1,Sf⟩=Se (Sb Sc ((m v).getD (0,0)).2):=du (show vw h3 h.size=_ from hb3) rfl;have h63:=ae hle3 h6;have hd3:=hd.mono hle3;generalize h.size=B at d0 d1;subst hz;have fin : ∀(ok:Bool) (h4:Heap) (ρ:Env) (z:LC),(vw h).le (vw h4)->(∀w,m v=Se w->ok=mS w idom blk at_)->(m v=Sf->ok=Sk)->z = .reg Sk (.loud [65,66,67] [] [(65,.tmp 13),(66,.tmp 4),(67,.tmp 2)] Sf [] Sk (.call ⟨.value (.func 68),#[.tmp 65,.const (Sb Sc 13),.tmp 66,.tmp 67],#[T.bool,T.pg,T.int,T.int]⟩) 0 (Se 68) Sk (.fin [] [] []))->
   Lft.look ρ 13=Se (.bool ok)->Lft.look ρ 4=Se (Sb Sc told)->Lft.look ρ 2=Se (Sb Sc place)->@LC.wp (ppOf Kp) Sn z (@cz [] K) ρ h4:=by
  rintro ok h4 ρ _ hle4 hs hn rfl e13 e4 e2;simp[e13,e4,e2];refine ez R1 iL ?_ ?_
  ·rintro _ _ ⟨e,rfl⟩;refine hK _ _ ⟨?_,hle4⟩;cases hm:m v with
   | none=>rw[hn hm]at e;cases e
   | some w=>simp only;rw[if_pos (by rw[<-hs w hm];exact e)]
  rintro _ _ ⟨e,rfl,rfl⟩;refine⟨.inl rfl,hKp _ _ ⟨_,?_,rfl,hle4⟩⟩;cases hm:m v with
  | none=>rfl
  | some w=>simp only;rw[if_neg (by rw[<-hs w hm,e];simp)]
 refine aa λz hz=>?_;cases hm:m v with
 | none=>rw[hm]at d0 d1;simp[d0,d1];refine fin Sk _ _ _ hle3 (λw hw=>by rw[hm]at hw;cases hw) (λ_=>rfl) hz ?_ ?_ ?_<;>simp
 | some w=>
  rw[hm]at d0 d1;simp at d0 d1;by_cases c1:w.1=blk
  ·by_cases c2:w.2<at_
   ·simp[d0,d1,c1,c2];refine fin Sj _ _ _ hle3 (λw' hw=>by rw[hm]at hw;cases hw;simp[mS,c1,c2]) (λe=>by simp[hm]at e) hz ?_ ?_ ?_<;>simp
   by_cases c3:w.2<0
   ·simp[d0,d1,c1,c2,c3];refine fin Sj _ _ _ hle3 (λw' hw=>by rw[hm]at hw;cases hw;simp[mS,c1,c2,c3]) (λe=>by simp[hm]at e) hz ?_ ?_ ?_<;>simp
   simp[d0,d1,c1,c2,c3];refine fin Sk _ _ _ hle3 (λw' hw=>by rw[hm]at hw;cases hw;simp[mS,c1,c2,c3]) (λe=>by simp[hm]at e) hz ?_ ?_ ?_<;>simp
  simp[d0,d1,c1,h63];refine aj R1 (Az hd3) ?_;rintro _ h4 ⟨rfl,hle4⟩;refine fin _ _ _ _ (S3 hle3 hle4) (λw' hw=>by rw[hm]at hw;cases hw;simp[mS,c1];rfl) (λe=>by simp[hm]at e) hz ?_ ?_ ?_<;>simp
end
section
open Go Go.Lft
def lS (x:PhiD) (row:List Int) (b:Nat):Bool:=decide (0<b)&&decide ((x.ins.length:Int)=(row.length:Int))
def zj (x:PhiD) (row:List Int) (j:Nat):Bool:=decide ((nth x.ins j).frm=nth row j)
def Ca (x:PhiD) (row:List Int) (b:Nat):Bool:=lS x row b&&wj (zj x row) x.ins.length
def uAll (g:Nat->Except Tr Unit) (n:Nat):Except Tr Unit:=upE (λi _=>g i) n ()
def phiU (f:aq) (m:MW) (idom:List Int) (preds:Gr) (b i:Nat):Except Tr Unit:=
 let x:=nth (nth f.blocks b).phis i
 if Ca x (nth preds b) b then uAll (λj=>useS f.params m idom (nth x.ins j).val (nth x.ins j).frm (-1-i) (nth f.blocks (nth x.ins j).frm.toNat).ins.length b) x.ins.length else .error (16,b,-1-i)
def insU (f:aq) (m:MW) (idom:List Int) (b i:Nat):Except Tr Unit:=
 uAll (λj=>useS f.params m idom (nth (nth (nth f.blocks b).ins i).args j) b i i b) (nth (nth f.blocks b).ins i).args.length
def endU (f:aq) (m:MW) (idom:List Int) (b:Nat):Except Tr Unit:=
 uAll (λj=>useS f.params m idom (nth (nth f.blocks b).term.args j) b (nth f.blocks b).ins.length (nth f.blocks b).ins.length b) (nth f.blocks b).term.args.length
def andE (x y:Except Tr Unit):Except Tr Unit:=match x with | .ok _=>y | .error t=>.error t
def blkU (f:aq) (m:MW) (idom:List Int) (preds:Gr) (b:Nat):Except Tr Unit:=
 andE (uAll (phiU f m idom preds b) (nth f.blocks b).phis.length) (andE (uAll (insU f m idom b) (nth f.blocks b).ins.length) (endU f m idom b))
def vE (f:aq) (b:Nat):Except Tr Unit:=if decide ((b:Int)∈bG (ofG f.blocks)) then .ok () else .error (15,b,0)
def uu (f:aq) (m:MW) (idom:List Int):Except Tr Unit:=
 andE (uAll (vE f) f.blocks.length) (uAll (blkU f m idom (dR (ofG f.blocks))) f.blocks.length)
theorem pB{g:Nat->Except Tr Unit}{n k:Nat}{t:Tr}(h:uAll g k = .ok ())(hk:k<n)(he:g k = .error t):uAll g n = .error t:=qz h hk he
theorem lh{g:Nat->Except Tr Unit}{k:Nat}(h:uAll g k = .ok ()):uAll g (k+1)=g k:=jF h
theorem IV{H:View}{B:Nat}{u v:Value}(h0:ao H ⟨B,0,Sf⟩=Se u)(h1:ao H ⟨B,1,Sf⟩=Se v):Un.ev H (.aT 2) (Si (Se ⟨B,0,Sf⟩))=Se (.agg #[u,v]):=by simp[Un.ev,vP,en,h0,h1]
theorem LI{l:List BlkD}(hl:l.length<=1000000)(hs : ∀i,i<l.length->(nth l i).term.to.length<=1000000):Sm (ofG l):=by
 have hlen:(ofG l).length=l.length:=by simp[ofG]
 refine⟨by omega,λi hi=>?_⟩;rw[hlen]at hi;rw[ofG,gL hi];exact OX Aa (hs i hi)
theorem Ka{Kb r:Nat}{vb:Value}{f:aq}{m:MW}{idom:List Int}{fuel:Nat}{h:Heap}(k:Lk h Kb r vb f m)(hn:f.blocks.length<=1000000)(hto : ∀i,i<f.blocks.length->(nth f.blocks i).term.to.length<=1000000)(hd:zZ (ofG f.blocks) fuel=Se idom):
  ju Sn 71 #[Si (Se ⟨Kb,0,Sf⟩)] h (λ_ h'=>uu f m idom = .ok ()/\(vw h).le (vw h')) (λch h'=>∃t,uu f m idom = .error t/\ch=trV t/\(vw h).le (vw h')):=by
 refine iW (args:=[Si (Se ⟨Kb,0,Sf⟩)]) follows Tryz.func71 E.az S0 λK Kp hK hKp=>?_;have hbb:=k.rb.bound;have hsm:=LI hn hto;have hgl:(ofG f.blocks).length=f.blocks.length:=by simp[ofG]
 dsimp only[L.az,lkF,lkG];refine aa λz hz=>?_;simp;refine cr (v:=Si (Se ⟨Kb,0,Sf⟩)) Sa ?_;have hle1:=bC h (.cells (Value.cells (Si (Se ⟨Kb,0,Sf⟩))) T.nz);have h51:ao (vw (h.push (.cells (Value.cells (Si (Se ⟨Kb,0,Sf⟩))) T.nz))) ⟨h.size,0,Sf⟩=Se (Si (Se ⟨Kb,0,Sf⟩)):=by simp[ao,vw]
 generalize h.push (.cells (Value.cells (Si (Se ⟨Kb,0,Sf⟩))) T.nz)=h1 at hle1 h51;generalize h.size=B at h51;have k1:=k.ext hle1;subst hz;refine aa λz hz=>?_;simp[h51,IV (ae di k1.c0) (ae di k1.c1)];refine aj R1 (C3 (k1.rb.mono di) hn hto) ?_;rintro vg h2 ⟨hle2,hg⟩;have hg2:=hg.mono (lX _ _);subst hz;refine aa λz hz=>?_;simp;refine aj R1 (Cs hg2 hsm) ?_;rintro vo h3 ⟨hle3,ho⟩;have ho3:=ho.mono (lX _ _);have hg3:=hg2.mono hle3;have hle13:=S3 hle2 hle3;have k3:=k1.ext hle13;have h53:=ae hle13 h51;have hle03:=S3 hle1 hle13;subst hz;refine aa λz hz=>?_;simp[h53,ae di k3.c1,k3.rb.len];refine aY [0,1,2,3,35,36] (fun(_:Unit) b=>[Si (Se ⟨Kb,0,Sf⟩),Si (Se ⟨B,0,Sf⟩),vg,vo,Sb Sc f.blocks.length,Sb Sc b]) (λ_ b h4=>h4=h3/\uAll (vE f) b = .ok ()) f.blocks.length ()
  rfl R3 rfl ⟨rfl,rfl⟩ (λ_ _=>rfl) (λv i h1 hk m=>by simp) ?_ ?_
 ·rintro _ b h3 hlt ⟨rfl,hpre⟩ K2 hK2;simp;refine aj R1 (wP ho3) ?_;rintro _ _ ⟨rfl,rfl⟩;simp;refine ez R1 iL ?_ ?_
  ·rintro _ _ ⟨e,rfl⟩;exact hK2 () _ _ rfl rfl ⟨rfl,by rw[lh hpre,vE,if_pos e]⟩
  rintro _ _ ⟨e,rfl,rfl⟩;exact⟨.inl rfl,hKp _ _ ⟨_,by rw[uu,pB hpre hlt (by rw[vE,if_neg (by rw[e];simp)])];rfl,rfl,hle03⟩⟩
 rintro _ h3 ⟨rfl,hreach⟩;have hus:uu f m idom=uAll (blkU f m idom (dR (ofG f.blocks))) f.blocks.length:=by rw[uu,hreach];rfl
 rw[hus]at hK hKp;simp;subst hz;refine aa λz hz=>?_;simp;refine aj R1 (CH hg3 hsm) ?_;rintro vp h4 ⟨hle4,hp⟩;have hp4:=hp.mono (lX _ _);refine aj R1 (Kd (hg3.mono hle4) hsm hd) ?_;rintro vi h5 ⟨W,mi⟩;have hi5:=mi.now;refine dB (α:=List Int) (z:=Sg Sf 0 0) (X:=vw h5) R1 rfl R1 (eD.2 hi5) R5 R5 λh6 hle6 hsz6 hat=>?_;obtain⟨vd,hvd,hd6⟩:=(hat (vw h6) hle6 rfl).sl;generalize h5.size=C at hvd;subst hz;have hle36:=S3 hle4 (S3 mi.old hle6);have hp6:=hp4.mono (S3 mi.old hle6);have k6:=k3.ext hle36;have h56:=ae hle36 h53;have hle06:=S3 hle03 hle36;have hpl:(dR (ofG f.blocks)).length=f.blocks.length:=by rw[qm,hgl]
 have hin : ∀b,∀x∈nth (dR (ofG f.blocks)) b,0<=x/\x<f.blocks.length:=by
  rw[<-hgl];exact uI (λe he=>(rK he).1) (λi x hx=>by
   rcases Ov i (ofG f.blocks).length with hi | hi
   ·rw[aL hi]at hx;cases hx
   rw[dx (by simpa using hi)]at hx;cases hx)
 generalize dR (ofG f.blocks)=preds at hp6 hpl hin hK hKp;obtain⟨pv,hpv⟩:=hp6.rows;simp[h56,ae di k6.c1,k6.rb.len];refine aY [1,5,7,54,55,56] (fun(_:Unit) b=>[Si (Se ⟨B,0,Sf⟩),vp,.func (.func 122) #[] #[Si (Se ⟨B,0,Sf⟩),Si (Se ⟨C,0,Sf⟩)],vb,Sb Sc f.blocks.length,Sb Sc b]) (λ_ b h7=>(vw h6).le (vw h7)/\uAll (blkU f m idom preds) b = .ok ()) f.blocks.length ()
  rfl R3 rfl ⟨View.le_refl _,rfl⟩ (λ_ _=>rfl) (λv i h1 hk m=>by simp) ?_ ?_
 ·rintro _ b h7 hltb ⟨hle7,hpre⟩ K2 hK2;have k7:=k6.ext hle7;have rb7:=k7.rb.mono di;obtain⟨u,hu,hur⟩:=rb7.wh rfl (N:=6) rfl hltb;obtain⟨pc,pr⟩:=hpv b R3;have hst:=lh hpre;have her : ∀{t},blkU f m idom preds b = .error t->uAll (blkU f m idom preds) f.blocks.length = .error t:=λe=>pB hpre hltb e;refine aa λz hz=>?_;simp(disch:=omega)[rb7.idxn (N:=6) rfl,hu _ S2];refine dB (z:=.agg #[Sg Sf 0 0,Sg Sf 0 0,Sb Sc 0,Sg Sf 0 0,Sg Sf 0 0,Sb Sd 0]) R1 rfl R1 hur R5 R5 λh8 hle8 hsz8 hat=>?_;obtain⟨wp,wi,wa,wt,bp,bi,bk,ba,bt⟩:=jr (hat (vw h8) hle8 rfl);generalize h7.size=D at bp bi bk ba bt;subst hz;have hle68:=S3 hle7 hle8;have bph:=bp.2.bound;have bin:=bi.2.bound;have bar:=ba.2.bound;refine aa λz hz=>?_;simp[bp.1,bp.2.len];refine aY [1,5,7,8,9,54,55,56,62,63,64] (fun(_:Unit) i=>[Si (Se ⟨B,0,Sf⟩),vp,.func (.func 122) #[] #[Si (Se ⟨B,0,Sf⟩),Si (Se ⟨C,0,Sf⟩)],Sb Sc b,Si (Se ⟨D,0,Sf⟩),vb,Sb Sc f.blocks.length,Sb Sc b,wp,Sb Sc (nth f.blocks b).phis.length,Sb Sc i])
   (λ_ i h9=>(vw h8).le (vw h9)/\uAll (phiU f m idom preds b) i = .ok ()) (nth f.blocks b).phis.length ()
   rfl R3 rfl ⟨View.le_refl _,rfl⟩ (λ_ _=>rfl) (λv i h1 hk m=>by simp) ?_ ?_
  ·rintro _ i h9 hlti ⟨hle9,hpre9⟩ K3 hK3;have hst9:=lh hpre9;have her9 : ∀{t},phiU f m idom preds b i = .error t->blkU f m idom preds b = .error t:=λe=>by rw[blkU,pB hpre9 hlti e];rfl
   have bp9:=bp.2.mono hle9;obtain⟨u9,hu9,hur9⟩:=bp9.wh rfl (N:=2) rfl hlti;refine aa λy hy=>?_;simp(disch:=omega)[bp9.idxn (N:=2) rfl,hu9 _ S2];refine dB (z:=.agg #[Sb Sc 0,Sg Sf 0 0]) R1 rfl R1 hur9 R5 R5 λh10 hle10 hsz10 hat10=>?_;obtain⟨_,wq,cq⟩:=A3 (hat10 (vw h10) hle10 rfl);simp only[phiU]at hst9 her9;generalize nth (nth f.blocks b).phis i=x at cq hst9 her9;generalize h9.size=D10 at cq;have bq:=cq.2.bound;subst hy;refine aa λy hy=>?_;have hle610:=S3 hle68 (S3 hle9 hle10);have hp10:=hp6.mono hle610;have pr10:=pr.mono hle610;have hbase:(decide (0<b)&&decide ((x.ins.length:Int)=((nth preds b).length:Int)))=lS x (nth preds b) b:=rfl;simp(disch:=omega)[cq.1,cq.2.len,hp10.idx1 rfl,pc _ hle610,pr10.len];rw[hbase];subst hy;refine aa λy hy=>?_;simp[cq.1,cq.2.len];refine aY [1,5,7,8,9,10,11,12,54,55,56,62,63,64,83,84,85] (fun(_:Unit) j=>[Si (Se ⟨B,0,Sf⟩),vp,.func (.func 122) #[] #[Si (Se ⟨B,0,Sf⟩),Si (Se ⟨C,0,Sf⟩)],Sb Sc b,Si (Se ⟨D,0,Sf⟩),Sb Sc i,Si (Se ⟨D10,0,Sf⟩),
     .bool (lS x (nth preds b) b&&wj (zj x (nth preds b)) j),vb,Sb Sc f.blocks.length,Sb Sc b,wp,Sb Sc (nth f.blocks b).phis.length,Sb Sc i,wq,Sb Sc x.ins.length,Sb Sc j])
    (λ_ j h11=>(vw h10).le (vw h11)) x.ins.length ()
    rfl R3 (by simp[bD];intro _;rfl) S2 (λ_ _=>rfl) (λv i h1 hk m=>by simp) ?_ ?_
   ·rintro _ j h11 hltj hle11 K4 hK4;have cq11:=cq.2.mono hle11;obtain⟨u11,hu11,hur11⟩:=cq11.wh rfl (N:=2) rfl hltj;refine aa λq hq=>?_;simp(disch:=omega)[cq11.idxn (N:=2) rfl,hu11 _ S2];refine dB (z:=.agg #[Sb Sc 0,Sb Sc 0]) R1 rfl R1 hur11 R5 R5 λh12 hle12 hsz12 hat12=>?_;obtain⟨e0,e1⟩:=DS (hat12 (vw h12) hle12 rfl);generalize h11.size=D12 at e0 e1;subst hq;have hle612:=S3 hle610 (S3 hle11 hle12);have hp12:=hp6.mono hle612;have pr12:=pr.mono hle612;cases hfit:lS x (nth preds b) b&&wj (zj x (nth preds b)) j with
    | false=>simp;refine hK4 () _ _ rfl ?_ (S3 hle11 hle12);rw[yB,<-Bool.and_assoc,hfit];rfl
    | true=>
     have hlen:x.ins.length=(nth preds b).length:=by simp only[OA,lS,decide_eq_true_eq]at hfit;omega
     simp(disch:=omega)[e0,hp12.idx1 rfl,pc _ hle612,pr12.idx1 rfl,pr12.int S2];refine hK4 () _ _ rfl ?_ (S3 hle11 hle12);rw[yB,<-Bool.and_assoc,hfit];rfl
   rintro _ h11 hle11;have hfs:(lS x (nth preds b) b&&wj (zj x (nth preds b)) x.ins.length)=Ca x (nth preds b) b:=rfl;rw[hfs];simp;subst hy;refine aa λy hy=>?_;simp(disch:=omega);have hle011:=S3 hle06 (S3 hle610 hle11);refine ez R1 iL ?_ ?_;rotate_left
   ·rintro _ _ ⟨e,rfl,rfl⟩;exact⟨.inl rfl,hKp _ _ ⟨_,her (her9 (by rw[if_neg (by rw[e];simp)])),rfl,hle011⟩⟩
   rintro _ h11 ⟨efit,rfl⟩;rw[if_pos efit]at hst9;have her9' : ∀{t},uAll (λj=>useS f.params m idom (nth x.ins j).val (nth x.ins j).frm (-1-i) (nth f.blocks (nth x.ins j).frm.toNat).ins.length b) x.ins.length = .error t->blkU f m idom preds b = .error t:=λe=>her9 (by rw[if_pos efit];exact e);have hlen:x.ins.length=(nth preds b).length:=by simp only[OA,Ca,lS,decide_eq_true_eq]at efit;omega
   have hfrm : ∀j,j<x.ins.length->0<=(nth x.ins j).frm/\(nth x.ins j).frm<f.blocks.length:=λj hj=>by have h1:=ES.1 (OA _ _▸efit:_/\_).2 j hj;simp only[zj,decide_eq_true_eq]at h1;rw[h1];exact hin b _ (bw R3)
   subst hy;have cq11:=cq.2.mono hle11;simp[ae hle11 cq.1,cq11.len];refine aY [1,5,7,8,9,10,11,54,55,56,62,63,64,110,111,112] (fun(_:Unit) j=>[Si (Se ⟨B,0,Sf⟩),vp,.func (.func 122) #[] #[Si (Se ⟨B,0,Sf⟩),Si (Se ⟨C,0,Sf⟩)],Sb Sc b,Si (Se ⟨D,0,Sf⟩),Sb Sc i,Si (Se ⟨D10,0,Sf⟩),
     vb,Sb Sc f.blocks.length,Sb Sc b,wp,Sb Sc (nth f.blocks b).phis.length,Sb Sc i,wq,Sb Sc x.ins.length,Sb Sc j])
    (λ_ j h12=>(vw h11).le (vw h12)/\uAll (λj=>useS f.params m idom (nth x.ins j).val (nth x.ins j).frm (-1-i) (nth f.blocks (nth x.ins j).frm.toNat).ins.length b) j = .ok ()) x.ins.length ()
    rfl R3 rfl ⟨View.le_refl _,rfl⟩ (λ_ _=>rfl) (λv i h1 hk m=>by simp) ?_ ?_
   ·rintro _ j h12 hltj ⟨hle12,hpre12⟩ K4 hK4;have hst12:=lh hpre12;have cq12:=cq11.mono hle12;obtain⟨u12,hu12,hur12⟩:=cq12.wh rfl (N:=2) rfl hltj;refine aa λq hq=>?_;simp(disch:=omega)[cq12.idxn (N:=2) rfl,hu12 _ S2];refine dB (z:=.agg #[Sb Sc 0,Sb Sc 0]) R1 rfl R1 hur12 R5 R5 λh13 hle13 hsz13 hat13=>?_;obtain⟨e0,e1⟩:=DS (hat13 (vw h13) hle13 rfl);generalize h12.size=D13 at e0 e1;have hf:=hfrm j hltj;generalize hxj:nth x.ins j=w at e0 e1 hst12 hf;subst hq;have hle613:=S3 hle610 (S3 hle11 (S3 hle12 hle13));have k13:=k6.ext hle613;have rb13:=k13.rb.mono di;have h513:=ae hle613 h56;obtain⟨ul,hul⟩:=(((rb13.at (i:=w.frm.toNat) R3).part BlkD.jB)).sl;rw[<-aB R3]at hul;have hul1:ao (vw h13) (((slA vb).add (w.frm.toNat*6)).add 1)=Se ul:=hul.1;refine aI (vw h13) S2 ?_;simp(disch:=omega)[e0,e1,h513,ae di k13.c1,rb13.idxn (N:=6) rfl,hul1,hul.2.len];refine vz (ops:=[.tmp 118,.tmp 120,.tmp 122,.tmp 133,.tmp 134]) rfl R1 (DP k13 h513 (ae hle613 hvd) (hd6.mono hle613)) ?_ ?_
    ·rintro _ h14 ⟨e,hle14⟩;exact hK4 () _ _ rfl rfl ⟨S3 hle12 (S3 hle13 hle14),by rw[hst12];exact e⟩
    rintro _ h14 ⟨t,e,rfl,hle14⟩;exact⟨.inr λ_=>trivial,hKp _ _ ⟨t,her (her9' (pB hpre12 hltj (by rw[hxj];exact e))),rfl,S3 hle06 (S3 hle613 hle14)⟩⟩
   rintro _ h12 ⟨hle12,hpre12⟩;simp;exact hK3 () _ _ rfl rfl ⟨S3 hle9 (S3 hle10 (S3 hle11 hle12)),by rw[hst9];exact hpre12⟩
  rintro _ h9 ⟨hle9,hpre9⟩;have hbu:blkU f m idom preds b=andE (uAll (insU f m idom b) (nth f.blocks b).ins.length) (endU f m idom b):=by rw[blkU,hpre9];rfl
  rw[hbu]at hst her;simp;subst hz;refine aa λz hz=>?_;have bi9:=bi.2.mono hle9;simp[ae hle9 bi.1,bi9.len];refine aY [1,5,7,8,9,54,55,56,139,140,141] (fun(_:Unit) i=>[Si (Se ⟨B,0,Sf⟩),vp,.func (.func 122) #[] #[Si (Se ⟨B,0,Sf⟩),Si (Se ⟨C,0,Sf⟩)],Sb Sc b,Si (Se ⟨D,0,Sf⟩),vb,Sb Sc f.blocks.length,Sb Sc b,wi,Sb Sc (nth f.blocks b).ins.length,Sb Sc i])
   (λ_ i h10=>(vw h9).le (vw h10)/\uAll (insU f m idom b) i = .ok ()) (nth f.blocks b).ins.length ()
   rfl R3 rfl ⟨View.le_refl _,rfl⟩ (λ_ _=>rfl) (λv i h1 hk m=>by simp) ?_ ?_
  ·rintro _ i h10 hlti ⟨hle10,hpre10⟩ K3 hK3;have hst10:=lh hpre10;have her10 : ∀{t},insU f m idom b i = .error t->uAll (blkU f m idom preds) f.blocks.length = .error t:=λe=>her (by rw[pB hpre10 hlti e];rfl);have bi10:=bi9.mono hle10;obtain⟨u10,hu10,hur10⟩:=bi10.wh rfl (N:=5) rfl hlti;refine aa λy hy=>?_;simp(disch:=omega)[bi10.idxn (N:=5) rfl,hu10 _ S2];refine dB (z:=.agg #[Sb Sc 0,Sb Sc 0,Sb Sc 0,Sg Sf 0 0,Sb Sd 0]) R1 rfl R1 hur10 R5 R5 λh11 hle11 hsz11 hat11=>?_;obtain⟨_,_,_,wq,cq⟩:=fO (hat11 (vw h11) hle11 rfl);rw[insU]at hst10 her10;generalize nth (nth f.blocks b).ins i=x at cq hst10 her10;generalize h10.size=D11 at cq;have bq:=cq.2.bound;subst hy;simp[cq.1,cq.2.len];refine aY [1,5,7,8,9,17,54,55,56,139,140,141,147,148,149] (fun(_:Unit) j=>[Si (Se ⟨B,0,Sf⟩),vp,.func (.func 122) #[] #[Si (Se ⟨B,0,Sf⟩),Si (Se ⟨C,0,Sf⟩)],Sb Sc b,Si (Se ⟨D,0,Sf⟩),Sb Sc i,vb,Sb Sc f.blocks.length,Sb Sc b,wi,Sb Sc (nth f.blocks b).ins.length,Sb Sc i,wq,Sb Sc x.args.length,Sb Sc j])
    (λ_ j h12=>(vw h11).le (vw h12)/\uAll (λj=>useS f.params m idom (nth x.args j) b i i b) j = .ok ()) x.args.length ()
    rfl R3 rfl ⟨View.le_refl _,rfl⟩ (λ_ _=>rfl) (λv i h1 hk m=>by simp) ?_ ?_
   ·rintro _ j h12 hltj ⟨hle12,hpre12⟩ K4 hK4;have hst12:=lh hpre12;have cq12:=cq.2.mono hle12;have hle612:=S3 hle68 (S3 hle9 (S3 hle10 (S3 hle11 hle12)));have k12:=k6.ext hle612;have h512:=ae hle612 h56;simp(disch:=omega)[cq12.idx1 rfl,cq12.int S2];refine vz (ops:=[.tmp 154,.tmp 155,.tmp 156,.tmp 157,.tmp 158]) rfl R1 (DP k12 h512 (ae hle612 hvd) (hd6.mono hle612)) ?_ ?_
    ·rintro _ h14 ⟨e,hle14⟩;exact hK4 () _ _ rfl rfl ⟨S3 hle12 hle14,by rw[hst12];exact e⟩
    rintro _ h14 ⟨t,e,rfl,hle14⟩;exact⟨.inl rfl,hKp _ _ ⟨t,her10 (pB hpre12 hltj e),rfl,S3 hle06 (S3 hle612 hle14)⟩⟩
   rintro _ h12 ⟨hle12,hpre12⟩;simp;exact hK3 () _ _ rfl rfl ⟨S3 hle10 (S3 hle11 hle12),by rw[hst10];exact hpre12⟩
  rintro _ h10 ⟨hle10,hpre10⟩;have hbu2:andE (uAll (insU f m idom b) (nth f.blocks b).ins.length) (endU f m idom b)=endU f m idom b:=by rw[hpre10];rfl
  rw[hbu2]at hst her;rw[endU]at hst her;simp;subst hz;have ba10:=ba.2.mono (S3 hle9 hle10);have ca10:=ae (S3 hle9 hle10) ba.1;have bi10:=bi9.mono hle10;have ci10:=ae (S3 hle9 hle10) bi.1;simp[ca10,ba10.len];refine aY [1,5,7,8,9,54,55,56,164,165,166] (fun(_:Unit) j=>[Si (Se ⟨B,0,Sf⟩),vp,.func (.func 122) #[] #[Si (Se ⟨B,0,Sf⟩),Si (Se ⟨C,0,Sf⟩)],Sb Sc b,Si (Se ⟨D,0,Sf⟩),vb,Sb Sc f.blocks.length,Sb Sc b,wa,Sb Sc (nth f.blocks b).term.args.length,Sb Sc j])
   (λ_ j h12=>(vw h10).le (vw h12)/\uAll (λj=>useS f.params m idom (nth (nth f.blocks b).term.args j) b (nth f.blocks b).ins.length (nth f.blocks b).ins.length b) j = .ok ()) (nth f.blocks b).term.args.length ()
   rfl R3 rfl ⟨View.le_refl _,rfl⟩ (λ_ _=>rfl) (λv i h1 hk m=>by simp) ?_ ?_
  ·rintro _ j h12 hltj ⟨hle12,hpre12⟩ K4 hK4;have hst12:=lh hpre12;have ba12:=ba10.mono hle12;have bi12:=bi10.mono hle12;have ci12:=ae hle12 ci10;have hle612:=S3 hle68 (S3 hle9 (S3 hle10 hle12));have k12:=k6.ext hle612;have h512:=ae hle612 h56;simp(disch:=omega)[ba12.idx1 rfl,ba12.int S2,ci12,bi12.len];refine vz (ops:=[.tmp 171,.tmp 172,.tmp 175,.tmp 178,.tmp 179]) rfl R1 (DP k12 h512 (ae hle612 hvd) (hd6.mono hle612)) ?_ ?_
   ·rintro _ h14 ⟨e,hle14⟩;exact hK4 () _ _ rfl rfl ⟨S3 hle12 hle14,by rw[hst12];exact e⟩
   rintro _ h14 ⟨t,e,rfl,hle14⟩;exact⟨.inl rfl,hKp _ _ ⟨t,her (pB hpre12 hltj e),rfl,S3 hle06 (S3 hle612 hle14)⟩⟩
  rintro _ h12 ⟨hle12,hpre12⟩;simp;exact hK2 () _ _ rfl rfl ⟨S3 hle7 (S3 hle8 (S3 hle9 (S3 hle10 hle12))),by rw[hst];exact hpre12⟩
 rintro _ h7 ⟨hle7,hpre⟩;simp;exact hK _ _ ⟨hpre,S3 hle06 hle7⟩
end
section
open Go Go.Lft
def Ig (t:Tr):FrameMode:=.panicking [{ v:=.iface T.gA (.agg #[Sb Sc t.1,Sb Sc t.2.1,Sb Sc t.2.2]),recovered:=true }]
theorem IP{a b c:Nat}{t:Tr}{h:Heap}{ra rb rc:Array Value}{ea eb ec:TypeId}(ha:h[a]? = Se (.cells ra ea (0,0)))(hb:h[b]? = Se (.cells rb eb (0,0)))(hc:h[c]? = Se (.cells rc ec (0,0)))(sa:ra.size=1)(sb:rb.size=1)(sc:rc.size=1)(hab:a≠b)(hac:a≠c)(hbc:b≠c):td Sn 67 #[Si (Se ⟨a,0,Sf⟩),Si (Se ⟨b,0,Sf⟩),Si (Se ⟨c,0,Sf⟩)] (.panicking (trV t)) h
   (λu' h'=>u'=Ig t/\h'[a]? = Se (.cells #[Sb Sc t.1] ea (0,0))/\h'[b]? = Se (.cells #[Sb Sc t.2.1] eb (0,0))/\h'[c]? = Se (.cells #[Sb Sc t.2.2] ec (0,0))/\h.size<=h'.size/\∀k,k<h.size->k≠a->k≠b->k≠c->h'[k]? = h[k]?):=by
 refine qM (args:=[Si (Se ⟨a,0,Sf⟩),Si (Se ⟨b,0,Sf⟩),Si (Se ⟨c,0,Sf⟩)]) (t:=6) (L:=L.fS.body.tail) (tys:=#[]) follows Tryz.func67 Q.fS R1 R1 R1 S0 E.qT R1 R1 S0 ?_;have ala:a<h.size:=(OG.1 ha).1;have alb:b<h.size:=(OG.1 hb).1;have alc:c<h.size:=(OG.1 hc).1;have hrec:kE (.panicking (trV t))=(.iface T.gA (.agg #[Sb Sc t.1,Sb Sc t.2.1,Sb Sc t.2.2]),Ig t):=rfl;rw[hrec];simp[L.fS,LC.tail];refine CY (ms:=#[]) R1 rfl (.inr ⟨_,_,rfl,rfl⟩) ?_;simp;refine FV (d:=(Tryz.prog.underlying T.gA).getD .bool) R1 R1 rfl ?_;simp;refine fT (n:=3) (z:=.agg #[Sb Sc 0,Sb Sc 0,Sb Sc 0]) (v:=.agg #[Sb Sc t.1,Sb Sc t.2.1,Sb Sc t.2.2]) R1 rfl R1 rfl R7 R5 R5 λh1 hle1 hs1 hb1=>?_;generalize hD:h.size=D at hb1 hs1;obtain⟨H,hH⟩ : ∃H:View,H=λk=>if k=D then h1[k]? else none:=⟨_,rfl⟩;have hHle : ∀h2:Heap,h2[D]? = h1[D]?->H.le (vw h2):=λh2 e k o hk=>by
  rw[hH]at hk;simp only at hk;split at hk
  ·rename_i e2;subst e2;show h2[_]? = _;rw[e];exact hk
  cases hk
 have hHD:H D=Se (.cells #[Sb Sc t.1,Sb Sc t.2.1,Sb Sc t.2.2] T.gA (0,0)):=by rw[hH];simp only[if_true];exact hb1
 have d0:ao H ⟨D,0,Sf⟩=Se (Sb Sc t.1):=du hHD rfl;have d1:ao H ⟨D,1,Sf⟩=Se (Sb Sc t.2.1):=du hHD rfl;have d2:ao H ⟨D,2,Sf⟩=Se (Sb Sc t.2.2):=du hHD rfl;refine aI H (hHle h1 rfl) ?_;simp[d0,d1,d2];refine eR (g:=a) (o:=0) (n:=1) (v:=Sb Sc t.1) R1 rfl rfl rfl R7 (hle1 _ _ ha) R3 λh2 hs2 ⟨row2,hr2,he2⟩ ho2=>?_;refine⟨hHle h2 (ho2 D R3),?_⟩;refine eR (g:=b) (o:=0) (n:=1) (v:=Sb Sc t.2.1) R1 rfl rfl rfl R7 ((ho2 b (Ne.symm hab)).trans (hle1 _ _ hb)) R3 λh3 hs3 ⟨row3,hr3,he3⟩ ho3=>?_;refine⟨hHle h3 ((ho3 D R3).trans (ho2 D R3)),?_⟩;refine eR (g:=c) (o:=0) (n:=1) (v:=Sb Sc t.2.2) R1 rfl rfl rfl R7 ((ho3 c (Ne.symm hbc)).trans ((ho2 c (Ne.symm hac)).trans (hle1 _ _ hc))) R3 λh4 hs4 ⟨row4,hr4,he4⟩ ho4=>?_;have one : ∀{row r:Array Value} {v:Value},v.cells = #[v]->r.size=1->row.toList=r.toList.take 0++v.cells.toList++r.toList.drop (0+1)->row = #[v]:=by intro row r v hv hr he;rw[<-Array.toList_inj,he,hv,QC,OZ,O6 (by simp[hr])];simp
 rw[one rfl sa he2]at hr2;rw[one rfl sb he3]at hr3;rw[one rfl sc he4]at hr4;refine⟨?_,?_,hr4,by omega,λk hk h1' h2' h3'=>?_⟩
 ·rw[ho4 a hac,ho3 a hab];exact hr2
 ·rw[ho4 b hbc];exact hr3
 rw[ho4 k h3',ho3 k h2',ho2 k h1'];exact(hle1 k h[k] (OV R3)).trans (OV R3).symm
theorem Dq{a b c:Nat}{h:Heap}:td Sn 67 #[Si (Se ⟨a,0,Sf⟩),Si (Se ⟨b,0,Sf⟩),Si (Se ⟨c,0,Sf⟩)] .returning h (λu' h'=>u' = .returning/\h'=h):=by refine qM (args:=[Si (Se ⟨a,0,Sf⟩),Si (Se ⟨b,0,Sf⟩),Si (Se ⟨c,0,Sf⟩)]) (t:=6) (L:=L.fS.body.tail) (tys:=#[]) follows Tryz.func67 Q.fS R1 R1 R1 S0 E.qT R1 R1 S0 ?_;have hrec:kE .returning=(.nilIface,.returning):=rfl;rw[hrec];simp[L.fS,LC.tail];refine CY (ms:=#[]) R1 rfl (.inl ⟨rfl,rfl⟩) ?_;simp
def manyN (f:aq) (k:Nat):Int:=up (λi n=>n+(((nth f.blocks i).phis.length:Int)+(nth f.blocks i).ins.length)) k f.blocks.length
def EZ (f:aq):Int:=manyN f f.blocks.length
def rX (g:Gr):List Int:=(zZ g (g.length*g.length+1)).getD []
def Ac (f:aq):Except Tr MW->Except Tr Unit
 | .error t=>.error t
 | .ok m=>uu f m (rX (ofG f.blocks))
def mZ (f:aq):Except Tr Unit:=
 if cI f.params 0 4=Sk then .error (1,0,0)
 else if f.blocks.length=0 then .error (14,0,0)
 else if ¬(f.blocks.length<=512/\EZ f<=4096) then .error (2,0,0)
 else Ac f (nD f (λ_=>Sf))
def lP (f:aq):Tr:=match mZ f with
 | .ok _=>(0,0,0)
 | .error t=>t
theorem Jr{f:aq}{k:Nat}:0<=manyN f k:=by
 unfold manyN;induction k with
 | zero=>simp[up]
 | succ k ih=>rw[up];omega
theorem Ir{f:aq}{m m':MW}(h:nD f m = .ok m'): ∀i,i<f.blocks.length->(nth f.blocks i).term.to.length<=65:=by
 intro i hi;have key : ∀n,n<=f.blocks.length->∃s,upE (blkS f) n m = .ok s:=λn hn=>by
  cases e:upE (blkS f) n m with
  | ok s=>exact⟨s,rfl⟩
  | error t=>rw[nD,Ak hn e]at h;cases h
 obtain⟨s,hs⟩:=key i R3;obtain⟨s',hs'⟩:=key (i+1) hi;rw[jF hs,blkS]at hs';split at hs'
 ·cases hs'
 split at hs'
 ·cases hs'
 rw[endS]at hs';split at hs'
 ·rename_i hok;rw[qQ]at hok;split at hok
  ·rename_i sh hsh;simp only[cI,OA,decide_eq_true_eq]at hok;have:sh.2.2.2<=65:=by
    simp only[gE,putM]at hsh;repeat' (split at hsh)
    all_goals first | (cases hsh;done) | (cases hsh;decide)
   omega
  cases hok
 cases hs'
end
section
open Go Go.Lft
theorem Ij{g:Gr}(hg:0<g.length):zZ g (g.length*g.length+1)=Se (rX g):=by obtain⟨_,_,l,hl,_⟩:=zv hg;rw[rX,hl];rfl
theorem one_cell{row r:Array Value}{v:Value}(hv:v.cells = #[v])(hr:r.size=1)(he:row.toList=r.toList.take 0++v.cells.toList++r.toList.drop (0+1)):row = #[v]:=by rw[<-Array.toList_inj,he,hv,QC,OZ,O6 (by simp[hr])];simp
structure SmB (x:BlkD):Prop where
 phis:x.phis.length<=10000
 ins:x.ins.length<=10000
 args:x.term.args.length<=10000
 to:x.term.to.length<=10000
 phi : ∀i,i<x.phis.length->(nth x.phis i).ins.length<=10000
 inn : ∀i,i<x.ins.length->(nth x.ins i).args.length<=10000
structure SmF (f:aq):Prop where
 len:f.blocks.length<=10000
 blk : ∀i,i<f.blocks.length->SmB (nth f.blocks i)
theorem J2{f:aq}{v:Value}{h:Heap}(hv:Rd (vw h) v f)(hsm:SmF f):
  aA Sn 44 #[v] h (λu h'=>u = .tuple #[Sb Sc (lP f).1,Sb Sc (lP f).2.1,Sb Sc (lP f).2.2]/\(vw h).le (vw h')):=by
 refine rS (args:=[v]) (g:=67) (t:=9) (capops:=#[.tmp 2,.tmp 3,.tmp 4]) (tys:=#[])
  (Mid:=λρ hh=>ρ=[(0,v),(1,Si (Se ⟨h.size,0,Sf⟩)),(2,Si (Se ⟨h.size+1,0,Sf⟩)),(3,Si (Se ⟨h.size+2,0,Sf⟩)),(4,Si (Se ⟨h.size+3,0,Sf⟩))]/\hh.size=h.size+4/\(vw h).le (vw hh)/\At (vw hh) ⟨h.size,0,Sf⟩ f/\
   hh[h.size+1]? = Se (.cells #[Sb Sc 0] T.pg (0,0))/\hh[h.size+2]? = Se (.cells #[Sb Sc 0] T.int (0,0))/\hh[h.size+3]? = Se (.cells #[Sb Sc 0] T.int (0,0)))
  follows Tryz.func44 B.nw R1 R1 R1 R1 R1 R1 S0 R1 E.lI R1 E.iC R1 R.yP S0 ?_ ?_
 ·simp[L.lI];refine gp rfl hv λh1 e1 hle1 hs1 hat=>?_;refine db (z:=Sb Sc 0) R1 ?_;refine db (z:=Sb Sc 0) R1 ?_;refine db (z:=Sb Sc 0) R1 ?_;have q1:=bC h1 (.cells (Sb Sc 0).cells T.pg);generalize e2:h1.push (.cells (Sb Sc 0).cells T.pg)=h2 at q1;have b2:h2[h1.size]? = Se (.cells #[Sb Sc 0] T.pg (0,0)):=by rw[<-e2];simp
  have s2:h2.size=h1.size+1:=by rw[<-e2];simp
  have q2:=bC h2 (.cells (Sb Sc 0).cells T.int);generalize e3:h2.push (.cells (Sb Sc 0).cells T.int)=h3 at q2;have b3:h3[h2.size]? = Se (.cells #[Sb Sc 0] T.int (0,0)):=by rw[<-e3];simp
  have s3:h3.size=h2.size+1:=by rw[<-e3];simp
  have q3:=bC h3 (.cells (Sb Sc 0).cells T.int);generalize e4:h3.push (.cells (Sb Sc 0).cells T.int)=h4 at q3;have b4:h4[h3.size]? = Se (.cells #[Sb Sc 0] T.int (0,0)):=by rw[<-e4];simp
  have s4:h4.size=h3.size+1:=by rw[<-e4];simp
  have hsz:h1.size=h.size+1:=hs1;have e22:h2.size=h.size+2:=by omega
  have e32:h3.size=h.size+3:=by omega
  rw[hsz]at b2;rw[e22]at b3;rw[e32]at b4;rw[e22,e32,hsz];simp;exact⟨by omega,S3 hle1 (S3 q1 (S3 q2 q3)),hat.mono (S3 q1 (S3 q2 q3)),q3 _ _ (q2 _ _ b2),q3 _ _ b3,b4⟩
 rintro ρ hh ⟨rfl,hs,hle,hat,hb1,hb2,hb3⟩;refine⟨[Si (Se ⟨h.size+1,0,Sf⟩),Si (Se ⟨h.size+2,0,Sf⟩),Si (Se ⟨h.size+3,0,Sf⟩)],by simp[tT],
  ⟨λch h2=>∃t,mZ f = .error t/\ch=trV t/\(vw hh).le (vw h2),λρ=>Lft.look ρ 2=Se (Si (Se ⟨h.size+1,0,Sf⟩))/\Lft.look ρ 3=Se (Si (Se ⟨h.size+2,0,Sf⟩))/\Lft.look ρ 4=Se (Si (Se ⟨h.size+3,0,Sf⟩))⟩,?_,?_⟩;rotate_left
 ·rintro ch ρ2 h2 ⟨t,ht,rfl,hle2⟩ ⟨l2,l3,l4⟩;refine⟨_,IP (hle2 _ _ hb1) (hle2 _ _ hb2) (hle2 _ _ hb3) rfl rfl rfl R3 R3 R3,?_⟩;rintro u' h3 ⟨rfl,g1,g2,g3,gs,go⟩;have c1:ao (vw h3) ⟨h.size+1,0,Sf⟩=Se (Sb Sc t.1):=du (show vw h3 _=_ from g1) rfl;have c2:ao (vw h3) ⟨h.size+2,0,Sf⟩=Se (Sb Sc t.2.1):=du (show vw h3 _=_ from g2) rfl;have c3:ao (vw h3) ⟨h.size+3,0,Sf⟩=Se (Sb Sc t.2.2):=du (show vw h3 _=_ from g3) rfl;refine⟨rfl,[Sb Sc t.1,Sb Sc t.2.1,Sb Sc t.2.2],by simp[R.nw,l2,l3,l4,c1,c2,c3],?_⟩;refine⟨by simp[lP,ht],λb o hb=>?_⟩;have hlt:=View.lt (View.le_refl (vw h)) hb;show h3[b]? = _;have hb2':=hle2 _ _ (hle _ _ hb);have hlt2:=View.lt (View.le_refl (vw h2)) hb2';rw[go b hlt2 R3 R3 R3];exact hb2'
 obtain⟨cp,vb,cb⟩:=gP hat;have hbb:=cb.2.bound;have bad : ∀{t:Tr} {ch:List PanicEntry} {h2:Heap},mZ f = .error t->ch=trV t->(vw hh).le (vw h2)->∃t,mZ f = .error t/\ch=trV t/\(vw hh).le (vw h2):=λa b c=>⟨_,a,b,c⟩;simp only[nM,Gk];dsimp only[L.iC,lkF,lkG];refine aa λz hz=>?_;simp[cp];refine aj R1 lB ?_;rintro _ _ ⟨rfl,rfl⟩;refine ez R1 iL ?_ ?_;rotate_left
 ·rintro _ _ ⟨e,rfl,rfl⟩;exact⟨.inl rfl,bad (by rw[mZ,if_pos e]) rfl S2⟩
 rintro _ hh ⟨e1,rfl⟩;have e1':¬cI f.params 0 4=false:=by rw[e1];simp
 subst hz;refine aa λz hz=>?_;simp[cb.1,cb.2.len];refine ez R1 iL ?_ ?_;rotate_left
 ·rintro _ _ ⟨e,rfl,rfl⟩;exact⟨.inl rfl,bad (by rw[mZ,if_neg e1',if_pos (by simpa using e)]) rfl S2⟩
 rintro _ hh ⟨e2,rfl⟩;have e2':¬f.blocks.length=0:=by intro e;rw[e]at e2;simp at e2
 subst hz;refine aa λz hz=>?_;simp[cb.1,cb.2.len];subst hz;refine aa λz hz=>?_;simp[cb.1,cb.2.len];refine aY [1,2,3,4,5,23,24,25] (fun(_:Unit) k=>[Si (Se ⟨h.size,0,Sf⟩),Si (Se ⟨h.size+1,0,Sf⟩),Si (Se ⟨h.size+2,0,Sf⟩),Si (Se ⟨h.size+3,0,Sf⟩),Sb Sc (manyN f k),vb,Sb Sc f.blocks.length,Sb Sc k])
  (λ_ k h1=>(vw hh).le (vw h1)/\manyN f k<=f.blocks.length+k*2000000) f.blocks.length ()
  rfl R3 rfl ⟨View.le_refl _,by simp[manyN,up]⟩ (λ_ _=>rfl) (λv i h1 hk m=>by simp) ?_ ?_
 ·rintro _ k h1 hlt ⟨hle1,hmk⟩ K2 hK2;have cb1:=cb.2.mono hle1;obtain⟨u,hu,hur⟩:=cb1.wh rfl (N:=6) rfl hlt;refine aa λy hy=>?_;simp(disch:=omega)[cb1.idxn (N:=6) rfl,hu _ S2];refine dB (z:=.agg #[Sg Sf 0 0,Sg Sf 0 0,Sb Sc 0,Sg Sf 0 0,Sg Sf 0 0,Sb Sd 0]) R1 rfl R1 hur R5 R5 λh2 hle2 hsz2 hat2=>?_;obtain⟨vp,vi,va,vt,bp,bi,_⟩:=jr (hat2 (vw h2) hle2 rfl);have bph:=bp.2.bound;have bih:=bi.2.bound;have hm1:manyN f (k+1)=manyN f k+(((nth f.blocks k).phis.length:Int)+(nth f.blocks k).ins.length):=rfl;have h0:=Jr (f:=f) (k:=k);subst hy;simp[bp.1,bp.2.len,bi.1,bi.2.len];have s1:=(hsm.blk k hlt).phis;have s2:=(hsm.blk k hlt).ins;have s0:=hsm.len;rw[bj (a:=((nth f.blocks k).phis.length:Int)+(nth f.blocks k).ins.length) R3 R3,bj R3 R3];exact hK2 () _ _ rfl (by rw[hm1];rfl) ⟨S3 hle1 hle2,by rw[hm1];omega⟩
 rintro _ h1 ⟨hle1,hmk⟩;simp;subst hz;refine aa λz hz=>?_;have cb1:=cb.2.mono hle1;have cc1:=ae hle1 cb.1;have cp1:=ae hle1 cp;simp[cc1,cb1.len];have hms:manyN f f.blocks.length=EZ f:=rfl;rw[hms];refine ez R1 iL ?_ ?_;rotate_left
 ·rintro _ _ ⟨e,rfl,rfl⟩;refine⟨.inl rfl,bad ?_ rfl hle1⟩;rw[mZ,if_neg e1',if_neg e2',if_pos];intro e3;simp at e;omega
 rintro _ h1 ⟨e3,rfl⟩;have e3':¬¬(f.blocks.length<=512/\EZ f<=4096):=by simp at e3;omega
 have hchk:mZ f=Ac f (nD f (λ_=>Sf)):=by rw[mZ,if_neg e1',if_neg e2',if_neg e3']
 subst hz;refine aa λz hz=>?_;simp[IV cp1 cc1];refine nN ?_;have hle2:=bC h1 (.map #[] 0);have hm2:ee (.int .i64) (h1.push (.map #[] 0)) h1.size (mapE encW λ_=>Sf):=by rw[rM];exact ee.none Sa
 have hs2:(h1.push (.map #[] 0)).size=h1.size+1:=by simp
 generalize h1.push (.map #[] 0)=h2 at hle2 hm2 hs2;refine an (z:=.agg #[Sb Sc 0,Sg Sf 0 0,.map Sf]) (places:=[(0,2),(2,1)]) (vs:=[(0,.agg #[Sb Sc f.params,vb]),(1,.map (Se h1.size))]) (cs:=#[Sb Sc f.params,vb,.map (Se h1.size)]) R1 R1 Sa R1 ?_;refine cr (v:=.agg #[Sb Sc f.params,vb,.map (Se h1.size)]) rfl ?_;have hle3:=bC h2 (.cells (Value.cells (.agg #[Sb Sc f.params,vb,.map (Se h1.size)])) T.jj);have hbk:(h2.push (.cells (Value.cells (.agg #[Sb Sc f.params,vb,.map (Se h1.size)])) T.jj))[h2.size]? = Se (.cells #[Sb Sc f.params,vb,.map (Se h1.size)] T.jj (0,0)):=by simp
 have hs3:(h2.push (.cells (Value.cells (.agg #[Sb Sc f.params,vb,.map (Se h1.size)])) T.jj)).size=h2.size+1:=by simp
 generalize h2.push (.cells (Value.cells (.agg #[Sb Sc f.params,vb,.map (Se h1.size)])) T.jj)=h3 at hle3 hbk hs3;subst hz;have hsk:skip h1.size h3 h2.size=Se (.cells #[Sb Sc f.params,vb,.map (Se h1.size)] T.jj (0,0)):=by rw[mY R3];exact hbk
 have hle13:=S3 hle2 hle3;have hle1k:(vw h1).le (skip h1.size h3):=λb o hb=>by have hlt:=View.lt (View.le_refl (vw h1)) hb;rw[mY R3];exact hle13 b o hb
 have k3:Lk h3 h2.size h1.size vb f (λ_=>Sf):=⟨du hsk rfl,du hsk rfl,du hsk rfl,cb1.mono hle1k,hm2.ext hle3⟩;generalize h2.size=Kb at k3;generalize hr:h1.size=r at k3;have hkk : ∀{h':Heap},Kept h3 h' (Se r)->(vw hh).le (vw h'):=λkp b o hb=>by have h1b:=hle1 b o hb;have hlt:=View.lt (View.le_refl (vw h1)) h1b;have h3b:=hle13 b o h1b;have hlt3:=View.lt (View.le_refl (vw h3)) h3b;show _=_;exact(kp.block b hlt3 R9).trans h3b
 refine aa λz hz=>?_;simp;refine ez R1 (Ie k3) ?_ ?_;rotate_left
 ·rintro _ h4 ⟨t,ht,rfl,kp4⟩;exact⟨.inl rfl,bad (by rw[hchk,ht];rfl) rfl (hkk kp4)⟩
 rintro _ h4 ⟨m4,hm4,k4,kp4⟩;have hto:=Ir hm4;rw[hm4]at hchk;have hchk:mZ f=uu f m4 (rX (ofG f.blocks)):=hchk;subst hz;refine aa λz hz=>?_;simp;have hgl:(ofG f.blocks).length=f.blocks.length:=by simp[ofG]
 refine ez R1 (Ka k4 (OX hsm.len R4) (λi hi=>OX (hto i hi) R4) (Ij R3)) ?_ ?_;rotate_left
 ·rintro _ h5 ⟨t,ht,rfl,hle5⟩;exact⟨.inl rfl,bad (by rw[hchk,ht]) rfl (S3 (hkk kp4) hle5)⟩
 rintro _ h5 ⟨hus,hle5⟩;have hle05:=S3 (hkk kp4) hle5;subst hz;simp;refine eR (g:=h.size+1) (o:=0) (n:=1) (v:=Sb Sc 0) R1 rfl rfl rfl R7 (hle05 _ _ hb1) Sa λh6 hs6 ⟨row6,hr6,he6⟩ ho6=>?_;refine eR (g:=h.size+2) (o:=0) (n:=1) (v:=Sb Sc 0) R1 rfl rfl rfl R7 ((ho6 _ R3).trans (hle05 _ _ hb2)) Sa λh7 hs7 ⟨row7,hr7,he7⟩ ho7=>?_;refine eR (g:=h.size+3) (o:=0) (n:=1) (v:=Sb Sc 0) R1 rfl rfl rfl R7 ((ho7 _ R3).trans ((ho6 _ R3).trans (hle05 _ _ hb3))) Sa λh8 hs8 ⟨row8,hr8,he8⟩ ho8=>?_;rw[one_cell rfl rfl he6]at hr6;rw[one_cell rfl rfl he7]at hr7;rw[one_cell rfl rfl he8]at hr8;refine⟨_,Dq,?_⟩;rintro u' h9 ⟨rfl,rfl⟩;have c1:ao (vw h9) ⟨h.size+1,0,Sf⟩=Se (Sb Sc 0):=du (show vw h9 _=_ from(ho8 _ R3).trans ((ho7 _ R3).trans hr6)) rfl;have c2:ao (vw h9) ⟨h.size+2,0,Sf⟩=Se (Sb Sc 0):=du (show vw h9 _=_ from(ho8 _ R3).trans hr7) rfl;have c3:ao (vw h9) ⟨h.size+3,0,Sf⟩=Se (Sb Sc 0):=du (show vw h9 _=_ from hr8) rfl;refine⟨rfl,[Sb Sc 0,Sb Sc 0,Sb Sc 0],by simp[R.nw,c1,c2,c3],?_⟩;have htold:lP f=(0,0,0):=by rw[lP,hchk,hus]
 refine⟨by simp[htold],λb o hb=>?_⟩;have hlt:=View.lt (View.le_refl (vw h)) hb;show h9[b]? = _;rw[ho8 b R3,ho7 b R3,ho6 b R3];exact hle05 _ _ (hle _ _ hb)
theorem yk{f:aq}{v:Value}{h:Heap}(hv:Rd (vw h) v f)(hsm:SmF f):
  aA Sn 27 #[v] h (λu h'=>u = .bool (decide ((lP f).1=0))/\(vw h).le (vw h')):=by refine au (args:=[v]) follows Tryz.func27 E.oz S0 λK hK=>?_;simp[L.oz];refine gp rfl hv λh1 e1 hle1 hs1 hat=>?_;obtain⟨u,hu,hur⟩:=hat.aT rfl;have hu':Un.ev (vw h1) (.aT 2) (Si (Se ⟨h.size,0,Sf⟩))=Se u:=hu;simp[hu'];refine aj R1 (J2 hur hsm) ?_;rintro _ h2 ⟨rfl,hle2⟩;simp;exact hK _ _ ⟨rfl,S3 hle1 hle2⟩
end
end Go.Proofs.YtnfiilgdjpdlkaaGreatDoor
