/- A part of the proof: Wk, Wl, Wm, Wn, Wo, Wq, Wr, Ws, Wt, Ha, Hb, Hc, Pa, Pb, Pd, Pc, Pe, Pf, Pg, Ph, Hd, He, Hf, Hg. -/
import Derived.Test.YtnfiilgdjpdlkaaGreatDoorZTRaw1
set_option linter.unusedSimpArgs false
set_option linter.unusedVariables false
open Go.Value renaming int->RG,slice->RL,pointer->RM
open Go.IntKind renaming i64->RH,i32->RI
open Option renaming some->RJ,none->RK
open Bool renaming true->RN,false->RO
open Go.Proofs.Tryz renaming prog->RP
namespace Go.Proofs.YtnfiilgdjpdlkaaGreatDoor
open Go Go.Lft
def I64 (x:Int):Prop:=-9223372036854775808<=x/\x<=9223372036854775807
variable{W:View}
theorem rE{h:Heap}{e:TypeId}{v:Value}{l:List Int}:OwnT W h e v l↔l.length<=140737488355328/\(∀x∈l,I64 x)/\((v = RL RK 0 0/\l=[])\/
  ∃g cap cur,v = RL (RJ ⟨g,0,RK⟩) l.length cap/\h[g]? = RJ (.cells cur e (0,0))/\l.length<=cap/\cap<=maxLen/\cur.size=cap/\cur.toList.take l.length=l.map (.int .i64)):=by
 have hn:Rep.n Int=1:=rfl;constructor
 ·rintro⟨hb,xs,⟨hl,hown⟩,hel⟩;rw[hn,OR]at hl;have hel' : ∀(i:Nat) (hi:i<l.length),xs[i]? = RJ (RG RH l[i])/\I64 l[i]:=λi hi=>by
   obtain⟨h1,h2⟩:=hel i hi;rw[hn,OR]at h1;have:(xs.drop i).take 1=[RG RH l[i]]:=h1;have h3:((xs.drop i).take 1)[0]? = RJ (RG RH l[i]):=by rw[this];rfl
   rw[Pq,if_pos R4,PX]at h3;exact⟨by simpa using h3,h2⟩
  have hxs:xs=l.map (.int .i64):=by
   refine QH λi=>?_;rcases NQ i l.length with hi | hi
   ·rw[(hel' i hi).1];simp[hi]
   rw[ON R3,ON (by simpa using hi)]
  refine⟨hb,λx hx=>?_,?_⟩
  ·obtain⟨i,hi,rfl⟩:=N7 hx;exact(hel' i hi).2
  rcases hown with⟨rfl,h0⟩ | ⟨g,cap,cur,rfl,hg,h1,h2,h3,h4⟩
  ·exact .inl ⟨rfl,N3 h0⟩
  rw[hn,OR]at h3 h4;exact .inr ⟨g,cap,cur,rfl,hg,h1,h2,h3,by rw[h4,hxs]⟩
 rintro⟨hb,hr,hown⟩;refine⟨hb,l.map (.int .i64),⟨by rw[hn];simp,?_⟩,λi hi=>?_⟩
 ·rcases hown with⟨rfl,rfl⟩ | ⟨g,cap,cur,rfl,hg,h1,h2,h3,h4⟩
  ·exact .inl ⟨rfl,rfl⟩
  exact .inr ⟨g,cap,cur,rfl,hg,h1,h2,by rw[hn,OR];exact h3,by rw[hn,OR];exact h4⟩
 rw[hn,OR];refine⟨?_,hr _ (O5 hi)⟩;refine QH λj=>?_;rw[Pq];rcases NQ j 1 with hj | hj
 ·have:j=0:=by omega
  subst this;simp[hi]
 rw[if_neg R3];simp;omega
theorem uJ{w:World}{g cap:Nat}{cur:Array Value}{e:TypeId}{l:List Int}(hg:w.heap[g]? = RJ (.cells cur e (0,0)))(h1:l.length<=cur.size)(h4:cur.toList.take l.length=l.map (.int .i64)):Go.Sort.Holds (RG .i64) w g 0 l.toArray:=by
 intro j hj;simp only[PM]at hj;have hc:cur[j]? = RJ (RG RH l[j]):=by have:=congrArg (λx:List Value=>x[j]?) h4;simp only[Pq,hj,if_true,PD]at this;simpa[hj]using this
 constructor
 ·simp[World.cell?,hg,hc,hj]
 simp[World.frozen?,hg]
variable{h':Heap}
theorem zV{w:World}{e:TypeId}{v:Value}{g cap:Nat}{cur:Array Value}{l d:List Int}(hv:v = RL (RJ ⟨g,0,RK⟩) l.length cap)(hg:w.heap[g]? = RJ (.cells cur e (0,0)))(h1:l.length<=cap)(h2:cap<=maxLen)(h3:cur.size=cap)(hd:d.length=l.length)(hb:l.length<=140737488355328)(hr : ∀x∈d,I64 x)(n:Nat)(os:Array Obj)(hh:h'=(Go.Sort.grow (Go.Sort.putRow (RG .i64) (Go.Sort.ahead w n) g 0 d.toArray) os).heap):
  OwnT W h' e v d/\Kept w.heap h' v.ownBlock:=by
 subst hv;have hlt:g<w.heap.size:=(NV.1 hg).1;have hcur:(Go.Sort.putCells (RG .i64) 0 d.toArray cur).toList.take d.length=d.map (.int .i64):=by
  refine QH λj=>?_;rw[Pq];split
  ·rename_i hj;have hjc:j<cur.size:=by omega
   simp[Go.Sort.putCells,hj,hjc]
  rename_i hj;exact(ON (by simpa using Nat.le_of_not_lt hj)).symm
 have hblk : ∀k,k<w.heap.size->h'[k]? = if g=k then(w.heap[k]?).map (Go.Sort.onCells (Go.Sort.putCells (RG .i64) 0 d.toArray)) else w.heap[k]?:=by intro k hk;subst hh;simp only[Go.Sort.grow,Go.Sort.putRow,Go.Sort.mapBlock,Go.Sort.ahead];rw[Q4 (by simpa using hk),QJ]
 have hsz:w.heap.size<=h'.size:=by subst hh;simp[Go.Sort.grow,Go.Sort.putRow,Go.Sort.mapBlock,Go.Sort.ahead]
 refine⟨rE.2 ⟨by omega,hr,.inr ⟨g,cap,Go.Sort.putCells (RG .i64) 0 d.toArray cur,by rw[hd],?_,by omega,h2,by simp[Go.Sort.putCells,h3],hcur⟩⟩,hsz,λk hk hne=>?_⟩
 ·rw[hblk g hlt,if_pos rfl,hg];rfl
 rw[hblk k hk,if_neg (λe=>hne (by simp[Value.ownBlock,e]))]
theorem sN(w:World)(n g:Nat)(d:Array Int)(os:Array Obj):Same w (Go.Sort.grow (Go.Sort.putRow (RG .i64) (Go.Sort.ahead w n) g 0 d) os):=
 ⟨rfl,rfl,rfl,by simp[Go.Sort.grow,Go.Sort.putRow,Go.Sort.mapBlock,Go.Sort.ahead],λb hb=>by
  have hlt:=(NV.1 hb).1;simp only[Go.Sort.grow,Go.Sort.putRow,Go.Sort.mapBlock,Go.Sort.ahead];rw[Q4 (by simpa using hlt),QJ];split
  ·rw[hb];rfl
  exact hb⟩
def qU (l:List Int):List Int:=l.mergeSort λx y=>decide (x<=y)
theorem JJ{h:Heap}{e:TypeId}{v:Value}{l:List Int}(o:OwnT W h e v l):az RP 148 #[v] h (λ_ h'=>OwnT W h' e v (qU l)/\Kept h h' v.ownBlock):=by
 rintro w rfl;obtain⟨hb,hr,hown⟩:=rE.1 o;have hlen:(qU l).length=l.length:=List.length_mergeSort _;have hr' : ∀x∈qU l,I64 x:=λx hx=>hr x (Q5.1 hx);rcases hown with⟨rfl,rfl⟩ | ⟨g,cap,cur,rfl,hg,h1,h2,h3,h4⟩
 ·refine(Tryz.slices_Sort_int_none RK 0 w).mono ?_;rintro e' w' ⟨rfl,rfl⟩;exact⟨_,rfl,⟨by simpa[qU]using o,Kept.refl _ _⟩,Same.refl _⟩
 refine(Tryz.slices_Sort_int g 0 cap l w (uJ (cap:=cap) hg R3 h4) (NV.1 hg).1 R3).mono ?_;rintro e' w' ⟨rfl,n,os,rfl⟩;exact⟨_,rfl,zV rfl hg h1 h2 h3 hlen hb hr' n os rfl,sN _ _ _ _ _⟩
variable{n:Nat}
theorem GR{h:Heap}{e:TypeId}{g cap:Nat}{l:List Int}(o:OwnT W h e (RL (RJ ⟨g,0,RK⟩) l.length cap) l)(hn:n<=l.length):OwnT W h e (RL (RJ ⟨g,0,RK⟩) n cap) (l.take n):=by
 obtain⟨hb,hr,hown⟩:=rE.1 o;have hl:(l.take n).length=n:=by simp;omega
 rcases hown with⟨hv,_⟩ | ⟨g',cap',cur,hv,hg,h1,h2,h3,h4⟩
 ·cases hv
 cases hv;refine rE.2 ⟨by omega,λx hx=>hr x (List.mem_of_mem_take hx),.inr ⟨g,cap,cur,by rw[hl],hg,by omega,h2,h3,?_⟩⟩;rw[hl,List.map_take,<-h4,Px,Pz hn]
theorem vX{l:List Int}:(Lib.compact l).length<=l.length:=by unfold Lib.compact Lib.compactUpTo;rw[Po];exact OD (List.length_filter_le _ _) Sa
theorem qh{l:List Int}{x:Int}(hx:x∈Lib.compact l):x∈l:=by unfold Lib.compact Lib.compactUpTo at hx;simp only[Pk,PZ,PC]at hx;obtain⟨i,⟨hi,_⟩,rfl⟩:=hx;simp[hi]
theorem CQ{h:Heap}{e:TypeId}{v:Value}{l:List Int}(o:OwnT W h e v l):az RP 149 #[v] h (λv' h'=>OwnT W h' e v' (Lib.compact l)/\lE h h' v v'):=by
 rintro w rfl;obtain⟨hb,hr,hown⟩:=rE.1 o;have hlen:=vX (l:=l);rcases hown with⟨rfl,rfl⟩ | ⟨g,cap,cur,rfl,hg,h1,h2,h3,h4⟩
 ·refine(Tryz.slices_Compact_int_empty RK 0 w).mono ?_;rintro e' w' ⟨rfl,rfl⟩;exact⟨_,rfl,⟨o,Kept.refl _ _,.inl rfl⟩,Same.refl _⟩
 refine(Tryz.slices_Compact_int g 0 cap l w (uJ (cap:=cap) hg R3 h4) R3 h1).mono ?_;rintro e' w' ⟨rfl,n,hw⟩;have hw':w'=Go.Sort.grow (Go.Sort.putRow (RG .i64) (Go.Sort.ahead w n) g 0 (Lib.compact l++List.replicate (l.length-(Lib.compact l).length) 0).toArray) #[]:=by rw[hw];simp
 have hdl:(Lib.compact l++List.replicate (l.length-(Lib.compact l).length) 0).length=l.length:=by simp;omega
 have hrd : ∀x∈(Lib.compact l++List.replicate (l.length-(Lib.compact l).length) (0:Int)),I64 x:=λx hx=>by
  rcases NU.1 hx with hx | hx
  ·exact hr x (qh hx)
  obtain⟨_,rfl⟩:=List.mem_replicate.1 hx;exact R6
 obtain⟨o2,k2⟩:=zV (W:=W) (h':=w'.heap) rfl hg h1 h2 h3 hdl hb hrd n #[] (by rw[hw']);have o3:=GR (n:=(Lib.compact l).length) (by rw[hdl];exact o2) Sa;rw[List.take_left'  rfl]at o3;exact⟨_,rfl,⟨o3,k2,.inl rfl⟩,by rw[hw'];exact sN _ _ _ _ _⟩
theorem Dr{h:Heap}{e:TypeId}{v:Value}{l:List Int}(o:OwnT W h e v l):az RP 143 #[v] h (λ_ h'=>OwnT W h' e v l.reverse/\Kept h h' v.ownBlock):=by
 rintro w rfl;obtain⟨hb,hr,hown⟩:=rE.1 o;rcases hown with⟨rfl,rfl⟩ | ⟨g,cap,cur,rfl,hg,h1,h2,h3,h4⟩
 ·refine(Tryz.slices_Reverse_int_empty RK 0 w).mono ?_;rintro e' w' ⟨rfl,rfl⟩;exact⟨_,rfl,⟨o,Kept.refl _ _⟩,Same.refl _⟩
 refine(Tryz.slices_Reverse_int g 0 cap l w (uJ (cap:=cap) hg R3 h4) R3).mono ?_;rintro e' w' ⟨rfl,n,hw⟩;have hw':w'=Go.Sort.grow (Go.Sort.putRow (RG .i64) (Go.Sort.ahead w n) g 0 l.reverse.toArray) #[]:=by rw[hw];simp
 exact⟨_,rfl,zV rfl hg h1 h2 h3 Sa hb (λx hx=>hr x (by simpa using hx)) n #[] (by rw[hw']),by rw[hw'];exact sN _ _ _ _ _⟩
def qg (row:List Int) (n:Int) (i:Nat):Bool:=decide (0<=nth row i)&&decide (nth row i<n)
def me (row:List Int) (n:Int):List Int:=Lib.compact (qU (sift (qg row n) (λi=>nth row i) row.length))
variable{row:List Int}
theorem EH{n:Int}{vr:Value}{h:Heap}(hr:SlRd (vw h) vr row)(hs:row.length<=1000000):
  az RP 140 #[vr,RG RH n] h (λv h'=>∃W,Mine nothing h h' W T.int v (me row n)):=by
 refine ao (args:=[vr,RG RH n]) follows Tryz.func140 E.fi RB λK hK=>?_;simp[L.fi,hr.len];refine aV [0,1,5,8,9,10] (fun(v:Value) k=>[vr,RG RH n,v,vr,RG RH row.length,RG RH k]) (λv k h1=>Mine nothing h h1 nothing T.int v (sift (qg row n) (λi=>nth row i) k)) row.length (RL RK 0 0)
  rfl R3 rfl (Mine.start (λ_ _ h=>by cases h)) (λ_ _=>rfl) (λv k h1 hk m=>by simp) ?_ ?_
 ·intro v k h1 hlt m K2 hK2;have hr1:=hr.mono m.old;have hrange:=hr.range hlt;have:=qy (p:=qg row n) (x:=λi=>nth row i) k;simp(disch:=omega)[hr1.idx1 rfl,hr1.int RD,kS,-Bool.and_eq_true,-Bool.and_eq_false_imp];refine⟨λhe=>?_,λhe=>hK2 v _ _ rfl rfl (by rw[nb (show qg row n k=RO from he)];exact m)⟩;refine m.push El.aQ (by simp<;>rfl) (pZ hrange.1 hrange.2) R3 R3 R5 R5 λu v' h3 m'=>hK2 v' _ _ rfl rfl (by rw[oI (show qg row n k=RN from he)];exact m')
 intro v h1 m;simp;refine ah R1 (JJ m.own) ?_;rintro _ h2 ⟨o2,k2⟩;have m2:=m.iH o2 ⟨k2,.inl rfl⟩;try simp
 refine ah R1 (CQ m2.own) ?_;rintro v3 h3 ⟨o3,k3⟩;have m3:=m2.iH o3 k3;try simp
 exact hK _ _ ⟨_,m3⟩
def dE (g:Gr):Gr:=rows (λa=>me (nth g a) g.length) g.length
def Sm (g:Gr):Prop:=g.length<=1000000/\∀i,i<g.length->(nth g i).length<=1000000
theorem G9{α:Type}[Rep α]:Rep.rd W (RL RK 0 0).cells.toList ([]:List α):=⟨RL RK 0 0,rfl,RK,0,rfl,by simp,by simp,.inl rfl⟩
variable{vg:Value}
theorem BQ{g:Gr}{h:Heap}(hg:SlRd (vw h) vg g)(hs:Sm g):
  az RP 141 #[vg] h (λv h'=>∃W,Mine nothing h h' W T.aQ v (dE g)):=by
 refine ao (args:=[vg]) follows Tryz.func141 E.eD RB λK hK=>?_;have hs1:=hs.1;simp[L.eD,hg.len];refine Mine.made (α:=List Int) (V:=nothing) (W:=nothing) (h0:=h) (n:=g.length) (d:=[]) El.kI RD (λ_ _ h=>by cases h) (Old.nothing _ _) (by simp<;>rfl) (by simp<;>rfl) G9 R3 R3 λv h1 m _ _=>?_;refine aV [0,3,9,10,11] (fun(_:View) k=>[vg,v,vg,RG RH g.length,RG RH k]) (λW k h2=>Mine nothing h h2 W T.aQ v (rows (λa=>me (nth g a) g.length) k++List.replicate (g.length-k) [])) g.length nothing
  rfl R3 rfl m (λ_ _=>rfl) (λv k h1 hk m=>by simp) ?_ ?_
 ·intro W a h2 hlta m K2 hK2;have hg2:=hg.mono m.old;obtain⟨rv,hrv⟩:=hg2.rows;obtain⟨cv,rr⟩:=hrv a hlta;have hl5:(rows (λa=>me (nth g a) g.length) a++List.replicate (g.length-a) ([]:List Int)).length=g.length:=by simp;omega
  simp(disch:=omega)[hg2.idx1 rfl,cv _ RD,hg.len];refine ah R1 (EH rr (hs.2 a hlta)) ?_;rintro r h3 ⟨W',mr⟩;have m3:=m.ext mr.old;have hr:=mr.fresh.mono (gu W _ _);simp(disch:=omega)[m3.now.idx1 rfl];refine m3.put1 (α:=List Int) (i:=a) R1 rfl Sa (by simp<;>rfl) R3 (eG.2 hr) λh4 m4=>hK2 (grow W h2 h3) _ _ rfl rfl ?_;rw[tx (x:=λa=>me (nth g a) g.length) hlta]at m4;exact m4
 intro W h2 m;simp at m;simp;exact hK _ _ ⟨_,m⟩
theorem xP{l:List Int}{x:Int}{v:Value}{h:Heap}{b:Addr}(hl:SlRd (vw h) v l)(hb:an (vw h) b=RJ v):
  az RP 146 #[RG RH x,RM (RJ b)] h (λu h'=>u = .bool (decide (0<=x)&&decide (x<l.length))/\h'=h):=by refine ao (args:=[RG RH x,RM (RJ b)]) follows Tryz.func146 E.iC RB λK hK=>?_;simp[L.iC,hb,hl.len];exact hK _ _ ⟨rfl,rfl⟩
variable{b:Int}
theorem zY{l:List Int}{a:Int}{v:Value}{h:Heap}(hl:SlRd (vw h) v l):
  az RP 123 #[v,RG RH a,RG RH b] h (λu h'=>u = .bool (eO l a b)/\(vw h).le (vw h')):=by
 refine ao (args:=[v,RG RH a,RG RH b]) follows Tryz.func123 E.dc RB λK hK=>?_;have bl:=hl.bound;simp[L.dc];refine cu (v:=v) Sa ?_;have hvc:v.cells = #[v]:=by obtain⟨_,_,rfl,_⟩:=hl;rfl
 rw[hvc];have hle:=bM h (.cells #[v] T.aQ);have hl:=hl.mono hle;have hb:an (vw (h.push (.cells #[v] T.aQ))) ⟨h.size,0,RK⟩=RJ v:=by simp[an,vw]
 generalize h.push (.cells #[v] T.aQ)=h1 at hle hl hb;generalize h.size=B at hb;refine bV (ops:=[.tmp 10]) rfl R1 (by simpa using xP (x:=a) hl hb) ?_;rintro _ _ ⟨rfl,rfl⟩;cases ha:decide (0<=a)&&decide (a<l.length)with
 | false=>
  have hsp:eO l a b=false:=by simp only[QK,decide_eq_false_iff_not]at ha;simp[eO];intros;omega
  rw[hsp]at hK;simp[grdP];exact hK _ _ ⟨rfl,hle⟩
 | true=>
  simp only[NS,decide_eq_true_eq]at ha;simp[grdP];refine bV (ops:=[.tmp 15]) rfl R1 (by simpa using xP (x:=b) hl hb) ?_;rintro _ _ ⟨rfl,rfl⟩;cases hbb:decide (0<=b)&&decide (b<l.length)with
  | false=>
   have hsp:eO l a b=false:=by simp only[QK,decide_eq_false_iff_not]at hbb;simp[eO];intros;omega
   rw[hsp]at hK;simp;exact hK _ _ ⟨rfl,hle⟩
  | true=>
   simp only[NS,decide_eq_true_eq]at hbb;have hsp:eO l a b=qv l a (l.length+1) b:=by simp[eO,ha,hbb]
   rw[hsp]at hK;simp(disch:=omega)[hb,hl.len];refine aV [1,2,3,6,7,21,22] (fun(c:Int) k=>[RG RH a,RG RH c,RM (RJ ⟨B,0,RK⟩),.bool RO,.func (.func 146) #[] #[RM (RJ ⟨B,0,RK⟩)],RG RH ((l.length:Int)+1),RG RH k])
    (λc k h2=>h2=_/\qv l a (l.length+1-k) c=qv l a (l.length+1) b) (l.length+1) b
    rfl R3 rfl ⟨rfl,rfl⟩ (λ_ _=>rfl) (λv k h1 hk m=>by simp) ?_ ?_
   ·rintro c k h2 hlt ⟨rfl,hch⟩ K2 hK2;have hfu:l.length+1-k=(l.length-k)+1:=by omega
    rw[hfu,qv]at hch;simp;refine⟨λhe=>hK _ _ ⟨by rw[<-hch,if_pos he.symm],hle⟩,λhe=>?_⟩;rw[if_neg (λe=>he e.symm)]at hch;refine bV (ops:=[.tmp 28]) rfl R1 (by simpa using xP (x:=c) hl hb) ?_;rintro _ _ ⟨rfl,rfl⟩;cases hc:decide (0<=c)&&decide (c<l.length)with
    | false=>simp only[QK,decide_eq_false_iff_not]at hc;simp;exact hK _ _ ⟨by rw[<-hch,if_pos R3],hle⟩
    | true=>simp only[NS,decide_eq_true_eq]at hc;rw[if_neg R3]at hch;simp(disch:=omega)[hb,hl.idx1 rfl,hl.int RD];refine hK2 (nth l c.toNat) _ _ rfl rfl ⟨rfl,?_⟩;rw[<-hch];congr 1;omega
   rintro c h2 ⟨rfl,hch⟩;rw[QG,qv]at hch;simp;exact hK _ _ ⟨by rw[<-hch],hle⟩
def lq (idom number:List Int):Nat->Int->Int->Option Int
 | 0,_,_=>RK
 | n+1,a,b=>
  if 0<=a/\a<number.length/\a<idom.length/\0<=b/\b<number.length/\b<idom.length then
   if nth number b.toNat<nth number a.toNat then lq idom number n (nth idom a.toNat) b
   else if nth number a.toNat<nth number b.toNat then lq idom number n a (nth idom b.toNat)
   else RJ a
  else RK
variable{number:List Int}
theorem zm{idom:List Int}{vi vn:Value}{h:Heap}{r:Int}(hi:SlRd (vw h) vi idom)(hn:SlRd (vw h) vn number){a:Int}(hc:lq idom number n a b=RJ r):
  az RP 145 #[vi,vn,RG RH a,RG RH b] h (λu h'=>u = RG RH r/\h'=h):=by
 refine ao (args:=[vi,vn,RG RH a,RG RH b]) follows Tryz.func145 E.dL RB λK hK=>?_;simp[L.dL];refine gY [0,1,2,3] (λm ρ h'=>∃(c d:Int),ρ=[(0,vi),(1,vn),(2,RG RH c),(3,RG RH d)]/\h'=h/\lq idom number m c d=RJ r) n ⟨a,b,rfl,rfl,hc⟩ ?_;rintro m ρ h' ⟨c,d,rfl,rfl,hc⟩ K2 hK2;cases m with
 | zero=>cases hc
 | succ m=>
  rw[lq]at hc;split at hc;case isFalse=>cases hc
  rename_i hr;obtain⟨r1,r2,r3,r4,r5,r6⟩:=hr;simp(disch:=omega)[L.dL.l1,hn.idx1 rfl,hn.int RD];refine⟨λh1=>?_,λh1=>?_⟩
  ·rw[if_pos h1]at hc;simp(disch:=omega)[hi.idx1 rfl,hi.int RD];exact hK2 m _ _ R3 ⟨_,_,rfl,rfl,hc⟩
  rw[if_neg R3]at hc;refine⟨λh2=>?_,λh2=>?_⟩
  ·rw[if_pos h2]at hc;simp(disch:=omega)[hi.idx1 rfl,hi.int RD];exact hK2 m _ _ R3 ⟨_,_,rfl,rfl,hc⟩
  rw[if_neg R3]at hc;cases hc;exact hK _ _ ⟨rfl,rfl⟩
structure Wo (W:View) (h:Heap) (B:Nat) (vt vl:Value) (s:List Bool × List Int):Prop where
 wle:W.le (vw h)
 box:h[B]? = RJ (.cells #[vl] T.aQ (0,0))
 wB:W B=RK
 avt:Av W vt
 avl:Av W vl
 nt:vt.ownBlock≠RJ B
 nl:vl.ownBlock≠RJ B
 ne:vl.ownBlock=RK\/vl.ownBlock≠vt.ownBlock
 ot:OwnT nothing h T.bool vt s.1
 ol:OwnT nothing h T.int vl s.2
 nn:vt.ownBlock=RK\/vt.ownBlock≠vl.ownBlock
theorem Wo.lt{W:View}{h:Heap}{B:Nat}{vt vl:Value}{s:List Bool × List Int}(k:Wo W h B vt vl s):B<h.size:=(NV.1 k.box).1
theorem Wo.ext {W:View} {h h':Heap} {B:Nat} {vt vl:Value} {s:List Bool × List Int} (k:Wo W h B vt vl s) (hle:(vw h).le (vw h')):Wo W h' B vt vl s:=
 {k with wle:=RE k.wle hle,box:=hle _ _ k.box,ot:=k.ot.ext hle,ol:=k.ol.ext hle }
variable{vt vl:Value}
theorem Wo.flag{h:Heap}{B:Nat}{s:List Bool × List Int}{t':List Bool}(k:Wo W h B vt vl s)(o:OwnT nothing h' T.bool vt t')(m:lE h h' vt vt):Wo W h' B vt vl (t',s.2):=
 {k with
  wle:=(m.view k.wle k.avt).1
  box:=by rw[m.kept.block B k.lt (λe=>k.nt e.symm)];exact k.box
  ot:=o
  ol:=k.ol.kept m.kept k.ne }
theorem Wo.LN{h h'':Heap}{B:Nat}{vl':Value}{s:List Bool × List Int}{l':List Int}(k:Wo W h B vt vl s)(o:OwnT nothing h' T.int vl' l')(m:lE h h' vl vl')(hsz:h''.size=h'.size)(hB:h''[B]? = RJ (.cells #[vl'] T.aQ (0,0)))(hoth : ∀j,j≠B->h''[j]? = h'[j]?):Wo W h'' B vt vl' (s.1,l'):=by
 obtain⟨hw',ha'⟩:=m.view k.wle k.avl;have hlt:=k.lt;have nl':vl'.ownBlock≠RJ B:=by
  rcases m.at_ with e | e
  ·rw[e];exact k.nl
  rw[e];intro e2;cases e2;omega
 have kep:Kept h' h'' (RJ B):=⟨by omega,λj _ hj=>hoth j (λe=>hj (by rw[e]))⟩;refine⟨λb x hb=>?_,hB,k.wB,k.avt,ha',k.nt,nl',?_,?_,?_,?_⟩
 ·have hne:b≠B:=λe=>by rw[e,k.wB]at hb;cases hb
  show h''[b]? = _;rw[hoth b hne];exact hw' b x hb
 ·rcases m.at_ with e | e
  ·rw[e];exact k.ne
  right;rw[e];intro e2;have:=k.ot.lt e2.symm;omega
 ·exact(k.ot.kept m.kept k.nn).kept kep (.inr k.nt)
 ·exact o.kept kep (.inr nl')
 rcases m.at_ with e | e
 ·rw[e];exact k.nn
 right;rw[e];intro e2;have:=k.ot.lt e2;omega
theorem Wo.cell{h:Heap}{B:Nat}{s:List Bool × List Int}(k:Wo W h B vt vl s):an (vw h) ⟨B,0,RK⟩=RJ vl:=by simp[an,vw,k.box]
def nx (rows:Gr) (a:Int):List Int:=nth rows a.toNat
theorem Bm {rows:Gr} {vr:Value} {Tp R O:Addr} {B:Nat} (hs:rows.length<=1000000) (hin : ∀i,i<rows.length->∀j,j<(nth rows i).length->0<=nth (nth rows i) j/\nth (nth rows i) j<rows.length) : ∀(n:Nat) {M:Nat} {W:View} {h:Heap} {vt vl:Value} {s:List Bool × List Int} {a:Int},Wo W h B vt vl s->SlRd W vr rows->
  an W Tp=RJ vt->an W R=RJ vr->an W O=RJ (.func (.func 142) #[] #[RM (RJ Tp),RM (RJ R),RM (RJ O),RM (RJ ⟨B,0,RK⟩)])->0<=a->a<rows.length->s.1.length=rows.length->nth s.1 a.toNat=RO->
  dH s.1<=n->s.2.length+dH s.1<=M->M<=1000000->
  az RP 142 #[RG RH a,RM (RJ Tp),RM (RJ R),RM (RJ O),RM (RJ ⟨B,0,RK⟩)] h (λ_ h'=>∃vl',Wo W h' B vt vl' (jZ (nx rows) n a s)/\(jZ (nx rows) n a s).2.length+dH (jZ (nx rows) n a s).1<=M)
 | 0,M,W,h,vt,vl,s,a,k,hg,hT,hR,hO,h0,h1,hl,hf,hc,hb,hM=>by exfalso;have:=jR (t:=s.1) (i:=a.toNat) R3 hf;omega
 | n+1,M,W,h,vt,vl,(t,l),a,k,hg,hT,hR,hO,h0,h1,hl,hf,hc,hb,hM=>by
  obtain⟨i,rfl⟩:=QC h0;simp only at hl hf hc hb;have hfs:=jR (t:=t) (i:=i) R3 (by simpa using hf);refine ao (args:=[RG RH i,RM (RJ Tp),RM (RJ R),RM (RJ O),RM (RJ ⟨B,0,RK⟩)]) follows Tryz.func142 E.dI RB λK hK=>?_;have hnow:SlRd (vw h) vt t:=k.ot.now (λ_ _ h=>by cases h);simp(disch:=omega)[L.dI,ae k.wle hT,hnow.idx1 rfl];refine sF (W:=nothing) (i:=i) (d:=true) R1 (by simp[show Rep.n Bool=1 from rfl]) (by simp<;>rfl) k.ot (by simpa using by omega) JB λh2 o2 m2=>?_;have k2:=k.flag o2 m2;have hg2:=hg.mono k2.wle;obtain⟨rv,hrv⟩:=hg.rows;obtain⟨cv,rr⟩:=hrv i R3;have br:=rr.bound;have hov:jZ (nx rows) (n+1) i (t,l)=((up (dd (nx rows) n i) (nx rows i).length (t.set i RN,l)).1,(up (dd (nx rows) n i) (nx rows i).length (t.set i RN,l)).2++[(i:Int)]):=kR;rw[hov]at hK;have hnx:nx rows i=nth rows i:=rfl;rw[hnx]at hK;simp(disch:=omega)[ae k2.wle hR,hg2.idx1 rfl,cv _ k2.wle,rr.len];refine aV [0,1,2,3,4,14,15,16] (fun(_:Value) j=>[RG RH i,RM (RJ Tp),RM (RJ R),RM (RJ O),RM (RJ ⟨B,0,RK⟩),rv i,RG RH (nth rows i).length,RG RH j]) (λvl j h4=>Wo W h4 B vt vl (up (dd (nx rows) n i) j (t.set i RN,l))/\(up (dd (nx rows) n i) j (t.set i RN,l)).2.length+dH (up (dd (nx rows) n i) j (t.set i RN,l)).1<=M-1) (nth rows i).length vl
   rfl R3 rfl ⟨k2,by simp[up];omega⟩ (λ_ _=>rfl) (λv j h4 hk m=>by simp) ?_ ?_
  ·rintro vl j h4 hltj ⟨k4,hb4⟩ K2 hK2;have hinv:=ug (λs:List Bool × List Int=>s.1.length=rows.length/\dH s.1<=n) (f:=dd (nx rows) n i) (λk x hx=>by
    unfold dd;split
    ·exact hx
    exact qx n _ x hx) j (t.set i RN,l) ⟨by simpa using hl,by simp only;omega⟩;generalize hx:up (dd (nx rows) n i) j (t.set i RN,l)=x at k4 hb4 hinv;obtain⟨e0,e1⟩:=hin i R3 j hltj;have hr4:=rr.mono k4.wle;have hnow4:=k4.ot.now (λ_ _ h=>by cases h);simp(disch:=omega)[ae k4.wle hT,hr4.idx1 rfl,hr4.int RD,hnow4.idx1 rfl,hnow4.bool RD,kS];refine⟨λhe=>?_,λhe=>hK2 vl _ _ rfl rfl ?_⟩
   ·simp[ae k4.wle hO];refine bV (ops:=[.tmp 26]) rfl R1 (by simpa using Bm hs hin n k4 hg hT hR hO e0 e1 hinv.1 he hinv.2 hb4 R3) ?_;rintro _ h5 ⟨⟨vl',k5⟩,hb5⟩;have hst:up (dd (nx rows) n i) (j+1) (t.set i RN,l)=jZ (nx rows) n (nth (nth rows i) j) x:=by rw[up,hx,dd,show nx rows i=nth rows i from rfl,he];rfl
    refine hK2 vl' _ _ rfl rfl ?_;rw[hst];exact⟨k5,hb5⟩
   have hst:up (dd (nx rows) n i) (j+1) (t.set i RN,l)=x:=by rw[up,hx,dd,show nx rows i=nth rows i from rfl,he];rfl
   rw[hst];exact⟨k4,hb4⟩
  rintro vl h4 ⟨k4,hb4⟩;generalize hx:up (dd (nx rows) n i) (nth rows i).length (t.set i RN,l)=x at k4 hb4 hK;simp[k4.cell];refine oh (α:=Int) (W:=nothing) El.aQ (by simp<;>rfl) (pZ R3 R3) λu h5 hsrc hle5 _=>?_;have k5:=k4.ext hle5;refine dU El.aQ Sa Sa k5.ol hsrc R9 R9 λvl' h6 o6 m6=>?_;have hB6:h6[B]? = RJ (.cells #[vl] T.aQ (0,0)):=by rw[m6.kept.block B k5.lt (λe=>k5.nl e.symm)];exact k5.box
  obtain⟨hcells,hone⟩:=mF o6;refine eJ (g:=B) (o:=0) (n:=1) (v:=vl') R1 Sa Sa (by rw[hcells];rfl) (by rw[hcells];simpa using hone) hB6 Sa λh7 hsz7 ⟨row,hrow,he⟩ hoth=>hK _ _ ⟨vl',?_,?_⟩
  ·have hrow2:row = #[vl']:=by rw[<-Array.toList_inj,he,hcells];rfl
   rw[hrow2]at hrow;exact k5.LN o6 m6 hsz7 hrow hoth
  simp;omega
def bD (g:Gr):List Int:=lZ (nx (dE g)) g.length
theorem iQ{g:Gr}:(dE g).length=g.length:=by simp[dE]
theorem uR{g:Gr}: ∀i,i<(dE g).length->∀j,j<(nth (dE g) i).length->0<=nth (nth (dE g) i) j/\nth (nth (dE g) i) j<(dE g).length:=by
 intro i hi j hj;rw[iQ]at hi;have hm:=bz hj;rw[dE,gG hi,me]at hm;have h2:=qh hm;rw[qU,Q5,rj]at h2;simp only[Pk,PZ,PC,qg,NS,decide_eq_true_eq]at h2;obtain⟨k,⟨_,h3⟩,h4⟩:=h2;rw[iQ];have e:nth (nth (dE g) i) j=nth (nth g i) k:=by rw[dE,gG hi,me,h4,qU,rj]
 rw[e];exact h3
theorem BD{g:Gr}{h:Heap}(hg:SlRd (vw h) vg g)(hs:Sm g):
  az RP 119 #[vg] h (λv h'=>(vw h).le (vw h')/\SlRd (fresh h h') v (bD g)):=by
 refine ao (args:=[vg]) follows Tryz.func119 E.nC RB λK hK=>?_;have hs1:=hs.1;simp[L.nC,hg.len];refine⟨λh0=>?_,λh0=>?_⟩
 ·exact hK _ _ ⟨View.le_refl _,⟨RK,0,by simp[bD,lZ,h0],by simp[bD,lZ,h0],by simp[bD,lZ,h0],.inl (by simp[bD,lZ,h0])⟩⟩
 refine ah R1 (BQ hg hs) ?_;rintro vr h1 ⟨W1,m1⟩;have hvr:=m1.now;obtain⟨hrc,hro⟩:=mF m1.own;refine uE (z:=RL RK 0 0) R1 rfl R1 hrc hro R5 R5 λh2 hle2 hsz2 hR2=>?_;refine mH (W:=nothing) (n:=g.length) (d:=false) El.lQ (by simp<;>rfl) (by simp<;>rfl) rfl R3 R3 λvt h3 o3 m3 hle3 hb3=>?_;obtain⟨htc,hto⟩:=mF o3;refine uE (z:=RL RK 0 0) R1 rfl R1 htc hto R5 R5 λh4 hle4 hsz4 hT4=>?_;refine cZ (z:=RL RK 0 0) R1 ?_;refine cZ (z:=.nilFunc) R1 ?_;have hsz3:h2.size<h3.size:=o3.lt hb3;have hle6:(vw h4).le (vw ((h4.push (.cells (RL RK 0 0).cells T.aQ)).push (.cells Value.nilFunc.cells T.CJ))):=RE (bM _ _) (bM _ _);refine eJ (g:=h4.size+1) (o:=0) (n:=1) (e:=T.CJ) (cur:=#[.nilFunc]) (v:=.func (.func 142) #[] #[RM (RJ ⟨h3.size,0,RK⟩),RM (RJ ⟨h1.size,0,RK⟩),RM (RJ ⟨h4.size+1,0,RK⟩),RM (RJ ⟨h4.size,0,RK⟩)]) R1 Sa Sa rfl R8 (by rw[show h4.size+1=(h4.push (.cells (RL RK 0 0).cells T.aQ)).size by simp];exact Qw) Sa λh7 hsz7 ⟨row,hrow,he⟩ hoth=>?_;have hrow2:row = #[.func (.func 142) #[] #[RM (RJ ⟨h3.size,0,RK⟩),RM (RJ ⟨h1.size,0,RK⟩),RM (RJ ⟨h4.size+1,0,RK⟩),RM (RJ ⟨h4.size,0,RK⟩)]]:=by rw[<-Array.toList_inj,he];rfl
 rw[hrow2]at hrow;have hle7:(vw h4).le (vw h7):=λb o hb=>by have hlt:=View.lt (View.le_refl (vw h4)) hb;show h7[b]? = _;rw[hoth b R3];exact hle6 b o hb
 have hL7:h7[h4.size]? = RJ (.cells #[RL RK 0 0] T.aQ (0,0)):=by rw[hoth _ R3,Array.getElem?_push,if_neg Sa,Qw];rfl
 have hle27:=RE hle3 (RE hle4 hle7);have hle17:=RE hle2 hle27;obtain⟨W,hW⟩ : ∃W:View,W=λb=>if b=h2.size\/b=h4.size then RK else h7[b]?:=⟨_,rfl⟩;have hWle:W.le (vw h7):=by
  intro b o hb;rw[hW]at hb;simp only at hb;split at hb
  ·cases hb
  exact hb
 have hW1:(vw h1).le W:=λb o hb=>by have hlt:=View.lt (View.le_refl (vw h1)) hb;rw[hW];simp only;rw[if_neg R3];exact hle17 b o hb
 have k7:Wo W h7 h4.size vt (RL RK 0 0) (List.replicate g.length RO,[]):=
  ⟨hWle,hL7,by rw[hW];simp,λb hb=>by rw[hb3]at hb;cases hb;rw[hW];simp,Av.nil _ _ _,by rw[hb3];intro e;simp only[NN]at e;omega,by simp[Value.ownBlock],.inl rfl,
   (o3.ext hle4).ext hle7,OwnT.nil ..,.inr (by rw[hb3];simp[Value.ownBlock])⟩
 have hT:an W ⟨h3.size,0,RK⟩=RJ vt:=by
  have h5:W h3.size=RJ (.cells #[vt] T.lQ (0,0)):=by rw[hW];simp only;rw[if_neg R3];exact hle7 _ _ hT4
  simp[an,h5]
 have hR:an W ⟨h1.size,0,RK⟩=RJ vr:=by
  have h5:W h1.size=RJ (.cells #[vr] T.kI (0,0)):=by rw[hW];simp only;rw[if_neg R3];exact hle27 _ _ hR2
  simp[an,h5]
 have hO:an W ⟨h4.size+1,0,RK⟩=RJ (.func (.func 142) #[] #[RM (RJ ⟨h3.size,0,RK⟩),RM (RJ ⟨h1.size,0,RK⟩),RM (RJ ⟨h4.size+1,0,RK⟩),RM (RJ ⟨h4.size,0,RK⟩)]):=by
  have h5:W (h4.size+1)=h7[h4.size+1]?:=by rw[hW];simp only;rw[if_neg R3]
  rw[hrow]at h5;simp[an,h5]
 have hvrW:=hvr.mono hW1;have hlen:g.length≠0:=by simpa using h0
 have hcl:=iQ (g:=g);have hfa:dH (List.replicate g.length RO)=g.length:=by simp[dH]
 simp[ae hWle hO];refine bV (ops:=[.const (RG RH 0)]) (f:=142) (caps:=#[RM (RJ ⟨h3.size,0,RK⟩),RM (RJ ⟨h1.size,0,RK⟩),RM (RJ ⟨h4.size+1,0,RK⟩),RM (RJ ⟨h4.size,0,RK⟩)]) Sa R1
  (by simpa using Bm R3 uR g.length (M:=g.length) k7 hvrW hT hR hO (a:=0) R3 R3 (by simp[hcl]) (by rw[aA R9];simp) (by rw[hfa];exact NO _) (by simp[hfa]) R3) ?_;rintro _ h8 ⟨⟨vl,k8⟩,hb8⟩;have hord:bD g=(jZ (nx (dE g)) g.length 0 (List.replicate g.length RO,[])).2.reverse:=by simp[bD,lZ,h0]
 rw[hord]at hK;generalize jZ (nx (dE g)) g.length 0 (List.replicate g.length RO,[])=s at k8 hb8 hK;simp[k8.cell];refine ah R1 (Dr k8.ol) ?_;rintro _ h9 ⟨o9,k9⟩;have hB9:h9[h4.size]? = RJ (.cells #[vl] T.aQ (0,0)):=by rw[k9.block _ k8.lt (λe=>k8.nl e.symm)];exact k8.box
 have hc9:an (vw h9) ⟨h4.size,0,RK⟩=RJ vl:=by simp[an,vw,hB9]
 have hW9:=k9.view k8.wle k8.avl;have hle9:(vw h).le (vw h9):=RE (RE m1.old hW1) hW9;have hav:Av (vw h) vl:=λb hb=>by
  cases hx:vw h b with
  | none=>rfl
  | some o=>have:=(RE m1.old hW1) _ _ hx;rw[k8.avl b hb]at this;cases this
 simp[hc9];exact hK _ _ ⟨hle9,o9.fresh (λ_ _ h=>by cases h) hav⟩
def kL (f:Nat->List Int) (n:Nat):List (Int × Int):=(List.range n).flatMap λa=>(f a).map λb=>((a:Int),b)
theorem jN{f:Nat->List Int}:kL f (n+1)=kL f n++(f n).map λb=>((n:Int),b):=by simp[kL,P2]
theorem FV{f:Nat->List Int}{m:Nat}(h:n<=m): ∃t,kL f m=kL f n++t:=by
 induction m with
 | zero=>exact⟨[],by simp[show n=0 by omega]⟩
 | succ m ih=>
  rcases NQ n (m+1)with h1 | h1
  ·obtain⟨t,ht⟩:=ih R3;exact⟨t++(f m).map λb=>((m:Int),b),by rw[jN,ht,N2]⟩
  exact⟨[],by simp[show n=m+1 by omega]⟩
theorem Fj{f:Nat->List Int}{a j:Nat}(ha:a<n)(hj:j<(f a).length):(kL f n)[(kL f a).length+j]? = RJ ((a:Int),nth (f a) j):=by obtain⟨t,ht⟩:=FV (f:=f) (n:=a+1) (m:=n) R3;rw[ht,jN,N2,Q6 R3,Rr,Q9 (by simpa using hj)];simp[aA hj,hj]
def jv (g:Gr):List (Int × Int):=kL (λa=>nth (dE g) a) g.length
def Hv (e:Int × Int):List Value:=[RG RH e.1,RG RH e.2]
def Ac (g:Gr):List (List Value):=(jv g).map Hv
theorem GK{h:Heap}:
  az RP 144 #[vg] h (λv h'=>v = .func (.func 150) #[] #[RM (RJ ⟨h.size,0,RK⟩)]/\h'=h.push (.cells vg.cells T.kI)):=by refine ao (args:=[vg]) follows Tryz.func144 E.nB RB λK hK=>?_;simp[L.nB];refine cu rfl ?_;simp;exact hK _ _ ⟨rfl,rfl⟩
theorem B0{g:Gr}{V:View}{p:Addr}(hg:SlRd V vg g)(hp:an V p=RJ vg)(hs:Sm g):Iter RP 150 [RM (RJ p)] V (Ac g):=by
 intro l J W h hM hV hVl h0 hround;have hW:=(hM RN 0).le h0;refine ao (args:=[.func (.yield l) #[] #[],RM (RJ p)]) follows Tryz.func150 E.cG RB λK hK=>?_;simp[L.cG,ae (RE hV hW) hp];refine ah R1 (BQ (hg.mono (RE hV hW)) hs) ?_;rintro vr h1 ⟨W1,m1⟩;have hJ1:=(hM RN 0).grown h0 (NO _) m1.old;have hr1:=m1.fresh.mono (gu W h h1);have hag : ∀b,b<h.size->grow W h h1 b=W b:=λb hb=>jo hb;generalize grow W h h1=W2 at hJ1 hr1 hag;have hlen:=hr1.bound;have hcl:=iQ (g:=g);obtain⟨rv,hrv⟩:=hr1.rows;simp[hr1.len];have hall : ∀{a j:Nat},a<(dE g).length->j<(nth (dE g) a).length->(Ac g)[(kL (λa=>nth (dE g) a) a).length+j]? = RJ [RG RH a,RG RH (nth (nth (dE g) a) j)]:=by intro a j ha hj;rw[Ac,PD,jv,Fj (f:=λa=>nth (dE g) a) R3 hj];rfl
 refine aV [0,8,9,10] (fun(_:Unit) k=>[.func (.yield l) #[] #[],vr,RG RH (dE g).length,RG RH k]) (λ_ k h2=>J RN (kL (λa=>nth (dE g) a) k).length W2 h2) (dE g).length ()
  rfl R3 rfl hJ1 (λ_ _=>rfl) (λv k h1 hk m=>by simp) ?_ ?_
 ·intro _ a h2 hlt hJ2 K2 hK2;have hW2:=(hM _ _).le hJ2;obtain⟨cv,rr⟩:=hrv a hlt;have br:=rr.bound;simp(disch:=omega)[hr1.idx1 rfl,cv _ hW2,rr.len];refine aV [0,8,9,10,3,15,16,17] (fun(_:Unit) j=>[.func (.yield l) #[] #[],vr,RG RH (dE g).length,RG RH a,RG RH a,rv a,RG RH (nth (dE g) a).length,RG RH j])
   (λ_ j h3=>J RN ((kL (λa=>nth (dE g) a) a).length+j) W2 h3) (nth (dE g) a).length () rfl R3 rfl hJ2 (λ_ _=>rfl) (λv k h1 hk m=>by simp) ?_ ?_
  ·intro _ j h3 hlt3 hJ3 K3 hK3;have hW3:=(hM _ _).le hJ3;simp(disch:=omega)[rr.idx1 rfl,rr.int hW3];refine Ix (ops:=[.tmp 22,.tmp 23]) rfl (by simpa using hround _ _ W2 h3 hag (hall hlt hlt3) hJ3) ?_;rintro b h4 ⟨W4,e1,e2,hJ4⟩;cases b with
   | true=>obtain rfl:=e2 rfl;simp[kS];exact hK3 () _ _ rfl rfl hJ4
   | false=>simp[kS];exact hK _ _ ⟨RO,_,W4,λi hi hne=>by rw[e1 i hne,hag i hi],hJ4,λh=>by cases h⟩
  intro _ h3 hJ3;simp;refine hK2 () _ _ rfl rfl ?_;rw[jN,N1,Po];exact hJ3
 intro _ h2 hJ2;simp;refine hK _ _ ⟨RN,_,W2,λi hi _=>hag i hi,hJ2,λ_=>?_⟩;rw[Ac,Po,jv,hcl]
def fA (p:Gr) (e:Int × Int):Gr:=p.set e.2.toNat (nth p e.2.toNat++[e.1])
def dN (g:Gr):Gr:=(jv g).foldl fA (List.replicate g.length [])
theorem wF{β γ:Type}{f:β->γ->β}{l:List γ}{k:Nat}{x:γ}{b:β}(h:l[k]? = RJ x):(l.take (k+1)).foldl f b=f ((l.take k).foldl f b) x:=by rw[Rn,h,O8];rfl
theorem rF{g:Gr}{e:Int × Int}(h:e∈jv g):(0<=e.1/\e.1<g.length)/\0<=e.2/\e.2<g.length:=by simp only[jv,kL,List.mem_flatMap,PC,Pk]at h;obtain⟨a,ha,b,hb,rfl⟩:=h;obtain⟨j,hj,rfl⟩:=N7 hb;have:=uR a (by rw[iQ];exact ha) j hj;rw[iQ,aA hj]at this;exact⟨⟨by omega,by simp only;omega⟩,this⟩
theorem pk{l:List (Int × Int)}{p:Gr}:(l.foldl fA p).length=p.length:=by
 induction l generalizing p with
 | nil=>rfl
 | cons e l ih=>rw[N8,ih];simp[fA]
theorem Br{l:List (Int × Int)}{p:Gr}{i m:Nat}(hp:(nth p i).length<=m):(nth (l.foldl fA p) i).length<=m+l.length:=by
 induction l generalizing p m with
 | nil=>exact hp
 | cons e l ih=>
  rw[N8];have:=ih (p:=fA p e) (m:=m+1) ?_
  ·simp only[OX];omega
  unfold fA;rcases NQ i p.length with hi | hi
  ·rw[bN hi];split
   ·rename_i h;rw[h];simp;omega
   omega
  rw[dp (by simpa using hi)];simp[default]
theorem yK{n:Int}:(me row n).length<=row.length:=by have h1:=qy (p:=qg row n) (x:=λi=>nth row i) row.length;have h2:(qU (sift (qg row n) (λi=>nth row i) row.length)).length=(sift (qg row n) (λi=>nth row i) row.length).length:=List.length_mergeSort _;have h3:=vX (l:=qU (sift (qg row n) (λi=>nth row i) row.length));rw[me];omega
theorem E4{f:Nat->List Int}{m:Nat}(h : ∀a,a<n->(f a).length<=m):(kL f n).length<=n*m:=by
 induction n with
 | zero=>simp[kL]
 | succ n ih=>have:=ih λa ha=>h a R3;have:=h n R3;rw[jN,N1,Po,OZ];omega
theorem C8{g:Gr}(hs:Sm g):(jv g).length<=1000000000000:=by
 have h1:=E4 (f:=λa=>nth (dE g) a) (n:=g.length) (m:=1000000) λa ha=>by have:=hs.2 a ha;rw[dE,gG ha];exact OD yK this
 have h2:g.length*1000000<=1000000*1000000:=OE _ hs.1;rw[jv];omega
theorem BH{g:Gr}{h:Heap}(hg:SlRd (vw h) vg g)(hs:Sm g):
  az RP 120 #[vg] h (λv h'=>(vw h).le (vw h')/\SlRd (fresh h h') v (dN g)):=by
 refine CA (args:=[vg]) follows Tryz.func120 E.nM RB λK hK=>?_;have hs1:=hs.1;have hel:=C8 hs;simp[L.nM,hg.len];refine Gq (n:=g.length) El.kI (by simp<;>rfl) (by simp<;>rfl) rfl R3 R3 ?_;refine uE (z:=RL RK 0 0) (v:=RL (RJ ⟨h.size,0,RK⟩) g.length g.length) R1 rfl R1 rfl rfl R5 R5 λh2 hle2 hsz2 hB2=>?_;have hle02:(vw h).le (vw h2):=RE (bM _ _) hle2;have hg2:h2[h.size]? = RJ (.cells (List.replicate g.length (RL RK 0 0)).toArray T.aQ (0,0)):=hle2 _ _ (show(h.push _)[h.size]? = _ by simp);simp at hsz2 hB2;simp;refine ah R1 GK ?_;rintro _ _ ⟨rfl,rfl⟩;have hgc:=hg.cells.1;rw[hgc];have hle3:=bM h2 (.cells #[vg] T.kI);generalize hh3:h2.push (.cells #[vg] T.kI)=h3 at hle3;have hsz3:h3.size=h.size+3:=by rw[<-hh3];simp[hsz2]
 obtain⟨W0,hW0⟩ : ∃W:View,W=λb=>if b=h.size then RK else h3[b]?:=⟨_,rfl⟩;have hW0le:W0.le (vw h3):=λb o hb=>by
  rw[hW0]at hb;simp only at hb;split at hb
  ·cases hb
  exact hb
 have h0W:(vw h).le W0:=λb o hb=>by have hlt:=View.lt (View.le_refl (vw h)) hb;rw[hW0];simp only;rw[if_neg R3];exact RE hle02 hle3 b o hb
 have hp3:an W0 ⟨h2.size,0,RK⟩=RJ vg:=by
  have e:W0 h2.size=RJ (.cells #[vg] T.kI (0,0)):=by rw[hW0];simp only;rw[if_neg R3,<-hh3];simp
  simp[an,e]
 have hB3:W0 (h.size+1)=RJ (.cells #[RL (RJ ⟨h.size,0,RK⟩) g.length g.length] T.kI (0,0)):=by rw[hW0];simp only;rw[if_neg R3];exact hle3 _ _ hB2
 refine C1 (enc:=Hv) (all:=jv g) (gf:=150) (caps:=[RM (RJ ⟨h2.size,0,RK⟩)]) W0 W0 (λe k W h'=>e=RK/\∃rv,Rw W h' T.aQ T.int h.size rv (((jv g).take k).foldl fA (List.replicate g.length [])))
  rfl R1 (B0 (hg.mono h0W) hp3 hs) (λ_=>rfl) RD (λe k=>⟨λ⟨_,rv,r⟩=>r.wle,λ⟨a,rv,r⟩ _ h1 h2 _=>⟨a,rv,r.move h1 h2⟩⟩) ⟨rfl,_,Rw.start hW0le (by rw[hW0];simp) (hle3 _ _ hg2)⟩
  (λx h1=>by simp[Hv,dx];rfl) ?_ ?_ ?_
 ·rintro k e W h1 hag hk ⟨_,rv,r⟩ K2 hK2 _;have he:=rF (OQ hk);have hk1:k<(jv g).length:=(Qs.1 hk).1;have hst:=wF (f:=fA) (b:=List.replicate g.length []) hk;have hpl:=pk (l:=(jv g).take k) (p:=List.replicate g.length []);have hrl:=Br (l:=(jv g).take k) (p:=List.replicate g.length []) (i:=e.2.toNat) (m:=0) (by rw[aI R3];simp);rw[OT]at hrl;rw[OO]at hpl;generalize hp:((jv g).take k).foldl fA (List.replicate g.length [])=p at r hst hpl hrl;have hlt:=r.lt;have hB1:h1[h.size+1]? = RJ (.cells #[RL (RJ ⟨h.size,0,RK⟩) g.length g.length] T.kI (0,0)):=r.wle _ _ (by rw[hag _ R3];exact hB3);have hlt1:=(NV.1 hB1).1;obtain⟨H,hH⟩ : ∃H:View,H=λb=>if b=h.size\/b=h.size+1 then h1[b]? else none:=⟨_,rfl⟩;have hHle:H.le (vw h1):=λb o hb=>by
   rw[hH]at hb;simp only at hb;split at hb
   ·exact hb
   cases hb
  have c1:an H ⟨h.size+1,0,RK⟩=RJ (RL (RJ ⟨h.size,0,RK⟩) g.length g.length):=de (by rw[hH];simp only;rw[if_pos Sa];exact hB1) rfl;have hlen:=r.len;have c2:an H ⟨h.size,e.2.toNat,RK⟩=RJ (nth rv e.2.toNat):=de (by rw[hH];simp only;rw[if_pos Sa];exact r.blk) (by rw[aA R3];simp);refine aH H hHle ?_;simp(disch:=omega)[c1,c2,JK];refine oh (α:=Int) (W:=nothing) El.aQ (by simp<;>rfl) (pZ R3 R3) λu h4 hsrc hle4 _=>⟨RE hHle hle4,?_⟩;have r4:=r.ext hle4;have hi:e.2.toNat<p.length:=by omega
  refine dU El.aQ Sa Sa (r4.own _ hi) hsrc R9 R9 λv' h5 o5 m5=>?_;have hg5:h5[h.size]? = RJ (.cells rv.toArray T.aQ (0,0)):=by rw[m5.kept.block _ r4.lt (λe=>r4.ng _ hi e.symm)];exact r4.blk
  obtain⟨hcells,hone⟩:=mF o5;have hH5:H.le (vw h5):=by
   intro b o hb;have hlt4:=View.lt (RE hHle hle4) hb;have h4b:=RE hHle hle4 b o hb;show h5[b]? = _;rw[m5.kept.block b hlt4 ?_]
   ·exact h4b
   rw[hH]at hb;simp only at hb;split at hb
   ·rename_i e1;rcases e1 with rfl | rfl
    ·exact λe=>r4.ng _ hi e.symm
    intro e;have:=r4.av _ hi _ e.symm;rw[hag _ R3,hB3]at this;cases this
   cases hb
  refine⟨hH5,?_⟩;refine eJ (g:=h.size) (o:=e.2.toNat) (n:=1) (v:=v') R1 Sa Sa (by rw[hcells];rfl) (by rw[hcells];simpa using hone) hg5 R9 λh6 hsz6 ⟨row,hrow,hre⟩ hoth=>?_;refine hK2 _ _ ⟨rfl,rv.set e.2.toNat v',?_⟩;rw[hst,fA];have hrow2:row=(rv.set e.2.toNat v').toArray:=by rw[<-Array.toList_inj,hre,hcells,QE,if_pos R3];simp
  rw[hrow2]at hrow;exact r4.put hi o5 m5 hrow hoth hsz6
 ·rintro W h1 hag ⟨_,rv,r⟩;rw[NY (NO _)]at r;have hB1:h1[h.size+1]? = RJ (.cells #[RL (RJ ⟨h.size,0,RK⟩) g.length g.length] T.kI (0,0)):=r.wle _ _ (by rw[hag _ R3];exact hB3);have c1:an (vw h1) ⟨h.size+1,0,RK⟩=RJ (RL (RJ ⟨h.size,0,RK⟩) g.length g.length):=de hB1 rfl;simp[c1];intro h4 hsw;have hWW:(vw h).le W:=λb o hb=>by rw[hag b (by have:=View.lt (View.le_refl (vw h)) hb;omega)];exact h0W b o hb
  have hfl:=pk (l:=jv g) (p:=List.replicate g.length []);rw[OO]at hfl;have hfr:=r.fresh hWW R3;rw[hfl]at hfr;exact⟨_,rfl,hK _ _ ⟨hsw.ext (RE hWW r.wle),hsw.rd hfr⟩⟩
 rintro e k W h1 hag ⟨hne,_⟩;cases hne
def gk (n:Nat) (order:List Int):List Int:=up (λi l=>l.set (nth order i).toNat (i:Int)) order.length (List.replicate n (-1))
def bstS (out number:List Int) (n:Nat):List Int->Int->Option Int
 | [],best=>RJ best
 | a::l,best=>
  if 0<=a/\a<n then
   if nth number a.toNat<0\/(a≠0/\nth out a.toNat<0) then bstS out number n l best
   else if best<0 then bstS out number n l a
   else(lq out number (2*n+2) best a).bind (bstS out number n l)
  else RK
def setS (out:List Int) (ch:Bool) (b best:Int):List Int × Bool:=if nth out b.toNat≠best then(out.set b.toNat best,RN) else(out,ch)
def sV (number:List Int) (preds:Gr) (n:Nat):List Int->List Int × Bool->Option (List Int × Bool)
 | [],s=>RJ s
 | b::l,s=>
  if 0<=b/\b<n then(bstS s.1 number n (nth preds b.toNat) (-1)).bind λbest=>sV number preds n l (setS s.1 s.2 b best)
  else RK
def oO (number:List Int) (preds:Gr) (n:Nat) (tail:List Int):Nat->List Int->Option (List Int)
 | 0,_=>RK
 | m+1,out=>(sV number preds n tail (out,RO)).bind λs=>if s.2 then oO number preds n tail m s.1 else RJ s.1
def zt (g:Gr) (fuel:Nat):Option (List Int):=
 oO (gk g.length (bD g)) (dN g) g.length ((bD g).drop (min 1 (bD g).length)) fuel (List.replicate g.length (-1))
theorem jC {out number:List Int} {c:Int} : ∀{k:Nat} {x y:Int},lq out number k x y=RJ c->0<=c/\c<number.length
 | 0,x,y,h=>by cases h
 | k+1,x,y,h=>by
  rw[lq]at h;split at h;case isFalse=>cases h
  rename_i hr;split at h
  ·exact jC h
  split at h
  ·exact jC h
  cases h;omega
theorem DK{out:List Int}: ∀{l:List Int} {best r:Int},(-1<=best/\best<n)->out.length=n->number.length=n->(∀i,i<n->-1<=nth out i/\nth out i<n)->bstS out number n l best=RJ r->-1<=r/\r<n:=by
 intro l;induction l with
 | nil=>intro best r hb _ _ _ h;simp only[bstS,NN]at h;subst h;exact hb
 | cons a l ih=>
  intro best r hb h1 h2 h3 h;rw[bstS]at h;split at h;case isFalse=>cases h
  rename_i ha;split at h
  ·exact ih hb h1 h2 h3 h
  split at h
  ·exact ih R6 h1 h2 h3 h
  simp only[N0]at h;obtain⟨c,hc,h⟩:=h;refine ih ?_ h1 h2 h3 h;have:=jC hc;omega
structure OvOk (m M:Nat) (s:List Bool × List Int):Prop where
 len:s.1.length=m
 cnt:s.2.length+dH s.1<=M
 rng : ∀x∈s.2,0<=x/\x<m
theorem Cj {nx:Int->List Int} {m:Nat} (hnx : ∀a:Int,0<=a->a<m->∀i,i<(nx a).length->0<=nth (nx a) i/\nth (nx a) i<m) : ∀(n M:Nat) (a:Int) (s:List Bool × List Int),0<=a->a<m->nth s.1 a.toNat=RO->OvOk m M s->OvOk m M (jZ nx n a s)
 | 0,_,_,_,_,_,_,h=>h
 | n+1,M,a,s,h0,h1,hf,h=>by
  rw[kR];have hlen:=h.len;have hfs:=jR (t:=s.1) (i:=a.toNat) R3 hf;have hc:=h.cnt;have hup : ∀k,k<=(nx a).length->OvOk m (M-1) (up (dd nx n a) k (s.1.set a.toNat RN,s.2)):=by
   intro k;induction k with
   | zero=>exact λ_=>⟨by simpa[up]using hlen,by simp only[up];omega,h.rng⟩
   | succ k ih=>
    intro hk;have:=ih R3;rw[up];generalize up (dd nx n a) k (s.1.set a.toNat RN,s.2)=z at this;unfold dd;split
    ·exact this
    rename_i hz;obtain⟨e0,e1⟩:=hnx a h0 h1 k R3;exact Cj hnx n (M-1) _ z e0 e1 (by simpa using hz) this
  have:=hup _ (NO _);exact⟨this.len,by have:=this.cnt;simp;omega,λx hx=>by
   rcases NU.1 hx with hx | hx
   ·exact this.rng x hx
   simp only[NW]at hx;subst hx;exact⟨h0,h1⟩⟩
theorem zw{nx:Int->List Int}{m:Nat}(hnx : ∀a:Int,0<=a->a<m->∀i,i<(nx a).length->0<=nth (nx a) i/\nth (nx a) i<m):(lZ nx m).length<=m/\∀x∈lZ nx m,0<=x/\x<m:=by
 unfold lZ;split
 ·simp
 rename_i h0;have:=Cj hnx m m 0 (List.replicate m RO,[]) R3 R3 (aI R9) ⟨by simp,by simp[dH],by simp⟩;refine⟨?_,λx hx=>this.rng x (by simpa using hx)⟩;have:=this.cnt;simp;omega
theorem Kc{g:Gr}: ∀a:Int,0<=a->a<(g.length:Int)->∀i,i<(nx (dE g) a).length->0<=nth (nx (dE g) a) i/\nth (nx (dE g) a) i<g.length:=by intro a h0 h1 i hi;have:=uR a.toNat (by rw[iQ];omega) i hi;rwa [iQ]at this
theorem ET{g:Gr}{i:Nat}(hi:i<(bD g).length):0<=nth (bD g) i/\nth (bD g) i<g.length:=
 (zw Kc).2 _ (bz hi)
theorem sv{g:Gr}:(bD g).length<=g.length:=(zw Kc).1
theorem uU{g:Gr}: ∀{l:List (Int × Int)} {p:Gr},(∀e∈l,0<=e.1/\e.1<g.length)->(∀i,∀x∈nth p i,0<=x/\x<g.length)->∀i,∀x∈nth (l.foldl fA p) i,0<=x/\x<g.length:=by
 intro l;induction l with
 | nil=>exact λ_ h=>h
 | cons e l ih=>
  intro p hl hp;rw[N8];refine ih (λe' he'=>hl e' (NZ _ he')) λi x hx=>?_;unfold fA at hx;rcases NQ i p.length with hi | hi
  ·rw[bN hi]at hx;split at hx
   ·rcases NU.1 hx with hx | hx
    ·exact hp _ x hx
    simp only[NW]at hx;subst hx;exact hl e (NX ..)
   exact hp _ x hx
  rw[dp (by simpa using hi)]at hx;cases hx
theorem xG{h:Heap}{v v':Value}(m:lE h h' v v')(hw:W.le (vw h))(ha:Av W v):W.le (vw h'):=(m.view hw ha).1
theorem IJ{g:Gr}{h:Heap}{fuel:Nat}{l:List Int}(hg:SlRd (vw h) vg g)(hs:Sm g)(hl:zt g fuel=RJ l):
  az RP 121 #[vg] h (λv h'=>∃W,Mine nothing h h' W T.int v l):=by
 refine ao (args:=[vg]) follows Tryz.func121 E.bG RB λK hK=>?_;have hs1:=hs.1;simp[L.bG,hg.len];refine ah R1 (BD hg hs) ?_;rintro vo h1 ⟨hle1,ho⟩;have hoin:=@ET g;have holen:=sv (g:=g);rw[zt]at hl;generalize bD g=order at ho hoin holen hl;refine Mine.made (V:=nothing) (W:=nothing) (h0:=h) (n:=g.length) (d:=(0:Int)) El.aQ hle1 (λ_ _ h=>by cases h) (Old.nothing _ _) (by simp<;>rfl) (by simp<;>rfl) ⟨rfl,by omega,by omega⟩ R3 R3 λvn h2 mn hle2 hbn=>?_;refine Mine.made (V:=nothing) (W:=nothing) (h0:=h) (n:=g.length) (d:=(0:Int)) El.aQ mn.old (λ_ _ h=>by cases h) (Old.nothing _ _) (by simp<;>rfl) (by simp<;>rfl) ⟨rfl,by omega,by omega⟩ R3 R3 λvi h3 mi hle3 hbi=>?_;have mn3:=mn.ext' hle3;have hne:vn.ownBlock≠vi.ownBlock:=by have:=mn.own.lt hbn;rw[hbn,hbi];intro e;simp only[NN]at e;omega
 have hle13:(vw h1).le (vw h3):=RE hle2 hle3;have av1n:Av (vw h1) vn:=λb hb=>by rw[hbn]at hb;cases hb;exact View.cM RD (NO _)
 have av1i:Av (vw h1) vi:=λb hb=>by rw[hbi]at hb;cases hb;exact View.cM hle2 (NO _)
 refine aV [0,3,4,5,25,26] (fun(_:Unit) k=>[vg,vo,vn,vi,RG RH g.length,RG RH k])
  (λ_ k h4=>Mine nothing h h4 nothing T.int vn (rows (λ_=>(-1:Int)) k++List.replicate (g.length-k) 0)/\Mine nothing h h4 nothing T.int vi (rows (λ_=>(-1:Int)) k++List.replicate (g.length-k) 0)/\(vw h1).le (vw h4)) g.length ()
  rfl R3 rfl ⟨by simpa using mn3,by simpa using mi,hle13⟩ (λ_ _=>rfl) (λv k h1 hk m=>by simp) ?_ ?_
 ·rintro _ k h4 hlt ⟨m4n,m4i,hle4⟩ K2 hK2;have hlk:(rows (λ_=>(-1:Int)) k++List.replicate (g.length-k) (0:Int)).length=g.length:=by simp;omega
  simp(disch:=omega)[m4n.now.idx1 rfl,m4i.now.idx1 rfl];refine sF (W:=nothing) (i:=k) (d:=(-1:Int)) R1 (by simp[show Rep.n Int=1 from rfl]) (by simp<;>rfl) m4n.own R3 (pZ R3 R3) λh5 o5 mv5=>?_;have m5n:=m4n.iH o5 mv5;have m5i:=m4i.beside m5n mv5 (.inr (Ne.symm hne));refine sF (W:=nothing) (i:=k) (d:=(-1:Int)) R1 (by simp[show Rep.n Int=1 from rfl]) (by simp<;>rfl) m5i.own R3 (pZ R3 R3) λh6 o6 mv6=>?_;have m6i:=m5i.iH o6 mv6;have m6n:=m5n.beside m6i mv6 (.inr hne);rw[tx (x:=λ_=>(-1:Int)) hlt]at m6i m6n;exact hK2 () _ _ rfl rfl ⟨m6n,m6i,xG mv6 (xG mv5 hle4 av1n) av1i⟩
 rintro _ h4 ⟨m4n,m4i,hle4⟩;have hrows:rows (λ_=>(-1:Int)) g.length=List.replicate g.length (-1):=by refine Ps Sa λi h1 h2=>?_;simp[rows]
 rw[hrows]at m4n m4i;simp only[QG,List.replicate_zero,Pn]at m4n m4i;have ho1:=ho.mono (lK h h1);simp[ho1.len];refine aV [0,3,4,5,36,37,38] (fun(_:Unit) k=>[vg,vo,vn,vi,vo,RG RH order.length,RG RH k])
  (λ_ k h5=>Mine nothing h h5 nothing T.int vn (up (λi l=>l.set (nth order i).toNat (i:Int)) k (List.replicate g.length (-1)))/\Mine nothing h h5 nothing T.int vi (List.replicate g.length (-1))/\(vw h1).le (vw h5)) order.length ()
  rfl R3 rfl ⟨m4n,m4i,hle4⟩ (λ_ _=>rfl) (λv k h1 hk m=>by simp) ?_ ?_
 ·rintro _ k h5 hlt ⟨m5n,m5i,hle5⟩ K2 hK2;have hlen5:(up (λi l=>l.set (nth order i).toNat (i:Int)) k (List.replicate g.length (-1))).length=g.length:=by rw[zT List.length (λ_ _=>by simp)];simp
  have ho5:=ho1.mono hle5;obtain⟨e0,e1⟩:=hoin hlt;simp(disch:=omega)[ho5.idx1 rfl,ho5.int RD,m5n.now.idx1 rfl];refine sF (W:=nothing) (i:=(nth order k).toNat) (d:=(k:Int)) R1 (by simp[show Rep.n Int=1 from rfl]) (by simp<;>rfl) m5n.own R3 (pZ R3 R3) λh6 o6 mv6=>?_;have m6n:=m5n.iH o6 mv6;exact hK2 () _ _ rfl rfl ⟨m6n,m5i.beside m6n mv6 (.inr (Ne.symm hne)),xG mv6 hle5 av1n⟩
 rintro _ h5 ⟨m5n,m5i,hle5⟩;have hnum:up (λi l=>l.set (nth order i).toNat (i:Int)) order.length (List.replicate g.length (-1))=gk g.length order:=rfl;rw[hnum]at m5n;have hnl:(gk g.length order).length=g.length:=by rw[gk,zT List.length (λ_ _=>by simp)];simp
 simp;refine ah R1 (BH (hg.mono m5n.old) hs) ?_;rintro vp h6 ⟨hle6,hp⟩;have hpl:(dN g).length=g.length:=by rw[dN,pk];simp
 have hpin : ∀i,∀x∈nth (dN g) i,0<=x/\x<g.length:=uU (λe he=>(rF he).1) (λi x hx=>by
  rcases NQ i g.length with hi | hi
  ·rw[aI hi]at hx;cases hx
  rw[dp (by simpa using hi)]at hx;cases hx);have m6:=(m5i.ext' hle6).over;have hn6:SlRd (but vi h6) vn (gk g.length order):=(m5n.own.rd (V:=but vi h5) (λ_ _ h=>by cases h) (λb hb=>by unfold but;rw[if_neg (λe=>hne (hb.trans e.symm))])).mono (A5 hle6)
 have hp6:SlRd (but vi h6) vp (dN g):=hp.mono λb o hb=>by
  have hb2:=lK _ _ b o hb;unfold but;split
  ·rename_i e;have:=m5i.own.lt e;unfold fresh at hb;rw[if_pos this]at hb;cases hb
  exact hb2
 have ho6:SlRd (but vi h6) vo order:=ho1.mono (RE (Li hle5 av1i) (A5 hle6));generalize hW:but vi h6=W at m6 hn6 hp6 ho6;generalize gk g.length order=number at hn6 hnl hl;generalize hpr:dN g=preds at hp6 hpl hpin hl;obtain⟨pv,hpv⟩:=hp6.rows;refine gY [3,4,5,9,10] (λm ρ h7=>∃(out:List Int) (ch:Bool),ρ=[(3,vo),(4,vn),(5,vi),(9,vp),(10,.bool ch)]/\Mine (vw h) h h7 W T.int vi out/\out.length=g.length/\(∀i,i<g.length->-1<=nth out i/\nth out i<g.length)/\
  (ch=RN->oO number preds g.length (order.drop (min 1 order.length)) m out=RJ l)/\(ch=RO->out=l)) fuel
  ⟨_,RN,rfl,m6,by simp,λi hi=>by rw[aI hi];omega,λ_=>hl,λh=>by cases h⟩ ?_;rintro m ρ h7 ⟨out,ch,rfl,m7,hol,hor,hch1,hch2⟩ K2 hK2;cases ch with
 | false=>simp[L.bG.l3,kS];have:=hch2 rfl;subst this;exact hK _ _ ⟨_,m7.Mj⟩
 | true=>
  have hit:=hch1 rfl;cases m with
  | zero=>cases hit
  | succ m=>
   rw[oO,N0]at hit;obtain⟨⟨out',ch'⟩,hsw,hfin⟩:=hit;simp only at hfin;simp[L.bG.l3,kS];have hmin:(if(order.length:Int)<1 then(order.length:Int) else 1)=((min 1 order.length:Nat):Int):=by split<;>omega
   obtain⟨u,hu,hur⟩:=ho6.drop (n:=min 1 order.length) R3 (kd:=.i64);rw[show Rep.n Int=1 from rfl]at hu;have hti : ∀j,j<(order.drop (min 1 order.length)).length->nth (order.drop (min 1 order.length)) j=nth order (min 1 order.length+j):=by intro j hj;rw[OM]at hj;rw[aA (by rw[OM];omega),aA R3,QF]
   generalize order.drop (min 1 order.length)=tail at hur hti hsw hfin hK2;simp only[ho6.len,Ov,KY,hmin,hu,hur.len,km,dx];have hub:=hur.bound;simp;refine aV [3,4,5,9,10,55,56,57] (fun(s:List Int × Bool) k=>[vo,vn,vi,vp,.bool s.2,u,RG RH tail.length,RG RH k])
    (λs k h8=>Mine (vw h) h h8 W T.int vi s.1/\s.1.length=g.length/\(∀i,i<g.length->-1<=nth s.1 i/\nth s.1 i<g.length)/\sV number preds g.length (tail.drop k) s=RJ (out',ch')) tail.length (out,RO)
    rfl R3 rfl ⟨m7,hol,hor,by simpa using hsw⟩ (λ_ _=>rfl) (λv k h1 hk m=>by simp) ?_ ?_
   ·rintro⟨o8,c8⟩ k h8 hlt8 ⟨m8,hol8,hor8,hs8⟩ K3 hK3;simp only at m8 hol8 hor8;rw[OG hlt8,<-aA hlt8,sV]at hs8;split at hs8;case isFalse=>cases hs8
    rename_i hb;rw[N0]at hs8;obtain⟨best,hbest,hs8⟩:=hs8;simp only at hbest hs8;have hb2:=DK R3 hol8 hnl hor8 hbest;generalize hbe:nth tail k=b at hb hbest hs8;obtain⟨cv,rr⟩:=hpv b.toNat R3;have br:=rr.bound;simp(disch:=omega)[hur.idx1 rfl,hur.int m8.wle,hbe,hp6.idx1 rfl,cv _ m8.wle,rr.len];refine aV [3,4,5,9,10,55,56,57,12,13,64,65,66] (fun(bst:Int) j=>[vo,vn,vi,vp,.bool c8,u,RG RH tail.length,RG RH k,RG RH b,RG RH bst,pv b.toNat,RG RH (nth preds b.toNat).length,RG RH j])
     (λbst j h9=>Mine (vw h) h h9 W T.int vi o8/\(-1<=bst/\bst<g.length)/\bstS o8 number g.length ((nth preds b.toNat).drop j) bst=RJ best) (nth preds b.toNat).length (-1)
     rfl R3 rfl ⟨m8,by omega,by simpa using hbest⟩ (λ_ _=>rfl) (λv k h1 hk m=>by simp) ?_ ?_
    ·rintro bst j h9 hlt9 ⟨m9,hb9,hs9⟩ K4 hK4;rw[OG hlt9,<-aA hlt9,bstS]at hs9;have ha:=hpin _ _ (bz hlt9);rw[if_pos ha]at hs9;have hra:=rr.int m9.wle hlt9;generalize nth (nth preds b.toNat) j=a at hs9 ha hra;have hn9:=hn6.int m9.wle (i:=a.toNat) R3;have ho9:=m9.now.int RD (i:=a.toNat) R3;have hi9:=m9.now;by_cases c1:nth number a.toNat<0
     ·rw[if_pos (.inl c1)]at hs9;simp(disch:=omega)[rr.idx1 rfl,hra,hn6.idx1 rfl,hn9,c1,hi9.idx1 rfl,ho9];exact hK4 bst _ _ rfl rfl ⟨m9,hb9,hs9⟩
     by_cases c2:a=0
     ·rw[if_neg (by rintro(h | h);exact c1 h;exact h.1 c2)]at hs9;subst c2;rw[Int.toNat_zero]at hn9 ho9 c1;simp(disch:=omega)[rr.idx1 rfl,hra,hn6.idx1 rfl,hn9,c1,hi9.idx1 rfl,ho9];refine⟨λc4=>?_,λc4=>?_⟩
      ·rw[if_pos c4]at hs9;exact hK4 _ _ _ rfl rfl ⟨m9,by omega,hs9⟩
      rw[if_neg R3,N0]at hs9;obtain⟨c,hc,hs9⟩:=hs9;have hcr:=jC hc;refine ah R1 (zm m9.now (hn6.mono m9.wle) hc) ?_;rintro _ _ ⟨rfl,rfl⟩;exact hK4 c _ _ rfl rfl ⟨m9,by omega,hs9⟩
     by_cases c3:nth o8 a.toNat<0
     ·rw[if_pos (.inr ⟨c2,c3⟩)]at hs9;simp(disch:=omega)[rr.idx1 rfl,hra,hn6.idx1 rfl,hn9,c1,c2,hi9.idx1 rfl,ho9,c3];exact hK4 bst _ _ rfl rfl ⟨m9,hb9,hs9⟩
     rw[if_neg (by rintro(h | h);exact c1 h;exact c3 h.2)]at hs9;simp(disch:=omega)[rr.idx1 rfl,hra,hn6.idx1 rfl,hn9,c1,c2,hi9.idx1 rfl,ho9,c3];refine⟨λc4=>?_,λc4=>?_⟩
     ·rw[if_pos c4]at hs9;exact hK4 _ _ _ rfl rfl ⟨m9,by omega,hs9⟩
     rw[if_neg R3,N0]at hs9;obtain⟨c,hc,hs9⟩:=hs9;have hcr:=jC hc;refine ah R1 (zm m9.now (hn6.mono m9.wle) hc) ?_;rintro _ _ ⟨rfl,rfl⟩;exact hK4 c _ _ rfl rfl ⟨m9,by omega,hs9⟩
    rintro bst h9 ⟨m9,hb9,hs9⟩;simp only[List.drop_length,bstS,NN]at hs9;subst hs9;simp(disch:=omega)[m9.now.idx1 rfl,m9.now.int RD];refine⟨λe=>hK3 (o8,c8) _ _ rfl rfl ⟨m9,hol8,hor8,by rw[setS,if_neg (by simpa using e)]at hs8;exact hs8⟩,λe=>?_⟩;refine m9.put1 (α:=Int) (i:=b.toNat) R1 rfl Sa (by simp<;>rfl) R3 (pZ R3 R3) λh10 m10=>hK3 (o8.set b.toNat bst,RN) _ _ rfl rfl ⟨m10,by simpa using hol8,λi hi=>?_,by rw[setS,if_pos e]at hs8;exact hs8⟩;simp only;rw[bN R3];split
    ·exact hb9
    exact hor8 i hi
   rintro⟨o8,c8⟩ h8 ⟨m8,hol8,hor8,hs8⟩;simp only[List.drop_length,sV,NN,Pu]at hs8 m8 hol8 hor8;obtain⟨rfl,rfl⟩:=hs8;simp;refine hK2 m _ _ R3 ⟨_,_,rfl,m8,hol8,hor8,λe=>?_,λe=>?_⟩
   ·rw[if_pos e]at hfin;exact hfin
   rw[if_neg (by simp[e])]at hfin;exact Option.some.inj hfin
abbrev Tr:=Int × Int × Int
def trV (t:Tr):List PanicEntry:=[{ v:=.iface T.gr (.agg #[RG RH t.1,RG RH t.2.1,RG RH t.2.2]),recovered:=false }]
def cz (n a b:Int):Bool:=decide (a<=n)&&decide (n<=b)
theorem kZ{n a:Int}{h:Heap}:az RP 69 #[RG RH n,RG RH a,RG RH b] h (λv h'=>v = .bool (cz n a b)/\h'=h):=by refine ao (args:=[RG RH n,RG RH a,RG RH b]) follows Tryz.func69 E.mA RB λK hK=>?_;simp[L.mA];exact hK _ _ ⟨by by_cases h1:a<=n<;>simp[cz,h1],rfl⟩
theorem iI{ok:Bool}{e p:Int}{h:Heap}:ji RP 68 #[.bool ok,RG RH e,RG RH b,RG RH p] h (λv h'=>ok=RN/\h'=h) (λch h'=>ok=RO/\ch=trV (e,b,p)/\h'=h):=by
 refine iT (args:=[.bool ok,RG RH e,RG RH b,RG RH p]) follows Tryz.func68 E.nr RB λK Kp hK hKp=>?_;cases ok with
 | true=>simp[L.nr];exact hK _ _ ⟨rfl,rfl⟩
 | false=>simp[L.nr];refine ak (z:=.agg #[RG RH 0,RG RH 0,RG RH 0]) (places:=[(0,1),(1,1),(2,1)]) (vs:=[(0,RG RH e),(1,RG RH b),(2,RG RH p)]) (cs:=#[RG RH e,RG RH b,RG RH p]) R1 R1 Sa R1 ?_;refine Io (d:=(Tryz.prog.underlying T.gr).getD .bool) R1 R1 rfl ?_;simp;refine G8 (t:=T.gr) (v:=.agg #[RG RH e,RG RH b,RG RH p]) rfl ?_;exact⟨.inl rfl,hKp _ _ ⟨rfl,rfl,rfl⟩⟩
def gB (op:Int):Int × Int:=if op=1 then(0,0) else if op=15 then(1,1) else if op=17 then(0,4) else(2,2)
theorem CC{op:Int}{h:Heap}:az RP 116 #[RG RH op] h (λv h'=>v = .tuple #[RG RH (gB op).1,RG RH (gB op).2]/\h'=h):=by refine ao (args:=[RG RH op]) follows Tryz.func116 E.kC RB λK hK=>?_;simp[L.kC];refine⟨λh1=>hK _ _ ⟨by simp[gB,h1],rfl⟩,λh1=>⟨λh2=>hK _ _ ⟨by simp[gB,h1,h2],rfl⟩,λh2=>⟨λh3=>hK _ _ ⟨by simp[gB,h1,h2,h3],rfl⟩,λh3=>hK _ _ ⟨by simp[gB,h1,h2,h3],rfl⟩⟩⟩⟩
def cT (i:InsD):List Int:=if i.op=16 then[] else if i.op=18 then[i.dst,i.two] else[i.dst]
theorem Bg{d:InsD}{v:Value}{h:Heap}(hd:Rd (vw h) v d):az RP 72 #[v] h (λu h'=>(vw h).le (vw h')/\SlRd (fresh h h') u (cT d)):=by
 refine ao (args:=[v]) follows Tryz.func72 E.nX RB λK hK=>?_;simp[L.nX];refine fW rfl hd λh1 _ hle1 hsz1 hat=>?_;obtain⟨c0,c1,c2,va,ca⟩:=fI hat;have r1:=(hat.part InsD.iB).rng;have r2:=(hat.part InsD.yp).rng;simp[c0];refine⟨λe1=>hK _ _ ⟨hle1,by simpa[cT,e1]using aE⟩,λe1=>⟨λe2=>?_,λe2=>?_⟩⟩
 ·simp[c1,c2];refine mq (X:=nothing) (ds:=[d.dst,d.two]) (vs:=[RG RH d.dst,RG RH d.two]) rfl El.aQ Sa ⟨bg.2 ⟨rfl,r1⟩,bg.2 ⟨rfl,r2⟩,trivial⟩ bO rfl R3 λu h2 hle2 hsz2 hu _=>?_;exact hK _ _ ⟨RE hle1 hle2,by simpa[cT,e2]using hu _ bO (by unfold fresh;rw[if_neg R3])⟩
 simp[c1];refine mq (X:=nothing) (ds:=[d.dst]) (vs:=[RG RH d.dst]) rfl El.aQ Sa ⟨bg.2 ⟨rfl,r1⟩,trivial⟩ bO rfl R3 λu h2 hle2 hsz2 hu _=>?_;exact hK _ _ ⟨RE hle1 hle2,by simpa[cT,e1,e2]using hu _ bO (by unfold fresh;rw[if_neg R3])⟩
abbrev MW:=Int->Option (Int × Int)
def encW (w:Int × Int):Value:=.agg #[RG RH w.1,RG RH w.2]
variable{Kb:Nat}
theorem IP{ps n p:Int}{h:Heap}(h0:an (vw h) ⟨Kb,0,RK⟩=RJ (RG RH ps)):
  ji RP 138 #[RM (RJ ⟨Kb,0,RK⟩),RG RH n,RG RH b,RG RH p] h (λ_ h'=>cz n ps 8191=RN/\h'=h) (λch h'=>cz n ps 8191=RO/\ch=trV (11,b,p)/\h'=h):=by
 refine iT (args:=[RM (RJ ⟨Kb,0,RK⟩),RG RH n,RG RH b,RG RH p]) follows Tryz.func138 E.iF RB λK Kp hK hKp=>?_;simp[L.iF,h0];refine ah R1 kZ ?_;rintro _ _ ⟨rfl,rfl⟩;refine en R1 iI ?_ ?_
 ·rintro _ _ ⟨e,rfl⟩;exact hK _ _ ⟨e,rfl⟩
 rintro _ _ ⟨e,rfl,rfl⟩;exact⟨.inl rfl,hKp _ _ ⟨e,rfl,rfl⟩⟩
theorem I4{r:Nat}{m:MW}{n p:Int}{h:Heap}(h2:an (skip r h) ⟨Kb,2,RK⟩=RJ (.map (RJ r)))(hm:dW (.int .i64) h r (mapE encW m)):
  ji RP 139 #[RM (RJ ⟨Kb,0,RK⟩),RG RH n,RG RH b,RG RH p] h (λ_ h'=>m n=RK/\dW (.int .i64) h' r (mapE encW (putM m n (b,p)))/\Kept h h' (RJ r))
   (λch h'=>m n≠RK/\ch=trV (12,b,p)/\Kept h h' (RJ r)):=by
 refine iT (args:=[RM (RJ ⟨Kb,0,RK⟩),RG RH n,RG RH b,RG RH p]) follows Tryz.func139 E.iE RB λK Kp hK hKp=>?_;simp[L.iE,ae db h2];refine np (z:=.agg #[RG RH 0,RG RH 0]) U.gh U.int R1 (by simp<;>rfl) (by simp<;>rfl) fH hm ?_;simp;refine fG (n:=2) (z:=.agg #[RG RH 0,RG RH 0]) (v:=((m n).map encW).getD (.agg #[RG RH 0,RG RH 0])) R1 rfl R1 (by cases m n<;>rfl) (by cases m n<;>simp[encW,Value.oneCell']) R5 R5 λh3 hle3 _ _=>?_;have k3:=Kept.of_le (b:=RJ r) hle3;have hm3:=hm.ext hle3;have h23:=ae k3.Ew h2;refine en R1 iI ?_ ?_
 ·rintro _ _ ⟨e,rfl⟩;simp[h23];refine ak (z:=.agg #[RG RH 0,RG RH 0]) (places:=[(0,1),(1,1)]) (vs:=[(0,RG RH b),(1,RG RH p)]) (cs:=#[RG RH b,RG RH p]) R1 R1 Sa R1 ?_;refine kU (v:=encW (b,p)) (.inl rfl) U.gh U.int (by simp<;>rfl) (by simp<;>rfl) (by simp<;>rfl) fH hm3 _ jA.1 jA.2 λh4 hs4 ho4 hm4=>?_;exact hK _ _ ⟨by simpa using e,hm4,k3.trans (Kept.upd hs4 ho4)⟩
 rintro _ _ ⟨e,rfl,rfl⟩;exact⟨.inl rfl,hKp _ _ ⟨(by intro e2;rw[e2]at e;cases e),rfl,k3⟩⟩
def rS (b p:Int) (m:MW) (n:Int):Except Tr MW:=if(m n).isSome then .error (12,b,p) else .ok (putM m n (b,p))
def allS (ps:Int) (l:List Int) (b p:Int) (m:MW):Except Tr MW:=if l.all (λn=>cz n ps 8191) then l.foldlM (rS b p) m else .error (11,b,p)
structure Lk (h:Heap) (Kb r:Nat) (vb:Value) (f:aq) (m:MW):Prop where
 c0:an (skip r h) ⟨Kb,0,RK⟩=RJ (RG RH f.params)
 c1:an (skip r h) ⟨Kb,1,RK⟩=RJ vb
 c2:an (skip r h) ⟨Kb,2,RK⟩=RJ (.map (RJ r))
 rb:SlRd (skip r h) vb f.blocks
 map:dW (.int .i64) h r (mapE encW m)
theorem Lk.kept{h h':Heap}{Kb r:Nat}{vb:Value}{f:aq}{m m':MW}(k:Lk h Kb r vb f m)(hk:Kept h h' (RJ r))(hm:dW (.int .i64) h' r (mapE encW m')):Lk h' Kb r vb f m':=
 ⟨ae hk.skip k.c0,ae hk.skip k.c1,ae hk.skip k.c2,k.rb.mono hk.skip,hm⟩
theorem Lk.ext {h h':Heap} {Kb r:Nat} {vb:Value} {f:aq} {m:MW} (k:Lk h Kb r vb f m) (hle:(vw h).le (vw h')):Lk h' Kb r vb f m:=
 k.kept (Kept.of_le hle) (k.map.ext hle)
theorem H4{r:Nat}{vb:Value}{f:aq}{m:MW}{l:List Int}{p:Int}{h:Heap}(k:Lk h Kb r vb f m)(hl:SlRd (skip r h) vl l):
  ji RP 115 #[RM (RJ ⟨Kb,0,RK⟩),vl,RG RH b,RG RH p] h (λ_ h'=>∃m',allS f.params l b p m = .ok m'/\Lk h' Kb r vb f m'/\Kept h h' (RJ r))
   (λch h'=>∃t,allS f.params l b p m = .error t/\ch=trV t/\Kept h h' (RJ r)):=by
 refine iT (args:=[RM (RJ ⟨Kb,0,RK⟩),vl,RG RH b,RG RH p]) follows Tryz.func115 E.bK RB λK Kp hK hKp=>?_;have hlb:=hl.bound;simp[L.bK,hl.len];refine aV [0,1,2,3,12,13,14] (fun(_:Unit) i=>[RM (RJ ⟨Kb,0,RK⟩),vl,RG RH b,RG RH p,vl,RG RH l.length,RG RH i]) (λ_ i h1=>h1=h/\∀j,j<i->cz (nth l j) f.params 8191=RN) l.length ()
  rfl R3 rfl ⟨rfl,λj hj=>by omega⟩ (λ_ _=>rfl) (λv i h1 hk m=>by simp) ?_ ?_
 ·rintro _ i _ hlt ⟨rfl,hpre⟩ K2 hK2;simp(disch:=omega)[hl.idx1 rfl,hl.int db];refine en R1 (IP (ae db k.c0)) ?_ ?_
  ·rintro _ _ ⟨e,rfl⟩;refine hK2 () _ _ rfl rfl ⟨rfl,λj hj=>?_⟩;rcases NQ j i with h | h
   ·exact hpre j h
   have:j=i:=by omega
   subst this;exact e
  rintro _ _ ⟨e,rfl,rfl⟩;refine⟨.inl rfl,hKp _ _ ⟨_,?_,rfl,Kept.refl _ _⟩⟩;rw[allS,if_neg];intro ha;rw[OJ.1 ha _ (bz hlt)]at e;cases e
 rintro _ h ⟨rfl,hpre⟩;have hall:allS f.params l b p m=l.foldlM (rS b p) m:=by rw[allS,if_pos];rw[OJ];intro x hx;obtain⟨j,hj,rfl⟩:=N7 hx;rw[<-aA hj];exact hpre j hj
 rw[hall]at hK hKp;simp[hl.len];refine aV [0,2,3,24,25,26] (fun(_:Unit) i=>[RM (RJ ⟨Kb,0,RK⟩),RG RH b,RG RH p,vl,RG RH l.length,RG RH i]) (λ_ i h1=>∃m',(l.take i).foldlM (rS b p) m = .ok m'/\Lk h1 Kb r vb f m'/\Kept h h1 (RJ r)) l.length ()
  rfl R3 rfl ⟨m,rfl,k,Kept.refl _ _⟩ (λ_ _=>rfl) (λv i h1 hk m=>by simp) ?_ ?_
 ·rintro _ i h1 hlt ⟨m1,hm1,k1,kp1⟩ K2 hK2;have hl1:=hl.mono kp1.Ew;have hst:=Dk hlt hm1;simp(disch:=omega)[hl1.idx1 rfl,hl1.int RD];refine en R1 (I4 k1.c2 k1.map) ?_ ?_
  ·rintro _ h2 ⟨e,hm2,kp2⟩;refine hK2 () _ _ rfl rfl ⟨_,by rw[hst,rS,e];rfl,k1.kept kp2 hm2,kp1.trans kp2⟩
  rintro _ h2 ⟨e,rfl,kp2⟩;refine⟨.inl rfl,hKp _ _ ⟨_,E7 (k:=i+1) (by rw[hst,rS,if_pos (Option.isSome_iff_ne_none.2 e)]),rfl,kp1.trans kp2⟩⟩
 rintro _ h1 ⟨m1,hm1,k1,kp1⟩;rw[OK]at hm1;simp;exact hK _ _ ⟨m1,hm1,k1,kp1⟩
abbrev Sh:=Int × Int × Int × Int
def encS (s:Sh):Value:=.agg #[RG RH s.1,RG RH s.2.1,RG RH s.2.2.1,RG RH s.2.2.2]
def gy:Int->Option Sh:=putM (putM (putM (putM (putM (λ_=>RK) 1 (0,0,1,1)) 2 (1,1,2,2)) 3 (1,1,2,65)) 4 (0,1,0,0)) 5 (0,0,0,0)
theorem qe{po:OP}{ty:TypeId}{us:List (Nat × Value)}{h:Heap}{K:Value->Heap->Prop}{a c d:Int}(hk:K (encS (a,b,c,d)) h):
  Lft.step RP (.build T.dQ #[(0,.const (RG RH a)),(1,.const (RG RH b)),(2,.const (RG RH c)),(3,.const (RG RH d))]) ty us h K:=
 ak (z:=.agg #[RG RH 0,RG RH 0,RG RH 0,RG RH 0]) (places:=[(0,1),(1,1),(2,1),(3,1)]) (vs:=[(0,RG RH a),(1,RG RH b),(2,RG RH c),(3,RG RH d)]) (cs:=#[RG RH a,RG RH b,RG RH c,RG RH d]) R1 R1 (by simp only[List.map_toArray,Pv,List.map_nil,yJ]) RA hk
theorem lG{po:OP}{ty:TypeId}{us:List (Nat × Value)}{h:Heap}{K:Value->Heap->Prop}{x y:Operand}{r:Nat}{f:Int->Option Sh}{j:Int}{s:Sh}(hx:asg us x = .map (RJ r))(hy:asg us y=encS s)(m:dW (.int .i64) h r (mapE encS f))(hk : ∀h':Heap,Kept h h' (RJ r)->dW (.int .i64) h' r (mapE encS (putM f j s))->K undef h'):Lft.step RP (.insert T.eA x (.const (RG RH j)) y) ty us h K:=
 kU (v:=encS s) (.inr rfl) U.eA U.int hx rfl hy fH m _ jA.1 jA.2 λh' hs ho hm=>hk h' (Kept.upd hs ho) hm
theorem y9{h:Heap}:az RP 117 #[] h (λv h'=>v = .map (RJ h.size)/\(vw h).le (vw h')/\dW (.int .i64) h' h.size (mapE encS gy)):=by
 refine ao (args:=[]) follows Tryz.func117 E.mJ RB λK hK=>?_;simp[L.mJ];refine nj ?_;have m0:dW (.int .i64) (h.push (.map #[] 0)) h.size (mapE encS λ_=>RK):=by rw[qY];exact dW.none Sa
 have hle:=bM h (.map #[] 0);generalize h.push (.map #[] 0)=h0 at m0 hle;refine qe (lG (s:=(0,0,1,1)) rfl rfl m0 λh1 k1 m1=>?_);refine qe (lG (s:=(1,1,2,2)) rfl rfl m1 λh2 k2 m2=>?_);refine qe (lG (s:=(1,1,2,65)) rfl rfl m2 λh3 k3 m3=>?_);refine qe (lG (s:=(0,1,0,0)) rfl rfl m3 λh4 k4 m4=>?_);refine qe (lG (s:=(0,0,0,0)) rfl rfl m4 λh5 k5 m5=>?_);refine hK _ _ ⟨rfl,λb o hb=>?_,m5⟩;have hlt:=View.lt (View.le_refl (vw h)) hb;have kk:=(((k1.trans k2).trans k3).trans k4).trans k5;show h5[b]? = _;rw[kk.block b (QA hlt (cw hle)) R9];exact hle b o hb
def qf (t:cB):Bool:=match gy t.kind with
 | some s=>cz t.args.length s.1 s.2.1&&cz t.to.length s.2.2.1 s.2.2.2
 | none=>RO
def insS (ps b:Int) (x:BlkD) (i:Nat) (m:MW):Except Tr MW:=
 if cz (nth x.ins i).op 1 18&&cz (nth x.ins i).args.length (gB (nth x.ins i).op).1 (gB (nth x.ins i).op).2 then allS ps (cT (nth x.ins i)) b i m else .error (10,b,i)
def phiS (ps b:Int) (x:BlkD) (i:Nat) (m:MW):Except Tr MW:=allS ps [(nth x.phis i).dst] b (-1-i) m
def endS (n b:Int) (x:BlkD) (m:MW):Except Tr MW:=
 if qf x.term then(if x.term.to.all (λt=>cz t 1 (n-1)) then .ok m else .error (14,b,x.ins.length)) else .error (10,b,x.ins.length)
def blkS (f:aq) (b:Nat) (m:MW):Except Tr MW:=
 match upE (phiS f.params b (nth f.blocks b)) (nth f.blocks b).phis.length m with
 | .error t=>.error t
 | .ok m1=>match upE (insS f.params b (nth f.blocks b)) (nth f.blocks b).ins.length m1 with
  | .error t=>.error t
  | .ok m2=>endS f.blocks.length b (nth f.blocks b) m2
def mW (f:aq) (m:MW):Except Tr MW:=upE (blkS f) f.blocks.length m
theorem Iw{r:Nat}{vb:Value}{f:aq}{m:MW}{h:Heap}(k:Lk h Kb r vb f m):
  ji RP 70 #[RM (RJ ⟨Kb,0,RK⟩)] h (λ_ h'=>∃m',mW f m = .ok m'/\Lk h' Kb r vb f m'/\Kept h h' (RJ r))
   (λch h'=>∃t,mW f m = .error t/\ch=trV t/\Kept h h' (RJ r)):=by
 refine iT (args:=[RM (RJ ⟨Kb,0,RK⟩)]) follows Tryz.func70 E.aJ RB λK Kp hK hKp=>?_;have hbb:=k.rb.bound;simp[L.aJ,ae db k.c1,k.rb.len];refine aV [0,18,19,20] (fun(_:Unit) b=>[RM (RJ ⟨Kb,0,RK⟩),vb,RG RH f.blocks.length,RG RH b]) (λ_ b h1=>∃m',upE (blkS f) b m = .ok m'/\Lk h1 Kb r vb f m'/\Kept h h1 (RJ r)) f.blocks.length ()
  rfl R3 rfl ⟨m,rfl,k,Kept.refl _ _⟩ (λ_ _=>rfl) (λv i h1 hk m=>by simp) ?_ ?_
 ·rintro _ b h1 hltb ⟨m1,hm1,k1,kp1⟩ K2 hK2;have hst:=jz hm1;have her : ∀{t},blkS f b m1 = .error t->mW f m = .error t:=λe=>qI hm1 hltb e;obtain⟨u,hu,hur⟩:=k1.rb.wh rfl (N:=6) rfl hltb;rw[blkS]at hst her;have hr1:=k1.map.lt;generalize hx:nth f.blocks b=x at hst her hur;refine aa λz hz=>?_;simp(disch:=omega)[k1.rb.idxn (N:=6) rfl,hu _ db];refine dt (z:=.agg #[RL RK 0 0,RL RK 0 0,RG RH 0,RL RK 0 0,RL RK 0 0,RG RI 0]) R1 rfl R1 hur R5 R5 λh2 hle2 hsz2 hat=>?_;have k2:=k1.ext hle2;have kp2:=kp1.trans (Kept.of_le hle2);have hat2:=hat (skip r h2) (Kept.of_le hle2).skip (nk R3);obtain⟨vp,vi,va,vt,bp,bi,bk,ba,bt⟩:=jm hat2;generalize h1.size=B at bp bi bk ba bt;subst hz;refine aa λz hz=>?_;simp[ae db bp.1,bp.2.len];have bph:=bp.2.bound;have bin:=bi.2.bound;have bto:=bt.2.bound;refine aV [0,2,3,18,19,20,26,27,28] (fun(_:Unit) i=>[RM (RJ ⟨Kb,0,RK⟩),RG RH b,RM (RJ ⟨B,0,RK⟩),vb,RG RH f.blocks.length,RG RH b,vp,RG RH x.phis.length,RG RH i])
   (λ_ i h3=>∃m',upE (phiS f.params b x) i m1 = .ok m'/\Lk h3 Kb r vb f m'/\Kept h2 h3 (RJ r)) x.phis.length ()
   rfl R3 rfl ⟨m1,rfl,k2,Kept.refl _ _⟩ (λ_ _=>rfl) (λv i h1 hk m=>by simp) ?_ ?_
  ·rintro _ i h3 hlti ⟨m3,hm3,k3,kp3⟩ K3 hK3;have bp3:=bp.2.mono kp3.skip;obtain⟨u5,hu5,hur5⟩:=bp3.wh rfl (N:=2) rfl hlti;have hr3:=k3.map.lt;have hst3:=jz hm3;have her3 : ∀{t},phiS f.params b x i m3 = .error t->upE (phiS f.params b x) x.phis.length m1 = .error t:=λe=>qI hm3 hlti e;rw[phiS]at hst3 her3;refine aa λy hy=>?_;simp(disch:=omega)[bp3.idxn (N:=2) rfl,hu5 _ db];refine dt (z:=.agg #[RG RH 0,RL RK 0 0]) R1 rfl R1 hur5 R5 R5 λh4 hle4 hsz4 hat4=>?_;have hat4':=hat4 (skip r h4) (Kept.of_le hle4).skip (nk R3);obtain⟨c0,_⟩:=Ar hat4';have rd:=(hat4'.part PhiD.iB).rng;generalize nth x.phis i=q at c0 rd hst3 her3;generalize h3.size=B3 at c0;subst hy;simp[ae db c0];refine mq (X:=nothing) (ds:=[q.dst]) (vs:=[RG RH q.dst]) rfl El.aQ Sa ⟨bg.2 ⟨rfl,rd⟩,trivial⟩ bO rfl R3 λu6 h5 hle5 hsz5 hu6 _=>?_;have k5:=(k3.ext hle4).ext hle5;have kp5:=(kp3.trans (Kept.of_le hle4)).trans (Kept.of_le hle5);have hr5:=k5.map.lt;simp(disch:=omega);refine en R1 (H4 k5 (hu6 _ bO (nk R3))) ?_ ?_
   ·rintro _ h6 ⟨m6,hm6,k6,kp6⟩;exact hK3 () _ _ rfl rfl ⟨m6,by rw[hst3,hm6],k6,kp5.trans kp6⟩
   rintro _ h6 ⟨t,ht,rfl,kp6⟩;exact⟨.inl rfl,hKp _ _ ⟨t,her (by rw[her3 ht]),rfl,(kp2.trans kp5).trans kp6⟩⟩
  rintro _ h3 ⟨m3,hm3,k3,kp3⟩;simp only[hm3]at hst her;simp;subst hz;refine aa λz hz=>?_;have bi3:=bi.2.mono kp3.skip;have ci3:=ae kp3.Ew bi.1;have kp03:=kp2.trans kp3;simp[ci3,bi3.len];refine aV [0,2,3,18,19,20,43,44,45] (fun(_:Unit) i=>[RM (RJ ⟨Kb,0,RK⟩),RG RH b,RM (RJ ⟨B,0,RK⟩),vb,RG RH f.blocks.length,RG RH b,vi,RG RH x.ins.length,RG RH i])
   (λ_ i h4=>∃m',upE (insS f.params b x) i m3 = .ok m'/\Lk h4 Kb r vb f m'/\Kept h3 h4 (RJ r)) x.ins.length ()
   rfl R3 rfl ⟨m3,rfl,k3,Kept.refl _ _⟩ (λ_ _=>rfl) (λv i h1 hk m=>by simp) ?_ ?_
  ·rintro _ i h4 hlti ⟨m4,hm4,k4,kp4⟩ K3 hK3;have bi4:=bi3.mono kp4.skip;obtain⟨u5,hu5,hur5⟩:=bi4.wh rfl (N:=5) rfl hlti;have hr4:=k4.map.lt;have hst4:=jz hm4;have her4 : ∀{t},insS f.params b x i m4 = .error t->upE (insS f.params b x) x.ins.length m3 = .error t:=λe=>qI hm4 hlti e;rw[insS]at hst4 her4;refine aa λy hy=>?_;simp(disch:=omega)[bi4.idxn (N:=5) rfl,hu5 _ db];refine dt (z:=.agg #[RG RH 0,RG RH 0,RG RH 0,RL RK 0 0,RG RI 0]) R1 rfl R1 hur5 R5 R5 λh5 hle5 hsz5 hat5=>?_;have hat5':=hat5 (skip r h5) (Kept.of_le hle5).skip (nk R3);obtain⟨c0,c1,c2,va5,ca5⟩:=fI hat5';have k5:=k4.ext hle5;have kp5:=kp4.trans (Kept.of_le hle5);have whole : ∃w,Un.ev (vw h5) (.aZ 5) (RM (RJ ⟨h4.size,0,RK⟩))=RJ w/\Rd (vw h5) w (nth x.ins i):=by obtain⟨w,w1,w2⟩:=(hat5'.mono db).aZ rfl;exact⟨w,w1,w2⟩
   obtain⟨w,w1,w2⟩:=whole;generalize nth x.ins i=q at c0 c1 c2 ca5 hst4 her4 w2;generalize h4.size=B4 at c0 c1 c2 ca5 w1;subst hy;refine aa λy hy=>?_;simp[ae db c0];refine ah R1 kZ ?_;rintro _ _ ⟨rfl,rfl⟩;refine en R1 iI ?_ ?_;rotate_left
   ·rintro _ _ ⟨e,rfl,rfl⟩;exact⟨.inl rfl,hKp _ _ ⟨_,her (by rw[her4 (by rw[if_neg (by simp[e])])]),rfl,kp03.trans kp5⟩⟩
   rintro _ _ ⟨e1,rfl⟩;subst hy;refine aa λy hy=>?_;simp[ae db c0];refine ah R1 CC ?_;rintro _ _ ⟨rfl,rfl⟩;simp;subst hy;refine aa λy hy=>?_;simp[ae db ca5.1,ca5.2.len];refine ah R1 kZ ?_;rintro _ _ ⟨rfl,rfl⟩;refine en R1 iI ?_ ?_;rotate_left
   ·rintro _ _ ⟨e,rfl,rfl⟩;exact⟨.inl rfl,hKp _ _ ⟨_,her (by rw[her4 (by rw[if_neg (by simp[e])])]),rfl,kp03.trans kp5⟩⟩
   rintro _ _ ⟨e2,rfl⟩;subst hy;simp[w1];refine ah R1 (Bg w2) ?_;rintro u6 h6 ⟨hle6,hu6⟩;have k6:=k5.ext hle6;have kp6:=kp5.trans (Kept.of_le hle6);rw[if_pos (by simp[e1,e2])]at hst4 her4;have hr5:=k5.map.lt;refine en R1 (H4 k6 (hu6.mono λb o hb=>?_)) ?_ ?_
   ·unfold fresh at hb;unfold Lft.skip;split at hb
    ·cases hb
    rw[if_neg R3];exact hb
   ·rintro _ h7 ⟨m7,hm7,k7,kp7⟩;exact hK3 () _ _ rfl rfl ⟨m7,by rw[hst4,hm7],k7,kp6.trans kp7⟩
   rintro _ h7 ⟨t,ht,rfl,kp7⟩;exact⟨.inl rfl,hKp _ _ ⟨t,her (by rw[her4 ht]),rfl,(kp03.trans kp6).trans kp7⟩⟩
  rintro _ h4 ⟨m4,hm4,k4,kp4⟩;simp only[hm4]at hst her;simp;subst hz;refine aa λz hz=>?_;have kp24:=kp3.trans kp4;have hr4:=k4.map.lt;have ck4:=ae kp24.skip bk;have hc : ∀{h5:Heap},Kept h4 h5 (RJ r)->(skip r h4).le (vw h5):=λhk=>hk.Ew;have cellsS : ∀o:Option Sh,((o.map encS).getD (.agg #[RG RH 0,RG RH 0,RG RH 0,RG RH 0]))=encS (o.getD (0,0,0,0)):=λo=>by cases o<;>rfl
  have hone : ∀s:Sh,∀c∈(encS s).cells.toList,c.oneCell'=true:=λs=>by simp[encS,Value.oneCell']
  refine ff (λρ h5=>∃(B5:Nat) (v79 v83:Value) (tl:Env),ρ=[(0,RM (RJ ⟨Kb,0,RK⟩)),(2,RG RH b),(3,RM (RJ ⟨B,0,RK⟩)),(10,RM (RJ ⟨B5,0,RK⟩)),(11,.bool (gy x.term.kind).isSome),(18,vb),(19,RG RH f.blocks.length),(20,RG RH b),(43,vi),
    (44,RG RH x.ins.length),(45,RG RH x.ins.length),(79,v79),(82,RG RH x.term.kind),(83,v83)]++tl/\Lk h5 Kb r vb f m4/\Kept h4 h5 (RJ r)/\B5≠r/\h5[B5]? = RJ (.cells (encS ((gy x.term.kind).getD (0,0,0,0))).cells T.dQ (0,0))) ?_ ?_
  ·intro K3 hK3;refine aH (skip r h4) db ?_;simp[ck4];refine⟨?_,?_⟩
   ·refine ah R1 y9 ?_;rintro _ h5 ⟨rfl,hle5,hm5⟩;have hs5:=cw hle5;refine⟨hc (Kept.of_le hle5),?_,?_⟩
    ·refine np (z:=.agg #[RG RH 0,RG RH 0,RG RH 0,RG RH 0]) U.eA U.int R1 (by simp<;>rfl) (by simp<;>rfl) fH hm5 ?_;rw[qD,cellsS,Ro];simp;refine fG (n:=4) (v:=encS ((gy x.term.kind).getD (0,0,0,0))) (z:=.agg #[RG RH 0,RG RH 0,RG RH 0,RG RH 0]) R1 rfl R1 rfl (hone _) R5 R5 λh6 hle6 hsz6 hb6=>?_;exact hK3 _ _ ⟨_,_,_,_,rfl,(k4.ext hle5).ext hle6,(Kept.of_le hle5).trans (Kept.of_le hle6),by omega,hb6⟩
    refine cZ (z:=.agg #[RG RH 0,RG RH 0,RG RH 0,RG RH 0]) R1 ?_;have hle6:=bM h5 (.cells (Value.cells (.agg #[RG RH 0,RG RH 0,RG RH 0,RG RH 0])) T.dQ);have hb6:(h5.push (.cells (Value.cells (.agg #[RG RH 0,RG RH 0,RG RH 0,RG RH 0])) T.dQ))[h5.size]? = RJ (.cells (Value.cells (.agg #[RG RH 0,RG RH 0,RG RH 0,RG RH 0])) T.dQ (0,0)):=by simp
    have hs6:(h5.push (.cells (Value.cells (.agg #[RG RH 0,RG RH 0,RG RH 0,RG RH 0])) T.dQ)).size=h5.size+1:=by simp
    generalize h5.push (.cells (Value.cells (.agg #[RG RH 0,RG RH 0,RG RH 0,RG RH 0])) T.dQ)=h6 at hle6 hb6 hs6;refine⟨hc ((Kept.of_le hle5).trans (Kept.of_le hle6)),?_⟩;refine np (z:=.agg #[RG RH 0,RG RH 0,RG RH 0,RG RH 0]) U.eA U.int R1 (by simp<;>rfl) (by simp<;>rfl) fH (hm5.ext hle6) ?_;rw[qD,cellsS,Ro];simp;refine eJ (g:=h5.size) (o:=0) (n:=4) (v:=encS ((gy x.term.kind).getD (0,0,0,0))) R1 rfl rfl rfl (hone _) hb6 Sa λh7 hs7 ⟨row,hb7,hrow⟩ ho7=>?_;have hrow2:row=(encS ((gy x.term.kind).getD (0,0,0,0))).cells:=by rw[<-Array.toList_inj,hrow];simp
    rw[hrow2]at hb7;have kp7:Kept h4 h7 (RJ r):=⟨by omega,λq hq hne=>by rw[ho7 q R3];exact hle6 _ _ (hle5 _ _ (N6 hq)) |>.trans (N6 hq).symm⟩;exact hK3 _ _ ⟨_,_,_,_,rfl,k4.kept kp7 (((k4.map.ext hle5).ext hle6).same (ho7 r R3)),kp7,by omega,hb7⟩
   refine cZ (z:=.agg #[RG RH 0,RG RH 0,RG RH 0,RG RH 0]) R1 ?_;have hle5:=bM h4 (.cells (Value.cells (.agg #[RG RH 0,RG RH 0,RG RH 0,RG RH 0])) T.dQ);have hb5:(h4.push (.cells (Value.cells (.agg #[RG RH 0,RG RH 0,RG RH 0,RG RH 0])) T.dQ))[h4.size]? = RJ (.cells (Value.cells (.agg #[RG RH 0,RG RH 0,RG RH 0,RG RH 0])) T.dQ (0,0)):=by simp
   have hs5:(h4.push (.cells (Value.cells (.agg #[RG RH 0,RG RH 0,RG RH 0,RG RH 0])) T.dQ)).size=h4.size+1:=by simp
   generalize h4.push (.cells (Value.cells (.agg #[RG RH 0,RG RH 0,RG RH 0,RG RH 0])) T.dQ)=h5 at hle5 hb5 hs5;refine⟨hc (Kept.of_le hle5),?_⟩;refine ah R1 y9 ?_;rintro _ h6 ⟨rfl,hle6,hm6⟩;have hs6:=cw hle6;refine⟨hc ((Kept.of_le hle5).trans (Kept.of_le hle6)),?_⟩;refine np (z:=.agg #[RG RH 0,RG RH 0,RG RH 0,RG RH 0]) U.eA U.int R1 (by simp<;>rfl) (by simp<;>rfl) fH hm6 ?_;rw[qD,cellsS,Ro];simp;refine eJ (g:=h4.size) (o:=0) (n:=4) (v:=encS ((gy x.term.kind).getD (0,0,0,0))) R1 rfl rfl rfl (hone _) (hle6 _ _ hb5) Sa λh7 hs7 ⟨row,hb7,hrow⟩ ho7=>?_;have hrow2:row=(encS ((gy x.term.kind).getD (0,0,0,0))).cells:=by rw[<-Array.toList_inj,hrow];simp
   rw[hrow2]at hb7;have kp7:Kept h4 h7 (RJ r):=⟨by omega,λq hq hne=>by rw[ho7 q R3];exact hle6 _ _ (hle5 _ _ (N6 hq)) |>.trans (N6 hq).symm⟩;exact hK3 _ _ ⟨_,_,_,_,rfl,k4.kept kp7 (((k4.map.ext hle5).ext hle6).same (ho7 r R3)),kp7,by omega,hb7⟩
  rintro ρ h5 ⟨B5,v79,v83,tl,rfl,k5,kp5,hB5,hb5⟩;subst hz;refine aa λz hz=>?_;have kp25:=kp24.trans kp5;have ci5:=ae kp25.skip bi.1;have bi5:=bi.2.mono kp25.skip;have ca5:=ae kp25.skip ba.1;have ba5:=ba.2.mono kp25.skip;have ct5:=ae kp25.skip bt.1;have bt5:=bt.2.mono kp25.skip;have hb5':skip r h5 B5=RJ (.cells (encS ((gy x.term.kind).getD (0,0,0,0))).cells T.dQ (0,0)):=by rw[nk hB5];exact hb5
  generalize hsh:(gy x.term.kind).getD (0,0,0,0)=s at hb5';have d0:an (skip r h5) ⟨B5,0,RK⟩=RJ (RG RH s.1):=de hb5' rfl;have d1:an (skip r h5) ⟨B5,1,RK⟩=RJ (RG RH s.2.1):=de hb5' rfl;have d2:an (skip r h5) ⟨B5,2,RK⟩=RJ (RG RH s.2.2.1):=de hb5' rfl;have d3:an (skip r h5) ⟨B5,3,RK⟩=RJ (RG RH s.2.2.2):=de hb5' rfl;have hto:qf x.term=((gy x.term.kind).isSome&&(cz x.term.args.length s.1 s.2.1&&cz x.term.to.length s.2.2.1 s.2.2.2)):=by rw[qf,<-hsh];cases gy x.term.kind<;>rfl
  refine aH (skip r h5) db ?_;have bad:qf x.term=RO->∀ch,ch=trV (10,(b:Int),(x.ins.length:Int))->Kp ch h5:=λe ch hch=>hKp _ _ ⟨_,her (by rw[endS,if_neg (by simp[e])]),hch,kp03.trans (kp4.trans kp5)⟩;have good:qf x.term=RN->∀tl:Env,@LC.wp (ppOf Kp) RP z (fe 1 (eU K2 (fe 0 (@cO [] K)))) ([(0,RM (RJ ⟨Kb,0,RK⟩)),(2,RG RH b),(3,RM (RJ ⟨B,0,RK⟩)),(10,RM (RJ ⟨B5,0,RK⟩)),(11,.bool RN),(18,vb),(19,RG RH f.blocks.length),(20,RG RH b),(43,vi),
   (44,RG RH x.ins.length),(45,RG RH x.ins.length),(79,v79),(82,RG RH x.term.kind),(83,v83)]++tl) h5:=by
   intro hgood tl;subst hz;have ct5':=ae db ct5;have cb5:=k5.c1;have hne:0<f.blocks.length:=by omega
   simp[ct5',bt5.len];refine aV [0,2,3,18,19,20,116,117,118] (fun(_:Unit) i=>[RM (RJ ⟨Kb,0,RK⟩),RG RH b,RM (RJ ⟨B,0,RK⟩),vb,RG RH f.blocks.length,RG RH b,vt,RG RH x.term.to.length,RG RH i])
    (λ_ i h6=>h6=h5/\∀j,j<i->cz (nth x.term.to j) 1 (f.blocks.length-1)=RN) x.term.to.length ()
    rfl R3 (by simp[bF,af,ag]) ⟨rfl,λj hj=>by omega⟩ (λ_ _=>rfl) (λv i h1 hk m=>by simp) ?_ ?_
   ·rintro _ i h5 hlti ⟨rfl,hpre⟩ K3 hK3;refine aa λy hy=>?_;simp(disch:=omega)[bt5.idx1 rfl,bt5.int db];subst hy;refine aH (skip r h5) db ?_;simp(disch:=omega)[ci5,bi5.len,cb5,k5.rb.len];refine ah R1 kZ ?_;rintro _ _ ⟨rfl,rfl⟩;refine⟨db,?_⟩;refine en R1 iI ?_ ?_
    ·rintro _ _ ⟨e,rfl⟩;refine hK3 () _ _ rfl rfl ⟨rfl,λj hj=>?_⟩;rcases NQ j i with h | h
     ·exact hpre j h
     have:j=i:=by omega
     subst this;exact e
    rintro ch _ ⟨e,hch,rfl⟩;refine⟨.inr λ_=>trivial,hKp _ _ ⟨_,her ?_,hch,kp03.trans (kp4.trans kp5)⟩⟩;rw[endS,if_pos hgood,if_neg];intro ha;rw[OJ.1 ha _ (bz hlti)]at e;cases e
   rintro _ h5 ⟨rfl,hpre⟩;simp;refine hK2 () _ _ rfl rfl ⟨m4,?_,k5,kp03.trans (kp4.trans kp5)⟩;rw[hst,endS,if_pos hgood,if_pos];rw[OJ];intro y hy;obtain⟨j,hj,rfl⟩:=N7 hy;rw[<-aA hj];exact hpre j hj
  cases hso:(gy x.term.kind).isSome with
  | false=>
   simp[ci5,bi5.len,d0,d1,d2,d3,ca5,ba5.len,ct5,bt5.len,af,ag];refine en R1 iI ?_ ?_
   ·rintro _ _ ⟨e,_⟩;cases e
   rintro ch _ ⟨_,hch,rfl⟩;exact⟨.inr λ_=>trivial,bad (by rw[hto,hso];rfl) _ hch⟩
  | true=>
   rw[hso,Pj]at hto;simp[ci5,bi5.len,d0,d1,d2,d3,ca5,ba5.len,ct5,bt5.len,af,ag];refine ah R1 kZ ?_;rintro _ _ ⟨rfl,rfl⟩;refine⟨db,?_⟩;cases hw1:cz x.term.args.length s.1 s.2.1 with
   | false=>
    simp[af,ag];refine en R1 iI ?_ ?_
    ·rintro _ _ ⟨e,_⟩;cases e
    rintro ch _ ⟨_,hch,rfl⟩;exact⟨.inr λ_=>trivial,bad (by rw[hto,hw1];rfl) _ hch⟩
   | true=>
    simp[af,ag];refine ah R1 kZ ?_;rintro _ _ ⟨rfl,rfl⟩;refine⟨db,?_⟩;refine en R1 iI ?_ ?_
    ·rintro _ _ ⟨e,rfl⟩;exact good (by rw[hto,hw1,e];rfl) _
    rintro ch _ ⟨e,hch,rfl⟩;exact⟨.inr λ_=>trivial,bad (by rw[hto,hw1,e];rfl) _ hch⟩
 rintro _ h1 ⟨m1,hm1,k1,kp1⟩;simp;exact hK _ _ ⟨m1,hm1,k1,kp1⟩
theorem rX : ∀{a b:List Int},a.Pairwise (· < ·)->b.Pairwise (· < ·)->(∀x,x∈a↔x∈b)->a=b
 | [],[],_,_,_=>rfl
 | [],y::b,_,_,h=>by have:=(h y).2 (NX ..);cases this
 | x::a,[],_,_,h=>by have:=(h x).1 (NX ..);cases this
 | x::a,y::b,ha,hb,h=>by
  obtain⟨a1,a2⟩:=Q7.1 ha;obtain⟨b1,b2⟩:=Q7.1 hb;have e:x=y:=by
   rcases N5.1 ((h x).1 (NX ..))with e | h1
   ·exact e
   rcases N5.1 ((h y).2 (NX ..))with e | h2
   ·exact e.symm
   have:=a1 y h2;have:=b1 x h1;omega
  subst e;rw[rX a2 b2 λz=>?_];constructor
  ·intro hz;rcases N5.1 ((h z).1 (NZ _ hz))with e | h1
   ·have:=a1 z hz;omega
   exact h1
  intro hz;rcases N5.1 ((h z).2 (NZ _ hz))with e | h1
  ·have:=b1 z hz;omega
  exact h1
theorem AH(l:List Int):(qU l).Pairwise (·<=·):=by have:=List.pairwise_mergeSort (le:=λx y:Int=>decide (x<=y)) (λa b c h1 h2=>by simp at *;omega) (λa b=>by simp;omega) l;exact this.imp λh=>by simpa using h
theorem get!_nth{l:List Int}{i:Nat}:l.toArray[i]! = nth l i:=by simp[nth,Py]
theorem xJ{l:List Int}(hs:l.Pairwise (·<=·)){i j:Nat}(hij:i<=j)(hj:j<l.length):nth l i<=nth l j:=by
 rw[aA R3,aA hj];rcases NQ i j with h | h
 ·exact List.pairwise_iff_getElem.1 hs i j R3 hj h
 have:i=j:=by omega
 subst this;exact QB _
theorem yz{l:List Int}(hs:l.Pairwise (·<=·)):(Lib.compact l).Pairwise (· < ·):=by unfold Lib.compact Lib.compactUpTo;rw[List.pairwise_map,List.pairwise_filter];refine(List.pairwise_lt_range (n:=l.length)).imp_of_mem fun{i j} hi hj hij ki kj=>?_;simp only[PC]at hi hj;simp only[Lib.keeps,get!_nth,decide_eq_true_eq]at kj;rw[get!_nth,get!_nth];have h1:=xJ hs (i:=i) (j:=j-1) R3 R3;have h2:=xJ hs (i:=j-1) (j:=j) R3 hj;rcases kj with h | h<;>omega
theorem wG{l:List Int}{x:Int}:x∈Lib.compact l↔x∈l:=by
 refine⟨qh,λhx=>?_⟩;obtain⟨j,hj,rfl⟩:=N7 hx;have key : ∀j,j<l.length->nth l j∈Lib.compact l:=by
  intro j;induction j with
  | zero=>intro h;unfold Lib.compact Lib.compactUpTo;refine Pk.2 ⟨0,PZ.2 ⟨by simpa using h,by simp[Lib.keeps]⟩,get!_nth⟩
  | succ j ih=>
   intro h;by_cases he:nth l (j+1)=nth l j
   ·rw[he];exact ih R3
   unfold Lib.compact Lib.compactUpTo;refine Pk.2 ⟨j+1,PZ.2 ⟨by simpa using h,by simp only[Lib.keeps,get!_nth,decide_eq_true_eq];exact .inr (by simpa using he)⟩,get!_nth⟩
 rw[<-aA hj];exact key j hj
theorem oQ{β:Type}{p:Nat->Bool}{x:Nat->β}{y:β}:y∈sift p x n↔∃i,i<n/\p i=RN/\x i=y:=by rw[rj];simp[and_assoc]
theorem AQ{n:Int}:(me row n).Pairwise (· < ·):=yz (AH _)
theorem uN{n x:Int}:x∈me row n↔x∈row/\0<=x/\x<n:=by
 rw[me,wG,qU,Q5,oQ];simp only[qg,NS,decide_eq_true_eq];constructor
 ·rintro⟨i,hi,h,rfl⟩;exact⟨bz hi,h⟩
 rintro⟨h,h1⟩;obtain⟨i,hi,rfl⟩:=N7 h;exact⟨i,hi,by rw[aA hi];exact h1,aA hi⟩
theorem iY{g:Gr}{a:Int}:oE g a b=RN↔(0<=a/\a<g.length/\0<=b/\b<g.length)/\b∈nth g a.toNat:=by simp[oE]
theorem Bo{p:Nat->Bool}:(sift p (λb=>(b:Int)) n).Pairwise (· < ·):=by rw[rj,List.pairwise_map,List.pairwise_filter];exact List.pairwise_lt_range.imp λh _ _=>by omega
theorem iq{g:Gr}{a:Int}:b∈mb g a↔oE g a b=true:=by
 rw[mb,oQ];constructor
 ·rintro⟨i,_,h,rfl⟩;exact h
 intro h;have:=(iY.1 h).1;exact⟨b.toNat,by omega,by rw[N9 R3];exact h,N9 R3⟩
theorem tq{g:Gr}{a:Int}:(mb g a).Pairwise (· < ·):=Bo
theorem xQ{g:Gr}{a:Nat}(ha:a<g.length):nth (dE g) a=mb g a:=by rw[dE,gG ha];refine rX AQ tq λx=>?_;rw[uN,iq,iY,Ow];exact⟨λ⟨h1,h2,h3⟩=>⟨⟨by omega,by omega,h2,h3⟩,h1⟩,λ⟨⟨_,_,h2,h3⟩,h1⟩=>⟨h1,h2,h3⟩⟩
theorem Cg{f k:Nat->List Int}(h : ∀a,a<n->f a=k a):kL f n=kL k n:=by
 induction n with
 | zero=>rfl
 | succ n ih=>rw[jN,jN,ih λa ha=>h a R3,h n R3]
theorem FH{g:Gr}:jv g=kL (λa=>mb g a) g.length:=Cg λa ha=>xQ ha
theorem H5{l:List (Int × Int)}: ∀{p:Gr} {i:Nat},i<p.length->nth (l.foldl fA p) i=nth p i++(l.filter λe=>decide (e.2.toNat=i)).map Prod.fst:=by
 induction l with
 | nil=>intro p i _;simp
 | cons e l ih=>
  intro p i hi;rw[N8,ih (by simpa[fA]using hi),fA,bN hi,QM];split
  ·rename_i h;simp[h]
  rename_i h;simp[h]
theorem filter_one{l:List Int}(hs:l.Pairwise (· < ·)):l.filter (λx=>decide (x=b))=if b∈l then[b] else[]:=by
 induction l with
 | nil=>simp
 | cons x l ih=>
  obtain⟨h1,h2⟩:=Q7.1 hs;rw[QM,ih h2];by_cases hx:x=b
  ·subst hx;have:¬x∈l:=λh=>by have:=h1 x h;omega
   simp[this]
  simp[hx,Ne.symm hx]
theorem GZ{f:Nat->List Int}(hf : ∀a,(f a).Pairwise (· < ·))(hp : ∀a,∀x∈f a,0<=x){b:Nat}:((kL f n).filter λe=>decide (e.2.toNat=b)).map Prod.fst=sift (λa=>decide ((b:Int)∈f a)) (λa=>(a:Int)) n:=by
 induction n with
 | zero=>rfl
 | succ n ih=>
  rw[jN,Q1,PY,ih];have e1:((f n).map λb=>((n:Int),b)).filter (λe=>decide (e.2.toNat=b))=((f n).filter λx=>decide (x=(b:Int))).map λb=>((n:Int),b):=by rw[List.filter_map];congr 1;refine Rq λx hx=>?_;have:=hp n x hx;simp only[Function.comp,decide_eq_decide];omega
  rw[e1,filter_one (hf n)];by_cases h:(b:Int)∈f n
  ·rw[if_pos h,oI (by simpa using h)];rfl
  rw[if_neg h,nb (by simpa using h)];simp
theorem qt{g:Gr}:(dN g).length=g.length:=by rw[dN,pk];simp
theorem By{g:Gr}:dN g=uC g:=by
 refine yN (by rw[qt,DE]) λb hb=>?_;rw[qt]at hb;rw[dN,H5 (by simpa using hb),aI hb,OW,uC,gG hb,FH,GZ (λ_=>tq) (λa x hx=>by have:=(iY.1 (iq.1 hx)).1;omega)];have e:(λa:Nat=>decide ((b:Int)∈mb g a))=λa:Nat=>oE g a b:=by funext a;rw[OA];simp[iq]
 rw[e]
theorem EU{g:Gr}{a:Int}(hb:0<=b/\b<g.length):a∈nth (dN g) b.toNat↔oE g a b=true:=by
 rw[By,uC,gG R3,oQ];constructor
 ·rintro⟨i,_,h,rfl⟩;rwa [N9 hb.1]at h
 intro h;have:=(iY.1 h).1;exact⟨a.toNat,by omega,by rw[N9 R3,N9 R3];exact h,N9 R3⟩
structure Le (x y:List Bool):Prop where
 len:y.length=x.length
 le : ∀i,nth x i=RN->nth y i=RN
theorem Le.refl(x:List Bool):Le x x:=⟨rfl,λ_ h=>h⟩
theorem Le.trans {x y z:List Bool} (h:Le x y) (k:Le y z):Le x z:=⟨k.len.trans h.len,λi e=>k.le i (h.le i e)⟩
theorem Le.antisymm{x y:List Bool}(h:Le x y)(k:Le y x):x=y:=by refine yN h.len.symm λi _=>?_;rw[OA];exact⟨h.le i,k.le i⟩
theorem Le.dH : ∀{x y:List Bool},Le x y->x=y\/dH y<dH x
 | [],y,h=>.inl (N3 h.len).symm
 | a::x,y,h=>by
  match y,h with
  | [],h=>have:=h.len;simp at this
  | b::y,h=>
   have h2:Le x y:=⟨by simpa using h.len,λi e=>by have:=h.le (i+1);simpa[nth]using this (by simpa[nth]using e)⟩;have h0:a=RN->b=true:=λe=>by have:=h.le 0;simpa[nth]using this (by simpa[nth]using e)
   unfold Go.Proofs.YtnfiilgdjpdlkaaGreatDoor.dH;rcases h2.dH with rfl | h3
   ·cases a<;>cases b<;>simp at h0 ⊢
   unfold Go.Proofs.YtnfiilgdjpdlkaaGreatDoor.dH at h3;cases a<;>cases b<;>simp at h0 ⊢<;>omega
theorem Lc{x:List Bool}{i:Nat}{b:Bool}(hb:nth x i=RN->b=RN):Le x (x.set i b):=by
 refine⟨by simp,λj hj=>?_⟩;rcases NQ j x.length with h | h
 ·rw[bN h];split
  ·rename_i e;subst e;exact hb hj
  exact hj
 rw[dp h]at hj;cases hj
theorem zI {f:Nat->List Bool->List Bool} (hf : ∀k x,Le x (f k x)) (x:List Bool) : ∀n m,n<=m->Le (up f n x) (up f m x)
  | n,0,h=>by
                  obtain rfl:n=0:=by omega
                  exact Le.refl _
  | n,m+1,h=>by
    rcases NQ n (m+1)with h1 | h1
    · exact(zI hf x n m R3).trans (hf m _)
    · obtain rfl:n=m+1:=by omega
      exact Le.refl _
theorem J5{f:Nat->List Bool->List Bool}(hf : ∀k x,Le x (f k x)){x:List Bool}(h:up f n x=x): ∀k,k<n->f k x=x:=by
 have key : ∀k,k<=n->up f k x=x:=λk hk=>by have h1:=zI hf x k n hk;rw[h]at h1;have h2:=zI hf x 0 k (PV _);exact(h2.antisymm h1).symm
 intro k hk;have h1:=key (k+1) R3;rw[up,key k R3]at h1;exact h1
theorem Bz {β:Type} {F:β->β} : ∀(n:Nat) (x:β),up (λ_=>F) (n+1) x=up (λ_=>F) n (F x)
 | 0,x=>rfl
 | n+1,x=>by show F (up (λ_=>F) (n+1) x)=F (up (λ_=>F) n (F x));rw[Bz n x]
theorem Bk {β:Type} {F:β->β} {x:β} (h:F x=x) : ∀n,up (λ_=>F) n x=x
 | 0=>rfl
 | n+1=>by show F (up (λ_=>F) n x)=x;rw[Bk h n,h]
theorem Hu {F:List Bool->List Bool} (hF : ∀x,Le x (F x)) : ∀(n:Nat) (x:List Bool),dH x<=n->F (up (λ_=>F) n x)=up (λ_=>F) n x
 | 0,x,h=>by
  rcases(hF x).dH with e | e
  ·exact e.symm
  omega
 | n+1,x,h=>by
  rw[Bz];rcases(hF x).dH with e | e
  ·rw[<-e,Bk e.symm];exact e.symm
  exact Hu hF n _ R3
inductive Re (g:Gr) (gone:Int):Nat->Prop
 | root:0<g.length->gone≠0->Re g gone 0
 | step {a b:Nat}:Re g gone a->oE g a b=RN->(b:Int)≠gone->Re g gone b
theorem Re.lt{g:Gr}{gone:Int}{b:Nat}(h:Re g gone b):b<g.length:=by
 cases h with
 | root h _=>exact h
 | step _ h _=>have:=(iY.1 h).1;omega
variable{gone:Int}
theorem Re.ne{g:Gr}{b:Nat}(h:Re g gone b):(b:Int)≠gone:=by
 cases h with
 | root _ h=>exact λe=>h e.symm
 | step _ _ h=>exact h
theorem Re.all{g:Gr}{b:Nat}(h:Re g gone b):Re g (-1) b:=by
 induction h with
 | root h _=>exact .root h R4
 | step _ h _ ih=>exact .step ih h R3
theorem xN{l:List Int}{i:Nat}{x:List Bool}:Le x (wI gone l i x):=Lc λh=>by rw[h];rfl
theorem vW{g:Gr}{a:Nat}{x:List Bool}:Le x (outBlock g gone a x):=by
 unfold outBlock;split
 ·exact zI (λk x=>xN) x 0 _ (PV _)
 exact Le.refl _
theorem vZ{g:Gr}{x:List Bool}:Le x (oN g gone x):=zI (λk x=>vW) x 0 _ (PV _)
theorem AJ{β:Type}(I:β->Prop){f:Nat->β->β}(hf : ∀k x,k<n->I x->I (f k x)){x:β}(hx:I x):I (up f n x):=by
 have : ∀m,m<=n->I (up f m x):=by
  intro m;induction m with
  | zero=>exact λ_=>hx
  | succ m ih=>exact λh=>hf _ _ R3 (ih R3)
 exact this n (NO _)
theorem Ad{g:Gr}{b:Nat}:nth (oA g gone) b=RN↔Re g gone b:=by
 by_cases h0:g.length=0\/gone=0
 ·rw[oA,if_pos h0];constructor
  ·intro h;rcases NQ b g.length with h1 | h1
   ·rw[aI h1]at h;cases h
   rw[dp (by simpa using h1)]at h;cases h
  intro h;exfalso;induction h with
  | root h1 h2=>rcases h0 with h0 | h0;omega;exact h2 h0
  | step _ _ _ ih=>exact ih
 rw[oA,if_neg h0];have hg:g.length≠0:=λe=>h0 (.inl e);have hgone:gone≠0:=λe=>h0 (.inr e);have hinit:((List.replicate g.length RO).set 0 RN).length=g.length:=by simp
 constructor
 ·have hI : ∀x:List Bool,(∀b,nth x b=RN->Re g gone b)->∀b,nth (oN g gone x) b=RN->Re g gone b:=by
   intro x hx;refine AJ (λx:List Bool=>∀b,nth x b=RN->Re g gone b) (λa x ha hx=>?_) hx;unfold outBlock;split
   ·rename_i hxa;have hra:=hx a hxa;refine AJ (λx:List Bool=>∀b,nth x b=RN->Re g gone b) (λi x hi hx=>?_) hx;intro b hb;have hm:=bz hi;have hed:=iq.1 hm;have hrng:=(iY.1 hed).1;unfold wI at hb;rcases NQ b x.length with h1 | h1
    ·rw[bN h1]at hb;split at hb
     ·rename_i e;rcases(OV _ _).mp hb with h2 | h2
      ·rw[e]at h2;exact hx b h2
      have eb:(b:Int)=nth (mb g a) i:=by omega
      exact .step hra (by rw[eb];exact hed) (by rw[eb];simpa using h2)
     exact hx b hb
    rw[dp (by simpa using h1)]at hb;cases hb
   exact hx
  exact AJ (λx:List Bool=>∀b,nth x b=RN->Re g gone b) (λ_ x _ hx=>hI x hx) (λb hb=>by
   rcases NQ b g.length with h1 | h1
   ·rw[bN (by simpa using h1)]at hb;split at hb
    ·rename_i e;subst e;exact .root R3 hgone
    rw[aI h1]at hb;cases hb
   rw[dp (by simpa using h1)]at hb;cases hb) b
 intro h;have hfix:=Hu (F:=oN g gone) (λx=>vZ) g.length ((List.replicate g.length RO).set 0 RN) (by
  have:=y7 (t:=List.replicate g.length RO) (i:=0);have h2:dH (List.replicate g.length RO)=g.length:=by simp[dH]
  omega);have hle:=zI (f:=λ_=>oN g gone) (λ_ x=>vZ) ((List.replicate g.length RO).set 0 RN) 0 g.length (PV _);generalize up (λ_=>oN g gone) g.length ((List.replicate g.length RO).set 0 RN)=x at hfix hle;have hxl:x.length=g.length:=hle.len.trans hinit;induction h with
 | root h1 _=>exact hle.le 0 (by show nth ((List.replicate g.length RO).set 0 RN) 0=RN;rw[bN (by simpa using h1),if_pos rfl])
 | step ha he hb ih=>rename_i a b;have hrng:=(iY.1 he).1;have h1:=J5 (λk x=>vW) hfix a R3;rw[outBlock,if_pos ih]at h1;obtain⟨i,hi,e⟩:=N7 (iq.2 he);have h2:=J5 (λk x=>xN) h1 i hi;rw[<-aA hi]at e;unfold wI at h2;rw[e]at h2;have h3:=congrArg (λl=>nth l b) h2;simp only[Ow]at h3;rw[bN R3,if_pos rfl]at h3;rw[<-h3];simp[hb]
theorem qw{g:Gr}{a b:Nat}:domC g a b=RN↔Re g (-1) a/\Re g (-1) b/\¬Re g a b:=by
 rw[domC];simp only[NS,OV,Pl,decide_eq_true_eq,Ad,OU,ne_eq];constructor
 ·rintro⟨⟨h1,h2⟩,h3⟩;refine⟨h1,h2,?_⟩;rcases h3 with h3 | h3
  ·exact λh=>h.ne h3.symm
  exact h3
 rintro⟨h1,h2,h3⟩;exact⟨⟨h1,h2⟩,.inr h3⟩
def Bef (l:List Int) (u v:Int):Prop:=∃p q,l=p++u::q/\v∈q
theorem Bef.app{l:List Int}{u v:Int}(h:Bef l u v)(t:List Int):Bef (l++t) u v:=by obtain⟨p,q,rfl,hv⟩:=h;exact⟨p,q++t,by simp,O9 _ hv⟩
theorem Bef.pre{l:List Int}{u v:Int}(h:Bef l u v)(t:List Int):Bef (t++l) u v:=by obtain⟨p,q,rfl,hv⟩:=h;exact⟨t++p,q,by simp,hv⟩
theorem Bef.EI{l t:List Int}{u v:Int}(hu:u∈l)(hv:v∈t):Bef (l++t) u v:=by obtain⟨p,q,rfl⟩:=List.append_of_mem hu;exact⟨p,q++t,by simp,O6 _ hv⟩
theorem Bef.mem{l:List Int}{u v:Int}(h:Bef l u v):u∈l/\v∈l:=by obtain⟨p,q,rfl,hv⟩:=h;exact⟨by simp,by simp[hv]⟩
inductive Adv (nx:Int->List Int) (l:List Int) (u:Int):Int->Prop
 | self:Adv nx l u u
 | step {p q:Int}:Adv nx l u p->q∈nx p->Bef l q p->Adv nx l u q
theorem Adv.app {nx:Int->List Int} {l:List Int} {u v:Int} (h:Adv nx l u v) (t:List Int):Adv nx (l++t) u v:=by
 induction h with
 | self=>exact .self
 | step _ h1 h2 ih=>exact .step ih h1 (h2.app t)
theorem Adv.pre {nx:Int->List Int} {l:List Int} {u v:Int} (h:Adv nx l u v) (t:List Int):Adv nx (t++l) u v:=by
 induction h with
 | self=>exact .self
 | step _ h1 h2 ih=>exact .step ih h1 (h2.pre t)
theorem Adv.trans{nx:Int->List Int}{l:List Int}{u v w:Int}(h:Adv nx l u v)(k:Adv nx l v w):Adv nx l u w:=by
 induction k with
 | self=>exact h
 | step _ h1 h2 ih=>exact .step ih h1 h2
def vis (s:List Bool × List Int) (x:Int):Prop:=nth s.1 x.toNat=RN
structure Told (nx:Int->List Int) (m:Nat) (a:Int) (s s':List Bool × List Int) (new:List Int):Prop where
 out:s'.2=s.2++new
 len:s'.1.length=s.1.length
 nodup:new.Nodup
 visd : ∀x,0<=x->(vis s' x↔vis s x\/x∈new)
 fresh : ∀x∈new,¬vis s x/\0<=x/\x<m
 last : ∃t,new=t++[a]
 clos : ∀x∈new,∀y∈nx x,vis s' y
 par : ∀x∈new,x≠a->∃p∈new,x∈nx p/\Bef new x p
 desc : ∀x∈new,Adv nx new a x
 ret : ∀x∈new,∀y∈nx x,y∈new->Bef new y x\/Adv nx new y x
structure Half (nx:Int->List Int) (m:Nat) (a:Int) (k:Nat) (s s':List Bool × List Int) (new:List Int):Prop where
 out:s'.2=s.2++new
 len:s'.1.length=s.1.length
 nodup:new.Nodup
 visd : ∀x,0<=x->(vis s' x↔vis s x\/x=a\/x∈new)
 fresh : ∀x∈new,¬vis s x/\(0<=x/\x<m)/\x≠a
 clos : ∀x∈new,∀y∈nx x,vis s' y
 done : ∀j,j<k->vis s' (nth (nx a) j)
 par : ∀x∈new,x∈nx a\/∃p∈new,x∈nx p/\Bef new x p
 desc : ∀x∈new,∃b∈new,b∈nx a/\Adv nx new b x
 ret : ∀x∈new,∀y∈nx x,y∈new->Bef new y x\/Adv nx new y x
theorem zb {nx:Int->List Int} {m:Nat} (hnx : ∀a:Int,0<=a->a<m->∀y∈nx a,0<=y/\y<m) : ∀(n:Nat) (a:Int) (s:List Bool × List Int),0<=a->a<m->s.1.length=m->nth s.1 a.toNat=RO->dH s.1<=n->
  ∃new,Told nx m a s (jZ nx n a s) new
 | 0,a,s,h0,h1,hl,hf,hc=>by exfalso;have:=jR (t:=s.1) (i:=a.toNat) R3 hf;omega
 | n+1,a,s,h0,h1,hl,hf,hc=>by
  have hfs:=jR (t:=s.1) (i:=a.toNat) R3 hf;rw[kR];have half : ∀k,k<=(nx a).length->∃new,Half nx m a k s (up (dd nx n a) k (s.1.set a.toNat RN,s.2)) new/\dH (up (dd nx n a) k (s.1.set a.toNat RN,s.2)).1<=n:=by
   intro k;induction k with
   | zero=>
    intro _;refine⟨[],⟨by simp[up],by simp[up],by simp,λx hx=>?_,by simp,by simp,by simp,by simp,by simp,by simp⟩,by simp only[up];omega⟩;unfold vis;show nth (s.1.set a.toNat RN) x.toNat=RN↔_;rcases NQ x.toNat s.1.length with hlt | hge
    ·rw[bN hlt];split
     ·rename_i e;have:x=a:=by omega
      simp[this]
     rename_i e;have:x≠a:=λh=>e (by rw[h]);simp[this]
    rw[dp (by simpa using hge),dp hge];have:x≠a:=by omega
    simp[this]
   | succ k ih=>
    intro hk;obtain⟨new,H,hcn⟩:=ih R3;rw[up];generalize up (dd nx n a) k (s.1.set a.toNat RN,s.2)=z at H hcn;have hb:=hnx a h0 h1 (nth (nx a) k) (bz R3);have hbm:nth (nx a) k∈nx a:=bz R3;have hzl:z.1.length=m:=H.len.trans hl;rw[dd];split
    ·rename_i hv;refine⟨new,{ H with done:=λj hj=>?_ },hcn⟩;rcases NQ j k with h | h
     ·exact H.done j h
     obtain rfl:j=k:=by omega
     exact hv
    rename_i hv;obtain⟨new',T⟩:=zb hnx n (nth (nx a) k) z hb.1 hb.2 hzl (by simpa using hv) hcn;have hkeep:=(qx (nx:=nx) (m:=m) (c:=n) n (nth (nx a) k) z ⟨hzl,hcn⟩).2;generalize jZ nx n (nth (nx a) k) z=z' at T hkeep;obtain⟨t,ht⟩:=T.last;have hbn:nth (nx a) k∈new':=by rw[ht];simp
    have up : ∀y,0<=y->vis z y->vis z' y:=λy hy h=>(T.visd y hy).2 (.inl h);have hnv : ∀x∈new,vis z x:=λx hx=>(H.visd x (H.fresh x hx).2.1.1).2 (.inr (.inr hx));refine⟨new++new',⟨?_,?_,?_,?_,?_,?_,?_,?_,?_,?_⟩,hkeep⟩
    ·rw[T.out,H.out,N2]
    ·rw[T.len,H.len]
    ·exact PL.2 ⟨H.nodup,T.nodup,λx hx y hy e=>by subst e;exact(T.fresh x hy).1 (hnv x hx)⟩
    ·intro x hx;rw[T.visd x hx,H.visd x hx,NU];constructor
     ·rintro((h | h | h) | h)
      ·exact .inl h
      ·exact .inr (.inl h)
      ·exact .inr (.inr (.inl h))
      exact .inr (.inr (.inr h))
     rintro(h | h | h | h)
     ·exact .inl (.inl h)
     ·exact .inl (.inr (.inl h))
     ·exact .inl (.inr (.inr h))
     exact .inr h
    ·intro x hx;rcases NU.1 hx with hx | hx
     ·exact H.fresh x hx
     obtain⟨g1,g2⟩:=T.fresh x hx;refine⟨λh=>g1 ((H.visd x g2.1).2 (.inl h)),g2,λe=>g1 ((H.visd x g2.1).2 (.inr (.inl e)))⟩
    ·intro x hx y hy;rcases NU.1 hx with hx | hx
     ·have hxr:=(H.fresh x hx).2.1;exact up y (hnx x hxr.1 hxr.2 y hy).1 (H.clos x hx y hy)
     exact T.clos x hx y hy
    ·intro j hj;rcases NQ j k with h | h
     ·exact up _ (hnx a h0 h1 _ (bz R3)).1 (H.done j h)
     obtain rfl:j=k:=by omega
     exact(T.visd _ hb.1).2 (.inr hbn)
    ·intro x hx;rcases NU.1 hx with hx | hx
     ·rcases H.par x hx with h | ⟨p,hp,h2,h3⟩
      ·exact .inl h
      exact .inr ⟨p,O9 _ hp,h2,h3.app _⟩
     by_cases e:x=nth (nx a) k
     ·exact .inl (e▸hbm)
     obtain⟨p,hp,h2,h3⟩:=T.par x hx e;exact .inr ⟨p,O6 _ hp,h2,h3.pre _⟩
    ·intro x hx;rcases NU.1 hx with hx | hx
     ·obtain⟨b,hb,h2,h3⟩:=H.desc x hx;exact⟨b,O9 _ hb,h2,h3.app _⟩
     exact⟨_,O6 _ hbn,hbm,(T.desc x hx).pre _⟩
    intro x hx y hy hyn;rcases NU.1 hx with hx | hx<;>rcases NU.1 hyn with hyn | hyn
    ·exact(H.ret x hx y hy hyn).imp (·.app _) (·.app _)
    ·exact absurd (H.clos x hx y hy) (T.fresh y hyn).1
    ·exact .inl (Bef.EI hyn hx)
    exact(T.ret x hx y hy hyn).imp (·.pre _) (·.pre _)
  obtain⟨new,H,hcn⟩:=half (nx a).length (NO _);generalize up (dd nx n a) (nx a).length (s.1.set a.toNat RN,s.2)=z at H hcn;have hda : ∀y∈nx a,vis z y:=by intro y hy;obtain⟨j,hj,rfl⟩:=N7 hy;have:=H.done j hj;rwa [aA hj]at this
  have hadv : ∀x∈new,Adv nx (new++[a]) a x:=by intro x hx;obtain⟨b,hb,h2,h3⟩:=H.desc x hx;exact(Adv.step .self h2 (Bef.EI hb Sa)).trans (h3.app _)
  refine⟨new++[a],⟨?_,H.len,?_,?_,?_,⟨new,rfl⟩,?_,?_,?_,?_⟩⟩
  ·simp only[H.out,N2]
  ·refine PL.2 ⟨H.nodup,by simp,λx hx y hy e=>?_⟩;simp only[NW]at hy;exact(H.fresh x hx).2.2 (e.trans hy)
  ·intro x hx;show nth z.1 x.toNat=RN↔_;have:=H.visd x hx;unfold vis at this ⊢;rw[this];simp only[NU,NW];constructor
   ·rintro(h | h | h)
    ·exact .inl h
    ·exact .inr (.inr h)
    exact .inr (.inl h)
   rintro(h | h | h)
   ·exact .inl h
   ·exact .inr (.inr h)
   exact .inr (.inl h)
  ·intro x hx;rcases NU.1 hx with hx | hx
   ·exact⟨(H.fresh x hx).1,(H.fresh x hx).2.1⟩
   simp only[NW]at hx;subst hx;exact⟨by unfold vis;rw[hf];simp,h0,h1⟩
  ·intro x hx y hy;rcases NU.1 hx with hx | hx
   ·exact H.clos x hx y hy
   simp only[NW]at hx;subst hx;exact hda y hy
  ·intro x hx hne;rcases NU.1 hx with hx | hx
   ·rcases H.par x hx with h | ⟨p,hp,h2,h3⟩
    ·exact⟨a,by simp,h,Bef.EI hx Sa⟩
    exact⟨p,O9 _ hp,h2,h3.app _⟩
   simp only[NW]at hx;exact absurd hx hne
  ·intro x hx;rcases NU.1 hx with hx | hx
   ·exact hadv x hx
   simp only[NW]at hx;subst hx;exact .self
  intro x hx y hy hyn;rcases NU.1 hyn with hn | hn
  ·rcases NU.1 hx with hx | hx
   ·exact(H.ret x hx y hy hn).imp (·.app _) (·.app _)
   simp only[NW]at hx;subst hx;exact .inl (Bef.EI hn Sa)
  simp only[NW]at hn;subst hn;rcases NU.1 hx with hx | hx
  ·exact .inr (hadv x hx)
  simp only[NW]at hx;subst hx;exact .inr .self
end Go.Proofs.YtnfiilgdjpdlkaaGreatDoor
namespace Go.Proofs.YtnfiilgdjpdlkaaGreatDoor.Chk
inductive Anc (o:Nat->Nat) (x:Nat):Nat->Prop
 | self:Anc o x x
 | up {b:Nat}:b≠0->Anc o x (o b)->Anc o x b
theorem tU{o:Nat->Nat}{x:Nat}:Anc o x 0↔x=0:=by
 constructor
 ·intro h;cases h with
  | self=>rfl
  | up h _=>exact absurd rfl h
 rintro rfl;exact .self
variable{b:Nat}
theorem pq{o:Nat->Nat}{x:Nat}(hb:b≠0):Anc o x b↔x=b\/Anc o x (o b):=by
 constructor
 ·intro h;cases h with
  | self=>exact .inl rfl
  | up _ h=>exact .inr h
 rintro(rfl | h)
 ·exact .self
 exact .up hb h
theorem Anc.trans{o:Nat->Nat}{x y:Nat}(h:Anc o x y)(k:Anc o y b):Anc o x b:=by
 induction k with
 | self=>exact h
 | up hb _ ih=>exact .up hb ih
theorem Anc.total{o:Nat->Nat}{x y:Nat}(h:Anc o x b)(k:Anc o y b):Anc o x y\/Anc o y x:=by
 induction h with
 | self=>exact .inr k
 | up hb h ih=>
  cases k with
  | self=>exact .inl (.up hb h)
  | up _ k=>exact ih k
structure Ch (R:Nat->Prop) (r:Nat->Nat) (E:Nat->Nat->Prop) (f:Nat->Nat) (D:Nat->Nat->Prop):Prop where
 inj : ∀a b,R a->R b->r a=r b->a=b
 R0:R 0
 r0:r 0=0
 hf : ∀x,R x->x≠0->R (f x)/\E (f x) x/\r (f x)<r x
 d1 : ∀d b a,D d b->d≠b->E a b->R a->D d a
 d0 : ∀d,D d 0->d=0
def Ok (Pr:Nat->Prop) (x:Nat):Prop:=x=0\/Pr x
structure Inv (R:Nat->Prop) (r:Nat->Nat) (E:Nat->Nat->Prop) (f:Nat->Nat) (D:Nat->Nat->Prop) (k:Nat) (o:Nat->Nat) (Pr:Nat->Prop):Prop where
 pr : ∀b,Pr b->R b/\b≠0/\Ok Pr (o b)/\r (o b)<r b
 all : ∀b,R b->b≠0->r b<k->Pr b
 fok : ∀b,Pr b->Ok Pr (f b)
 K : ∀b,Pr b->∀x,(∀a,E a b->R a->Ok Pr a->Anc o x a)->Anc o x (o b)
 FP : ∀b,Pr b->∀y,Anc o y (o b)->k<=r y->Anc o y (f b)
 FP2 : ∀b,Pr b->r b<k->Anc o (o b) (f b)
 S : ∀b,Pr b->∀d,D d b->d≠b->Anc o d (o b)
section
variable {R:Nat->Prop} {r:Nat->Nat} {E:Nat->Nat->Prop} {f:Nat->Nat} {D:Nat->Nat->Prop} {k:Nat} {o:Nat->Nat} {Pr:Nat->Prop}
theorem Inv.okR(I:Inv R r E f D k o Pr)(C:Ch R r E f D){x:Nat}(h:Ok Pr x):R x:=by
 rcases h with rfl | h
 ·exact C.R0
 exact(I.pr x h).1
theorem Inv.anc(I:Inv R r E f D k o Pr){x:Nat}(h:Anc o x b):Ok Pr b->Ok Pr x/\(x=b\/r x<r b):=by
 induction h with
 | self=>exact λhb=>⟨hb,.inl rfl⟩
 | up hb _ ih=>
  intro hok;rcases hok with rfl | hp
  ·exact absurd rfl hb
  obtain⟨_,_,h3,h4⟩:=I.pr _ hp;obtain⟨h5,h6⟩:=ih h3;refine⟨h5,.inr ?_⟩;rcases h6 with rfl | h6
  ·exact h4
  omega
theorem Inv.dom(I:Inv R r E f D k o Pr)(C:Ch R r E f D){d:Nat}(hb:Ok Pr b)(h:D d b):Anc o d b:=by
 by_cases e:d=b
 ·subst e;exact .self
 rcases hb with rfl | hb
 ·exact absurd (C.d0 d h) e
 exact .up (I.pr b hb).2.1 (I.S b hb d h e)
def upd (o:Nat->Nat) (c q:Nat):Nat->Nat:=λb=>if b=c then q else o b
def add (Pr:Nat->Prop) (c:Nat):Nat->Prop:=λb=>b=c\/Pr b
theorem j9{c q x:Nat}(h:¬Anc o c b):Anc (upd o c q) x b↔Anc o x b:=by
 constructor
 ·intro k;induction k with
  | self=>exact .self
  | up hb k ih=>
   rename_i b;have hne:b≠c:=λe=>h (e▸.self);have e:upd o c q b=o b:=by unfold upd;rw[if_neg hne]
   rw[e]at ih k;exact .up hb (ih λhc=>h (.up hb hc))
 intro k;induction k with
 | self=>exact .self
 | up hb k ih=>
  rename_i b;have hne:b≠c:=λe=>h (e▸.self);have e:upd o c q b=o b:=by unfold upd;rw[if_neg hne]
  exact .up hb (by rw[e];exact ih λhc=>h (.up hb hc))
theorem Lb{c q x:Nat}(hc:c≠0)(hq:¬Anc o c q):Anc (upd o c q) x c↔x=c\/Anc o x q:=by rw[pq hc,show upd o c q c=q by simp[upd],j9 hq]
theorem Inv.Jp(I:Inv R r E f D k o Pr){x y:Nat}(hx:Ok Pr x)(hy:Ok Pr y)(h1:Anc o x y)(h2:Anc o y x):x=y:=by have e1:=(I.anc h1 hy).2;have e2:=(I.anc h2 hx).2;omega
theorem Inv.below(I:Inv R r E f D k o Pr){c q x:Nat}(hpc:Pr c)(hq:¬Anc o c q)(h:Anc o c b):Ok Pr b->(Anc (upd o c q) x b↔(Anc o x b/\Anc o c x)\/Anc o x q):=by
 have hc:=(I.pr c hpc).2.1;induction h with
 | self=>
  intro hb;rw[Lb hc hq];constructor
  ·rintro(rfl | h)
   ·exact .inl ⟨.self,.self⟩
   exact .inr h
  rintro(⟨h1,h2⟩ | h)
  ·exact .inl (I.Jp (I.anc h1 hb).1 hb h1 h2)
  exact .inr h
 | up hb h ih=>
  rename_i b;intro hok;have hpb:Pr b:=hok.resolve_left hb;obtain⟨_,_,h3,h4⟩:=I.pr b hpb;have hne:b≠c:=λe=>by
   subst e;rcases(I.anc h h3).2 with e | e
   ·rw[<-e]at h4;omega
   omega
  have e:upd o c q b=o b:=by unfold upd;rw[if_neg hne]
  rw[pq hb,e,ih h3,pq hb];constructor
  ·rintro(rfl | ⟨h1,h2⟩ | h1)
   ·exact .inl ⟨.inl rfl,.up hb h⟩
   ·exact .inl ⟨.inr h1,h2⟩
   exact .inr h1
  rintro(⟨rfl | h1,h2⟩ | h1)
  ·exact .inl rfl
  ·exact .inr (.inl ⟨h1,h2⟩)
  exact .inr (.inr h1)
structure Turn (R:Nat->Prop) (r:Nat->Nat) (E:Nat->Nat->Prop) (o:Nat->Nat) (Pr:Nat->Prop) (c q:Nat):Prop where
 ok:Ok Pr q
 q : ∀x,Anc o x q↔∀a,E a c->R a->Ok Pr a->Anc o x a
theorem Inv.fc(I:Inv R r E f D k o Pr)(C:Ch R r E f D){c:Nat}(hR:R c)(hc:c≠0)(hk:r c=k):Ok Pr (f c):=by
 obtain⟨h1,_,h3⟩:=C.hf c hR hc;by_cases e:f c=0
 ·exact .inl e
 exact .inr (I.all _ h1 e R3)
theorem Turn.lt{c q:Nat}(T:Turn R r E o Pr c q)(I:Inv R r E f D k o Pr)(C:Ch R r E f D)(hR:R c)(hc:c≠0)(hk:r c=k):r q<r c/\Anc o q (f c):=by
 obtain⟨h1,h2,h3⟩:=C.hf c hR hc;have h4:=(T.q q).1 .self (f c) h2 h1 (I.fc C hR hc hk);have:=(I.anc h4 (I.fc C hR hc hk)).2;refine⟨?_,h4⟩;rcases this with e | e
 ·rw[e];exact h3
 omega
theorem Inv.turn(I:Inv R r E f D k o Pr)(C:Ch R r E f D){c q:Nat}(hR:R c)(hc:c≠0)(hk:r c=k)(T:Turn R r E o Pr c q):Inv R r E f D (k+1) (upd o c q) (add Pr c):=by
 obtain⟨f1,f2,f3⟩:=C.hf c hR hc;have hfok:=I.fc C hR hc hk;obtain⟨hlt,hqf⟩:=T.lt I C hR hc hk;have hq:¬Anc o c q:=λh=>by
  have:=(I.anc h T.ok).2;rcases this with e | e
  ·rw[e]at hlt;omega
  omega
 have hcf:¬Anc o c (f c):=λh=>by
  have:=(I.anc h hfok).2;rcases this with e | e
  ·rw[<-e]at f3;omega
  omega
 have okm : ∀x,Ok Pr x->Ok (add Pr c) x:=λx h=>h.imp id .inr;have up_ne : ∀b,b≠c->upd o c q b=o b:=λb hb=>by unfold upd;rw[if_neg hb]
 have up_c:upd o c q c=q:=by simp[upd]
 have hpc : ∀b,Ok Pr b->Anc o c b->Pr c:=λb hb h=>((I.anc h hb).1).resolve_left hc;have mono : ∀b,Ok Pr b->∀x,Anc (upd o c q) x b->Anc o x b:=by
  intro b hb x h;by_cases hcb:Anc o c b
  ·have hp:=hpc b hb hcb;rcases(I.below hp hq hcb hb).1 h with⟨h1,_⟩ | h1
   ·exact h1
   exact(Anc.up hc (I.K c hp x ((T.q x).1 h1))).trans hcb
  exact(j9 hcb).1 h
 have stay : ∀b,Ok Pr b->∀x,Anc o x b->(Anc o c b->Anc o c x\/Anc o x q)->Anc (upd o c q) x b:=by
  intro b hb x h h2;by_cases hcb:Anc o c b
  ·refine(I.below (hpc b hb hcb) hq hcb hb).2 ?_;rcases h2 hcb with h3 | h3
   ·exact .inl ⟨h,h3⟩
   exact .inr h3
  exact(j9 hcb).2 h
 have domc : ∀n b,r b<=n->Ok Pr b->Anc o c b->∀d,D d b->r d<r c->D d c:=by
  intro n;induction n with
  | zero=>
   intro b hb hok hcb d hd hlt;have:=(I.anc hcb hok).2;rcases this with rfl | h
   ·exact hd
   omega
  | succ n ih=>
   intro b hb hok hcb d hd hlt;by_cases e:c=b
   ·subst e;exact hd
   have hb0:b≠0:=λe0=>by subst e0;exact e (tU.1 hcb)
   have hpb:=hok.resolve_left hb0;have hcb':Anc o c (o b):=((pq hb0).1 hcb).resolve_left e;obtain⟨g1,g2,g3⟩:=C.hf b (I.pr b hpb).1 hb0;have hlb:=(I.anc hcb hok).2;have hdb:d≠b:=λe2=>by subst e2;omega
   exact ih (f b) R3 (I.fok b hpb) (I.FP b hpb c hcb' R3) d (C.d1 d b (f b) hd hdb g2 g1) hlt
 have domq : ∀d,D d c->d≠c->Anc o d q:=by intro d hd hne;refine(T.q d).2 λa ha hRa hoka=>?_;exact I.dom C hoka (C.d1 d c a hd hne ha hRa)
 refine⟨?_,?_,?_,?_,?_,?_,?_⟩
 ·rintro b (rfl | hb)
  ·rw[up_c];exact⟨hR,hc,okm _ T.ok,hlt⟩
  by_cases e:b=c
  ·subst e;rw[up_c];exact⟨hR,hc,okm _ T.ok,hlt⟩
  rw[up_ne b e];obtain⟨h1,h2,h3,h4⟩:=I.pr b hb;exact⟨h1,h2,okm _ h3,h4⟩
 ·intro b hRb hb0 hlt;by_cases e:r b=k
  ·exact .inl (C.inj b c hRb hR R3)
  exact .inr (I.all b hRb hb0 R3)
 ·rintro b (rfl | hb)
  ·exact okm _ hfok
  exact okm _ (I.fok b hb)
 ·intro b hb x hx;have hx' : ∀a,E a b->R a->Ok Pr a->Anc o x a:=λa h1 h2 h3=>mono a h3 x (hx a h1 h2 (okm a h3));by_cases e:b=c
  ·subst e;rw[up_c,j9 hq];exact(T.q x).2 hx'
  have hpb:Pr b:=hb.resolve_left e;rw[up_ne b e];obtain⟨h1,h2,h3,h4⟩:=I.pr b hpb;have hxo:=I.K b hpb x hx';refine stay (o b) h3 x hxo λhco=>?_;rcases Anc.total hxo hco with h5 | h5
  ·obtain⟨g1,g2,g3⟩:=C.hf b h1 h2;have hcf2:=I.FP b hpb c hco R3;have hxf:=hx (f b) g2 g1 (okm _ (I.fok b hpb));rcases(I.below (hpc _ h3 hco) hq hcf2 (I.fok b hpb)).1 hxf with⟨_,h6⟩ | h6
   ·exact .inl h6
   exact .inr h6
  exact .inl h5
 ·intro b hb y hy hky;by_cases e:b=c
  ·subst e;rw[up_c,j9 hq]at hy;exact(j9 hcf).2 (hy.trans hqf)
  have hpb:Pr b:=hb.resolve_left e;rw[up_ne b e]at hy;obtain⟨h1,h2,h3,h4⟩:=I.pr b hpb;have hyf:=I.FP b hpb y (mono _ h3 y hy) R3;refine stay (f b) (I.fok b hpb) y hyf λhcf2=>?_;rcases Anc.total hyf hcf2 with h5 | h5
  ·exfalso;have:=(I.anc h5 (.inr (hpc _ (I.fok b hpb) hcf2))).2;rcases this with e2 | e2
   ·subst e2;omega
   omega
  exact .inl h5
 ·intro b hb hlt;by_cases e:b=c
  ·subst e;rw[up_c];exact(j9 hcf).2 hqf
  have hpb:Pr b:=hb.resolve_left e;rw[up_ne b e];obtain⟨h1,h2,h3,h4⟩:=I.pr b hpb;obtain⟨g1,g2,g3⟩:=C.hf b h1 h2;have hbk:r b<k:=by
   rcases NQ (r b) k with h | h
   ·exact h
   exact absurd (C.inj b c h1 hR R3) e
  have h5:=I.FP2 b hpb hbk;refine(j9 λhcf2=>?_).2 h5;have:=(I.anc hcf2 (I.fok b hpb)).2;rcases this with e2 | e2
  ·rw[<-e2]at g3;omega
  omega
 intro b hb d hd hne;by_cases e:b=c
 ·subst e;rw[up_c,j9 hq];exact domq d hd hne
 have hpb:Pr b:=hb.resolve_left e;rw[up_ne b e];obtain⟨h1,h2,h3,h4⟩:=I.pr b hpb;have hdo:=I.S b hpb d hd hne;refine stay (o b) h3 d hdo λhco=>?_;rcases Anc.total hdo hco with h5 | h5
 ·have hpcc:=hpc _ h3 hco;rcases(I.anc h5 (.inr hpcc)).2 with e2 | e2
  ·subst e2;exact .inl .self
  exact .inr (domq d (domc (r b) b (NO _) (.inr hpb) (.up h2 hco) d hd e2) λe3=>by subst e3;omega)
 exact .inl h5
theorem Inv.again(I:Inv R r E f D k o Pr)(hk : ∀b,R b->r b<k):Inv R r E f D 0 o Pr:=by refine⟨I.pr,λb hR h0 h=>I.all b hR h0 (hk b hR),I.fok,I.K,λb hb y hy _=>?_,λb _ h=>absurd h R3,I.S⟩;exact hy.trans (I.FP2 b hb (hk b (I.pr b hb).1))
theorem Inv.start:Inv R r E f D 0 o (λ_=>False):=
 ⟨λ_ h=>h.elim,λ_ _ _ h=>absurd h R3,λ_ h=>h.elim,λ_ h=>h.elim,λ_ h=>h.elim,λ_ h=>h.elim,λ_ h=>h.elim⟩
theorem Inv.Mr(I:Inv R r E f D k o Pr){c q:Nat}(T:Turn R r E o Pr c q)(hp:Pr c):q=o c\/r q<r (o c):=by have:=I.K c hp q ((T.q q).1 .self);exact(I.anc this (I.pr c hp).2.2.1).2
end
end Go.Proofs.YtnfiilgdjpdlkaaGreatDoor.Chk
namespace Go.Proofs.YtnfiilgdjpdlkaaGreatDoor
open Go Go.Lft Chk
theorem Hp{β:Type}{f k:Nat->β->β}{n:Nat}(I:β->Prop)(h : ∀i x,i<n->I x->f i x=k i x)(hI : ∀i x,i<n->I x->I (f i x)){x:β}(hx:I x):up f n x=up k n x:=by
 have key : ∀m,m<=n->up f m x=up k m x/\I (up f m x):=by
  intro m;induction m with
  | zero=>exact λ_=>⟨rfl,hx⟩
  | succ m ih=>intro hm;obtain⟨h1,h2⟩:=ih R3;exact⟨by rw[up,up,<-h1,h m _ R3 h2],hI _ _ R3 h2⟩
 exact(key n (NO _)).1
theorem vJ {nx nx':Int->List Int} {m:Nat} (hnx : ∀a:Int,0<=a->a<m->nx a=nx' a/\∀y∈nx a,0<=y/\y<m) : ∀(n:Nat) (a:Int) (s:List Bool × List Int),0<=a->a<m->jZ nx n a s=jZ nx' n a s
 | 0,_,_,_,_=>rfl
 | n+1,a,s,h0,h1=>by
  obtain⟨e,hr⟩:=hnx a h0 h1;rw[kR,kR,<-e];have:up (dd nx n a) (nx a).length (s.1.set a.toNat RN,s.2)=up (dd nx' n a) (nx a).length (s.1.set a.toNat RN,s.2):=by refine Hp (λ_=>True) (λi x hi _=>?_) (λ_ _ _ _=>trivial) trivial;unfold dd;rw[<-e];obtain⟨g0,g1⟩:=hr _ (bz hi);rw[vJ hnx n _ x g0 g1]
  rw[this]
theorem zQ{g:Gr}{a y:Int}(h:y∈mb g a):0<=y/\y<g.length:=by have:=(iY.1 (iq.1 h)).1;omega
theorem Em{g:Gr}{a:Int}(h0:0<=a)(h1:a<g.length):nx (dE g) a=mb g a:=by unfold nx;rw[xQ R3,N9 h0]
theorem Ij{g:Gr}:bD g=lZ (mb g) g.length:=by
 unfold bD lZ;split
 ·rfl
 rw[vJ (m:=g.length) (λa h0 h1=>⟨Em h0 h1,λy hy=>zQ (by rwa [Em h0 h1]at hy)⟩) _ _ _ R3 R3]
structure Ord (g:Gr) (order:List Int):Prop where
 nodup:order.Nodup
 mem : ∀x:Nat,(x:Int)∈order↔Re g (-1) x
 rng : ∀x∈order,0<=x/\x<g.length
 head:order[0]? = RJ 0
 par : ∀x∈order,x≠0->∃p∈order,oE g p x=RN/\order.idxOf p<order.idxOf x
 ret : ∀x∈order,∀y∈order,oE g x y=RN->order.idxOf y<=order.idxOf x->∃l,Adv (mb g) l y x/\∀u v,Bef l u v->order.idxOf v<order.idxOf u
theorem vy{l:List Int}(hn:l.Nodup){u v:Int}(h:Bef l u v):l.reverse.idxOf v<l.reverse.idxOf u:=by
 obtain⟨p,q,rfl,hv⟩:=h;have hu:u∉q:=by have:=(PL.1 hn).2.1;exact(QT.1 this).1
 rw[List.reverse_append,List.reverse_cons,N2];have h1:(q.reverse++([u]++p.reverse)).idxOf v<q.reverse.length:=by rw[List.idxOf_append,if_pos (by simpa using hv)];exact QW (by simpa using hv)
 have h2:(q.reverse++([u]++p.reverse)).idxOf u=q.reverse.length:=by rw[List.idxOf_append,if_neg (by simpa using hu)];simp
 omega
theorem ko{g:Gr}(hg:0<g.length):Ord g (bD g):=by
 have hT:=zb (nx:=mb g) (m:=g.length) (λa _ _ y hy=>zQ hy) g.length 0 (List.replicate g.length RO,[]) R3 R3 Sa (aI (by simpa using hg)) (by simp[dH]);have ho:bD g=(jZ (mb g) g.length 0 (List.replicate g.length RO,[])).2.reverse:=by rw[Ij,lZ,if_neg R3]
 obtain⟨new,T⟩:=hT;have hout:=T.out;simp only[OW]at hout;rw[ho,hout];have hv0 : ∀x:Int,¬vis (List.replicate g.length RO,([]:List Int)) x:=by
  intro x h;unfold vis at h;simp only at h;rcases NQ x.toNat g.length with h1 | h1
  ·rw[aI h1]at h;cases h
  rw[dp (by simpa using h1)]at h;cases h
 have hvis : ∀x,0<=x->(vis (jZ (mb g) g.length 0 (List.replicate g.length RO,[])) x↔x∈new):=λx hx=>by rw[T.visd x hx];exact⟨λh=>h.resolve_left (hv0 x),.inr⟩
 obtain⟨t,ht⟩:=T.last;have h0:(0:Int)∈new:=by rw[ht];simp
 have hre : ∀x∈new,Re g (-1) x.toNat:=by
  intro x hx;have:=T.desc x hx;clear hx;induction this with
  | self=>exact .root hg R4
  | step _ h1 h2 ih=>have hpr:=T.fresh _ h2.mem.2;have hqr:=T.fresh _ h2.mem.1;have he:=iq.1 h1;refine .step ih ?_ R3;rwa [N9 hpr.2.1,N9 hqr.2.1]
 refine⟨by simpa[List.Nodup,List.pairwise_reverse,ne_comm]using T.nodup,λx=>?_,λx hx=>(T.fresh x (by simpa using hx)).2,?_,?_,?_⟩
 ·rw[List.mem_reverse];constructor
  ·intro h;simpa using hre x h
  intro h;induction h with
  | root _ _=>exact h0
  | step _ he _ ih=>exact(hvis _ R3).1 (T.clos _ ih _ (iq.2 he))
 ·rw[ht,List.reverse_append];rfl
 ·intro x hx hne;obtain⟨p,hp,h1,h2⟩:=T.par x (by simpa using hx) hne;exact⟨p,by simpa using hp,iq.1 h1,vy T.nodup h2⟩
 intro x hx y hy he hle;rcases T.ret x (by simpa using hx) y (iq.2 he) (by simpa using hy)with h | h
 ·have:=vy T.nodup h;omega
 exact⟨new,h,λu v huv=>vy T.nodup huv⟩
theorem wz{n:Nat}{order:List Int}(hn:order.Nodup)(hr : ∀x∈order,0<=x/\x<(n:Int)){x:Nat}(hx:x<n):nth (gk n order) x=if(x:Int)∈order then(order.idxOf (x:Int):Int) else -1:=by
 have key : ∀k,k<=order.length->(up (λi l=>l.set (nth order i).toNat (i:Int)) k (List.replicate n (-1))).length=n/\nth (up (λi l=>l.set (nth order i).toNat (i:Int)) k (List.replicate n (-1))) x=if(x:Int)∈order.take k then(order.idxOf (x:Int):Int) else -1:=by
  intro k;induction k with
  | zero=>intro _;exact⟨by simp[up],by rw[up,aI hx];simp⟩
  | succ k ih=>
   intro hk;obtain⟨h1,h2⟩:=ih R3;rw[up];refine⟨by simpa using h1,?_⟩;rw[bN R3,NT R3,h2];have hmem:order[k]∈order:=O5 _;have hrk:=hr _ hmem;rw[aA (show k<order.length by omega)];by_cases e:order[k].toNat=x
   ·have e2:order[k]=(x:Int):=by omega
    rw[if_pos e,if_pos (by rw[<-e2];exact O6 _ (NW.2 rfl)),<-e2,Qx hn]
   rw[if_neg e];have e2:¬(x:Int)=order[k]:=λh=>e R3;simp only[NU,NW,e2,or_false]
 have:=(key order.length (NO _)).2;rw[NY (NO _)]at this;exact this
def st (out:List Int):Nat->Nat:=λb=>(nth out b).toNat
def pd (out:List Int):Nat->Prop:=λb=>b<out.length/\0<=nth out b
def rk (g:Gr) (x:Nat):Nat:=(bD g).idxOf (x:Int)
def Eg (g:Gr) (a b:Nat):Prop:=oE g a b=RN
def Dm (g:Gr) (d b:Nat):Prop:=domC g d b=RN
def Rg (g:Gr) (x:Nat):Prop:=Re g (-1) x
section
variable {g:Gr}
theorem Ea{x:Nat}(h:Rg g x):rk g x<(bD g).length:=QW (((ko (Nat.lt_of_le_of_lt (PV _) h.lt)).mem x).2 h)
theorem Rg.pos{x:Nat}(h:Rg g x):0<g.length:=Nat.lt_of_le_of_lt (PV _) h.lt
theorem JE{x:Nat}(h:Rg g x):rk g x<g.length:=QA (Ea h) sv
theorem DH{a b:Nat}(ha:Rg g a)(hb:Rg g b)(h:rk g a=rk g b):a=b:=by
 have O:=ko ha.pos;have h1:=List.getElem_idxOf (Ea ha);have h2:=List.getElem_idxOf (Ea hb);have:(a:Int)=(b:Int):=by rw[<-h1,<-h2];congr 1
 omega
theorem wP(hg:0<g.length):rk g 0=0:=by
 have O:=ko hg;unfold rk;have hl:0<(bD g).length:=by
  have:=O.head;rcases PG (bD g).length with h | h
  ·rw[N3 h]at this;cases this
  exact h
 have h0:=O.head;rw[OI hl]at h0;have h1:(bD g)[0]=0:=Option.some.inj h0;have:=Qx O.nodup 0 hl;rw[h1]at this;exact this
theorem vC{x:Nat}(h:Rg g x):nth (gk g.length (bD g)) x=(rk g x:Int):=by have O:=ko h.pos;rw[wz O.nodup O.rng h.lt,if_pos ((O.mem x).2 h)];rfl
theorem CS{x:Nat}(hx:x<g.length)(h:¬Rg g x):nth (gk g.length (bD g)) x=-1:=by have O:=ko (g:=g) R3;rw[wz O.nodup O.rng hx,if_neg λe=>h ((O.mem x).1 e)]
theorem JR(hg:0<g.length): ∃f:Nat->Nat,∀x,Rg g x->x≠0->Rg g (f x)/\Eg g (f x) x/\rk g (f x)<rk g x:=by
 have O:=ko hg;have : ∀x,∃p,Rg g x->x≠0->Rg g p/\Eg g p x/\rk g p<rk g x:=by
  intro x;by_cases h:Rg g x/\x≠0
  ·obtain⟨p,hp,h1,h2⟩:=O.par x ((O.mem x).2 h.1) R3;have hr:=O.rng p hp;have e:((p.toNat:Nat):Int)=p:=N9 hr.1;refine⟨p.toNat,λ_ _=>⟨(O.mem _).1 (by rw[e];exact hp),by unfold Eg;rw[e];exact h1,by unfold rk;rw[e];exact h2⟩⟩
  exact⟨0,λh1 h2=>absurd ⟨h1,h2⟩ h⟩
 exact⟨λx=>(this x).choose,λx=>(this x).choose_spec⟩
theorem ML(hg:0<g.length){f:Nat->Nat}(hf : ∀x,Rg g x->x≠0->Rg g (f x)/\Eg g (f x) x/\rk g (f x)<rk g x):Ch (Rg g) (rk g) (Eg g) f (Dm g) where
 inj:=λa b ha hb h=>DH ha hb h
 R0:=.root hg R4
 r0:=wP hg
 hf:=hf
 d1:=λd b a hd hne he ha=>by
  obtain⟨h1,h2,h3⟩:=qw.1 hd
  exact qw.2 ⟨h1,ha,λh=>h3 (.step h he R3)⟩
 d0:=λd hd=>by
  obtain⟨h1,h2,h3⟩:=qw.1 hd
  rcases PG d with h | h
  ·exact h
  ·exact absurd (.root hg R3) h3
structure Good (g:Gr) (f:Nat->Nat) (k:Nat) (out:List Int):Prop where
 len:out.length=g.length
 rng : ∀b,b<g.length->nth out b=-1\/(0<=nth out b/\nth out b<g.length)
 inv:Inv (Rg g) (rk g) (Eg g) f (Dm g) k (st out) (pd out)
variable {f:Nat->Nat} {k:Nat} {out:List Int}
theorem Good.BC(G:Good g f k out)(C:Ch (Rg g) (rk g) (Eg g) f (Dm g)){x:Nat}(h:Ok (pd out) x):Rg g x/\x<g.length:=⟨G.inv.okR C h,(G.inv.okR C h).lt⟩
theorem qJ (G:Good g f k out) (C:Ch (Rg g) (rk g) (Eg g) f (Dm g)) : ∀(fuel a b:Nat),Ok (pd out) a->Ok (pd out) b->rk g a+rk g b<fuel->
  ∃c:Nat,lq out (gk g.length (bD g)) fuel a b=RJ (c:Int)/\Ok (pd out) c/\∀x,Anc (st out) x c↔Anc (st out) x a/\Anc (st out) x b
 | 0,a,b,_,_,h=>by omega
 | fuel+1,a,b,ha,hb,h=>by
  obtain⟨ra,la⟩:=G.BC C ha;obtain⟨rb,lb⟩:=G.BC C hb;have hg:=ra.pos;have hnl:(gk g.length (bD g)).length=g.length:=by rw[gk,zT List.length (λ_ _=>by simp)];simp
  have hol:=G.len;rw[lq,if_pos R3,Ow,Ow,vC ra,vC rb];have step : ∀a b:Nat,Ok (pd out) a->Ok (pd out) b->rk g b<rk g a->a≠0/\nth out a=((st out a:Nat):Int)/\Ok (pd out) (st out a)/\rk g (st out a)<rk g a/\∀x,Anc (st out) x (st out a)/\Anc (st out) x b↔Anc (st out) x a/\Anc (st out) x b:=by
   intro a b ha hb hlt;have ha0:a≠0:=λe=>by subst e;rw[wP hg]at hlt;omega
   have hpa:=ha.resolve_left ha0;obtain⟨_,_,h3,h4⟩:=G.inv.pr a hpa;refine⟨ha0,(N9 hpa.2).symm,h3,h4,λx=>⟨λ⟨h5,h6⟩=>⟨.up ha0 h5,h6⟩,λ⟨h5,h6⟩=>⟨?_,h6⟩⟩⟩;rcases(pq ha0).1 h5 with rfl | h7
   ·have:=(G.inv.anc h6 hb).2;rcases this with e | e
    ·subst e;omega
    omega
   exact h7
  by_cases h1:rk g b<rk g a
  ·rw[if_pos R3];obtain⟨ha0,e,h3,h4,h5⟩:=step a b ha hb h1;rw[e];obtain⟨c,h6,h7,h8⟩:=qJ G C fuel (st out a) b h3 hb R3;exact⟨c,h6,h7,λx=>(h8 x).trans (h5 x)⟩
  rw[if_neg R3];by_cases h2:rk g a<rk g b
  ·rw[if_pos R3];obtain⟨hb0,e,h3,h4,h5⟩:=step b a hb ha h2;rw[e];obtain⟨c,h6,h7,h8⟩:=qJ G C fuel a (st out b) ha h3 R3;exact⟨c,h6,h7,λx=>(h8 x).trans (by rw[and_comm,h5 x,and_comm])⟩
  rw[if_neg R3];have e:a=b:=DH ra rb R3;subst e;exact⟨a,rfl,ha,λx=>by simp⟩
def Bst (out:List Int) (best:Int) (Q:Nat->Prop):Prop:=
 (best=-1/\∀a,¬Q a)\/∃c:Nat,best=(c:Int)/\Ok (pd out) c/\(∃a,Q a)/\∀x,Anc (st out) x c↔∀a,Q a->Anc (st out) x a
def Cons (g:Gr) (out:List Int) (a:Nat):Prop:=Rg g a/\Ok (pd out) a
theorem rB{best:Int}{Q Q':Nat->Prop}(h : ∀a,Q a↔Q' a)(b:Bst out best Q):Bst out best Q':=by have:Q=Q':=funext λa=>propext (h a);rw[<-this];exact b
theorem tS (G:Good g f k out) (C:Ch (Rg g) (rk g) (Eg g) f (Dm g)) : ∀(l:List Int) (best:Int) (Q:Nat->Prop),Bst out best Q->(∀a∈l,0<=a/\a<(g.length:Int))->
  ∃best',bstS out (gk g.length (bD g)) g.length l best=RJ best'/\Bst out best' λa=>Q a\/((a:Int)∈l/\Cons g out a)
 | [],best,Q,hB,_=>⟨best,rfl,rB (λa=>by simp) hB⟩
 | a::l,best,Q,hB,hl=>by
  obtain⟨h0,h1⟩:=hl a (NX ..);have hl':=λx hx=>hl x (NZ _ hx);obtain⟨n,rfl⟩:=QC h0;have hn:n<g.length:=by omega
  have hol:=G.len;rw[bstS,if_pos ⟨h0,h1⟩,Ow];have hcons:(nth (gk g.length (bD g)) n<0\/((n:Int)≠0/\nth out n<0))↔¬Cons g out n:=by
   by_cases hr:Rg g n
   ·rw[vC hr];constructor
    ·rintro(h | ⟨h2,h3⟩)
     ·omega
     rintro⟨_,h4 | h4⟩
     ·omega
     have:=h4.2;omega
    intro h;right;refine⟨λe=>h ⟨hr,.inl R3⟩,?_⟩;rcases Int.lt_or_le (nth out n) 0 with h2 | h2
    ·exact h2
    exact absurd ⟨hr,.inr ⟨by omega,h2⟩⟩ h
   rw[CS hn hr];exact⟨λ_ h=>hr h.1,λ_=>.inl R3⟩
  by_cases hc:Cons g out n
  ·rw[if_neg λh=>hcons.1 h hc];rcases hB with⟨rfl,hQ⟩ | ⟨c,rfl,hok,hex,hq⟩
   ·rw[if_pos R4];obtain⟨b',h2,h3⟩:=tS G C l n (λa=>a=n) (.inr ⟨n,rfl,hc.2,⟨n,rfl⟩,λx=>by simp⟩) hl';refine⟨b',h2,rB (λa=>?_) h3⟩;constructor
    ·rintro(rfl | ⟨h4,h5⟩)
     ·exact .inr ⟨NX ..,hc⟩
     exact .inr ⟨NZ _ h4,h5⟩
    rintro(h4 | ⟨h4,h5⟩)
    ·exact absurd h4 (hQ a)
    rcases N5.1 h4 with h4 | h4
    ·exact .inl R3
    exact .inr ⟨h4,h5⟩
   rw[if_neg R3];obtain⟨rc,_⟩:=G.BC C hok;obtain⟨d,h2,h3,h4⟩:=qJ G C (2*g.length+2) c n hok hc.2 (by have:=JE rc;have:=JE hc.1;omega);rw[h2];simp only[Ov];obtain⟨b',h5,h6⟩:=tS G C l d (λa=>Q a\/a=n) (.inr ⟨d,rfl,h3,⟨n,.inr rfl⟩,λx=>by
    rw[h4,hq];constructor
    ·rintro⟨h7,h8⟩ a (ha | rfl)
     ·exact h7 a ha
     exact h8
    intro h7;exact⟨λa ha=>h7 a (.inl ha),h7 n (.inr rfl)⟩⟩) hl';refine⟨b',h5,rB (λa=>?_) h6⟩;constructor
   ·rintro((h7 | rfl) | ⟨h7,h8⟩)
    ·exact .inl h7
    ·exact .inr ⟨NX ..,hc⟩
    exact .inr ⟨NZ _ h7,h8⟩
   rintro(h7 | ⟨h7,h8⟩)
   ·exact .inl (.inl h7)
   rcases N5.1 h7 with h7 | h7
   ·exact .inl (.inr R3)
   exact .inr ⟨h7,h8⟩
  rw[if_pos (hcons.2 hc)];obtain⟨b',h2,h3⟩:=tS G C l best Q hB hl';refine⟨b',h2,rB (λa=>?_) h3⟩;constructor
  ·rintro(h4 | ⟨h4,h5⟩)
   ·exact .inl h4
   exact .inr ⟨NZ _ h4,h5⟩
  rintro(h4 | ⟨h4,h5⟩)
  ·exact .inl h4
  rcases N5.1 h4 with h6 | h6
  ·exact absurd ((show a=n by omega)▸h5) hc
  exact .inr ⟨h6,h5⟩
theorem FD(G:Good g f k out)(C:Ch (Rg g) (rk g) (Eg g) f (Dm g)){c:Nat}(hR:Rg g c)(hc:c≠0)(hk:rk g c=k):
  ∃q:Nat,bstS out (gk g.length (bD g)) g.length (nth (dN g) c) (-1)=RJ (q:Int)/\Turn (Rg g) (rk g) (Eg g) (st out) (pd out) c q:=by
 have hlt:=hR.lt;obtain⟨best,h1,h2⟩:=tS G C (nth (dN g) c) (-1) (λ_=>False) (.inl ⟨rfl,λ_ h=>h⟩) (uU (λe he=>(rF he).1) (λi x hx=>by
  rcases NQ i g.length with hi | hi
  ·rw[aI hi]at hx;cases hx
  rw[dp (by simpa using hi)]at hx;cases hx) c);have hm : ∀a:Nat,(a:Int)∈nth (dN g) c↔Eg g a c:=λa=>by have:=EU (g:=g) (a:=a) (b:=c) R6;rwa [Ow]at this
 obtain⟨f1,f2,f3⟩:=C.hf c hR hc;rcases h2 with⟨_,h3⟩ | ⟨q,rfl,hok,_,hq⟩
 ·exact absurd (.inr ⟨(hm _).2 f2,f1,G.inv.fc C hR hc hk⟩) (h3 (f c))
 refine⟨q,h1,hok,λx=>?_⟩;rw[hq];constructor
 ·intro h a h4 h5 h6;exact h a (.inr ⟨(hm a).2 h4,h5,h6⟩)
 rintro h a (h4 | ⟨h4,h5,h6⟩)
 ·exact h4.elim
 exact h a ((hm a).1 h4) h5 h6
end
def qQ (w:Nat->Nat):Nat->Nat
 | 0=>0
 | n+1=>qQ w n+w n
theorem Ip {w w':Nat->Nat} : ∀{n:Nat},(∀b,b<n->w' b<=w b)->qQ w' n<=qQ w n
 | 0,_=>NO _
 | n+1,h=>Nat.add_le_add (Ip λb hb=>h b R3) (h n R3)
theorem HY {w w':Nat->Nat} {c:Nat} : ∀{n:Nat},(∀b,b<n->w' b<=w b)->c<n->w' c<w c->qQ w' n<qQ w n
 | 0,_,h,_=>by omega
 | n+1,h,hc,hlt=>by
  rcases NQ c n with h1 | h1
  ·have:=HY (n:=n) (λb hb=>h b R3) h1 hlt;have:=h n R3;simp only[qQ];omega
  obtain rfl:c=n:=by omega
  have:=Ip (n:=c) λb hb=>h b R3;simp only[qQ];omega
theorem zr {w:Nat->Nat} {m:Nat} : ∀{n:Nat},(∀b,b<n->w b<=m)->qQ w n<=n*m
 | 0,_=>by simp[qQ]
 | n+1,h=>by have:=zr (n:=n) λb hb=>h b R3;have:=h n R3;rw[qQ,OZ];omega
section
variable {g:Gr} {f:Nat->Nat} {k:Nat} {out:List Int}
def wt (g:Gr) (out:List Int) (b:Nat):Nat:=if nth out b<0 then g.length else rk g (st out b)
def mu (g:Gr) (out:List Int):Nat:=qQ (wt g out) g.length
theorem Good.set (G:Good g f k out) (C:Ch (Rg g) (rk g) (Eg g) f (Dm g)) {c q:Nat} (hR:Rg g c) (hc:c≠0) (hk:rk g c=k) (T:Turn (Rg g) (rk g) (Eg g) (st out) (pd out) c q) (ch:Bool) :
  Good g f (k+1) (setS out ch c q).1/\mu g (setS out ch c q).1<=mu g out/\((setS out ch c q).2=RN->ch=RN\/mu g (setS out ch c q).1<mu g out)/\((setS out ch c q).2=RO->ch=RO/\(setS out ch c q).1=out/\st out c=q/\pd out c):=by
 have hlt:=hR.lt;have hol:=G.len;obtain⟨hq,hqn⟩:=G.BC C T.ok;have I:=G.inv.turn C hR hc hk T;by_cases e:nth out c=q
 ·have hs:setS out ch c q=(out,ch):=by simp[setS,e]
  rw[hs];have hst:upd (st out) c q=st out:=by
   funext b;unfold upd;split
   ·rename_i hb;subst hb;simp[st,e]
   rfl
  have hpd:add (pd out) c=pd out:=by
   funext b;refine propext ⟨λh=>?_,.inr⟩;rcases h with rfl | h
   ·exact R6
   exact h
  rw[hst,hpd]at I;exact⟨⟨G.len,G.rng,I⟩,NO _,.inl,λh=>⟨h,rfl,by simp[st,e],by omega,by omega⟩⟩
 have hs:setS out ch c q=(out.set c q,RN):=by simp[setS,e]
 rw[hs];have hn : ∀b,b<g.length->nth (out.set c q) b=if c=b then(q:Int) else nth out b:=λb hb=>bN R3;have hst:st (out.set c q)=upd (st out) c q:=by
  funext b;unfold upd st;rcases NQ b out.length with hb | hb
  ·rw[bN hb];by_cases h:c=b
   ·rw[if_pos h,if_pos h.symm];simp
   rw[if_neg h,if_neg (Ne.symm h)]
  rw[dp (by simpa using hb),dp hb,if_neg R3]
 have hpd:pd (out.set c q)=add (pd out) c:=by
  funext b;refine propext ?_;unfold pd add;rw[OH];constructor
  ·rintro⟨h1,h2⟩;rw[bN h1]at h2;by_cases h:c=b
   ·exact .inl h.symm
   rw[if_neg h]at h2;exact .inr ⟨h1,h2⟩
  rintro(rfl | ⟨h1,h2⟩)
  ·exact⟨by omega,by rw[bN R3,if_pos rfl];omega⟩
  refine⟨h1,?_⟩;rw[bN h1];split
  ·omega
  exact h2
 have hw : ∀b,b<g.length->wt g (out.set c q) b<=wt g out b/\(b=c->wt g (out.set c q) b<wt g out b):=by
  intro b hb;by_cases h:c=b
  ·subst h;have e1:wt g (out.set c q) c=rk g q:=by unfold wt;rw[hn c hb,if_pos rfl,if_neg R3,hst];simp[upd]
   have e2:rk g q<wt g out c:=by
    unfold wt;split
    ·exact JE hq
    rename_i h1;have hp:pd out c:=R6;rcases G.inv.Mr T hp with h2 | h2
    ·exfalso;have:=N9 hp.2;unfold st at h2;omega
    exact h2
   omega
  have e1:wt g (out.set c q) b=wt g out b:=by unfold wt st;rw[hn b hb,if_neg h]
  exact⟨by omega,λe=>absurd e.symm h⟩
 have hmu:mu g (out.set c q)<mu g out:=HY (λb hb=>(hw b hb).1) hlt ((hw c hlt).2 rfl);refine⟨⟨by simpa using hol,λb hb=>?_,by rw[hst,hpd];exact I⟩,by show mu g (out.set c q)<=_;omega,λ_=>.inr hmu,λh=>by cases h⟩;rw[hn b hb];split
 ·right;omega
 exact G.rng b hb
theorem yy (C:Ch (Rg g) (rk g) (Eg g) f (Dm g)) : ∀(l:List Int) (k:Nat) (out:List Int) (ch:Bool),l=(bD g).drop k->1<=k->k<=(bD g).length->Good g f k out->
  ∃out' ch',sV (gk g.length (bD g)) (dN g) g.length l (out,ch)=RJ (out',ch')/\Good g f (bD g).length out'/\mu g out'<=mu g out/\(ch'=RN->ch=RN\/mu g out'<mu g out)/\
   (ch'=RO->ch=RO/\out'=out/\∀c:Nat,(c:Int)∈l->pd out c/\Turn (Rg g) (rk g) (Eg g) (st out) (pd out) c (st out c))
 | [],k,out,ch,hl,_,hk,G=>by
  have hk2:(bD g).length<=k:=by have:=congrArg List.length hl;simp only[Qy,OM]at this;omega
  obtain rfl:k=(bD g).length:=by omega
  exact⟨out,ch,rfl,G,NO _,.inl,λh=>⟨h,rfl,by simp⟩⟩
 | b::l,k,out,ch,hl,h1,hk,G=>by
  have hlt:k<(bD g).length:=by have:=congrArg List.length hl;simp only[OX,OM]at this;omega
  rw[OG hlt]at hl;obtain⟨hb,hl2⟩:=List.cons.inj hl;have hmem:b∈bD g:=by rw[hb];exact O5 _
  have hg:0<g.length:=by have:=sv (g:=g);omega
  have O:=ko hg;have hr:=O.rng b hmem;obtain⟨c,rfl⟩:=QC hr.1;have hR:Rg g c:=(O.mem c).1 hmem;have hrk:rk g c=k:=by unfold rk;rw[hb,Qx O.nodup]
  have hc0:c≠0:=λe=>by subst e;rw[wP hg]at hrk;omega
  obtain⟨q,h3,T⟩:=FD G C hR hc0 hrk;rw[sV,if_pos hr,Ow];simp only;rw[h3];simp only[Ov];obtain⟨g1,g2,g3,g4⟩:=G.set C hR hc0 hrk T ch;have e:setS out ch c q=((setS out ch c q).1,(setS out ch c q).2):=rfl;rw[e];generalize hs1:(setS out ch c q).1=o1 at g1 g2 g3 g4;generalize hs2:(setS out ch c q).2=c1 at g3 g4;obtain⟨out',ch',k1,k2,k3,k4,k5⟩:=yy C l (k+1) o1 c1 hl2 R3 R3 g1;refine⟨out',ch',k1,k2,by omega,λh=>?_,λh=>?_⟩
  ·rcases k4 h with h4 | h4
   ·rcases g3 h4 with h5 | h5
    ·exact .inl h5
    exact .inr R3
   exact .inr R3
  obtain⟨h4,rfl,h6⟩:=k5 h;obtain⟨h7,rfl,h8,h9⟩:=g4 h4;refine⟨h7,rfl,λx hx=>?_⟩;rcases N5.1 hx with hx | hx
  ·obtain rfl:x=c:=by omega
   exact⟨h9,h8▸T⟩
  exact h6 x hx
theorem Good.one(hg:0<g.length)(G:Good g f 0 out):Good g f 1 out:=by have I:=G.inv;have h0 : ∀b,Rg g b->b≠0->¬rk g b<1:=λb hR hb h=>hb (DH hR (.root hg R4) (by rw[wP hg];omega));exact⟨G.len,G.rng,⟨I.pr,λb hR hb h=>absurd h (h0 b hR hb),I.fok,I.K,λb hb y hy _=>I.FP b hb y hy R3,λb hb h=>absurd h (h0 b (I.pr b hb).1 (I.pr b hb).2.1),I.S⟩⟩
structure qG (g:Gr) (f:Nat->Nat) (l:List Int):Prop where
 good:Good g f (bD g).length l
 turn : ∀c,Rg g c->c≠0->pd l c/\Turn (Rg g) (rk g) (Eg g) (st l) (pd l) c (st l c)
theorem yV (hg:0<g.length) (C:Ch (Rg g) (rk g) (Eg g) f (Dm g)) : ∀(fuel:Nat) (out:List Int),Good g f 0 out->mu g out<fuel->
  ∃l,oO (gk g.length (bD g)) (dN g) g.length ((bD g).drop (min 1 (bD g).length)) fuel out=RJ l/\qG g f l
 | 0,_,_,h=>by omega
 | fuel+1,out,G,h=>by
  have O:=ko hg;have hlen:0<(bD g).length:=by
   rcases PG (bD g).length with h | h
   ·have:=O.head;rw[N3 h]at this;cases this
   exact h
  have hm:min 1 (bD g).length=1:=by omega
  rw[oO,hm];obtain⟨out',ch',k1,k2,k3,k4,k5⟩:=yy C ((bD g).drop 1) 1 out RO rfl (NO _) hlen (G.one hg);rw[k1];simp only[Ov];cases ch' with
  | true=>rw[if_pos rfl];have:=yV hg C fuel out' ⟨k2.len,k2.rng,k2.inv.again λb hb=>Ea hb⟩ (by rcases k4 rfl with h1 | h1;cases h1;omega);rwa [hm]at this
  | false=>
   rw[if_neg Sa];obtain⟨_,rfl,h6⟩:=k5 rfl;refine⟨_,rfl,k2,λc hR hc=>h6 c ?_⟩;have hmem:=(O.mem c).2 hR;obtain⟨i,hi,e⟩:=N7 hmem;have hi0:i≠0:=λh0=>by subst h0;have:=O.head;rw[OI hi]at this;have:=Option.some.inj this;omega
   rw[<-e];refine List.mem_iff_getElem.2 ⟨i-1,by rw[OM];omega,?_⟩;rw[QF];congr 1;omega
theorem yW(hg:0<g.length): ∃f,Ch (Rg g) (rk g) (Eg g) f (Dm g)/\∃l,zt g (g.length*g.length+1)=RJ l/\qG g f l:=by
 obtain⟨f,hf⟩:=JR hg;have C:=ML hg hf;refine⟨f,C,?_⟩;refine yV hg C _ _ ⟨by simp,λb hb=>.inl (aI hb),?_⟩ ?_
 ·have:pd (List.replicate g.length (-1))=λ_=>False:=by funext b;refine propext ⟨λ⟨h1,h2⟩=>?_,λh=>h.elim⟩;rw[aI (by simpa using h1)]at h2;omega
  rw[this];exact Inv.start
 have:=zr (w:=wt g (List.replicate g.length (-1))) (m:=g.length) (n:=g.length) λb hb=>by unfold wt;rw[aI hb,if_pos R3];exact NO _
 unfold mu;omega
theorem qG.anc {l:List Int} (I:qG g f l) (C:Ch (Rg g) (rk g) (Eg g) f (Dm g)) {x b:Nat} (hb:Rg g b):Anc (st l) x b↔Dm g x b:=by
 have hok : ∀b,Rg g b->Ok (pd l) b:=λb h=>by
  by_cases e:b=0
  ·exact .inl e
  exact .inr (I.turn b h e).1
 constructor
 ·intro h;have hx:=(I.good.BC C (I.good.inv.anc h (hok b hb)).1).1;refine qw.2 ⟨hx,hb,λhre=>?_⟩;have key : ∀b,Re g x b->¬Anc (st l) x b:=by
   intro b hre;induction hre with
   | root h1 h2=>intro h;have:=tU.1 h;omega
   | step ha he hne ih=>
    rename_i a b;intro h;by_cases e:b=0
    ·subst e;have:=tU.1 h;omega
    have hRb:Rg g b:=.step ha.all he R3;have h3:=((pq e).1 h).resolve_left R3;exact ih (((I.turn b hRb e).2.q x).1 h3 a he ha.all (hok a ha.all))
  exact key b hre h
 intro h;exact I.good.inv.dom C (hok b hb) h
end
theorem EB{p:Nat->Bool}{n:Nat}:vY p n=RN↔∀i,i<n->p i=true:=by
 unfold vY;induction n with
 | zero=>simp[up]
 | succ n ih=>
  rw[up,DY,NS,ih];constructor
  ·rintro⟨h1,h2⟩ i hi;rcases NQ i n with h | h
   ·exact h1 i h
   obtain rfl:i=n:=by omega
   exact h2
  intro h;exact⟨λi hi=>h i R3,h n R3⟩
section
variable {g:Gr} {f:Nat->Nat} {l:List Int}
theorem qG.none(I:qG g f l){b:Nat}(hb:b<g.length)(h:¬Rg g b\/b=0):nth l b=-1:=by
 rcases I.good.rng b hb with h1 | h1
 ·exact h1
 exfalso;have:=I.good.inv.pr b ⟨by rw[I.good.len];exact hb,h1.1⟩;rcases h with h | h
 ·exact h this.1
 exact this.2.1 h
theorem Fy{a:Int}(ha:0<=a): ∀k,qv l a k (-1)=RO
 | 0=>rfl
 | k+1=>by rw[qv,if_neg R3,if_pos (.inl R3)]
theorem xo (I:qG g f l) (C:Ch (Rg g) (rk g) (Eg g) f (Dm g)) {a:Nat} : ∀(k b:Nat),Rg g b->rk g b<k->(qv l a k b=RN↔Anc (st l) a b)
 | 0,b,_,h=>by omega
 | k+1,b,hb,h=>by
  have hlt:=hb.lt;have hll:=I.good.len;rw[qv];by_cases e:(b:Int)=a
  ·rw[if_pos e];have:a=b:=by omega
   subst this;exact⟨λ_=>.self,λ_=>rfl⟩
  rw[if_neg e,if_neg R3,Ow];by_cases h0:b=0
  ·subst h0;rw[I.none hlt (.inr rfl),Fy R3,tU];constructor
   ·intro h;cases h
   intro h;omega
  obtain⟨hp,_⟩:=I.turn b hb h0;obtain⟨h1,h2,h3,h4⟩:=I.good.inv.pr b hp;have e2:nth l b=((st l b:Nat):Int):=(N9 hp.2).symm;rw[e2,xo I C k (st l b) (I.good.inv.okR C h3) R3,pq h0];exact⟨.inr,λh=>h.resolve_left R3⟩
theorem tI(I:qG g f l)(C:Ch (Rg g) (rk g) (Eg g) f (Dm g)){a b:Nat}(ha:a<g.length)(hb:Rg g b):eO l a b=domC g a b:=by have hlt:=hb.lt;have hll:=I.good.len;rw[eO,decide_eq_true R3,Pj,OA,xo I C _ _ hb (by have:=JE hb;omega),I.anc C hb];rfl
end
section
open Go Go.Lft
theorem Hy{l:List Int}{x:Int}{v:Value}{h:Heap}(hl:SlRd (vw h) v l):az RP 73 #[v,RG RH x] h (λu h'=>(∃r:Int,u = RG RH r/\(0<=r↔x∈l))/\h'=h):=by
 refine ao (args:=[v,RG RH x]) follows Tryz.func73 E.slices_Index_int RB λK hK=>?_;have bl:=hl.bound;simp[L.slices_Index_int,hl.len];refine aV [0,1,7,8] (fun(_:Unit) i=>[v,RG RH x,RG RH l.length,RG RH i]) (λ_ i h1=>h1=h/\∀j,j<i->nth l j≠x) l.length ()
  rfl R3 rfl ⟨rfl,λj hj=>by omega⟩ (λ_ _=>rfl) (λv i h1 hk m=>by simp) ?_ ?_
 ·rintro _ i h hlt ⟨rfl,hpre⟩ K2 hK2;simp(disch:=omega)[hl.idx1 rfl,hl.int RD];refine⟨λe=>hK _ _ ⟨⟨i,rfl,by simp;rw[e];exact bz hlt⟩,rfl⟩,λe=>hK2 () _ _ rfl rfl ⟨rfl,λj hj=>?_⟩⟩;rcases NQ j i with h | h
  ·exact hpre j h
  have:j=i:=by omega
  subst this;exact λe2=>e e2.symm
 rintro _ h ⟨rfl,hpre⟩;simp;refine hK _ _ ⟨⟨-1,rfl,by simp;intro hm;obtain⟨j,hj,e⟩:=N7 hm;exact hpre j hj (by rw[aA hj];exact e)⟩,rfl⟩
theorem we{l:List Int}{x:Int}{v:Value}{h:Heap}(hl:SlRd (vw h) v l):az RP 47 #[v,RG RH x] h (λu h'=>u = .bool (l.contains x)/\h'=h):=by refine ao (args:=[v,RG RH x]) follows Tryz.func47 E.slices_Contains_int RB λK hK=>?_;simp[L.slices_Contains_int];refine ah R1 (Hy hl) ?_;rintro _ _ ⟨⟨r,rfl,hr⟩,rfl⟩;simp;exact hK _ _ ⟨by simp[<-hr],rfl⟩
def ofG (l:List BlkD):Gr:=rows (λi=>me (nth l i).term.to l.length) l.length
theorem Ds{l:List BlkD}{v:Value}{p:Int}{h:Heap}(hv:SlRd (vw h) v l)(hl:l.length<=1000000)(hs : ∀i,i<l.length->(nth l i).term.to.length<=1000000):
  az RP 118 #[.agg #[RG RH p,v]] h (λu h'=>(vw h).le (vw h')/\SlRd (fresh h h') u (ofG l)):=by
 refine ao (args:=[.agg #[RG RH p,v]]) follows Tryz.func118 E.ia RB λK hK=>?_;obtain⟨hvc,hvo⟩:=hv.cells;simp[L.ia];refine cu (v:=.agg #[RG RH p,v]) Sa ?_;have hle1:=bM h (.cells (Value.agg #[RG RH p,v]).cells T.dX);have hc1:an (vw (h.push (.cells (Value.agg #[RG RH p,v]).cells T.dX))) ⟨h.size,1,RK⟩=RJ v:=de (c:=#[RG RH p,v]) (T:=T.dX) (fz:=(0,0)) (by simp[vw,Value.cells]) rfl;generalize h.push (.cells (Value.agg #[RG RH p,v]).cells T.dX)=h1 at hle1 hc1;have hv1:=hv.mono hle1;simp[hc1,hv1.len];refine Mine.made (α:=List Int) (V:=nothing) (W:=nothing) (h0:=h1) (n:=l.length) (d:=[]) El.kI RD (λ_ _ h=>by cases h) (Old.nothing _ _) (by simp<;>rfl) (by simp<;>rfl) G9 R3 R3 λo h2 m hle2 _=>?_;have hc2:=ae hle2 hc1;have hv2:=hv1.mono hle2;simp[hc2,hv2.len];refine aV [1,3,11,12,13] (fun(_:View) k=>[RM (RJ ⟨h.size,0,RK⟩),o,v,RG RH l.length,RG RH k]) (λW k h3=>Mine nothing h1 h3 W T.aQ o (rows (λi=>me (nth l i).term.to l.length) k++List.replicate (l.length-k) [])) l.length nothing
  rfl R3 rfl m (λ_ _=>rfl) (λv k h1 hk m=>by simp) ?_ ?_
 ·rintro W a h3 hlta m K2 hK2;have hle3:=m.old;have hc3:=ae hle3 hc1;have hv3:=hv1.mono hle3;obtain⟨u,hu1,hu2⟩:=hv3.wh rfl (N:=6) rfl hlta;have hal:=hs a hlta;have hl5:(rows (λi=>me (nth l i).term.to l.length) a++List.replicate (l.length-a) ([]:List Int)).length=l.length:=by simp;omega
  refine aa λz hz=>?_;simp(disch:=omega)[hv3.idxn (N:=6) rfl,hu1 _ RD];refine dt (z:=.agg #[RL RK 0 0,RL RK 0 0,RG RH 0,RL RK 0 0,RL RK 0 0,RG RI 0]) R1 rfl R1 hu2 R5 R5 λh4 hle4 hsz4 hat=>?_;obtain⟨vp,vi,va,vt,bp,bi,bk,ba,bt⟩:=jm (hat (vw h4) hle4 rfl);have hc4:=ae hle4 hc3;have hv4:=hv3.mono hle4;subst hz;simp[bt.1,hc4,hv4.len];refine ah R1 (EH bt.2 R3) ?_;rintro r h5 ⟨W',mr⟩;have m5:=(m.ext' hle4).ext mr.old;have hr:=mr.fresh.mono (gu W _ _);simp(disch:=omega)[m5.now.idx1 rfl];refine m5.put1 (α:=List Int) (i:=a) R1 rfl Sa (by simp<;>rfl) R3 (eG.2 hr) λh6 m6=>hK2 (grow W h4 h5) _ _ rfl rfl ?_;rw[tx (x:=λi=>me (nth l i).term.to l.length) hlta]at m6;exact m6
 rintro W h3 m;simp at m;simp;exact hK _ _ ⟨RE hle1 m.old,m.fresh.mono (xK hle1)⟩
def mD (w:Int × Int) (idom:List Int) (blk at_:Int):Bool:=(decide (w.1=blk)&&(decide (w.2<at_)||decide (w.2<0)))||(!decide (w.1=blk)&&eO idom w.1 blk)
def useS (ps:Int) (m:MW) (idom:List Int) (v blk place at_ told:Int):Except Tr Unit:=
 if 0<=v/\v<ps then .ok () else match m v with
  | none=>.error (13,told,place)
  | some w=>if mD w idom blk at_ then .ok () else .error (13,told,place)
theorem Dx{Kb r:Nat}{vb vd:Value}{f:aq}{m:MW}{idom:List Int}{h:Heap}{p5 p6:Addr}{v blk place at_ told:Int}(k:Lk h Kb r vb f m)(h5:an (vw h) p5=RJ (RM (RJ ⟨Kb,0,RK⟩)))(h6:an (vw h) p6=RJ vd)(hd:SlRd (vw h) vd idom):
  ji RP 122 #[RG RH v,RG RH blk,RG RH place,RG RH at_,RG RH told,RM (RJ p5),RM (RJ p6)] h (λ_ h'=>useS f.params m idom v blk place at_ told = .ok ()/\(vw h).le (vw h'))
   (λch h'=>∃t,useS f.params m idom v blk place at_ told = .error t/\ch=trV t/\(vw h).le (vw h')):=by
 refine iT (args:=[RG RH v,RG RH blk,RG RH place,RG RH at_,RG RH told,RM (RJ p5),RM (RJ p6)]) follows Tryz.func122 E.gz RB λK Kp hK hKp=>?_;dsimp only[L.gz,lkF,lkG];by_cases hp:0<=v/\v<f.params
 ·simp[h5,ae db k.c0,hp];exact hK _ _ ⟨by simp[useS,hp],View.le_refl _⟩
 have hu:useS f.params m idom v blk place at_ told=match m v with
   | none=>.error (13,told,place)
   | some w=>if mD w idom blk at_ then .ok () else .error (13,told,place):=by rw[useS,if_neg hp]
 rw[hu]at hK hKp;refine aa λz hz=>?_;have hc:(decide (0<=v)&&decide (v<f.params))=false:=by rw[OU];intro e;exact hp (by simpa using e)
 simp[h5,ae db k.c0,hc];subst hz;refine aa λz hz=>?_;simp[h5,ae db k.c2];refine np (z:=.agg #[RG RH 0,RG RH 0]) U.gh U.int R1 (by simp<;>rfl) (by simp<;>rfl) fH k.map ?_;have cellsW:((mapE encW m (RG RH v))).getD (.agg #[RG RH 0,RG RH 0])=encW ((m v).getD (0,0)):=by rw[qD];cases m v<;>rfl
 have isW:(mapE encW m (RG RH v)).isSome=(m v).isSome:=by rw[qD];cases m v<;>rfl
 rw[cellsW,isW];simp;refine fG (n:=2) (v:=encW ((m v).getD (0,0))) (z:=.agg #[RG RH 0,RG RH 0]) R1 rfl R1 rfl (by simp[encW,Value.oneCell']) R5 R5 λh3 hle3 hsz3 hb3=>?_;have d0:an (vw h3) ⟨h.size,0,RK⟩=RJ (RG RH ((m v).getD (0,0)).1):=de (show vw h3 h.size=_ from hb3) rfl;have d1:an (vw h3) ⟨h.size,1,RK⟩=RJ (RG RH ((m v).getD (0,0)).2):=de (show vw h3 h.size=_ from hb3) rfl;have h63:=ae hle3 h6;have hd3:=hd.mono hle3;generalize h.size=B at d0 d1;subst hz;have fin : ∀(ok:Bool) (h4:Heap) (ρ:Env) (z:LC),(vw h).le (vw h4)->(∀w,m v=RJ w->ok=mD w idom blk at_)->(m v=RK->ok=RO)->z = .reg RO (.loud [65,66,67] [] [(65,.tmp 13),(66,.tmp 4),(67,.tmp 2)] RK [] RO (.call ⟨.value (.func 68),#[.tmp 65,.const (RG RH 13),.tmp 66,.tmp 67],#[T.bool,T.oz,T.int,T.int]⟩) 0 (RJ 68) RO (.fin [] [] []))->
   Lft.look ρ 13=RJ (.bool ok)->Lft.look ρ 4=RJ (RG RH told)->Lft.look ρ 2=RJ (RG RH place)->@LC.wp (ppOf Kp) RP z (@cO [] K) ρ h4:=by
  rintro ok h4 ρ _ hle4 hs hn rfl e13 e4 e2;simp[e13,e4,e2];refine en R1 iI ?_ ?_
  ·rintro _ _ ⟨e,rfl⟩;refine hK _ _ ⟨?_,hle4⟩;cases hm:m v with
   | none=>rw[hn hm]at e;cases e
   | some w=>simp only;rw[if_pos (by rw[<-hs w hm];exact e)]
  rintro _ _ ⟨e,rfl,rfl⟩;refine⟨.inl rfl,hKp _ _ ⟨_,?_,rfl,hle4⟩⟩;cases hm:m v with
  | none=>rfl
  | some w=>simp only;rw[if_neg (by rw[<-hs w hm,e];simp)]
 refine aa λz hz=>?_;cases hm:m v with
 | none=>rw[hm]at d0 d1;simp[d0,d1];refine fin RO _ _ _ hle3 (λw hw=>by rw[hm]at hw;cases hw) (λ_=>rfl) hz ?_ ?_ ?_<;>simp
 | some w=>
  rw[hm]at d0 d1;simp at d0 d1;by_cases c1:w.1=blk
  ·by_cases c2:w.2<at_
   ·simp[d0,d1,c1,c2];refine fin RN _ _ _ hle3 (λw' hw=>by rw[hm]at hw;cases hw;simp[mD,c1,c2]) (λe=>by simp[hm]at e) hz ?_ ?_ ?_<;>simp
   by_cases c3:w.2<0
   ·simp[d0,d1,c1,c2,c3];refine fin RN _ _ _ hle3 (λw' hw=>by rw[hm]at hw;cases hw;simp[mD,c1,c2,c3]) (λe=>by simp[hm]at e) hz ?_ ?_ ?_<;>simp
   simp[d0,d1,c1,c2,c3];refine fin RO _ _ _ hle3 (λw' hw=>by rw[hm]at hw;cases hw;simp[mD,c1,c2,c3]) (λe=>by simp[hm]at e) hz ?_ ?_ ?_<;>simp
  simp[d0,d1,c1,h63];refine ah R1 (zY hd3) ?_;rintro _ h4 ⟨rfl,hle4⟩;refine fin _ _ _ _ (RE hle3 hle4) (λw' hw=>by rw[hm]at hw;cases hw;simp[mD,c1];rfl) (λe=>by simp[hm]at e) hz ?_ ?_ ?_<;>simp
end
section
open Go Go.Lft
def lO (x:PhiD) (row:List Int) (b:Nat):Bool:=decide (0<b)&&decide ((x.ins.length:Int)=(row.length:Int))
def yY (x:PhiD) (row:List Int) (j:Nat):Bool:=decide ((nth x.ins j).frm=nth row j)
def Bt (x:PhiD) (row:List Int) (b:Nat):Bool:=lO x row b&&vY (yY x row) x.ins.length
def uAll (g:Nat->Except Tr Unit) (n:Nat):Except Tr Unit:=upE (λi _=>g i) n ()
def phiU (f:aq) (m:MW) (idom:List Int) (preds:Gr) (b i:Nat):Except Tr Unit:=
 let x:=nth (nth f.blocks b).phis i
 if Bt x (nth preds b) b then uAll (λj=>useS f.params m idom (nth x.ins j).val (nth x.ins j).frm (-1-i) (nth f.blocks (nth x.ins j).frm.toNat).ins.length b) x.ins.length else .error (16,b,-1-i)
def insU (f:aq) (m:MW) (idom:List Int) (b i:Nat):Except Tr Unit:=
 uAll (λj=>useS f.params m idom (nth (nth (nth f.blocks b).ins i).args j) b i i b) (nth (nth f.blocks b).ins i).args.length
def endU (f:aq) (m:MW) (idom:List Int) (b:Nat):Except Tr Unit:=
 uAll (λj=>useS f.params m idom (nth (nth f.blocks b).term.args j) b (nth f.blocks b).ins.length (nth f.blocks b).ins.length b) (nth f.blocks b).term.args.length
def andE (x y:Except Tr Unit):Except Tr Unit:=match x with | .ok _=>y | .error t=>.error t
def blkU (f:aq) (m:MW) (idom:List Int) (preds:Gr) (b:Nat):Except Tr Unit:=
 andE (uAll (phiU f m idom preds b) (nth f.blocks b).phis.length) (andE (uAll (insU f m idom b) (nth f.blocks b).ins.length) (endU f m idom b))
def uL (f:aq) (b:Nat):Except Tr Unit:=if decide ((b:Int)∈bD (ofG f.blocks)) then .ok () else .error (15,b,0)
def tz (f:aq) (m:MW) (idom:List Int):Except Tr Unit:=
 andE (uAll (uL f) f.blocks.length) (uAll (blkU f m idom (dN (ofG f.blocks))) f.blocks.length)
theorem oV{g:Nat->Except Tr Unit}{n k:Nat}{t:Tr}(h:uAll g k = .ok ())(hk:k<n)(he:g k = .error t):uAll g n = .error t:=qI h hk he
theorem kY{g:Nat->Except Tr Unit}{k:Nat}(h:uAll g k = .ok ()):uAll g (k+1)=g k:=jz h
theorem HH{H:View}{B:Nat}{u v:Value}(h0:an H ⟨B,0,RK⟩=RJ u)(h1:an H ⟨B,1,RK⟩=RJ v):Un.ev H (.aZ 2) (RM (RJ ⟨B,0,RK⟩))=RJ (.agg #[u,v]):=by simp[Un.ev,vP,ee,h0,h1]
theorem KZ{l:List BlkD}(hl:l.length<=1000000)(hs : ∀i,i<l.length->(nth l i).term.to.length<=1000000):Sm (ofG l):=by
 have hlen:(ofG l).length=l.length:=by simp[ofG]
 refine⟨by omega,λi hi=>?_⟩;rw[hlen]at hi;rw[ofG,gG hi];exact OD yK (hs i hi)
theorem JM{Kb r:Nat}{vb:Value}{f:aq}{m:MW}{idom:List Int}{fuel:Nat}{h:Heap}(k:Lk h Kb r vb f m)(hn:f.blocks.length<=1000000)(hto : ∀i,i<f.blocks.length->(nth f.blocks i).term.to.length<=1000000)(hd:zt (ofG f.blocks) fuel=RJ idom):
  ji RP 71 #[RM (RJ ⟨Kb,0,RK⟩)] h (λ_ h'=>tz f m idom = .ok ()/\(vw h).le (vw h')) (λch h'=>∃t,tz f m idom = .error t/\ch=trV t/\(vw h).le (vw h')):=by
 refine iT (args:=[RM (RJ ⟨Kb,0,RK⟩)]) follows Tryz.func71 E.ay RB λK Kp hK hKp=>?_;have hbb:=k.rb.bound;have hsm:=KZ hn hto;have hgl:(ofG f.blocks).length=f.blocks.length:=by simp[ofG]
 dsimp only[L.ay,lkF,lkG];refine aa λz hz=>?_;simp;refine cu (v:=RM (RJ ⟨Kb,0,RK⟩)) Sa ?_;have hle1:=bM h (.cells (Value.cells (RM (RJ ⟨Kb,0,RK⟩))) T.nf);have h51:an (vw (h.push (.cells (Value.cells (RM (RJ ⟨Kb,0,RK⟩))) T.nf))) ⟨h.size,0,RK⟩=RJ (RM (RJ ⟨Kb,0,RK⟩)):=by simp[an,vw]
 generalize h.push (.cells (Value.cells (RM (RJ ⟨Kb,0,RK⟩))) T.nf)=h1 at hle1 h51;generalize h.size=B at h51;have k1:=k.ext hle1;subst hz;refine aa λz hz=>?_;simp[h51,HH (ae db k1.c0) (ae db k1.c1)];refine ah R1 (Ds (k1.rb.mono db) hn hto) ?_;rintro vg h2 ⟨hle2,hg⟩;have hg2:=hg.mono (lK _ _);subst hz;refine aa λz hz=>?_;simp;refine ah R1 (BD hg2 hsm) ?_;rintro vo h3 ⟨hle3,ho⟩;have ho3:=ho.mono (lK _ _);have hg3:=hg2.mono hle3;have hle13:=RE hle2 hle3;have k3:=k1.ext hle13;have h53:=ae hle13 h51;have hle03:=RE hle1 hle13;subst hz;refine aa λz hz=>?_;simp[h53,ae db k3.c1,k3.rb.len];refine aV [0,1,2,3,35,36] (fun(_:Unit) b=>[RM (RJ ⟨Kb,0,RK⟩),RM (RJ ⟨B,0,RK⟩),vg,vo,RG RH f.blocks.length,RG RH b]) (λ_ b h4=>h4=h3/\uAll (uL f) b = .ok ()) f.blocks.length ()
  rfl R3 rfl ⟨rfl,rfl⟩ (λ_ _=>rfl) (λv i h1 hk m=>by simp) ?_ ?_
 ·rintro _ b h3 hlt ⟨rfl,hpre⟩ K2 hK2;simp;refine ah R1 (we ho3) ?_;rintro _ _ ⟨rfl,rfl⟩;simp;refine en R1 iI ?_ ?_
  ·rintro _ _ ⟨e,rfl⟩;exact hK2 () _ _ rfl rfl ⟨rfl,by rw[kY hpre,uL,if_pos e]⟩
  rintro _ _ ⟨e,rfl,rfl⟩;exact⟨.inl rfl,hKp _ _ ⟨_,by rw[tz,oV hpre hlt (by rw[uL,if_neg (by rw[e];simp)])];rfl,rfl,hle03⟩⟩
 rintro _ h3 ⟨rfl,hreach⟩;have hus:tz f m idom=uAll (blkU f m idom (dN (ofG f.blocks))) f.blocks.length:=by rw[tz,hreach];rfl
 rw[hus]at hK hKp;simp;subst hz;refine aa λz hz=>?_;simp;refine ah R1 (BH hg3 hsm) ?_;rintro vp h4 ⟨hle4,hp⟩;have hp4:=hp.mono (lK _ _);refine ah R1 (IJ (hg3.mono hle4) hsm hd) ?_;rintro vi h5 ⟨W,mi⟩;have hi5:=mi.now;refine dt (α:=List Int) (z:=RL RK 0 0) (X:=vw h5) R1 rfl R1 (eG.2 hi5) R5 R5 λh6 hle6 hsz6 hat=>?_;obtain⟨vd,hvd,hd6⟩:=(hat (vw h6) hle6 rfl).sl;generalize h5.size=C at hvd;subst hz;have hle36:=RE hle4 (RE mi.old hle6);have hp6:=hp4.mono (RE mi.old hle6);have k6:=k3.ext hle36;have h56:=ae hle36 h53;have hle06:=RE hle03 hle36;have hpl:(dN (ofG f.blocks)).length=f.blocks.length:=by rw[qt,hgl]
 have hin : ∀b,∀x∈nth (dN (ofG f.blocks)) b,0<=x/\x<f.blocks.length:=by
  rw[<-hgl];exact uU (λe he=>(rF he).1) (λi x hx=>by
   rcases NQ i (ofG f.blocks).length with hi | hi
   ·rw[aI hi]at hx;cases hx
   rw[dp (by simpa using hi)]at hx;cases hx)
 generalize dN (ofG f.blocks)=preds at hp6 hpl hin hK hKp;obtain⟨pv,hpv⟩:=hp6.rows;simp[h56,ae db k6.c1,k6.rb.len];refine aV [1,5,7,54,55,56] (fun(_:Unit) b=>[RM (RJ ⟨B,0,RK⟩),vp,.func (.func 122) #[] #[RM (RJ ⟨B,0,RK⟩),RM (RJ ⟨C,0,RK⟩)],vb,RG RH f.blocks.length,RG RH b]) (λ_ b h7=>(vw h6).le (vw h7)/\uAll (blkU f m idom preds) b = .ok ()) f.blocks.length ()
  rfl R3 rfl ⟨View.le_refl _,rfl⟩ (λ_ _=>rfl) (λv i h1 hk m=>by simp) ?_ ?_
 ·rintro _ b h7 hltb ⟨hle7,hpre⟩ K2 hK2;have k7:=k6.ext hle7;have rb7:=k7.rb.mono db;obtain⟨u,hu,hur⟩:=rb7.wh rfl (N:=6) rfl hltb;obtain⟨pc,pr⟩:=hpv b R3;have hst:=kY hpre;have her : ∀{t},blkU f m idom preds b = .error t->uAll (blkU f m idom preds) f.blocks.length = .error t:=λe=>oV hpre hltb e;refine aa λz hz=>?_;simp(disch:=omega)[rb7.idxn (N:=6) rfl,hu _ RD];refine dt (z:=.agg #[RL RK 0 0,RL RK 0 0,RG RH 0,RL RK 0 0,RL RK 0 0,RG RI 0]) R1 rfl R1 hur R5 R5 λh8 hle8 hsz8 hat=>?_;obtain⟨wp,wi,wa,wt,bp,bi,bk,ba,bt⟩:=jm (hat (vw h8) hle8 rfl);generalize h7.size=D at bp bi bk ba bt;subst hz;have hle68:=RE hle7 hle8;have bph:=bp.2.bound;have bin:=bi.2.bound;have bar:=ba.2.bound;refine aa λz hz=>?_;simp[bp.1,bp.2.len];refine aV [1,5,7,8,9,54,55,56,62,63,64] (fun(_:Unit) i=>[RM (RJ ⟨B,0,RK⟩),vp,.func (.func 122) #[] #[RM (RJ ⟨B,0,RK⟩),RM (RJ ⟨C,0,RK⟩)],RG RH b,RM (RJ ⟨D,0,RK⟩),vb,RG RH f.blocks.length,RG RH b,wp,RG RH (nth f.blocks b).phis.length,RG RH i])
   (λ_ i h9=>(vw h8).le (vw h9)/\uAll (phiU f m idom preds b) i = .ok ()) (nth f.blocks b).phis.length ()
   rfl R3 rfl ⟨View.le_refl _,rfl⟩ (λ_ _=>rfl) (λv i h1 hk m=>by simp) ?_ ?_
  ·rintro _ i h9 hlti ⟨hle9,hpre9⟩ K3 hK3;have hst9:=kY hpre9;have her9 : ∀{t},phiU f m idom preds b i = .error t->blkU f m idom preds b = .error t:=λe=>by rw[blkU,oV hpre9 hlti e];rfl
   have bp9:=bp.2.mono hle9;obtain⟨u9,hu9,hur9⟩:=bp9.wh rfl (N:=2) rfl hlti;refine aa λy hy=>?_;simp(disch:=omega)[bp9.idxn (N:=2) rfl,hu9 _ RD];refine dt (z:=.agg #[RG RH 0,RL RK 0 0]) R1 rfl R1 hur9 R5 R5 λh10 hle10 hsz10 hat10=>?_;obtain⟨_,wq,cq⟩:=Ar (hat10 (vw h10) hle10 rfl);simp only[phiU]at hst9 her9;generalize nth (nth f.blocks b).phis i=x at cq hst9 her9;generalize h9.size=D10 at cq;have bq:=cq.2.bound;subst hy;refine aa λy hy=>?_;have hle610:=RE hle68 (RE hle9 hle10);have hp10:=hp6.mono hle610;have pr10:=pr.mono hle610;have hbase:(decide (0<b)&&decide ((x.ins.length:Int)=((nth preds b).length:Int)))=lO x (nth preds b) b:=rfl;simp(disch:=omega)[cq.1,cq.2.len,hp10.idx1 rfl,pc _ hle610,pr10.len];rw[hbase];subst hy;refine aa λy hy=>?_;simp[cq.1,cq.2.len];refine aV [1,5,7,8,9,10,11,12,54,55,56,62,63,64,83,84,85] (fun(_:Unit) j=>[RM (RJ ⟨B,0,RK⟩),vp,.func (.func 122) #[] #[RM (RJ ⟨B,0,RK⟩),RM (RJ ⟨C,0,RK⟩)],RG RH b,RM (RJ ⟨D,0,RK⟩),RG RH i,RM (RJ ⟨D10,0,RK⟩),
     .bool (lO x (nth preds b) b&&vY (yY x (nth preds b)) j),vb,RG RH f.blocks.length,RG RH b,wp,RG RH (nth f.blocks b).phis.length,RG RH i,wq,RG RH x.ins.length,RG RH j])
    (λ_ j h11=>(vw h10).le (vw h11)) x.ins.length ()
    rfl R3 (by simp[bF];intro _;rfl) RD (λ_ _=>rfl) (λv i h1 hk m=>by simp) ?_ ?_
   ·rintro _ j h11 hltj hle11 K4 hK4;have cq11:=cq.2.mono hle11;obtain⟨u11,hu11,hur11⟩:=cq11.wh rfl (N:=2) rfl hltj;refine aa λq hq=>?_;simp(disch:=omega)[cq11.idxn (N:=2) rfl,hu11 _ RD];refine dt (z:=.agg #[RG RH 0,RG RH 0]) R1 rfl R1 hur11 R5 R5 λh12 hle12 hsz12 hat12=>?_;obtain⟨e0,e1⟩:=C3 (hat12 (vw h12) hle12 rfl);generalize h11.size=D12 at e0 e1;subst hq;have hle612:=RE hle610 (RE hle11 hle12);have hp12:=hp6.mono hle612;have pr12:=pr.mono hle612;cases hfit:lO x (nth preds b) b&&vY (yY x (nth preds b)) j with
    | false=>simp;refine hK4 () _ _ rfl ?_ (RE hle11 hle12);rw[xg,<-Bool.and_assoc,hfit];rfl
    | true=>
     have hlen:x.ins.length=(nth preds b).length:=by simp only[NS,lO,decide_eq_true_eq]at hfit;omega
     simp(disch:=omega)[e0,hp12.idx1 rfl,pc _ hle612,pr12.idx1 rfl,pr12.int RD];refine hK4 () _ _ rfl ?_ (RE hle11 hle12);rw[xg,<-Bool.and_assoc,hfit];rfl
   rintro _ h11 hle11;have hfs:(lO x (nth preds b) b&&vY (yY x (nth preds b)) x.ins.length)=Bt x (nth preds b) b:=rfl;rw[hfs];simp;subst hy;refine aa λy hy=>?_;simp(disch:=omega);have hle011:=RE hle06 (RE hle610 hle11);refine en R1 iI ?_ ?_;rotate_left
   ·rintro _ _ ⟨e,rfl,rfl⟩;exact⟨.inl rfl,hKp _ _ ⟨_,her (her9 (by rw[if_neg (by rw[e];simp)])),rfl,hle011⟩⟩
   rintro _ h11 ⟨efit,rfl⟩;rw[if_pos efit]at hst9;have her9' : ∀{t},uAll (λj=>useS f.params m idom (nth x.ins j).val (nth x.ins j).frm (-1-i) (nth f.blocks (nth x.ins j).frm.toNat).ins.length b) x.ins.length = .error t->blkU f m idom preds b = .error t:=λe=>her9 (by rw[if_pos efit];exact e);have hlen:x.ins.length=(nth preds b).length:=by simp only[NS,Bt,lO,decide_eq_true_eq]at efit;omega
   have hfrm : ∀j,j<x.ins.length->0<=(nth x.ins j).frm/\(nth x.ins j).frm<f.blocks.length:=λj hj=>by have h1:=EB.1 (NS _ _▸efit:_/\_).2 j hj;simp only[yY,decide_eq_true_eq]at h1;rw[h1];exact hin b _ (bz R3)
   subst hy;have cq11:=cq.2.mono hle11;simp[ae hle11 cq.1,cq11.len];refine aV [1,5,7,8,9,10,11,54,55,56,62,63,64,110,111,112] (fun(_:Unit) j=>[RM (RJ ⟨B,0,RK⟩),vp,.func (.func 122) #[] #[RM (RJ ⟨B,0,RK⟩),RM (RJ ⟨C,0,RK⟩)],RG RH b,RM (RJ ⟨D,0,RK⟩),RG RH i,RM (RJ ⟨D10,0,RK⟩),
     vb,RG RH f.blocks.length,RG RH b,wp,RG RH (nth f.blocks b).phis.length,RG RH i,wq,RG RH x.ins.length,RG RH j])
    (λ_ j h12=>(vw h11).le (vw h12)/\uAll (λj=>useS f.params m idom (nth x.ins j).val (nth x.ins j).frm (-1-i) (nth f.blocks (nth x.ins j).frm.toNat).ins.length b) j = .ok ()) x.ins.length ()
    rfl R3 rfl ⟨View.le_refl _,rfl⟩ (λ_ _=>rfl) (λv i h1 hk m=>by simp) ?_ ?_
   ·rintro _ j h12 hltj ⟨hle12,hpre12⟩ K4 hK4;have hst12:=kY hpre12;have cq12:=cq11.mono hle12;obtain⟨u12,hu12,hur12⟩:=cq12.wh rfl (N:=2) rfl hltj;refine aa λq hq=>?_;simp(disch:=omega)[cq12.idxn (N:=2) rfl,hu12 _ RD];refine dt (z:=.agg #[RG RH 0,RG RH 0]) R1 rfl R1 hur12 R5 R5 λh13 hle13 hsz13 hat13=>?_;obtain⟨e0,e1⟩:=C3 (hat13 (vw h13) hle13 rfl);generalize h12.size=D13 at e0 e1;have hf:=hfrm j hltj;generalize hxj:nth x.ins j=w at e0 e1 hst12 hf;subst hq;have hle613:=RE hle610 (RE hle11 (RE hle12 hle13));have k13:=k6.ext hle613;have rb13:=k13.rb.mono db;have h513:=ae hle613 h56;obtain⟨ul,hul⟩:=(((rb13.at (i:=w.frm.toNat) R3).part BlkD.jY)).sl;rw[<-aA R3]at hul;have hul1:an (vw h13) (((slA vb).add (w.frm.toNat*6)).add 1)=RJ ul:=hul.1;refine aH (vw h13) RD ?_;simp(disch:=omega)[e0,e1,h513,ae db k13.c1,rb13.idxn (N:=6) rfl,hul1,hul.2.len];refine uP (ops:=[.tmp 118,.tmp 120,.tmp 122,.tmp 133,.tmp 134]) rfl R1 (Dx k13 h513 (ae hle613 hvd) (hd6.mono hle613)) ?_ ?_
    ·rintro _ h14 ⟨e,hle14⟩;exact hK4 () _ _ rfl rfl ⟨RE hle12 (RE hle13 hle14),by rw[hst12];exact e⟩
    rintro _ h14 ⟨t,e,rfl,hle14⟩;exact⟨.inr λ_=>trivial,hKp _ _ ⟨t,her (her9' (oV hpre12 hltj (by rw[hxj];exact e))),rfl,RE hle06 (RE hle613 hle14)⟩⟩
   rintro _ h12 ⟨hle12,hpre12⟩;simp;exact hK3 () _ _ rfl rfl ⟨RE hle9 (RE hle10 (RE hle11 hle12)),by rw[hst9];exact hpre12⟩
  rintro _ h9 ⟨hle9,hpre9⟩;have hbu:blkU f m idom preds b=andE (uAll (insU f m idom b) (nth f.blocks b).ins.length) (endU f m idom b):=by rw[blkU,hpre9];rfl
  rw[hbu]at hst her;simp;subst hz;refine aa λz hz=>?_;have bi9:=bi.2.mono hle9;simp[ae hle9 bi.1,bi9.len];refine aV [1,5,7,8,9,54,55,56,139,140,141] (fun(_:Unit) i=>[RM (RJ ⟨B,0,RK⟩),vp,.func (.func 122) #[] #[RM (RJ ⟨B,0,RK⟩),RM (RJ ⟨C,0,RK⟩)],RG RH b,RM (RJ ⟨D,0,RK⟩),vb,RG RH f.blocks.length,RG RH b,wi,RG RH (nth f.blocks b).ins.length,RG RH i])
   (λ_ i h10=>(vw h9).le (vw h10)/\uAll (insU f m idom b) i = .ok ()) (nth f.blocks b).ins.length ()
   rfl R3 rfl ⟨View.le_refl _,rfl⟩ (λ_ _=>rfl) (λv i h1 hk m=>by simp) ?_ ?_
  ·rintro _ i h10 hlti ⟨hle10,hpre10⟩ K3 hK3;have hst10:=kY hpre10;have her10 : ∀{t},insU f m idom b i = .error t->uAll (blkU f m idom preds) f.blocks.length = .error t:=λe=>her (by rw[oV hpre10 hlti e];rfl);have bi10:=bi9.mono hle10;obtain⟨u10,hu10,hur10⟩:=bi10.wh rfl (N:=5) rfl hlti;refine aa λy hy=>?_;simp(disch:=omega)[bi10.idxn (N:=5) rfl,hu10 _ RD];refine dt (z:=.agg #[RG RH 0,RG RH 0,RG RH 0,RL RK 0 0,RG RI 0]) R1 rfl R1 hur10 R5 R5 λh11 hle11 hsz11 hat11=>?_;obtain⟨_,_,_,wq,cq⟩:=fI (hat11 (vw h11) hle11 rfl);rw[insU]at hst10 her10;generalize nth (nth f.blocks b).ins i=x at cq hst10 her10;generalize h10.size=D11 at cq;have bq:=cq.2.bound;subst hy;simp[cq.1,cq.2.len];refine aV [1,5,7,8,9,17,54,55,56,139,140,141,147,148,149] (fun(_:Unit) j=>[RM (RJ ⟨B,0,RK⟩),vp,.func (.func 122) #[] #[RM (RJ ⟨B,0,RK⟩),RM (RJ ⟨C,0,RK⟩)],RG RH b,RM (RJ ⟨D,0,RK⟩),RG RH i,vb,RG RH f.blocks.length,RG RH b,wi,RG RH (nth f.blocks b).ins.length,RG RH i,wq,RG RH x.args.length,RG RH j])
    (λ_ j h12=>(vw h11).le (vw h12)/\uAll (λj=>useS f.params m idom (nth x.args j) b i i b) j = .ok ()) x.args.length ()
    rfl R3 rfl ⟨View.le_refl _,rfl⟩ (λ_ _=>rfl) (λv i h1 hk m=>by simp) ?_ ?_
   ·rintro _ j h12 hltj ⟨hle12,hpre12⟩ K4 hK4;have hst12:=kY hpre12;have cq12:=cq.2.mono hle12;have hle612:=RE hle68 (RE hle9 (RE hle10 (RE hle11 hle12)));have k12:=k6.ext hle612;have h512:=ae hle612 h56;simp(disch:=omega)[cq12.idx1 rfl,cq12.int RD];refine uP (ops:=[.tmp 154,.tmp 155,.tmp 156,.tmp 157,.tmp 158]) rfl R1 (Dx k12 h512 (ae hle612 hvd) (hd6.mono hle612)) ?_ ?_
    ·rintro _ h14 ⟨e,hle14⟩;exact hK4 () _ _ rfl rfl ⟨RE hle12 hle14,by rw[hst12];exact e⟩
    rintro _ h14 ⟨t,e,rfl,hle14⟩;exact⟨.inl rfl,hKp _ _ ⟨t,her10 (oV hpre12 hltj e),rfl,RE hle06 (RE hle612 hle14)⟩⟩
   rintro _ h12 ⟨hle12,hpre12⟩;simp;exact hK3 () _ _ rfl rfl ⟨RE hle10 (RE hle11 hle12),by rw[hst10];exact hpre12⟩
  rintro _ h10 ⟨hle10,hpre10⟩;have hbu2:andE (uAll (insU f m idom b) (nth f.blocks b).ins.length) (endU f m idom b)=endU f m idom b:=by rw[hpre10];rfl
  rw[hbu2]at hst her;rw[endU]at hst her;simp;subst hz;have ba10:=ba.2.mono (RE hle9 hle10);have ca10:=ae (RE hle9 hle10) ba.1;have bi10:=bi9.mono hle10;have ci10:=ae (RE hle9 hle10) bi.1;simp[ca10,ba10.len];refine aV [1,5,7,8,9,54,55,56,164,165,166] (fun(_:Unit) j=>[RM (RJ ⟨B,0,RK⟩),vp,.func (.func 122) #[] #[RM (RJ ⟨B,0,RK⟩),RM (RJ ⟨C,0,RK⟩)],RG RH b,RM (RJ ⟨D,0,RK⟩),vb,RG RH f.blocks.length,RG RH b,wa,RG RH (nth f.blocks b).term.args.length,RG RH j])
   (λ_ j h12=>(vw h10).le (vw h12)/\uAll (λj=>useS f.params m idom (nth (nth f.blocks b).term.args j) b (nth f.blocks b).ins.length (nth f.blocks b).ins.length b) j = .ok ()) (nth f.blocks b).term.args.length ()
   rfl R3 rfl ⟨View.le_refl _,rfl⟩ (λ_ _=>rfl) (λv i h1 hk m=>by simp) ?_ ?_
  ·rintro _ j h12 hltj ⟨hle12,hpre12⟩ K4 hK4;have hst12:=kY hpre12;have ba12:=ba10.mono hle12;have bi12:=bi10.mono hle12;have ci12:=ae hle12 ci10;have hle612:=RE hle68 (RE hle9 (RE hle10 hle12));have k12:=k6.ext hle612;have h512:=ae hle612 h56;simp(disch:=omega)[ba12.idx1 rfl,ba12.int RD,ci12,bi12.len];refine uP (ops:=[.tmp 171,.tmp 172,.tmp 175,.tmp 178,.tmp 179]) rfl R1 (Dx k12 h512 (ae hle612 hvd) (hd6.mono hle612)) ?_ ?_
   ·rintro _ h14 ⟨e,hle14⟩;exact hK4 () _ _ rfl rfl ⟨RE hle12 hle14,by rw[hst12];exact e⟩
   rintro _ h14 ⟨t,e,rfl,hle14⟩;exact⟨.inl rfl,hKp _ _ ⟨t,her (oV hpre12 hltj e),rfl,RE hle06 (RE hle612 hle14)⟩⟩
  rintro _ h12 ⟨hle12,hpre12⟩;simp;exact hK2 () _ _ rfl rfl ⟨RE hle7 (RE hle8 (RE hle9 (RE hle10 hle12))),by rw[hst];exact hpre12⟩
 rintro _ h7 ⟨hle7,hpre⟩;simp;exact hK _ _ ⟨hpre,RE hle06 hle7⟩
end
section
open Go Go.Lft
def Gy (t:Tr):FrameMode:=.panicking [{ v:=.iface T.gr (.agg #[RG RH t.1,RG RH t.2.1,RG RH t.2.2]),recovered:=true }]
theorem HE{a b c:Nat}{t:Tr}{h:Heap}{ra rb rc:Array Value}{ea eb ec:TypeId}(ha:h[a]? = RJ (.cells ra ea (0,0)))(hb:h[b]? = RJ (.cells rb eb (0,0)))(hc:h[c]? = RJ (.cells rc ec (0,0)))(sa:ra.size=1)(sb:rb.size=1)(sc:rc.size=1)(hab:a≠b)(hac:a≠c)(hbc:b≠c):sU RP 67 #[RM (RJ ⟨a,0,RK⟩),RM (RJ ⟨b,0,RK⟩),RM (RJ ⟨c,0,RK⟩)] (.panicking (trV t)) h
   (λu' h'=>u'=Gy t/\h'[a]? = RJ (.cells #[RG RH t.1] ea (0,0))/\h'[b]? = RJ (.cells #[RG RH t.2.1] eb (0,0))/\h'[c]? = RJ (.cells #[RG RH t.2.2] ec (0,0))/\h.size<=h'.size/\∀k,k<h.size->k≠a->k≠b->k≠c->h'[k]? = h[k]?):=by
 refine qS (args:=[RM (RJ ⟨a,0,RK⟩),RM (RJ ⟨b,0,RK⟩),RM (RJ ⟨c,0,RK⟩)]) (t:=6) (L:=L.gi.body.tail) (tys:=#[]) follows Tryz.func67 Q.gi R1 R1 R1 RB E.qm R1 R1 RB ?_;have ala:a<h.size:=(NV.1 ha).1;have alb:b<h.size:=(NV.1 hb).1;have alc:c<h.size:=(NV.1 hc).1;have hrec:kz (.panicking (trV t))=(.iface T.gr (.agg #[RG RH t.1,RG RH t.2.1,RG RH t.2.2]),Gy t):=rfl;rw[hrec];simp[L.gi,LC.tail];refine Bf (ms:=#[]) R1 rfl (.inr ⟨_,_,rfl,rfl⟩) ?_;simp;refine FE (d:=(Tryz.prog.underlying T.gr).getD .bool) R1 R1 rfl ?_;simp;refine fG (n:=3) (z:=.agg #[RG RH 0,RG RH 0,RG RH 0]) (v:=.agg #[RG RH t.1,RG RH t.2.1,RG RH t.2.2]) R1 rfl R1 rfl R7 R5 R5 λh1 hle1 hs1 hb1=>?_;generalize hD:h.size=D at hb1 hs1;obtain⟨H,hH⟩ : ∃H:View,H=λk=>if k=D then h1[k]? else none:=⟨_,rfl⟩;have hHle : ∀h2:Heap,h2[D]? = h1[D]?->H.le (vw h2):=λh2 e k o hk=>by
  rw[hH]at hk;simp only at hk;split at hk
  ·rename_i e2;subst e2;show h2[_]? = _;rw[e];exact hk
  cases hk
 have hHD:H D=RJ (.cells #[RG RH t.1,RG RH t.2.1,RG RH t.2.2] T.gr (0,0)):=by rw[hH];simp only[if_true];exact hb1
 have d0:an H ⟨D,0,RK⟩=RJ (RG RH t.1):=de hHD rfl;have d1:an H ⟨D,1,RK⟩=RJ (RG RH t.2.1):=de hHD rfl;have d2:an H ⟨D,2,RK⟩=RJ (RG RH t.2.2):=de hHD rfl;refine aH H (hHle h1 rfl) ?_;simp[d0,d1,d2];refine eJ (g:=a) (o:=0) (n:=1) (v:=RG RH t.1) R1 rfl rfl rfl R7 (hle1 _ _ ha) R3 λh2 hs2 ⟨row2,hr2,he2⟩ ho2=>?_;refine⟨hHle h2 (ho2 D R3),?_⟩;refine eJ (g:=b) (o:=0) (n:=1) (v:=RG RH t.2.1) R1 rfl rfl rfl R7 ((ho2 b (Ne.symm hab)).trans (hle1 _ _ hb)) R3 λh3 hs3 ⟨row3,hr3,he3⟩ ho3=>?_;refine⟨hHle h3 ((ho3 D R3).trans (ho2 D R3)),?_⟩;refine eJ (g:=c) (o:=0) (n:=1) (v:=RG RH t.2.2) R1 rfl rfl rfl R7 ((ho3 c (Ne.symm hbc)).trans ((ho2 c (Ne.symm hac)).trans (hle1 _ _ hc))) R3 λh4 hs4 ⟨row4,hr4,he4⟩ ho4=>?_;have one : ∀{row r:Array Value} {v:Value},v.cells = #[v]->r.size=1->row.toList=r.toList.take 0++v.cells.toList++r.toList.drop (0+1)->row = #[v]:=by intro row r v hv hr he;rw[<-Array.toList_inj,he,hv,PT,OW,OL (by simp[hr])];simp
 rw[one rfl sa he2]at hr2;rw[one rfl sb he3]at hr3;rw[one rfl sc he4]at hr4;refine⟨?_,?_,hr4,by omega,λk hk h1' h2' h3'=>?_⟩
 ·rw[ho4 a hac,ho3 a hab];exact hr2
 ·rw[ho4 b hbc];exact hr3
 rw[ho4 k h3',ho3 k h2',ho2 k h1'];exact(hle1 k h[k] (N6 R3)).trans (N6 R3).symm
theorem Dd{a b c:Nat}{h:Heap}:sU RP 67 #[RM (RJ ⟨a,0,RK⟩),RM (RJ ⟨b,0,RK⟩),RM (RJ ⟨c,0,RK⟩)] .returning h (λu' h'=>u' = .returning/\h'=h):=by refine qS (args:=[RM (RJ ⟨a,0,RK⟩),RM (RJ ⟨b,0,RK⟩),RM (RJ ⟨c,0,RK⟩)]) (t:=6) (L:=L.gi.body.tail) (tys:=#[]) follows Tryz.func67 Q.gi R1 R1 R1 RB E.qm R1 R1 RB ?_;have hrec:kz .returning=(.nilIface,.returning):=rfl;rw[hrec];simp[L.gi,LC.tail];refine Bf (ms:=#[]) R1 rfl (.inl ⟨rfl,rfl⟩) ?_;simp
def manyN (f:aq) (k:Nat):Int:=up (λi n=>n+(((nth f.blocks i).phis.length:Int)+(nth f.blocks i).ins.length)) k f.blocks.length
def ED (f:aq):Int:=manyN f f.blocks.length
def rQ (g:Gr):List Int:=(zt g (g.length*g.length+1)).getD []
def zc (f:aq):Except Tr MW->Except Tr Unit
 | .error t=>.error t
 | .ok m=>tz f m (rQ (ofG f.blocks))
def nc (f:aq):Except Tr Unit:=
 if cz f.params 0 4=RO then .error (1,0,0)
 else if f.blocks.length=0 then .error (14,0,0)
 else if ¬(f.blocks.length<=512/\ED f<=4096) then .error (2,0,0)
 else zc f (mW f (λ_=>RK))
def lJ (f:aq):Tr:=match nc f with
 | .ok _=>(0,0,0)
 | .error t=>t
theorem II{f:aq}{k:Nat}:0<=manyN f k:=by
 unfold manyN;induction k with
 | zero=>simp[up]
 | succ k ih=>rw[up];omega
theorem Hm{f:aq}{m m':MW}(h:mW f m = .ok m'): ∀i,i<f.blocks.length->(nth f.blocks i).term.to.length<=65:=by
 intro i hi;have key : ∀n,n<=f.blocks.length->∃s,upE (blkS f) n m = .ok s:=λn hn=>by
  cases e:upE (blkS f) n m with
  | ok s=>exact⟨s,rfl⟩
  | error t=>rw[mW,AR hn e]at h;cases h
 obtain⟨s,hs⟩:=key i R3;obtain⟨s',hs'⟩:=key (i+1) hi;rw[jz hs,blkS]at hs';split at hs'
 ·cases hs'
 split at hs'
 ·cases hs'
 rw[endS]at hs';split at hs'
 ·rename_i hok;rw[qf]at hok;split at hok
  ·rename_i sh hsh;simp only[cz,NS,decide_eq_true_eq]at hok;have:sh.2.2.2<=65:=by
    simp only[gy,putM]at hsh;repeat' (split at hsh)
    all_goals first | (cases hsh;done) | (cases hsh;decide)
   omega
  cases hok
 cases hs'
end
section
open Go Go.Lft
theorem HB{g:Gr}(hg:0<g.length):zt g (g.length*g.length+1)=RJ (rQ g):=by obtain⟨_,_,l,hl,_⟩:=yW hg;rw[rQ,hl];rfl
theorem one_cell{row r:Array Value}{v:Value}(hv:v.cells = #[v])(hr:r.size=1)(he:row.toList=r.toList.take 0++v.cells.toList++r.toList.drop (0+1)):row = #[v]:=by rw[<-Array.toList_inj,he,hv,PT,OW,OL (by simp[hr])];simp
structure SmB (x:BlkD):Prop where
 phis:x.phis.length<=10000
 ins:x.ins.length<=10000
 args:x.term.args.length<=10000
 to:x.term.to.length<=10000
 phi : ∀i,i<x.phis.length->(nth x.phis i).ins.length<=10000
 inn : ∀i,i<x.ins.length->(nth x.ins i).args.length<=10000
structure SmF (f:aq):Prop where
 len:f.blocks.length<=10000
 blk : ∀i,i<f.blocks.length->SmB (nth f.blocks i)
theorem IZ{f:aq}{v:Value}{h:Heap}(hv:Rd (vw h) v f)(hsm:SmF f):
  az RP 44 #[v] h (λu h'=>u = .tuple #[RG RH (lJ f).1,RG RH (lJ f).2.1,RG RH (lJ f).2.2]/\(vw h).le (vw h')):=by
 refine rN (args:=[v]) (g:=67) (t:=9) (capops:=#[.tmp 2,.tmp 3,.tmp 4]) (tys:=#[])
  (Mid:=λρ hh=>ρ=[(0,v),(1,RM (RJ ⟨h.size,0,RK⟩)),(2,RM (RJ ⟨h.size+1,0,RK⟩)),(3,RM (RJ ⟨h.size+2,0,RK⟩)),(4,RM (RJ ⟨h.size+3,0,RK⟩))]/\hh.size=h.size+4/\(vw h).le (vw hh)/\At (vw hh) ⟨h.size,0,RK⟩ f/\
   hh[h.size+1]? = RJ (.cells #[RG RH 0] T.oz (0,0))/\hh[h.size+2]? = RJ (.cells #[RG RH 0] T.int (0,0))/\hh[h.size+3]? = RJ (.cells #[RG RH 0] T.int (0,0)))
  follows Tryz.func44 B.mR R1 R1 R1 R1 R1 R1 RB R1 E.lh R1 E.ir R1 R.yD RB ?_ ?_
 ·simp[L.lh];refine fW rfl hv λh1 e1 hle1 hs1 hat=>?_;refine cZ (z:=RG RH 0) R1 ?_;refine cZ (z:=RG RH 0) R1 ?_;refine cZ (z:=RG RH 0) R1 ?_;have q1:=bM h1 (.cells (RG RH 0).cells T.oz);generalize e2:h1.push (.cells (RG RH 0).cells T.oz)=h2 at q1;have b2:h2[h1.size]? = RJ (.cells #[RG RH 0] T.oz (0,0)):=by rw[<-e2];simp
  have s2:h2.size=h1.size+1:=by rw[<-e2];simp
  have q2:=bM h2 (.cells (RG RH 0).cells T.int);generalize e3:h2.push (.cells (RG RH 0).cells T.int)=h3 at q2;have b3:h3[h2.size]? = RJ (.cells #[RG RH 0] T.int (0,0)):=by rw[<-e3];simp
  have s3:h3.size=h2.size+1:=by rw[<-e3];simp
  have q3:=bM h3 (.cells (RG RH 0).cells T.int);generalize e4:h3.push (.cells (RG RH 0).cells T.int)=h4 at q3;have b4:h4[h3.size]? = RJ (.cells #[RG RH 0] T.int (0,0)):=by rw[<-e4];simp
  have s4:h4.size=h3.size+1:=by rw[<-e4];simp
  have hsz:h1.size=h.size+1:=hs1;have e22:h2.size=h.size+2:=by omega
  have e32:h3.size=h.size+3:=by omega
  rw[hsz]at b2;rw[e22]at b3;rw[e32]at b4;rw[e22,e32,hsz];simp;exact⟨by omega,RE hle1 (RE q1 (RE q2 q3)),hat.mono (RE q1 (RE q2 q3)),q3 _ _ (q2 _ _ b2),q3 _ _ b3,b4⟩
 rintro ρ hh ⟨rfl,hs,hle,hat,hb1,hb2,hb3⟩;refine⟨[RM (RJ ⟨h.size+1,0,RK⟩),RM (RJ ⟨h.size+2,0,RK⟩),RM (RJ ⟨h.size+3,0,RK⟩)],by simp[tH],
  ⟨λch h2=>∃t,nc f = .error t/\ch=trV t/\(vw hh).le (vw h2),λρ=>Lft.look ρ 2=RJ (RM (RJ ⟨h.size+1,0,RK⟩))/\Lft.look ρ 3=RJ (RM (RJ ⟨h.size+2,0,RK⟩))/\Lft.look ρ 4=RJ (RM (RJ ⟨h.size+3,0,RK⟩))⟩,?_,?_⟩;rotate_left
 ·rintro ch ρ2 h2 ⟨t,ht,rfl,hle2⟩ ⟨l2,l3,l4⟩;refine⟨_,HE (hle2 _ _ hb1) (hle2 _ _ hb2) (hle2 _ _ hb3) rfl rfl rfl R3 R3 R3,?_⟩;rintro u' h3 ⟨rfl,g1,g2,g3,gs,go⟩;have c1:an (vw h3) ⟨h.size+1,0,RK⟩=RJ (RG RH t.1):=de (show vw h3 _=_ from g1) rfl;have c2:an (vw h3) ⟨h.size+2,0,RK⟩=RJ (RG RH t.2.1):=de (show vw h3 _=_ from g2) rfl;have c3:an (vw h3) ⟨h.size+3,0,RK⟩=RJ (RG RH t.2.2):=de (show vw h3 _=_ from g3) rfl;refine⟨rfl,[RG RH t.1,RG RH t.2.1,RG RH t.2.2],by simp[R.mR,l2,l3,l4,c1,c2,c3],?_⟩;refine⟨by simp[lJ,ht],λb o hb=>?_⟩;have hlt:=View.lt (View.le_refl (vw h)) hb;show h3[b]? = _;have hb2':=hle2 _ _ (hle _ _ hb);have hlt2:=View.lt (View.le_refl (vw h2)) hb2';rw[go b hlt2 R3 R3 R3];exact hb2'
 obtain⟨cp,vb,cb⟩:=gH hat;have hbb:=cb.2.bound;have bad : ∀{t:Tr} {ch:List PanicEntry} {h2:Heap},nc f = .error t->ch=trV t->(vw hh).le (vw h2)->∃t,nc f = .error t/\ch=trV t/\(vw hh).le (vw h2):=λa b c=>⟨_,a,b,c⟩;simp only[mQ,EX];dsimp only[L.ir,lkF,lkG];refine aa λz hz=>?_;simp[cp];refine ah R1 kZ ?_;rintro _ _ ⟨rfl,rfl⟩;refine en R1 iI ?_ ?_;rotate_left
 ·rintro _ _ ⟨e,rfl,rfl⟩;exact⟨.inl rfl,bad (by rw[nc,if_pos e]) rfl RD⟩
 rintro _ hh ⟨e1,rfl⟩;have e1':¬cz f.params 0 4=false:=by rw[e1];simp
 subst hz;refine aa λz hz=>?_;simp[cb.1,cb.2.len];refine en R1 iI ?_ ?_;rotate_left
 ·rintro _ _ ⟨e,rfl,rfl⟩;exact⟨.inl rfl,bad (by rw[nc,if_neg e1',if_pos (by simpa using e)]) rfl RD⟩
 rintro _ hh ⟨e2,rfl⟩;have e2':¬f.blocks.length=0:=by intro e;rw[e]at e2;simp at e2
 subst hz;refine aa λz hz=>?_;simp[cb.1,cb.2.len];subst hz;refine aa λz hz=>?_;simp[cb.1,cb.2.len];refine aV [1,2,3,4,5,23,24,25] (fun(_:Unit) k=>[RM (RJ ⟨h.size,0,RK⟩),RM (RJ ⟨h.size+1,0,RK⟩),RM (RJ ⟨h.size+2,0,RK⟩),RM (RJ ⟨h.size+3,0,RK⟩),RG RH (manyN f k),vb,RG RH f.blocks.length,RG RH k])
  (λ_ k h1=>(vw hh).le (vw h1)/\manyN f k<=f.blocks.length+k*2000000) f.blocks.length ()
  rfl R3 rfl ⟨View.le_refl _,by simp[manyN,up]⟩ (λ_ _=>rfl) (λv i h1 hk m=>by simp) ?_ ?_
 ·rintro _ k h1 hlt ⟨hle1,hmk⟩ K2 hK2;have cb1:=cb.2.mono hle1;obtain⟨u,hu,hur⟩:=cb1.wh rfl (N:=6) rfl hlt;refine aa λy hy=>?_;simp(disch:=omega)[cb1.idxn (N:=6) rfl,hu _ RD];refine dt (z:=.agg #[RL RK 0 0,RL RK 0 0,RG RH 0,RL RK 0 0,RL RK 0 0,RG RI 0]) R1 rfl R1 hur R5 R5 λh2 hle2 hsz2 hat2=>?_;obtain⟨vp,vi,va,vt,bp,bi,_⟩:=jm (hat2 (vw h2) hle2 rfl);have bph:=bp.2.bound;have bih:=bi.2.bound;have hm1:manyN f (k+1)=manyN f k+(((nth f.blocks k).phis.length:Int)+(nth f.blocks k).ins.length):=rfl;have h0:=II (f:=f) (k:=k);subst hy;simp[bp.1,bp.2.len,bi.1,bi.2.len];have s1:=(hsm.blk k hlt).phis;have s2:=(hsm.blk k hlt).ins;have s0:=hsm.len;rw[bh (a:=((nth f.blocks k).phis.length:Int)+(nth f.blocks k).ins.length) R3 R3,bh R3 R3];exact hK2 () _ _ rfl (by rw[hm1];rfl) ⟨RE hle1 hle2,by rw[hm1];omega⟩
 rintro _ h1 ⟨hle1,hmk⟩;simp;subst hz;refine aa λz hz=>?_;have cb1:=cb.2.mono hle1;have cc1:=ae hle1 cb.1;have cp1:=ae hle1 cp;simp[cc1,cb1.len];have hms:manyN f f.blocks.length=ED f:=rfl;rw[hms];refine en R1 iI ?_ ?_;rotate_left
 ·rintro _ _ ⟨e,rfl,rfl⟩;refine⟨.inl rfl,bad ?_ rfl hle1⟩;rw[nc,if_neg e1',if_neg e2',if_pos];intro e3;simp at e;omega
 rintro _ h1 ⟨e3,rfl⟩;have e3':¬¬(f.blocks.length<=512/\ED f<=4096):=by simp at e3;omega
 have hchk:nc f=zc f (mW f (λ_=>RK)):=by rw[nc,if_neg e1',if_neg e2',if_neg e3']
 subst hz;refine aa λz hz=>?_;simp[HH cp1 cc1];refine nj ?_;have hle2:=bM h1 (.map #[] 0);have hm2:dW (.int .i64) (h1.push (.map #[] 0)) h1.size (mapE encW λ_=>RK):=by rw[qY];exact dW.none Sa
 have hs2:(h1.push (.map #[] 0)).size=h1.size+1:=by simp
 generalize h1.push (.map #[] 0)=h2 at hle2 hm2 hs2;refine ak (z:=.agg #[RG RH 0,RL RK 0 0,.map RK]) (places:=[(0,2),(2,1)]) (vs:=[(0,.agg #[RG RH f.params,vb]),(1,.map (RJ h1.size))]) (cs:=#[RG RH f.params,vb,.map (RJ h1.size)]) R1 R1 Sa R1 ?_;refine cu (v:=.agg #[RG RH f.params,vb,.map (RJ h1.size)]) rfl ?_;have hle3:=bM h2 (.cells (Value.cells (.agg #[RG RH f.params,vb,.map (RJ h1.size)])) T.jc);have hbk:(h2.push (.cells (Value.cells (.agg #[RG RH f.params,vb,.map (RJ h1.size)])) T.jc))[h2.size]? = RJ (.cells #[RG RH f.params,vb,.map (RJ h1.size)] T.jc (0,0)):=by simp
 have hs3:(h2.push (.cells (Value.cells (.agg #[RG RH f.params,vb,.map (RJ h1.size)])) T.jc)).size=h2.size+1:=by simp
 generalize h2.push (.cells (Value.cells (.agg #[RG RH f.params,vb,.map (RJ h1.size)])) T.jc)=h3 at hle3 hbk hs3;subst hz;have hsk:skip h1.size h3 h2.size=RJ (.cells #[RG RH f.params,vb,.map (RJ h1.size)] T.jc (0,0)):=by rw[nk R3];exact hbk
 have hle13:=RE hle2 hle3;have hle1k:(vw h1).le (skip h1.size h3):=λb o hb=>by have hlt:=View.lt (View.le_refl (vw h1)) hb;rw[nk R3];exact hle13 b o hb
 have k3:Lk h3 h2.size h1.size vb f (λ_=>RK):=⟨de hsk rfl,de hsk rfl,de hsk rfl,cb1.mono hle1k,hm2.ext hle3⟩;generalize h2.size=Kb at k3;generalize hr:h1.size=r at k3;have hkk : ∀{h':Heap},Kept h3 h' (RJ r)->(vw hh).le (vw h'):=λkp b o hb=>by have h1b:=hle1 b o hb;have hlt:=View.lt (View.le_refl (vw h1)) h1b;have h3b:=hle13 b o h1b;have hlt3:=View.lt (View.le_refl (vw h3)) h3b;show _=_;exact(kp.block b hlt3 R9).trans h3b
 refine aa λz hz=>?_;simp;refine en R1 (Iw k3) ?_ ?_;rotate_left
 ·rintro _ h4 ⟨t,ht,rfl,kp4⟩;exact⟨.inl rfl,bad (by rw[hchk,ht];rfl) rfl (hkk kp4)⟩
 rintro _ h4 ⟨m4,hm4,k4,kp4⟩;have hto:=Hm hm4;rw[hm4]at hchk;have hchk:nc f=tz f m4 (rQ (ofG f.blocks)):=hchk;subst hz;refine aa λz hz=>?_;simp;have hgl:(ofG f.blocks).length=f.blocks.length:=by simp[ofG]
 refine en R1 (JM k4 (OD hsm.len R4) (λi hi=>OD (hto i hi) R4) (HB R3)) ?_ ?_;rotate_left
 ·rintro _ h5 ⟨t,ht,rfl,hle5⟩;exact⟨.inl rfl,bad (by rw[hchk,ht]) rfl (RE (hkk kp4) hle5)⟩
 rintro _ h5 ⟨hus,hle5⟩;have hle05:=RE (hkk kp4) hle5;subst hz;simp;refine eJ (g:=h.size+1) (o:=0) (n:=1) (v:=RG RH 0) R1 rfl rfl rfl R7 (hle05 _ _ hb1) Sa λh6 hs6 ⟨row6,hr6,he6⟩ ho6=>?_;refine eJ (g:=h.size+2) (o:=0) (n:=1) (v:=RG RH 0) R1 rfl rfl rfl R7 ((ho6 _ R3).trans (hle05 _ _ hb2)) Sa λh7 hs7 ⟨row7,hr7,he7⟩ ho7=>?_;refine eJ (g:=h.size+3) (o:=0) (n:=1) (v:=RG RH 0) R1 rfl rfl rfl R7 ((ho7 _ R3).trans ((ho6 _ R3).trans (hle05 _ _ hb3))) Sa λh8 hs8 ⟨row8,hr8,he8⟩ ho8=>?_;rw[one_cell rfl rfl he6]at hr6;rw[one_cell rfl rfl he7]at hr7;rw[one_cell rfl rfl he8]at hr8;refine⟨_,Dd,?_⟩;rintro u' h9 ⟨rfl,rfl⟩;have c1:an (vw h9) ⟨h.size+1,0,RK⟩=RJ (RG RH 0):=de (show vw h9 _=_ from(ho8 _ R3).trans ((ho7 _ R3).trans hr6)) rfl;have c2:an (vw h9) ⟨h.size+2,0,RK⟩=RJ (RG RH 0):=de (show vw h9 _=_ from(ho8 _ R3).trans hr7) rfl;have c3:an (vw h9) ⟨h.size+3,0,RK⟩=RJ (RG RH 0):=de (show vw h9 _=_ from hr8) rfl;refine⟨rfl,[RG RH 0,RG RH 0,RG RH 0],by simp[R.mR,c1,c2,c3],?_⟩;have htold:lJ f=(0,0,0):=by rw[lJ,hchk,hus]
 refine⟨by simp[htold],λb o hb=>?_⟩;have hlt:=View.lt (View.le_refl (vw h)) hb;show h9[b]? = _;rw[ho8 b R3,ho7 b R3,ho6 b R3];exact hle05 _ _ (hle _ _ hb)
theorem yj{f:aq}{v:Value}{h:Heap}(hv:Rd (vw h) v f)(hsm:SmF f):
  az RP 27 #[v] h (λu h'=>u = .bool (decide ((lJ f).1=0))/\(vw h).le (vw h')):=by refine ao (args:=[v]) follows Tryz.func27 E.nP RB λK hK=>?_;simp[L.nP];refine fW rfl hv λh1 e1 hle1 hs1 hat=>?_;obtain⟨u,hu,hur⟩:=hat.aZ rfl;have hu':Un.ev (vw h1) (.aZ 2) (RM (RJ ⟨h.size,0,RK⟩))=RJ u:=hu;simp[hu'];refine ah R1 (IZ hur hsm) ?_;rintro _ h2 ⟨rfl,hle2⟩;simp;exact hK _ _ ⟨rfl,RE hle1 hle2⟩
end
end Go.Proofs.YtnfiilgdjpdlkaaGreatDoor
