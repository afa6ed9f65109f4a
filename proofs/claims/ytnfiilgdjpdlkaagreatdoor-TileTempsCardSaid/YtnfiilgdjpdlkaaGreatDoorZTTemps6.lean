/- A part of the proof: Ml, Mm, Mn, Mo, Mp, Mq, Mr, Ms, Mt, Mu, Mv, Mw, Mx, My, Mz, Na, Tk, Om, On, Ja. -/
import Derived.Test.YtnfiilgdjpdlkaaGreatDoorZTTemps5
import Derived.Laws.BytesArg
set_option linter.unusedSimpArgs false
set_option linter.unusedVariables false
namespace Go.Proofs.YtnfiilgdjpdlkaaGreatDoor
open Go Go.Lft
section
structure Grw (b k:Nat) (m m':MS):Prop where
 at0:m.at_<=m'.at_
 at1:m'.at_<=m.at_+k
 n0:m.next<=m'.next
 n1:m'.next<=m.next+k
 ps:m'.ps=m.ps
 live:m'.live.length<=m.live.length+k
 len:m'.blocks.length=m.blocks.length
 els : ∀i,i≠b->nth m'.blocks i=nth m.blocks i
 ins:(nth m'.blocks b).ins.length<=(nth m.blocks b).ins.length+k
 phis:(nth m'.blocks b).phis=(nth m.blocks b).phis
 term:(nth m'.blocks b).term=(nth m.blocks b).term
variable {s:List Int} {m m' m2:MS} {b c k l:Nat}
theorem Grw.refl:Grw b 0 m m:=⟨Kz _,Kz _,Nd _,by omega,rfl,Kz _,rfl,fun _ _=>rfl,Kz _,rfl,rfl⟩
theorem Grw.trans (g:Grw b k m m') (h:Grw b l m' m2):Grw b (k+l) m m2:=
 ⟨KU g.at0 h.at0,by have:=g.at1;have:=h.at1;omega,Int.le_trans g.n0 h.n0,by have:=g.n1;have:=h.n1;omega,h.ps.trans g.ps,by have:=g.live;have:=h.live;omega,h.len.trans g.len,fun i hi=>(h.els i hi).trans (g.els i hi),by have:=g.ins;have:=h.ins;omega,h.phis.trans g.phis,h.term.trans g.term⟩
theorem Grw.mono(g:Grw b k m m')(h:k<=l):Grw b l m m':=
 ⟨g.at0,by have:=g.at1;omega,g.n0,by have:=g.n1;omega,g.ps,by have:=g.live;omega,g.len,g.els,by have:=g.ins;omega,g.phis,g.term⟩
theorem Grw.took (g:Grw b k m m'):Grw b (k+1) m m'.took:=g.trans ⟨by show _<=m'.at_+1;omega,Kz _,Nd _,by show m'.next<=_;omega,rfl,by show m'.live.length<=_;omega,rfl,fun _ _=>rfl,by show(nth m'.blocks b).ins.length<=_;omega,rfl,rfl⟩
theorem Grw.aG (g:Grw b k m m'):Grw b (k+1) m m'.aG:=g.trans ⟨Kz _,by show m'.at_<=_;omega,by show _<=m'.next+1;omega,Nd _,rfl,by show m'.live.length<=_;omega,rfl,fun _ _=>rfl,by show(nth m'.blocks b).ins.length<=_;omega,rfl,rfl⟩
theorem Grw.add {i:InsD} (hb:b<m.blocks.length) (g:Grw b k m m'):Grw b (k+2) m (m'.add b i):=by
 have hb':b<m'.blocks.length:=by rw[g.len];exact hb
 have e:nth (m'.add b i).blocks b={ nth m'.blocks b with ins:=(nth m'.blocks b).ins++[i] }:=by show nth (m'.blocks.set b _) b=_;rw[bn hb',if_pos rfl]
 refine g.trans ⟨Kz _,by show m'.at_<=_;omega,Nd _,by show m'.next<=_;omega,rfl,?_,lU,fun j hj=>?_,?_,by rw[e],by rw[e]⟩
 ·show(m'.live++cQ i).length<=_;have h2:(cQ i).length<=2:=by
   unfold cQ;repeat' split
   all_goals simp
  rw[KK];omega
 ·show nth (m'.blocks.set b _) j=_;rcases KB j m'.blocks.length with hl | hl
  ·rw[bn hl,if_neg (fun e=>hj e.symm)]
  rw[de (by simpa using hl),de hl]
 rw[e];show((nth m'.blocks b).ins++[i]).length<=_;rw[KK,KW];omega
theorem Grw.constant {n:Int} (hb:b<m.blocks.length) (g:Grw b k m m'):Grw b (k+3) m (m'.constant b n):=g.aG.add hb
theorem Grw.two {op x y:Int} (hb:b<m.blocks.length) (g:Grw b k m m'):Grw b (k+3) m (m'.two b op x y):=g.aG.add hb
theorem Grw.jM(hb:b<m.blocks.length)(g:Grw b k m m'):Grw b (k+10) m (aE s m' b).2:=by
 unfold aE;repeat' split
 ·exact(g.took.took.constant hb).mono (by omega)
 ·exact(g.took.took.took.took.took.constant hb).mono (by omega)
 exact(g.took.took.took).mono (by omega)
theorem Grw.addr(hb:b<m.blocks.length)(g:Grw b k m m'):Grw b (k+30) m (nI s m' b).2:=by
 unfold nI;simp only;split
 ·exact(((((g.took.constant hb).took.jM hb).constant hb).two hb).two hb).mono (by omega)
 exact((g.took.constant hb).took).mono (by omega)
theorem Grw.off(g:Grw b k m m'):Grw b (k+4) m (offS s m').2:=by
 unfold offS;split
 ·exact g.took.took.took.took
 exact g.took.took.mono (by omega)
theorem Grw.memory{st:Bool}(hb:b<m.blocks.length)(g:Grw b k m m'):Grw b (k+60) m (ja s m' b st):=by
 unfold ja;simp only;split
 ·exact((((g.addr hb).off.jM hb)).add hb).mono (by omega)
 exact(((g.addr hb).off.aG).add hb).mono (by omega)
theorem Grw.bin{op:Int}(hb:b<m.blocks.length)(g:Grw b k m m'):Grw b (k+60) m (binS s m' b op):=by
 unfold binS;simp only;split
 ·exact((((g.jM hb).jM hb).took.took.constant hb).two hb).mono (by omega)
 exact(((g.jM hb).jM hb).took.two hb).mono (by omega)
theorem Grw.div(hb:b<m.blocks.length)(g:Grw b k m m'):Grw b (k+60) m (divS s m' b):=by
 unfold divS;simp only;split
 ·exact((((g.jM hb).took.constant hb).took.took.constant hb).two hb).mono (by omega)
 exact(((g.jM hb).took.constant hb).took.two hb).mono (by omega)
theorem Grw.args (hb:b<m.blocks.length) {x:List Int × MS} (g:Grw b k m x.2) : ∀n,Grw b (k+10*n) m (up (ia s b) n x).2
 | 0=>g
 | n+1=>((Grw.args hb g n).jM hb).mono (by omega)
theorem Grw.call(hb:b<m.blocks.length)(g:Grw b k m m'):Grw b (k+70) m (nD s m' b):=by unfold nD;simp only;have ht:=dd (s:=s) (at_:=m'.at_) (n:=5) (by decide);have g2:=Grw.args (s:=s) hb (x:=([],m'.took)) g.took (aD s m'.at_ 5).toNat;exact(g2.aG.took.add hb).mono (by omega)
theorem Grw.jm(hb:b<m.blocks.length)(g:Grw b k m m'):Grw b (k+80) m (aL s b m'):=by
 unfold aL;simp only;repeat' split
 ·exact(g.took.bin hb).mono (by omega)
 ·unfold ltuS;exact(((g.took.jM hb).jM hb).two hb).mono (by omega)
 ·exact(g.took.div hb).mono (by omega)
 ·exact(g.took.memory hb).mono (by omega)
 ·exact(g.took.call hb).mono (by omega)
 ·unfold wN;exact(((g.took.jM hb).jM hb).aG.aG.add hb).mono (by omega)
 exact(g.took.took.took.constant hb).mono (by omega)
theorem Grw.iJ (hb:b<m.blocks.length) (g:Grw b k m m') : ∀n,Grw b (k+80*n) m (up (fun _=>aL s b) n m')
 | 0=>g
 | n+1=>((Grw.iJ hb g n).jm hb).mono (by omega)
theorem Grw.Hl{to:List Int}(hb:b<m.blocks.length)(g:Grw b k m m'):Grw b (k+40) m (iz s to b m').2:=by
 unfold iz;simp only;repeat' split
 ·exact g.took.took.mono (by omega)
 ·exact(g.took.jM hb).mono (by omega)
 ·exact g.took.mono (by omega)
 ·exact g.mono (by omega)
 ·exact((((g.jM hb).took.jM hb)).aG.took.add hb).mono (by omega)
 ·exact(g.jM hb).took.mono (by omega)
 exact(((g.jM hb).constant hb).two hb).mono (by omega)
def MS.f (m:MS):ak:=⟨m.ps,m.blocks⟩
def MS.lG (m:MS) (b:Nat) (l:List Int):MS:={ m with blocks:=m.blocks.set b { nth m.blocks b with term:={ (nth m.blocks b).term with to:=l } } }
def ij (s:List Int) (m:MS) (b:Nat):Int:=
 if 1<(cY m.f b).length then aD s m.at_ 4 else if aD s m.at_ 6=0 then 1 else 0
def fy (b:Nat) (m:MS):MS:={ m.aG with blocks:=m.blocks.set b { nth m.blocks b with phis:=(nth m.blocks b).phis++[⟨m.next,[]⟩] } }
def fF (s:List Int) (k:Nat) (x:List Int × MS):List Int × MS:=
 (x.1.set (k+1) (ij s x.2 (k+1)),up (fun _=>fy (k+1)) (ij s x.2 (k+1)).toNat x.2.took)
def pz (f:ak) (n:Nat):List BL:=rows (fun a=>eM f (a:Int)) n
def sr (dn:BL) (away:List BL) (b n:Nat):Bool:=up (fun a r=>r&&(decide (a=b)||nth dn a||nth (nth away a) b)) n (!nth dn b)
def iU (m:MS) (dn:BL) (away:List BL) (b:Nat) (a:Nat) (l:List Int):List Int:=
 if decide (a≠b)&&(!nth dn a||nth (nth away a) b) then l
 else l++(nth m.blocks a).phis.map PhiD.dst++(nth m.blocks a).ins.flatMap cQ
def lR (m:MS) (dn:BL) (away:List BL) (b n:Nat):List Int:=up (iU m dn away b) n (rows (fun i=>(i:Int)) m.ps.toNat)
def jc (s:List Int) (to:List (List Int)) (n:Nat) (dn:BL) (away:List BL) (b:Nat) (m:MS):MS:=
 let m1:MS:={ m with live:=lR m dn away b n }
 nW s (nth to b) b (up (fun _=>aL s b) (aD s m1.at_ 7).toNat m1.took)
def cC (s:List Int) (to:List (List Int)) (n:Nat) (b:Nat) (x:BL × MS):BL × MS:=
 if sr x.1 (pz x.2.f n) b n then(x.1.set b true,jc s to n (x.1.set b true) (pz x.2.f n) b x.2) else x
def dQ (s:List Int) (p:List Int) (k:Nat) (x:List InD × MS):List InD × MS:=
 let b:=(nth p k).toNat
 let l:=iy x.2.f b
 let r:List Int × MS:=if l.length=0 then([x.2.next],x.2.took.took.constant b (kz s x.2)) else(l,x.2)
 (x.1++[⟨nth p k,nth r.1 (aD s r.2.at_ r.1.length).toNat⟩],r.2.took)
def MS.qA (m:MS) (b i:Nat) (l:List InD):MS:={ m with blocks:=m.blocks.set b { nth m.blocks b with phis:=(nth m.blocks b).phis.set i { nth (nth m.blocks b).phis i with ins:=l } } }
def phi3 (s:List Int) (b:Nat) (p:List Int) (i:Nat) (m:MS):MS:=(up (dQ s p) p.length ([],m)).2.qA b i (up (dQ s p) p.length ([],m)).1
def blk3 (s:List Int) (phis:List Int) (k:Nat) (m:MS):MS:=up (phi3 s (k+1) (cY m.f ((k+1:Nat):Int))) (nth phis (k+1)).toNat m
def tZ (s:List Int):MS:=⟨2,aD s 0 5,[],aD s 0 5,[]⟩
def bH (s:List Int):Nat:=(1+aD s 1 9).toNat
def iL (s:List Int):TgS:=od s (bH s) (tZ s)
def qS:BlkD:=⟨[],[],⟨0,[],[],⟨0⟩⟩⟩
def qx (s:List Int):MS:=up (fun b m=>m.lG b (nth (iL s).1 b)) (bH s) { (iL s).2 with blocks:=List.replicate (bH s) qS }
def jC (s:List Int):List Int × MS:=up (fF s) (bH s-1) (List.replicate (bH s) 0,qx s)
def wL (s:List Int):BL × MS:=up (fun _=>up (cC s (iL s).1 (bH s)) (bH s)) (bH s) (List.replicate (bH s) false,(jC s).2)
def sT (s:List Int):MS:=up (blk3 s (jC s).1) (bH s-1) (wL s).2
def lq (s:List Int):ak:=(sT s).f
end
section
variable {s:List Int} {M:Nat} {vs:Value} {W0:View} {h:Heap} {o0:Own} {m:MS} {u:Value} {ds:List Int}
structure Reads (M:Nat) (m:MS) (h:Heap) (vb vl:Value):Prop where
 ps:aj (vw h) ⟨M,2,none⟩=some (.int .i64 m.ps)
 nx:aj (vw h) ⟨M,4,none⟩=some (.int .i64 m.next)
 cb:aj (vw h) ⟨M,3,none⟩=some vb
 cl:aj (vw h) ⟨M,5,none⟩=some vl
 f:Un.ev (vw h) (.au 2) (.pointer (some ⟨M,2,none⟩))=some (.agg #[.int .i64 m.ps,vb])
 blk:SlRd (vw h) vb m.blocks
 live:SlRd (vw h) vl m.live
variable{vb vl:Value}
theorem Reads.rd(r:Reads M m h vb vl)(hp:I64 m.ps):Rd (vw h) (.agg #[.int .i64 m.ps,vb]) m.f:=⟨_,rfl,[.int .i64 m.ps],[vb],rfl,⟨rfl,hp⟩,vb,rfl,r.blk⟩
variable{W:View}
theorem Mk.reads{o:Own}(w:Mk s M vs W h o m){lb:List BlkM}(bb:MkB M vs m o vb vl lb):Reads M m h vb vl:=by
 have c2:aj (vw h) ⟨M,2,none⟩=some (.int .i64 m.ps):=bb.cell w.own (i:=2) (by decide);have c3:aj (vw h) ⟨M,3,none⟩=some vb:=bb.cell w.own (i:=3) (by decide);refine⟨c2,bb.cell w.own (i:=4) (by decide),c3,bb.cell w.own (i:=5) (by decide),?_,?_,w.own.now bb.live⟩
 ·have hat:=w.own.uh bb.box;obtain⟨cs,⟨cur,e,fz,g1,g2,g3⟩,he,_⟩:=w.own.atW bb.box;have:iK (vw h) ⟨M,2,none⟩ [.int .i64 m.ps,vb]:=⟨cur,e,fz,rfl,g2,by
   have g3:(cur.toList.drop 0).take cs.length=cs:=g3;have he:cs=mkL vs m.at_ m.ps vb m.next vl:=he;rw[LW]at g3;have hd:cs.drop 2=(cur.toList.drop 2).take (cs.length-2):=by have:=congrArg (List.drop 2) g3;rw[LM]at this;exact this.symm
   have hl:cs.length=6:=by rw[he];rfl
   have h2:(cs.drop 2).take 2=(cur.toList.drop 2).take 2:=by rw[hd,hl,LN];rfl
   show(cur.toList.drop 2).take 2=_;rw[<-h2,he];rfl⟩;have:=gy this 2 0 #[] rfl;simp only[Un.ev,vP,KS];rw[this];simp
 refine xI (w.own.now bb.blk) rfl bb.len fun i h1 h2 cs hr=>?_;have:=Ab hr (p:=(nth m.blocks i).phis) (i:=(nth m.blocks i).ins) (by have:=w.own.now (bb.phis i h2);rwa [az h1]at this) (by have:=w.own.now (bb.ins i h2);rwa [az h1]at this);have ht:=bb.term i h2;rw[az h1]at ht;rw[ht]at this;rw[<-az h2];exact this
theorem Nz.reads (n:Nz s M vs W0 h o0 m u ds) : ∃vb vl,Reads M m h vb vl:=by obtain⟨W,o,g,w,f,sl⟩:=n;obtain⟨vb,vl,lb,bb⟩:=w.box;exact⟨vb,vl,w.reads bb⟩
variable{α:Type}
theorem Nz.at[Rep α](n:Nz s M vs W0 h o0 m u ds){k:Key}(h3:3<=k.1){e:TypeId}{v:Value}{l:List α}(hk:o0 k=it e v l):SlRd (vw h) v l:=by obtain⟨W,o,g,w,f,sl⟩:=n;exact w.own.now ((f k h3).trans hk)
end
theorem BlkM.yb:Part BlkM (List Int) 4 (fun d=>d.term.to) (fun d x=>{ d with term:={ d.term with to:=x } }):=(Part.snd (Part.snd ((Part.snd (Part.snd (Part.fst Part.all))).via (α:=Cat Int (Cat (List Int) (Cat (List Int) I32))) (f:=fun d:dm=>Cat.mk d.kind (Cat.mk d.args (Cat.mk d.to d.imm))) (g':=dm.to) (s':=fun d x=>{ d with to:=x }) (fun _=>rfl) fun _ _=>rfl))).via (fun _=>rfl) fun _ _=>rfl
section
variable {s:List Int} {M:Nat} {vs:Value} {W0:View} {h:Heap} {o0:Own} {m:MS} {u:Value} {ds:List Int}
variable{po:OP}{α:Type}{ty:TypeId}{us:List (Nat × Value)}
theorem Nz.GC[r:Rep α](n:Nz s M vs W0 h o0 m u ds){k:Key}{e:TypeId}{i:Nat}{v:Value}{l:List α}{t:TypeId}{x y:Operand}{d:α}{w:Value}{K:Value->Heap->Prop}(h3:3<=k.1)(hk:o0 k=it e v l)(hi:i<l.length)(hsz:dp Tryz.prog t=some (Rep.n α))(hx:asg us x = .pointer (some ((slA v).add (i*Rep.n α))))(hy:asg us y=w)(hr : ∀W,Rd W w d)(hK : ∀h',Nz s M vs W0 h' (o0.upd k (it e v (l.set i d))) m u ds->K undef h'):@Lft.step po Tryz.prog (.store t x y) ty us h K:=by
 obtain⟨W,o,g1,wk,f,sl⟩:=n;refine wk.own.bh (k:=k) (v:=v) (l:=l) (i:=i) (d:=d) ((f k h3).trans hk) hsz hx hy hi (hr W) fun h' w' _=>hK h' ?_;obtain⟨vb,vl,lb,bb⟩:=wk.box;refine⟨W,_,g1,⟨w',wk.src,vb,vl,lb,bb.frame fun q hq=>Own.ay (by rintro rfl;omega)⟩,fun q hq=>?_,sl⟩;unfold Own.upd;split
 ·rfl
 exact f q hq
variable{W:View}{vb vl:Value}{b:Nat}{ty2:TypeId}
theorem Mk.JA{o:Own}(w:Mk s M vs W h o m){lb:List BlkM}(bb:MkB M vs m o vb vl lb){l:List Int}{v:Value}{x y:Operand}{K:Value->Heap->Prop}(hb:b<m.blocks.length)(hsz:dp Tryz.prog ty2=some 1)(hx:asg us x = .pointer (some (((slA vb).add (b*6)).add 4)))(hy:asg us y=v)(hr:SlRd W v l)(hK : ∀h' o',Mk s M vs W h' o' (m.lG b l)->(∀k:Key,3<=k.1->o' k=o k)->K undef h'):@Lft.step po Tryz.prog (.store ty2 x y) ty us h K:=by
 have hbl:b<lb.length:=by rw[bb.len];exact hb
 refine w.own.oK (k:=(0,2)) (α:=BlkM) BlkM.yb (v:=vb) (l:=lb) (i:=b) (d:=l) bb.blk hsz hx hy hbl (eE.2 hr) fun h7 w7 _=>?_;have ht:=bb.term b hb;rw[az hbl]at ht;refine hK h7 _ ⟨w7,w.src,vb,vl,_,bb.gA hb (x':={ nth m.blocks b with term:={ (nth m.blocks b).term with to:=l } }) (y':={ lb[b]with term:={ lb[b].term with to:=l } }) (by rw[<-ht]) Own.an ?_ ?_ fun q h1 _ _=>Own.ay h1⟩ (mE (by decide))
 ·rw[Own.ay (by simp),bb.phis b hb,az hbl]
 rw[Own.ay (by simp),bb.ins b hb,az hbl]
end
theorem qD {to:List (List Int)} {m:MS} : ∀k,(up (fun b m=>MS.lG m b (nth to b)) k m).blocks.length=m.blocks.length
 | 0=>rfl
 | k+1=>by show(List.set _ _ _).length=_;rw[KZ];exact qD k
variable{M n:Nat}{vs vt vr:Value}{W0:View}{o0:Own}{to:List (List Int)}{Q:Post}{ρ:Env}
theorem FX{s:List Int}{h:Heap}{m:MS}(hto:SlRd W0 vt to)(hn:to.length=n)(x:Nx s M vs W0 h o0 m)(hlen:m.blocks.length=n)(hn2:n<=100)(h0:bF [2,3,4,5,6] ρ=[(2,vr),(3,.pointer (some ⟨M,0,none⟩)),(4,.int .i64 n),(5,vt),(6,.int .i64 0)])(hQ : ∀h',Nx s M vs W0 h' o0 (up (fun b m=>m.lG b (nth to b)) n m)->Q .normal [(2,vr),(3,.pointer (some ⟨M,0,none⟩)),(4,.int .i64 n),(5,vt),(6,.int .i64 n)] h'):
  LC.wp Tryz.prog (.block 0 (.loop L.aA.l1)) Q ρ h:=by
 simp only[aH];refine dI [2,3,4,5,6] (fun(_:Unit) k=>[vr,.pointer (some ⟨M,0,none⟩),.int .i64 n,vt,.int .i64 k]) (fun _ k h2=>Nx s M vs W0 h2 o0 (up (fun b m=>m.lG b (nth to b)) k m)) n ()
  rfl (by omega) h0 x (fun _ _=>rfl) (fun v k h2 hk m=>by simp) ?_ ?_
 ·rintro _ b h2 hlt x2 K2 hK2;have hlb:(up (fun b m=>MS.lG m b (nth to b)) b m).blocks.length=n:=(qD b).trans hlen;have e2:up (fun b m=>MS.lG m b (nth to b)) (b+1) m=(up (fun b m=>MS.lG m b (nth to b)) b m).lG b (nth to b):=rfl;rw[e2]at hK2;generalize up (fun b m=>MS.lG m b (nth to b)) b m=m2 at x2 hK2 hlb;obtain⟨rv,hrv⟩:=hto.rows;obtain⟨hr1,hr2⟩:=hrv b (by omega);obtain⟨W,o,g,w,f⟩:=x2;obtain⟨vb,vl,lb,bb⟩:=w.box;have rd:=w.reads bb;have ito:=(hto.mono g).mono w.own.wle;simp only[aH];refine aS (vw h2) (View.le_refl _) ?_;simp(disch:=omega)[rd.cb,rd.blk.idxn (N:=6) rfl,ito.idx1 rfl,hr1 _ (View.le_trans g w.own.wle)];refine w.JA bb (b:=b) (l:=nth to b) (by omega) (by kernel_rfl) rfl rfl (hr2.mono g) fun h3 o3 w3 f3=>?_;exact hK2 () _ _ rfl rfl ⟨W,o3,g,w3,fun k hk=>(f3 k hk).trans (f k hk)⟩
 rintro _ h2 x2;exact hQ h2 x2
theorem sub_le{H K L:View}(h:H.sub K)(k:K.le L):H.sub L:=fun b o hb=>by obtain⟨o',h1,h2⟩:=h b o hb;exact⟨o',k _ _ h1,h2⟩
variable{W:View}
theorem Owns.EF{h:Heap}{o:Own}{k:Key}{B:Nat}{e:TypeId}{l:List Value}(w:Owns W h o)(hk:o k=bx e B (RawN.mk (n:=n) l)): ∃cur,h[B]? = some (.cells cur e (0,0))/\∃r,cur.toList=l++r:=by
 obtain⟨hb,xs,⟨hl,hown⟩,hel⟩:=w.get (k:=k) (v:=.slice (some ⟨B,0,none⟩) 1 1) (l:=[RawN.mk (n:=n) l]) hk;have h0:=hel 0 (by simp);simp only[MV,LW,LS,KW,NS]at h0 hl;rw[KG (by omega)]at h0;obtain⟨h0,_,_⟩:xs=l/\_:=h0;subst h0;rcases hown with⟨h1,_⟩ | ⟨g,cap,cur,h1,h2,h3,h4,h5,h6⟩
 ·cases h1
 simp only[Value.slice.injEq,Kx,Addr.mk.injEq]at h1;obtain⟨⟨rfl,_⟩,_⟩:=h1;refine⟨cur,h2,cur.toList.drop (1*Rep.n (RawN n)),?_⟩;have h6:cur.toList.take (1*Rep.n (RawN n))=xs:=by simpa using h6
 rw[<-h6,LY]
section
variable {s:List Int} {M:Nat} {vs:Value} {W:View} {h:Heap} {o:Own} {m:MS} {vb vl:Value} {lb:List BlkM}
theorem MkB.Ef(w:Owns W h o)(bb:MkB M vs m o vb vl lb): ∃H:View,H.sub (vw h)/\aj H ⟨M,3,none⟩=some vb/\SlRd H vb lb/\
  ∀h2 o2,Owns W h2 o2->MkB M vs m.aG o2 vb vl lb->(∀X:View,X.le (vw h)->X M=none->X.le (vw h2))->∃X:View,H.sub X/\W.le X/\X.le (vw h2)/\SlRd X vb lb/\∀i,i<m.blocks.length->Av X (nth lb i).phis.v:=by
 obtain⟨cur,hM,r,hr⟩:=Owns.EF w bb.box;have aM:=w.av (0,0) _ bb.box;have aM:W M=none:=aM M rfl;have avb:=w.av (0,2) _ bb.blk;have hne : ∀b,vb.ownBlock=some b->b≠M:=fun b hb e=>by have:=w.dj (0,2) (0,0) _ _ b bb.blk bb.box hb (by rw[e];rfl);simp at this
 obtain⟨w6,s6⟩:=w.freeze bb.blk;have hYM:(W.plus vb h) M=none:=by unfold View.plus;rw[if_neg (fun e=>hne M e rfl)];exact aM
 have hYle:(W.plus vb h).le (vw h):=w6.wle;let P:Obj:=.cells #[vs,.int .i64 m.at_,.int .i64 m.ps,vb] T.aY (0,0);have hpre : ∀{c:Array Value} {r:List Value} {nx:Int},c.toList=mkL vs m.at_ m.ps vb nx vl++r->(Obj.cells c T.aY (0,0)=P\/∃c1 c2 t fz,P = .cells c1 t fz/\Obj.cells c T.aY (0,0) = .cells c2 t fz/\∃r:List Value,c2.toList=c1.toList++r):=fun{c r nx} hc=>.inr ⟨_,c,_,_,rfl,rfl,[.int .i64 nx,vl]++r,by rw[hc];rfl⟩;refine⟨fun b=>if b=M then some P else(W.plus vb h) b,fun b x hb=>?_,?_,?_,fun h2 o2 w2 b2 keep=>?_⟩
 ·dsimp only at hb;split at hb
  ·rename_i e;cases hb;subst e;exact⟨_,hM,hpre hr⟩
  exact⟨x,hYle b x hb,.inl rfl⟩
 ·simp[aj,P]
 ·refine s6.mono fun b x hb=>?_;show(if b=M then some P else(W.plus vb h) b)=_;rw[if_neg]
  ·exact hb
  rintro rfl;rw[hYM]at hb;cases hb
 obtain⟨cur2,hM2,r2,hr2⟩:=Owns.EF w2 b2.box;have hY2:=keep _ hYle hYM;refine⟨fun b=>if b=M then h2[M]? else(W.plus vb h) b,fun b x hb=>?_,fun b x hb=>?_,fun b x hb=>?_,s6.mono fun b x hb=>?_,fun i hi b hb=>?_⟩
 ·dsimp only at hb;split at hb
  ·rename_i e;cases hb;subst e;exact⟨_,by simp[hM2],hpre hr2⟩
  rename_i e;exact⟨x,by simpa[e]using hb,.inl rfl⟩
 ·have e:b≠M:=by rintro rfl;rw[aM]at hb;cases hb
  show(if b=M then h2[M]? else(W.plus vb h) b)=_;rw[if_neg e];exact jv avb b x hb
 ·dsimp only at hb;split at hb
  ·rename_i e;subst e;exact hb
  exact hY2 b x hb
 ·have e:b≠M:=by rintro rfl;rw[hYM]at hb;cases hb
  show(if b=M then h2[M]? else(W.plus vb h) b)=_;rw[if_neg e];exact hb
 have e:b≠M:=fun e=>by have:=w.dj (1,i) (0,0) _ _ b (bb.phis i hi) bb.box hb (by rw[e];rfl);simp at this
 show(if b=M then h2[M]? else(W.plus vb h) b)=_;rw[if_neg e];exact w6.av (1,i) _ ((Own.ay (by simp)).trans (bb.phis i hi)) b hb
theorem Mk.Ic(w:Mk s M vs W h o m)(bb:MkB M vs m o vb vl lb)(h0:0<=m.next)(h1:m.next<=1000000000):
  aw Tryz.prog N.bU #[.pointer (some ⟨M,0,none⟩)] h (fun u h'=>u = .int .i64 m.next/\∃o',Mk s M vs W h' o' m.aG/\MkB M vs m.aG o' vb vl lb/\(∀k:Key,3<=k.1->o' k=o k)/\∀X:View,X.le (vw h)->X M=none->X.le (vw h')):=by refine(zd w.own bb.box h0 h1).mono ?_;rintro u h' ⟨rfl,w2,keep⟩;exact⟨rfl,_,⟨w2,w.src,vb,vl,lb,bb.at⟩,bb.at,mE (by decide),keep⟩
end
theorem Nz.ext{s:List Int}{M:Nat}{vs:Value}{W0:View}{h h':Heap}{o0:Own}{m:MS}{u:Value}{ds:List Int}(n:Nz s M vs W0 h o0 m u ds)(hle:(vw h).le (vw h')):Nz s M vs W0 h' o0 m u ds:=by obtain⟨W,o,g,w,f,sl⟩:=n;exact⟨W,o,g,⟨w.own.ext' hle,w.src,w.box⟩,f,sl⟩
structure Sz (n a p i:Nat) (m:MS):Prop where
 at_:m.at_<=a
 n0:0<=m.next
 next:m.next<=a
 live:m.live.length<=a
 ps0:0<=m.ps
 ps1:m.ps<=4
 len:m.blocks.length=n
 phis : ∀j,(nth m.blocks j).phis.length<=p
 ins : ∀j,(nth m.blocks j).ins.length<=i
theorem Sz.mono{n a p i a' p' i':Nat}{m:MS}(z:Sz n a p i m)(h1:a<=a')(h2:p<=p')(h3:i<=i'):Sz n a' p' i' m:=
 ⟨KU z.at_ h1,z.n0,by have:=z.next;omega,KU z.live h1,z.ps0,z.ps1,z.len,fun j=>KU (z.phis j) h2,fun j=>KU (z.ins j) h3⟩
theorem Sz.ok {n a p i:Nat} {m:MS} (z:Sz n a p i m) (h:i<=a):m.ok a:=⟨z.at_,z.n0,z.next,z.live,fun j=>KU (z.ins j) h⟩
theorem Sz.took {n a p i:Nat} {m:MS} (z:Sz n a p i m):Sz n (a+1) p i m.took:=⟨by have:=z.at_;show m.at_+1<=_;omega,z.n0,by have:=z.next;show m.next<=_;omega,by have:=z.live;show m.live.length<=_;omega,z.ps0,z.ps1,z.len,z.phis,z.ins⟩
variable{b:Nat}
theorem Sz.gA{a p i:Nat}{m:MS}(z:Sz n a p i m){x:BlkD}(h1:x.phis.length<=p)(h2:x.ins.length<=i):Sz n a p i { m with blocks:=m.blocks.set b x }:=by
 refine⟨z.at_,z.n0,z.next,z.live,z.ps0,z.ps1,by show(m.blocks.set b x).length=_;rw[KZ];exact z.len,fun j=>?_,fun j=>?_⟩;all_goals
  show List.length (α:=_) _<=_
  rcases KB j m.blocks.length with hl | hl
  ·simp only[bn hl]
   split
   ·assumption
   ·first | exact z.phis j | exact z.ins j
  ·first
    | (have:=z.phis j;rw[de hl]at this;rw[de (by simpa using hl)];exact this)
    | (have:=z.ins j;rw[de hl]at this;rw[de (by simpa using hl)];exact this)
theorem Sz.fy {n a p i b:Nat} {m:MS} (z:Sz n a p i m):Sz n (a+1) (p+1) i (fy b m):=by have h1:Sz n (a+1) (p+1) i m.aG:=⟨by have:=z.at_;show m.at_<=_;omega,by have:=z.n0;show 0<=m.next+1;omega,by have:=z.next;show m.next+1<=_;omega,by have:=z.live;show m.live.length<=_;omega,z.ps0,z.ps1,z.len,fun j=>by have:=z.phis j;show(nth m.blocks j).phis.length<=_;omega,z.ins⟩;exact h1.gA (b:=b) (x:={ nth m.blocks b with phis:=(nth m.blocks b).phis++[⟨m.next,[]⟩] }) (by have:=z.phis b;show((nth m.blocks b).phis++[_]).length<=_;rw[KK,KW];omega) (z.ins b)
theorem Sz.oI {n a p i b:Nat} {m:MS} (z:Sz n a p i m) : ∀k,Sz n (a+k) (p+k) i (up (fun _=>Go.Proofs.YtnfiilgdjpdlkaaGreatDoor.fy b) k m)
 | 0=>z
 | k+1=>(Sz.oI z k).fy
section
variable {s:List Int} {M:Nat} {vs:Value} {W0:View} {h:Heap} {o0:Own} {m:MS}
variable{vp:Value}{lp:List Int}
theorem GM{a p i cnt:Nat}{vq:Value}(x:Nx s M vs W0 h o0 m)(hk:o0 (5,0)=it T.int vp lp)(z:Sz n a p i m)(hb:b<n)(hlp:lp.length=n)(hcnt:nth lp b=cnt)(hc:cnt<=10)(hn:n<=100)(ha:a<=100000)(hp:p<=100000)(h0:bF [2,3,4,5,7,8,9,10] ρ=[(2,vr),(3,.pointer (some ⟨M,0,none⟩)),(4,.int .i64 n),(5,vt),(7,vp),(8,.int .i64 b),(9,vq),(10,.int .i64 0)])(hQ : ∀h',Nx s M vs W0 h' o0 (up (fun _=>fy b) cnt m)->Q .normal [(2,vr),(3,.pointer (some ⟨M,0,none⟩)),(4,.int .i64 n),(5,vt),(7,vp),(8,.int .i64 b),(9,vq),(10,.int .i64 cnt)] h'):
  LC.wp Tryz.prog (.block 4 (.loop L.aA.l3)) Q ρ h:=by
 simp only[aH];refine dI [2,3,4,5,7,8,9,10] (fun(_:Unit) k=>[vr,.pointer (some ⟨M,0,none⟩),.int .i64 n,vt,vp,.int .i64 b,vq,.int .i64 k]) (fun _ k h2=>Nx s M vs W0 h2 o0 (up (fun _=>fy b) k m)) cnt ()
  rfl (by omega) h0 x (fun _ _=>rfl) (fun v k h2 hk2 m=>by have sp:=m.z.at (by decide) hk;have e:=sp.int (View.le_refl _) (i:=b) (by omega);rw[hcnt]at e;simp(disch:=omega)[sp.idx1 rfl,e]) ?_ ?_
 ·rintro _ k h2 hlt x2 K2 hK2;have z2:=z.oI (b:=b) k;have e2:up (fun _=>fy b) (k+1) m=fy b (up (fun _=>fy b) k m):=rfl;rw[e2]at hK2;generalize up (fun _=>fy b) k m=m2 at x2 hK2 z2;have hbl:b<m2.blocks.length:=by rw[z2.len];exact hb
  obtain⟨W,o,g,w,f⟩:=x2;obtain⟨vb,vl,lb,bb⟩:=w.box;have hbb:b<lb.length:=by rw[bb.len];exact hbl
  obtain⟨H,hH,c3,sH,Ef⟩:=bb.Ef w.own;have a1:=(sH.at hbb).part BlkM.rQ;have a2:aj H (((slA vb).add (b*6)).add 0)=some (nth lb b).phis.v:=by rw[az hbb];exact a1.raw
  have sb:=sH.bound;simp only[aH];refine CL H hH ?_;simp(disch:=omega)[c3,sH.idxn (N:=6) rfl,a2];refine af (by kernel_rfl) (w.Ic bb z2.n0 (by have:=z2.next;omega)) ?_;rintro _ h3 ⟨rfl,o3,w3,b3,f3,keep⟩;obtain⟨X,hHX,hWX,hX,sX,avX⟩:=Ef h3 o3 w3.own b3 keep;refine⟨sub_le hHX hX,?_⟩;refine aq (z:=.agg #[.int .i64 0,.slice none 0 0]) (places:=[(0,1),(1,1)]) (vs:=[(0,.int .i64 m2.next)]) (cs:=#[.int .i64 m2.next,.slice none 0 0]) (by kernel_rfl) (by kernel_rfl) (by simp) (by rfl) ?_;refine⟨sub_le hHX hX,?_⟩;have i64:I64 m2.next:=by have:=z2.n0;have:=z2.next;constructor<;>omega
  have hph:=z2.phis b;refine mb (α:=PhiD) (W:=W) (d:=⟨m2.next,[]⟩) El.oT rfl (EP i64 aI) fun u5 h5 src hle5 hs5=>⟨sub_le hHX (View.le_trans hX hle5),?_⟩;refine(w3.own.ext' hle5).eu (k:=(1,b)) (α:=PhiD) (v:=(nth lb b).phis.v) (l:=(nth m2.blocks b).phis) (l2:=[⟨m2.next,[]⟩]) (b3.phis b hbl) El.oT rfl rfl src (by simp;omega) (by simp;omega) fun v6 h6 w6 m6=>⟨sub_le hHX (m6.view (View.le_trans hX hle5) (avX b hbl)).1,?_⟩;have hv6:=(w6.cells (k:=(1,b)) Own.an).2
  refine w6.oK (k:=(0,2)) (α:=BlkM) BlkM.rQ (v:=vb) (l:=lb) (i:=b) (d:=⟨v6⟩) b3.blk (by kernel_rfl) rfl rfl hbb (lZ.2 ⟨rfl,hv6⟩) fun h7 w7 _=>?_;have b7:=b3.gA (b:=b) hbl (x':={ nth m2.blocks b with phis:=(nth m2.blocks b).phis++[⟨m2.next,[]⟩] }) (y':={ lb[b]with phis:=⟨v6⟩ }) (o':=(o3.upd (1,b) (it T.ni v6 ((nth m2.blocks b).phis++[⟨m2.next,[]⟩]))).upd (0,2) (it T.fq vb (lb.set b { lb[b]with phis:=⟨v6⟩ }))) (by rw[<-bb.term b hbl,az hbb]) Own.an ((Own.ay (by simp)).trans Own.an) (by rw[Own.ay (by simp),Own.ay (by simp),b3.ins b hbl,az hbb];rfl) (fun q h1 h2 h3=>by rw[Own.ay h1,Own.ay h2]);refine hK2 () _ _ rfl rfl ⟨W,_,g,⟨w7,w.src,vb,vl,_,b7⟩,fun k hk=>?_⟩;rw[Own.ay (by rintro rfl;simp at hk),Own.ay (by rintro rfl;simp at hk)];exact(f3 k hk).trans (f k hk)
 rintro _ h2 x2;exact hQ h2 x2
end
variable{po:OP}{α:Type}{ty:TypeId}{us:List (Nat × Value)}
theorem Nz.tE{s:List Int}{h:Heap}{m:MS}{u:Value}{ds:List Int}[r:Rep α](n:Nz s M vs W0 h o0 m u ds){k:Key}{e:TypeId}{i:Nat}{v:Value}{l:List α}{t:TypeId}{x y:Operand}{d:α}{w:Value}{K:Value->Heap->Prop}(h1:Rep.n α=1)(h3:3<=k.1)(hk:o0 k=it e v l)(hi:i<l.length)(hsz:dp Tryz.prog t=some 1)(hx:asg us x = .pointer (some ((slA v).add i)))(hy:asg us y=w)(hr : ∀W,Rd W w d)(hK : ∀h',Nz s M vs W0 h' (o0.upd k (it e v (l.set i d))) m u ds->K undef h'):@Lft.step po Tryz.prog (.store t x y) ty us h K:=
 n.GC h3 hk hi (by rw[hsz,h1]) (by rw[hx,h1,Lq]) hy hr hK
theorem pN{s:List Int}{m:MS}:0<=ij s m b/\ij s m b<=3:=by
 unfold ij;have:=dd (s:=s) (at_:=m.at_) (n:=4) (by decide);repeat' split
 all_goals omega
theorem DE{l:List Int}{i:Nat}{x:Int}(h:nth l i=x)(hi:i<l.length):l.set i x=l:=by rw[<-h,az hi];exact List.set_getElem_self hi
structure Ph (n a k:Nat) (x:List Int × MS):Prop where
 z:Sz n (a+10*k) (3*k) 0 x.2
 len:x.1.length=n
 zero : ∀j,k<j->nth x.1 j=0
 rng : ∀j,0<=nth x.1 j/\nth x.1 j<=3
theorem uT{s:List Int}{a k:Nat}{x:List Int × MS}(p:Ph n a k x):Ph n a (k+1) (fF s k x):=by
 obtain⟨c0,c1⟩:=pN (s:=s) (m:=x.2) (b:=k+1);have hset : ∀j,nth (x.1.set (k+1) (ij s x.2 (k+1))) j=if k+1=j/\j<x.1.length then ij s x.2 (k+1) else nth x.1 j:=fun j=>by
  rcases KB j x.1.length with hl | hl
  ·rw[bn hl];by_cases e:k+1=j
   ·rw[if_pos e,if_pos ⟨e,hl⟩]
   rw[if_neg e,if_neg (fun q=>e q.1)]
  rw[de (by simpa using hl),if_neg (by omega),de hl]
 refine⟨?_,?_,fun j hj=>?_,fun j=>?_⟩
 ·have:=(p.z.took).oI (b:=k+1) (ij s x.2 (k+1)).toNat;exact this.mono (by omega) (by omega) (Kz _)
 ·show(x.1.set _ _).length=_;rw[KZ];exact p.len
 ·show nth (x.1.set _ _) j=_;rw[hset,if_neg (by omega)];exact p.zero j (by omega)
 show 0<=nth (x.1.set _ _) j/\nth (x.1.set _ _) j<=3;rw[hset];split
 ·exact⟨c0,c1⟩
 exact p.rng j
theorem xE {s:List Int} {n a:Nat} {x:List Int × MS} (p:Ph n a 0 x) : ∀k,Ph n a k (up (fF s) k x)
 | 0=>p
 | k+1=>uT (xE p k)
variable{vp:Value}
theorem F7{s:List Int}{h:Heap}{a:Nat}{x0:List Int × MS}(x:Nx s M vs W0 h (o0.upd (5,0) (it T.int vp x0.1)) x0.2)(p0:Ph n a 0 x0)(hn1:1<=n)(hn:n<=100)(ha:a<=10000)(h0:bF [2,3,4,5,7,8] ρ=[(2,vr),(3,.pointer (some ⟨M,0,none⟩)),(4,.int .i64 n),(5,vt),(7,vp),(8,.int .i64 1)])(hQ : ∀h',Nx s M vs W0 h' (o0.upd (5,0) (it T.int vp (up (fF s) (n-1) x0).1)) (up (fF s) (n-1) x0).2->Q .normal [(2,vr),(3,.pointer (some ⟨M,0,none⟩)),(4,.int .i64 n),(5,vt),(7,vp),(8,.int .i64 n)] h'):
  LC.wp Tryz.prog (.block 2 (.loop L.aA.l2)) Q ρ h:=by
 simp only[aH];refine tI [2,3,4,5,7,8] (fun(_:Unit) k=>[vr,.pointer (some ⟨M,0,none⟩),.int .i64 n,vt,vp,.int .i64 ((k+1:Nat):Int)]) (fun _ k h2=>Nx s M vs W0 h2 (o0.upd (5,0) (it T.int vp (up (fF s) k x0).1)) (up (fF s) k x0).2) (n-1) 1 ()
  rfl (by omega) h0 x (fun _ _=>rfl) (fun v k h2 hk2 m=>by simp;omega) ?_ ?_
 ·rintro _ k h2 hlt x2 K2 hK2;have p2:=xE (s:=s) p0 k;have e2:up (fF s) (k+1) x0=fF s k (up (fF s) k x0):=rfl;have p3:=uT (s:=s) p2;rw[e2]at hK2;generalize up (fF s) k x0=y at x2 hK2 p2 p3;obtain⟨lp,m⟩:=y;have z:Sz n (a+10*k) (3*k) 0 m:=p2.z;have x2:Nx s M vs W0 h2 (o0.upd (5,0) (it T.int vp lp)) m:=x2;have q:m.ok (a+10*k):=z.ok (by omega);have hlen:lp.length=n:=p2.len;simp only[aH];refine ab fun y hy=>?_;obtain⟨vb,vl,rd⟩:=x2.z.reads;simp[rd.f];refine af (by kernel_rfl) (sM (b:=((k+1:Nat):Int)) (rd.rd ⟨by have:=z.ps0;show _<=m.ps;omega,by have:=z.ps1;show m.ps<=_;omega⟩) (by show m.blocks.length<=_;rw[z.len];omega)) ?_;rintro vq h3 ⟨hle3,hq⟩;have n3:=x2.z.ext hle3
  have hcd:ij s m (k+1)=_:=ij.eq_1 s m (k+1);obtain⟨pl,hpl⟩ : ∃pl:Nat,pl=(cY m.f ((k+1:Nat):Int)).length:=⟨_,rfl⟩;have hql : ∀{Q:View},Un.ev Q .len vq=some (.int .i64 pl):=fun{Q}=>by rw[hpl];exact hq.len
  rw[<-hpl]at hcd;clear hq x2 rd hpl;subst hy;refine ab fun y hy=>?_;have fin : ∀(h':Heap) (ρ:Env),Nz s M vs W0 h' (o0.upd (5,0) (it T.int vp (lp.set (k+1) (ij s m (k+1))))) m.took (.slice none 0 0) []->Lft.look ρ 2=some vr->Lft.look ρ 3=some (.pointer (some ⟨M,0,none⟩))->Lft.look ρ 4=some (.int .i64 n)->Lft.look ρ 5=some vt->Lft.look ρ 7=some vp->Lft.look ρ 8=some (.int .i64 ((k+1:Nat):Int))->Lft.look ρ 9=some vq->
    LC.wp Tryz.prog y (eY 3 (eU K2 (eY 2 Q))) ρ h':=by
   intro h' ρ n' r2 r3 r4 r5 r7 r8 r9;subst hy;refine ab fun y hy=>?_;simp;subst hy;obtain⟨c0,c1⟩:=pN (s:=s) (m:=m) (b:=k+1);refine GM (vr:=vr) (vt:=vt) (b:=k+1) (cnt:=(ij s m (k+1)).toNat) (vq:=vq) n'.x Own.an z.took (by omega) (by rw[KZ];exact hlen) (by rw[bn (by omega),if_pos rfl];omega) (by omega) hn (by omega) (by omega) ?_ fun h4 x4=>?_
   ·simp[bF,ag,ah,r2,r3,r4,r5,r7,r8,r9]
   simp;exact hK2 () _ _ rfl rfl x4
  refine ab fun w hw=>?_;simp[hql];subst hw;by_cases c1:1<pl
  ·rw[if_pos c1]at hcd;refine aU (by simp;omega) ?_;simp;refine af (by kernel_rfl) (fk n3 q (by omega) (k:=4) (by decide) (by decide)) ?_;rintro _ h4 ⟨rfl,n4⟩;have sp:=n4.at (k:=(5,0)) (by decide) Own.an;simp(disch:=omega)[sp.idx1 rfl];refine n4.tE (k:=(5,0)) (α:=Int) (i:=k+1) (d:=aD s m.at_ 4) rfl (by decide) Own.an (by omega) (by kernel_rfl) rfl rfl (fun W=>bC.2 ⟨rfl,by have:=dd (s:=s) (at_:=m.at_) (n:=4) (by decide);constructor<;>omega⟩) fun h5 n5=>?_;refine fin h5 _ (n5.re fun q=>by rw[fD,hcd]) ?_ ?_ ?_ ?_ ?_ ?_ ?_;all_goals simp
  rw[if_neg c1]at hcd;refine aV (by simp;omega) ?_;refine ab fun w hw=>?_;simp;refine af (by kernel_rfl) (fk n3 q (by omega) (k:=6) (by decide) (by decide)) ?_;rintro _ h4 ⟨rfl,n4⟩;simp;subst hw;by_cases c2:aD s m.at_ 6=0
  ·rw[if_pos c2]at hcd;refine aU (by simp[c2]) ?_;have sp:=n4.at (k:=(5,0)) (by decide) Own.an;simp(disch:=omega)[sp.idx1 rfl];refine n4.tE (k:=(5,0)) (α:=Int) (i:=k+1) (d:=1) rfl (by decide) Own.an (by omega) (by kernel_rfl) rfl rfl (fun W=>bC.2 ⟨rfl,by decide,by decide⟩) fun h5 n5=>?_;refine fin h5 _ (n5.re fun q=>by rw[fD,hcd]) ?_ ?_ ?_ ?_ ?_ ?_ ?_;all_goals simp
  rw[if_neg c2]at hcd;refine aV (by simp[c2]) ?_;simp;have e:lp.set (k+1) (ij s m (k+1))=lp:=by rw[hcd];exact DE (p2.zero (k+1) (by omega)) (by omega)
  refine fin h4 _ (n4.re fun q=>by rw[e]) ?_ ?_ ?_ ?_ ?_ ?_ ?_;all_goals simp
 rintro _ h2 x2;have e:n-1+1=n:=by omega
 have:=hQ h2 x2;simpa[e]using this
section
variable {s:List Int} {M:Nat} {vs:Value} {W0:View} {h:Heap} {o0:Own} {m:MS}
theorem DW{a p i:Nat}(z:Sz n a p i m):I64 m.ps:=by have:=z.ps0;have:=z.ps1;constructor<;>omega
variable{vd va:Value}
theorem G5{a p i:Nat}{r:Bool}{t:Nat}(x:Nx s M vs W0 h (o0.upd (7,0) (it T.nu va ([]:List BL))) m)(hfree:o0 (7,0)=none)(z:Sz n a p i m)(hn:n<=100)(h0:bF [2,3,4,5,7,11,12,13,14,15,16] ρ=[(2,vr),(3,.pointer (some ⟨M,0,none⟩)),(4,.int .i64 n),(5,vt),(7,vp),(11,vd),(12,.int .i64 t),(13,.int .i64 b),(14,.bool r),(15,va),(16,.int .i64 0)])(hQ : ∀h' W' va,W0.le W'->Nx s M vs W' h' o0 m->SlRd W' va (pz m.f n)->Q .normal [(2,vr),(3,.pointer (some ⟨M,0,none⟩)),(4,.int .i64 n),(5,vt),(7,vp),(11,vd),(12,.int .i64 t),(13,.int .i64 b),(14,.bool r),(15,va),(16,.int .i64 n)] h'):
  LC.wp Tryz.prog (.block 10 (.loop L.aA.l6)) Q ρ h:=by
 simp only[aH];refine dI [2,3,4,5,7,11,12,13,14,15,16] (fun(va:Value) k=>[vr,.pointer (some ⟨M,0,none⟩),.int .i64 n,vt,vp,vd,.int .i64 t,.int .i64 b,.bool r,va,.int .i64 k]) (fun va k h2=>Nx s M vs W0 h2 (o0.upd (7,0) (it T.nu va (rows (fun a=>eM m.f (a:Int)) k))) m) n va
  rfl (by omega) h0 x (fun _ _=>rfl) (fun v k h2 hk2 m=>by simp) ?_ ?_
 ·rintro va k h2 hlt x2 K2 hK2;simp only[aH];obtain⟨vb,vl,rd⟩:=x2.z.reads;simp[rd.f];refine af (by kernel_rfl) (tT (wo:=(k:Int)) (rd.rd (DW z)) (by show m.blocks.length<=_;rw[z.len];omega)) ?_;rintro ur h3 ⟨hle3,hur⟩;obtain⟨W,o,g,w,f⟩:=x2;have w3:=w.own.ext hle3;have hW3:=bO (h':=h3) w.own.wle;have hur:=hur.mono (jj W h2 h3);generalize grow W h2 h3=W3 at w3 hW3 hur;refine w3.jd (k:=(7,0)) (α:=BL) (d:=eM m.f (k:Int)) ((f _ (by decide)).trans Own.an) El.td rfl (eE.2 hur) (by simp;omega) (by simp;omega) (fun _=>rfl) (fun _=>rfl) fun u v' h4 w4 _=>?_;obtain⟨vb,vl,lb,bb⟩:=w.box;refine hK2 v' _ _ rfl rfl ⟨W3,_,View.le_trans g hW3,⟨w4,w.src.mono hW3,vb,vl,lb,bb.frame fun q hq=>Own.ay (by rintro rfl;simp at hq)⟩,fun q hq=>?_⟩;rw[ft];unfold Own.upd;split
  ·rfl
  rename_i e;rw[f q hq,Own.ay e]
 rintro va h2 ⟨W,o,g,w,f⟩;have hk:=(f (7,0) (by decide)).trans Own.an;obtain⟨w2,sl⟩:=w.own.freeze hk;have hWp:=jv (h:=h2) (w.own.av _ _ hk);obtain⟨vb,vl,lb,bb⟩:=w.box;refine hQ h2 _ va (View.le_trans g hWp) ⟨_,_,View.le_refl _,⟨w2,w.src.mono hWp,vb,vl,lb,bb.frame fun q hq=>Own.ay (by rintro rfl;simp at hq)⟩,fun q hq=>?_⟩ sl;by_cases e:q=(7,0)
 ·rw[e,Own.an,hfree]
 rw[Own.ay e,f q hq,Own.ay e]
variable{dn:BL}{away:List BL}
theorem FU{r:Bool}{t:Nat}(sd:SlRd (vw h) vd dn)(sa:SlRd (vw h) va away)(hb:b<n)(hdn:dn.length=n)(hal:away.length=n)(har : ∀i,i<n->(nth away i).length=n)(hn:n<=100)(h0:bF [2,3,4,5,7,11,12,13,14,15,17] ρ=[(2,vr),(3,.pointer (some ⟨M,0,none⟩)),(4,.int .i64 n),(5,vt),(7,vp),(11,vd),(12,.int .i64 t),(13,.int .i64 b),(14,.bool r),(15,va),(17,.int .i64 0)])(hQ:Q .normal [(2,vr),(3,.pointer (some ⟨M,0,none⟩)),(4,.int .i64 n),(5,vt),(7,vp),(11,vd),(12,.int .i64 t),(13,.int .i64 b),(14,.bool (up (fun a r=>r&&(decide (a=b)||nth dn a||nth (nth away a) b)) n r)),(15,va),(17,.int .i64 n)] h):
  LC.wp Tryz.prog (.block 12 (.loop L.aA.l7)) Q ρ h:=by
 simp only[aH];refine dI [2,3,4,5,7,11,12,13,14,15,17] (fun(r:Bool) k=>[vr,.pointer (some ⟨M,0,none⟩),.int .i64 n,vt,vp,vd,.int .i64 t,.int .i64 b,.bool r,va,.int .i64 k]) (fun r2 k h2=>h2=h/\r2=up (fun a r=>r&&(decide (a=b)||nth dn a||nth (nth away a) b)) k r) n r
  rfl (by omega) h0 ⟨rfl,rfl⟩ (fun _ _=>rfl) (fun v k h2 hk2 m=>by simp) ?_ ?_
 ·rintro r2 k h2 hlt ⟨rfl,hr2⟩ K2 hK2;have e:up (fun a r=>r&&(decide (a=b)||nth dn a||nth (nth away a) b)) (k+1) r=(r2&&(decide (k=b)||nth dn k||nth (nth away k) b)):=by rw[hr2];rfl
  rw[e]at hK2;clear e hr2;obtain⟨rv,hrv⟩:=sa.rows;obtain⟨ha1,ha2⟩:=hrv k (by omega);have hl:=har k hlt;have hkb : ∀{A:Type},True:=trivial;simp only[aH];cases r2 with
  | false=>simp;exact hK2 false _ _ rfl rfl ⟨rfl,rfl⟩
  | true=>
   by_cases c:k=b
   ·subst c;simp;exact hK2 true _ _ rfl rfl ⟨rfl,by simp⟩
   have c':¬((k:Int)=(b:Int)):=by omega
   cases hd:nth dn k with
   | true=>simp(disch:=omega)[c,c',sd.idx1 rfl,sd.bool (View.le_refl _),hd];exact hK2 true _ _ rfl rfl ⟨rfl,by simp[hd]⟩
   | false=>simp(disch:=omega)[c,c',sd.idx1 rfl,sd.bool (View.le_refl _),hd,sa.idx1 rfl,ha1 _ (View.le_refl _),ha2.idx1 rfl,ha2.bool (View.le_refl _)];exact hK2 _ _ _ rfl rfl ⟨rfl,by simp[hd,c]⟩
 rintro r2 h2 ⟨rfl,rfl⟩;exact hQ
end
def MS.db (m:MS) (l:List Int):MS:={ m with live:=l }
section
variable {s:List Int} {M:Nat} {vs:Value} {W0:View} {h:Heap} {o0:Own} {m:MS}
variable{vb vl:Value}{ty2:TypeId}
theorem Mk.yk{po2:OP}{o:Own}(w:Mk s M vs W h o m){lb:List BlkM}(bb:MkB M vs m o vb vl lb){l2:List Int}{u:Value}{x y c1 c2:Operand}{us2:Value->List (Nat × Value)}{K:Value->Value->Heap->Prop}(src:SrcT (vw h) W u l2)(hl:m.live.length+l2.length<=1000000)(hx:asg us x=vl)(hy:asg us y=u)(hc1 : ∀v,asg (us2 v) c1 = .pointer (some ⟨M,5,none⟩))(hc2 : ∀v,asg (us2 v) c2=v)(hK : ∀v h' o',Mk s M vs W h' o' (m.db (m.live++l2))->(∀k:Key,3<=k.1->o' k=o k)->K v undef h'):
  @Lft.step po Tryz.prog (.call ⟨.builtin .append,#[x,y],#[T.aP,T.aP]⟩) ty us h fun v h2=>@Lft.step po2 Tryz.prog (.store T.aP c1 c2) ty2 (us2 v) h2 fun w h3=>K v w h3:=by
 refine w.own.eu (k:=(0,1)) (α:=Int) (v:=vl) (l:=m.live) (l2:=l2) bb.live El.aP hx hy src (by omega) (by omega) fun v h2 w2 _=>?_;have hv:=(w2.cells (k:=(0,1)) Own.an).2;refine w2.dK (k:=(0,0)) (n:=5) (i:=5) (e:=T.aY) (B:=M) (l:=mkL vs m.at_ m.ps vb m.next vl) ((Own.ay (by simp)).trans bb.box) (by decide) (by kernel_rfl) (hc1 v) (hc2 v) hv fun h3 w3 _=>?_;refine hK v h3 _ ⟨w3,w.src,vb,v,lb,⟨rfl,rfl,(Own.ay (by simp)).trans ((Own.ay (by simp)).trans bb.blk),bb.len,bb.term,fun i hi=>?_,fun i hi=>?_⟩⟩ fun k hk=>?_
 ·exact(Own.ay (by simp)).trans ((Own.ay (by simp)).trans (bb.phis i hi))
 ·exact(Own.ay (by simp)).trans ((Own.ay (by simp)).trans (bb.ins i hi))
 rw[Own.ay (by rintro rfl;simp at hk),Own.ay (by rintro rfl;simp at hk)]
variable{vd va:Value}
theorem FR{a p i c:Nat}{r:Bool}{t:Nat}(x:Nx s M vs W0 h o0 (m.db []))(z:Sz n a p i m)(hc:m.ps=c)(h0:bF [2,3,4,5,7,11,12,13,15,18] ρ=[(2,vr),(3,.pointer (some ⟨M,0,none⟩)),(4,.int .i64 n),(5,vt),(7,vp),(11,vd),(12,.int .i64 t),(13,.int .i64 b),(15,va),(18,.int .i64 0)])(hQ : ∀h',Nx s M vs W0 h' o0 (m.db (rows (fun i=>(i:Int)) c))->Q .normal [(2,vr),(3,.pointer (some ⟨M,0,none⟩)),(4,.int .i64 n),(5,vt),(7,vp),(11,vd),(12,.int .i64 t),(13,.int .i64 b),(15,va),(18,.int .i64 c)] h'):
  LC.wp Tryz.prog (.block 14 (.loop L.aA.l8)) Q ρ h:=by
 have hc4:c<=4:=by have:=z.ps1;omega
 simp only[aH];refine dI [2,3,4,5,7,11,12,13,15,18] (fun(_:Unit) k=>[vr,.pointer (some ⟨M,0,none⟩),.int .i64 n,vt,vp,vd,.int .i64 t,.int .i64 b,va,.int .i64 k]) (fun _ k h2=>Nx s M vs W0 h2 o0 (m.db (rows (fun i=>(i:Int)) k))) c ()
  rfl (by omega) h0 x (fun _ _=>rfl) (fun v k h2 hk2 x2=>by obtain⟨vb,vl,rd⟩:=x2.z.reads;have e:(m.db (rows (fun i=>(i:Int)) k)).ps=c:=hc;simp[rd.ps,e]) ?_ ?_
 ·rintro _ k h2 hlt x2 K2 hK2;obtain⟨W,o,g,w,f⟩:=x2;obtain⟨vb,vl,lb,bb⟩:=w.box;have rd:=w.reads bb;simp only[aH];simp[rd.cl];refine mb (α:=Int) (W:=W) (d:=(k:Int)) El.aP rfl (bC.2 ⟨rfl,by constructor<;>omega⟩) fun u5 h5 src hle5 hs5=>?_;have w5:Mk s M vs W h5 o (m.db (rows (fun i=>(i:Int)) k)):=⟨w.own.ext' hle5,w.src,w.box⟩
  refine w5.yk bb src (by show(rows _ k).length+1<=_;simp;omega) rfl rfl (fun _=>rfl) (fun _=>rfl) fun v h6 o6 w6 f6=>?_;refine hK2 () _ _ rfl rfl ⟨W,o6,g,?_,fun k hk=>(f6 k hk).trans (f k hk)⟩;rw[ft];exact w6
 rintro _ h2 x2;exact hQ h2 x2
theorem DF{a p i ai:Nat}{t:Nat}{lv:List Int}(x:Nx s M vs W0 h o0 (m.db lv))(z:Sz n a p i m)(hai:ai<n)(hn:n<=100)(hl:lv.length<=100000)(hp:p<=100000)(h0:bF [2,3,4,5,7,11,12,13,15,19,20] ρ=[(2,vr),(3,.pointer (some ⟨M,0,none⟩)),(4,.int .i64 n),(5,vt),(7,vp),(11,vd),(12,.int .i64 t),(13,.int .i64 b),(15,va),(19,.int .i64 ai),(20,.int .i64 0)])(hQ : ∀h':Heap,Nx s M vs W0 h' o0 (m.db (lv++(nth m.blocks ai).phis.map PhiD.dst))->Q .normal [(2,vr),(3,.pointer (some ⟨M,0,none⟩)),(4,.int .i64 n),(5,vt),(7,vp),(11,vd),(12,.int .i64 t),(13,.int .i64 b),(15,va),(19,.int .i64 ai),(20,.int .i64 (nth m.blocks ai).phis.length)] h'):
  LC.wp Tryz.prog (.block 18 (.loop L.aA.l10)) Q ρ h:=by
 have hpl:=z.phis ai;have hlen:ai<m.blocks.length:=by rw[z.len];exact hai
 simp only[aH];have read : ∀{h2:Heap} {lv2:List Int} {vb vl:Value},Reads M (m.db lv2) h2 vb vl->∃vph,aj (vw h2) (((slA vb).add (ai*6)).add 0)=some vph/\SlRd (vw h2) vph (nth m.blocks ai).phis/\Bn.ev (.idx 6) vb (.int .i64 ai)=some (.pointer (some ((slA vb).add (ai*6)))):=by intro h2 lv2 vb vl rd;have hb:=rd.blk;have hl2:ai<(m.db lv2).blocks.length:=hlen;obtain⟨vph,h1⟩:=((hb.at hl2).part BlkD.rQ).sl;have h2:=h1.2;have e:(m.db lv2).blocks[ai]=nth m.blocks ai:=(az hl2).symm;rw[e]at h2;exact⟨vph,h1.1,h2,by have:=hb.idxn (N:=6) rfl (k:=.i64) (i:=ai) (by omega) (by omega);simpa using this⟩
 refine dI [2,3,4,5,7,11,12,13,15,19,20] (fun(_:Unit) k=>[vr,.pointer (some ⟨M,0,none⟩),.int .i64 n,vt,vp,vd,.int .i64 t,.int .i64 b,va,.int .i64 ai,.int .i64 k]) (fun _ k h2=>Nx s M vs W0 h2 o0 (m.db (lv++((nth m.blocks ai).phis.take k).map PhiD.dst))) (nth m.blocks ai).phis.length ()
  rfl (by omega) h0 (by simpa using x) (fun _ _=>rfl) (fun v k h2 hk2 x2=>by obtain⟨vb,vl,rd⟩:=x2.z.reads;obtain⟨vph,r1,r2,r3⟩:=read rd;simp[rd.cb,r3,r1,r2.len]) ?_ ?_
 ·rintro _ k h2 hlt x2 K2 hK2;obtain⟨W,o,g,w,f⟩:=x2;obtain⟨vb,vl,lb,bb⟩:=w.box;have rd:=w.reads bb;obtain⟨vph,r1,r2,r3⟩:=read rd;have r4:aj (vw h2) (((slA vph).add (k*2)).add 0)=some (.int .i64 (nth m.blocks ai).phis[k].dst):=((r2.at hlt).part PhiD.iN).int;have i64:=((r2.at hlt).part PhiD.iN).rng;have r5:Bn.ev (.idx 2) vph (.int .i64 k)=some (.pointer (some ((slA vph).add (k*2)))):=by have:=r2.idxn (N:=2) rfl (k:=.i64) (i:=k) (by omega) (by omega);simpa using this
  simp only[aH];refine aS (vw h2) (View.le_refl _) ?_;simp[rd.cl,rd.cb,r3,r1,r4,r5];refine mb (α:=Int) (W:=W) (d:=(nth m.blocks ai).phis[k].dst) El.aP rfl (bC.2 ⟨rfl,i64⟩) fun u5 h5 src hle5 hs5=>⟨hle5,?_⟩;have w5:Mk s M vs W h5 o (m.db (lv++((nth m.blocks ai).phis.take k).map PhiD.dst)):=⟨w.own.ext' hle5,w.src,w.box⟩;refine w5.yk bb src (by show(lv++_).length+1<=_;simp;omega) rfl rfl (fun _=>rfl) (fun _=>rfl) fun v h6 o6 w6 f6=>?_;refine hK2 () _ _ rfl rfl ⟨W,o6,g,?_,fun k hk=>(f6 k hk).trans (f k hk)⟩;rw[KM hlt,MK,<-List.append_assoc];exact w6
 rintro _ h2 x2;rw[Lz]at x2;exact hQ h2 x2
end
theorem zT{l:List InsD}:(l.flatMap cQ).length<=2*l.length:=by
 induction l with
 | nil=>simp
 | cons a l ih=>
  have:(cQ a).length<=2:=by
   unfold cQ;repeat' split
   all_goals simp
  simp only[MP,KK,Lw];omega
section
variable {s:List Int} {M:Nat} {vs:Value} {W0:View} {h:Heap} {o0:Own} {m:MS}
variable{vd va:Value}
theorem DU{a p i ai:Nat}{t:Nat}{lv:List Int}(x:Nx s M vs W0 h o0 (m.db lv))(z:Sz n a p i m)(hai:ai<n)(hn:n<=100)(hl:lv.length<=100000)(hi:i<=100000)(h0:bF [2,3,4,5,7,11,12,13,15,19,21] ρ=[(2,vr),(3,.pointer (some ⟨M,0,none⟩)),(4,.int .i64 n),(5,vt),(7,vp),(11,vd),(12,.int .i64 t),(13,.int .i64 b),(15,va),(19,.int .i64 ai),(21,.int .i64 0)])(hQ : ∀h':Heap,Nx s M vs W0 h' o0 (m.db (lv++(nth m.blocks ai).ins.flatMap cQ))->Q .normal [(2,vr),(3,.pointer (some ⟨M,0,none⟩)),(4,.int .i64 n),(5,vt),(7,vp),(11,vd),(12,.int .i64 t),(13,.int .i64 b),(15,va),(19,.int .i64 ai),(21,.int .i64 (nth m.blocks ai).ins.length)] h'):
  LC.wp Tryz.prog (.block 20 (.loop L.aA.l11)) Q ρ h:=by
 have hil:=z.ins ai;have hlen:ai<m.blocks.length:=by rw[z.len];exact hai
 simp only[aH];have read : ∀{h2:Heap} {lv2:List Int} {vb vl:Value},Reads M (m.db lv2) h2 vb vl->∃vi,aj (vw h2) (((slA vb).add (ai*6)).add 1)=some vi/\SlRd (vw h2) vi (nth m.blocks ai).ins/\Bn.ev (.idx 6) vb (.int .i64 ai)=some (.pointer (some ((slA vb).add (ai*6)))):=by intro h2 lv2 vb vl rd;have hb:=rd.blk;have hl2:ai<(m.db lv2).blocks.length:=hlen;obtain⟨vi,h1⟩:=((hb.at hl2).part BlkD.lV).sl;have h2:=h1.2;have e:(m.db lv2).blocks[ai]=nth m.blocks ai:=(az hl2).symm;rw[e]at h2;exact⟨vi,h1.1,h2,by have:=hb.idxn (N:=6) rfl (k:=.i64) (i:=ai) (by omega) (by omega);simpa using this⟩
 refine dI [2,3,4,5,7,11,12,13,15,19,21] (fun(_:Unit) k=>[vr,.pointer (some ⟨M,0,none⟩),.int .i64 n,vt,vp,vd,.int .i64 t,.int .i64 b,va,.int .i64 ai,.int .i64 k]) (fun _ k h2=>Nx s M vs W0 h2 o0 (m.db (lv++((nth m.blocks ai).ins.take k).flatMap cQ))) (nth m.blocks ai).ins.length ()
  rfl (by omega) h0 (by simpa using x) (fun _ _=>rfl) (fun v k h2 hk2 x2=>by obtain⟨vb,vl,rd⟩:=x2.z.reads;obtain⟨vi,r1,r2,r3⟩:=read rd;simp[rd.cb,r3,r1,r2.len]) ?_ ?_
 ·rintro _ k h2 hlt x2 K2 hK2;obtain⟨vb,vl,rd⟩:=x2.z.reads;obtain⟨vi,r1,r2,r3⟩:=read rd;obtain⟨ux,hux,huxr⟩:=r2.wh rfl (N:=5) rfl hlt;have r5:Bn.ev (.idx 5) vi (.int .i64 k)=some (.pointer (some ((slA vi).add (k*5)))):=by have:=r2.idxn (N:=5) rfl (k:=.i64) (i:=k) (by omega) (by omega);simpa using this
  simp only[aH];refine ab fun y hy=>?_;simp[rd.cb,r3,r1,r5,hux _ (View.le_refl _)];refine af (by kernel_rfl) (nN huxr) ?_;rintro um h3 ⟨hle3,hum,-⟩;clear rd r1 r2 r3 r5 hux;obtain⟨W,o,g,w,f⟩:=x2;have w3:=w.own.ext hle3;have hW3:=bO (h':=h3) w.own.wle;have hum:=hum.mono (jj W h2 h3);generalize grow W h2 h3=W3 at w3 hW3 hum;have w4:Mk s M vs W3 h3 o (m.db (lv++((nth m.blocks ai).ins.take k).flatMap cQ)):=⟨w3,w.src.mono hW3,w.box⟩;obtain⟨vb,vl,lb,bb⟩:=w4.box;have rd:=w4.reads bb;subst hy;simp[rd.cl];have hfl:=zT (l:=(nth m.blocks ai).ins.take k);have hml:(cQ (nth (nth m.blocks ai).ins k)).length<=2:=by
   unfold cQ;repeat' split
   all_goals simp
  refine w4.yk bb (hum.src w3.wle) (by show(lv++_).length+_<=_;simp at hfl ⊢;omega) rfl rfl (fun _=>rfl) (fun _=>rfl) fun v h6 o6 w6 f6=>?_;refine hK2 () _ _ rfl rfl ⟨W3,o6,View.le_trans g hW3,?_,fun k hk=>(f6 k hk).trans (f k hk)⟩;rw[KM hlt,List.flatMap_append,List.flatMap_singleton,<-List.append_assoc,<-az hlt];exact w6
 rintro _ h2 x2;rw[Lz]at x2;exact hQ h2 x2
variable{dn:BL}{away:List BL}
theorem Cr{a p i:Nat}(z:Sz n a p i m){ai:Nat}{l:List Int}:(iU m dn away b ai l).length<=l.length+p+2*i:=by
 unfold iU;split
 ·omega
 have h1:=z.phis ai;have h2:=z.ins ai;have h3:=zT (l:=(nth m.blocks ai).ins);simp only[KK,LR];omega
theorem nb {n a p i:Nat} (z:Sz n a p i m) {dn:BL} {away:List BL} {b:Nat} {l:List Int} : ∀k,(up (iU m dn away b) k l).length<=l.length+(p+2*i)*k
 | 0=>Kz _
 | k+1=>by have:=nb z (dn:=dn) (away:=away) (b:=b) (l:=l) k;have h2:=Cr z (dn:=dn) (away:=away) (b:=b) (ai:=k) (l:=up (iU m dn away b) k l);show(iU m dn away b k (up (iU m dn away b) k l)).length<=_;rw[ND];omega
theorem F4{a p i:Nat}{t:Nat}{l0:List Int}(x:Nx s M vs W0 h o0 (m.db l0))(z:Sz n a p i m)(hd:o0 (6,0)=it T.bool vd dn)(sa:SlRd W0 va away)(hb:b<n)(hdn:dn.length=n)(hal:away.length=n)(har : ∀i,i<n->(nth away i).length=n)(hn:n<=10)(hl:l0.length<=10)(hp:p<=1000)(hi:i<=3000)(h0:bF [2,3,4,5,7,11,12,13,15,19] ρ=[(2,vr),(3,.pointer (some ⟨M,0,none⟩)),(4,.int .i64 n),(5,vt),(7,vp),(11,vd),(12,.int .i64 t),(13,.int .i64 b),(15,va),(19,.int .i64 0)])(hQ : ∀h':Heap,Nx s M vs W0 h' o0 (m.db (up (iU m dn away b) n l0))->Q .normal [(2,vr),(3,.pointer (some ⟨M,0,none⟩)),(4,.int .i64 n),(5,vt),(7,vp),(11,vd),(12,.int .i64 t),(13,.int .i64 b),(15,va),(19,.int .i64 n)] h'):
  LC.wp Tryz.prog (.block 16 (.loop L.aA.l9)) Q ρ h:=by
 simp only[aH];refine dI [2,3,4,5,7,11,12,13,15,19] (fun(_:Unit) k=>[vr,.pointer (some ⟨M,0,none⟩),.int .i64 n,vt,vp,vd,.int .i64 t,.int .i64 b,va,.int .i64 k]) (fun _ k h2=>Nx s M vs W0 h2 o0 (m.db (up (iU m dn away b) k l0))) n ()
  rfl (by omega) h0 x (fun _ _=>rfl) (fun v k h2 hk2 x2=>by simp) ?_ ?_
 ·rintro _ k h2 hlt x2 K2 hK2;have e2:up (iU m dn away b) (k+1) l0=iU m dn away b k (up (iU m dn away b) k l0):=rfl;rw[e2]at hK2;have hll:=nb z (dn:=dn) (away:=away) (b:=b) (l:=l0) k;have hll:(up (iU m dn away b) k l0).length<=80000:=by have:(p+2*i)*k<=7000*10:=MT (by omega) (by omega);omega
  generalize up (iU m dn away b) k l0=lv at x2 hK2 hll;have hla:iU m dn away b k lv=_:=iU.eq_1 m dn away b k lv;have sd:=x2.z.at (by decide) hd;have sa2:=sa.mono x2.z.le;obtain⟨rv,hrv⟩:=sa2.rows;obtain⟨ha1,ha2⟩:=hrv k (by omega);have hal2:=har k hlt;simp only[aH];refine ab fun y hy=>?_;have fin : ∀ρ,Lft.look ρ 2=some vr->Lft.look ρ 3=some (.pointer (some ⟨M,0,none⟩))->Lft.look ρ 4=some (.int .i64 n)->Lft.look ρ 5=some vt->Lft.look ρ 7=some vp->Lft.look ρ 11=some vd->Lft.look ρ 12=some (.int .i64 t)->Lft.look ρ 13=some (.int .i64 b)->Lft.look ρ 15=some va->Lft.look ρ 19=some (.int .i64 k)->(decide (k≠b)&&(!nth dn k||nth (nth away k) b))=false->
    LC.wp Tryz.prog y (eY 17 (eU K2 (eY 16 Q))) ρ h2:=by
   intro ρ r2 r3 r4 r5 r7 r11 r12 r13 r15 r19 hc;subst hy;rw[if_neg (by rw[hc];simp)]at hla;refine ab fun y hy=>?_;refine ab fun w hw=>?_;simp;subst hw;refine DF (vr:=vr) (vt:=vt) (vp:=vp) (vd:=vd) (va:=va) (t:=t) (b:=b) (ai:=k) x2 z hlt (by omega) (by omega) (by omega) ?_ fun h3 x3=>?_
   ·simp[bF,ag,ah,r2,r3,r4,r5,r7,r11,r12,r13,r15,r19]
   simp;subst hy;refine ab fun w hw=>?_;simp;subst hw;have hph:=z.phis k;refine DU (vr:=vr) (vt:=vt) (vp:=vp) (vd:=vd) (va:=va) (t:=t) (b:=b) (ai:=k) x3 z hlt (by omega) (by simp;omega) (by omega) ?_ fun h4 x4=>?_
   ·simp[bF,ag,ah]
   simp;refine hK2 () _ _ rfl rfl (by rw[hla];exact x4)
  refine ab fun w hw=>?_;by_cases c:k=b
  ·subst c;simp;subst hw;refine aV (by simp) ?_;simp;refine fin _ ?_ ?_ ?_ ?_ ?_ ?_ ?_ ?_ ?_ ?_ (by simp);all_goals simp
  have c':¬((k:Int)=(b:Int)):=by omega
  cases hd2:nth dn k with
  | false=>simp(disch:=omega)[c,c',sd.idx1 rfl,sd.bool (View.le_refl _),hd2];subst hw;refine aU (by simp) ?_;simp;refine hK2 () _ _ rfl rfl ?_;rw[if_pos (by simp[c,hd2])]at hla;rw[hla];exact x2
  | true=>
   simp(disch:=omega)[c,c',sd.idx1 rfl,sd.bool (View.le_refl _),hd2,sa2.idx1 rfl,ha1 _ (View.le_refl _),ha2.idx1 rfl,ha2.bool (View.le_refl _)];subst hw;cases hw2:nth (nth away k) b with
   | true=>refine aU (by simp[hw2]) ?_;simp;refine hK2 () _ _ rfl rfl ?_;rw[if_pos (by simp[c,hd2,hw2])]at hla;rw[hla];exact x2
   | false=>refine aV (by simp[hw2]) ?_;simp;refine fin _ ?_ ?_ ?_ ?_ ?_ ?_ ?_ ?_ ?_ ?_ (by simp[c,hd2,hw2]);all_goals simp
 rintro _ h2 x2;exact hQ h2 x2
end
structure B2 (n a p:Nat) (x:BL × MS):Prop where
 z:Sz n a p 700 x.2
 len:x.1.length=n
 none : ∀j,j<n->nth x.1 j=false->(nth x.2.blocks j).ins.length=0
variable{dn:BL}{away:List BL}
theorem vV{a p:Nat}{m:MS}(z:Sz n a p 700 m)(hn:n<=10)(hp:p<=100):(lR m dn away b n).length<=15100:=by have:=nb z (dn:=dn) (away:=away) (b:=b) (l:=rows (fun i=>(i:Int)) m.ps.toNat) n;rw[mj]at this;have h2:(p+2*700)*n<=1500*10:=MT (by omega) hn;have:=z.ps1;unfold lR;omega
theorem nM{m:MS}{j:Nat}{t:dm}(hb:b<m.blocks.length):nth (m.yo b t).blocks j=if b=j then{ nth m.blocks b with term:=t } else nth m.blocks j:=by
 show nth (m.blocks.set b _) j=_;rcases KB j m.blocks.length with hl | hl
 ·rw[bn hl]
 rw[de (by simpa using hl),de hl,if_neg (by omega)]
theorem AW{s:List Int}{a p:Nat}{m:MS}(z:Sz n a p 700 m)(hb:b<n)(h0:(nth m.blocks b).ins.length=0)(hn:n<=10)(hp:p<=100)(ha:16000<=a):
  Sz n (a+600) p 700 (jc s to n dn away b m)/\∀j,j≠b->(nth (jc s to n dn away b m).blocks j).ins=(nth m.blocks j).ins:=by
 have hll:=vV (dn:=dn) (away:=away) (b:=b) z hn hp;have ht:=dd (s:=s) (at_:=m.at_) (n:=7) (by decide);have hbl:b<m.blocks.length:=by rw[z.len];exact hb
 obtain⟨m1,hm1⟩ : ∃m1:MS,m1=MS.took { m with live:=lR m dn away b n }:=⟨_,rfl⟩;have z1:Sz n (a+1) p 700 m1:=by rw[hm1];exact Sz.took ⟨z.at_,z.n0,z.next,by show(lR m dn away b n).length<=_;omega,z.ps0,z.ps1,z.len,z.phis,z.ins⟩
 have hl1:m1.live.length<=15100:=by rw[hm1];exact hll
 have e1 : ∀j,nth m1.blocks j=nth m.blocks j:=fun j=>by rw[hm1];rfl
 have hb1:b<m1.blocks.length:=by rw[z1.len];exact hb
 have g:=((Grw.refl (b:=b) (m:=m1)).iJ (s:=s) hb1 (aD s m.at_ 7).toNat).Hl (s:=s) (to:=nth to b) hb1;have g:=g.mono (l:=520) (by omega);have e:jc s to n dn away b m=nW s (nth to b) b (up (fun _=>aL s b) (aD s m.at_ 7).toNat m1):=by rw[hm1];rfl
 rw[e];unfold nW;generalize iz s (nth to b) b (up (fun _=>aL s b) (aD s m.at_ 7).toNat m1)=r at g;have hbr:b<r.2.blocks.length:=by rw[g.len];exact hb1
 have hown:=g.ins;rw[e1,h0]at hown;refine⟨⟨?_,?_,?_,?_,?_,?_,?_,fun j=>?_,fun j=>?_⟩,fun j hj=>?_⟩
 ·show r.2.at_<=_;have:=g.at1;have:=z1.at_;omega
 ·show 0<=r.2.next;have:=g.n0;have:=z1.n0;omega
 ·show r.2.next<=_;have:=g.n1;have:=z1.next;omega
 ·show r.2.live.length<=_;have:=g.live;omega
 ·show 0<=r.2.ps;rw[g.ps];exact z1.ps0
 ·show r.2.ps<=4;rw[g.ps];exact z1.ps1
 ·show(r.2.blocks.set b _).length=n;rw[KZ,g.len];exact z1.len
 ·rw[nM hbr];split
  ·rename_i e;subst e;show(nth r.2.blocks b).phis.length<=_;rw[g.phis];exact z1.phis b
  rename_i e;rw[g.els j (fun q=>e q.symm)];exact z1.phis j
 ·rw[nM hbr];split
  ·rename_i e;subst e;show(nth r.2.blocks b).ins.length<=_;omega
  rename_i e;rw[g.els j (fun q=>e q.symm)];exact z1.ins j
 rw[nM hbr,if_neg (fun q=>hj q.symm),g.els j hj,e1]
theorem qd{s:List Int}{a p:Nat}{x:BL × MS}(q:B2 n a p x)(hb:b<n)(hn:n<=10)(hp:p<=100)(ha:16000<=a)(h0:sr x.1 (pz x.2.f n) b n=true->nth x.1 b=false):B2 n (a+600) p (cC s to n b x):=by
 unfold cC;split
 ·rename_i hr;obtain⟨z2,e2⟩:=AW (s:=s) (to:=to) (dn:=x.1.set b true) (away:=pz x.2.f n) q.z hb (q.none b hb (h0 hr)) hn hp ha;refine⟨z2,by show(x.1.set b true).length=n;rw[KZ];exact q.len,fun j hj h=>?_⟩;have h:nth (x.1.set b true) j=false:=h;rw[bn (by rw[q.len];exact hj)]at h;split at h
  ·cases h
  rename_i e;show(nth (jc _ _ _ _ _ _ _).blocks j).ins.length=0;rw[e2 j (fun r=>e r.symm)];exact q.none j hj h
 exact⟨q.z.mono (by omega) (Kz _) (Kz _),q.len,q.none⟩
theorem EN {f:Nat->Bool} : ∀(n:Nat) (r:Bool),up (fun a r=>r&&f a) n r=true->r=true
 | 0,r,h=>h
 | n+1,r,h=>by have h:(up (fun a r=>r&&f a) n r&&f n)=true:=h;simp only[KE]at h;exact EN n r h.1
theorem oQ(h:sr dn away b n=true):nth dn b=false:=by unfold sr at h;have:=EN _ _ h;simpa using this
section
variable {s:List Int} {M:Nat} {vs:Value} {W0:View} {h:Heap} {o0:Own} {m:MS}
variable{vd va:Value}
theorem EU{k c:Nat}{t:Nat}(x:Nx s M vs W0 h o0 m)(hfree:o0 (9,0)=none)(hm:m.ok c)(hc:c<=100000)(hk:k<=100)(hb:b<m.blocks.length)(h0:bF [2,3,4,5,7,11,12,13,15,23,24] ρ=[(2,vr),(3,.pointer (some ⟨M,0,none⟩)),(4,.int .i64 n),(5,vt),(7,vp),(11,vd),(12,.int .i64 t),(13,.int .i64 b),(15,va),(23,.int .i64 k),(24,.int .i64 0)])(hQ : ∀h':Heap,Nx s M vs W0 h' o0 (up (fun _=>aL s b) k m)->Q .normal [(2,vr),(3,.pointer (some ⟨M,0,none⟩)),(4,.int .i64 n),(5,vt),(7,vp),(11,vd),(12,.int .i64 t),(13,.int .i64 b),(15,va),(23,.int .i64 k),(24,.int .i64 k)] h'):
  LC.wp Tryz.prog (.block 22 (.loop L.aA.l12)) Q ρ h:=by
 have oks : ∀j,(up (fun _=>aL s b) j m).ok (c+80*j)/\(up (fun _=>aL s b) j m).blocks.length=m.blocks.length:=by
  intro j;induction j with
  | zero=>exact⟨hm,rfl⟩
  | succ j ih=>exact⟨(ih.1.jm (s:=s) (b:=b)).mono (by omega),(nA (s:=s) (b:=b)).trans ih.2⟩
 simp only[aH];refine dI [2,3,4,5,7,11,12,13,15,23,24] (fun(_:Unit) j=>[vr,.pointer (some ⟨M,0,none⟩),.int .i64 n,vt,vp,vd,.int .i64 t,.int .i64 b,va,.int .i64 k,.int .i64 j]) (fun _ j h2=>Nx s M vs W0 h2 o0 (up (fun _=>aL s b) j m)) k ()
  rfl (by omega) h0 x (fun _ _=>rfl) (fun v k h2 hk2 x2=>by simp) ?_ ?_
 ·rintro _ j h2 hlt x2 K2 hK2;obtain⟨q1,q2⟩:=oks j;have e2:up (fun _=>aL s b) (j+1) m=aL s b (up (fun _=>aL s b) j m):=rfl;rw[e2]at hK2;generalize up (fun _=>aL s b) j m=m2 at x2 hK2 q1 q2;simp only[aH];simp;refine af (by kernel_rfl) (uN x2 (b:=b) (by omega) q1 (by omega) hfree) ?_;rintro _ h3 x3;exact hK2 () _ _ rfl rfl x3
 rintro _ h2 x2;exact hQ h2 x2
end
theorem Nx.up{s:List Int}{h:Heap}{m:MS}(x:Nx s M vs W h o0 m)(hW:W0.le W):Nx s M vs W0 h o0 m:=by obtain⟨W',o,g,w,f⟩:=x;exact⟨W',o,View.le_trans hW g,w,f⟩
theorem Nx.re{s:List Int}{h:Heap}{o0':Own}{m:MS}(x:Nx s M vs W h o0 m)(he : ∀k,o0' k=o0 k):Nx s M vs W h o0' m:=by obtain⟨W',o,g,w,f⟩:=x;exact⟨W',o,g,w,fun k hk=>(f k hk).trans (he k).symm⟩
theorem Nx.kZ {po:OP} {s:List Int} {M:Nat} {vs:Value} {W0:View} {h:Heap} {o0:Own} {m:MS} {α:Type} [r:Rep α] {ty e t:TypeId} {us:List (Nat × Value)} {k:Key} {bytes:Nat} {z:Value} {K:Value->Heap->Prop} (x:Nx s M vs W0 h o0 m) (h3:3<=k.1) (hk:o0 k=none) (hT:fe Tryz.prog t e (Rep.n α) bytes z)
  (hK : ∀v h',v.oneCell'=true->Nx s M vs W0 h' (o0.upd k (it e v ([]:List α))) m->K v h'):@Lft.step po Tryz.prog (.buildSlice t 0 #[]) ty us h K:=by
 obtain⟨W,o,g,w,f⟩:=x;refine w.own.kZ (k:=k) (α:=α) ((f k h3).trans hk) hT fun v h2 hle2 hv w2 _=>hK v h2 hv ?_;obtain⟨vb,vl,lb,bb⟩:=w.box;refine⟨W,_,g,⟨w2,w.src,vb,vl,lb,bb.frame fun q hq=>Own.ay (by rintro rfl;omega)⟩,fun q hq=>?_⟩;unfold Own.upd;split
 ·rfl
 exact f q hq
variable{ty2:TypeId}
theorem Nx.Ed{po2:OP}{s:List Int}{h:Heap}{m:MS}{us2:Value->List (Nat × Value)}{c1 c2:Operand}{K:Value->Value->Heap->Prop}(x:Nx s M vs W0 h o0 m)(hc1 : ∀v,asg (us2 v) c1 = .pointer (some ⟨M,5,none⟩))(hc2 : ∀v,asg (us2 v) c2=v)(hK : ∀v h',Nx s M vs W0 h' o0 (m.db [])->K v undef h'):@Lft.step po Tryz.prog (.buildSlice T.aP 0 #[]) ty us h fun v h2=>@Lft.step po2 Tryz.prog (.store T.aP c1 c2) ty2 (us2 v) h2 fun w h3=>K v w h3:=by
 obtain⟨W,o,g,w,f⟩:=x;obtain⟨vb,vl,lb,bb⟩:=w.box;have w1:=w.own.sub (o':=o.upd (0,1) none) fun j i hj=>by
  unfold Own.upd at hj;split at hj
  ·cases hj
  exact hj
 refine w1.kZ (k:=(0,1)) (α:=Int) Own.an El.aP fun v h2 hle2 hv w2 _=>?_;have w2:=w2.congr (o':=o.upd (0,1) (it T.int v ([]:List Int))) fun q=>by unfold Own.upd;split<;>rfl
 refine w2.dK (k:=(0,0)) (n:=5) (i:=5) (e:=T.aY) (B:=M) (l:=mkL vs m.at_ m.ps vb m.next vl) ((Own.ay (by simp)).trans bb.box) (by decide) (by kernel_rfl) (hc1 v) (hc2 v) hv fun h3 w3 _=>?_;refine hK v h3 ⟨W,_,g,⟨w3,w.src,vb,v,lb,⟨rfl,rfl,(Own.ay (by simp)).trans ((Own.ay (by simp)).trans bb.blk),bb.len,bb.term,fun i hi=>?_,fun i hi=>?_⟩⟩,fun k hk=>?_⟩
 ·exact(Own.ay (by simp)).trans ((Own.ay (by simp)).trans (bb.phis i hi))
 ·exact(Own.ay (by simp)).trans ((Own.ay (by simp)).trans (bb.ins i hi))
 rw[Own.ay (by rintro rfl;simp at hk),Own.ay (by rintro rfl;simp at hk)];exact f k hk
section
variable {s:List Int} {M:Nat} {vs:Value} {W0:View} {h:Heap} {o0:Own} {m:MS}
variable{vd:Value}
theorem F2{a p:Nat}{t:Nat}{x0:BL × MS}(x:Nx s M vs W0 h (o0.upd (6,0) (it T.bool vd x0.1)) x0.2)(hto:SlRd W0 vt to)(htl:to.length=n)(f7:o0 (7,0)=none)(f90:o0 (9,0)=none)(f91:o0 (9,1)=none)(q:B2 n a p x0)(hn:n<=10)(hp:p<=100)(ha:16000<=a)(ha2:a<=90000)(h0:bF [2,3,4,5,7,11,12,13] ρ=[(2,vr),(3,.pointer (some ⟨M,0,none⟩)),(4,.int .i64 n),(5,vt),(7,vp),(11,vd),(12,.int .i64 t),(13,.int .i64 0)])(hQ : ∀h':Heap,Nx s M vs W0 h' (o0.upd (6,0) (it T.bool vd (up (cC s to n) n x0).1)) (up (cC s to n) n x0).2->Q .normal [(2,vr),(3,.pointer (some ⟨M,0,none⟩)),(4,.int .i64 n),(5,vt),(7,vp),(11,vd),(12,.int .i64 t),(13,.int .i64 n)] h'):
  LC.wp Tryz.prog (.block 8 (.loop L.aA.l5)) Q ρ h:=by
 have oks : ∀j,j<=n->B2 n (a+600*j) p (up (cC s to n) j x0):=by
  intro j;induction j with
  | zero=>intro _;exact q
  | succ j ih=>intro hj;have:=qd (s:=s) (to:=to) (b:=j) (ih (by omega)) (by omega) hn hp (by omega) fun h=>oQ h;exact⟨this.z.mono (by omega) (Kz _) (Kz _),this.len,this.none⟩
 simp only[aH];refine dI [2,3,4,5,7,11,12,13] (fun(_:Unit) j=>[vr,.pointer (some ⟨M,0,none⟩),.int .i64 n,vt,vp,vd,.int .i64 t,.int .i64 j]) (fun _ j h2=>Nx s M vs W0 h2 (o0.upd (6,0) (it T.bool vd (up (cC s to n) j x0).1)) (up (cC s to n) j x0).2) n ()
  rfl (by omega) h0 x (fun _ _=>rfl) (fun v k h2 hk2 x2=>by simp) ?_ ?_
 ·rintro _ b h2 hlt x2 K2 hK2;have q2:=oks b (by omega);have e2:up (cC s to n) (b+1) x0=cC s to n b (up (cC s to n) b x0):=rfl;rw[e2]at hK2;generalize up (cC s to n) b x0=y at x2 hK2 q2;obtain⟨dn,m⟩:=y;have x2:Nx s M vs W0 h2 (o0.upd (6,0) (it T.bool vd dn)) m:=x2;have z:Sz n (a+600*b) p 700 m:=q2.z;have hdn:dn.length=n:=q2.len;have hbs:cC s to n b (dn,m)=_:=cC.eq_1 s to n b (dn,m);simp only at hbs;have sd:=x2.z.at (by decide) Own.an;simp only[aH];refine ab fun y hy=>?_;simp(disch:=omega)[sd.idx1 rfl,sd.bool (View.le_refl _)];subst hy;refine ab fun y hy=>?_;simp;refine x2.kZ (k:=(7,0)) (α:=BL) (by decide) ((Own.ay (by simp)).trans f7) El.td fun va h3 hva x3=>?_;clear sd;subst hy;refine ab fun y hy=>?_;refine ab fun w hw=>?_;simp;subst hw;refine G5 (vr:=vr) (vt:=vt) (vp:=vp) (vd:=vd) (t:=t) (b:=b) (r:=!nth dn b) x3 ((Own.ay (by simp)).trans f7) z (by omega) (by simp[bF,ag,ah]) fun h4 W4 va hW4 x4 sa=>?_;clear x3 hva x2;have hal:(pz m.f n).length=n:=by unfold pz;simp
  have har : ∀i,i<n->(nth (pz m.f n) i).length=n:=fun i hi=>by unfold pz;rw[gm hi,qv];exact z.len
  generalize pz m.f n=away at sa hbs hal har;simp;subst hy;refine ab fun y hy=>?_;refine ab fun w hw=>?_;simp;subst hw;have sd:=x4.z.at (by decide) Own.an;refine FU (M:=M) (n:=n) (b:=b) (vr:=vr) (vt:=vt) (vp:=vp) (vd:=vd) (va:=va) (t:=t) (r:=!nth dn b) sd (sa.mono x4.z.le) hlt hdn hal har (by omega) (by simp[bF,ag,ah]) ?_;have hrd:up (fun a r=>r&&(decide (a=b)||nth dn a||nth (nth away a) b)) n (!nth dn b)=sr dn away b n:=rfl;rw[hrd];simp;subst hy;refine ab fun y hy=>?_;refine ab fun w hw=>?_;simp;subst hw;cases hr:sr dn away b n with
  | false=>rw[hr]at hbs;rw[if_neg (by simp)]at hbs;refine aU (by simp) ?_;simp;refine hK2 () _ _ rfl rfl ?_;rw[hbs];exact x4.up hW4
  | true=>
   rw[hr]at hbs;rw[if_pos rfl]at hbs;have hnb:=oQ hr;have hib:=q2.none b hlt hnb;refine aV (by simp) ?_;simp;subst hy;refine ab fun y hy=>?_;simp(disch:=omega)[sd.idx1 rfl];refine x4.z.tE (k:=(6,0)) (α:=Bool) (i:=b) (d:=true) rfl (by decide) Own.an (by omega) (by kernel_rfl) rfl rfl (fun W=>tq.2 rfl) fun h5 n5=>?_;have x5:Nx s M vs W4 h5 (o0.upd (6,0) (it T.bool vd (dn.set b true))) m:=n5.x.re fun q=>by rw[fD]
   clear n5 x4 sd;subst hy;refine ab fun y hy=>?_;simp;refine x5.Ed (fun _=>rfl) (fun _=>rfl) fun v6 h6 x6=>?_;subst hy;obtain⟨c,hc⟩ : ∃c:Nat,m.ps=c:=⟨m.ps.toNat,by have:=z.ps0;omega⟩;have hc4:c<=4:=by have:=z.ps1;omega
   refine ab fun y hy=>?_;refine ab fun w hw=>?_;simp;subst hw;refine FR (n:=n) (b:=b) (vr:=vr) (vt:=vt) (vp:=vp) (vd:=vd) (va:=va) (t:=t) (r:=true) x6 z hc (by simp[bF,ag,ah]) fun h7 x7=>?_;simp;subst hy;refine ab fun y hy=>?_;refine ab fun w hw=>?_;simp;subst hw;refine F4 (n:=n) (b:=b) (vr:=vr) (vt:=vt) (vp:=vp) (vd:=vd) (va:=va) (t:=t) (dn:=dn.set b true) (away:=away) x7 z Own.an sa hlt (by rw[KZ];exact hdn) hal har hn (by simp;omega) (by omega) (by omega) (by simp[bF,ag,ah]) fun h8 x8=>?_;have hlv:up (iU m (dn.set b true) away b) n (rows (fun i=>(i:Int)) c)=lR m (dn.set b true) away b n:=by unfold lR;rw[hc];rfl
   rw[hlv]at x8;have hll:=vV (dn:=dn.set b true) (away:=away) (b:=b) z hn hp;have hdo:jc s to n (dn.set b true) away b m=nW s (nth to b) b (up (fun _=>aL s b) (aD s m.at_ 7).toNat (MS.took (m.db (lR m (dn.set b true) away b n)))):=rfl;rw[hdo]at hbs;obtain⟨m1,hm1⟩ : ∃m1,m1=m.db (lR m (dn.set b true) away b n):=⟨_,rfl⟩;have z1:Sz n (a+600*b) p 700 m1:=by rw[hm1];exact⟨z.at_,z.n0,z.next,by show(lR _ _ _ _ _).length<=_;omega,z.ps0,z.ps1,z.len,z.phis,z.ins⟩
   have ea:m.at_=m1.at_:=by rw[hm1];rfl
   rw[<-hm1]at x8 hbs;rw[ea]at hbs;clear hlv hdo hm1 ea x7 x6 x5;simp;subst hy;refine ab fun y hy=>?_;simp;refine af (by kernel_rfl) (fk x8.z (z1.ok (by omega)) (by omega) (k:=7) (by decide) (by decide)) ?_;rintro _ h9 ⟨rfl,n9⟩;obtain⟨t0,t1⟩:=dd (s:=s) (at_:=m1.at_) (n:=7) (by decide);generalize aD s m1.at_ 7=kk at hbs t0 t1;obtain⟨k,rfl⟩ : ∃k:Nat,kk=k:=⟨kk.toNat,by omega⟩;rw[show((k:Int)).toNat=k by omega]at hbs;subst hy;refine ab fun y hy=>?_;refine ab fun w hw=>?_;simp;subst hw;have zok:=(z1.took).ok (show 700<=_ by omega);refine EU (n:=n) (b:=b) (k:=k) (c:=a+600*b+1) (vr:=vr) (vt:=vt) (vp:=vp) (vd:=vd) (va:=va) (t:=t) n9.x ((Own.ay (by simp)).trans f90) zok (by omega) (by omega) (by show b<m1.blocks.length;rw[z1.len];exact hlt) (by simp[bF,ag,ah]) fun h10 x10=>?_;have oks2 : ∀j,(up (fun _=>aL s b) j m1.took).ok (a+600*b+1+80*j)/\(up (fun _=>aL s b) j m1.took).blocks.length=n:=by
    intro j;induction j with
    | zero=>exact⟨zok,z1.len⟩
    | succ j ih=>exact⟨(ih.1.jm (s:=s) (b:=b)).mono (by omega),(nA (s:=s) (b:=b)).trans ih.2⟩
   obtain⟨k1,k2⟩:=oks2 k;generalize up (fun _=>aL s b) k m1.took=m2 at x10 hbs k1 k2;obtain⟨rv,hrv⟩:=hto.rows;obtain⟨hr1,hr2⟩:=hrv b (by omega);have ito:=(hto.mono hW4).mono x10.z.le;simp;subst hy;simp(disch:=omega)[ito.idx1 rfl,hr1 _ (View.le_trans hW4 x10.z.le)];refine af (by kernel_rfl) (Iu x10 (b:=b) (by omega) k1 (by omega) ((Own.ay (by simp)).trans f91) (hr2.mono hW4)) ?_;rintro _ h11 x11;refine hK2 () _ _ rfl rfl ?_;rw[hbs];exact x11.up hW4
 rintro _ h2 x2;exact hQ h2 x2
end
section
structure GdB (x:BlkD):Prop where
 ins : ∀i∈x.ins,i.args.length<=10
 args:x.term.args.length<=10
 to:x.term.to.length<=1000
 phis : ∀p∈x.phis,p.ins.length<=1000
def Gd (m:MS):Prop:=∀j,j<m.blocks.length->GdB (nth m.blocks j)
variable {s:List Int} {m:MS} {b:Nat}
theorem Gd.took (g:Gd m):Gd m.took:=g
theorem Gd.aG (g:Gd m):Gd m.aG:=g
theorem Gd.gA(g:Gd m){x:BlkD}(hx:b<m.blocks.length->GdB x):Gd { m with blocks:=m.blocks.set b x }:=fun j hj=>by
 have hj:j<m.blocks.length:=by simpa using hj
 show GdB (nth (m.blocks.set b x) j);rw[bn hj];split
 ·rename_i e;exact hx (by omega)
 exact g j hj
theorem Gd.add (g:Gd m) {i:InsD} (hi:i.args.length<=10):Gd (m.add b i):=by
 have:=g.gA (b:=b) (x:={ nth m.blocks b with ins:=(nth m.blocks b).ins++[i] }) fun hb=>⟨fun j hj=>by
  rcases KD.1 hj with h | h
  ·exact(g b hb).ins j h
  rw[KF]at h;rw[h];exact hi,(g b hb).args,(g b hb).to,(g b hb).phis⟩;exact this
theorem Gd.constant (g:Gd m) {n:Int}:Gd (m.constant b n):=g.aG.add (by show 0<=10;omega)
theorem Gd.two (g:Gd m) {op x y:Int}:Gd (m.two b op x y):=g.aG.add (by show 2<=10;omega)
theorem Gd.aE (g:Gd m):Gd (aE s m b).2:=by
 unfold Go.Proofs.YtnfiilgdjpdlkaaGreatDoor.aE;repeat' split
 ·exact g.took.took.constant
 ·exact g.took.took.took.took.took.constant
 exact g.took.took.took
theorem Gd.addr(g:Gd m):Gd (nI s m b).2:=by
 unfold nI;simp only;split
 ·exact g.took.constant.took.aE.constant.two.two
 exact g.took.constant.took
theorem Gd.off(g:Gd m):Gd (offS s m).2:=by
 unfold offS;split
 ·exact g.took.took.took.took
 exact g.took.took
theorem Gd.memory(g:Gd m){st:Bool}:Gd (ja s m b st):=by
 unfold ja;simp only;split
 ·exact g.addr.off.aE.add (by show 2<=10;omega)
 exact g.addr.off.aG.add (by show 1<=10;omega)
theorem Gd.bin(g:Gd m){op:Int}:Gd (binS s m b op):=by
 unfold binS;simp only;split
 ·exact g.aE.aE.took.took.constant.two
 exact g.aE.aE.took.two
theorem Gd.div(g:Gd m):Gd (divS s m b):=by
 unfold divS;simp only;split
 ·exact g.aE.took.constant.took.took.constant.two
 exact g.aE.took.constant.took.two
theorem Gd.args {x:List Int × MS} (g:Gd x.2) : ∀n,Gd (up (ia s b) n x).2/\(up (ia s b) n x).1.length=x.1.length+n
 | 0=>⟨g,rfl⟩
 | n+1=>⟨(Gd.args g n).1.aE,by show((up (ia s b) n x).1++[_]).length=_;rw[KK,(Gd.args g n).2,KW];omega⟩
theorem Gd.call(g:Gd m):Gd (nD s m b):=by unfold nD;simp only;have ht:=dd (s:=s) (at_:=m.at_) (n:=5) (by decide);obtain⟨g2,l2⟩:=Gd.args (s:=s) (b:=b) (x:=([],m.took)) g.took (aD s m.at_ 5).toNat;refine g2.aG.took.add ?_;show(up (ia s b) (aD s m.at_ 5).toNat ([],m.took)).1.length<=10;rw[l2];simp;omega
theorem Gd.jm(g:Gd m):Gd (aL s b m):=by
 unfold aL;simp only;repeat' split
 ·exact g.took.bin
 ·unfold ltuS;exact g.took.aE.aE.two
 ·exact g.took.div
 ·exact g.took.memory
 ·exact g.took.call
 ·unfold wN;exact g.took.aE.aE.aG.aG.add (by show 2<=10;omega)
 exact g.took.took.took.constant
theorem Gd.iJ (g:Gd m) : ∀n,Gd (up (fun _=>aL s b) n m)
 | 0=>g
 | n+1=>(Gd.iJ g n).jm
theorem Gd.JK(g:Gd m){to:List Int}(ht:to.length<=1000):Gd (nW s to b m):=by
 have h:Gd (iz s to b m).2/\(iz s to b m).1.args.length<=10/\(iz s to b m).1.to.length<=1000:=by
  unfold iz;simp only;repeat' split
  ·exact⟨g.took.took,by show 0<=10;omega,by show 0<=1000;omega⟩
  ·exact⟨g.took.aE,by show 1<=10;omega,by show 0<=1000;omega⟩
  ·exact⟨g.took,by show 0<=10;omega,by show 0<=1000;omega⟩
  ·exact⟨g,by show 0<=10;omega,ht⟩
  ·exact⟨g.aE.took.aE.aG.took.add (by show 2<=10;omega),by show 1<=10;omega,ht⟩
  ·exact⟨g.aE.took,by show 1<=10;omega,ht⟩
  exact⟨g.aE.constant.two,by show 1<=10;omega,ht⟩
 obtain⟨h1,h2,h3⟩:=h;exact h1.gA fun hb=>⟨(h1 b hb).ins,h2,h3,(h1 b hb).phis⟩
theorem Gd.lG (g:Gd m) {l:List Int} (hl:l.length<=1000):Gd (m.lG b l):=g.gA fun hb=>⟨(g b hb).ins,(g b hb).args,hl,(g b hb).phis⟩
theorem Gd.fy (g:Gd m):Gd (Go.Proofs.YtnfiilgdjpdlkaaGreatDoor.fy b m):=by
 have:=g.aG.gA (b:=b) (x:={ nth m.blocks b with phis:=(nth m.blocks b).phis++[⟨m.next,[]⟩] }) fun hb=>⟨(g b hb).ins,(g b hb).args,(g b hb).to,fun p hp=>by
  rcases KD.1 hp with h | h
  ·exact(g b hb).phis p h
  rw[KF]at h;rw[h];show 0<=1000;omega⟩;exact this
theorem Gd.oI (g:Gd m) : ∀n,Gd (up (fun _=>Go.Proofs.YtnfiilgdjpdlkaaGreatDoor.fy b) n m)
 | 0=>g
 | n+1=>(Gd.oI g n).fy
theorem Gd.qA (g:Gd m) {i:Nat} {l:List InD} (hl:l.length<=1000):Gd (m.qA b i l):=g.gA fun hb=>⟨(g b hb).ins,(g b hb).args,(g b hb).to,fun p hp=>by
 rcases MZ hp with h | h
 ·exact(g b hb).phis p h
 rw[h];exact hl⟩
theorem Gd.smF{a p i:Nat}(g:Gd m)(z:Sz n a p i m)(hn:n<=10000)(hp:p<=10000)(hi:i<=10000):SmF m.f:=by refine⟨by show m.blocks.length<=_;rw[z.len];exact hn,fun j hj=>?_⟩;have hj:j<m.blocks.length:=hj;have h:=g j hj;have e:nth m.f.blocks j=nth m.blocks j:=rfl;rw[e];exact⟨KU (z.phis j) hp,KU (z.ins j) hi,by have:=h.args;omega,by have:=h.to;omega,fun k hk=>by have:=h.phis _ (cj hk);omega,fun k hk=>by have:=h.ins _ (cj hk);omega⟩
theorem uU {f:ak} : ∀n,∀t∈thTo f n,t.mks.length<=1000
 | 0,t,h=>by cases h
 | n+1,t,h=>by
  rw[gJ]at h;rcases KD.1 h with h | h
  ·exact uU n t h
  unfold thB at h;simp only[KD,KF,rows,LF,LQ]at h;rcases h with(⟨i,_,rfl⟩ | ⟨i,_,rfl⟩) | rfl
  ·show 1<=1000;omega
  ·show(cQ _).length<=1000;unfold cQ;repeat' split
   all_goals simp
  show 0<=1000;omega
theorem zy {n a p i:Nat} (z:Sz n a p i m) : ∀k,(thTo m.f k).length<=(p+i+1)*k
 | 0=>Kz _
 | k+1=>by have h1:=zy z k;have h2:=z.phis k;have h3:=z.ins k;have e:nth m.f.blocks k=nth m.blocks k:=rfl;rw[gJ,KK,ND];unfold thB;simp only[KK,mj,KW,e];omega
theorem qB{a p i:Nat}(z:Sz n a p i m)(hn:n<=10)(hp:p<=1000)(hi:i<=3000):(aF m.f).length<=60000:=by
 have h1:=zy z n;have h2:(p+i+1)*n<=5000*10:=MT (by omega) hn;have e:aF m.f=thTo m.f n:=by unfold aF;rw[show m.f.blocks.length=n from z.len]
 rw[e];omega
theorem uG{a p i:Nat}(z:Sz n a p i m)(hn:n<=10)(hp:p<=1000)(hi:i<=3000):(iy m.f b).length<=70000000:=by
 have h:=wO (l:=aF m.f) (f:=m.f) (b:=b) (c:=1000) (uU _) (out:=rows (fun i=>(i:Int)) m.f.params.toNat);have h2:=qB z hn hp hi;have h3:m.f.params.toNat<=4:=by have:=z.ps1;show m.ps.toNat<=4;omega
 rw[mj]at h;have e:iy m.f b=(aF m.f).foldl (eS m.f b) (rows (fun i=>(i:Int)) m.f.params.toNat):=rfl;rw[e];omega
end
structure P3 (n a p i:Nat) (m:MS):Prop where
 z:Sz n a p i m
 g:Gd m
theorem P3.mono {n a p i a' p' i':Nat} {m:MS} (q:P3 n a p i m) (h1:a<=a') (h2:p<=p') (h3:i<=i'):P3 n a' p' i' m:=⟨q.z.mono h1 h2 h3,q.g⟩
theorem Sz.const{a p i:Nat}{m:MS}{k:Int}(z:Sz n a p i m):Sz n (a+3) p (i+1) (m.constant b k):=by have h1:Sz n (a+3) p (i+1) { m.aG with live:=m.live++cQ (conD m.next k) }:=⟨by have:=z.at_;show m.at_<=_;omega,by have:=z.n0;show 0<=m.next+1;omega,by have:=z.next;show m.next+1<=_;omega,by have:=z.live;show(m.live++[m.next]).length<=_;rw[KK,KW];omega,z.ps0,z.ps1,z.len,z.phis,fun j=>by have:=z.ins j;show(nth m.blocks j).ins.length<=_;omega⟩;exact h1.gA (b:=b) (x:={ nth m.blocks b with ins:=(nth m.blocks b).ins++[conD m.next k] }) (z.phis b) (by have:=z.ins b;show((nth m.blocks b).ins++[_]).length<=_;rw[KK,KW];omega)
theorem Sz.qA {n a p i b j:Nat} {m:MS} {l:List InD} (z:Sz n a p i m):Sz n a p i (m.qA b j l):=
 z.gA (by show((nth m.blocks b).phis.set j _).length<=_;rw[KZ];exact z.phis b) (z.ins b)
def rowS (s:List Int) (b:Nat) (m:MS):List Int × MS:=if(iy m.f b).length=0 then([m.next],m.took.took.constant b (kz s m)) else(iy m.f b,m)
theorem EW{s:List Int}{m:MS}:0<(rowS s b m).1.length:=by
 unfold rowS;split
 ·show 0<1;omega
 show 0<(iy m.f b).length;omega
theorem E3{s:List Int}{a p i:Nat}{m:MS}(z:Sz n a p i m)(hn:n<=10)(hp:p<=1000)(hi:i<=3000):(rowS s b m).1.length<=70000000:=by
 unfold rowS;split
 ·show 1<=70000000;omega
 exact uG z hn hp hi
theorem Ca{s:List Int}{a p i:Nat}{m:MS}(q:P3 n a p i m):P3 n (a+5) p (i+1) (rowS s b m).2:=by
 unfold rowS;split
 ·exact⟨(q.z.took.took.const).mono (by omega) (Kz _) (Kz _),q.g.took.took.constant⟩
 exact q.mono (by omega) (Kz _) (by omega)
theorem CI{s:List Int}{p:List Int}{k:Nat}{x:List InD × MS}(h:nth p k=b):dQ s p k x=(x.1++[⟨b,nth (rowS s b x.2).1 (aD s (rowS s b x.2).2.at_ (rowS s b x.2).1.length).toNat⟩],(rowS s b x.2).2.took):=by unfold dQ;rw[h];rfl
theorem jY {s:List Int} {n a p i:Nat} {pl:List Int} {x:List InD × MS} (q:P3 n a p i x.2) : ∀k,P3 n (a+6*k) p (i+k) (up (dQ s pl) k x).2/\(up (dQ s pl) k x).1.length=x.1.length+k
 | 0=>⟨q,rfl⟩
 | k+1=>by
  obtain⟨h1,h2⟩:=jY (pl:=pl) q k;have h3:=Ca (s:=s) (b:=(nth pl k).toNat) h1;refine⟨?_,?_⟩
  ·have e:(up (dQ s pl) (k+1) x).2=(rowS s (nth pl k).toNat (up (dQ s pl) k x).2).2.took:=rfl;rw[e];exact⟨(h3.z.took).mono (by omega) (Kz _) (by omega),h3.g.took⟩
  have e:(up (dQ s pl) (k+1) x).1=(up (dQ s pl) k x).1++[⟨nth pl k,nth (rowS s (nth pl k).toNat (up (dQ s pl) k x).2).1 (aD s (rowS s (nth pl k).toNat (up (dQ s pl) k x).2).2.at_ (rowS s (nth pl k).toNat (up (dQ s pl) k x).2).1.length).toNat⟩]:=rfl;rw[e,KK,h2,KW];omega
variable{pl:List Int}
theorem GA{s:List Int}{a p i j:Nat}{m:MS}(q:P3 n a p i m)(hp:pl.length<=9):P3 n (a+54) p (i+9) (phi3 s b pl j m):=by obtain⟨h1,h2⟩:=jY (s:=s) (pl:=pl) (x:=([],m)) q pl.length;exact⟨(h1.z.qA).mono (by omega) (Kz _) (by omega),h1.g.qA (by rw[h2];show 0+_<=_;omega)⟩
theorem mX {s:List Int} {n a p i b:Nat} {pl:List Int} {m:MS} (q:P3 n a p i m) (hp:pl.length<=9) : ∀k,P3 n (a+54*k) p (i+9*k) (up (phi3 s b pl) k m)
 | 0=>q
 | k+1=>(GA (mX q hp k) hp).mono (by omega) (Kz _) (by omega)
theorem Io{H:View}{a b:Int}(ha:I64 a)(hb:I64 b):Rd H (.agg #[.int .i64 a,.int .i64 b]) (InD.mk a b):=⟨_,rfl,[.int .i64 a],[.int .i64 b],rfl,⟨rfl,ha⟩,rfl,hb⟩
section
variable {s:List Int} {M:Nat} {vs:Value} {W0:View} {h:Heap} {o0:Own} {m:MS}
theorem Nx.Gc(x:Nx s M vs W0 h o0 m){h':Heap}{k:Key}{u:Value}{l:List Int}(h3:3<=k.1)(hk:o0 k=none)(hle:(vw h).le (vw h'))(hb : ∀b,u.ownBlock=some b->h.size<=b)(ho:OwnT nothing h' T.int u l):Nx s M vs W0 h' (o0.upd k (it T.int u l)) m:=by
 obtain⟨W,o,g,w,f⟩:=x;have w2:=w.own.add (k:=k) ((f k h3).trans hk) (zo (W':=W) ho) hle hb;obtain⟨vb,vl,lb,bb⟩:=w.box;refine⟨W,_,g,⟨w2,w.src,vb,vl,lb,bb.frame fun q hq=>Own.ay (by rintro rfl;omega)⟩,fun q hq=>?_⟩;unfold Own.upd;split
 ·rfl
 exact f q hq
theorem Nx.freeze {α:Type} [r:Rep α] {k:Key} {e:TypeId} {v:Value} {l:List α} (x:Nx s M vs W0 h (o0.upd k (it e v l)) m) (h3:3<=k.1) (hk:o0 k=none) : ∃W',W0.le W'/\Nx s M vs W' h o0 m/\SlRd W' v l:=by
 obtain⟨W,o,g,w,f⟩:=x;have hk2:=(f k h3).trans Own.an;obtain⟨w2,sl⟩:=w.own.freeze hk2;have hWp:=jv (h:=h) (w.own.av _ _ hk2);obtain⟨vb,vl,lb,bb⟩:=w.box;refine⟨_,View.le_trans g hWp,⟨_,_,View.le_refl _,⟨w2,w.src.mono hWp,vb,vl,lb,bb.frame fun q hq=>Own.ay (by rintro rfl;omega)⟩,fun q hq=>?_⟩,sl⟩;by_cases e2:q=k
 ·rw[e2,Own.an,hk]
 rw[Own.ay e2,f q hq,Own.ay e2]
theorem Nx.jd {po po2:OP} {α:Type} [r:Rep α] {k:Key} {e t ty ty2:TypeId} {bytes:Nat} {z:Value} {v:Value} {l:List α} (x:Nx s M vs W0 h o0 m) (h3:3<=k.1) (hk:o0 k=it e v l) {a y y2:Operand} {us:List (Nat × Value)} {us2:Value->List (Nat × Value)} {u:Value} {d:α} {K:Value->Value->Heap->Prop} (hT:fe Tryz.prog t e (Rep.n α) bytes z) (hx:asg us a=u) (hr : ∀W,Rd W u d)
  (hb:(l.length+1)*bytes<=140737488355328) (hb2:l.length+1<=140737488355328) (hy : ∀u,asg (us2 u) y=v) (hy2 : ∀u,asg (us2 u) y2=u)
  (hK : ∀u v' h',Nx s M vs W0 h' (o0.upd k (it e v' (l++[d]))) m->K u v' h') :
  @Lft.step po Tryz.prog (.buildSlice t 1 #[(0,a)]) ty us h fun u h2=>@Lft.step po2 Tryz.prog (.call ⟨.builtin .append,#[y,y2],#[t,t]⟩) ty2 (us2 u) h2 fun v' h3=>K u v' h3:=by
 obtain⟨W,o,g,w,f⟩:=x;refine w.own.jd (k:=k) (d:=d) ((f k h3).trans hk) hT hx (hr W) hb hb2 hy hy2 fun u v' h' w2 _=>hK u v' h' ?_;obtain⟨vb,vl,lb,bb⟩:=w.box;refine⟨W,_,g,⟨w2,w.src,vb,vl,lb,bb.frame fun q hq=>Own.ay (by rintro rfl;omega)⟩,fun q hq=>?_⟩;unfold Own.upd;split
 ·rfl
 exact f q hq
variable{vd:Value}
theorem E6{a p i j:Nat}{vq vi:Value}(x:Nx s M vs W0 h (o0.upd (7,2) (it T.rp vi ([]:List InD))) m)(f71:o0 (7,1)=none)(q:P3 n a p i m)(hn:n<=10)(ha:a<=500000)(hia:i<=a)(hp:p<=100)(hi:i<=2000)(hq:SlRd W0 vq pl)(hpl:pl.length<=9)(hpr : ∀k,k<pl.length->∃c:Nat,nth pl k=c/\c<n)(h0:bF [2,3,4,5,7,11,25,26,27,28,29] ρ=[(2,vr),(3,.pointer (some ⟨M,0,none⟩)),(4,.int .i64 n),(5,vt),(7,vp),(11,vd),(25,.int .i64 b),(26,vq),(27,.int .i64 j),(28,vi),(29,.int .i64 0)])(hQ : ∀(h':Heap) vi,Nx s M vs W0 h' (o0.upd (7,2) (it T.rp vi (up (dQ s pl) pl.length ([],m)).1)) (up (dQ s pl) pl.length ([],m)).2->Q .normal [(2,vr),(3,.pointer (some ⟨M,0,none⟩)),(4,.int .i64 n),(5,vt),(7,vp),(11,vd),(25,.int .i64 b),(26,vq),(27,.int .i64 j),(28,vi),(29,.int .i64 pl.length)] h'):
  LC.wp Tryz.prog (.block 28 (.loop L.aA.l15)) Q ρ h:=by
 simp only[aH];refine dI [2,3,4,5,7,11,25,26,27,28,29] (fun(vi:Value) k=>[vr,.pointer (some ⟨M,0,none⟩),.int .i64 n,vt,vp,vd,.int .i64 b,vq,.int .i64 j,vi,.int .i64 k]) (fun vi k h2=>Nx s M vs W0 h2 (o0.upd (7,2) (it T.rp vi (up (dQ s pl) k ([],m)).1)) (up (dQ s pl) k ([],m)).2) pl.length vi
  rfl (by omega) h0 x (fun _ _=>rfl) (fun v k h2 hk2 x2=>by simp[hq.len]) ?_ ?_
 ·rintro vi k h2 hlt x2 K2 hK2;obtain⟨q2,hl2⟩:=jY (s:=s) (pl:=pl) (x:=([],m)) q k;obtain⟨c,hc,hcn⟩:=hpr k hlt;have e2:up (dQ s pl) (k+1) ([],m)=dQ s pl k (up (dQ s pl) k ([],m)):=rfl;rw[e2,CI hc]at hK2;have hl2:(up (dQ s pl) k ([],m)).1.length<=9:=by rw[hl2];simp;omega
  generalize up (dQ s pl) k ([],m)=y at x2 hK2 q2 hl2;obtain⟨il,m2⟩:=y;have q2:P3 n (a+54) p (i+9) m2:=P3.mono q2 (by omega) (Kz _) (by omega);have hl2:il.length<=9:=hl2;have x2:Nx s M vs W0 h2 (o0.upd (7,2) (it T.rp vi il)) m2:=x2;simp only at hK2;have hcell : ∀{h':Heap},W0.le (vw h')->aj (vw h') ((slA vq).add k)=some (.int .i64 c):=fun g=>by rw[hq.int g hlt,hc]
  have hcell0:aj W0 ((slA vq).add k)=some (.int .i64 c):=by rw[hq.int (View.le_refl _) hlt,hc]
  have hrow:rowS s c m2=_:=rowS.eq_1 s c m2;have hq3:=Ca (s:=s) (b:=c) q2;have hpos:=EW (s:=s) (b:=c) (m:=m2);have hrl0:=E3 (s:=s) (b:=c) q2.z hn (by omega) (by omega);simp only[aH];refine ab fun y hy=>?_;obtain⟨vb,vl,rd⟩:=x2.z.reads;refine aS (vw h2) (View.le_refl _) ?_;simp(disch:=omega)[rd.f,(hq.mono x2.z.le).idx1 rfl,hcell x2.z.le];have hth:(aF m2.f).length<=60000:=qB q2.z hn (by omega) (by omega)
  refine af (by kernel_rfl) (zi (b:=c) (rd.rd (DW q2.z)) (q2.g.smF q2.z (by omega) (by omega) (by omega)) ⟨q2.z.ps0,by have:=q2.z.ps1;show m2.ps<=_;omega⟩ (by show c<m2.blocks.length;rw[q2.z.len];exact hcn) (uU _) (by omega)) ?_;rintro u3 h3 ⟨hle3,hb3,ho3⟩;have x3:=x2.Gc (k:=(7,1)) (by decide) ((Own.ay (by simp)).trans f71) hle3 hb3 ho3;clear rd x2 ho3 hb3;generalize iy m2.f c=sl at x3 hrow;subst hy;refine ab fun y hy=>?_;have fin : ∀(v30:Value) (h':Heap) (ρ:Env),Nx s M vs W0 h' ((o0.upd (7,2) (it T.rp vi il)).upd (7,1) (it T.int v30 (rowS s c m2).1)) (rowS s c m2).2->Lft.look ρ 2=some vr->Lft.look ρ 3=some (.pointer (some ⟨M,0,none⟩))->Lft.look ρ 4=some (.int .i64 n)->Lft.look ρ 5=some vt->Lft.look ρ 7=some vp->Lft.look ρ 11=some vd->Lft.look ρ 25=some (.int .i64 b)->Lft.look ρ 26=some vq->Lft.look ρ 27=some (.int .i64 j)->Lft.look ρ 28=some vi->Lft.look ρ 29=some (.int .i64 k)->Lft.look ρ 30=some v30->
    LC.wp Tryz.prog y (eY 29 (eU K2 (eY 28 Q))) ρ h':=by
   intro v30 h' ρ x4 r2 r3 r4 r5 r7 r11 r25 r26 r27 r28 r29 r30;subst hy;generalize rowS s c m2=r at x4 hK2 hq3 hpos hrl0;obtain⟨W4,hW4,x4,s4⟩:=x4.freeze (by decide) ((Own.ay (by simp)).trans f71);have hrl:=s4.bound;refine aS W4 x4.z.le ?_;simp(disch:=omega)[ag,ah,r2,r3,r4,r5,r7,r11,r25,r26,r27,r28,r29,r30,(hq.mono hW4).idx1 rfl,ae hW4 hcell0,s4.len];refine af (by kernel_rfl) (fk x4.z (hq3.z.ok (by omega)) (by omega) (k:=(r.1.length:Int)) (by omega) (by omega)) ?_;rintro _ h5 ⟨rfl,n5⟩;refine⟨n5.le,?_⟩;obtain⟨t0,t1⟩:=dd (s:=s) (at_:=r.2.at_) (n:=(r.1.length:Int)) (by omega);generalize aD s r.2.at_ (r.1.length:Int)=tv at t0 t1 hK2;have hrng:=s4.range (i:=tv.toNat) (by omega);simp(disch:=omega)[ag,ah,r2,r3,r4,r5,r7,r11,r25,r26,r27,r28,r29,r30,s4.idx1 rfl,s4.int (View.le_refl _)];refine aq (z:=.agg #[.int .i64 0,.int .i64 0]) (places:=[(0,1),(1,1)]) (vs:=[(0,.int .i64 c),(1,.int .i64 (nth r.1 tv.toNat))]) (cs:=#[.int .i64 c,.int .i64 (nth r.1 tv.toNat)]) (by kernel_rfl) (by kernel_rfl) (by simp) (by rfl) ?_;refine n5.x.jd (k:=(7,2)) (α:=InD) (d:=⟨c,nth r.1 tv.toNat⟩) (by decide) Own.an El.qQ rfl (fun W=>Io ⟨by omega,by omega⟩ hrng) (by omega) (by omega) (fun _=>rfl) (fun _=>rfl) fun u v' h6 x6=>?_;refine hK2 v' _ _ ?_ ?_ ((x6.re fun q=>by rw[fD]).up hW4)
   ·simp[ag,ah,r29]
   simp[bF,ag,ah,r2,r3,r4,r5,r7,r11,r25,r26,r27,r28,r29]
  have hsl:=(x3.z.at (k:=(7,1)) (by decide) Own.an).len (K:=vw h3);have hlen3 : ∀{Q:View},Un.ev Q .len u3=some (.int .i64 sl.length):=fun{Q}=>(x3.z.at (k:=(7,1)) (by decide) Own.an).len;refine ab fun w hw=>?_;simp[hlen3];subst hw;by_cases c0:sl.length=0
  ·have c0':sl=[]:=KN c0;rw[if_pos c0]at hrow;refine aU (by simp[c0,c0']) ?_;refine aS W0 x3.z.le ?_;simp(disch:=omega)[hq.idx1 rfl,hcell0];refine af (by kernel_rfl) (ya x3.z (q2.z.ok (by omega)) (by omega)) ?_;rintro _ h4 ⟨rfl,n4⟩;refine⟨n4.le,?_⟩;refine af (by kernel_rfl) (gr n4 (b:=c) (by show c<m2.blocks.length;rw[q2.z.len];exact hcn) (q2.z.took.took.ok (by omega)) (by omega) oF) ?_;rintro _ h5 ⟨rfl,n5⟩;have i64:I64 m2.next:=by have:=q2.z.n0;have:=q2.z.next;constructor<;>omega
   subst c0';refine n5.x.jd (k:=(7,1)) (α:=Int) (d:=m2.next) (by decide) Own.an El.aP rfl (fun W=>bC.2 ⟨rfl,i64⟩) (by simp) (by simp) (fun _=>rfl) (fun _=>rfl) fun u v' h6 x6=>?_;refine fin v' h6 _ ?_ ?_ ?_ ?_ ?_ ?_ ?_ ?_ ?_ ?_ ?_ ?_ ?_
   ·rw[hrow];exact x6.re fun q=>by rw[fD];rfl
   all_goals simp
  rw[if_neg c0]at hrow;have c0':¬sl=[]:=fun e=>c0 (by rw[e];rfl);refine aV (by simp[c0']) ?_;simp;refine fin u3 h3 _ ?_ ?_ ?_ ?_ ?_ ?_ ?_ ?_ ?_ ?_ ?_ ?_ ?_
  ·rw[hrow];exact x3
  all_goals simp
 rintro vi h2 x2;exact hQ h2 vi x2
end
def Pc (lp:List Int) (m:MS):Prop:=∀j,((nth m.blocks j).phis.length:Int)=nth lp j
variable{lp:List Int}
theorem Pc.grw{m m':MS}{k:Nat}(p:Pc lp m)(g:Grw b k m m'):Pc lp m':=fun j=>by
 by_cases e:j=b
 ·subst e;rw[g.phis];exact p j
 rw[g.els j e];exact p j
theorem Pc.gA{m:MS}{x:BlkD}(p:Pc lp m)(hx:x.phis.length=(nth m.blocks b).phis.length):Pc lp { m with blocks:=m.blocks.set b x }:=fun j=>by
 show((nth (m.blocks.set b x) j).phis.length:Int)=_;rcases KB j m.blocks.length with hl | hl
 ·rw[bn hl];split
  ·rename_i e;subst e;rw[hx];exact p b
  exact p j
 rw[de (by simpa using hl)];have:=p j;rwa [de hl]at this
theorem Pc.jc {s:List Int} {to:List (List Int)} {n b:Nat} {dn:BL} {away:List BL} {lp:List Int} {m:MS} (p:Pc lp m) (hb:b<m.blocks.length):Pc lp (jc s to n dn away b m):=by have p1:Pc lp (MS.took { m with live:=lR m dn away b n }):=p;have hb1:b<(MS.took { m with live:=lR m dn away b n }).blocks.length:=hb;have g:=((Grw.refl (b:=b) (m:=MS.took { m with live:=lR m dn away b n })).iJ (s:=s) hb1 (aD s m.at_ 7).toNat).Hl (s:=s) (to:=nth to b) hb1;exact(p1.grw g).gA rfl
theorem Pc.cC {s:List Int} {to:List (List Int)} {n b:Nat} {lp:List Int} {x:BL × MS} (p:Pc lp x.2) (hb:b<x.2.blocks.length):Pc lp (cC s to n b x).2:=by
 unfold Go.Proofs.YtnfiilgdjpdlkaaGreatDoor.cC;split
 ·exact p.jc hb
 exact p
theorem Pc.rowS {s:List Int} {b:Nat} {lp:List Int} {m:MS} (p:Pc lp m) (hb:b<m.blocks.length):Pc lp (rowS s b m).2:=by
 unfold Go.Proofs.YtnfiilgdjpdlkaaGreatDoor.rowS;split
 ·have p1:Pc lp m.took.took:=p;exact p1.grw ((Grw.refl (b:=b) (m:=m.took.took)).constant hb)
 exact p
theorem CH{s:List Int}{m:MS}:(rowS s b m).2.blocks.length=m.blocks.length:=by
 unfold rowS;split
 ·exact dM
 rfl
theorem Pc.jY {s:List Int} {pl:List Int} {lp:List Int} {x:List InD × MS} (p:Pc lp x.2) (hb : ∀k,k<pl.length->(nth pl k).toNat<x.2.blocks.length) : ∀k,k<=pl.length->Pc lp (up (dQ s pl) k x).2/\(up (dQ s pl) k x).2.blocks.length=x.2.blocks.length
 | 0,_=>⟨p,rfl⟩
 | k+1,h=>by obtain⟨h1,h2⟩:=Pc.jY (s:=s) p hb k (by omega);have e:(up (dQ s pl) (k+1) x).2=(Go.Proofs.YtnfiilgdjpdlkaaGreatDoor.rowS s (nth pl k).toNat (up (dQ s pl) k x).2).2.took:=rfl;rw[e];exact⟨h1.rowS (by rw[h2];exact hb k (by omega)),(mz).trans (CH.trans h2)⟩
theorem Pc.phi3 {s:List Int} {b j:Nat} {pl:List Int} {lp:List Int} {m:MS} (p:Pc lp m) (hb : ∀k,k<pl.length->(nth pl k).toNat<m.blocks.length):Pc lp (phi3 s b pl j m)/\(phi3 s b pl j m).blocks.length=m.blocks.length:=by obtain⟨h1,h2⟩:=Pc.jY (s:=s) (pl:=pl) (x:=([],m)) p hb pl.length (Kz _);exact⟨h1.gA (by simp),by show(List.set _ _ _).length=_;rw[KZ];exact h2⟩
theorem Pc.mX {s:List Int} {b:Nat} {pl:List Int} {lp:List Int} {m:MS} (p:Pc lp m) (hb : ∀k,k<pl.length->(nth pl k).toNat<m.blocks.length) : ∀k,Pc lp (up (Go.Proofs.YtnfiilgdjpdlkaaGreatDoor.phi3 s b pl) k m)/\(up (Go.Proofs.YtnfiilgdjpdlkaaGreatDoor.phi3 s b pl) k m).blocks.length=m.blocks.length
 | 0=>⟨p,rfl⟩
 | k+1=>by obtain⟨h1,h2⟩:=Pc.mX (s:=s) (b:=b) p hb k;obtain⟨h3,h4⟩:=Pc.phi3 (s:=s) (b:=b) (j:=k) h1 (fun k hk=>by rw[h2];exact hb k hk);exact⟨h3,h4.trans h2⟩
theorem ug {p:Nat->Bool} : ∀(n:Nat) (v:Int),v∈sift p (fun a=>(a:Int)) n->∃c:Nat,v=c/\c<n
 | 0,v,h=>by cases h
 | n+1,v,h=>by
  cases hp:p n with
  | true=>
   rw[mJ hp]at h;rcases KD.1 h with h | h
   ·obtain⟨c,h1,h2⟩:=ug n v h;exact⟨c,h1,by omega⟩
   rw[KF]at h;exact⟨n,h,by omega⟩
  | false=>rw[ll hp]at h;obtain⟨c,h1,h2⟩:=ug n v h;exact⟨c,h1,by omega⟩
theorem zr{p:Nat->Bool}(n k:Nat)(hk:k<(sift p (fun a=>(a:Int)) n).length): ∃c:Nat,nth (sift p (fun a=>(a:Int)) n) k=c/\c<n:=ug n _ (cj hk)
section
variable {s:List Int} {M:Nat} {vs:Value} {W0:View} {h:Heap} {o0:Own} {m:MS}
theorem Nx.Jw[r:Rep α](x:Nx s M vs W0 h o0 m){h':Heap}{u:Value}{l:List α}(hle:(vw h).le (vw h'))(hs:SlRd (fresh h h') u l): ∃W',W0.le W'/\Nx s M vs W' h' o0 m/\SlRd W' u l:=by obtain⟨W,o,g,w,f⟩:=x;have hW:=bO (h':=h') w.own.wle;exact⟨_,View.le_trans g hW,⟨_,o,View.le_refl _,⟨w.own.ext hle,w.src.mono hW,w.box⟩,f⟩,hs.mono (jj W h h')⟩
variable{vb vl:Value}
theorem Mk.Jb{o:Own}(w:Mk s M vs W h o m){lb:List BlkM}(bb:MkB M vs m o vb vl lb){i:Nat}{l:List InD}{v:Value}{x y:Operand}{K:Value->Heap->Prop}(hb:b<m.blocks.length)(hi:i<(nth m.blocks b).phis.length)(hsz:dp Tryz.prog ty2=some 1)(hx:asg us x = .pointer (some (((slA (nth lb b).phis.v).add (i*2)).add 1)))(hy:asg us y=v)(hr:SlRd W v l)(hK : ∀h' o',Mk s M vs W h' o' (m.qA b i l)->(∀k:Key,3<=k.1->o' k=o k)->K undef h'):@Lft.step po Tryz.prog (.store ty2 x y) ty us h K:=by
 have hbl:b<lb.length:=by rw[bb.len];exact hb
 refine w.own.oK (k:=(1,b)) (α:=PhiD) PhiD.lV (v:=(nth lb b).phis.v) (l:=(nth m.blocks b).phis) (i:=i) (d:=l) (bb.phis b hb) hsz hx hy hi (eE.2 hr) fun h7 w7 _=>?_;have hs:lb.set b (nth lb b)=lb:=by rw[az hbl];exact List.set_getElem_self hbl
 have b7:=bb.gA hb (x':={ nth m.blocks b with phis:=(nth m.blocks b).phis.set i { nth (nth m.blocks b).phis i with ins:=l } }) (y':=nth lb b) (o':=o.upd (1,b) (it T.ni (nth lb b).phis.v ((nth m.blocks b).phis.set i { (nth m.blocks b).phis[i]with ins:=l }))) (bb.term b hb) (by rw[hs,Own.ay (by simp)];exact bb.blk) (by rw[Own.an,az hi]) (by rw[Own.ay (by simp)];exact bb.ins b hb) (fun q h1 h2 h3=>Own.ay h2);rw[hs]at b7;exact hK h7 _ ⟨w7,w.src,vb,vl,lb,b7⟩ fun k hk=>Own.ay (by rintro rfl;simp at hk)
end
section
variable {s:List Int} {M:Nat} {vs:Value} {W0:View} {h:Heap} {o0:Own} {m:MS}
variable{vd:Value}
theorem ET{a p i cnt:Nat}{vq:Value}(x:Nx s M vs W0 h o0 m)(h5:o0 (5,0)=it T.int vp lp)(f71:o0 (7,1)=none)(f72:o0 (7,2)=none)(q:P3 n a p i m)(pc:Pc lp m)(hlp:lp.length=n)(hb:b<n)(hcnt:nth lp b=cnt)(hc3:cnt<=3)(hn:n<=10)(ha:a<=400000)(hia:i<=a)(hp:p<=100)(hi:i<=1900)(hq:SlRd W0 vq pl)(hpl:pl.length<=9)(hpr : ∀k,k<pl.length->∃c:Nat,nth pl k=c/\c<n)(h0:bF [2,3,4,5,7,11,25,26,27] ρ=[(2,vr),(3,.pointer (some ⟨M,0,none⟩)),(4,.int .i64 n),(5,vt),(7,vp),(11,vd),(25,.int .i64 b),(26,vq),(27,.int .i64 0)])(hQ : ∀h':Heap,Nx s M vs W0 h' o0 (up (phi3 s b pl) cnt m)->Q .normal [(2,vr),(3,.pointer (some ⟨M,0,none⟩)),(4,.int .i64 n),(5,vt),(7,vp),(11,vd),(25,.int .i64 b),(26,vq),(27,.int .i64 cnt)] h'):
  LC.wp Tryz.prog (.block 26 (.loop L.aA.l14)) Q ρ h:=by
 simp only[aH];refine dI [2,3,4,5,7,11,25,26,27] (fun(_:Unit) k=>[vr,.pointer (some ⟨M,0,none⟩),.int .i64 n,vt,vp,vd,.int .i64 b,vq,.int .i64 k]) (fun _ k h2=>Nx s M vs W0 h2 o0 (up (phi3 s b pl) k m)) cnt ()
  rfl (by omega) h0 x (fun _ _=>rfl) (fun v k h2 hk2 x2=>by have sp:=x2.z.at (by decide) h5;have e:=sp.int (View.le_refl _) (i:=b) (by omega);rw[hcnt]at e;simp(disch:=omega)[sp.idx1 rfl,e]) ?_ ?_
 ·rintro _ k h2 hlt x2 K2 hK2;have hpn : ∀j,j<pl.length->(nth pl j).toNat<m.blocks.length:=fun j hj=>by obtain⟨c,h1,h2⟩:=hpr j hj;rw[h1,q.z.len];simpa using h2
  have q2:=(mX (s:=s) (b:=b) q hpl k).mono (a':=a+200) (p':=p) (i':=i+30) (by omega) (Kz _) (by omega);obtain⟨pc2,hlen2⟩:=Pc.mX (s:=s) (b:=b) pc hpn k;have e2:up (phi3 s b pl) (k+1) m=phi3 s b pl k (up (phi3 s b pl) k m):=rfl;rw[e2]at hK2;generalize up (phi3 s b pl) k m=m2 at x2 hK2 q2 pc2 hlen2;have hpn2 : ∀j,j<pl.length->(nth pl j).toNat<m2.blocks.length:=fun j hj=>by rw[hlen2];exact hpn j hj
  obtain⟨pc3,hlen3⟩:=Pc.jY (s:=s) (pl:=pl) (x:=([],m2)) pc2 hpn2 pl.length (Kz _);simp only[aH];refine ab fun y hy=>?_;simp;refine x2.kZ (k:=(7,2)) (α:=InD) (by decide) f72 El.qQ fun vi h3 hvi x3=>?_;subst hy;refine ab fun y hy=>?_;refine ab fun w hw=>?_;simp;subst hw;refine E6 (vr:=vr) (vt:=vt) (vp:=vp) (vd:=vd) (vq:=vq) (vi:=vi) (b:=b) (j:=k) x3 f71 q2 hn (by omega) (by omega) hp (by omega) hq hpl hpr (by simp[bF,ag,ah]) fun h4 vi x4=>?_;obtain⟨W4,hW4,x4,s4⟩:=x4.freeze (by decide) f72;have e3:phi3 s b pl k m2=(up (dQ s pl) pl.length ([],m2)).2.qA b k (up (dQ s pl) pl.length ([],m2)).1:=rfl;rw[e3]at hK2;have hb4:b<(up (dQ s pl) pl.length ([],m2)).2.blocks.length:=by rw[hlen3];show b<m2.blocks.length;rw[hlen2,q.z.len];exact hb
  have hph:((nth (up (dQ s pl) pl.length ([],m2)).2.blocks b).phis.length:Int)=cnt:=(pc3 b).trans hcnt;generalize up (dQ s pl) pl.length ([],m2)=r at x4 hK2 s4 hb4 hph;obtain⟨W,o,g,w,f⟩:=x4;obtain⟨vb,vl,lb,bb⟩:=w.box;have rd:=w.reads bb;have hbb:b<lb.length:=by rw[bb.len];exact hb4
  have sb:=w.own.now bb.blk;have sbb:=sb.bound;have c1:aj (vw h4) (((slA vb).add (b*6)).add 0)=some (nth lb b).phis.v:=by have:=((sb.at hbb).part BlkM.rQ).raw;rw[az hbb];exact this
  have sph:=w.own.now (bb.phis b hb4);simp;subst hy;have r5:Bn.ev (.idx 2) (nth lb b).phis.v (.int .i64 k)=some (.pointer (some ((slA (nth lb b).phis.v).add (k*2)))):=by have:=sph.idxn (N:=2) rfl (k:=.i64) (i:=k) (by omega) (by omega);simpa using this
  simp(disch:=omega)[rd.cb,sb.idxn (N:=6) rfl,c1,r5];refine w.Jb bb (b:=b) (i:=k) (l:=r.1) hb4 (by omega) (by kernel_rfl) rfl rfl (s4.mono g) fun h5 o5 w5 f5=>?_;refine hK2 () _ _ rfl rfl ?_;exact⟨W,o5,View.le_trans hW4 g,w5,fun q hq=>(f5 q hq).trans (f q hq)⟩
 rintro _ h2 x2;exact hQ h2 x2
theorem FT{a p i k:Nat}{m:MS}(q:P3 n a p i m)(pc:Pc lp m)(hr : ∀j,nth lp j<=3)(hn:n<=9):P3 n (a+162) p (i+27) (blk3 s lp k m)/\Pc lp (blk3 s lp k m):=by
 have hpl:(cY m.f ((k+1:Nat):Int)).length<=n:=by have:=oe (p:=fun a=>decide (((k+1:Nat):Int)∈(nth m.f.blocks a).term.to)) (x:=fun a=>(a:Int)) m.f.blocks.length;rw[show m.f.blocks.length=n from q.z.len]at this;unfold cY;rw[show m.f.blocks.length=n from q.z.len];exact this
 have hpn : ∀j,j<(cY m.f ((k+1:Nat):Int)).length->(nth (cY m.f ((k+1:Nat):Int)) j).toNat<m.blocks.length:=fun j hj=>by obtain⟨c,h1,h2⟩:=zr _ j hj;have h1:nth (cY m.f ((k+1:Nat):Int)) j=c:=h1;rw[h1];have h2:c<m.blocks.length:=h2;simpa using h2
 have h3:=hr (k+1);unfold blk3;exact⟨(mX q (by omega) _).mono (by omega) (Kz _) (by omega),(Pc.mX pc hpn _).1⟩
theorem yv {n a p i:Nat} {lp:List Int} {m:MS} (q:P3 n a p i m) (pc:Pc lp m) (hr : ∀j,nth lp j<=3) (hn:n<=9) : ∀k,P3 n (a+162*k) p (i+27*k) (up (blk3 s lp) k m)/\Pc lp (up (blk3 s lp) k m)
 | 0=>⟨q,pc⟩
 | k+1=>by obtain⟨h1,h2⟩:=yv q pc hr hn k;obtain⟨h3,h4⟩:=FT (s:=s) (k:=k) h1 h2 hr hn;exact⟨h3.mono (by omega) (Kz _) (by omega),h4⟩
theorem Fh{a p i:Nat}(x:Nx s M vs W0 h o0 m)(h5:o0 (5,0)=it T.int vp lp)(f71:o0 (7,1)=none)(f72:o0 (7,2)=none)(q:P3 n a p i m)(pc:Pc lp m)(hlp:lp.length=n)(hr : ∀j,0<=nth lp j/\nth lp j<=3)(hn1:1<=n)(hn:n<=9)(ha:a<=300000)(hia:i<=a)(hp:p<=100)(hi:i<=1000)(h0:bF [2,3,4,5,7,11,25] ρ=[(2,vr),(3,.pointer (some ⟨M,0,none⟩)),(4,.int .i64 n),(5,vt),(7,vp),(11,vd),(25,.int .i64 1)])(hQ : ∀h':Heap,Nx s M vs W0 h' o0 (up (blk3 s lp) (n-1) m)->Q .normal [(2,vr),(3,.pointer (some ⟨M,0,none⟩)),(4,.int .i64 n),(5,vt),(7,vp),(11,vd),(25,.int .i64 n)] h'):
  LC.wp Tryz.prog (.block 24 (.loop L.aA.l13)) Q ρ h:=by
 simp only[aH];refine tI [2,3,4,5,7,11,25] (fun(_:Unit) k=>[vr,.pointer (some ⟨M,0,none⟩),.int .i64 n,vt,vp,vd,.int .i64 ((k+1:Nat):Int)]) (fun _ k h2=>Nx s M vs W0 h2 o0 (up (blk3 s lp) k m)) (n-1) 1 ()
  rfl (by omega) h0 x (fun _ _=>rfl) (fun v k h2 hk2 m=>by simp;omega) ?_ ?_
 ·rintro _ k h2 hlt x2 K2 hK2;obtain⟨q2,pc2⟩:=yv (s:=s) q pc (fun j=>(hr j).2) hn k;have e2:up (blk3 s lp) (k+1) m=blk3 s lp k (up (blk3 s lp) k m):=rfl;rw[e2]at hK2;generalize up (blk3 s lp) k m=m2 at x2 hK2 q2 pc2;have hb2:blk3 s lp k m2=_:=blk3.eq_1 s lp k m2;rw[hb2]at hK2;simp only[aH];refine ab fun y hy=>?_;obtain⟨vb,vl,rd⟩:=x2.z.reads;simp[rd.f];refine af (by kernel_rfl) (sM (b:=((k+1:Nat):Int)) (rd.rd (DW q2.z)) (by show m2.blocks.length<=_;rw[q2.z.len];omega)) ?_;rintro vq h3 ⟨hle3,hq⟩;obtain⟨W3,hW3,x3,sq⟩:=x2.Jw hle3 hq;clear rd hq;have hpl:(cY m2.f ((k+1:Nat):Int)).length<=n:=by have:=oe (p:=fun a=>decide (((k+1:Nat):Int)∈(nth m2.f.blocks a).term.to)) (x:=fun a=>(a:Int)) m2.f.blocks.length;unfold cY;rw[show m2.f.blocks.length=n from q2.z.len]at this ⊢;exact this
  have hpr : ∀j,j<(cY m2.f ((k+1:Nat):Int)).length->∃c:Nat,nth (cY m2.f ((k+1:Nat):Int)) j=c/\c<n:=fun j hj=>by obtain⟨c,h1,h2⟩:=zr _ j hj;exact⟨c,h1,by rw[show m2.f.blocks.length=n from q2.z.len]at h2;exact h2⟩
  generalize cY m2.f ((k+1:Nat):Int)=pl at sq hpl hpr hK2;obtain⟨r0,r1⟩:=hr (k+1);subst hy;refine ab fun y hy=>?_;simp;subst hy;refine ET (vr:=vr) (vt:=vt) (vp:=vp) (vd:=vd) (vq:=vq) (b:=k+1) (cnt:=(nth lp (k+1)).toNat) x3 h5 f71 f72 q2 pc2 hlp (by omega) (by omega) (by omega) (by omega) (by omega) (by omega) hp (by omega) sq (by omega) hpr (by simp[bF,ag,ah]) fun h4 x4=>?_;simp;refine hK2 () _ _ rfl rfl (x4.up hW3)
 rintro _ h2 x2;have e:n-1+1=n:=by omega
 have:=hQ h2 x2;simpa[e]using this
theorem Ar{a p:Nat}{x0:BL × MS}(q:B2 n a p x0)(hn:n<=10)(hp:p<=100)(ha:16000<=a): ∀j,j<=n->B2 n (a+600*j) p (up (cC s to n) j x0):=by
 intro j;induction j with
 | zero=>intro _;exact q
 | succ j ih=>intro hj;have:=qd (s:=s) (to:=to) (b:=j) (ih (by omega)) (by omega) hn hp (by omega) fun h=>oQ h;exact⟨this.z.mono (by omega) (Kz _) (Kz _),this.len,this.none⟩
theorem Gt{a p:Nat}{x0:BL × MS}(q:B2 n a p x0)(hn:n<=10)(hp:p<=100)(ha:16000<=a)(j:Nat):B2 n (a+600*n*j) p (up (fun _=>up (cC s to n) n) j x0):=by
 induction j with
 | zero=>exact q
 | succ j ih=>have:=Ar (s:=s) (to:=to) ih hn hp (by omega) n (Kz _);exact⟨this.z.mono (by rw[ND];omega) (Kz _) (Kz _),this.len,this.none⟩
theorem F3{a p:Nat}{x0:BL × MS}(x:Nx s M vs W0 h (o0.upd (6,0) (it T.bool vd x0.1)) x0.2)(hto:SlRd W0 vt to)(htl:to.length=n)(f7:o0 (7,0)=none)(f90:o0 (9,0)=none)(f91:o0 (9,1)=none)(q:B2 n a p x0)(hn:n<=9)(hp:p<=100)(ha:16000<=a)(ha2:a<=30000)(h0:bF [2,3,4,5,7,11,12] ρ=[(2,vr),(3,.pointer (some ⟨M,0,none⟩)),(4,.int .i64 n),(5,vt),(7,vp),(11,vd),(12,.int .i64 0)])(hQ : ∀h':Heap,Nx s M vs W0 h' (o0.upd (6,0) (it T.bool vd (up (fun _=>up (cC s to n) n) n x0).1)) (up (fun _=>up (cC s to n) n) n x0).2->Q .normal [(2,vr),(3,.pointer (some ⟨M,0,none⟩)),(4,.int .i64 n),(5,vt),(7,vp),(11,vd),(12,.int .i64 n)] h'):
  LC.wp Tryz.prog (.block 6 (.loop L.aA.l4)) Q ρ h:=by
 simp only[aH];refine dI [2,3,4,5,7,11,12] (fun(_:Unit) j=>[vr,.pointer (some ⟨M,0,none⟩),.int .i64 n,vt,vp,vd,.int .i64 j]) (fun _ j h2=>Nx s M vs W0 h2 (o0.upd (6,0) (it T.bool vd (up (fun _=>up (cC s to n) n) j x0).1)) (up (fun _=>up (cC s to n) n) j x0).2) n ()
  rfl (by omega) h0 x (fun _ _=>rfl) (fun v k h2 hk2 x2=>by simp) ?_ ?_
 ·rintro _ t h2 hlt x2 K2 hK2;have q2:=Gt (s:=s) (to:=to) q (by omega) hp ha t;have hbd:600*n*t<=5400*9:=MT (by omega) (by omega);have e2:up (fun _=>up (cC s to n) n) (t+1) x0=up (cC s to n) n (up (fun _=>up (cC s to n) n) t x0):=rfl;rw[e2]at hK2;generalize up (fun _=>up (cC s to n) n) t x0=y at x2 hK2 q2;simp only[aH];refine ab fun y hy=>?_;simp;subst hy;refine F2 (vr:=vr) (vt:=vt) (vp:=vp) (vd:=vd) (t:=t) x2 hto htl f7 f90 f91 q2 (by omega) hp (by omega) (by omega) (by simp[bF,ag,ah]) fun h3 x3=>?_;simp;exact hK2 () _ _ rfl rfl x3
 rintro _ h2 x2;exact hQ h2 x2
end
section
variable {s:List Int}
theorem js:1<=bH s/\bH s<=9:=by have:=dd (s:=s) (at_:=1) (n:=9) (by decide);unfold bH;omega
theorem Cl:((bH s:Nat):Int)=1+aD s 1 9:=by have:=dd (s:=s) (at_:=1) (n:=9) (by decide);unfold bH;omega
theorem zn:(tZ s).ok 4:=by have:=dd (s:=s) (at_:=0) (n:=5) (by decide);refine⟨by show 2<=4;omega,by show 0<=aD s 0 5;omega,by show aD s 0 5<=_;omega,by show 0<=4;omega,fun i=>?_⟩;show(nth ([]:List BlkD) i).ins.length<=4;rw[de (by simp)];show 0<=4;omega
theorem yj:TgK (bH s) 112 (iL s):=by
 obtain⟨h1,h2⟩:=js (s:=s);have k1:TgK (bH s) 4 (List.replicate (bH s) [],tZ s):=⟨by simp,fun i=>by
  rcases KB i (bH s)with hi | hi
  ·rw[aB hi];show 0<=4;omega
  rw[de (by simpa using hi)];show 0<=4;omega,zn⟩;exact(AG (s:=s) (yt (s:=s) k1 (bH s-1)) (bH s)).mono (by omega)
def pG (m m':MS):Prop:=m'.ps=m.ps/\m'.blocks=m.blocks/\m'.next=m.next/\m'.live=m.live
theorem Eh{m:MS}{k:Nat}{x:TgS}(h:pG m x.2):pG m (tgA s k x).2:=by unfold tgA;split<;>exact h
theorem Fv{m:MS}{x:TgS}(h:pG m x.2):pG m (tgI s n b x).2:=by
 unfold tgI;simp only;repeat' split
 all_goals exact h
theorem DQ{m:MS}{x:TgS}(h:pG m x.2):pG m (tgB s n b x).2:=
 rM (fun x:TgS=>pG m x.2) (fun _ _ h=>Fv h) _ _ h
theorem ue:pG (tZ s) (iL s).2:=
 rM (fun x:TgS=>pG (tZ s) x.2) (fun _ _ h=>DQ h) _ _ (rM (fun x:TgS=>pG (tZ s) x.2) (fun _ _ h=>Eh h) _ _ ⟨rfl,rfl,rfl,rfl⟩)
theorem yJ {m:MS} {a n:Nat} {to:List (List Int)} (z:Sz n a 0 0 m) (g:Gd m) (pc : ∀j,(nth m.blocks j).phis.length=0) (ht : ∀j,(nth to j).length<=1000) : ∀k,Sz n a 0 0 (up (fun b m=>MS.lG m b (nth to b)) k m)/\Gd (up (fun b m=>MS.lG m b (nth to b)) k m)
 | 0=>⟨z,g⟩
 | k+1=>by obtain⟨h1,h2⟩:=yJ z g pc ht k;exact⟨h1.gA (h1.phis k) (h1.ins k),h2.lG (ht k)⟩
theorem rh{j:Nat}:(nth (List.replicate n qS) j).phis.length=0/\(nth (List.replicate n qS) j).ins.length=0:=by
 rcases KB j n with hj | hj
 ·rw[aB hj];exact⟨rfl,rfl⟩
 rw[de (by simpa using hj)];exact⟨rfl,rfl⟩
theorem y7:Sz (bH s) 200 0 0 (qx s)/\Gd (qx s):=by
 have k:=yj (s:=s);have e:=ue (s:=s);have t:=dd (s:=s) (at_:=0) (n:=5) (by decide);refine yJ ⟨?_,?_,?_,?_,?_,?_,?_,fun j=>?_,fun j=>?_⟩ (fun j hj=>?_) (fun j=>(rh).1) (fun j=>by have:=k.row j;omega) _
 ·show(iL s).2.at_<=200;have:=k.ok.at_;omega
 ·exact k.ok.n0
 ·show(iL s).2.next<=_;have:=k.ok.next;omega
 ·show(iL s).2.live.length<=200;have:=k.ok.live;omega
 ·show 0<=(iL s).2.ps;rw[e.1];show 0<=aD s 0 5;omega
 ·show(iL s).2.ps<=4;rw[e.1];show aD s 0 5<=4;omega
 ·show(List.replicate (bH s) qS).length=_;simp
 ·show(nth (List.replicate (bH s) qS) j).phis.length<=0;rw[(rh).1];omega
 ·show(nth (List.replicate (bH s) qS) j).ins.length<=0;rw[(rh).2];omega
 have hj:j<bH s:=by simpa using hj
 show GdB (nth (List.replicate (bH s) qS) j);rw[aB hj];exact⟨fun i h=>(by cases h),by show 0<=10;omega,by show 0<=1000;omega,fun i h=>(by cases h)⟩
theorem oq {m:MS} {b:Nat} (hb:b<m.blocks.length) : ∀c j,(nth (up (fun _=>fy b) c m).blocks j).phis.length=(nth m.blocks j).phis.length+(if j=b then c else 0)/\(up (fun _=>fy b) c m).blocks.length=m.blocks.length
 | 0,j=>⟨by show(nth m.blocks j).phis.length=_;split<;>omega,rfl⟩
 | c+1,j=>by
  obtain⟨h1,h2⟩:=oq hb c j;obtain⟨h3,_⟩:=oq hb c b;have e:(up (fun _=>fy b) (c+1) m).blocks=(up (fun _=>fy b) c m).blocks.set b { nth (up (fun _=>fy b) c m).blocks b with phis:=(nth (up (fun _=>fy b) c m).blocks b).phis++[⟨(up (fun _=>fy b) c m).next,[]⟩] }:=rfl;rw[e];refine⟨?_,by rw[KZ];exact h2⟩;rcases KB j m.blocks.length with hl | hl
  ·rw[bn (by rw[h2];exact hl)];by_cases ej:b=j
   ·subst ej;rw[if_pos rfl,if_pos rfl];rw[if_pos rfl]at h3;show(_++[_]).length=_;rw[KK,h3,KW];omega
   rw[if_neg ej,if_neg (fun q=>ej q.symm)];rw[if_neg (fun q=>ej q.symm)]at h1;exact h1
  rw[de (by rw[KZ,h2];exact hl),de hl,if_neg (by omega)];rfl
theorem wP {n a:Nat} {x:List Int × MS} (p:Ph n a 0 x) (pc:Pc x.1 x.2) (g:Gd x.2) : ∀k,k<n->Pc (up (fF s) k x).1 (up (fF s) k x).2/\Gd (up (fF s) k x).2
 | 0,_=>⟨pc,g⟩
 | k+1,hk=>by
  obtain⟨h1,h2⟩:=wP p pc g k (by omega);have q:=xE (s:=s) p k;have e:up (fF s) (k+1) x=fF s k (up (fF s) k x):=rfl;rw[e];generalize up (fF s) k x=y at h1 h2 q;obtain⟨c0,c1⟩:=pN (s:=s) (m:=y.2) (b:=k+1);have hb:k+1<y.2.took.blocks.length:=by show k+1<y.2.blocks.length;rw[q.z.len];exact hk
  refine⟨fun j=>?_,h2.took.oI _⟩;have h3:=(oq hb (ij s y.2 (k+1)).toNat j).1;show((nth (up (fun _=>fy (k+1)) (ij s y.2 (k+1)).toNat y.2.took).blocks j).phis.length:Int)=nth (y.1.set (k+1) (ij s y.2 (k+1))) j;rw[h3];have h4:=h1 j;have h5:nth y.2.took.blocks j=nth y.2.blocks j:=rfl;rw[h5];rcases KB j y.1.length with hl | hl
  ·rw[bn hl];by_cases ej:k+1=j
   ·subst ej;rw[if_pos rfl,if_pos rfl];rw[q.zero (k+1) (by omega)]at h4;omega
   rw[if_neg ej,if_neg (fun r=>ej r.symm)];omega
  have e1:nth (y.1.set (k+1) (ij s y.2 (k+1))) j=default:=de (by simpa using hl);have e2:nth y.1 j=default:=de hl;rw[e1];rw[e2]at h4;have:=q.len;rw[if_neg (by omega)];omega
theorem qW:Ph (bH s) 200 (bH s-1) (jC s)/\Pc (jC s).1 (jC s).2/\Gd (jC s).2:=by
 obtain⟨h1,h2⟩:=js (s:=s);obtain⟨z,g⟩:=y7 (s:=s);have hz : ∀j,nth (List.replicate (bH s) (0:Int)) j=0:=fun j=>by
  rcases KB j (bH s)with hj | hj
  ·rw[aB hj]
  rw[de (by simpa using hj)];rfl
 have p0:Ph (bH s) 200 0 (List.replicate (bH s) (0:Int),qx s):=⟨z,by simp,fun j _=>hz j,fun j=>by rw[hz];omega⟩;have pc:Pc (List.replicate (bH s) (0:Int)) (qx s):=fun j=>by have:=z.phis j;rw[hz];omega
 obtain⟨q1,q2⟩:=wP (s:=s) p0 pc g (bH s-1) (by omega);exact⟨xE p0 _,q1,q2⟩
theorem Gd.jc {to:List (List Int)} {n b:Nat} {dn:BL} {away:List BL} {m:MS} (g:Gd m) (ht:(nth to b).length<=1000):Gd (jc s to n dn away b m):=by have g1:Gd (MS.took { m with live:=lR m dn away b n }):=g;exact(Gd.iJ g1 _).JK ht
theorem Gd.cC {to:List (List Int)} {n b:Nat} {x:BL × MS} (g:Gd x.2) (ht:(nth to b).length<=1000):Gd (cC s to n b x).2:=by
 unfold Go.Proofs.YtnfiilgdjpdlkaaGreatDoor.cC;split
 ·exact g.jc ht
 exact g
structure M4 (n a p:Nat) (lp:List Int) (x:BL × MS):Prop where
 b2:B2 n a p x
 gd:Gd x.2
 pc:Pc lp x.2
theorem M4.step{to:List (List Int)}{n a p b:Nat}{lp:List Int}{x:BL × MS}(q:M4 n a p lp x)(hb:b<n)(hn:n<=10)(hp:p<=100)(ha:16000<=a)(ht : ∀j,(nth to j).length<=1000):M4 n (a+600) p lp (cC s to n b x):=
 ⟨qd q.b2 hb hn hp ha fun h=>oQ h,q.gd.cC (ht b),q.pc.cC (by rw[q.b2.z.len];exact hb)⟩
theorem M4.blk{a p:Nat}{x:BL × MS}(q:M4 n a p lp x)(hn:n<=10)(hp:p<=100)(ha:16000<=a)(ht : ∀j,(nth to j).length<=1000)(k:Nat)(hk:k<=n):M4 n (a+600*k) p lp (up (Go.Proofs.YtnfiilgdjpdlkaaGreatDoor.cC s to n) k x):=by
 induction k with
 | zero=>exact q
 | succ k ih=>have:=(ih (by omega)).step (s:=s) (to:=to) (b:=k) (by omega) hn hp (by omega) ht;exact⟨⟨this.b2.z.mono (by omega) (Kz _) (Kz _),this.b2.len,this.b2.none⟩,this.gd,this.pc⟩
theorem M4.turn{a p:Nat}{x:BL × MS}(q:M4 n a p lp x)(hn:n<=10)(hp:p<=100)(ha:16000<=a)(ht : ∀j,(nth to j).length<=1000)(k:Nat):M4 n (a+600*n*k) p lp (up (fun _=>up (Go.Proofs.YtnfiilgdjpdlkaaGreatDoor.cC s to n) n) k x):=by
 induction k with
 | zero=>exact q
 | succ k ih=>have:=ih.blk (s:=s) (to:=to) hn hp (by omega) ht n (Kz _);exact⟨⟨this.b2.z.mono (by rw[ND];omega) (Kz _) (Kz _),this.b2.len,this.b2.none⟩,this.gd,this.pc⟩
theorem z7:B2 (bH s) 16000 27 (List.replicate (bH s) false,(jC s).2):=by obtain⟨h1,h2⟩:=js (s:=s);obtain⟨p,_,_⟩:=qW (s:=s);refine⟨p.z.mono (by omega) (by omega) (by omega),by simp,fun j hj _=>?_⟩;have:=p.z.ins j;show(nth (jC s).2.blocks j).ins.length=0;omega
theorem yF:P3 (bH s) 70000 27 700 (wL s).2/\Pc (jC s).1 (wL s).2:=by
 obtain⟨h1,h2⟩:=js (s:=s);obtain⟨p,pc,g⟩:=qW (s:=s);have ht : ∀j,(nth (iL s).1 j).length<=1000:=fun j=>by have:=(yj (s:=s)).row j;omega
 have q0:M4 (bH s) 16000 27 (jC s).1 (List.replicate (bH s) false,(jC s).2):=⟨z7,g,pc⟩;have q:=q0.turn (s:=s) (to:=(iL s).1) (by omega) (by omega) (by omega) ht (bH s);have hbd:600*bH s*bH s<=5400*9:=MT (by omega) (by omega);exact⟨⟨q.b2.z.mono (by omega) (Kz _) (Kz _),q.gd⟩,q.pc⟩
theorem ml:P3 (bH s) 72000 27 1000 (sT s):=by obtain⟨h1,h2⟩:=js (s:=s);obtain⟨p,_,_⟩:=qW (s:=s);obtain⟨q,pc⟩:=yF (s:=s);have:=(yv (s:=s) q pc (fun j=>(p.rng j).2) h2 (bH s-1)).1;exact this.mono (by omega) (Kz _) (by omega)
theorem FL:SmF (lq s):=(ml (s:=s)).g.smF (ml (s:=s)).z (by have:=js (s:=s);omega) (by omega) (by omega)
theorem Aa:0<=(lq s).params/\(lq s).params<=4:=⟨(ml (s:=s)).z.ps0,(ml (s:=s)).z.ps1⟩
theorem DM:1<=(lq s).blocks.length/\(lq s).blocks.length<=9:=by have:=js (s:=s);rw[show(lq s).blocks.length=bH s from(ml (s:=s)).z.len];exact this
end
section
variable {f:ak} {b i:Nat}
theorem zH:mg f (endT f b)=true:=by refine decide_eq_true ?_;show(((nth f.blocks b).ins.length:Nat):Int)=((nth f.blocks ((b:Nat):Int).toNat).ins.length:Nat);rw[KT]
theorem Bo(hi:i<(nth f.blocks b).ins.length):qN f (insT f b i)=true/\zQ f (insT f b i)=nth (nth f.blocks b).ins i:=by
 refine⟨(KE _ _).mpr ⟨decide_eq_true (Int.natCast_nonneg _),decide_eq_true ?_⟩,?_⟩
 ·show(i:Int)<((nth f.blocks ((b:Nat):Int).toNat).ins.length:Nat);rw[KT];omega
 show nth (nth f.blocks ((b:Nat):Int).toNat).ins ((i:Nat):Int).toNat=_;rw[KT,KT]
theorem FN:gY f (endT f b)=nth f.blocks b:=by show nth f.blocks ((b:Nat):Int).toNat=_;rw[KT]
theorem nC.insG(m:nC f)(hb:b<f.blocks.length)(hi:i<(nth f.blocks b).ins.length):xG f (insT f b i)/\tV (nth (nth f.blocks b).ins i)=false:=by have g:=m.good _ (iT.2 ⟨b,hb,km.2 (.inr (.inl ⟨i,hi,rfl⟩))⟩);exact⟨g,by have:=g.op (Bo hi).1;rwa [(Bo hi).2]at this⟩
theorem nC.endG(m:nC f)(hb:b<f.blocks.length):vz (nth f.blocks b).term=true/\∀n∈(nth f.blocks b).term.to,1<=n/\n<f.blocks.length:=by have g:=m.good _ (iT.2 ⟨b,hb,km.2 (.inr (.inr rfl))⟩);have h1:=g.term zH;have h2:=g.to zH;rw[FN]at h1 h2;exact⟨h1,h2⟩
end
section
variable {f g:ak} {n:Nat}
end
def mh (f:ak):Bool:=decide ((kq f).1=0)
def ff (f:ak) (b p pat temp:Int):Option FitD:=if dz f b p&&mh f then tryS (eZ f b p temp) pat else none
def iO (f:ak) (b p pat:Int):Option FitD:=if 1<=pat then ff f b p pat 0 else none
def BJ:Option FitD->List Int | some x=>x.takes | none=>[]
def BI:Option FitD->List Int | some x=>x.inner | none=>[]
def pS:Option FitD->List aW | some x=>x.code | none=>[]
def Br:Option FitD->EndD | some x=>x.fin | none=>eg
theorem mU{f:ak}{i:InsD}:i∈fm f↔∃b k,b<f.blocks.length/\k<(nth f.blocks b).ins.length/\i=nth (nth f.blocks b).ins k:=by
 unfold fm;rw[List.mem_flatMap];constructor
 ·rintro⟨x,hx,hi⟩;obtain⟨b,hb,rfl⟩:=KV hx;obtain⟨k,hk,rfl⟩:=KV hi;exact⟨b,k,hb,by rw[az hb];exact hk,by rw[az hb,az hk]⟩
 rintro⟨b,k,hb,hk,rfl⟩;exact⟨_,cj hb,cj hk⟩
theorem xZ{H:View}{v:Value}{f:ak}(h:Rd H v f): ∀i∈fm f,-2147483648<=i.imm.v/\i.imm.v<=2147483647:=by intro i hi;obtain⟨b,k,hb,hk,rfl⟩:=mU.1 hi;obtain⟨c1,c2,c3⟩:=gD h;unfold Rd at h;rw[if_pos (show Rep.agg ak=true from rfl)]at h;obtain⟨cs,rfl,d1,d2,e,h1,h2⟩:=h;obtain⟨vb,rfl⟩:=rK h2;have hs:=mT.1 h2;have h3:=((hs.at hb).part BlkD.lV).sl;obtain⟨vi,-,h4⟩:=h3;rw[<-az hb]at h4;have:=((h4.at hk).part InsD.gP).oy;rw[az hk];exact this
theorem xp{f:ak}(m:nC f)(hsm:SmF f): ∀i∈fm f,tR i:=by
 intro i hi;obtain⟨b,k,hb,hk,rfl⟩:=mU.1 hi;obtain⟨-,h⟩:=m.insG hb hk;have hm:=(hsm.blk b hb).inn k hk;generalize nth (nth f.blocks b).ins k=i at *;unfold tV at h;simp at h;obtain⟨⟨h1,h2⟩,h3⟩:=h;unfold xy at h3;refine⟨fun ho=>?_,fun ho=>?_,hm⟩
 ·rw[if_neg (by omega),if_neg (by omega),if_neg (by omega)]at h3;simp at h3;omega
 rw[if_neg (by omega),if_pos (by omega)]at h3;simp at h3;omega
theorem Ez{f:ak}(m:nC f)(hsm:SmF f)(hb:b<f.blocks.length):uV (nth f.blocks b).term:=by
 have h:=(m.endG hb).1;have s:=hsm.blk b hb;have s1:=s.args;have s2:=s.to;generalize (nth f.blocks b).term=t at *;refine⟨fun ho=>?_,s1,s2⟩;unfold vz at h;rcases ho with ho | ho
 ·rw[if_neg (by omega),if_pos ho]at h;simp at h;omega
 rw[if_neg (by omega),if_neg (by omega),if_pos ho]at h;simp at h;omega
theorem E9:tR gW:=⟨fun h=>by simp[gW]at h,fun h=>by simp[gW]at h,by simp[gW]⟩
variable{temp:Int}
theorem yY{f:ak}{b p:Int}(m:nC f)(hsm:SmF f)(hr : ∀i∈fm f,-2147483648<=i.imm.v/\i.imm.v<=2147483647)(hp:dz f b p=true):lk (eZ f b p temp)/\uV (eZ f b p temp).t/\((eZ f b p temp).i=gW\/(eZ f b p temp).i∈fm f)/\(eZ f b p temp).f=f:=by
 simp[dz]at hp;obtain⟨⟨⟨g1,g2⟩,g3⟩,g4⟩:=hp;have hb:b.toNat<f.blocks.length:=by omega
 unfold eZ;by_cases e:p=(nth f.blocks b.toNat).ins.length
 ·rw[if_pos e];exact⟨⟨hsm,xp m hsm,E9,hr⟩,Ez m hsm hb,.inl rfl,rfl⟩
 rw[if_neg e];have hi:nth (nth f.blocks b.toNat).ins p.toNat∈fm f:=mU.2 ⟨_,_,hb,by omega,rfl⟩;exact⟨⟨hsm,xp m hsm,xp m hsm _ hi,hr⟩,⟨fun h=>by simp[oD]at h,by simp[oD],by simp[oD]⟩,.inr hi,rfl⟩
theorem yp{f:ak}{v:Value}{b p pat:Int}{h:Heap}(hW:W.le (vw h))(hv:Rd W v (eZ f b p temp))(m:nC f)(hsm:SmF f)(hr : ∀i∈fm f,-2147483648<=i.imm.v/\i.imm.v<=2147483647)(hM : ∀i∈fm f,i.op=15\/i.op=16->lI)(hpl:dz f b p=true)(hp:I64 pat):
  aw Tryz.prog N.ed #[v,.int .i64 pat] h (fun u h'=>bJ W h h' u (tryS (eZ f b p temp) pat)):=by
 obtain⟨h1,h2,h3,-⟩:=yY (temp:=temp) m hsm hr hpl;refine Il hW hv (fun _=>h1) (fun _=>⟨h1,h2⟩) (fun ho=>?_) hp;rcases h3 with h3 | h3
 ·rw[h3]at ho;simp[gW]at ho
 exact hM _ h3 ho
theorem oG{f:ak}(h:mh f=true):nC f:=IK (by simpa[mh]using h)
theorem DS{f:ak}{v:Value}{b p pat:Int}{h:Heap}(hW:W.le (vw h))(hv:Rd W v f)(hsm:SmF f)(hM : ∀i∈fm f,i.op=15\/i.op=16->lI)(hp:I64 pat):
  aw Tryz.prog N.fZ #[v,.int .i64 b,.int .i64 p,.int .i64 pat] h (fun u h'=>(vw h).le (vw h')/\∃v1 v2,u = .tuple #[v1,v2,.bool (iO f b p pat).isSome]/\SlRd (vw h') v1 (BJ (iO f b p pat))/\SlRd (vw h') v2 (BI (iO f b p pat))):=by
 refine ao (args:=[v,.int .i64 b,.int .i64 p,.int .i64 pat]) follows F.fZ E.fZ (Kw (by kernel_rfl)) fun K hK=>?_;dsimp only[L.fZ];have c0:=Cx.start hW;refine ab fun z hz=>?_;simp;refine c0.dy rfl hv fun B h1 W1 hW1 c1 at1 hle1=>?_;subst hz;obtain⟨uf,huf,ruf⟩:=at1.ldN rfl (N:=2) rfl;have hr:=xZ hv
 refine ab fun z hz=>?_;simp[huf _ c1.wle];refine af (by kernel_rfl) (Fe c1.wle ruf (by constructor<;>decide)) ?_;rintro _ h2 ⟨hle2,vs,rfl,hvs⟩;have c2:=c1.ext hle2;have hW2:=c1.up (h':=h2);simp;refine c2.dZ (α:=bN) hvs (n:=13) (z:=.agg ny.toArray) (by kernel_rfl) rfl rfl (by kernel_rfl) (fun _=>by simp) (fun _=>by simp) fun B2 h3 W3 hW3 c3 at3 hle3=>?_;subst hz;have huf3:=huf _ (View.le_trans hW2 (View.le_trans hW3 c3.wle))
 have ruf3:=ruf.mono (View.le_trans hW2 (View.le_trans hW3 c3.wle));have none_:iO f b p pat=none->K (.tuple #[.slice none 0 0,.slice none 0 0,.bool false]) h3:=fun e=>hK _ _ ⟨c3.le0,_,_,by rw[e];rfl,by rw[e];exact aI,by rw[e];exact aI⟩;refine ab fun z hz=>?_;cases hpl:dz f b p with
 | false=>
  have e:iO f b p pat=none:=by unfold iO ff;rw[hpl];split<;>rfl
  simp;exact none_ e
 | true=>
  by_cases h1p:pat<1
  ·have e:iO f b p pat=none:=by unfold iO;rw[if_neg (by omega)]
   simp[h1p];exact none_ e
  simp[h1p,huf3];refine af (by kernel_rfl) (uY ruf3 hsm) ?_;rintro _ h4 ⟨rfl,hle4⟩;have c4:=c3.ext hle4;have hW4:=c3.up (h':=h4);cases hrt:mh f with
  | false=>
   have e:iO f b p pat=none:=by unfold iO ff;rw[hpl,hrt];split<;>rfl
   have hrt2:decide ((kq f).1=0)=false:=hrt;simp[hrt2];exact hK _ _ ⟨c4.le0,_,_,by rw[e];rfl,by rw[e];exact aI,by rw[e];exact aI⟩
  | true=>
   have hrt2:decide ((kq f).1=0)=true:=hrt;have m:=oG hrt;have e:iO f b p pat=tryS (eZ f b p 0) pat:=by unfold iO ff;rw[if_pos (by omega),hpl,hrt];rfl
   rw[e]at hK none_;have hpS:lY f b p 0=eZ f b p 0:=by unfold lY;rw[hpl,if_pos rfl]
   rw[hpS]at at3;obtain⟨us,hus,rus⟩:=at3.ldN rfl (N:=13) rfl;have hus4:=hus _ (View.le_trans hW4 c4.wle);simp[hrt2];subst hz;refine ab fun z hz=>?_;simp[hus4];refine af (by kernel_rfl) (yp c4.wle (rus.mono hW4) m hsm hr hM hpl hp) ?_;rintro _ h5 ⟨hle5,vf,x,rfl,hvf,hx⟩;have c5:=c4.ext hle5
   simp;refine c5.dZ (α:=FitD) hvf (n:=8) (z:=.agg fitZ.toArray) (by kernel_rfl) rfl rfl (by kernel_rfl) (fun _=>by simp) (fun _=>by simp) fun B3 h6 W6 hW6 c6 at6 hle6=>?_;subst hz;refine ab fun z hz=>?_;cases hq:tryS (eZ f b p 0) pat with
   | none=>rw[hq]at hK;simp;exact hK _ _ ⟨c6.le0,_,_,rfl,aI,aI⟩
   | some y=>
    obtain rfl:=hx y hq;rw[hq]at hK;obtain⟨v1,k1,s1⟩:=((at6.mono c6.wle).part FitD.BV).sl;obtain⟨v2,k2,s2⟩:=((at6.mono c6.wle).part FitD.Ga).sl;have k1:aj (vw h6) ⟨B3,0,none⟩=some v1:=by simpa using k1
    have k2:aj (vw h6) ⟨B3,1,none⟩=some v2:=by simpa using k2
    simp;subst hz;simp[k1,k2];exact hK _ _ ⟨c6.le0,_,_,rfl,s1,s2⟩
abbrev endZ:List Value:=[.int .i64 0,.int .i64 0,.int .i64 0,.slice none 0 0,.int .i32 0]
theorem mG{H:View}:Rd H (.agg endZ.toArray) eg:=by unfold Rd;rw[if_pos (show Rep.agg EndD=true from rfl)];exact⟨_,rfl,kF (by simp) (by decide) aI⟩
theorem yq{f:ak}{v:Value}{b p pat:Int}{h:Heap}(hW:W.le (vw h))(hv:Rd W v f)(hsm:SmF f)(hM : ∀i∈fm f,i.op=15\/i.op=16->lI)(hp:I64 pat)(htm:I64 temp):
  aw Tryz.prog N.gF #[v,.int .i64 b,.int .i64 p,.int .i64 pat,.int .i64 temp] h (fun u h'=>(vw h).le (vw h')/\∃v1 v2,u = .tuple #[v1,v2,.bool (ff f b p pat temp).isSome]/\SlRd (vw h') v1 (pS (ff f b p pat temp))/\Rd (vw h') v2 (Br (ff f b p pat temp))):=by
 refine ao (args:=[v,.int .i64 b,.int .i64 p,.int .i64 pat,.int .i64 temp]) follows F.gF E.gF (Kw (by kernel_rfl)) fun K hK=>?_;dsimp only[L.gF];have c0:=Cx.start hW;refine ab fun z hz=>?_;simp;refine c0.dy rfl hv fun B h1 W1 hW1 c1 at1 hle1=>?_;refine c1.cO (k:=(0,0)) (n:=4) (z:=.agg endZ.toArray) rfl (by kernel_rfl) rfl (by decide) (by simp[Value.cells,Value.oneCell']) fun R h1' hle1' c1=>?_;subst hz;obtain⟨uf,huf,ruf⟩:=at1.ldN rfl (N:=2) rfl;have hr:=xZ hv
 refine ab fun z hz=>?_;simp[huf _ c1.wle];refine af (by kernel_rfl) (Fe c1.wle ruf htm) ?_;rintro _ h2 ⟨hle2,vs,rfl,hvs⟩;have c2:=c1.ext hle2;have hW2:=c1.up (h':=h2);simp;refine c2.dZ (α:=bN) hvs (n:=13) (z:=.agg ny.toArray) (by kernel_rfl) rfl rfl (by kernel_rfl) (fun _=>by simp) (fun _=>by simp) fun B2 h3 W3 hW3 c3 at3 hle3=>?_;subst hz;have huf3:=huf _ (View.le_trans hW2 (View.le_trans hW3 c3.wle))
 have ruf3:=ruf.mono (View.le_trans hW2 (View.le_trans hW3 c3.wle));have none_ : ∀(hx:Heap) (Wx:View) (l9:List Value) (o:Own),ff f b p pat temp=none->Cx W h Wx hx o->Rd Wx (.agg l9.toArray) eg->K (.tuple #[.slice none 0 0,.agg l9.toArray,.bool false]) hx:=fun hx Wx l9 o e c r=>hK _ _ ⟨c.le0,_,_,by rw[e];rfl,by rw[e];exact aI,by rw[e];exact r.mono c.wle⟩;refine ab fun z hz=>?_;cases hpl:dz f b p with
 | false=>
  have e:ff f b p pat temp=none:=by unfold ff;rw[hpl];rfl
  simp;refine aq (t:=T.gg) (z:=.agg endZ.toArray) (places:=[(0,1),(1,1),(2,1),(3,1),(4,1)]) (vs:=[]) (cs:=endZ.toArray) (by kernel_rfl) (by kernel_rfl) (by simp) (by rfl) ?_;refine c3.bh (k:=(0,0)) (n:=4) (l:=endZ) (by rfl) mG rfl rfl (by kernel_rfl) rfl rfl fun h9 l9 hl9 c9=>?_;have hall:=c9.all (k:=(0,0)) (n:=4) (l:=l9) (B:=R) (e:=T.gg) (by rfl);simp at hall;simp[hall];exact none_ _ _ _ _ e c9 (hl9▸mG)
 | true=>
  simp[huf3];refine af (by kernel_rfl) (uY ruf3 hsm) ?_;rintro _ h4 ⟨rfl,hle4⟩;have c4:=c3.ext hle4;have hW4:=c3.up (h':=h4);cases hrt:mh f with
  | false=>
   have e:ff f b p pat temp=none:=by unfold ff;rw[hpl,hrt];rfl
   have hrt2:decide ((kq f).1=0)=false:=hrt;simp[hrt2];refine aq (t:=T.gg) (z:=.agg endZ.toArray) (places:=[(0,1),(1,1),(2,1),(3,1),(4,1)]) (vs:=[]) (cs:=endZ.toArray) (by kernel_rfl) (by kernel_rfl) (by simp) (by rfl) ?_;refine c4.bh (k:=(0,0)) (n:=4) (l:=endZ) (by rfl) mG rfl rfl (by kernel_rfl) rfl rfl fun h9 l9 hl9 c9=>?_;have hall:=c9.all (k:=(0,0)) (n:=4) (l:=l9) (B:=R) (e:=T.gg) (by rfl)
   simp at hall;simp[hall];exact none_ _ _ _ _ e c9 (hl9▸mG)
  | true=>
   have hrt2:decide ((kq f).1=0)=true:=hrt;have m:=oG hrt;have e:ff f b p pat temp=tryS (eZ f b p temp) pat:=by unfold ff;rw[hpl,hrt];rfl
   rw[e]at hK none_;have hpS:lY f b p temp=eZ f b p temp:=by unfold lY;rw[hpl,if_pos rfl]
   rw[hpS]at at3;obtain⟨us,hus,rus⟩:=at3.ldN rfl (N:=13) rfl;have hus4:=hus _ (View.le_trans hW4 c4.wle);simp[hrt2];subst hz;refine ab fun z hz=>?_;simp[hus4];refine af (by kernel_rfl) (yp c4.wle (rus.mono hW4) m hsm hr hM hpl hp) ?_;rintro _ h5 ⟨hle5,vf,x,rfl,hvf,hx⟩;have c5:=c4.ext hle5
   simp;refine c5.dZ (α:=FitD) hvf (n:=8) (z:=.agg fitZ.toArray) (by kernel_rfl) rfl rfl (by kernel_rfl) (fun _=>by simp) (fun _=>by simp) fun B3 h6 W6 hW6 c6 at6 hle6=>?_;subst hz;refine ab fun z hz=>?_;cases hq:tryS (eZ f b p temp) pat with
   | none=>simp;refine aq (t:=T.gg) (z:=.agg endZ.toArray) (places:=[(0,1),(1,1),(2,1),(3,1),(4,1)]) (vs:=[]) (cs:=endZ.toArray) (by kernel_rfl) (by kernel_rfl) (by simp) (by rfl) ?_;refine c6.bh (k:=(0,0)) (n:=4) (l:=endZ) (by rfl) mG rfl rfl (by kernel_rfl) rfl rfl fun h9 l9 hl9 c9=>?_;have hall:=c9.all (k:=(0,0)) (n:=4) (l:=l9) (B:=R) (e:=T.gg) (by rfl);simp at hall;simp[hall];exact none_ _ _ _ _ hq c9 (hl9▸mG)
   | some y=>
    obtain rfl:=hx y hq;rw[hq]at hK;obtain⟨v1,k1,s1⟩:=(at6.part FitD.H3).sl;obtain⟨v2,k2,s2⟩:=(at6.part FitD.JH).ldN rfl (N:=5) rfl;have k1:aj W6 ⟨B3,2,none⟩=some v1:=by simpa using k1
    have k2:Un.ev W6 (.au 5) (.pointer (some ⟨B3,3,none⟩))=some v2:=by simpa using k2 W6 (View.le_refl _)
    simp;subst hz;refine ab fun z hz=>?_;refine aS W6 c6.wle ?_;simp[k1,k2];refine c6.bh (k:=(0,0)) (n:=4) (l:=endZ) (by rfl) s2 rfl rfl (by kernel_rfl) rfl rfl fun h9 l9 hl9 c9=>?_;subst hz;have hall:=c9.all (k:=(0,0)) (n:=4) (l:=l9) (B:=R) (e:=T.gg) (by rfl);simp at hall;simp[hall];exact hK _ _ ⟨c9.le0,_,_,rfl,s1.mono c9.wle,hl9▸s2.mono c9.wle⟩
theorem EE{a b:ByteArray}{n:Bool}:Bn.ev (.eqS n) (.string a) (.string b)=some (.bool ((a.toList == b.toList) != n)):=rfl
end Go.Proofs.YtnfiilgdjpdlkaaGreatDoor
