/- A part of the proof: Hg, LftO, Hi, Hj, Hk, Oa, LftI, LftL, Ra, Ka, Kd, Ke, Ob, Oc, Od, Oe, Of, Og, Oh, Oi. -/
import Derived.Test.YtmhnaeecolpfkaaGreatDoorZCOwn2
import Derived.Maps.RangeRun
set_option linter.unusedSimpArgs false
set_option linter.unusedVariables false
open Go.Value renaming int->UH,slice->UM,pointer->UN
open Go.IntKind renaming i64->UI,i32->UJ
open Option renaming some->UK,none->UL
open Bool renaming true->UO,false->UP
open Go.Proofs.Tryz renaming prog->UQ
open Go.Proofs
namespace Go.Lft
theorem K7{g:Gr}(hg:0<g.length):A5 g (g.length*g.length+1)=UK (tD g):=by obtain⟨_,_,l,hl,_⟩:=Aj hg;rw[tD,hl];rfl
theorem one_cell{row r:Array Value}{v:Value}(hv:v.cells = #[v])(hr:r.size=1)(he:row.toList=r.toList.take 0++v.cells.toList++r.toList.drop (0+1)):row = #[v]:=by rw[<-Array.toList_inj,he,hv,SV,RV,RN (by simp[hr])];simp
structure SmB(x:BlkD):Prop where
 phis:x.phis.length<=10000
 ins:x.ins.length<=10000
 args:x.term.args.length<=10000
 to:x.term.to.length<=10000
 phi : ∀i,i<x.phis.length->(nth x.phis i).ins.length<=10000
 inn : ∀i,i<x.ins.length->(nth x.ins i).args.length<=10000
structure SmF(f:ak):Prop where
 len:f.blocks.length<=10000
 blk : ∀i,i<f.blocks.length->SmB (nth f.blocks i)
theorem LX{f:ak}{v:Value}{h:Heap}(hv:Rd (vw h) v f)(hsm:SmF f):
  ay UQ 116 #[v] h (λu h'=>u = .tuple #[UH UI (my f).1,UH UI (my f).2.1,UH UI (my f).2.2]/\(vw h).le (vw h')):=by
 refine tp (args:=[v]) (g:=153) (t:=9) (capops:=#[.tmp 2,.tmp 3,.tmp 4]) (tys:=#[])
  (Mid:=λρ hh=>ρ=[(0,v),(1,ptz h.size),(2,UN (UK ⟨h.size+1,0,UL⟩)),(3,UN (UK ⟨h.size+2,0,UL⟩)),(4,UN (UK ⟨h.size+3,0,UL⟩))]/\hh.size=h.size+4/\(vw h).le (vw hh)/\At (vw hh) ⟨h.size,0,UL⟩ f/\
   hh[h.size+1]? = UK (.cells #[UH UI 0] T.oV (0,0))/\hh[h.size+2]? = UK (.cells #[UH UI 0] T.int (0,0))/\hh[h.size+3]? = UK (.cells #[UH UI 0] T.int (0,0)))
  follows Tryz.func116 B.nr U0 U0 U0 U0 U0 U0 UC U0 E.lQ U0 E.iD U0 R.z8 UC ?_ ?_
 ·simp[L.lQ];refine fT rfl hv λh1 e1 hle1 hs1 hat=>?_;refine dK (z:=UH UI 0) U0 ?_;refine dK (z:=UH UI 0) U0 ?_;refine dK (z:=UH UI 0) U0 ?_;have q1:=bQ h1 (.cells (UH UI 0).cells T.oV);generalize e2:h1.push (.cells (UH UI 0).cells T.oV)=h2 at q1;have b2:h2[h1.size]? = UK (.cells #[UH UI 0] T.oV (0,0)):=by rw[<-e2];simp
  have s2:h2.size=h1.size+1:=by rw[<-e2];simp
  have q2:=bQ h2 (.cells (UH UI 0).cells T.int);generalize e3:h2.push (.cells (UH UI 0).cells T.int)=h3 at q2;have b3:h3[h2.size]? = UK (.cells #[UH UI 0] T.int (0,0)):=by rw[<-e3];simp
  have s3:h3.size=h2.size+1:=by rw[<-e3];simp
  have q3:=bQ h3 (.cells (UH UI 0).cells T.int);generalize e4:h3.push (.cells (UH UI 0).cells T.int)=h4 at q3;have b4:h4[h3.size]? = UK (.cells #[UH UI 0] T.int (0,0)):=by rw[<-e4];simp
  have s4:h4.size=h3.size+1:=by rw[<-e4];simp
  have hsz:h1.size=h.size+1:=hs1;have e22:h2.size=h.size+2:=by omega
  have e32:h3.size=h.size+3:=by omega
  rw[hsz]at b2;rw[e22]at b3;rw[e32]at b4;rw[e22,e32,hsz];simp;exact⟨by omega,UF hle1 (UF q1 (UF q2 q3)),hat.mono (UF q1 (UF q2 q3)),q3 _ _ (q2 _ _ b2),q3 _ _ b3,b4⟩
 rintro ρ hh ⟨rfl,hs,hle,hat,hb1,hb2,hb3⟩;refine⟨[UN (UK ⟨h.size+1,0,UL⟩),UN (UK ⟨h.size+2,0,UL⟩),UN (UK ⟨h.size+3,0,UL⟩)],by simp[vQ],
  ⟨λch h2=>∃t,ny f = .error t/\ch=trV t/\(vw hh).le (vw h2),λρ=>Lft.look ρ 2=UK (UN (UK ⟨h.size+1,0,UL⟩))/\Lft.look ρ 3=UK (UN (UK ⟨h.size+2,0,UL⟩))/\Lft.look ρ 4=UK (UN (UK ⟨h.size+3,0,UL⟩))⟩,?_,?_⟩;rotate_left
 ·rintro ch ρ2 h2 ⟨t,ht,rfl,hle2⟩ ⟨l2,l3,l4⟩;refine⟨_,J7 (hle2 _ _ hb1) (hle2 _ _ hb2) (hle2 _ _ hb3) rfl rfl rfl U1 U1 U1,?_⟩;rintro u' h3 ⟨rfl,g1,g2,g3,gs,go⟩;have c1:an (vw h3) ⟨h.size+1,0,UL⟩=UK (UH UI t.1):=dg (show vw h3 _=_ from g1) rfl;have c2:an (vw h3) ⟨h.size+2,0,UL⟩=UK (UH UI t.2.1):=dg (show vw h3 _=_ from g2) rfl;have c3:an (vw h3) ⟨h.size+3,0,UL⟩=UK (UH UI t.2.2):=dg (show vw h3 _=_ from g3) rfl;refine⟨rfl,[UH UI t.1,UH UI t.2.1,UH UI t.2.2],by simp[R.nr,l2,l3,l4,c1,c2,c3],?_⟩;refine⟨by simp[my,ht],λb o hb=>?_⟩;have hlt:=View.lt (View.le_refl (vw h)) hb;show h3[b]? = _;have hb2':=hle2 _ _ (hle _ _ hb);have hlt2:=View.lt (View.le_refl (vw h2)) hb2';rw[go b hlt2 U1 U1 U1];exact hb2'
 obtain⟨cp,vb,cb⟩:=eU hat;have hbb:=cb.2.bound;have bad : ∀{t:Tr} {ch:List PanicEntry} {h2:Heap},ny f = .error t->ch=trV t->(vw hh).le (vw h2)->∃t,ny f = .error t/\ch=trV t/\(vw hh).le (vw h2):=λa b c=>⟨_,a,b,c⟩;simp only[nK,II];dsimp only[L.iD,lkF,lkG];refine aa λz hz=>?_;simp[cp];refine ah U0 kK ?_;rintro _ _ ⟨rfl,rfl⟩;refine eo U0 iQ ?_ ?_;rotate_left
 ·rintro _ _ ⟨e,rfl,rfl⟩;exact⟨.inl rfl,bad (by rw[ny,if_pos e]) rfl UE⟩
 rintro _ hh ⟨e1,rfl⟩;have e1':¬cu f.params 0 4=false:=by rw[e1];simp
 subst hz;refine aa λz hz=>?_;simp[cb.1,cb.2.len];refine eo U0 iQ ?_ ?_;rotate_left
 ·rintro _ _ ⟨e,rfl,rfl⟩;exact⟨.inl rfl,bad (by rw[ny,if_neg e1',if_pos (by simpa using e)]) rfl UE⟩
 rintro _ hh ⟨e2,rfl⟩;have e2':¬f.blocks.length=0:=by intro e;rw[e]at e2;simp at e2
 subst hz;refine aa λz hz=>?_;simp[cb.1,cb.2.len];subst hz;refine aa λz hz=>?_;simp[cb.1,cb.2.len];refine aG [1,2,3,4,5,23,24,25] (fun(_:Unit) k=>[ptz h.size,UN (UK ⟨h.size+1,0,UL⟩),UN (UK ⟨h.size+2,0,UL⟩),UN (UK ⟨h.size+3,0,UL⟩),UH UI (manyN f k),vb,UH UI f.blocks.length,UH UI k])
  (λ_ k h1=>(vw hh).le (vw h1)/\manyN f k<=f.blocks.length+k*2000000) f.blocks.length ()
  rfl U1 rfl ⟨View.le_refl _,by simp[manyN,up]⟩ (λ_ _=>rfl) (λv i h1 hk m=>by simp) ?_ ?_
 ·rintro _ k h1 hlt ⟨hle1,hmk⟩ K2 hK2;have cb1:=cb.2.mono hle1;obtain⟨u,hu,hur⟩:=cb1.wh rfl (N:=6) rfl hlt;refine aa λy hy=>?_;simp(disch:=omega)[cb1.idxn (N:=6) rfl,hu _ UE];refine dw (z:=zz3) U0 rfl U0 hur U5 U5 λh2 hle2 hsz2 hat2=>?_;obtain⟨vp,vi,va,vt,bp,bi,_⟩:=iK (hat2 (vw h2) hle2 rfl);have bph:=bp.2.bound;have bih:=bi.2.bound;have hm1:manyN f (k+1)=manyN f k+(((nth f.blocks k).phis.length:Int)+(nth f.blocks k).ins.length):=rfl;have h0:=Nh (f:=f) (k:=k);subst hy;simp[bp.1,bp.2.len,bi.1,bi.2.len];have s1:=(hsm.blk k hlt).phis;have s2:=(hsm.blk k hlt).ins;have s0:=hsm.len;rw[bc (a:=((nth f.blocks k).phis.length:Int)+(nth f.blocks k).ins.length) U1 U1,bc U1 U1];exact hK2 () _ _ rfl (by rw[hm1];rfl) ⟨UF hle1 hle2,by rw[hm1];omega⟩
 rintro _ h1 ⟨hle1,hmk⟩;simp;subst hz;refine aa λz hz=>?_;have cb1:=cb.2.mono hle1;have cc1:=ae hle1 cb.1;have cp1:=ae hle1 cp;simp[cc1,cb1.len];have hms:manyN f f.blocks.length=Gn f:=rfl;rw[hms];refine eo U0 iQ ?_ ?_;rotate_left
 ·rintro _ _ ⟨e,rfl,rfl⟩;refine⟨.inl rfl,bad ?_ rfl hle1⟩;rw[ny,if_neg e1',if_neg e2',if_pos];intro e3;simp at e;omega
 rintro _ h1 ⟨e3,rfl⟩;have e3':¬¬(f.blocks.length<=512/\Gn f<=4096):=by simp at e3;omega
 have hchk:ny f=BE f (nm f (λ_=>UL)):=by rw[ny,if_neg e1',if_neg e2',if_neg e3']
 subst hz;refine aa λz hz=>?_;simp[Jc cp1 cc1];refine lE ?_;have hle2:=bQ h1 (.map #[] 0);have hm2:di (.int .i64) (h1.push (.map #[] 0)) h1.size (mapE encW λ_=>UL):=by rw[nh];exact di.none U2
 have hs2:(h1.push (.map #[] 0)).size=h1.size+1:=by simp
 generalize h1.push (.map #[] 0)=h2 at hle2 hm2 hs2;refine aA (z:=zz6) (places:=[(0,2),(2,1)]) (vs:=[(0,.agg #[UH UI f.params,vb]),(1,.map (UK h1.size))]) (cs:=#[UH UI f.params,vb,.map (UK h1.size)]) U0 U0 U2 U0 ?_;refine ey (v:=.agg #[UH UI f.params,vb,.map (UK h1.size)]) rfl ?_;have hle3:=bQ h2 (.cells (Value.cells (.agg #[UH UI f.params,vb,.map (UK h1.size)])) T.jk);have hbk:(h2.push (.cells (Value.cells (.agg #[UH UI f.params,vb,.map (UK h1.size)])) T.jk))[h2.size]? = UK (.cells #[UH UI f.params,vb,.map (UK h1.size)] T.jk (0,0)):=by simp
 have hs3:(h2.push (.cells (Value.cells (.agg #[UH UI f.params,vb,.map (UK h1.size)])) T.jk)).size=h2.size+1:=by simp
 generalize h2.push (.cells (Value.cells (.agg #[UH UI f.params,vb,.map (UK h1.size)])) T.jk)=h3 at hle3 hbk hs3;subst hz;have hsk:skip h1.size h3 h2.size=UK (.cells #[UH UI f.params,vb,.map (UK h1.size)] T.jk (0,0)):=by rw[nS U1];exact hbk
 have hle13:=UF hle2 hle3;have hle1k:(vw h1).le (skip h1.size h3):=λb o hb=>by have hlt:=View.lt (View.le_refl (vw h1)) hb;rw[nS U1];exact hle13 b o hb
 have k3:Lk h3 h2.size h1.size vb f (λ_=>UL):=⟨dg hsk rfl,dg hsk rfl,dg hsk rfl,cb1.mono hle1k,hm2.ext hle3⟩;generalize h2.size=Kb at k3;generalize hr:h1.size=r at k3;have hkk : ∀{h':Heap},Kept h3 h' (UK r)->(vw hh).le (vw h'):=λkp b o hb=>by have h1b:=hle1 b o hb;have hlt:=View.lt (View.le_refl (vw h1)) h1b;have h3b:=hle13 b o h1b;have hlt3:=View.lt (View.le_refl (vw h3)) h3b;show _=_;exact(kp.block b hlt3 U9).trans h3b
 refine aa λz hz=>?_;simp;refine eo U0 (IL k3) ?_ ?_;rotate_left
 ·rintro _ h4 ⟨t,ht,rfl,kp4⟩;exact⟨.inl rfl,bad (by rw[hchk,ht];rfl) rfl (hkk kp4)⟩
 rintro _ h4 ⟨m4,hm4,k4,kp4⟩;have hto:=JE hm4;rw[hm4]at hchk;have hchk:ny f=uS f m4 (tD (ofG f.blocks)):=hchk;subst hz;refine aa λz hz=>?_;simp;have hgl:(ofG f.blocks).length=f.blocks.length:=by simp[ofG]
 refine eo U0 (M9 k4 (Rt hsm.len U3) (λi hi=>Rt (hto i hi) U3) (K7 U1)) ?_ ?_;rotate_left
 ·rintro _ h5 ⟨t,ht,rfl,hle5⟩;exact⟨.inl rfl,bad (by rw[hchk,ht]) rfl (UF (hkk kp4) hle5)⟩
 rintro _ h5 ⟨hus,hle5⟩;have hle05:=UF (hkk kp4) hle5;subst hz;simp;refine eh (g:=h.size+1) (o:=0) (n:=1) (v:=UH UI 0) U0 rfl rfl rfl U7 (hle05 _ _ hb1) U2 λh6 hs6 ⟨row6,hr6,he6⟩ ho6=>?_;refine eh (g:=h.size+2) (o:=0) (n:=1) (v:=UH UI 0) U0 rfl rfl rfl U7 ((ho6 _ U1).trans (hle05 _ _ hb2)) U2 λh7 hs7 ⟨row7,hr7,he7⟩ ho7=>?_;refine eh (g:=h.size+3) (o:=0) (n:=1) (v:=UH UI 0) U0 rfl rfl rfl U7 ((ho7 _ U1).trans ((ho6 _ U1).trans (hle05 _ _ hb3))) U2 λh8 hs8 ⟨row8,hr8,he8⟩ ho8=>?_;rw[one_cell rfl rfl he6]at hr6;rw[one_cell rfl rfl he7]at hr7;rw[one_cell rfl rfl he8]at hr8;refine⟨_,FZ,?_⟩;rintro u' h9 ⟨rfl,rfl⟩;have c1:an (vw h9) ⟨h.size+1,0,UL⟩=UK (UH UI 0):=dg (show vw h9 _=_ from(ho8 _ U1).trans ((ho7 _ U1).trans hr6)) rfl;have c2:an (vw h9) ⟨h.size+2,0,UL⟩=UK (UH UI 0):=dg (show vw h9 _=_ from(ho8 _ U1).trans hr7) rfl;have c3:an (vw h9) ⟨h.size+3,0,UL⟩=UK (UH UI 0):=dg (show vw h9 _=_ from hr8) rfl;refine⟨rfl,[UH UI 0,UH UI 0,UH UI 0],by simp[R.nr,c1,c2,c3],?_⟩;have htold:my f=(0,0,0):=by rw[my,hchk,hus]
 refine⟨by simp[htold],λb o hb=>?_⟩;have hlt:=View.lt (View.le_refl (vw h)) hb;show h9[b]? = _;rw[ho8 b U1,ho7 b U1,ho6 b U1];exact hle05 _ _ (hle _ _ hb)
theorem zH{f:ak}{v:Value}{h:Heap}(hv:Rd (vw h) v f)(hsm:SmF f):
  ay UQ 71 #[v] h (λu h'=>u = .bool (decide ((my f).1=0))/\(vw h).le (vw h')):=by refine aq (args:=[v]) follows Tryz.func71 E.oG UC λK hK=>?_;simp[L.oG];refine fT rfl hv λh1 e1 hle1 hs1 hat=>?_;obtain⟨u,hu,hur⟩:=hat.bM rfl;have hu':Un.ev (vw h1) (.bM 2) (ptz h.size)=UK u:=hu;simp[hu'];refine ah U0 (LX hur hsm) ?_;rintro _ h2 ⟨rfl,hle2⟩;simp;exact hK _ _ ⟨rfl,UF hle1 hle2⟩
section
variable{po po2 po3:OP}{pp:PP}
structure Raw where
 v:Value
instance:Rep Raw where
 n:=1
 agg:=false
 rd:=λ_ cs d=>cs=[d.v]/\d.v.oneCell'=UO
 mono:=λ_ h=>h
 len:=λh=>by rw[h.1];rfl
 one:=λ_=>rfl
 flat:=λh u hu=>by rw[h.1]at hu;simp at hu;subst hu;exact h.2
 pos:=TG
 bT:=λh=>h
instance:Inhabited Raw:=⟨⟨.bool UP⟩⟩
theorem gG{H:View}{v:Value}{d:Raw}:Rd H v d↔v=d.v/\d.v.oneCell'=true:=by simp[Rd,Rep.agg,Rep.rd]
theorem At.raw{H:View}{a:Addr}{d:Raw}(h:At H a d):an H a=UK d.v:=by obtain⟨u,h1,h2⟩:=h.load rfl;rw[(gG.1 h2).1]at h1;exact h1
variable{α β:Type}{off:Nat}{W:View}{y:Operand}{K:Value->Heap->Prop}
theorem Co[Rep α][Rep β]{g:α->β}{s:α->β->α}(p:Part α β off g s){P:Program}{h:Heap}{e:TypeId}{v:Value}{l:List α}{t ty:TypeId}{x:Operand}{us:List (Nat × Value)}{i:Nat}{u:Value}{d:β}(hsz:cU P t=UK (Rep.n β))(hx:asg us x = UN (UK (((slA v).add (i*Rep.n α)).add off)))(hy:asg us y=u)(ho:OwnT W h e v l)(hi:i<l.length)(hr:Rd W u d)(hk : ∀h',h'.size=h.size->OwnT W h' e v (l.set i (s l[i] d))->lA h h' v v->K undef h'):@step po P (.store t x y) ty us h K:=by
 obtain⟨c1,c2,c3⟩:=fH hr;obtain⟨hbd,xs,⟨hxl,hown⟩,hel⟩:=ho;have hf:=p.fits;refine df (po:=po) (pM λw hw=>?_);subst hw;rcases hown with⟨rfl,hn⟩ | ⟨gb,cap,cur,rfl,hg,h1,h2,h3,h4⟩
 ·omega
 have hle:i*Rep.n α+Rep.n α<=l.length*Rep.n α:=by rw[<-Nat.succ_mul];exact RC _ hi
 have hcap:l.length*Rep.n α<=cap*Rep.n α:=RC _ h1;have hlen:u.cells.toList.length=Rep.n β:=by simpa using c2
 have hrun:=run_storeCells_at P gb (i*Rep.n α+off) e u.cells.toList 0 cur w hg (by simp only[Nat.add_zero];omega) c3;have hadd:((slA (UM (UK ⟨gb,0,UL⟩) l.length cap)).add (i*Rep.n α)).add off=⟨gb,i*Rep.n α+off,UL⟩:=by show((⟨gb,0,UL⟩:Addr).add _).add _=_;simp[Addr.z]
 have hszr:=run_sizeOf (P:=P) (w:=w) hsz;obtain⟨row,hrow⟩ : ∃row:Array Value,row.toList=cur.toList.take (i*Rep.n α+off)++u.cells.toList++cur.toList.drop (i*Rep.n α+off+Rep.n β):=⟨(cur.toList.take (i*Rep.n α+off)++u.cells.toList++cur.toList.drop (i*Rep.n α+off+Rep.n β)).toArray,rfl⟩;have hrun':Sem.run P (storeCells ⟨gb,i*Rep.n α+off,UL⟩ u.cells.toList) w = .ok () (w.setRow gb row):=by rw[hrun];congr 2;rw[<-Array.toList_inj,hrow,hlen];rfl
 have hrsz:row.size=cap*Rep.n α:=by have:=congrArg List.length hrow;simp only[S4,Rl,RO,RQ,c2]at this;omega
 refine⟨w.setRow gb row,?_,Same.oQ rfl rfl rfl U2 hg U2 (λk _ hne=>setRow_other w gb k _ (λe=>hne e)),hk (w.setRow gb row).heap U2 ⟨by simpa using hbd,xs.take (i*Rep.n α+off)++u.cells.toList++xs.drop (i*Rep.n α+off+Rep.n β),⟨?_,.inr ⟨gb,cap,row,by simp,setRow_heap w gb cur row e _ hg,by simpa using h1,h2,?_,?_⟩⟩,?_⟩ ⟨⟨by simp,λk hk hne=>setRow_other w gb k _ (λe=>hne (by simp[Value.ownBlock,e]))⟩,.inl rfl⟩⟩
 ·simp only[bL,execOp,hx,hy,hadd];simp[Instr.storeAt,Instr.sureAddr,storeVar,hszr,c2,hrun']
 ·simp only[Rl,RO,RQ,hlen,RL];omega
 ·exact hrsz
 ·simp only[RL];rw[hrow,<-h4,Sy,Sv U1,Rn,Rn];have e1:(cur.toList.take (i*Rep.n α+off)).length=i*Rep.n α+off:=by simp;omega
  rw[SS,e1,Rq U1];congr 1;rw[SS,hlen,Rq U1];congr 1;rw[Sx];congr 1;omega
 intro j hj;simp only[RL]at hj;have hjle:j*Rep.n α+Rep.n α<=l.length*Rep.n α:=by rw[<-Nat.succ_mul];exact RC _ hj
 have e1:(xs.take (i*Rep.n α+off)).length=i*Rep.n α+off:=by simp;omega
 by_cases hij:i=j
 ·subst hij;have hset:(l.set i (s l[i] d))[i]'(by simpa using hj)=s l[i] d:=by simp
  rw[hset];have:=p.set (hel i hj) c1;have hcs:((xs.drop (i*Rep.n α)).take (Rep.n α)).length=Rep.n α:=by simp;omega
  have e3:((xs.take (i*Rep.n α+off)++u.cells.toList++xs.drop (i*Rep.n α+off+Rep.n β)).drop (i*Rep.n α)).take (Rep.n α)=((xs.drop (i*Rep.n α)).take (Rep.n α)).take off++u.cells.toList++((xs.drop (i*Rep.n α)).take (Rep.n α)).drop (off+Rep.n β):=by
   rw[Rn,Sj U1,Sx,Uq,Sy,Sv U1,Rn];have e4:((xs.drop (i*Rep.n α)).take off).length=off:=by simp;omega
   rw[SS,e4,Rq U1];congr 1;rw[SS,hlen,Rq U1];congr 1;rw[Sx,SU];rw[show i*Rep.n α+(off+Rep.n β)=i*Rep.n α+off+Rep.n β by omega,show Rep.n α-off-Rep.n β=Rep.n α-(off+Rep.n β) by omega]
  rw[e3];exact this
 have hset:(l.set i (s l[i] d))[j]'(by simpa using hj)=l[j]:=by simp[hij]
 rw[hset];have:((xs.take (i*Rep.n α+off)++u.cells.toList++xs.drop (i*Rep.n α+off+Rep.n β)).drop (j*Rep.n α)).take (Rep.n α)=(xs.drop (j*Rep.n α)).take (Rep.n α):=by
  rcases Ri j i with hlt | hge
  ·have h5:j*Rep.n α+Rep.n α<=i*Rep.n α:=by rw[<-Nat.succ_mul];exact RC _ hlt
   rw[Rn,Sj U1,RW U9,Sx,Sy,Sv U1]
  have h5:i*Rep.n α+Rep.n α<=j*Rep.n α:=by rw[<-Nat.succ_mul];exact RC _ U1
  have e2:(xs.take (i*Rep.n α+off)++u.cells.toList).length=i*Rep.n α+off+Rep.n β:=by rw[Rl,e1,hlen]
  rw[S6,RN U1,RV,e2,SU];congr 2;omega
 rw[this];exact hel j hj
abbrev Key:=Nat × Nat
structure Item where
 α:Type
 rep:Rep α
 e:TypeId
 v:Value
 l:List α
abbrev Own:=Key->Option Item
def it{α:Type}[r:Rep α](e:TypeId)(v:Value)(l:List α):Option Item:=UK ⟨α,r,e,v,l⟩
def bx{α:Type}[r:Rep α](e:TypeId)(B:Nat)(d:α):Option Item:=UK ⟨α,r,e,UM (UK ⟨B,0,UL⟩) 1 1,[d]⟩
def Own.upd(o:Own)(k:Key)(i:Option Item):Own:=λj=>if j=k then i else o j
structure Owns(W:View)(h:Heap)(o:Own):Prop where
 wle:W.le (vw h)
 own : ∀k i,o k=UK i->@OwnT i.α i.rep W h i.e i.v i.l
 av : ∀k i,o k=UK i->Av W i.v
 dj : ∀k k' i i' b,o k=UK i->o k'=UK i'->i.v.ownBlock=UK b->i'.v.ownBlock=UK b->k=k'
section
variable{W:View}{h h':Heap}{o:Own}{k:Key}
theorem Owns.congr{o':Own}(w:Owns W h o)(he : ∀k,o' k=o k):Owns W h o':=by have:o'=o:=funext he;rw[this];exact w
theorem Owns.start(hw:W.le (vw h)):Owns W h (λ_=>.none):=⟨hw,λ_ _ h=>(by cases h),λ_ _ h=>(by cases h),λ_ _ _ _ _ h=>(by cases h)⟩
theorem Owns.get[r:Rep α]{e:TypeId}{v:Value}{l:List α}(w:Owns W h o)(hk:o k=it e v l):OwnT W h e v l:=w.own k _ hk
theorem Owns.now{α:Type}[r:Rep α]{e:TypeId}{v:Value}{l:List α}(w:Owns W h o)(hk:o k=it e v l):SlRd (vw h) v l:=(w.get hk).now w.wle
theorem Owns.at{α:Type}[r:Rep α]{e:TypeId}{B:Nat}{d:α}(w:Owns W h o)(hk:o k=bx e B d):At (vw h) ⟨B,0,.none⟩ d:=by have:SlRd (vw h) (UM (UK ⟨B,0,.none⟩) 1 1) [d]:=w.now (k:=k) hk;have:=this.at (i:=0) U2;simpa[slA]using this
theorem Owns.cells{α:Type}[r:Rep α]{e:TypeId}{v:Value}{l:List α}(w:Owns W h o)(hk:o k=it e v l):v.cells = #[v]/\v.oneCell'=true:=by have:=(w.get hk).len (K:=nothing);cases v<;>first | exact⟨rfl,rfl⟩ | (simp[Un.ev,vL]at this)
theorem Owns.lt{i:Item}(w:Owns W h o)(hk:o k=UK i){b:Nat}(hb:i.v.ownBlock=UK b):b<h.size:=@OwnT.lt i.α i.rep _ _ _ _ _ (w.own k i hk) _ hb
theorem Owns.ext'(w:Owns W h o)(hle:(vw h).le (vw h')):Owns W h' o:=
 ⟨UF w.wle hle,λk i hk=>@OwnT.ext i.α i.rep _ _ _ _ _ _ (w.own k i hk) hle,w.av,w.dj⟩
theorem Owns.ext(w:Owns W h o)(hle:(vw h).le (vw h')):Owns (grow W h h') h' o:=
 ⟨kR (UF w.wle hle),λk i hk=>@OwnT.mono i.α i.rep _ _ _ _ _ (@OwnT.ext i.α i.rep _ _ _ _ _ _ (w.own k i hk) hle) _ (bo w.wle),
  λk i hk=>(w.av k i hk).grow λb hb=>w.lt hk hb,w.dj⟩
theorem Owns.Nj{W':View}(w:Owns W h o)(h1:W.le W')(h2:W'.le (vw h))(h3 : ∀k i b,o k=UK i->i.v.ownBlock=UK b->W' b = .none):Owns W' h o:=
 ⟨h2,λk i hk=>@OwnT.mono i.α i.rep _ _ _ _ _ (w.own k i hk) _ h1,λk i hk b hb=>h3 k i b hk hb,w.dj⟩
theorem Owns.sub{o':Own}(w:Owns W h o)(hs : ∀k i,o' k=UK i->o k=UK i):Owns W h o':=
 ⟨w.wle,λk i hk=>w.own k i (hs k i hk),λk i hk=>w.av k i (hs k i hk),λk k' i i' b hk hk'=>w.dj k k' i i' b (hs k i hk) (hs k' i' hk')⟩
theorem Owns.gA{i:Item}[rb:Rep β]{e2:TypeId}{v':Value}{l':List β}(w:Owns W h o)(hk:o k=UK i)(o2:OwnT W h' e2 v' l')(m:lA h h' i.v v'):Owns W h' (o.upd k (it e2 v' l')):=by
 obtain⟨w1,a1⟩:=m.view w.wle (w.av k i hk);have new : ∀(y:Item) (q:Key) (b:Nat),o q=UK y->y.v.ownBlock=UK b->v'.ownBlock=UK b->q=k:=λy q b hq hb hv=>by
  rcases m.at_ with e | e
  ·exact w.dj q k y i b hq hk hb (e▸hv)
  rw[e]at hv;simp only[Q2]at hv;have:=w.lt hq hb;omega
 refine⟨w1,λj x hj=>?_,λj x hj=>?_,λj j' x x' b hj hj' hb hb'=>?_⟩
 ·unfold Own.upd at hj;split at hj
  ·cases hj;exact o2
  rename_i hjk;refine @OwnT.kept x.α x.rep _ _ _ _ _ _ (w.own j x hj) _ m.kept ?_;cases hx:x.v.ownBlock with
  | none=>exact .inl rfl
  | some b=>exact .inr λe=>hjk (w.dj j k x i b hj hk hx e.symm)
 ·unfold Own.upd at hj;split at hj
  ·cases hj;exact a1
  exact(m.view w.wle (w.av k i hk) |>.1:_) |> λ_=>w.av j x hj
 unfold Own.upd at hj hj';split at hj
 ·rename_i a;cases hj;split at hj'
  ·rename_i c;rw[a,c]
  rw[a];exact(new x' j' b hj' hb' hb).symm
 split at hj'
 ·rename_i c;cases hj';rw[c];exact new x j b hj hb hb'
 exact w.dj j j' x x' b hj hj' hb hb'
theorem Owns.add[rb:Rep β]{e2:TypeId}{v':Value}{l':List β}(w:Owns W h o)(hk:o k = .none)(o2:OwnT W h' e2 v' l')(hle:(vw h).le (vw h'))(hb : ∀b,v'.ownBlock=UK b->h.size<=b):Owns W h' (o.upd k (it e2 v' l')):=by
 have w1:=w.ext' hle;refine⟨w1.wle,λj x hj=>?_,λj x hj=>?_,λj j' x x' b hj hj' hb1 hb2=>?_⟩
 ·unfold Own.upd at hj;split at hj
  ·cases hj;exact o2
  exact w1.own j x hj
 ·unfold Own.upd at hj;split at hj
  ·cases hj;intro b hb';exact View.b8 w.wle (hb b hb')
  exact w.av j x hj
 unfold Own.upd at hj hj';split at hj
 ·rename_i a;cases hj;split at hj'
  ·rename_i c;rw[a,c]
  have:=w.lt hj' hb2;have:=hb b hb1;omega
 split at hj'
 ·cases hj';have:=w.lt hj hb1;have:=hb b hb2;omega
 exact w.dj j j' x x' b hj hj' hb1 hb2
theorem Own.ao{i:Option Item}:o.upd k i k=i:=by simp[Own.upd]
theorem Own.aB{i:Option Item}{j:Key}(hj:j≠k):o.upd k i j=o j:=by simp[Own.upd,hj]
theorem iu[Rep β]{B:Nat}{e:TypeId}{v:Value}{d:β}(hb:h[B]? = UK (.cells v.cells e (0,0)))(hr:Rd W v d)(hn:Rep.n β<=1000):OwnT W h e (UM (UK ⟨B,0,.none⟩) 1 1) [d]:=by
 obtain⟨c1,c2,c3⟩:=fH hr;refine⟨by simp,v.cells.toList,⟨by simp[c2],.inr ⟨B,1,v.cells,rfl,hb,Q4 _,by simp[maxLen],by omega,?_⟩⟩,λi hi=>?_⟩
 ·rw[Rq];simp[c2]
 have:i=0:=by simpa using hi
 subst this;simp only[Tv,SM,SQ];rw[Rq (by simp[c2])];exact c1
section
variable{P:Program}{ty:TypeId}{us:List (Nat × Value)}{α:Type}[r:Rep α]{e:TypeId}{v:Value}{l:List α}
theorem Owns.dA{t:TypeId}{bytes:Nat}{z:Value}{x y:Operand}{u:Value}{l2:List α}{K:Value->Heap->Prop}(w:Owns W h o)(hk:o k=it e v l)(hT:eF P t e (Rep.n α) bytes z)(hx:asg us x=v)(hy:asg us y=u)
  (hs:SrcT (vw h) W u l2) (hb:(l.length+l2.length)*bytes<=140737488355328) (hb2:l.length+l2.length<=140737488355328)
  (hK : ∀v' h',Owns W h' (o.upd k (it e v' (l++l2)))->lA h h' v v'->K v' h'):@step po P (.call ⟨.builtin .append,#[x,y],#[t,t]⟩) ty us h K:=
 Lft.dA hT hx hy (w.get hk) hs hb hb2 λv' h' o2 m=>hK v' h' (w.gA hk o2 m) m
variable{bytes:Nat}
theorem Owns.gy{t ty2:TypeId}{z:Value}{x y2:Operand}{us2:Value->List (Nat × Value)}{u:Value}{d:α}{K:Value->Value->Heap->Prop}(w:Owns W h o)(hk:o k=it e v l)(hT:eF P t e (Rep.n α) bytes z)(hx:asg us x=u)(hr:Rd W u d)(hb:(l.length+1)*bytes<=140737488355328)(hb2:l.length+1<=140737488355328)(hy : ∀u,asg (us2 u) y=v)(hy2 : ∀u,asg (us2 u) y2=u)(hK : ∀u v' h',Owns W h' (o.upd k (it e v' (l++[d])))->h.size<=h'.size->K u v' h'):
  @step po P (.buildSlice t 1 #[(0,x)]) ty us h λu h2=>@step po2 P (.call ⟨.builtin .append,#[y,y2],#[t,t]⟩) ty2 (us2 u) h2 λv' h3=>K u v' h3:=by refine mC (po:=po) hT hx hr λu h2 hs hle hsz=>?_;exact(w.ext' hle).dA hk hT (hy u) (hy2 u) hs hb hb2 λv' h3 w3 m=>hK u v' h3 w3 (by have:=m.kept.size;omega)
theorem Owns.bG{t:TypeId}{x:Operand}{i:Nat}{u:Value}{d:α}(w:Owns W h o)(hk:o k=it e v l)(hsz:cU P t=UK (Rep.n α))(hx:asg us x = UN (UK ((slA v).add (i*Rep.n α))))(hy:asg us y=u)(hi:i<l.length)(hr:Rd W u d)(hK : ∀h',Owns W h' (o.upd k (it e v (l.set i d)))->h'.size>=h.size->K undef h'):@step po P (.store t x y) ty us h K:=
 tT (po:=po) hsz hx hy (w.get hk) hi hr λh' o2 m=>hK h' (w.gA hk o2 m) m.kept.size
theorem Owns.sF[Rep β]{g:α->β}{s:α->β->α}(p:Part α β off g s){t:TypeId}{x:Operand}{i:Nat}{u:Value}{d:β}(w:Owns W h o)(hk:o k=it e v l)(hsz:cU P t=UK (Rep.n β))(hx:asg us x = UN (UK (((slA v).add (i*Rep.n α)).add off)))(hy:asg us y=u)(hi:i<l.length)(hr:Rd W u d)(hK : ∀h',Owns W h' (o.upd k (it e v (l.set i (s l[i] d))))->h'.size=h.size->K undef h'):@step po P (.store t x y) ty us h K:=
 Co (po:=po) p hsz hx hy (w.get hk) hi hr λh' hs o2 m=>hK h' (w.gA hk o2 m) hs
theorem Owns.db[Rep β]{g:α->β}{s:α->β->α}(p:Part α β off g s){t:TypeId}{x:Operand}{B:Nat}{D:α}{u:Value}{d:β}(w:Owns W h o)(hk:o k=bx e B D)(hsz:cU P t=UK (Rep.n β))(hx:asg us x = UN (UK ⟨B,off,.none⟩))(hy:asg us y=u)(hr:Rd W u d)(hK : ∀h',Owns W h' (o.upd k (bx e B (s D d)))->h'.size=h.size->K undef h'):@step po P (.store t x y) ty us h K:=
 w.sF (po:=po) (v:=UM (UK ⟨B,0,.none⟩) 1 1) (l:=[D]) (i:=0) p hk hsz (by rw[hx];simp[slA,Addr.z]) hy U2 hr λh' w' hs=>hK h' w' hs
end
end
theorem yG{h0 h1 h2 h3:Heap}(hs:h0.size<=h1.size)(hle:(vw h2).le (vw h3)):(fresh h1 h2).le (grow W h0 h3):=λb o hb=>by
 unfold fresh at hb;split at hb
 ·cases hb
 unfold grow;rw[if_neg U1];exact hle b o hb
theorem HE{h0 h1 h2:Heap}(hle:(vw h1).le (vw h2)):(grow W h0 h1).le (grow W h0 h2):=λb o hb=>by
 unfold grow at hb ⊢;split
 ·rename_i hlt;rw[if_pos hlt]at hb;exact hb
 rename_i hlt;rw[if_neg hlt]at hb;exact hle b o hb
theorem bY{h0 h1:Heap}{b:Nat}(hb:h0.size<=b):grow W h0 h1 b=h1[b]?:=by unfold grow;rw[if_neg U1]
def View.plus(W:View)(v:Value)(h:Heap):View:=λb=>if v.ownBlock=UK b then h[b]? else W b
theorem gU{v:Value}{h:Heap}(ha:Av W v):W.le (W.plus v h):=λb o hb=>by
 unfold View.plus;split
 ·rename_i e;rw[ha b e]at hb;cases hb
 exact hb
theorem My{v:Value}{h:Heap}(hw:W.le (vw h)):(W.plus v h).le (vw h):=λb o hb=>by
 unfold View.plus at hb;split at hb
 ·exact hb
 exact hw b o hb
theorem Owns.freeze{h:Heap}{o:Own}{k:Key}[r:Rep α]{e:TypeId}{v:Value}{l:List α}(w:Owns W h o)(hk:o k=it e v l):Owns (W.plus v h) h (o.upd k .none)/\SlRd (W.plus v h) v l:=by
 have ha:Av W v:=w.av k _ hk;constructor
 ·refine(w.sub (o':=o.upd k .none) λj i hj=>?_).Nj (gU ha) (My w.wle) λj i b hj hb=>?_
  ·unfold Own.upd at hj;split at hj
   ·cases hj
   exact hj
  unfold Own.upd at hj;split at hj
  ·cases hj
  rename_i hjk;unfold View.plus;rw[if_neg]
  ·exact w.av j i hj b hb
  intro e2;exact hjk (w.dj j k i _ b hj hk hb e2)
 refine(w.get hk).rd (gU ha) λb hb=>?_;unfold View.plus;rw[if_pos hb]
variable{bytes:Nat}
theorem pU[Rep α]{P:Program}{t e:TypeId}{z:Value}{ty:TypeId}{us:List (Nat × Value)}{h:Heap}(hT:eF P t e (Rep.n α) bytes z)(hk : ∀h',(vw h).le (vw h')->h'.size=h.size+1->(∀W,OwnT (α:=α) W h' e (UM (UK ⟨h.size,0,UL⟩) 0 0) [])->K (UM (UK ⟨h.size,0,UL⟩) 0 0) h'):@step po P (.buildSlice t 0 #[]) ty us h K:=by refine ti (n:=0) (size:=Rep.n α) (vs:=[]) (cs:=#[]) hT U1 U2 (by simp only[Instr.fill,Tv];rw[show Array.range 0 = #[] by simp[Array.range_zero'],Array.map_empty]) (hk _ (bQ _ _) U2 λW=>⟨by simp,[],⟨by simp,.inr ⟨h.size,0,#[],rfl,by simp,Q4 _,by simp[maxLen],by simp,by simp⟩⟩,λi hi=>by simp at hi⟩)
theorem Mine.empty[Rep α]{V:View}{h0 h h':Heap}{e:TypeId}(hle:(vw h0).le (vw h))(hle2:(vw h).le (vw h'))(hW:W.le (vw h))(ho:Old V h0 W)(own : ∀W,OwnT (α:=α) W h' e (UM (UK ⟨h.size,0,UL⟩) 0 0) []):Mine (α:=α) V h0 h' W e (UM (UK ⟨h.size,0,UL⟩) 0 0) []:=
 ⟨UF hle hle2,UF hW hle2,λb hb=>by cases hb;exact View.b8 hW (Q4 _),λb hb=>by cases hb;exact View.b8 hle (Q4 _),ho,own W⟩
theorem Owns.atW{h:Heap}{o:Own}{k:Key}[r:Rep α]{e:TypeId}{B:Nat}{d:α}(w:Owns W h o)(hk:o k=bx e B d): ∃cs,gE (vw h) ⟨B,0,UL⟩ cs/\Rep.rd W cs d:=by
 obtain⟨hb,xs,⟨hl,hown⟩,hel⟩:=w.get (k:=k) (v:=UM (UK ⟨B,0,UL⟩) 1 1) (l:=[d]) hk;have h0:=hel 0 U2;simp only[Tv,SM,SQ,RI,Uk]at h0 hl;rw[Rq U1]at h0;rcases hown with⟨h1,_⟩ | ⟨g,cap,cur,h1,h2,h3,h4,h5,h6⟩
 ·cases h1
 simp only[Value.slice.injEq,Q2,Addr.mk.injEq]at h1;obtain⟨⟨rfl,_⟩,_⟩:=h1;refine⟨xs,⟨cur,e,(0,0),rfl,h2,?_⟩,h0⟩;rw[hl,SM];simpa using h6
theorem Owns.zE{h:Heap}{o:Own}{k:Key}{P:Program}{ty:TypeId}{us:List (Nat × Value)}[r:Rep α]{e:TypeId}{v:Value}{l:List α}{t ty2:TypeId}{z:Value}{x y2:Operand}{us2:Value->List (Nat × Value)}{u:Value}{d:α}{K:Value->Value->Heap->Prop}(w:Owns W h o)(hk:o k=it e v l)(hT:eF P t e (Rep.n α) bytes z)(hx:asg us x=u)(hr:Rd W u d)(hb:(l.length+1)*bytes<=140737488355328)(hb2:l.length+1<=140737488355328)(hy : ∀u,asg (us2 u) y=v)(hy2 : ∀u,asg (us2 u) y2=u)(hK : ∀u v' h',Owns W h' (o.upd k (it e v' (l++[d])))->(∀X:View,X.le (vw h)->Av X v->X.le (vw h')/\Av X v')->K u v' h'):
  @step po P (.buildSlice t 1 #[(0,x)]) ty us h λu h2=>@step po2 P (.call ⟨.builtin .append,#[y,y2],#[t,t]⟩) ty2 (us2 u) h2 λv' h3=>K u v' h3:=by refine mC (po:=po) hT hx hr λu h2 hs hle hsz=>?_;exact(w.ext' hle).dA hk hT (hy u) (hy2 u) hs hb hb2 λv' h3 w3 m=>hK u v' h3 w3 λX hX hA=>m.view (UF hX hle) hA
theorem Owns.pL{h:Heap}{o:Own}{k:Key}{P:Program}{ty:TypeId}{us:List (Nat × Value)}[r:Rep α][Rep β]{e:TypeId}{g:α->β}{s:α->β->α}(p:Part α β off g s){t:TypeId}{x:Operand}{B:Nat}{D:α}{u:Value}{d:β}(w:Owns W h o)(hk:o k=bx e B D)(hsz:cU P t=UK (Rep.n β))(hx:asg us x = UN (UK ⟨B,off,.none⟩))(hy:asg us y=u)(hr:Rd W u d)(hK : ∀h',Owns W h' (o.upd k (bx e B (s D d)))->(∀X:View,X.le (vw h)->X B = .none->X.le (vw h'))->K undef h'):@step po P (.store t x y) ty us h K:=
 Co (po:=po) p (v:=UM (UK ⟨B,0,.none⟩) 1 1) (l:=[D]) (i:=0) hsz (by rw[hx];simp[slA,Addr.z]) hy (w.get (k:=k) (v:=UM (UK ⟨B,0,.none⟩) 1 1) (l:=[D]) hk) U2 hr λh' hs o2 m=>hK h' (w.gA hk o2 m) λX hX hB=>(m.view hX λb hb=>by simp only[Value.ownBlock,Q2]at hb;subst hb;exact hB).1
theorem aQ{P:Program}{c:E}{kill:List Nat}{x y:LC}{Q:Post}{ρ:Env}{h:Heap}(hc:ev (look ρ) (vw h) c=UK (.bool UO))(hx:x.wp P Q (cJ ρ kill) h):LC.wp P (.cond c kill x y) Q ρ h:=by rw[nB,hc,Fj];exact hx
theorem bg{P:Program}{c:E}{kill:List Nat}{x y:LC}{Q:Post}{ρ:Env}{h:Heap}(hc:ev (look ρ) (vw h) c=UK (.bool UP))(hy:y.wp P Q (cJ ρ kill) h):LC.wp P (.cond c kill x y) Q ρ h:=by rw[nB,hc,EK];exact hy
end
structure Th where
 blk:Int
 place:Int
 mks:List Int
 tks:List Int
 deriving Inhabited
def phiT(f:ak)(b i:Nat):Th:=⟨b,-1-i,[(nth (nth f.blocks b).phis i).dst],(nth (nth f.blocks b).phis i).ins.map InD.val⟩
def insT(f:ak)(b i:Nat):Th:=⟨b,i,cO (nth (nth f.blocks b).ins i),(nth (nth f.blocks b).ins i).args⟩
def endT(f:ak)(b:Nat):Th:=⟨b,(nth f.blocks b).ins.length,[],(nth f.blocks b).term.args⟩
def thB(f:ak)(b:Nat):List Th:=rows (phiT f b) (nth f.blocks b).phis.length++rows (insT f b) (nth f.blocks b).ins.length++[endT f b]
def thTo(f:ak)(n:Nat):List Th:=up (λb l=>l++thB f b) n []
def aD(f:ak):List Th:=thTo f f.blocks.length
theorem iB{f:ak}{n:Nat}:thTo f (n+1)=thTo f n++thB f n:=rfl
theorem KW{f:ak}{n m:Nat}(h:n<=m):thTo f n <+: thTo f m:=by
 induction m with
 | zero=>rw[show n=0 by omega];exact S7 _
 | succ m ih=>
  rcases Ri n (m+1)with h1 | h1
  ·exact(ih U1).trans ⟨_,iB.symm⟩
  rw[show n=m+1 by omega];exact S7 _
theorem Dc{β:Type}{x:Nat->β}{n m:Nat}(h:n<=m):rows x n <+: rows x m:=by
 induction m with
 | zero=>rw[show n=0 by omega];exact S7 _
 | succ m ih=>
  rcases Ri n (m+1)with h1 | h1
  ·exact(ih U1).trans ⟨_,fB.symm⟩
  rw[show n=m+1 by omega];exact S7 _
theorem CG{α:Type}{a b c:List α}(h:b <+: c):a++b <+: a++c:=by obtain⟨t,rfl⟩:=h;exact⟨t,by simp⟩
structure ThJ(J:List Th->View->Heap->Prop):Prop where
 le : ∀{l W h},J l W h->W.le (vw h)
 ext : ∀{l W h h'},J l W h->(vw h).le (vw h')->J l (grow W h h') h'
theorem AQ{f:ak}{v:Value}{h:Heap}{V:View}{gf:Nat}{caps:List Value}{J:List Th->View->Heap->Prop}(hv:Rd V v f)(hsm:SmF f)(hJ:ThJ J)(hg:isFn UQ gf=UO)(h0:J [] V h)(hstep : ∀(l:List Th) (t:Th) (W:View) (h1:Heap) (vm vt:Value),V.le W->l++[t] <+: aD f->J l W h1->SlRd W vm t.mks->SlRd W vt t.tks->ay UQ gf (UH UI t.blk::UH UI t.place::vm::vt::caps).toArray h1 (λ_ h2=>J (l++[t]) W h2)):
  ay UQ 94 #[v,.func (.func gf) #[] caps.toArray] h (λ_ h'=>∃W,V.le W/\J (aD f) W h'):=by
 refine aq (args:=[v,.func (.func gf) #[] caps.toArray]) follows Tryz.func94 E.bJ UC λK hK=>?_;dsimp only[L.bJ,lkF,lkG];refine aa λz hz=>?_;simp;refine fT rfl (hv.mono (hJ.le h0)) λh1 e1 hle1 hs1 hat=>?_;have j1:=hJ.ext h0 hle1;obtain⟨cp,vb,cb⟩:=eU hat;have hvb:SlRd V vb f.blocks:=by
  obtain⟨u,hu,hur⟩:=hv.Qf ak.rY rfl rfl (K:=vw h);have e:vb=u:=by
   have hv' : ∃cs:Array Value,v = .agg cs/\Rep.rd V cs.toList f:=hv;obtain⟨cs,rfl,hcs⟩:=hv';have hb:h1[h.size]? = UK (.cells cs T.gx (0,0)):=by rw[e1];simp
   have h3:an (vw h1) ⟨h.size,1,UL⟩=cs[1]?:=by simp[an,vw,hb]
   simp at hu;rw[cb.1]at h3;rw[hu]at h3;exact Option.some.inj h3
  rw[e];exact dD.1 hur
 have hVW:V.le (grow V h h1):=bo (hJ.le h0);generalize grow V h h1=W1 at j1 hVW;generalize h.size=B at cb;have hbb:=cb.2.bound;subst hz;simp[cb.1,cb.2.len];refine aG [1,14,15,16] (fun(_:Unit) b=>[.func (.func gf) #[] caps.toArray,vb,UH UI f.blocks.length,UH UI b]) (λ_ b h2=>∃W,V.le W/\J (thTo f b) W h2) f.blocks.length ()
  rfl U1 rfl ⟨W1,hVW,j1⟩ (λ_ _=>rfl) (λv i h1 hk m=>by simp) ?_ ?_
 ·rintro _ b h2 hltb ⟨W2,hW2,j2⟩ K2 hK2;have hvb2:=hvb.mono (UF hW2 (hJ.le j2));obtain⟨u,hu,hur⟩:=(hvb.mono hW2).wh rfl (N:=6) rfl hltb;refine aa λz hz=>?_;simp(disch:=omega)[hvb2.idxn (N:=6) rfl,hu _ (hJ.le j2)];refine dw (X:=W2) (z:=zz3) U0 rfl U0 hur U5 U5 λh3 hle3 hsz3 hat3=>?_;have j3:=hJ.ext j2 hle3;have hat3':=hat3 (grow W2 h2 h3) (bo (hJ.le j2)) (by unfold grow;rw[if_neg U1]);obtain⟨vp,vi,va,vt,bp,bi,bk,ba,bt⟩:=iK hat3';have hVW3:=UF hW2 (bo (h':=h3) (hJ.le j2));generalize grow W2 h2 h3=W3 at j3 hVW3 bp bi bk ba bt;generalize h2.size=D at bp bi bk ba bt;have hpre:thTo f b++thB f b <+: aD f:=by rw[<-iB];exact KW hltb
  subst hz;have bph:=bp.2.bound;have bih:=bi.2.bound;refine aa λz hz=>?_;simp[ae (hJ.le j3) bp.1,bp.2.len];refine aG [1,4,5,14,15,16,22,23,24] (fun(_:Unit) i=>[.func (.func gf) #[] caps.toArray,UH UI b,ptz D,vb,UH UI f.blocks.length,UH UI b,vp,UH UI (nth f.blocks b).phis.length,UH UI i])
   (λ_ i h4=>∃W,W3.le W/\J (thTo f b++rows (phiT f b) i) W h4) (nth f.blocks b).phis.length ()
   rfl U1 rfl ⟨W3,View.le_refl _,by simpa using j3⟩ (λ_ _=>rfl) (λv i h1 hk m=>by simp) ?_ ?_
  ·rintro _ i h4 hlti ⟨W4,hW4,j4⟩ K3 hK3;have bp4:=bp.2.mono (UF hW4 (hJ.le j4));obtain⟨u4,hu4,hur4⟩:=bp4.wh rfl (N:=2) rfl hlti;refine aa λy hy=>?_;simp(disch:=omega)[bp4.idxn (N:=2) rfl,hu4 _ UE];refine dw (z:=zz4) U0 rfl U0 hur4 U5 U5 λh5 hle5 hsz5 hat5=>?_;obtain⟨c0,vq,cq⟩:=yt (hat5 (vw h5) hle5 rfl);have rd:=((hat5 (vw h5) hle5 rfl).part PhiD.gm).rng;have hpl:=(hsm.blk b hltb).phi i hlti;have hpt:phiT f b i=⟨b,-1-i,[(nth (nth f.blocks b).phis i).dst],(nth (nth f.blocks b).phis i).ins.map InD.val⟩:=rfl;generalize nth (nth f.blocks b).phis i=x at c0 cq rd hpt hpl;generalize h4.size=D4 at c0 cq;have bq:=cq.2.bound;subst hy;refine aa λy hy=>?_;simp;subst hy;refine aa λy hy=>?_;simp[cq.1,cq.2.len];refine aG [1,4,5,6,7,8,14,15,16,22,23,24,30,31,32] (fun(r:Value) j=>[.func (.func gf) #[] caps.toArray,UH UI b,ptz D,UH UI i,ptz D4,r,vb,UH UI f.blocks.length,UH UI b,vp,UH UI (nth f.blocks b).phis.length,UH UI i,vq,UH UI x.ins.length,UH UI j])
    (λr j h6=>Mine nothing h5 h6 nothing T.int r ((x.ins.map InD.val).take j)) x.ins.length (UM UL 0 0)
    rfl U1 rfl (Mine.start cW) (λ_ _=>rfl) (λv i h1 hk m=>by simp) ?_ ?_
   ·rintro r j h6 hltj m6 K4 hK4;have cq6:=cq.2.mono m6.old;obtain⟨u6,hu6,hur6⟩:=cq6.wh rfl (N:=2) rfl hltj;refine aa λq hq=>?_;simp(disch:=omega)[cq6.idxn (N:=2) rfl,hu6 _ UE];refine dw (z:=zz1) U0 rfl U0 hur6 U5 U5 λh7 hle7 hsz7 hat7=>?_;have e1:=(Ff (hat7 (vw h7) hle7 rfl)).2;have rv:=((hat7 (vw h7) hle7 rfl).part InD.BB).rng;generalize h6.size=D6 at e1;subst hq;simp[e1];have hl8:((x.ins.map InD.val).take j).length=j:=by simp;omega
    refine(m6.ext' hle7).push (d:=(nth x.ins j).val) El.aY (by simp<;>rfl) (rB rv.1 rv.2) U1 U1 U5 U5 λu8 v8 h8 m8=>?_;refine hK4 v8 _ _ rfl rfl ?_;rw[To,SH,RK hltj];rw[aC hltj]at m8;exact m8
   rintro r h6 m6;rw[Rq U2]at m6;simp;subst hy;simp(disch:=omega)[ae m6.old c0];refine mY (X:=nothing) (ds:=[x.dst]) (vs:=[UH UI x.dst]) rfl El.aY U2 ⟨bw.2 ⟨rfl,rd⟩,trivial⟩ cW rfl U1 λu7 h7 hle7 hsz7 hu7 _=>?_;have hle47:=UF hle5 (UF m6.old hle7);have j7:=hJ.ext j4 hle47;have hW7:=UF hW4 (bo (h':=h7) (hJ.le j4));have pre:(thTo f b++rows (phiT f b) i)++[phiT f b i] <+: aD f:=by rw[Rn,<-fB];exact(CG ((Dc hlti).trans ⟨_,(Rn ..).symm⟩)).trans hpre
   rw[hpt]at pre;refine bZ (ops:=[.tmp 43,.tmp 45,.tmp 48,.tmp 49]) rfl hg (hstep _ ⟨b,-1-i,[x.dst],x.ins.map InD.val⟩ _ h7 u7 r (UF hVW3 hW7) pre j7 (hu7 _ cW (bY (by have:=bO hle5;have:=bO m6.old;omega))) (m6.fresh.mono (yG (bO hle5) hle7))) ?_;rintro _ h8 j8;exact hK3 () _ _ rfl rfl ⟨_,hW7,by rw[fB,<-List.append_assoc,hpt];exact j8⟩
  rintro _ h4 ⟨W4,hW4,j4⟩;simp;subst hz;refine aa λz hz=>?_;have hW4h:=UF hW4 (hJ.le j4);simp[ae hW4h bi.1,(bi.2.mono hW4h).len];refine aG [1,4,5,14,15,16,53,54,55] (fun(_:Unit) i=>[.func (.func gf) #[] caps.toArray,UH UI b,ptz D,vb,UH UI f.blocks.length,UH UI b,vi,UH UI (nth f.blocks b).ins.length,UH UI i])
   (λ_ i h5=>∃W,W3.le W/\J (thTo f b++rows (phiT f b) (nth f.blocks b).phis.length++rows (insT f b) i) W h5) (nth f.blocks b).ins.length ()
   rfl U1 rfl ⟨W4,hW4,by simpa using j4⟩ (λ_ _=>rfl) (λv i h1 hk m=>by simp) ?_ ?_
  ·rintro _ i h5 hlti ⟨W5,hW5,j5⟩ K3 hK3;have bi5:=bi.2.mono (UF hW5 (hJ.le j5));obtain⟨u5,hu5,hur5⟩:=(bi.2.mono hW5).wh rfl (N:=5) rfl hlti;refine aa λy hy=>?_;simp(disch:=omega)[bi5.idxn (N:=5) rfl,hu5 _ (hJ.le j5)];refine dw (z:=zz5) U0 rfl U0 hur5 U5 U5 λh6 hle6 hsz6 hat6=>?_;have hatg:=hat6 (grow W5 h5 h6) (bo (hJ.le j5)) (bY (Q4 _));have hat6':=hatg.mono (kR (UF (hJ.le j5) hle6));obtain⟨_,_,_,vq,cq⟩:=mT hatg;obtain⟨w,w1,w2⟩:=hat6'.bM rfl;have w1:Un.ev (vw h6) (.bM 5) (ptz h5.size)=UK w:=w1;have hpt:insT f b i=⟨b,i,cO (nth (nth f.blocks b).ins i),(nth (nth f.blocks b).ins i).args⟩:=rfl;generalize nth (nth f.blocks b).ins i=x at cq w2 hpt;generalize h5.size=D5 at cq w1;subst hy;have hg6:(grow W5 h5 h6).le (vw h6):=kR (UF (hJ.le j5) hle6);refine aK (vw h6) UE ?_;simp[ae hg6 cq.1,w1];refine ah U0 (DS w2) ?_;rintro u7 h7 ⟨hle7,hu7⟩;refine⟨hle7,?_⟩;have hle57:=UF hle6 hle7;have j7:=hJ.ext j5 hle57;have hW7:=UF hW5 (bo (h':=h7) (hJ.le j5));have pre:(thTo f b++rows (phiT f b) (nth f.blocks b).phis.length++rows (insT f b) i)++[insT f b i] <+: aD f:=by rw[Rn,<-fB,Rn];refine(CG ?_).trans hpre;exact(CG (Dc hlti)).trans ⟨_,rfl⟩
   rw[hpt]at pre;refine bZ (ops:=[.tmp 61,.tmp 62,.tmp 64,.tmp 66]) rfl hg (hstep _ ⟨b,i,cO x,x.args⟩ _ h7 u7 vq (UF hVW3 hW7) pre j7 (hu7.mono (yG (bO hle6) UE)) (cq.2.mono (HE hle7))) ?_;rintro _ h8 j8;exact hK3 () _ _ rfl rfl ⟨_,hW7,by rw[fB,<-List.append_assoc,hpt];exact j8⟩
  rintro _ h5 ⟨W5,hW5,j5⟩;simp;subst hz;have hW5h:=UF hW5 (hJ.le j5);simp[ae hW5h bi.1,(bi.2.mono hW5h).len,ae hW5h ba.1];have pre:(thTo f b++rows (phiT f b) (nth f.blocks b).phis.length++rows (insT f b) (nth f.blocks b).ins.length)++[endT f b] <+: aD f:=by rw[Rn,Rn,<-List.append_assoc (rows _ _)];exact hpre
  refine bZ (ops:=[.tmp 70,.tmp 73,.const (UM UL 0 0),.tmp 76]) rfl hg (hstep _ ⟨b,(nth f.blocks b).ins.length,[],(nth f.blocks b).term.args⟩ _ h5 (UM UL 0 0) va (UF hVW3 hW5) pre j5 aS (ba.2.mono hW5)) ?_;rintro _ h6 j6;refine hK2 () _ _ rfl rfl ⟨_,UF hVW3 hW5,?_⟩;have e:thTo f (b+1)=(thTo f b++rows (phiT f b) (nth f.blocks b).phis.length++rows (insT f b) (nth f.blocks b).ins.length)++[endT f b]:=by rw[iB,thB];simp[Rn]
  rw[e];exact j6
 rintro _ h2 ⟨W2,hW2,j2⟩;simp;exact hK _ _ ⟨W2,hW2,j2⟩
def ju(top n:Int):Int:=if cu n 0 8191 then(if top<n+1 then n+1 else top) else top
def CW(top:Int)(t:Th):Int:=t.mks.foldl ju top
def oK(ps:Int):Int:=if 8192<(if ps<0 then 0 else ps) then 8192 else(if ps<0 then 0 else ps)
def topS(f:ak):Int:=(aD f).foldl CW (oK f.params)
theorem yy{top n:Int}(h:0<=top/\top<=8192):0<=ju top n/\ju top n<=8192:=by
 unfold ju;split
 ·rename_i hw;simp only[cu,Q9,decide_eq_true_eq]at hw;split<;>omega
 exact h
theorem kH{α β:Type}(I:β->Prop){f:β->α->β}(hf : ∀x a,I x->I (f x a)) : ∀(l:List α) (x:β),I x->I (l.foldl f x)
 | [],_,h=>h
 | a::l,x,h=>kH I hf l _ (hf x a h)
theorem Dv{top:Int}{t:Th}(h:0<=top/\top<=8192):0<=CW top t/\CW top t<=8192:=kH (λx=>0<=x/\x<=8192) (λ_ _ h=>yy h) _ _ h
theorem y7{ps:Int}:0<=oK ps/\oK ps<=8192:=by unfold oK;split<;>split<;>omega
theorem GM{f:ak}:0<=topS f/\topS f<=8192:=kH (λx=>0<=x/\x<=8192) (λ_ _ h=>Dv h) _ _ y7
structure Nv(D:Nat)(T:TypeId)(x:Int)(W:View)(h:Heap):Prop where
 le:W.le (vw h)
 av:W D=UL
 cell:h[D]? = UK (.cells #[UH UI x] T (0,0))
theorem Nv.lt{D:Nat}{T:TypeId}{x:Int}{W:View}{h:Heap}(k:Nv D T x W h):D<h.size:=(Rk.1 k.cell).1
theorem Nv.ext{D:Nat}{T:TypeId}{x:Int}{W:View}{h h':Heap}(k:Nv D T x W h)(hle:(vw h).le (vw h')):Nv D T x (grow W h h') h':=
 ⟨kR (UF k.le hle),by rw[gP k.lt];exact k.av,hle _ _ k.cell⟩
variable{W:View}
theorem Nv.read{D:Nat}{T:TypeId}{x:Int}{h:Heap}(k:Nv D T x W h):an (vw h) ⟨D,0,UL⟩=UK (UH UI x):=dg (show vw h D=_ from k.cell) rfl
theorem Nv.put{po:OP}{P:Program}{t ty:TypeId}{x y:Operand}{us:List (Nat × Value)}{D:Nat}{T:TypeId}{a b:Int}{h:Heap}{K:Value->Heap->Prop}(k:Nv D T a W h)(hsz:cU P t=UK 1)(hx:asg us x = ptz D)(hy:asg us y = UH UI b)(hK : ∀h',Nv D T b W h'->K undef h'):Lft.step P (.store t x y) ty us h K:=by
 refine eh (g:=D) (o:=0) (n:=1) (v:=UH UI b) hsz hx hy rfl U7 k.cell U2 λh' hs ⟨row,hr,he⟩ ho=>hK h' ⟨λc o hc=>?_,k.av,?_⟩
 ·have hne:c≠D:=λe=>by rw[e,k.av]at hc;cases hc
  show h'[c]? = _;rw[ho c hne];exact k.le c o hc
 rw[one_cell rfl rfl he]at hr;exact hr
theorem LD{D:Nat}{x blk place:Int}{ms:List Int}{vm vt:Value}{h:Heap}(k:Nv D T.int x W h)(hx:0<=x/\x<=8192)(hm:SlRd W vm ms):
  ay UQ 95 #[UH UI blk,UH UI place,vm,vt,ptz D] h (λ_ h2=>Nv D T.int (ms.foldl ju x) W h2):=by
 refine aq (args:=[UH UI blk,UH UI place,vm,vt,ptz D]) follows Tryz.func95 E.eH UC λK hK=>?_;have bm:=hm.bound;simp[L.eH,(hm.mono k.le).len];refine aG [4,11,12,13] (fun(_:Unit) i=>[ptz D,vm,UH UI ms.length,UH UI i]) (λ_ i h1=>Nv D T.int ((ms.take i).foldl ju x) W h1) ms.length ()
  rfl U1 rfl k (λ_ _=>rfl) (λv i h1 hk m=>by simp) ?_ ?_
 ·rintro _ i h1 hlt k1 K2 hK2;have hm1:=hm.mono k1.le;have hst:(ms.take (i+1)).foldl ju x=ju ((ms.take i).foldl ju x) (nth ms i):=by rw[Rr hlt,Si,aC hlt];rfl
  have hb:=kH (f:=ju) (λx=>0<=x/\x<=8192) (λ_ _ h=>yy h) (ms.take i) x hx;generalize (ms.take i).foldl ju x=y at k1 hst hb;refine aa λz hz=>?_;simp(disch:=omega)[hm1.idx1 rfl,hm1.int UE];subst hz;refine aa λz hz=>?_;simp;refine ah U0 kK ?_;rintro _ _ ⟨rfl,rfl⟩;subst hz;cases hw:cu (nth ms i) 0 8191 with
  | false=>simp;exact hK2 () _ _ rfl rfl (by rw[hst,ju,hw];exact k1)
  | true=>have hw':=hw;simp only[cu,Q9,decide_eq_true_eq]at hw';simp(disch:=omega)[k1.read];refine k1.put U0 rfl rfl λh2 k2=>?_;exact hK2 () _ _ rfl rfl (by rw[hst,ju,hw];exact k2)
 rintro _ h1 k1;rw[RR]at k1;simp;exact hK _ _ k1
theorem Of{f:ak}{v:Value}{h:Heap}(hv:Rd (vw h) v f)(hsm:SmF f):ay UQ 47 #[v] h (λu h'=>u = UH UI (topS f)/\(vw h).le (vw h')):=by
 refine aq (args:=[v]) follows Tryz.func47 E.s9 UC λK hK=>?_;dsimp only[L.s9,lkF,lkG];refine aa λz hz=>?_;simp;refine fT rfl hv λh1 e1 hle1 hs1 hat=>?_;obtain⟨cp,vb,cb⟩:=eU hat;obtain⟨u,hu,hur⟩:=hat.bM rfl;have hu:Un.ev (vw h1) (.bM 2) (ptz h.size)=UK u:=hu;generalize h.size=B at cp cb hu;subst hz;refine aa λz hz=>?_;simp[cp];refine fO (n:=1) (z:=UH UI 0) (v:=UH UI (oK f.params)) U0 rfl U0 rfl U7 U5 (λ_=>by simp[oK]) λh2 hle2 hs2 hb2=>?_;have hu2:Un.ev (vw h2) (.bM 2) (ptz B)=UK u:=by have:=ed (ρ:=λ_=>UL) (e:=.un (.bM 2) (.con (ptz B))) hle2 (v:=u) (by simpa using hu);simpa using this
 subst hz;refine aa λz hz=>?_;simp[hu2];have hN:Nv h1.size T.int (oK f.params) (vw h1) h2:=⟨hle2,by simp[vw],hb2⟩;refine ah U0 (AQ (caps:=[ptz h1.size]) (J:=λl W h=>Nv h1.size T.int (l.foldl CW (oK f.params)) W h) hur hsm ⟨λk=>k.le,λk hle=>k.ext hle⟩ U0 hN λl t W h3 vm vt hVW _ k hm ht=>?_) ?_
 ·have:=kH (f:=CW) (λx=>0<=x/\x<=8192) (λ_ _ h=>Dv h) l _ (y7 (ps:=f.params));refine(LD k this hm).mono λ_ h4 k4=>?_;rw[Si];exact k4
 rintro _ h3 ⟨W,hVW,k⟩;subst hz;simp[k.read];exact hK _ _ ⟨rfl,UF hle1 (UF hVW k.le)⟩
theorem I1{β:Type}{x:Nat->β}{n:Nat}{y:β}:y∈rows x n↔∃i,i<n/\y=x i:=by simp only[rows,Sf,SG];exact⟨λ⟨i,h,e⟩=>⟨i,h,e.symm⟩,λ⟨i,h,e⟩=>⟨i,h,e.symm⟩⟩
theorem jJ{f:ak}{n:Nat}{t:Th}:t∈thTo f n↔∃b,b<n/\t∈thB f b:=by
 induction n with
 | zero=>simp[thTo,up]
 | succ n ih=>
  rw[iB,Rj,ih];constructor
  ·rintro(⟨b,h1,h2⟩ | h)
   ·exact⟨b,by omega,h2⟩
   exact⟨n,by omega,h⟩
  rintro⟨b,h1,h2⟩;rcases Ri b n with h | h
  ·exact .inl ⟨b,h,h2⟩
  rw[show b=n by omega]at h2;exact .inr h2
theorem ma{f:ak}{b:Nat}{t:Th}:t∈thB f b↔(∃i,i<(nth f.blocks b).phis.length/\t=phiT f b i)\/(∃i,i<(nth f.blocks b).ins.length/\t=insT f b i)\/t=endT f b:=by simp only[thB,Rj,I1,Q8,or_assoc]
theorem FI{i:InsD}:(cO i).length<=2:=by unfold cO;split<;>(try split)<;>simp
structure ThOk(f:ak)(t:Th):Prop where
 blk:0<=t.blk/\t.blk<f.blocks.length
 place:-10000<=t.place/\t.place<=10000
 mks:t.mks.length<=10000
 tks:t.tks.length<=10000
 ins:0<=t.place->t.mks≠[]->t.place<(nth f.blocks t.blk.toNat).ins.length
theorem DV{f:ak}(hsm:SmF f){t:Th}(h:t∈aD f):ThOk f t:=by
 obtain⟨b,hb,h⟩:=jJ.1 h;have s:=hsm.blk b hb;have sp:=s.phis;have si:=s.ins;rcases ma.1 h with⟨i,hi,rfl⟩ | ⟨i,hi,rfl⟩ | rfl
 ·exact⟨⟨by simp[phiT],by simp[phiT];omega⟩,by simp only[phiT];omega,by simp[phiT],by simpa[phiT]using s.phi i hi,λh=>by simp only[phiT]at h;omega⟩
 ·refine⟨⟨by simp[insT],by simp[insT];omega⟩,by simp only[insT];omega,Rt FI U3,s.inn i hi,λ_ _=>by simp[insT];omega⟩
 exact⟨⟨by simp[endT],by simp[endT];omega⟩,by simp only[endT];omega,by simp[endT],s.args,λ_ h=>absurd rfl h⟩
theorem yZ{f:ak}(hsm:SmF f) : ∀{n:Nat},n<=f.blocks.length->(thTo f n).length<=n*20001
 | 0,_=>by simp[thTo,up]
 | n+1,h=>by have ih:=yZ hsm (n:=n) U1;have s:=hsm.blk n U1;have sp:=s.phis;have si:=s.ins;rw[iB,Rl,thB];simp only[Rl,pG,RI];omega
theorem Fu{f:ak}(hsm:SmF f):(aD f).length<=200010000:=by have:=yZ hsm (Q4 f.blocks.length);have:=hsm.len;unfold aD;omega
abbrev WL:=List (Int × Int)
def cy(val:Int)(w:Int × Int)(l:WL)(n:Int):WL:=if n=val then l++[w] else l
def B0(val:Int)(l:WL)(t:Th):WL:=t.mks.foldl (cy val (t.blk,t.place)) l
def tj(val:Int)(l:WL)(t:Th):WL:=t.tks.foldl (cy val (t.blk,t.place)) l
variable{val:Int}
theorem lV{w:Int × Int}{ns:List Int}: ∀{l:WL},(ns.foldl (cy val w) l).length<=l.length+ns.length:=by
 induction ns with
 | nil=>simp
 | cons n ns ih=>
  intro l;rw[RG];have:=ih (l:=cy val w l n);have h2:(cy val w l n).length<=l.length+1:=by unfold cy;split<;>simp
  simp only[RZ];omega
theorem zL{F:WL->Th->WL}{c:Nat}{l:List Th}(h : ∀t∈l,∀x,(F x t).length<=x.length+c): ∀(x:WL),(l.foldl F x).length<=x.length+l.length*c:=by
 induction l with
 | nil=>simp
 | cons t l ih=>intro x;rw[RG];have h1:=ih (λt ht=>h t (Q7 _ ht)) (F x t);have h2:=h t (Rm ..) x;simp only[RZ,Sb];omega
def uz(B1:Nat)(v1:Value)(l1:WL)(B2:Nat)(v2:Value)(l2:WL):Own:=λk=>if k=(0,0) then bx T.bW B1 (Raw.mk v1) else if k=(0,1) then it T.kG v1 l1 else if k=(1,0) then bx T.bW B2 (Raw.mk v2) else if k=(1,1) then it T.kG v2 l2 else UL
structure Fo(val:Int)(C B1 B2:Nat)(l1 l2:WL)(W:View)(h:Heap):Prop where
 box:an W ⟨C,0,UL⟩=UK (UH UI val)
 ex : ∃v1 v2,Owns W h (uz B1 v1 l1 B2 v2 l2)
theorem Fo.le{val:Int}{C B1 B2:Nat}{l1 l2:WL}{W:View}{h:Heap}(k:Fo val C B1 B2 l1 l2 W h):W.le (vw h):=let ⟨_,_,w⟩:=k.ex;w.wle
theorem Fo.ext{val:Int}{C B1 B2:Nat}{l1 l2:WL}{W:View}{h h':Heap}(k:Fo val C B1 B2 l1 l2 W h)(hle:(vw h).le (vw h')):Fo val C B1 B2 l1 l2 (grow W h h') h':=
 ⟨ae (bo k.le) k.box,let ⟨v1,v2,w⟩:=k.ex;⟨v1,v2,w.ext hle⟩⟩
theorem IQ{blk place:Int}{C B1 B2:Nat}{l1 l2:WL}{ms ts:List Int}{vm vt:Value}{h:Heap}(k:Fo val C B1 B2 l1 l2 W h)(hm:SlRd W vm ms)(ht:SlRd W vt ts)(r1:-10000<=blk/\blk<=10000)(r2:-10000<=place/\place<=10000)(b1:l1.length+ms.length<=2000100000000)(b2:l2.length+ts.length<=2000100000000):
  ay UQ 136 #[UH UI blk,UH UI place,vm,vt,ptz C,ptz B1,ptz B2] h
   (λ_ h2=>Fo val C B1 B2 (ms.foldl (cy val (blk,place)) l1) (ts.foldl (cy val (blk,place)) l2) W h2):=by
 refine aq (args:=[UH UI blk,UH UI place,vm,vt,ptz C,ptz B1,ptz B2]) follows Tryz.func136 E.bS UC λK hK=>?_;have bm:=hm.bound;have bt:=ht.bound;dsimp only[L.bS,lkF,lkG];refine aa λz hz=>?_;simp[(hm.mono k.le).len];refine aG [0,1,3,4,5,6,15,16,17] (fun(_:Unit) i=>[UH UI blk,UH UI place,vt,ptz C,ptz B1,ptz B2,vm,UH UI ms.length,UH UI i])
  (λ_ i h1=>Fo val C B1 B2 ((ms.take i).foldl (cy val (blk,place)) l1) l2 W h1) ms.length ()
  rfl U1 rfl k (λ_ _=>rfl) (λv i h1 hk m=>by simp) ?_ ?_
 ·rintro _ i h1 hlt k1 K2 hK2;have hm1:=hm.mono k1.le;have hst:(ms.take (i+1)).foldl (cy val (blk,place)) l1=cy val (blk,place) ((ms.take i).foldl (cy val (blk,place)) l1) (nth ms i):=by rw[Rr hlt,Si,aC hlt];rfl
  have hlen:=lV (val:=val) (w:=(blk,place)) (ns:=ms.take i) (l:=l1);rw[RO]at hlen;generalize (ms.take i).foldl (cy val (blk,place)) l1=y at k1 hst hlen;refine aa λz hz=>?_;simp(disch:=omega)[hm1.idx1 rfl,hm1.int UE];subst hz;refine aa λz hz=>?_;simp[ae k1.le k1.box];subst hz;by_cases he:nth ms i=val
  ·rw[cy,if_pos he]at hst;obtain⟨v1,v2,w⟩:=k1.ex;have hbx:=(w.at (k:=(0,0)) (d:=Raw.mk v1) (B:=B1) (e:=T.bW) rfl).raw;simp[he,hbx];refine aA (z:=zz1) (places:=zpd) (vs:=[(0,UH UI blk),(1,UH UI place)]) (cs:=#[UH UI blk,UH UI place]) U0 U0 U2 U0 ?_;refine w.gy (k:=(0,1)) (α:=Int × Int) (d:=(blk,place)) rfl El.bW rfl (sL.2 ⟨rfl,U6,by omega,by omega⟩) U1 U1 (λ_=>rfl) (λ_=>rfl) λu v' h2 w2 hs2=>?_;have hc:=w2.cells (k:=(0,1)) (Own.ao);refine w2.db (k:=(0,0)) (D:=Raw.mk v1) (B:=B1) (e:=T.bW) (Part.all) (d:=Raw.mk v') rfl U0 rfl rfl (gG.2 ⟨rfl,hc.2⟩) λh3 w3 hs3=>?_;refine hK2 () _ _ rfl rfl ⟨k1.box,v',v2,w3.congr λq=>?_⟩;rw[hst];unfold uz Own.upd;repeat' split
   all_goals first | rfl | simp_all
  rw[cy,if_neg he]at hst;simp[he];exact hK2 () _ _ rfl rfl (by rw[hst];exact k1)
 rintro _ h1 k1;rw[RR]at k1;simp;subst hz;simp[(ht.mono k1.le).len];generalize ms.foldl (cy val (blk,place)) l1=m1 at k1 hK;refine aG [0,1,4,5,6,31,32,33] (fun(_:Unit) i=>[UH UI blk,UH UI place,ptz C,ptz B1,ptz B2,vt,UH UI ts.length,UH UI i])
  (λ_ i h2=>Fo val C B1 B2 m1 ((ts.take i).foldl (cy val (blk,place)) l2) W h2) ts.length ()
  rfl U1 rfl k1 (λ_ _=>rfl) (λv i h1 hk m=>by simp) ?_ ?_
 ·rintro _ i h2 hlt k2 K2 hK2;have ht2:=ht.mono k2.le;have hst:(ts.take (i+1)).foldl (cy val (blk,place)) l2=cy val (blk,place) ((ts.take i).foldl (cy val (blk,place)) l2) (nth ts i):=by rw[Rr hlt,Si,aC hlt];rfl
  have hlen:=lV (val:=val) (w:=(blk,place)) (ns:=ts.take i) (l:=l2);rw[RO]at hlen;generalize (ts.take i).foldl (cy val (blk,place)) l2=y at k2 hst hlen;refine aa λz hz=>?_;simp(disch:=omega)[ht2.idx1 rfl,ht2.int UE];subst hz;refine aa λz hz=>?_;simp[ae k2.le k2.box];subst hz;by_cases he:nth ts i=val
  ·rw[cy,if_pos he]at hst;obtain⟨v1,v2,w⟩:=k2.ex;have hbx:=(w.at (k:=(1,0)) (d:=Raw.mk v2) (B:=B2) (e:=T.bW) rfl).raw;simp[he,hbx];refine aA (z:=zz1) (places:=zpd) (vs:=[(0,UH UI blk),(1,UH UI place)]) (cs:=#[UH UI blk,UH UI place]) U0 U0 U2 U0 ?_;refine w.gy (k:=(1,1)) (α:=Int × Int) (d:=(blk,place)) rfl El.bW rfl (sL.2 ⟨rfl,U6,by omega,by omega⟩) U1 U1 (λ_=>rfl) (λ_=>rfl) λu v' h3 w2 hs2=>?_;have hc:=w2.cells (k:=(1,1)) (Own.ao);refine w2.db (k:=(1,0)) (D:=Raw.mk v2) (B:=B2) (e:=T.bW) (Part.all) (d:=Raw.mk v') rfl U0 rfl rfl (gG.2 ⟨rfl,hc.2⟩) λh4 w3 hs3=>?_;refine hK2 () _ _ rfl rfl ⟨k2.box,v1,v',w3.congr λq=>?_⟩;rw[hst];unfold uz Own.upd;repeat' split
   all_goals first | rfl | simp_all
  rw[cy,if_neg he]at hst;simp[he];exact hK2 () _ _ rfl rfl (by rw[hst];exact k2)
 rintro _ h2 k2;rw[RR]at k2;simp;exact hK _ _ k2
def ll(val:Int)(l:List Th):WL:=l.foldl (B0 val) []
def kq(val:Int)(l:List Th):WL:=l.foldl (tj val) []
def mW(l1 l2:WL):Bool:=!decide (l1.length=1)||!decide (l2.length=1)||decide ((nth l1 0).2<0)||!decide ((nth l1 0).1=(nth l2 0).1)||decide ((nth l2 0).2<=(nth l1 0).2)
def jn(f:ak)(val:Int)(l1 l2:WL):Bool:=!mW l1 l2&&(decide ((nth (nth f.blocks (nth l1 0).1.toNat).ins (nth l1 0).2.toNat).dst=val)&&[1,2,4,11,12,13].contains (nth (nth f.blocks (nth l1 0).1.toNat).ins (nth l1 0).2.toNat).op)
def cI(f:ak)(val:Int):Bool:=jn f val (ll val (aD f)) (kq val (aD f))
theorem tw{w x:Int × Int}{ns:List Int}: ∀{l:WL},x∈ns.foldl (cy val w) l↔x∈l\/(x=w/\val∈ns):=by
 induction ns with
 | nil=>simp
 | cons n ns ih=>intro l;rw[RG,ih,cy];grind
theorem lg{x:Int × Int}{l:List Th}: ∀{y:WL},x∈l.foldl (B0 val) y↔x∈y\/∃t∈l,x=(t.blk,t.place)/\val∈t.mks:=by
 induction l with
 | nil=>simp
 | cons t l ih=>
  intro y;rw[RG,ih,B0,tw];simp only[Ru,exists_eq_or_imp];constructor
  ·rintro((h | h) | h)
   ·exact .inl h
   ·exact .inr (.inl h)
   exact .inr (.inr h)
  rintro(h | h | h)
  ·exact .inl (.inl h)
  ·exact .inl (.inr h)
  exact .inr h
theorem q7{f:ak}{v:Value}{h:Heap}(hv:Rd (vw h) v f)(hsm:SmF f)(hval:I64 val):ay UQ 90 #[v,UH UI val] h (λu h'=>u = .bool (cI f val)/\(vw h).le (vw h')):=by
 refine aq (args:=[v,UH UI val]) follows Tryz.func90 E.kY UC λK hK=>?_;dsimp only[L.kY,lkF,lkG];refine aa λz hz=>?_;simp;refine fT rfl hv λh1 e1 hle1 hs1 hat=>?_;refine fT (α:=Int) rfl (bw.2 ⟨rfl,hval⟩) λh2 e2 hle2 hs2 hat2=>?_;have hatf:=hat.mono hle2;obtain⟨u,hu,hur⟩:=hatf.bM rfl;have hu:Un.ev (vw h2) (.bM 2) (ptz h.size)=UK u:=hu;obtain⟨cp,vb,cb⟩:=eU hatf;have cval:=hat2.int;generalize hB:h.size=B at hu cp cb;generalize hC:h1.size=C at cval;subst hz;refine aa λz hz=>?_;simp;refine dK (z:=UM UL 0 0) U0 ?_;refine dK (z:=UM UL 0 0) U0 ?_;have q1:=bQ h2 (.cells (UM UL 0 0).cells T.bW);generalize e3:h2.push (.cells (UM UL 0 0).cells T.bW)=h3 at q1;have b3:h3[h2.size]? = UK (.cells (UM UL 0 0).cells T.bW (0,0)):=by rw[<-e3];simp
 have s3:h3.size=h2.size+1:=by rw[<-e3];simp
 have q2:=bQ h3 (.cells (UM UL 0 0).cells T.bW);generalize e4:h3.push (.cells (UM UL 0 0).cells T.bW)=h4 at q2;have b4:h4[h3.size]? = UK (.cells (UM UL 0 0).cells T.bW (0,0)):=by rw[<-e4];simp
 have hle24:=UF q1 q2;have w0:Owns (vw h2) h4 (uz h2.size (UM UL 0 0) [] h3.size (UM UL 0 0) []):=by
  have w1:=(Owns.start (h:=h2) (View.le_refl (vw h2))).add (k:=(0,0)) rfl (iu (h:=h3) (e:=T.bW) (d:=Raw.mk (UM UL 0 0)) b3 (gG.2 ⟨rfl,rfl⟩) U3) q1 (λb hb=>by simp only[Value.ownBlock,Q2]at hb;omega);have w2:=w1.add (k:=(1,0)) rfl (iu (h:=h4) (e:=T.bW) (d:=Raw.mk (UM UL 0 0)) b4 (gG.2 ⟨rfl,rfl⟩) U3) q2 (λb hb=>by simp only[Value.ownBlock,Q2]at hb;omega);have w3:=w2.add (k:=(0,1)) rfl (OwnT.nil (α:=Int × Int) (vw h2) h4 T.kG) UE (λb hb=>by simp[Value.ownBlock]at hb);have w4:=w3.add (k:=(1,1)) rfl (OwnT.nil (α:=Int × Int) (vw h2) h4 T.kG) UE (λb hb=>by simp[Value.ownBlock]at hb);refine w4.congr λq=>?_;unfold uz Own.upd;repeat' split
  all_goals first | rfl | simp_all
 have k0:Fo val C h2.size h3.size [] [] (vw h2) h4:=⟨cval,_,_,w0⟩;have hu4:Un.ev (vw h4) (.bM 2) (ptz B)=UK u:=by have:=ed (ρ:=λ_=>UL) (e:=.un (.bM 2) (.con (ptz B))) hle24 (v:=u) (by simpa using hu);simpa using this
 generalize h2.size=B1 at k0;generalize h3.size=B2 at k0;subst hz;refine aa λz hz=>?_;simp[hu4];have hml:=Fu hsm;refine ah U0 (AQ (caps:=[ptz C,ptz B1,ptz B2]) (J:=λl W h=>Fo val C B1 B2 (ll val l) (kq val l) W h) hur hsm ⟨λk=>k.le,λk hle=>k.ext hle⟩ U0 k0 λl t W h5 vm vt hVW hpre k hm ht=>?_) ?_
 ·have hmem : ∀x∈l++[t],ThOk f x:=λx hx=>DV hsm (hpre.subset hx);have hll:=hpre.length_le;rw[Rl,RI]at hll;have ot:=hmem t U2;have hl:=hsm.len;have c1:=zL (F:=B0 val) (c:=10000) (l:=l) (λt ht x=>Rt lV (T4 (hmem t (by simp[ht])).mks _)) [];have c2:=zL (F:=tj val) (c:=10000) (l:=l) (λt ht x=>Rt lV (T4 (hmem t (by simp[ht])).tks _)) [];have c1':(ll val l).length<=l.length*10000:=by simpa[ll]using c1
  have c2':(kq val l).length<=l.length*10000:=by simpa[kq]using c2
  have o1:=ot.mks;have o2:=ot.tks;have ob:=ot.blk;refine(IQ k hm ht U1 ot.place U1 U1).mono λ_ h6 k6=>?_;have e1:ll val (l++[t])=t.mks.foldl (cy val (t.blk,t.place)) (ll val l):=by rw[ll,Si];rfl
  have e2:kq val (l++[t])=t.tks.foldl (cy val (t.blk,t.place)) (kq val l):=by rw[kq,Si];rfl
  simp only[e1,e2];exact k6
 rintro _ h5 ⟨W,hVW,k⟩;have hin : ∀w∈ll val (aD f),0<=w.1/\w.1<f.blocks.length/\(0<=w.2->w.2<(nth f.blocks w.1.toNat).ins.length):=by
  intro w hw;rcases lg.1 hw with h | ⟨t,ht,rfl,hv⟩
  ·cases h
  have ot:=DV hsm ht;exact⟨ot.blk.1,ot.blk.2,λh=>ot.ins h (λe=>by rw[e]at hv;cases hv)⟩
 have hfs:cI f val=jn f val (ll val (aD f)) (kq val (aD f)):=rfl;rw[hfs]at hK;generalize ll val (aD f)=l1 at k hin hK;generalize kq val (aD f)=l2 at k hK;obtain⟨v1,v2,w⟩:=k.ex;have hb1:=(w.at (k:=(0,0)) (d:=Raw.mk v1) (B:=B1) (e:=T.bW) rfl).raw;have hb2:=(w.at (k:=(1,0)) (d:=Raw.mk v2) (B:=B2) (e:=T.bW) rfl).raw;have n1:=w.now (k:=(0,1)) (v:=v1) (l:=l1) rfl;have n2:=w.now (k:=(1,1)) (v:=v2) (l:=l2) rfl;have hle5:=UF hVW w.wle;have hle:=UF hle1 (UF hle2 hle5);have cb5:=cb.2.mono hle5;have cc5:=ae hle5 cb.1;have cv5:=ae hle5 cval;subst hz;refine aa λz hz=>?_;have no:mW l1 l2=UO->K (.bool UP) h5:=λe=>hK _ _ ⟨by rw[jn,e];rfl,hle⟩;by_cases hA:l1.length=1
 ·by_cases hB2:l2.length=1
  ·have i1 : ∀kd,Bn.ev (.idx 2) v1 (.int kd 0)=UK (UN (UK (slA v1))):=λkd=>by have:=n1.idxn (N:=2) rfl (k:=kd) (i:=0) U1 U1;simpa[Addr.add]using this
   have i2 : ∀kd,Bn.ev (.idx 2) v2 (.int kd 0)=UK (UN (UK (slA v2))):=λkd=>by have:=n2.idxn (N:=2) rfl (k:=kd) (i:=0) U1 U1;simpa[Addr.add]using this
   obtain⟨a0,a1⟩:=n1.GU UE (i:=0) U1;obtain⟨d0,d1⟩:=n2.GU UE (i:=0) U1;have z1 : ∀a:Addr,a.add (0*2)=a:=λa=>by simp[Addr.add]
   rw[z1]at a0 a1 d0 d1;have hw:=hin (nth l1 0) (bF U1);have hbad:mW l1 l2=(decide ((nth l1 0).2<0)||!decide ((nth l1 0).1=(nth l2 0).1)||decide ((nth l2 0).2<=(nth l1 0).2)):=by simp[mW,hA,hB2]
   rw[hbad]at no;have hfb:jn f val l1 l2=(!(decide ((nth l1 0).2<0)||!decide ((nth l1 0).1=(nth l2 0).1)||decide ((nth l2 0).2<=(nth l1 0).2))&&(decide ((nth (nth f.blocks (nth l1 0).1.toNat).ins (nth l1 0).2.toNat).dst=val)&&[1,2,4,11,12,13].contains (nth (nth f.blocks (nth l1 0).1.toNat).ins (nth l1 0).2.toNat).op)):=by rw[jn,hbad]
   rw[hfb]at hK;generalize nth l1 0=w1 at a0 a1 hw no hK;generalize nth l2 0=w2 at d0 d1 no hK;by_cases c3:w1.2<0
   ·simp[hb1,hb2,n1.len,n2.len,hA,hB2,i1,i2,a0,a1,d0,d1,c3];exact no (by simp[c3])
   by_cases c4:w1.1=w2.1
   ·by_cases c5:w2.2<=w1.2
    ·simp[hb1,hb2,n1.len,n2.len,hA,hB2,i1,i2,a0,a1,d0,d1,c3,c4,c5];exact no (by simp[c5])
    have hs:(!(decide (w1.2<0)||!decide (w1.1=w2.1)||decide (w2.2<=w1.2)))=true:=by simp[c3,c4,c5]
    rw[hs,Tl]at hK;have hw2:=hw.2.2 U1;obtain⟨ul,hul⟩:=((cb5.at (i:=w1.1.toNat) U1).part BlkD.gO).sl;rw[<-aC U1]at hul;have hul1:an (vw h5) (((slA vb).add (w1.1.toNat*6)).add 1)=UK ul:=hul.1;obtain⟨ui,hui,huir⟩:=hul.2.wh rfl (N:=5) rfl (i:=w1.2.toNat) U1;have hli:=hul.2;generalize nth (nth f.blocks w1.1.toNat).ins w1.2.toNat=x at huir hK;simp[hb1,hb2,n1.len,n2.len,hA,hB2,i1,i2,a0,a1,d0,d1,c3,c5,<-c4];subst hz;refine aa λz hz=>?_;have z0 : ∀a:Addr,a.add 0=a:=λa=>by simp[Addr.add]
    refine aK (vw h5) UE ?_;simp(disch:=omega)[hb1,i1,a0,a1,cc5,cb5.idxn (N:=6) rfl,hul1,hli.idxn (N:=5) rfl,hui _ UE];refine dK (z:=zz5) U0 ?_;have hle6:=bQ h5 (.cells (Value.cells (.agg #[UH UI 0,UH UI 0,UH UI 0,UM UL 0 0,UH UJ 0])) T.eY);have hb6:(h5.push (.cells (Value.cells (.agg #[UH UI 0,UH UI 0,UH UI 0,UM UL 0 0,UH UJ 0])) T.eY))[h5.size]? = UK (.cells (Value.cells (.agg #[UH UI 0,UH UI 0,UH UI 0,UM UL 0 0,UH UJ 0])) T.eY (0,0)):=by simp
    generalize h5.push (.cells (Value.cells (.agg #[UH UI 0,UH UI 0,UH UI 0,UM UL 0 0,UH UJ 0])) T.eY)=h6 at hle6 hb6;refine⟨hle6,?_⟩;obtain⟨g1,g2,g3⟩:=fH huir;refine eh (g:=h5.size) (o:=0) (n:=5) (v:=ui) U0 rfl rfl g2 g3 hb6 U2 λh7 hs7 ⟨row,hr7,he7⟩ ho7=>?_;have hrow:row=ui.cells:=by have g2':ui.cells.size=5:=g2;rw[<-Array.toList_inj,he7];simp
    rw[hrow]at hr7;have hle7:(vw h5).le (vw h7):=λb o hb=>by have hlt:=View.lt (View.le_refl (vw h5)) hb;show h7[b]? = _;rw[ho7 b U1];exact hle6 b o hb
    have hat7:At (vw h7) ⟨h5.size,0,UL⟩ x:=oR (show vw h7 h5.size=_ from hr7) (huir.mono hle7);obtain⟨q0,q1,_⟩:=mT hat7;have ro:=(hat7.part InsD.wI).rng;generalize h5.size=D at q0 q1;subst hz;have cv7:=ae hle7 cv5;refine aa λz hz=>?_;by_cases c6:x.dst=val
    ·simp[q0,q1,cv7,c6];refine mY (α:=Int) (X:=nothing) (ds:=[1,2,4,11,12,13]) (vs:=[UH UI 1,UH UI 2,UH UI 4,UH UI 11,UH UI 12,UH UI 13]) rfl El.aY U2 ⟨rB U1 U1,rB U1 U1,rB U1 U1,rB U1 U1,rB U1 U1,rB U1 U1,trivial⟩ cW rfl U1 λu8 h8 hle8 hsz8 hu8 _=>?_;simp[ae hle8 q0];refine ah U0 (xU (hu8 (vw h8) cW rfl)) ?_;rintro _ _ ⟨rfl,rfl⟩;simp;subst hz;simp;exact hK _ _ ⟨by simp[c6],UF hle (UF hle7 hle8)⟩
    simp[q0,q1,cv7,c6];subst hz;simp;exact hK _ _ ⟨by simp[c6],UF hle hle7⟩
   simp[hb1,hb2,n1.len,n2.len,hA,hB2,i1,i2,a0,a1,d0,d1,c3,c4];exact no (by simp[c4])
  have hB3:¬(l2.length:Int)=1:=by omega
  simp[hb1,hb2,n1.len,n2.len,hA,hB3];exact no (by simp[mW,hB2])
 have hA3:¬(l1.length:Int)=1:=by omega
 simp[hb1,hb2,n1.len,n2.len,hA3];exact no (by simp[mW,hA])
end Go.Lft
namespace Go.Lft
structure bz where
 op:Int
 d:Int
 e:Int
 a:Int
 b:Int
 c:Int
 imm:I32
 args:List Int
 deriving Inhabited,DecidableEq
instance:Rep bz:=Rep.via λx=>Cat.mk x.op (Cat.mk x.d (Cat.mk x.e (Cat.mk x.a (Cat.mk x.b (Cat.mk x.c (Cat.mk x.imm x.args))))))
structure EndD where
 op:Int
 a:Int
 b:Int
 to:List Int
 imm:I32
 deriving Inhabited,DecidableEq
instance:Rep EndD:=Rep.via λx=>Cat.mk x.op (Cat.mk x.a (Cat.mk x.b (Cat.mk x.to x.imm)))
structure FitD where
 takes:List Int
 inner:List Int
 code:List bz
 fin:EndD
 deriving Inhabited,DecidableEq
instance:Rep FitD:=Rep.via λx=>Cat.mk x.takes (Cat.mk x.inner (Cat.mk x.code x.fin))
structure cC where
 f:ak
 i:InsD
 t:cS
 term:Bool
 temp:Int
instance:Rep cC:=Rep.via λx=>Cat.mk x.f (Cat.mk x.i (Cat.mk x.t (Cat.mk x.term x.temp)))
structure aO where
 pat:Int
 cost:Int
 deriving Inhabited,DecidableEq
instance:Rep aO:=Rep.via λx=>Cat.mk x.pat x.cost
def fg(f:ak):List InsD:=f.blocks.flatMap BlkD.ins
def jE(v:Int)(i:InsD):Bool:=!decide (i.op=16)&&decide (i.dst=v)
def qN(f:ak)(v:Int):Option InsD:=(fg f).find? (jE v)
def ix:InsD:=⟨0,0,0,[],⟨0⟩⟩
def Oh(f:ak)(v op:Int):Option InsD->InsD × Bool
 | none=>(ix,UP)
 | some i=>(i,decide (i.op=op)&&cI f v)
def aJ(f:ak)(v op:Int):InsD × Bool:=Oh f v op (qN f v)
def inR(n lo hi:Int):Bool:=decide (lo<=n)&&decide (n<=hi)
def fh(f:ak)(v lo hi:Int):Int × Bool:=((aJ f v 1).1.imm.v,(aJ f v 1).2&&inR (aJ f v 1).1.imm.v lo hi)
def dc:EndD:=⟨0,0,0,[],⟨0⟩⟩
def I8:FitD:=⟨[],[],[],dc⟩
def w32(n:Int):I32:=⟨IntKind.i32.wrap n⟩
def immS(f:ak)(i:InsD)(m lo hi sign:Int):Option FitD:=
 if(fh f (nth i.args 1) lo hi).2 then UK ⟨[nth i.args 0],[nth i.args 1],[⟨m,i.dst,0,nth i.args 0,0,0,w32 (sign*(fh f (nth i.args 1) lo hi).1),[]⟩],dc⟩ else UL
def jI(i:InsD)(op plain:Int)(m:bz):bz:=if op=15 then{ m with d:=i.dst } else if m.op=plain then{ m with b:=nth i.args 1 } else{ m with c:=nth i.args 1 }
def memS(f:ak)(i:InsD)(temp op plain sum:Int):Nat->Option FitD
 | 0=>if inR i.imm.v 0 255 then UK ⟨nth i.args 0::i.args.drop 1,[],[jI i op plain ⟨plain,0,0,nth i.args 0,0,0,i.imm,[]⟩],dc⟩ else UL
 | 1=>if(aJ f (nth i.args 0) 2).2 then
   if(fh f (nth (aJ f (nth i.args 0) 2).1.args 1) (-2147483648) 2147483647).2&&inR ((fh f (nth (aJ f (nth i.args 0) 2).1.args 1) (-2147483648) 2147483647).1+i.imm.v) 0 255 then
    UK ⟨nth (aJ f (nth i.args 0) 2).1.args 0::i.args.drop 1,[nth i.args 0,nth (aJ f (nth i.args 0) 2).1.args 1],
     [jI i op plain ⟨plain,0,0,nth (aJ f (nth i.args 0) 2).1.args 0,0,0,w32 ((fh f (nth (aJ f (nth i.args 0) 2).1.args 1) (-2147483648) 2147483647).1+i.imm.v),[]⟩],dc⟩
   else UL
  else UL
 | 2=>if(aJ f (nth i.args 0) 2).2&&decide (i.imm.v=0) then
   UK ⟨nth (aJ f (nth i.args 0) 2).1.args 0::nth (aJ f (nth i.args 0) 2).1.args 1::i.args.drop 1,[nth i.args 0],
    [jI i op plain ⟨sum,0,0,nth (aJ f (nth i.args 0) 2).1.args 0,nth (aJ f (nth i.args 0) 2).1.args 1,0,⟨0⟩,[]⟩],dc⟩
  else UL
 | _=>UK ⟨nth i.args 0::i.args.drop 1,[],[⟨4,temp,0,0,0,0,i.imm,[]⟩,jI i op plain ⟨sum,0,0,nth i.args 0,temp,0,⟨0⟩,[]⟩],dc⟩
def opOf(pat:Nat):Int:=
 if pat=1\/pat=2 then 1 else if 3<=pat/\pat<=15 then pat-1 else if pat=16\/pat=22 then 2 else if pat=17 then 3 else if pat=18 then 5 else if 19<=pat/\pat<=21 then pat-11
 else if 23<=pat/\pat<=26 then 15 else if 27<=pat/\pat<=30 then 16 else if pat=31 then 17 else if pat=32 then 18 else 0
def doS(f:ak)(i:InsD)(temp:Int)(pat:Nat):Option FitD:=
 if pat=1 then(if inR i.imm.v (-32768) 32767 then UK ⟨[],[],[⟨3,i.dst,0,0,0,0,i.imm,[]⟩],dc⟩ else UL)
 else if pat=2 then UK ⟨[],[],[⟨4,i.dst,0,0,0,0,i.imm,[]⟩],dc⟩
 else if pat<=15 then UK ⟨i.args,[],[⟨pat+2,i.dst,0,nth i.args 0,nth i.args 1,0,⟨0⟩,[]⟩],dc⟩
 else if pat=16 then immS f i 18 (-128) 127 1
 else if pat=17 then immS f i 18 (-127) 128 (-1)
 else if pat=18 then immS f i 19 (-128) 127 1
 else if pat<=21 then immS f i (pat+1) 0 31 1
 else if pat=22 then(if(aJ f (nth i.args 0) 4).2 then
   UK ⟨[nth (aJ f (nth i.args 0) 4).1.args 0,nth (aJ f (nth i.args 0) 4).1.args 1,nth i.args 1],[nth i.args 0],[⟨23,i.dst,0,nth (aJ f (nth i.args 0) 4).1.args 0,nth (aJ f (nth i.args 0) 4).1.args 1,nth i.args 1,⟨0⟩,[]⟩],dc⟩
  else UL)
 else if pat<=26 then memS f i temp 15 24 25 (pat-23)
 else if pat<=30 then memS f i temp 16 26 27 (pat-27)
 else if pat=31 then UK ⟨i.args,[],[⟨28,i.dst,0,0,0,0,i.imm,i.args⟩],dc⟩
 else UK ⟨i.args,[],[⟨29,i.dst,i.two,nth i.args 0,nth i.args 1,0,⟨0⟩,[]⟩],dc⟩
def patS(f:ak)(i:InsD)(temp pat:Int):Option FitD:=if 1<=pat/\pat<=32/\i.op=opOf pat.toNat then doS f i temp pat.toNat else UL
def iA(f:ak)(t:cS)(pat:Int):Option FitD:=
 if pat=0/\t.kind=1 then UK ⟨[],[],[],⟨1,0,0,t.to,⟨0⟩⟩⟩
 else if pat=0/\t.kind=4 then UK ⟨t.args,[],[],⟨7,if t.args=[] then -1 else nth t.args 0,0,[],⟨0⟩⟩⟩
 else if pat=0/\t.kind=5 then UK ⟨[],[],[],⟨8,0,0,[],t.imm⟩⟩
 else if pat=33/\t.kind=2 then UK ⟨t.args,[],[],⟨2,nth t.args 0,0,t.to,⟨0⟩⟩⟩
 else if(34<=pat/\pat<=36)/\t.kind=2 then
  (if(aJ f (nth t.args 0) (pat-23)).2 then UK ⟨(aJ f (nth t.args 0) (pat-23)).1.args,t.args,[],⟨pat-31,nth (aJ f (nth t.args 0) (pat-23)).1.args 0,nth (aJ f (nth t.args 0) (pat-23)).1.args 1,t.to,⟨0⟩⟩⟩ else UL)
 else if pat=37/\t.kind=3 then UK ⟨t.args,[],[],⟨6,nth t.args 0,0,t.to,⟨0⟩⟩⟩
 else UL
def nJ:cS:=⟨0,[],[],⟨0⟩⟩
def Fm:cC:=⟨⟨0,[]⟩,ix,nJ,UP,0⟩
def dz(f:ak)(b p:Int):Bool:=decide (0<=b)&&decide (b<f.blocks.length)&&decide (0<=p)&&decide (p<=(nth f.blocks b.toNat).ins.length)
def eJ(f:ak)(b p temp:Int):cC:=
 if p=(nth f.blocks b.toNat).ins.length then⟨f,ix,(nth f.blocks b.toNat).term,UO,temp⟩ else⟨f,nth (nth f.blocks b.toNat).ins p.toNat,nJ,UP,temp⟩
def tryS(s:cC)(pat:Int):Option FitD:=if s.term then iA s.f s.t pat else patS s.f s.i s.temp pat
section
variable{po po2 po3:OP}{pp:PP}
structure RawN(n:Nat) where
 l:List Value
instance {n:Nat}:Rep (RawN n) where
 n:=n+1
 agg:=true
 rd:=λ_ cs d=>cs=d.l/\cs.length=n+1/\∀u∈cs,u.oneCell'=UO
 mono:=λ_ h=>h
 len:=λh=>h.2.1
 one:=λh=>by cases h
 flat:=λh u hu=>h.2.2 u hu
 pos:=Nat.succ_pos _
 bT:=λh=>h
variable{n:Nat}
theorem sD{H:View}{l:List Value}(h1:l.length=n+1)(h2 : ∀u∈l,u.oneCell'=UO):Rd H (.agg l.toArray) (RawN.mk (n:=n) l):=by unfold Rd;rw[if_pos (show Rep.agg (RawN n)=UO from rfl)];exact⟨_,rfl,rfl,h1,h2⟩
theorem RawN.p{o:Nat}(ho:o<=n):Part (RawN n) Raw o (λd=>⟨d.l.getD o undef⟩) (λd x=>⟨d.l.set o x.v⟩) where
 fits:=by show o+1<=n+1;omega
 get:=by
  rintro H cs d ⟨rfl,h1,h2⟩
  have hlt:o<d.l.length:=by omega
  have e:(d.l.drop o).take (Rep.n Raw)=[d.l.getD o undef]:=by
   have:d.l.getD o undef=d.l[o]:=by simp[hlt]
   rw[this]
   show(d.l.drop o).take 1=_
   rw[RJ hlt];rfl
  refine⟨e,?_⟩
  have:d.l.getD o undef=d.l[o]:=by simp[hlt]
  show(d.l.getD o undef).oneCell'=UO
  rw[this];exact h2 _ (Sp hlt)
 set:=by
  rintro H cs us d x ⟨rfl,h1,h2⟩ ⟨rfl,h3⟩
  have hlt:o<d.l.length:=by omega
  have e:d.l.take o++[x.v]++d.l.drop (o+Rep.n Raw)=d.l.set o x.v:=by
   show d.l.take o++[x.v]++d.l.drop (o+1)=_
   rw[TI,if_pos hlt];simp
  refine⟨e,by simp[e,h1],λu hu=>?_⟩
  rw[e]at hu
  rcases Tz hu with h | rfl
  ·exact h2 _ h
  ·exact h3
section
variable{W:View}{h:Heap}{o:Own}{k:Key}
theorem Owns.raw{n:Nat}{e:TypeId}{B:Nat}{l:List Value}(w:Owns W h o)(hk:o k=bx e B (RawN.mk (n:=n) l)){i:Nat}(hi:i<=n):an (vw h) ⟨B,i,UL⟩=UK (l.getD i undef):=by have:=((w.at hk).part (RawN.p hi)).raw;simpa using this
theorem Owns.BW{e:TypeId}{B:Nat}{l:List Value}(w:Owns W h o)(hk:o k=bx e B (RawN.mk (n:=n) l)):Un.ev (vw h) (.bM (n+1)) (ptz B)=UK (.agg l.toArray):=by obtain⟨cs,hcs,he,h1,h2⟩:=w.atW hk;have he:cs=l:=he;subst he;have h1:cs.length=n+1:=h1;have:=fP hcs (n+1) 0 #[] U1;simp only[Un.ev,vP,RD];rw[this];simp[h1]
theorem Owns.eC{P:Program}{ty:TypeId}{us:List (Nat × Value)}{t ty2:TypeId}{z:Value}{x y:Operand}{us2:Value->List (Nat × Value)}{l:List Value}{K:Value->Heap->Prop}(w:Owns W h o)(hk:o k=UL)(hz:(P.info? t).map (·.zero)=UK (UK z))(hzc:z.cells.size=n+1)(hsz:cU P t=UK (n+1))(hl:l.length=n+1)(hn:n+1<=1000)(hone : ∀c∈l,c.oneCell'=UO)(hx : ∀p,asg (us2 p) x=p)(hy : ∀p,asg (us2 p) y = .agg l.toArray)(hK : ∀h':Heap,(vw h).le (vw h')->Owns W h' (o.upd k (bx t h.size (RawN.mk (n:=n) l)))->K (ptz h.size) h'):
  @step po P (.alloc t) ty us h λp h2=>@step po2 P (.store t x y) ty2 (us2 p) h2 λ_ h3=>K p h3:=
 fO (v:=.agg l.toArray) hz hzc hsz (by simpa[Value.cells]using hl) (by simpa[Value.cells]using hone) hx hy λh' hle hs hb=>hK h' hle
  (w.add hk (iu (d:=RawN.mk (n:=n) l) hb (sD hl hone) hn) hle λb hb=>by simp only[Value.ownBlock,Q2]at hb;omega)
theorem Owns.de{P:Program}{ty:TypeId}{us:List (Nat × Value)}{t:TypeId}{z:Value}{K:Value->Heap->Prop}(w:Owns W h o)(hk:o k=UL)(hz:(P.info? t).map (·.zero)=UK (UK z))(hzc:z.cells.size=n+1)(hn:n+1<=1000)(hone : ∀c∈z.cells.toList,c.oneCell'=UO)(hK : ∀h':Heap,(vw h).le (vw h')->Owns W h' (o.upd k (bx t h.size (RawN.mk (n:=n) z.cells.toList)))->K (ptz h.size) h'):
  @step po P (.alloc t) ty us h K:=by
 refine dK hz ?_;have q1:=bQ h (.cells z.cells t);have b2:(h.push (.cells z.cells t))[h.size]? = UK (.cells z.cells t (0,0)):=by simp
 generalize h.push (.cells z.cells t)=h2 at q1 b2;have hz2:(Value.agg z.cells).cells=z.cells:=rfl;refine hK h2 q1 (w.add hk (iu (v:=.agg z.cells) (d:=RawN.mk (n:=n) z.cells.toList) (by rw[hz2];exact b2) ?_ hn) q1 λb hb=>by simp only[Value.ownBlock,Q2]at hb;omega);have:=sD (n:=n) (H:=W) (l:=z.cells.toList) (by simpa using hzc) hone;simpa using this
theorem Owns.dW{P:Program}{ty:TypeId}{us:List (Nat × Value)}{i:Nat}{e t:TypeId}{B:Nat}{l:List Value}{x y:Operand}{u:Value}{K:Value->Heap->Prop}(w:Owns W h o)(hk:o k=bx e B (RawN.mk (n:=n) l))(hi:i<=n)(hsz:cU P t=UK 1)(hx:asg us x = UN (UK ⟨B,i,UL⟩))(hy:asg us y=u)(hu:u.oneCell'=UO)(hK : ∀h',Owns W h' (o.upd k (bx e B (RawN.mk (n:=n) (l.set i u))))->(∀X:View,X.le (vw h)->X B=UL->X.le (vw h'))->K undef h'):@step po P (.store t x y) ty us h K:=
 w.pL (po:=po) (RawN.p hi) (d:=⟨u⟩) hk hsz hx hy (gG.2 ⟨rfl,hu⟩) hK
theorem Owns.mg{P:Program}{ty:TypeId}{us:List (Nat × Value)}{α:Type}[r:Rep α]{e:TypeId}{t:TypeId}{bytes:Nat}{z:Value}{K:Value->Heap->Prop}(w:Owns W h o)(hk:o k=UL)(hT:eF P t e (Rep.n α) bytes z)(hK : ∀v h',(vw h).le (vw h')->v.oneCell'=UO->Owns W h' (o.upd k (it e v ([]:List α)))->(∀X:View,X.le (vw h)->Av X v)->K v h'):@step po P (.buildSlice t 0 #[]) ty us h K:=
 pU (α:=α) hT λh' hle hs own=>hK _ h' hle rfl (w.add hk (own W) hle λb hb=>by simp only[Value.ownBlock,Q2]at hb;omega) λX hX b hb=>by simp only[Value.ownBlock,Q2]at hb;subst hb;exact View.b8 hX (Q4 _)
end
abbrev forC(a i c:Nat)(ks ks2:List Nat)(ce:E)(body:LC):LC:=
 .loop (.seq (.seq (.reg UP (.fin ks [(c,ce)] [])) (.cond (.tmp c) [c] .skip (.exit a)))
  (.seq body (.reg UP (.fin ks2 [(i,.bin (.arith .add) (.tmp i) (.con (UH UI 1)))] []))))
theorem IX{P:Program}{Q:Post}{ρ:Env}{h:Heap}{a i c:Nat}{ks ks2:List Nat}{ce:E}{body:LC}{σ:Type}(kp:List Nat)(vals:σ->Nat->List Value)(J:σ->Nat->Heap->Prop)(n:Nat)(s0:σ)(hok:xr kp ks ks2 c i=UO)(hn:n<=9223372036854775806)(h0:aX kp ρ=kp.zip (vals s0 0))(hj:J s0 0 h)(hi : ∀s k,look (kp.zip (vals s k)) i=UK (UH UI k))(hb : ∀s k h,k<=n->J s k h->ev (look (kp.zip (vals s k))) (vw h) ce=UK (.bool (decide (k<n))))(round : ∀s k h,k<n->J s k h->∀K:Env->Heap->Prop,(∀s' ρ' h',look ρ' i=UK (UH UI k)->aX kp (setE ρ' i (UH UI ((k:Int)+1)))=kp.zip (vals s' (k+1))->J s' (k+1) h'->K ρ' h')->body.wp P (fJ K (dT a Q)) (kp.zip (vals s k)) h)(done : ∀s h,J s n h->Q .normal (kp.zip (vals s n)) h):LC.wp P (forC a i c ks ks2 ce body) (dT a Q) ρ h:=by
 simp only[xr,RS,Q9,Sr,bne_iff_ne,Sa,beq_iff_eq,ne_eq]at hok;refine ik kp (λm ρ h=>∃s k,k<=n/\ρ=kp.zip (vals s k)/\m=n-k/\J s k h) n ⟨s0,0,by omega,h0,by omega,hj⟩ ?_;rintro m ρ h ⟨s,k,hk,rfl,rfl,hJ⟩ K hK;have hkill:cJ (kp.zip (vals s k)) ks=kp.zip (vals s k):=nE λp hp=>(hok p.1 (zip_fst hp)).1.1;have hne : ∀p∈kp.zip (vals s k),p.1≠c:=λp hp=>(hok p.1 (zip_fst hp)).1.2;have hk2 : ∀v,cJ (setE (kp.zip (vals s k)) c v) [c]=kp.zip (vals s k):=λv=>nu hne;have hlk : ∀v,look (setE (kp.zip (vals s k)) c v) c=UK v:=λv=>by rw[af,if_pos rfl]
 simp only[uV,mX,kJ,iF,ml,n7,hb s k h hk hJ,RD,lh,oe,true_and,dE,hkill,gr,nB,qX,hlk,mU,hk2,uC,uZ,qv,pN,if_true];refine⟨λhlt=>?_,λhge=>?_⟩
 ·have hlt':k<n:=by omega
  rw[oI];refine round s k h hlt' hJ _ λs' ρ' h' hl he hJ'=>?_;simp only[mX,kJ,iF,ml,n7,ni,qX,hl,oe,true_and,RD,CL,RD,BK,lh,dE,gr,true_and];rw[bc U1 U1];refine hK (n-(k+1)) _ _ U1 ⟨s',k+1,by omega,?_,rfl,hJ'⟩;rw[<-he];refine pk λt ht=>?_;rw[af,af,ag];split
  ·rfl
  rename_i hti;rcases(hok t ht).2 with e | e
  ·exact absurd e.symm hti
  rw[e];rfl
 have:k=n:=by omega
 subst this;exact done s h hJ
end
variable{po po2 po3:OP}{pp:PP}
section
variable{W:View}{h:Heap}{o:Own}{k:Key}
theorem Owns.pY{P:Program}{ty:TypeId}{us:List (Nat × Value)}{t ty2:TypeId}{α:Type}[Rep α]{n:Nat}{z u:Value}{d:α}{x y:Operand}{us2:Value->List (Nat × Value)}{K:Value->Heap->Prop}(w:Owns W h o)(hk:o k=UL)(hr:Rd W u d)(hN:Rep.n α=n)(hz:(P.info? t).map (·.zero)=UK (UK z))(hzc:z.cells.size=n)(hsz:cU P t=UK n)(hn:n<=1000)
  (hx : ∀p,asg (us2 p) x=p) (hy : ∀p,asg (us2 p) y=u) (hK : ∀h':Heap,(vw h).le (vw h')->Owns W h' (o.upd k (bx t h.size d))->K (ptz h.size) h') :
  @step po P (.alloc t) ty us h λp h2=>@step po2 P (.store t x y) ty2 (us2 p) h2 λ_ h3=>K p h3:=by subst hN;obtain⟨c1,c2,c3⟩:=fH hr;exact fO (v:=u) hz hzc hsz (by simpa using c2) c3 hx hy λh' hle hs hb=>hK h' hle (w.add hk (iu (d:=d) hb hr hn) hle λb hb=>by simp only[Value.ownBlock,Q2]at hb;omega)
end
section
variable{po:OP}
theorem Owns.uU{P:Program}{W:View}{h:Heap}{o:Own}{ty:TypeId}{us:List (Nat × Value)}{α:Type}[Rep α]{t:TypeId}{x:Operand}{v:Value}{d:α}{K:Value->Heap->Prop}(w:Owns W h o)(hx:asg us x=v)(hv:Rd W v d)
  (hk : ∀B h' W',W.le W'->Owns W' h' o->At W' ⟨B,0,UL⟩ d->(vw h).le (vw h')->K (ptz B) h'):step P (.box t x) ty us h K:=by refine fT hx (hv.mono w.wle) λh1 hp hle hs _=>?_;exact hk _ _ _ (bo w.wle) (w.ext hle) (oR (t:=t) (fz:=(0,0)) (by rw[bY (Q4 _),hp];simp) (hv.mono (bo w.wle))) hle
end
end Go.Lft
namespace Go.Lft
variable{po:OP}
theorem ze{P:Program}{ty t rt e:TypeId}{us:List (Nat × Value)}{h:Heap}{K:Value->Heap->Prop}{x y:Operand}{a:Option Addr}{n c:Nat}(hu:P.underlying t=UK (.slice e))(hx:asg us x = .slice a n c)(hy:asg us y = UM UL 0 0)(hk:K (.bool a.isNone) h):step P (.binOp .eql t x y rt) ty us h K:=by
 refine df (cB λw hw=>⟨_,w,?_,Same.refl _,by rw[hw];exact hk⟩);simp only[bL,execOp,hx,hy];have e1:(Op.equal t (.slice a n c) (UM UL 0 0)).run P w = .ok a.isNone w:=by show(Op.equalIn (9999+1) t _ _).run P w=_;rw[Op.equalIn];cases a<;>simp[run_underlying hu]
 simp[eqGuard,binOp,e1]
end Go.Lft
namespace Go.Lft
theorem sv{d:InsD}{v:Value}{h:Heap}(hd:Rd (vw h) v d):ay UQ 39 #[v] h (λu h'=>(vw h).le (vw h')/\SlRd (fresh h h') u (cO d)/\(d.op=16->u = UM UL 0 0)):=by
 refine aq (args:=[v]) follows Tryz.func39 E.oh UC λK hK=>?_;simp[L.oh];refine fT rfl hd λh1 _ hle1 hsz1 hat=>?_;obtain⟨c0,c1,c2,va,ca⟩:=mT hat;have r1:=(hat.part InsD.gm).rng;have r2:=(hat.part InsD.xV).rng;simp[c0];refine⟨λe1=>hK _ _ ⟨hle1,by simpa[cO,e1]using aS,λ_=>rfl⟩,λe1=>⟨λe2=>?_,λe2=>?_⟩⟩
 ·simp[c1,c2];refine mY (X:=nothing) (ds:=[d.dst,d.two]) (vs:=[UH UI d.dst,UH UI d.two]) rfl El.aY U2 ⟨bw.2 ⟨rfl,r1⟩,bw.2 ⟨rfl,r2⟩,trivial⟩ cW rfl U1 λu h2 hle2 hsz2 hu _=>?_;exact hK _ _ ⟨UF hle1 hle2,by simpa[cO,e2]using hu _ cW (by unfold fresh;rw[if_neg U1]),λe=>absurd e e1⟩
 simp[c1];refine mY (X:=nothing) (ds:=[d.dst]) (vs:=[UH UI d.dst]) rfl El.aY U2 ⟨bw.2 ⟨rfl,r1⟩,trivial⟩ cW rfl U1 λu h2 hle2 hsz2 hu _=>?_;exact hK _ _ ⟨UF hle1 hle2,by simpa[cO,e1,e2]using hu _ cW (by unfold fresh;rw[if_neg U1]),λe=>absurd e e1⟩
def BS(op n:Int):Bool:=if op=1 then decide (n=0) else if op=15 then decide (n=1) else if op=17 then decide (n<=4) else decide (n=2)
def xy(t:cS):Bool:=
 if t.kind=1 then decide ((t.args.length:Int)=0)&&decide ((t.to.length:Int)=1)
 else if t.kind=2 then decide ((t.args.length:Int)=1)&&decide ((t.to.length:Int)=2)
 else if t.kind=3 then decide ((t.args.length:Int)=1)&&decide ((2:Int)<=t.to.length)&&decide ((t.to.length:Int)<=65)
 else if t.kind=4 then decide ((t.args.length:Int)<=1)&&decide ((t.to.length:Int)=0)
 else if t.kind=5 then decide ((t.args.length:Int)=0)&&decide ((t.to.length:Int)=0) else UP
def dr(f:ak)(b:Int):List Int:=sift (λa=>decide (b∈(nth f.blocks a).term.to)) (λa=>(a:Int)) f.blocks.length
theorem CQ{H:View}{v:Value}{l:List BlkD}(h:SlRd H v l){i:Nat}(hi:i<l.length): ∃u,Sl H ((((slA v).add (i*6)).add 2).add 2) u (nth l i).term.to:=by rw[aC hi];exact((((h.at hi).part BlkD.lF).part cS.Af)).sl
theorem xC{f:ak}{b:Int}{v:Value}{h:Heap}(hv:Rd (vw h) v f)(hn:f.blocks.length<=1000000):
  ay UQ 36 #[v,UH UI b] h (λu h'=>(vw h).le (vw h')/\SlRd (fresh h h') u (dr f b)):=by
 refine aq (args:=[v,UH UI b]) follows Tryz.func36 E.dB UC λK hK=>?_;dsimp only[L.dB,lkF,lkG];refine aa λz hz=>?_;simp;refine fT rfl hv λh1 _ hle1 hsz1 hat=>?_;obtain⟨_,vb,cb⟩:=eU hat;generalize h.size=B at cb;subst hz;refine aa λz hz=>?_;simp;refine pU (α:=Int) El.aY λh2 hle2 hsz2 own2=>?_;have m0:=Mine.empty (V:=nothing) (W:=nothing) (View.le_refl (vw h1)) hle2 cW (Old.nothing _ _) own2;generalize UM (UK ⟨h1.size,0,UL⟩) 0 0=v0 at m0;have cb2:=cb.2;have cc2:=cb.1;subst hz;refine aa λz hz=>?_;simp;refine cL [1,2,5,6] (fun(r:Value) k=>[UH UI b,ptz B,r,UH UI k]) (λr k h3=>Mine nothing h1 h3 nothing T.int r (sift (λa=>decide (b∈(nth f.blocks a).term.to)) (λa=>(a:Int)) k)) f.blocks.length v0
  rfl U1 rfl m0 (λ_ _=>rfl) (λv k h3 hk m=>by simp[ae m.old cc2,(cb2.mono m.old).len]) ?_ ?_
 ·rintro r k h3 hlt m K2 hK2;have hle3:=m.old;have cb3:=cb2.mono hle3;obtain⟨w,hw⟩:=CQ cb3 hlt;have hwb:=hw.2.bound;have hsl:=rX (p:=λa=>decide (b∈(nth f.blocks a).term.to)) (x:=λa=>(a:Int)) k;refine aa λy hy=>?_;simp(disch:=omega)[ae hle3 cc2,cb3.idxn (N:=6) rfl,hw.1];subst hy;simp;refine cL [1,2,5,6,7,8] (fun(_:Unit) j=>[UH UI b,ptz B,r,UH UI k,w,UH UI j]) (λ_ j h4=>h4=h3/\∀i,i<j->nth (nth f.blocks k).term.to i≠b) (nth f.blocks k).term.to.length ()
   rfl U1 rfl ⟨rfl,λi hi=>by omega⟩ (λ_ _=>rfl) (λv j h4 hk m=>by simp[hw.2.len]) ?_ ?_
  ·rintro _ j h3 hltj ⟨rfl,hpre⟩ K3 hK3;simp(disch:=omega)[hw.2.idx1 rfl,hw.2.int UE];refine⟨λe=>?_,λe=>hK3 () _ _ rfl rfl ⟨rfl,λi hi=>?_⟩⟩
   ·have hmem:b∈(nth f.blocks k).term.to:=e▸bF hltj;refine m.push (d:=(k:Int)) El.aY (by simp<;>rfl) (rB U1 U1) U1 U1 U5 U5 λu v' h5 m'=>?_;exact hK2 v' _ _ rfl rfl (by rw[oZ (by simpa using hmem)];exact m')
   rcases Ri i j with h | h
   ·exact hpre i h
   have:i=j:=by omega
   subst this;exact e
  rintro _ h3 ⟨rfl,hpre⟩;have hmem:¬b∈(nth f.blocks k).term.to:=λhm=>by obtain⟨i,hi,e⟩:=RH hm;exact hpre i hi (by rw[aC hi];exact e)
  simp;exact hK2 r _ _ rfl rfl (by rw[nV (by simpa using hmem)];exact m)
 rintro r h3 m;simp;subst hz;simp;exact hK _ _ ⟨UF hle1 m.old,m.fresh.mono (zz hle1)⟩
theorem Mv{H:View}{u:Value}{d:InsD}(h:Rd H u d): ∃va,u = .agg #[UH UI d.op,UH UI d.dst,UH UI d.two,va,UH UJ d.imm.v]/\(I64 d.op/\I64 d.dst/\I64 d.two/\-2147483648<=d.imm.v/\d.imm.v<=2147483647)/\SlRd H va d.args:=by obtain⟨cs,rfl,c1,r1,e1,⟨rfl,h1⟩,c2,r2,e2,⟨rfl,h2⟩,c3,r3,e3,⟨rfl,h3⟩,c4,r4,e4,⟨va,rfl,h4⟩,h5,h6⟩:=h;subst e4 e3 e2;exact⟨va,by rw[<-Array.toList_inj.1 ((by rw[e1,h5];rfl):cs.toList = #[UH UI d.op,UH UI d.dst,UH UI d.two,va,UH UJ d.imm.v].toList)],⟨h1,h2,h3,h6⟩,h4⟩
theorem KN{H:View}{d:Int}{v:Value}{l:List InD}(h1:I64 d)(h2:SlRd H v l):Rd H (.agg #[UH UI d,v]) (PhiD.mk d l):=⟨_,rfl,[UH UI d],[v],rfl,⟨rfl,h1⟩,v,rfl,h2⟩
theorem Ec{H:View}{op d two:Int}{imm:I32}{v:Value}{l:List Int}(h:I64 op/\I64 d/\I64 two/\-2147483648<=imm.v/\imm.v<=2147483647)(h2:SlRd H v l):Rd H (.agg #[UH UI op,UH UI d,UH UI two,v,UH UJ imm.v]) (InsD.mk op d two l imm):=
 ⟨_,rfl,[UH UI op],_,rfl,⟨rfl,h.1⟩,[UH UI d],_,rfl,⟨rfl,h.2.1⟩,[UH UI two],_,rfl,⟨rfl,h.2.2.1⟩,[v],_,rfl,⟨v,rfl,h2⟩,rfl,h.2.2.2⟩
theorem CI{α β:Type}[Rep α][Rep β]{H:View}{v:Value}{l:List α}{l2:List β}(h:SlRd H v l)(hn:Rep.n α=Rep.n β)(hl:l.length=l2.length)(hc : ∀i (h1:i<l.length) (h2:i<l2.length) cs,Rep.rd H cs l[i]->Rep.rd H cs l2[i]):SlRd H v l2:=by
 obtain⟨a,cap,rfl,h1,h2,h3⟩:=h;refine⟨a,cap,by rw[hl],by omega,by omega,?_⟩;rcases h3 with rfl | ⟨ad,rfl,hs,hat⟩
 ·left;exact Ry (by rw[<-hl];rfl)
 refine .inr ⟨ad,rfl,hs,λi hi=>?_⟩;obtain⟨cs,g1,g2⟩:=hat i U1;rw[<-hn];exact⟨cs,g1,hc i U1 hi cs g2⟩
theorem KK{H:View}{u:Value}{f:ak}(h:Rd H u f): ∃vb,u = .agg #[UH UI f.params,vb]/\I64 f.params/\SlRd H vb f.blocks:=by obtain⟨cs,rfl,c1,r1,e1,⟨rfl,h1⟩,vb,h2,h3⟩:=h;exact⟨vb,by rw[<-Array.toList_inj.1 ((by rw[e1,h2];rfl):cs.toList = #[UH UI f.params,vb].toList)],h1,h3⟩
abbrev Q3:=Cat Int (Cat Int Int)
instance:Inhabited Q3:=⟨⟨0,0,0⟩⟩
theorem DW : ∀(l:List Value) (k off:Nat) (A:Array Value),off+k+l.length<=A.size->
  ((l.zipIdx k).foldl (fun(cs:Array Value) (p:Value × Nat)=>cs.setIfInBounds (off+p.2) p.1) A).toList=A.toList.take (off+k)++l++A.toList.drop (off+k+l.length)
 | [],k,off,A,_=>by simp
 | x::l,k,off,A,h=>by
  simp only[RZ]at h;rw[TZ,RG,DW l (k+1) off _ U9];have hk:off+k<A.toList.length:=by simp;omega
  simp only[T7,RZ];rw[show off+(k+1)=off+k+1 by omega,Rr (by simpa using hk),T3 (Q4 _),List.getElem_set_self,List.drop_set_of_lt U1,show off+k+1+l.length=off+k+(l.length+1) by omega];simp
theorem oy{s:Nat} : ∀(vs:List Value) (k:Nat) (A:Array Value),(∀v∈vs,v.cells.size=s)->(k+vs.length)*s=A.size->
  ∃B,Instr.fill (λj=>UK (j*s,s)) A ((vs.zipIdx k).map λp=>(p.2,p.1))=UK B/\B.toList=A.toList.take (k*s)++vs.flatMap λv=>v.cells.toList
 | [],k,A,_,hk=>⟨A,rfl,by rw[Rq (by simp at hk;simp[hk])];simp⟩
 | v::vs,k,A,hv,hk=>by
  have hc:=hv v (Rm ..);have e1:(k+(vs.length+1))*s=(k+1+vs.length)*s:=by rw[show k+(vs.length+1)=k+1+vs.length by omega]
  have e2:(k+1+vs.length)*s=k*s+s+vs.length*s:=by rw[Ts,Ts,Uk]
  simp only[RZ]at hk;have e3:(k+1)*s=k*s+s:=by rw[Ts,Uk]
  have hF:(v.cells.zipIdx.foldl (fun(cs:Array Value) (x:Value × Nat)=>cs.setIfInBounds (k*s+x.2) x.1) A).toList=A.toList.take (k*s)++v.cells.toList++A.toList.drop (k*s+s):=by rw[<-Array.foldl_toList,Array.toList_zipIdx];have:=DW v.cells.toList 0 (k*s) A (by simp[hc];omega);simpa[hc]using this
  obtain⟨B,h1,h2⟩:=oy vs (k+1) (v.cells.zipIdx.foldl (fun(cs:Array Value) (x:Value × Nat)=>cs.setIfInBounds (k*s+x.2) x.1) A) (λu hu=>hv u (Q7 _ hu)) (by rw[<-Array.length_toList,hF];simp[hc];omega);refine⟨B,?_,?_⟩
  ·simp only[TZ,Sn,Instr.fill,hc];rw[if_neg U9];exact h1
  rw[h2,hF,e3,S3,RW (by simp[hc];omega),Rq (by simp[hc];omega),Rn]
theorem yJ{s:Nat} : ∀(vs:List Value) (i:Nat) (hi:i<vs.length),(∀v∈vs,v.cells.size=s)->((vs.flatMap λv=>v.cells.toList).drop (i*s)).take s=vs[i].cells.toList
 | v::vs,0,_,hv=>by have hc:=hv v (Rm ..);simp only[Tv,SM,S3,SQ];rw[RW (by simp[hc]),Rq (by simp[hc])]
 | v::vs,i+1,hi,hv=>by have hc:=hv v (Rm ..);have:=yJ vs i (by simpa using hi) λu hu=>hv u (Q7 _ hu);rw[S3,show(i+1)*s=v.cells.toList.length+i*s by rw[Ts];simp[hc];omega,<-List.drop_drop,List.drop_left];simpa using this
theorem yc{po:OP}{α:Type}[Rep α]{P:Program}{t e n:Nat}{ty:TypeId}{bytes:Nat}{z:Value}{ps:Array (Nat × Operand)}{us:List (Nat × Value)}{vs:List Value}{ds:List α}{h:Heap}{K:Value->Heap->Prop}(hT:eF P t e (Rep.n α) bytes z)(hp:ps.map (λp=>(p.1,asg us p.2))=((vs.zipIdx 0).map λp=>(p.2,p.1)).toArray){X:View}(hr:rI X vs ds)(hn:ds.length=n)(hb:n*Rep.n α<=16777216)(hb2:n<=16777216)(hk : ∀u h',(vw h).le (vw h')->h'.size=h.size+1->(∀Y:View,X.le Y->Y h.size=h'[h.size]?->SlRd Y u ds)->u.ownBlock=UK h.size->K u h'):step P (.buildSlice t n ps) ty us h K:=by
 have hl:=hr.len;have hcs : ∀v∈vs,v.cells.size=Rep.n α:=λv hv=>by obtain⟨i,hi,rfl⟩:=RH hv;exact(fH (hr.get i hi U1)).2.1
 obtain⟨B,h1,h2⟩:=oy (s:=Rep.n α) vs 0 ((Array.range (n*Rep.n α)).map (z.cells[· % z.cells.size]!)) hcs (by simp;rw[hl,hn]);have hB:B=(vs.flatMap λv=>v.cells.toList).toArray:=by rw[<-Array.toList_inj,h2];simp
 refine ti hT hb hp h1 ?_;have hle:=bQ h (.cells B e);refine hk _ _ hle U2 (λY hY hYb=>⟨UK ⟨h.size,0,UL⟩,n,by rw[hn],by omega,by omega,.inr ⟨_,rfl,rfl,λi hi=>?_⟩⟩) rfl;have hi2:i<vs.length:=by omega
 have hrd:=fH (hr.get i hi2 hi);rw[bC rfl];refine⟨vs[i].cells.toList,⟨B,e,(0,0),rfl,by rw[hYb];simp,?_⟩,Rep.mono hY hrd.1⟩;rw[hB,R1];have:=yJ vs i hi2 hcs;rw[S4,hrd.2.1];exact this
section
open Go.MapKept Go.ChangeMaps
variable{po:OP}{pp:PP}
structure It(h:Heap)(b r:Nat)(left:List (Value × Value)):Prop where
 ex : ∃es since seen c0,h[b]? = UK (.map es since)/\Stamped es since/\h[r]? = UK (.mapIter (UK b) since seen c0)/\since<=c0/\left=(leftOf es seen).toList.map λx=>(x.key,x.val)
structure ItE(h:Heap)(b r:Nat)(p:Value × Value)(left:List (Value × Value)):Prop where
 ex : ∃(es:Array MapEntry) (since:Nat) (seen:Array Nat) (e:MapEntry),h[b]? = UK (.map es since)/\Stamped es since/\h[r]? = UK (.mapIter (UK b) since (seen.push e.born) since)/\e∈es.toList/\p=(e.key,e.val)/\left=(leftOf es (seen.push e.born)).toList.map λx=>(x.key,x.val)
section
variable{P:Program}{ty:TypeId}{us:List (Nat × Value)}{h h':Heap}{K:Value->Heap->Prop}{d:TypeDesc}{b r:Nat}{f:Value->Option Value}{t k e:TypeId}{left:List (Value × Value)}{p:Value × Value}
theorem It.same(m:It h b r left)(e1:h'[b]? = h[b]?)(e2:h'[r]? = h[r]?):It h' b r left:=by obtain⟨es,s,q,c,a1,a2,a3,a4⟩:=m.ex;exact⟨es,s,q,c,by rw[e1];exact a1,a2,by rw[e2];exact a3,a4⟩
theorem ItE.it(m:ItE h b r p left):It h b r left:=by obtain⟨es,s,q,e,a1,a2,a3,a4,a5,a6⟩:=m.ex;exact⟨es,s,_,s,a1,a2,a3,Q4 _,a6⟩
theorem It.lt(m:It h b r left):b<h.size/\r<h.size/\b≠r:=by obtain⟨es,s,q,c,a1,a2,a3,a4⟩:=m.ex;refine⟨(Rk.1 a1).1,(Rk.1 a3).1,?_⟩;rintro rfl;rw[a1]at a3;cases a3
theorem xu{x:Operand}(ht:P.underlying t=UK (.map k e))(hx:asg us x = .map (UK b))(m:di d h b f)(hk : ∀h' left,(vw h).le (vw h')->h'.size=h.size+1->It h' b h.size left->(left.map (·.1)).Nodup->(∀u v,(u,v)∈left->IsKey d u)->(∀u v,IsKey d u->((u,v)∈left↔f u=UK v))->K (ptz h.size) h'):step P (.range t x) ty us h K:=by
 obtain⟨es,c,h1,h2,h3,h4⟩:=m.ex;refine df (cB λw hw=>?_);subst hw;refine⟨ptz w.heap.size,w.alloc (.mapIter (UK b) c #[] c),?_,jc _ _,?_⟩
 ·simp only[bL,execOp,hx];simp[Instr.range,run_underlying ht,MapKept.run_getObj_map h1,newObj,Result.andThen];rfl
 have hb:(w.alloc (.mapIter (UK b) c #[] c)).heap[b]? = UK (.map es c):=(heap_alloc_old _ _ (Rk.1 h1).1).trans h1;have hl:(leftOf es #[]).toList=es.toList:=by unfold leftOf;simp
 refine hk _ (es.toList.map λx=>(x.key,x.val)) (by show(vw w.heap).le (vw (w.heap.push _));exact bQ _ _) U2 ⟨es,c,#[],c,hb,h3,World.alloc_heap_new w _,Q4 _,by rw[hl]⟩ ?_ ?_ ?_
 ·rw[List.map_map];exact h3.2.2
 ·intro u v hu;obtain⟨x,hx,e⟩:=Sf.1 hu;cases e;exact h2 x hx
 intro u v hu;rw[<-h4 u v hu,Sf];constructor
 ·rintro⟨x,hx,e⟩;cases e;exact⟨x,hx,rfl,rfl⟩
 rintro⟨x,hx,e1,e2⟩;exact⟨x,hx,by rw[e1,e2]⟩
theorem Hp{es:Array MapEntry}{c:Nat}{seen:Array Nat}{e:MapEntry}(hs:Stamped es c)(he:e∈(leftOf es seen).toList): ∃a z,(leftOf es seen).toList=a++e::z/\(leftOf es (seen.push e.born)).toList=a++z:=by
 obtain⟨a,z,q⟩:=List.append_of_mem he;refine⟨a,z,q,?_⟩;have e1:(leftOf es (seen.push e.born)).toList=(leftOf es seen).toList.filter λx=>x.born != e.born:=by unfold leftOf;rw[TA,TA,List.filter_filter];refine TP λx _=>?_;rw[RM];simp;exact⟨λh=>⟨h.2,h.1⟩,λh=>⟨h.2,h.1⟩⟩
 have nd:((leftOf es seen).toList.map (·.born)).Nodup:=by refine hs.2.1.sublist (List.Sublist.map _ ?_);unfold leftOf;rw[TA];exact List.filter_sublist
 rw[q]at nd;rw[Tj,Sn]at nd;obtain⟨n1,n2,n3⟩:=SO.1 nd;obtain⟨n4,n5⟩:=S0.1 n2;rw[e1,q,SK,List.filter_cons_of_neg U2];have f1:a.filter (λx=>x.born != e.born)=a:=List.filter_eq_self.2 λx hx=>by simp only[bne_iff_ne,ne_eq];exact λh=>n3 x.born (TB hx) e.born (Rm) h
 have f2:z.filter (λx=>x.born != e.born)=z:=List.filter_eq_self.2 λx hx=>by simp only[bne_iff_ne,ne_eq];exact λh=>n4 (h▸TB (f:=(·.born)) hx)
 rw[f1,f2]
theorem zq{x:Operand}(hx:asg us x = ptz r)(m:It h b r left)(h0:left=[]->K (.tuple #[.bool UP]) h)(h1 : ∀a p z h',left=a++p::z->h'.size=h.size->(∀j,j≠r->h'[j]? = h[j]?)->ItE h' b r p (a++z)->K (.tuple #[.bool UO,p.1,p.2]) h'):step P (.next x UP) ty us h K:=by
 obtain⟨es,s,q,c,a1,a2,a3,a4,rfl⟩:=m.ex;have hne:b≠r:=m.lt.2.2;refine df (cB λw hw=>?_);subst hw;rcases run_next_at (P:=P) w ty r b s c q es s a3 a1 a2.1 a4 with⟨hz,hrun⟩ | ⟨e,he,w1,hw1,hrun⟩
 ·refine⟨.tuple #[.bool UP],w,?_,Same.refl _,h0 ?_⟩
  ·simp only[bL,execOp,hx];simp[hrun]
  rw[List.map_eq_nil_iff];exact Ry (by simpa using hz)
 obtain⟨a,z,e1,e2⟩:=Hp a2 he;have hh:w1.heap=w.heap:=by rcases hw1 with rfl | rfl<;>rfl
 have hset:=MapKept.heap_set (o':=Obj.mapIter (UK b) s (q.push e.born) s) a3;refine⟨.tuple #[.bool UO,e.key,e.val],setBlock w1 r (.mapIter (UK b) s (q.push e.born) s),by simp only[bL,execOp,hx];simp[hrun],?_,h1 (a.map λx=>(x.key,x.val)) (e.key,e.val) (z.map λx=>(x.key,x.val)) _ (by rw[e1];simp) (by simp[setBlock,hh]) ?_ ?_⟩
 ·have s1:Same w w1:=by
   rcases hw1 with rfl | rfl
   ·exact Same.refl _
   exact⟨rfl,rfl,rfl,Q4 _,λ_ h=>h⟩
  refine s1.trans (Same.oQ rfl rfl rfl (by simp[setBlock]) (g:=r) (by rw[hh];exact a3) U2 λk _ hk=>?_);simp only[setBlock,hh];exact hset.2 k hk
 ·intro j hj;simp only[setBlock,hh];exact hset.2 j hj
 refine⟨es,s,q,e,?_,a2,?_,?_,rfl,?_⟩
 ·simp only[setBlock,hh];rw[hset.2 b hne];exact a1
 ·simp only[setBlock,hh];exact hset.1
 ·unfold leftOf at he;rw[TA]at he;exact(SP.1 he).1
 rw[e2,Tj]
theorem EY{x:Operand}(hx:asg us x = ptz r)(m:ItE h b r p left)(hk:K (.tuple #[p.1,p.2]) h):step P (.entry x) ty us h K:=by obtain⟨es,s,q,e,a1,a2,a3,a4,rfl,_⟩:=m.ex;refine df (cB λw hw=>?_);subst hw;refine⟨.tuple #[e.key,e.val],w,?_,Same.refl _,hk⟩;simp only[bL,execOp,hx];simp[run_entry_at (P:=P) w r b s q es s e a3 a1 a4 a2.2.1]
end
def Nl:Value->Bool
 | .nilFunc=>UO
 | .func _ _ _=>UO
 | _=>UP
def Cs:Value->Bool
 | .nilFunc=>UO
 | _=>UP
theorem MR{P:Program}{ty t rt:TypeId}{us:List (Nat × Value)}{h:Heap}{K:Value->Heap->Prop}{x y:Operand}{v:Value}{ps rs:Array TypeId}{vr:Bool}(hu:P.underlying t=UK (.func ps rs vr))(hv:Nl v=UO)(hx:asg us x=v)(hy:asg us y = .nilFunc)(hk:K (.bool (Cs v)) h):step P (.binOp .eql t x y rt) ty us h K:=by
 refine df (cB λw hw=>⟨_,w,?_,Same.refl _,by rw[hw];exact hk⟩);simp only[bL,execOp,hx,hy];have e1:(Op.equal t v .nilFunc).run P w = .ok (Cs v) w:=by show(Op.equalIn (9999+1) t _ _).run P w=_;rw[Op.equalIn];cases v<;>simp[Nl]at hv<;>simp[run_underlying hu,Cs]
 simp[eqGuard,binOp,e1]
end
variable{po po2:OP}
theorem bz.wI:Part bz Int 0 bz.op (λd x=>{ d with op:=x }):=(Part.fst Part.all).via (λ_=>rfl) λ_ _=>rfl
theorem bz.QY:Part bz Int 1 bz.d (λd x=>{ d with d:=x }):=(Part.snd (Part.fst Part.all)).via (λ_=>rfl) λ_ _=>rfl
theorem bz.QZ:Part bz Int 4 bz.b (λd x=>{ d with b:=x }):=(Part.snd (Part.snd (Part.snd (Part.snd (Part.fst Part.all))))).via (λ_=>rfl) λ_ _=>rfl
theorem bz.Q1:Part bz Int 5 bz.c (λd x=>{ d with c:=x }):=(Part.snd (Part.snd (Part.snd (Part.snd (Part.snd (Part.fst Part.all)))))).via (λ_=>rfl) λ_ _=>rfl
theorem bz.jD:Part bz I32 6 bz.imm (λd x=>{ d with imm:=x }):=(Part.snd (Part.snd (Part.snd (Part.snd (Part.snd (Part.snd (Part.fst Part.all))))))).via (λ_=>rfl) λ_ _=>rfl
theorem EndD.wI:Part EndD Int 0 EndD.op (λd x=>{ d with op:=x }):=(Part.fst Part.all).via (λ_=>rfl) λ_ _=>rfl
theorem EndD.Q0:Part EndD Int 1 EndD.a (λd x=>{ d with a:=x }):=(Part.snd (Part.fst Part.all)).via (λ_=>rfl) λ_ _=>rfl
theorem FitD.Gy:Part FitD (List Int) 0 FitD.takes (λd x=>{ d with takes:=x }):=(Part.fst Part.all).via (λ_=>rfl) λ_ _=>rfl
theorem FitD.M3:Part FitD (List Int) 1 FitD.inner (λd x=>{ d with inner:=x }):=(Part.snd (Part.fst Part.all)).via (λ_=>rfl) λ_ _=>rfl
theorem FitD.Oe:Part FitD (List bz) 2 FitD.code (λd x=>{ d with code:=x }):=(Part.snd (Part.snd (Part.fst Part.all))).via (λ_=>rfl) λ_ _=>rfl
theorem FitD.GX:Part FitD EndD 3 FitD.fin (λd x=>{ d with fin:=x }):=(Part.snd (Part.snd (Part.snd Part.all))).via (λ_=>rfl) λ_ _=>rfl
theorem cC.QW:Part cC ak 0 cC.f (λd x=>{ d with f:=x }):=(Part.fst Part.all).via (λ_=>rfl) λ_ _=>rfl
theorem cC.QI:Part cC InsD 2 cC.i (λd x=>{ d with i:=x }):=(Part.snd (Part.fst Part.all)).via (λ_=>rfl) λ_ _=>rfl
theorem cC.QX:Part cC cS 7 cC.t (λd x=>{ d with t:=x }):=(Part.snd (Part.snd (Part.fst Part.all))).via (λ_=>rfl) λ_ _=>rfl
theorem cC.lF:Part cC Bool 11 cC.term (λd x=>{ d with term:=x }):=(Part.snd (Part.snd (Part.snd (Part.fst Part.all)))).via (λ_=>rfl) λ_ _=>rfl
theorem cC.FD:Part cC Int 12 cC.temp (λd x=>{ d with temp:=x }):=(Part.snd (Part.snd (Part.snd (Part.snd Part.all)))).via (λ_=>rfl) λ_ _=>rfl
theorem aO.AK:Part aO Int 0 aO.pat (λd x=>{ d with pat:=x }):=(Part.fst Part.all).via (λ_=>rfl) λ_ _=>rfl
theorem aO.BJ:Part aO Int 1 aO.cost (λd x=>{ d with cost:=x }):=(Part.snd Part.all).via (λ_=>rfl) λ_ _=>rfl
theorem jV{H:View}{op d e a b c:Int}{imm:I32}{va:Value}{args:List Int}(h : ∀x∈[op,d,e,a,b,c],-9223372036854775808<=x/\x<=9223372036854775807)(hi:-2147483648<=imm.v/\imm.v<=2147483647)(ha:SlRd H va args) :
  Rd H (.agg #[UH UI op,UH UI d,UH UI e,UH UI a,UH UI b,UH UI c,UH UJ imm.v,va]) (⟨op,d,e,a,b,c,imm,args⟩:bz):=by
 simp only[Ru,Tx,or_false,forall_eq_or_imp,forall_eq]at h;obtain⟨h1,h2,h3,h4,h5,h6⟩:=h;have hl:Rep.rd H [va] args:=by have:=dD.2 ha;unfold Rd at this;simpa[Rep.agg]using this
 unfold Rd;rw[if_pos (show Rep.agg _=UO from rfl)];exact⟨_,rfl,[_],_,rfl,⟨rfl,h1⟩,[_],_,rfl,⟨rfl,h2⟩,[_],_,rfl,⟨rfl,h3⟩,[_],_,rfl,⟨rfl,h4⟩,[_],_,rfl,⟨rfl,h5⟩,[_],_,rfl,⟨rfl,h6⟩,[_],[_],rfl,⟨rfl,hi⟩,hl⟩
theorem mH{H:View}{op a b:Int}{imm:I32}{vt:Value}{l:List Int}(h : ∀x∈[op,a,b],-9223372036854775808<=x/\x<=9223372036854775807)(hi:-2147483648<=imm.v/\imm.v<=2147483647)(ht:SlRd H vt l) :
  Rep.rd H [UH UI op,UH UI a,UH UI b,vt,UH UJ imm.v] (⟨op,a,b,l,imm⟩:EndD):=by
 simp only[Ru,Tx,or_false,forall_eq_or_imp,forall_eq]at h;obtain⟨h1,h2,h3⟩:=h;have hl:Rep.rd H [vt] l:=by have:=dD.2 ht;unfold Rd at this;simpa[Rep.agg]using this
 exact⟨[_],_,rfl,⟨rfl,h1⟩,[_],_,rfl,⟨rfl,h2⟩,[_],_,rfl,⟨rfl,h3⟩,[_],[_],rfl,hl,⟨rfl,hi⟩⟩
theorem nv{H:View}{v1 v2 v3:Value}{takes inner:List Int}{code:List bz}{ce:List Value}{fin:EndD}(h1:SlRd H v1 takes)(h2:SlRd H v2 inner)(h3:SlRd H v3 code)(h4:Rep.rd H ce fin) :
  Rd H (.agg (v1::v2::v3::ce).toArray) (⟨takes,inner,code,fin⟩:FitD):=by
 have q1:Rep.rd H [v1] takes:=by have:=dD.2 h1;unfold Rd at this;simpa[Rep.agg]using this
 have q2:Rep.rd H [v2] inner:=by have:=dD.2 h2;unfold Rd at this;simpa[Rep.agg]using this
 have q3:Rep.rd H [v3] code:=by have:=dD.2 h3;unfold Rd at this;simpa[Rep.agg]using this
 unfold Rd;rw[if_pos (show Rep.agg _=UO from rfl)];exact⟨_,rfl,[_],_,rfl,q1,[_],_,rfl,q2,[_],_,rfl,q3,h4⟩
theorem Owns.tI{W:View}{h:Heap}{o:Own}{k:Key}{P:Program}{ty:TypeId}{us:List (Nat × Value)}{n:Nat}{e t:TypeId}{B:Nat}{l l':List Value}{x y:Operand}{K:Value->Heap->Prop}(w:Owns W h o)(hk:o k=bx e B (RawN.mk (n:=n) l))(hsz:cU P t=UK (n+1))(hx:asg us x = ptz B)(hy:asg us y = .agg l'.toArray)(hl:l'.length=n+1)(h1 : ∀c∈l',c.oneCell'=UO)
  (hK : ∀h',Owns W h' (o.upd k (bx e B (RawN.mk (n:=n) l')))->(∀X:View,X.le (vw h)->X B=UL->X.le (vw h'))->K undef h'):@step po P (.store t x y) ty us h K:=
 w.pL (po:=po) (Part.all) (d:=RawN.mk (n:=n) l') hk hsz hx hy (sD hl h1) hK
theorem jg[pp:PP]{P:Program}{m:Option View}{x y:Reg}{Q:Env->Heap->Prop}{ρ:Env}{h:Heap}(h1:eV P m x Q ρ h)(h2:eV P m y Q ρ h):eV P m (.both x y) Q ρ h:=⟨h1,h2⟩
theorem At.ldN{α:Type}[Rep α]{H:View}{a:Addr}{d:α}(h:At H a d)(ha:Rep.agg α=UO){N:Nat}(hN:Rep.n α=N) : ∃u,(∀K:View,H.le K->Un.ev K (.bM N) (UN (UK a))=UK u)/\Rd H u d:=by subst hN;obtain⟨u,h1,h2⟩:=h.bM ha;refine⟨u,λK hk=>?_,h2⟩;have:=ed (ρ:=λ_=>UL) (e:=.un (.bM (Rep.n α)) (.con (UN (UK a)))) hk (v:=u) (by simpa using h1);simpa using this
structure Cx(V:View)(h0:Heap)(W:View)(h:Heap)(o:Own):Prop where
 own:Owns W h o
 old:Old V h0 W
 le0:(vw h0).le (vw h)
 new : ∀k i b,o k=UK i->i.v.ownBlock=UK b->h0.size<=b
section
variable{V W:View}{h0 h h':Heap}{o:Own}{k:Key}{P:Program}{ty:TypeId}{us:List (Nat × Value)}
theorem Cx.start(hV:V.le (vw h)):Cx V h V h λ_=>none:=⟨Owns.start hV,Old.refl _ _,View.le_refl _,λ_ _ _ e=>by cases e⟩
theorem Cx.wle(c:Cx V h0 W h o):W.le (vw h):=c.own.wle
theorem Cx.ext(c:Cx V h0 W h o)(hle:(vw h).le (vw h')):Cx V h0 (grow W h h') h' o:=⟨c.own.ext hle,c.old.grow (bO c.le0),UF c.le0 hle,c.new⟩
theorem Cx.fin(c:Cx V h0 W h o):W.le (grow V h0 h):=c.old.le c.wle
theorem Cx.up(c:Cx V h0 W h o):W.le (grow W h h'):=bo c.wle
theorem Cx.ey{α:Type}[Rep α]{t:TypeId}{x:Operand}{v:Value}{d:α}{K:Value->Heap->Prop}(c:Cx V h0 W h o)(hx:asg us x=v)(hv:Rd W v d)
  (hk : ∀B h' W',W.le W'->Cx V h0 W' h' o->At W' ⟨B,0,UL⟩ d->(vw h).le (vw h')->K (ptz B) h'):@step po P (.box t x) ty us h K:=by refine fT hx (hv.mono c.wle) λh1 hp hle hs _=>?_;exact hk _ _ _ c.up (c.ext hle) (oR (t:=t) (fz:=(0,0)) (by rw[bY (Q4 _),hp];simp) (hv.mono c.up)) hle
theorem Cx.eC{α:Type}[Rep α]{t ty2:TypeId}{n:Nat}{z:Value}{x y:Operand}{us2:Value->List (Nat × Value)}{v:Value}{d:α}{K:Value->Heap->Prop}(c:Cx V h0 W h o)(hv:Rd W v d)(hz:(P.info? t).map (·.zero)=UK (UK z))(hN:Rep.n α=n)(hzc:z.cells.size=n)(hsz:cU P t=UK n)
  (hx : ∀p,asg (us2 p) x=p) (hy : ∀p,asg (us2 p) y=v) (hk : ∀B h' W',W.le W'->Cx V h0 W' h' o->At W' ⟨B,0,UL⟩ d->(vw h).le (vw h')->K (ptz B) h') :
  @step po P (.alloc t) ty us h λp h2=>@step po2 P (.store t x y) ty2 (us2 p) h2 λ_ h3=>K p h3:=by subst hN;refine dw (X:=W) hz hzc hsz hv hx hy λh1 hle hs hat=>?_;exact hk _ _ _ c.up (c.ext hle) (hat _ c.up (bY (Q4 _))) hle
theorem Cx.de{t:TypeId}{n:Nat}{z:Value}{K:Value->Heap->Prop}(c:Cx V h0 W h o)(hk:o k=UL)(hz:(P.info? t).map (·.zero)=UK (UK z))(hzc:z.cells.size=n+1)(hn:n+1<=1000)
  (hone : ∀c∈z.cells.toList,c.oneCell'=UO) (hK : ∀B h':_,(vw h).le (vw h')->Cx V h0 W h' (o.upd k (bx t B (RawN.mk (n:=n) z.cells.toList)))->K (ptz B) h') :
  @step po P (.alloc t) ty us h K:=
 c.own.de hk hz hzc hn hone λh1 hle w=>hK _ _ hle ⟨w,c.old,UF c.le0 hle,λj i b hj hb=>by
  by_cases e:j=k
  ·subst e;rw[Own.ao]at hj;cases hj;cases hb;exact bO c.le0
  rw[Own.aB e]at hj;exact c.new j i b hj hb⟩
theorem Cx.tI{n:Nat}{e t:TypeId}{B:Nat}{l l':List Value}{x y:Operand}{K:Value->Heap->Prop}(c:Cx V h0 W h o)(hk:o k=bx e B (RawN.mk (n:=n) l))(hsz:cU P t=UK (n+1))(hx:asg us x = ptz B)(hy:asg us y = .agg l'.toArray)(hl:l'.length=n+1)(h1 : ∀c∈l',c.oneCell'=UO)
  (hK : ∀h',Cx V h0 W h' (o.upd k (bx e B (RawN.mk (n:=n) l')))->K undef h'):@step po P (.store t x y) ty us h K:=
 c.own.tI hk hsz hx hy hl h1 λh2 w hX=>hK _ ⟨w,c.old,hX _ c.le0 (View.b8 UE (c.new k _ B hk rfl)),λj i b hj hb=>by
  by_cases e:j=k
  ·subst e;rw[Own.ao]at hj;cases hj;exact c.new _ _ b hk hb
  rw[Own.aB e]at hj;exact c.new j i b hj hb⟩
theorem Cx.bG{α:Type}[Rep α]{n:Nat}{e t:TypeId}{B:Nat}{l:List Value}{x y:Operand}{v:Value}{d:α}{K:Value->Heap->Prop}(c:Cx V h0 W h o)(hk:o k=bx e B (RawN.mk (n:=n) l))(hr:Rd W v d)(ha:Rep.agg α=UO)(hN:Rep.n α=n+1)(hsz:cU P t=UK (n+1))(hx:asg us x = ptz B)(hy:asg us y=v)
  (hK : ∀h' l',v = .agg l'.toArray->Cx V h0 W h' (o.upd k (bx e B (RawN.mk (n:=n) l')))->K undef h'):@step po P (.store t x y) ty us h K:=by have h2:=fH hr;unfold Rd at hr;rw[if_pos ha]at hr;obtain⟨cs,rfl,h1⟩:=hr;have hl:=Rep.len h1;exact c.tI hk hsz hx (l':=cs.toList) (by simpa using hy) (by rw[hl,hN]) (λc hc=>Rep.flat h1 c hc) λh'=>hK h' cs.toList U2
theorem Cx.all{n:Nat}{e:TypeId}{B:Nat}{l:List Value}(c:Cx V h0 W h o)(hk:o k=bx e B (RawN.mk (n:=n) l)):Un.ev (vw h) (.bM (n+1)) (ptz B)=UK (.agg l.toArray):=c.own.BW hk
theorem Cx.mF{α:Type}[Rep α]{t e n:Nat}{bytes:Nat}{z:Value}{ps:Array (Nat × Operand)}{vs:List Value}{ds:List α}{K:Value->Heap->Prop}(c:Cx V h0 W h o)(hT:eF P t e (Rep.n α) bytes z)
  (hp:ps.map (λp=>(p.1,asg us p.2))=((vs.zipIdx 0).map λp=>(p.2,p.1)).toArray) (hr:rI W vs ds) (hn:ds.length=n) (hb:n*Rep.n α<=16777216) (hb2:n<=16777216)
  (hk : ∀u h' W',W.le W'->Cx V h0 W' h' o->SlRd W' u ds->(vw h).le (vw h')->K u h'):@step po P (.buildSlice t n ps) ty us h K:=
 yc hT hp hr hn hb hb2 λu h1 hle hs hu _=>hk _ _ _ c.up (c.ext hle) (hu _ c.up (bY (Q4 _))) hle
end
end Go.Lft
namespace Go.Lft
theorem jZ{n lo hi:Int}{h:Heap}:ay UQ 135 #[UH UI n,UH UI lo,UH UI hi] h (λu h'=>h'=h/\u = .bool (inR n lo hi)):=by
 refine aq (args:=[UH UI n,UH UI lo,UH UI hi]) follows Tryz.func135 E.oH UC λK hK=>?_;dsimp only[L.oH,lkF,lkG];by_cases c:lo<=n
 ·simp[c];exact hK _ _ ⟨rfl,by simp[inR,c]⟩
 simp[c];exact hK _ _ ⟨rfl,by simp[inR,c]⟩
theorem Kx{H:View}{B:Nat}{s:cC}(h:At H ⟨B,0,UL⟩ s) : ∃vb va wa wt,Sl H ⟨B,1,UL⟩ vb s.f.blocks/\an H ⟨B,2,UL⟩=UK (UH UI s.i.op)/\an H ⟨B,3,UL⟩=UK (UH UI s.i.dst)/\Sl H ⟨B,5,UL⟩ va s.i.args/\
  an H ⟨B,6,UL⟩=UK (UH UJ s.i.imm.v)/\an H ⟨B,7,UL⟩=UK (UH UI s.t.kind)/\Sl H ⟨B,8,UL⟩ wa s.t.args/\Sl H ⟨B,9,UL⟩ wt s.t.to/\an H ⟨B,10,UL⟩=UK (UH UJ s.t.imm.v)/\
  an H ⟨B,11,UL⟩=UK (.bool s.term)/\an H ⟨B,12,UL⟩=UK (UH UI s.temp):=by
 have hf:=h.part cC.QW;have hi:=h.part cC.QI;have ht:=h.part cC.QX;obtain⟨vb,h1⟩:=(hf.part ak.rY).sl;obtain⟨va,h5⟩:=(hi.part InsD.eX).sl;obtain⟨wa,h8⟩:=(ht.part cS.eX).sl;obtain⟨wt,h9⟩:=(ht.part cS.Af).sl;exact⟨vb,va,wa,wt,by simpa using h1,by simpa using(hi.part InsD.wI).int,by simpa using(hi.part InsD.gm).int,by simpa using h5,by simpa using(hi.part InsD.jD).i32,by simpa using(ht.part cS.yU).int,
  by simpa using h8,by simpa using h9,by simpa using(ht.part cS.jD).i32,by simpa using(h.part cC.lF).bool,by simpa using(h.part cC.FD).int⟩
theorem Sl.mono{α:Type}[Rep α]{H K:View}(hk:H.le K){a:Addr}{v:Value}{l:List α}(s:Sl H a v l):Sl K a v l:=⟨ae hk s.1,s.2.mono hk⟩
theorem eO{v:Value}{l:List Int}{h:Heap}{W:View}(hW:W.le (vw h))(hv:SlRd W v l)(hb:l.length<=1000000):
  ay UQ 52 #[v] h (λu h'=>(vw h).le (vw h')/\SlRd (grow W h h') u l):=by
 refine aq (args:=[v]) follows Tryz.func52 E.fA UC λK hK=>?_;dsimp only[L.fA,lkF,lkG];have hv0:=hv;obtain⟨a,cap,rfl,g1,g2,g3⟩:=hv0;refine aa λz hz=>?_;simp;subst hz;refine aa λz hz=>?_;refine aa λy hy=>?_;simp;refine ze U.aY rfl rfl ?_;subst hy;by_cases ha:a=UL
 ·subst ha;have hl:l=[]:=by
   rcases g3 with g3 | ⟨ad,g3,_⟩
   ·first | exact g3 | exact Ry (by simpa using g3)
   cases g3
  subst hl;simp;exact hK _ _ ⟨View.le_refl _,aS⟩
 have hi:a.isNone=false:=by cases a<;>simp at ha ⊢
 simp[hi];subst hz;refine aa λz hz=>?_;simp;refine pU (α:=Int) El.aY λh1 hle1 hs1 own1=>?_;have m1:=Mine.empty (V:=W) (W:=W) UE hle1 hW (Old.refl _ _) own1;refine dA (α:=Int) (l:=[]) (l2:=l) El.aY rfl rfl m1.own (hv.src (UF hW hle1)) U9 U9 λv2 h2 own2 mv=>?_;have m2:=m1.gA own2 mv;subst hz;simp;refine hK _ _ ⟨m2.old,?_⟩;have:=m2.result;simpa using this
theorem lL{v0 v1 v2:Value}{m:bz}{takes inner:List Int}{h:Heap}{W:View}(hW:W.le (vw h))(h0:Rd W v0 m)(h1:SlRd W v1 takes)(h2:SlRd W v2 inner):
  ay UQ 190 #[v0,v1,v2] h (λu h'=>(vw h).le (vw h')/\∃vf,u = .tuple #[vf,.bool UO]/\Rd (grow W h h') vf (⟨takes,inner,[m],dc⟩:FitD)):=by
 refine aq (args:=[v0,v1,v2]) follows Tryz.func190 E.pC UC λK hK=>?_;dsimp only[L.pC,lkF,lkG];have c0:=Cx.start hW;refine aa λz hz=>?_;simp;refine c0.ey rfl h0 λB ha Wa hWa ca hat hlea=>?_;obtain⟨um,hum,hmr⟩:=hat.ldN rfl (N:=8) rfl;refine ca.de (k:=(0,0)) (n:=7) (z:=.agg #[UM UL 0 0,UM UL 0 0,UM UL 0 0,UH UI 0,UH UI 0,UH UI 0,UM UL 0 0,UH UJ 0]) rfl U0 rfl U3 U8 λR hb hleb cb=>?_;subst hz;refine aa λz hz=>?_;simp[hum _ (UF ca.wle hleb)];refine cb.mF (α:=bz) (n:=1) (vs:=[um]) (ds:=[m]) El.ko U2 ⟨hmr,trivial⟩ rfl U3 U3 λu hc Wc hWc cc hu hlec=>?_;have hr:Rd Wc (.agg (v1::v2::u::[UH UI 0,UH UI 0,UH UI 0,UM UL 0 0,UH UJ 0]).toArray) (⟨takes,inner,[m],dc⟩:FitD):=
  nv (h1.mono (UF hWa hWc)) (h2.mono (UF hWa hWc)) hu (mH U2 U3 aS);have e1:=h1;have e2:=h2;have e3:=hu;obtain⟨a1,k1,rfl,-⟩:=e1;obtain⟨a2,k2,rfl,-⟩:=e2;obtain⟨a3,k3,rfl,-⟩:=e3;refine aA (z:=zz7) (places:=zpc) (vs:=[(0,.slice a1 takes.length k1),(1,.slice a2 inner.length k2),(2,.slice a3 [m].length k3)]) (cs:=#[.slice a1 takes.length k1,.slice a2 inner.length k2,.slice a3 [m].length k3,UH UI 0,UH UI 0,UH UI 0,UM UL 0 0,UH UJ 0]) U0 U0 U2 U0 ?_;refine cc.bG (k:=(0,0)) Own.ao hr rfl rfl U0 rfl rfl λhd l' hl' cd=>?_;subst hz;simp[cd.all (k:=(0,0)) Own.ao];refine hK _ _ ⟨cd.le0,_,rfl,?_⟩;rw[<-hl'];exact hr.mono cd.fin
theorem Dp{f:ak}{v:Int}:qN f v=f.blocks.findSome? λb=>b.ins.find? (jE v):=by unfold qN fg;rw[List.find?_flatMap]
theorem IY{f:ak}{v:Int}{b i:Nat}(hb:b<f.blocks.length)(hi:i<(nth f.blocks b).ins.length)(h1:((f.blocks.take b).findSome? λb=>b.ins.find? (jE v))=UL)(h2:((nth f.blocks b).ins.take i).find? (jE v)=UL)(h3:jE v (nth (nth f.blocks b).ins i)=UO):qN f v=UK (nth (nth f.blocks b).ins i):=by
 have e1:f.blocks.take b++nth f.blocks b::f.blocks.drop (b+1)=f.blocks:=by rw[aC hb,<-List.drop_eq_getElem_cons hb,SX]
 have e2:(nth f.blocks b).ins.take i++nth (nth f.blocks b).ins i::(nth f.blocks b).ins.drop (i+1)=(nth f.blocks b).ins:=by rw[aC hi,<-List.drop_eq_getElem_cons hi,SX]
 have e3:(nth f.blocks b).ins.find? (jE v)=UK (nth (nth f.blocks b).ins i):=by
  have:((nth f.blocks b).ins.take i++nth (nth f.blocks b).ins i::(nth f.blocks b).ins.drop (i+1)).find? (jE v)=UK (nth (nth f.blocks b).ins i):=by rw[TQ,h2,S8,List.find?_cons,h3]
  rwa [e2]at this
 have:((f.blocks.take b++nth f.blocks b::f.blocks.drop (b+1)).findSome? λb=>b.ins.find? (jE v))=UK (nth (nth f.blocks b).ins i):=by rw[Tm,h1,List.findSome?_cons,e3];rfl
 rw[e1]at this;rw[Dp];exact this
theorem nz{H:View}:Rd H (.agg #[UH UI 0,UH UI 0,UH UI 0,UM UL 0 0,UH UJ 0]) ix:=by
 have hl:Rep.rd H [UM UL 0 0] ([]:List Int):=by have:=dD.2 (aS (α:=Int) (H:=H));unfold Rd at this;simpa[Rep.agg]using this
 unfold Rd;rw[if_pos (show Rep.agg InsD=UO from rfl)];exact⟨_,rfl,[_],_,rfl,⟨rfl,by decide,by decide⟩,[_],_,rfl,⟨rfl,by decide,by decide⟩,[_],_,rfl,⟨rfl,by decide,by decide⟩,[_],[_],rfl,hl,rfl,by decide,by decide⟩
theorem Df{s:cC}{v:Value}{x:Int}{h:Heap}{W:View}(hW:W.le (vw h))(hv:Rd W v s)(hsm:SmF s.f):
  ay UQ 224 #[v,UH UI x] h (λu h'=>(vw h).le (vw h')/\∃vi,u = .tuple #[vi,.bool (qN s.f x).isSome]/\Rd (grow W h h') vi ((qN s.f x).getD ix)):=by
 refine aq (args:=[v,UH UI x]) follows Tryz.func224 E.cG UC λK hK=>?_;dsimp only[L.cG,lkF,lkG];have c0:=Cx.start hW;refine aa λz hz=>?_;simp;refine c0.ey rfl hv λB ha Wa hWa ca hat hlea=>?_;obtain⟨vb,va,wa,wt,sb,-⟩:=Kx hat;refine ca.de (k:=(0,0)) (n:=4) (z:=.agg #[UH UI 0,UH UI 0,UH UI 0,UM UL 0 0,UH UJ 0]) rfl U0 rfl U3 U8 λR hb hleb cb=>?_;subst hz;refine aa λz hz=>?_;have sbb:=sb.mono cb.wle;have hbd:=sb.2.bound;simp[sbb.1,sbb.2.len];refine aG [0,1,2,4,5,12,13,14] (fun(_:Unit) k=>[v,UH UI x,ptz B,ptz R,.bool UP,vb,UH UI s.f.blocks.length,UH UI k])
  (λ_ k h1=>(s.f.blocks.take k).findSome? (λb=>b.ins.find? (jE x))=UL/\∃W1,Wa.le W1/\Cx W h W1 h1 (Own.upd (λ_=>UL) (0,0) (bx T.eY R (RawN.mk (n:=4) [UH UI 0,UH UI 0,UH UI 0,UM UL 0 0,UH UJ 0])))) s.f.blocks.length ()
  rfl U1 rfl ⟨rfl,Wa,View.le_refl _,cb⟩ (λ_ _=>rfl) (λv i h1 hk m=>by simp) ?_ ?_
 ·rintro _ k h1 hk ⟨hn,W1,hW1,c1⟩ K2 hK2;have q1:=(sb.2.mono hW1).wh rfl (N:=6) rfl hk;obtain⟨ub,hub,rub⟩:=q1;have hbs:=hsm.blk k hk;refine aa λz hz=>?_;simp(disch:=omega)[(sb.2.mono (UF hW1 c1.wle)).idxn (N:=6) rfl,hub _ c1.wle];refine c1.eC (α:=BlkD) rub (n:=6) (z:=zz3) U0 rfl rfl U0 U5 U5 λB2 h2 W2 hW2 c2 hat2 hle2=>?_;obtain⟨vp,vi,va2,vt2,-,si,-⟩:=iK hat2;subst hz;refine aa λz hz=>?_;have si2:=si.mono c2.wle;have hbd2:=si.2.bound;simp[si2.1,si2.2.len];subst hz;generalize hbk:nth s.f.blocks k=bk at *;refine aG [0,1,2,4,5,7,12,13,14,19,20,21] (fun(_:Unit) i=>[v,UH UI x,ptz B,ptz R,.bool UP,ptz B2,vb,UH UI s.f.blocks.length,UH UI k,vi,UH UI bk.ins.length,UH UI i])
   (λ_ i h3=>(bk.ins.take i).find? (jE x)=UL/\∃W3,W2.le W3/\Cx W h W3 h3 (Own.upd (λ_=>UL) (0,0) (bx T.eY R (RawN.mk (n:=4) [UH UI 0,UH UI 0,UH UI 0,UM UL 0 0,UH UJ 0])))) bk.ins.length ()
   rfl U1 rfl ⟨rfl,W2,View.le_refl _,c2⟩ (λ_ _=>rfl) (λv i h1 hk m=>by simp) ?_ ?_
  ·rintro _ i h3 hi ⟨hn3,W3,hW3,c3⟩ K3 hK3;have si3:=si.2.mono hW3;obtain⟨ui,hui,rui⟩:=si3.wh rfl (N:=5) rfl hi;have hst:(bk.ins.take (i+1)).find? (jE x)=if jE x (nth bk.ins i) then UK (nth bk.ins i) else none:=by rw[Rr hi,TQ,hn3,S8,aC hi,List.find?_singleton]
   refine aa λz hz=>?_;simp(disch:=omega)[(si3.mono c3.wle).idxn (N:=5) rfl,hui _ c3.wle];refine c3.eC (α:=InsD) rui (n:=5) (z:=zz5) U0 rfl rfl U0 U5 U5 λB4 h4 W4 hW4 c4 hat4 hle4=>?_;obtain⟨q0,q1,-⟩:=mT (hat4.mono c4.wle);obtain⟨ur,hur,rur⟩:=hat4.ldN rfl (N:=5) rfl;have hur:=hur _ c4.wle;generalize hxi:nth bk.ins i=xi at *;subst hz;refine aa λz hz=>?_;by_cases p:jE x xi=UO
   ·have hm:qN s.f x=UK xi:=by have:=IY (v:=x) hk (i:=i) (by rw[hbk];exact hi) hn (by rw[hbk];exact hn3) (by rw[hbk,hxi];exact p);rw[hbk,hxi]at this;exact this
    have p2:xi.op≠16/\xi.dst=x:=by simpa[jE]using p
    simp[q0,q1,p2.1,p2.2];subst hz;simp[hur];refine c4.bG (k:=(0,0)) Own.ao rur rfl rfl U0 rfl rfl λh5 l5 hl5 c5=>?_;simp[c5.all (k:=(0,0)) Own.ao];refine hK _ _ ⟨c5.le0,_,by rw[hm];rfl,?_⟩;rw[hm,<-hl5];exact rur.mono c5.fin
   have hc:(!decide (xi.op=16)&&decide (xi.dst=x))=false:=by simpa[jE]using p
   rw[if_neg p]at hst;by_cases p3:xi.op=16
   ·simp[q0,q1,p3];subst hz;simp;exact hK3 () _ _ rfl rfl ⟨hst,W4,UF hW3 hW4,c4⟩
   have p4:¬xi.dst=x:=by simpa[p3]using hc
   simp[q0,q1,p3,p4];subst hz;simp;exact hK3 () _ _ rfl rfl ⟨hst,W4,UF hW3 hW4,c4⟩
  rintro _ h3 ⟨hn3,W3,hW3,c3⟩;rw[RR]at hn3;simp;refine hK2 () _ _ rfl rfl ⟨?_,W3,UF hW1 (UF hW2 hW3),c3⟩;rw[Rr hk,Tm,hn,S8,<-aC hk,hbk];simp[hn3]
 rintro _ h1 ⟨hn,W1,hW1,c1⟩;rw[RR]at hn;have hm:qN s.f x=none:=by rw[Dp];exact hn
 simp;subst hz;refine aa λz hz=>?_;simp;have hr:Rd W1 (.agg #[UH UI 0,UH UI 0,UH UI 0,UM UL 0 0,UH UJ 0]) ix:=nz;refine aA (z:=zz5) (places:=zpa) (vs:=[]) (cs:=#[UH UI 0,UH UI 0,UH UI 0,UM UL 0 0,UH UJ 0]) U0 U0 U2 U0 ?_;refine c1.bG (k:=(0,0)) Own.ao hr rfl rfl U0 rfl rfl λh5 l5 hl5 c5=>?_;subst hz;simp[c5.all (k:=(0,0)) Own.ao];refine hK _ _ ⟨c5.le0,_,by rw[hm];rfl,?_⟩;rw[hm,<-hl5];exact hr.mono c5.fin
theorem oU{s:cC}{v:Value}{x op:Int}{h:Heap}{W:View}(hW:W.le (vw h))(hv:Rd W v s)(hsm:SmF s.f)(hx:I64 x):
  ay UQ 186 #[v,UH UI x,UH UI op] h (λu h'=>(vw h).le (vw h')/\∃vi,u = .tuple #[vi,.bool (aJ s.f x op).2]/\Rd (grow W h h') vi (aJ s.f x op).1):=by
 refine aq (args:=[v,UH UI x,UH UI op]) follows Tryz.func186 E.jP UC λK hK=>?_;dsimp only[L.jP,lkF,lkG];have c0:=Cx.start hW;refine aa λz hz=>?_;simp;refine c0.ey rfl hv λB ha Wa hWa ca hat hlea=>?_;refine ca.de (k:=(0,0)) (n:=4) (z:=.agg #[UH UI 0,UH UI 0,UH UI 0,UM UL 0 0,UH UJ 0]) rfl U0 rfl U3 U8 λR hb hleb cb=>?_;subst hz;refine aa λz hz=>?_;obtain⟨us,hus,rus⟩:=hat.ldN rfl (N:=13) rfl;simp[hus _ cb.wle];refine ah U0 (Df cb.wle rus hsm) ?_;rintro _ hc ⟨hle,vi,rfl,hvi⟩;have cc:=cb.ext hle;simp;refine cc.eC (α:=InsD) hvi (n:=5) (z:=zz5) U0 rfl rfl U0 U5 U5 λB2 hd Wd hWd cd hat2 hle2=>?_;subst hz;refine aa λz hz=>?_;refine aK Wd cd.wle ?_;obtain⟨d0,-⟩:=mT hat2;obtain⟨uf,huf,ruf⟩:=(hat.part cC.QW).ldN rfl (N:=2) rfl;obtain⟨ui,hui,rui⟩:=hat2.ldN rfl (N:=5) rfl;have cbw:Wa.le Wd:=UF cb.up hWd;have huf:Un.ev Wd (.bM 2) (ptz B)=UK uf:=by simpa using huf Wd cbw
 have ruf:=ruf.mono cbw;have hui:=hui Wd UE;have fin : ∀(b:Bool) (h2:Heap) (l':List Value),b=(aJ s.f x op).2->ui = .agg l'.toArray->(qN s.f x).getD ix=(aJ s.f x op).1->Cx W h Wd h2 (Own.upd (Own.upd (λ_=>UL) (0,0) (bx T.eY R (RawN.mk (n:=4) [UH UI 0,UH UI 0,UH UI 0,UM UL 0 0,UH UJ 0]))) (0,0) (bx T.eY R (RawN.mk (n:=4) l')))->K (.tuple #[.agg l'.toArray,.bool b]) h2:=by rintro _ h2 l' rfl hl' e c2;refine hK _ _ ⟨c2.le0,_,rfl,?_⟩;rw[<-e,<-hl'];exact rui.mono c2.fin
 cases hm:qN s.f x with
 | none=>rw[hm]at fin d0;simp[hui];refine cd.bG (k:=(0,0)) Own.ao rui rfl rfl U0 rfl rfl λh2 l' hl' c2=>?_;subst hz;simp[c2.all (k:=(0,0)) Own.ao];exact fin _ _ _ (by unfold aJ;rw[hm];rfl) hl' (by unfold aJ;rw[hm];rfl) c2
 | some i=>
  rw[hm]at fin d0;have d0:an Wd ⟨B2,0,UL⟩=UK (UH UI i.op):=d0;have e1:aJ s.f x op=(i,decide (i.op=op)&&cI s.f x):=by unfold aJ;rw[hm];rfl
  by_cases c:i.op=op
  ·simp[hui,d0,c,huf];refine ah U0 (q7 (ruf.mono cd.wle) hsm hx) ?_;rintro _ h1 ⟨rfl,hle1⟩;have c1:Cx W h Wd h1 _:=⟨cd.own.ext' hle1,cd.old,UF cd.le0 hle1,cd.new⟩;refine⟨c1.wle,?_⟩;refine c1.bG (k:=(0,0)) Own.ao rui rfl rfl U0 rfl rfl λh2 l' hl' c2=>?_;subst hz;simp[c2.all (k:=(0,0)) Own.ao];exact fin _ _ _ (by rw[e1];simp[c]) hl' (by rw[e1];rfl) c2
  simp[hui,d0,c];refine cd.bG (k:=(0,0)) Own.ao rui rfl rfl U0 rfl rfl λh2 l' hl' c2=>?_;subst hz;simp[c2.all (k:=(0,0)) Own.ao];exact fin _ _ _ (by rw[e1];simp[c]) hl' (by rw[e1];rfl) c2
theorem xv{s:cC}{v:Value}{x lo hi:Int}{h:Heap}{W:View}(hW:W.le (vw h))(hv:Rd W v s)(hsm:SmF s.f)(hx:I64 x):
  ay UQ 195 #[v,UH UI x,UH UI lo,UH UI hi] h (λu h'=>(vw h).le (vw h')/\u = .tuple #[UH UI (fh s.f x lo hi).1,.bool (fh s.f x lo hi).2]):=by
 refine aq (args:=[v,UH UI x,UH UI lo,UH UI hi]) follows Tryz.func195 E.ig UC λK hK=>?_;dsimp only[L.ig,lkF,lkG];have c0:=Cx.start hW;refine aa λz hz=>?_;simp;refine c0.ey rfl hv λB ha Wa hWa ca hat hlea=>?_;subst hz;refine aa λz hz=>?_;obtain⟨us,hus,rus⟩:=hat.ldN rfl (N:=13) rfl;simp[hus _ ca.wle];refine ah U0 (oU ca.wle rus hsm hx) ?_;rintro _ hc ⟨hle,vi,rfl,hvi⟩;have cc:=ca.ext hle;simp;refine cc.eC (α:=InsD) hvi (n:=5) (z:=zz5) U0 rfl rfl U0 U5 U5 λB2 hd Wd hWd cd hat2 hle2=>?_;subst hz;refine aa λz hz=>?_;refine aK Wd cd.wle ?_;have hp:=hat2.part InsD.jD;have d4:an Wd ⟨B2,4,UL⟩=UK (UH UJ (aJ s.f x 1).1.imm.v):=by simpa using hp.i32
 obtain⟨_,-,rng⟩:=hp.load rfl;have rng:=(FU.1 rng).2;have ew:IntKind.i64.wrap (aJ s.f x 1).1.imm.v=(aJ s.f x 1).1.imm.v:=bc U1 U1;cases hb:(aJ s.f x 1).2 with
 | false=>simp[d4,ew];subst hz;simp;exact hK _ _ ⟨cd.le0,by simp[fh,hb]⟩
 | true=>simp[d4,ew];refine ah U0 jZ ?_;rintro _ hd ⟨rfl,rfl⟩;refine⟨cd.wle,?_⟩;subst hz;simp;exact hK _ _ ⟨cd.le0,by simp[fh,hb]⟩
theorem SlRd.rng{H:View}{v:Value}{l:List Int}(h:SlRd H v l){i:Nat}(hi:i<l.length):-9223372036854775808<=nth l i/\nth l i<=9223372036854775807:=by have:=(h.at hi).rng;rw[aC hi];exact this
theorem At.nY{H:View}{a:Addr}{d:I32}(h:At H a d):-2147483648<=d.v/\d.v<=2147483647:=by obtain⟨u,h1,h2⟩:=h.load rfl;exact(FU.1 h2).2
def cg(V:View)(h h':Heap)(u:Value)(r:Option FitD):Prop:=(vw h).le (vw h')/\∃vf x,u = .tuple #[vf,.bool r.isSome]/\Rd (grow V h h') vf x/\∀y,r=UK y->x=y
structure qJ(W:View)(v:Value)(r:Option FitD):Prop where
 ex : ∃fn caps,v = .func (.func fn) #[] caps/\isFn UQ fn=UO/\∀h V,W.le V->V.le (vw h)->ay UQ fn caps h (λu h'=>cg V h h' u r)
theorem qJ.mono{W W':View}{v:Value}{r:Option FitD}(f:qJ W v r)(hW:W.le W'):qJ W' v r:=let ⟨fn,caps,e,i,h⟩:=f.ex;⟨fn,caps,e,i,λh' V hV hh=>h h' V (UF hW hV) hh⟩
theorem cg.of{V W:View}{h h':Heap}{o:Own}{u:Value}{x:FitD}{b:Bool}{r:Option FitD}(c:Cx V h W h' o)(hr:Rd W u x)(hb:b=r.isSome)(hx : ∀y,r=UK y->x=y):cg V h h' (.tuple #[u,.bool b]) r:=⟨c.le0,u,x,by rw[hb],hr.mono c.fin,hx⟩
structure wE(i:InsD):Prop where
 two:2<=i.op/\i.op<=14\/i.op=16\/i.op=18->2<=i.args.length
 one:i.op=15->1<=i.args.length
 most:i.args.length<=10000
structure mJ(s:cC):Prop where
 sm:SmF s.f
 all : ∀i∈fg s.f,wE i
 one:wE s.i
 rng : ∀i∈fg s.f,-2147483648<=i.imm.v/\i.imm.v<=2147483647
structure Ct(W:View)(S I:Nat)(s:cC):Prop where
 site:At W ⟨S,0,UL⟩ s
 ins:At W ⟨I,0,UL⟩ s.i
theorem Ct.mono{W W':View}{S I:Nat}{s:cC}(c:Ct W S I s)(h:W.le W'):Ct W' S I s:=⟨c.site.mono h,c.ins.mono h⟩
abbrev fitZ:List Value:=[UM UL 0 0,UM UL 0 0,UM UL 0 0,UH UI 0,UH UI 0,UH UI 0,UM UL 0 0,UH UJ 0]
theorem gq{H:View}:Rd H (.agg fitZ.toArray) I8:=nv (v1:=UM UL 0 0) (v2:=UM UL 0 0) (v3:=UM UL 0 0) aS aS aS (mH U2 U3 aS)
section
variable{W V:View}{S I R:Nat}{s:cC}{h:Heap}
theorem GW(hV:V.le (vw h)):ay UQ 187 #[] h (λu h'=>cg V h h' u UL):=by refine aq (args:=[]) follows Tryz.func187 E.gh UC λK hK=>?_;dsimp only[L.gh,lkF,lkG];have c0:=Cx.start hV;refine aa λz hz=>?_;simp;refine c0.de (k:=(0,0)) (n:=7) (z:=.agg fitZ.toArray) rfl U0 rfl U3 U8 λR hb hleb cb=>?_;subst hz;refine aa λz hz=>?_;simp;refine aA (z:=.agg fitZ.toArray) (places:=zpc) (vs:=[]) (cs:=fitZ.toArray) U0 U0 U2 U0 ?_;refine cb.bG (k:=(0,0)) Own.ao gq rfl rfl U0 rfl rfl λh9 l9 hl9 c9=>?_;subst hz;simp[c9.all (k:=(0,0)) Own.ao];exact hK _ _ (cg.of c9 (hl9▸gq) rfl λy e=>by cases e)
theorem LQ(ct:Ct V S I s)(hV:V.le (vw h)):ay UQ 191 #[ptz I] h (λu h'=>cg V h h' u (UK ⟨[],[],[⟨4,s.i.dst,0,0,0,0,s.i.imm,[]⟩],dc⟩)):=by refine aq (args:=[ptz I]) follows Tryz.func191 E.fX UC λK hK=>?_;dsimp only[L.fX,lkF,lkG];have c0:=Cx.start hV;refine aa λz hz=>?_;simp;refine c0.de (k:=(0,0)) (n:=7) (z:=.agg fitZ.toArray) rfl U0 rfl U3 U8 λR hb hleb cb=>?_;subst hz;refine aa λz hz=>?_;have i1:=(ct.ins.part InsD.gm);have i4:=(ct.ins.part InsD.jD);have r1:=i1.rng;have r4:=i4.nY;have i1:an (vw hb) ⟨I,1,UL⟩=UK (UH UI s.i.dst):=ae cb.wle (by simpa using i1.int);have i4:an (vw hb) ⟨I,4,UL⟩=UK (UH UJ s.i.imm.v):=ae cb.wle (by simpa using i4.i32);simp[i1,i4];refine aA (z:=zz8) (places:=zpb) (vs:=[(0,UH UI 4),(1,UH UI s.i.dst),(6,UH UJ s.i.imm.v)]) (cs:=#[UH UI 4,UH UI s.i.dst,UH UI 0,UH UI 0,UH UI 0,UH UI 0,UH UJ s.i.imm.v,UM UL 0 0]) U0 U0 U2 U0 ?_;have hm:Rd V (.agg #[UH UI 4,UH UI s.i.dst,UH UI 0,UH UI 0,UH UI 0,UH UI 0,UH UJ s.i.imm.v,UM UL 0 0]) (⟨4,s.i.dst,0,0,0,0,s.i.imm,[]⟩:bz):=jV (by simp[r1]) r4 aS;refine ah U0 (lL cb.wle hm aS aS) ?_;rintro _ hE ⟨hle,vf,rfl,hvf⟩;have cE:=cb.ext hle;simp;refine cE.bG (k:=(0,0)) Own.ao hvf rfl rfl U0 rfl rfl λh9 l9 hl9 c9=>?_;subst hz;simp[c9.all (k:=(0,0)) Own.ao];exact hK _ _ (cg.of c9 (hl9▸hvf) rfl λy e=>by cases e;rfl)
theorem LH(ct:Ct V S I s)(hV:V.le (vw h)):ay UQ 189 #[ptz I] h (λu h'=>cg V h h' u (if inR s.i.imm.v (-32768) 32767 then UK ⟨[],[],[⟨3,s.i.dst,0,0,0,0,s.i.imm,[]⟩],dc⟩ else UL)):=by
 refine aq (args:=[ptz I]) follows Tryz.func189 E.fZ UC λK hK=>?_;dsimp only[L.fZ,lkF,lkG];have c0:=Cx.start hV;refine aa λz hz=>?_;simp;refine c0.de (k:=(0,0)) (n:=7) (z:=.agg fitZ.toArray) rfl U0 rfl U3 U8 λR hb hleb cb=>?_;subst hz;refine aa λz hz=>?_;have i1:=(ct.ins.part InsD.gm);have i4:=(ct.ins.part InsD.jD);have r1:=i1.rng;have r4:=i4.nY;have i1:an V ⟨I,1,UL⟩=UK (UH UI s.i.dst):=by simpa using i1.int
 have i4:an V ⟨I,4,UL⟩=UK (UH UJ s.i.imm.v):=by simpa using i4.i32
 simp[ae cb.wle i1,ae cb.wle i4];refine aA (z:=zz8) (places:=zpb) (vs:=[(0,UH UI 3),(1,UH UI s.i.dst),(6,UH UJ s.i.imm.v)]) (cs:=#[UH UI 3,UH UI s.i.dst,UH UI 0,UH UI 0,UH UI 0,UH UI 0,UH UJ s.i.imm.v,UM UL 0 0]) U0 U0 U2 U0 ?_;have hm:Rd V (.agg #[UH UI 3,UH UI s.i.dst,UH UI 0,UH UI 0,UH UI 0,UH UI 0,UH UJ s.i.imm.v,UM UL 0 0]) (⟨3,s.i.dst,0,0,0,0,s.i.imm,[]⟩:bz):=jV (by simp[r1]) r4 aS;refine ah U0 (lL cb.wle hm aS aS) ?_;rintro _ hE ⟨hle,vf,rfl,hvf⟩;have cE:=cb.ext hle;simp;refine cE.eC (α:=FitD) hvf (n:=8) (z:=.agg fitZ.toArray) U0 rfl rfl U0 U5 U5 λB2 hF WF hWF cF hatF hleF=>?_;obtain⟨ux,hux,rux⟩:=hatF.ldN rfl (N:=8) rfl;have hux:=hux WF UE;subst hz;refine aa λz hz=>?_;refine aK WF cF.wle ?_;have ew:IntKind.i64.wrap s.i.imm.v=s.i.imm.v:=bc U1 U1;have vw1:V.le WF:=UF cb.up hWF;simp[hux,ae vw1 i4,ew];refine ah U0 jZ ?_;rintro _ hF ⟨rfl,rfl⟩;refine⟨cF.wle,?_⟩;refine cF.bG (k:=(0,0)) Own.ao rux rfl rfl U0 rfl rfl λh9 l9 hl9 c9=>?_;subst hz;simp[c9.all (k:=(0,0)) Own.ao];refine hK _ _ (cg.of c9 (hl9▸rux) (by split<;>simp_all) λy e=>?_);split at e<;>cases e;rfl
theorem L4{O:Nat}{op:Int}(ct:Ct V S I s)(hV:V.le (vw h))(hO:an V ⟨O,0,UL⟩=UK (UH UI op))(hop:2<=op/\op<=14)(ha:2<=s.i.args.length/\s.i.args.length<=10000) :
  ay UQ 192 #[ptz O,ptz I] h (λu h'=>cg V h h' u (UK ⟨s.i.args,[],[⟨op+3,s.i.dst,0,nth s.i.args 0,nth s.i.args 1,0,⟨0⟩,[]⟩],dc⟩)):=by
 refine aq (args:=[ptz O,ptz I]) follows Tryz.func192 E.fS UC λK hK=>?_;dsimp only[L.fS,lkF,lkG];have c0:=Cx.start hV;refine aa λz hz=>?_;simp;refine c0.de (k:=(0,0)) (n:=7) (z:=.agg fitZ.toArray) rfl U0 rfl U3 U8 λR hb hleb cb=>?_;subst hz;refine aa λz hz=>?_;have i1:=(ct.ins.part InsD.gm);have r1:=i1.rng;have i1:an V ⟨I,1,UL⟩=UK (UH UI s.i.dst):=by simpa using i1.int
 have i2:=(ct.ins.part InsD.xV);have r2:=i2.rng;have i2:an V ⟨I,2,UL⟩=UK (UH UI s.i.two):=by simpa using i2.int
 have i4:=(ct.ins.part InsD.jD);have r4:=i4.nY;have i4:an V ⟨I,4,UL⟩=UK (UH UJ s.i.imm.v):=by simpa using i4.i32
 obtain⟨va,i3,hva⟩:=(ct.ins.part InsD.eX).sl;have i3:an V ⟨I,3,UL⟩=UK va:=by simpa using i3
 have e1:5+op-2=op+3:=by omega
 have a0:=hva.rng (i:=0) U1;have a1:=hva.rng (i:=1) U1;have hm : ∀X,Rd X (.agg #[UH UI (op+3),UH UI s.i.dst,UH UI 0,UH UI (nth s.i.args 0),UH UI (nth s.i.args 1),UH UI 0,UH UJ 0,UM UL 0 0]) (⟨op+3,s.i.dst,0,nth s.i.args 0,nth s.i.args 1,0,⟨0⟩,[]⟩:bz):=λX=>jV U9 U2 aS;refine aK V cb.wle ?_;simp(disch:=omega)[hO,i1,i3,hva.idx1 rfl,hva.int UE,e1];refine⟨?_,?_⟩
 ·refine aA (z:=zz8) (places:=zpb) (vs:=[(0,UH UI (op+3)),(1,UH UI s.i.dst),(3,UH UI (nth s.i.args 0)),(4,UH UI (nth s.i.args 1))]) (cs:=#[UH UI (op+3),UH UI s.i.dst,UH UI 0,UH UI (nth s.i.args 0),UH UI (nth s.i.args 1),UH UI 0,UH UJ 0,UM UL 0 0]) U0 U0 U2 U0 ?_;refine⟨UF UE cb.wle,?_⟩;refine ah U0 (eO cb.wle (hva.mono UE) U1) ?_;rintro u1 h1 ⟨hle1,hcl1⟩;have c1:=cb.ext hle1;refine⟨UF (UF UE (cb.up)) c1.wle,?_⟩;refine ah U0 (lL c1.wle (hm _) hcl1 aS) ?_;rintro _ hE ⟨hleE,vf,rfl,hvf⟩;have cE:=c1.ext hleE;simp;refine cE.bG (k:=(0,0)) Own.ao hvf rfl rfl U0 rfl rfl λh9 l9 hl9 c9=>?_;subst hz;simp[c9.all (k:=(0,0)) Own.ao];exact hK _ _ (cg.of c9 (hl9▸hvf) rfl λy e=>by cases e;rfl)
 refine ah U0 (eO cb.wle (hva.mono UE) U1) ?_;rintro u1 h1 ⟨hle1,hcl1⟩;have c1:=cb.ext hle1;refine⟨UF (UF UE (cb.up)) c1.wle,?_⟩;refine aA (z:=zz8) (places:=zpb) (vs:=[(0,UH UI (op+3)),(1,UH UI s.i.dst),(3,UH UI (nth s.i.args 0)),(4,UH UI (nth s.i.args 1))]) (cs:=#[UH UI (op+3),UH UI s.i.dst,UH UI 0,UH UI (nth s.i.args 0),UH UI (nth s.i.args 1),UH UI 0,UH UJ 0,UM UL 0 0]) U0 U0 U2 U0 ?_;refine⟨UF (UF UE (cb.up)) c1.wle,?_⟩;refine ah U0 (lL c1.wle (hm _) hcl1 aS) ?_;rintro _ hE ⟨hleE,vf,rfl,hvf⟩;have cE:=c1.ext hleE;simp;refine cE.bG (k:=(0,0)) Own.ao hvf rfl rfl U0 rfl rfl λh9 l9 hl9 c9=>?_;subst hz;simp[c9.all (k:=(0,0)) Own.ao];exact hK _ _ (cg.of c9 (hl9▸hvf) rfl λy e=>by cases e;rfl)
theorem Nb(ct:Ct V S I s)(hV:V.le (vw h))(ha:s.i.args.length<=10000) :
  ay UQ 198 #[ptz I] h (λu h'=>cg V h h' u (UK ⟨s.i.args,[],[⟨28,s.i.dst,0,0,0,0,s.i.imm,s.i.args⟩],dc⟩)):=by
 refine aq (args:=[ptz I]) follows Tryz.func198 E.gl UC λK hK=>?_;dsimp only[L.gl,lkF,lkG];have c0:=Cx.start hV;refine aa λz hz=>?_;simp;refine c0.de (k:=(0,0)) (n:=7) (z:=.agg fitZ.toArray) rfl U0 rfl U3 U8 λR hb hleb cb=>?_;subst hz;refine aa λz hz=>?_;have i1:=(ct.ins.part InsD.gm);have r1:=i1.rng;have i1:an V ⟨I,1,UL⟩=UK (UH UI s.i.dst):=by simpa using i1.int
 have i2:=(ct.ins.part InsD.xV);have r2:=i2.rng;have i2:an V ⟨I,2,UL⟩=UK (UH UI s.i.two):=by simpa using i2.int
 have i4:=(ct.ins.part InsD.jD);have r4:=i4.nY;have i4:an V ⟨I,4,UL⟩=UK (UH UJ s.i.imm.v):=by simpa using i4.i32
 obtain⟨va,i3,hva⟩:=(ct.ins.part InsD.eX).sl;have i3:an V ⟨I,3,UL⟩=UK va:=by simpa using i3
 have hm : ∀{X w},SlRd X w s.i.args->Rd X (.agg #[UH UI 28,UH UI s.i.dst,UH UI 0,UH UI 0,UH UI 0,UH UI 0,UH UJ s.i.imm.v,w]) (⟨28,s.i.dst,0,0,0,0,s.i.imm,s.i.args⟩:bz):=λhw=>jV U9 r4 hw;refine aK V cb.wle ?_;simp(disch:=omega)[i1,i3,i4];refine ah U0 (eO cb.wle hva U1) ?_;rintro u1 h1 ⟨hle1,hcl1⟩;have c1:=cb.ext hle1;refine⟨UF cb.up c1.wle,?_⟩;have q1:=hcl1;obtain⟨b1,k1,rfl,-⟩:=q1;refine⟨?_,?_⟩
 ·refine aA (z:=zz8) (places:=zpb) (vs:=[(0,UH UI 28),(1,UH UI s.i.dst),(6,UH UJ s.i.imm.v),(7,.slice b1 s.i.args.length k1)]) (cs:=#[UH UI 28,UH UI s.i.dst,UH UI 0,UH UI 0,UH UI 0,UH UI 0,UH UJ s.i.imm.v,.slice b1 s.i.args.length k1]) U0 U0 U2 U0 ?_;refine⟨UF cb.up c1.wle,?_⟩;refine ah U0 (eO c1.wle (hva.mono cb.up) U1) ?_;rintro u2 h2 ⟨hle2,hcl2⟩;have c2:=c1.ext hle2;refine⟨UF (UF cb.up c1.up) c2.wle,?_⟩;refine ah U0 (lL c2.wle (hm (hcl1.mono c1.up)) hcl2 aS) ?_;rintro _ hE ⟨hleE,vf,rfl,hvf⟩;have cE:=c2.ext hleE;simp;refine cE.bG (k:=(0,0)) Own.ao hvf rfl rfl U0 rfl rfl λh9 l9 hl9 c9=>?_;subst hz;simp[c9.all (k:=(0,0)) Own.ao];exact hK _ _ (cg.of c9 (hl9▸hvf) rfl λy e=>by cases e;rfl)
 refine ah U0 (eO c1.wle (hva.mono cb.up) U1) ?_;rintro u2 h2 ⟨hle2,hcl2⟩;have c2:=c1.ext hle2;refine⟨UF (UF cb.up c1.up) c2.wle,?_⟩;refine aA (z:=zz8) (places:=zpb) (vs:=[(0,UH UI 28),(1,UH UI s.i.dst),(6,UH UJ s.i.imm.v),(7,.slice b1 s.i.args.length k1)]) (cs:=#[UH UI 28,UH UI s.i.dst,UH UI 0,UH UI 0,UH UI 0,UH UI 0,UH UJ s.i.imm.v,.slice b1 s.i.args.length k1]) U0 U0 U2 U0 ?_;refine⟨UF (UF cb.up c1.up) c2.wle,?_⟩;refine ah U0 (lL c2.wle (hm (hcl1.mono c1.up)) hcl2 aS) ?_;rintro _ hE ⟨hleE,vf,rfl,hvf⟩;have cE:=c2.ext hleE;simp;refine cE.bG (k:=(0,0)) Own.ao hvf rfl rfl U0 rfl rfl λh9 l9 hl9 c9=>?_;subst hz;simp[c9.all (k:=(0,0)) Own.ao];exact hK _ _ (cg.of c9 (hl9▸hvf) rfl λy e=>by cases e;rfl)
theorem Mr(ct:Ct V S I s)(hV:V.le (vw h))(ha:2<=s.i.args.length/\s.i.args.length<=10000) :
  ay UQ 199 #[ptz I] h (λu h'=>cg V h h' u (UK ⟨s.i.args,[],[⟨29,s.i.dst,s.i.two,nth s.i.args 0,nth s.i.args 1,0,⟨0⟩,[]⟩],dc⟩)):=by
 refine aq (args:=[ptz I]) follows Tryz.func199 E.gk UC λK hK=>?_;dsimp only[L.gk,lkF,lkG];have c0:=Cx.start hV;refine aa λz hz=>?_;simp;refine c0.de (k:=(0,0)) (n:=7) (z:=.agg fitZ.toArray) rfl U0 rfl U3 U8 λR hb hleb cb=>?_;subst hz;refine aa λz hz=>?_;have i1:=(ct.ins.part InsD.gm);have r1:=i1.rng;have i1:an V ⟨I,1,UL⟩=UK (UH UI s.i.dst):=by simpa using i1.int
 have i2:=(ct.ins.part InsD.xV);have r2:=i2.rng;have i2:an V ⟨I,2,UL⟩=UK (UH UI s.i.two):=by simpa using i2.int
 have i4:=(ct.ins.part InsD.jD);have r4:=i4.nY;have i4:an V ⟨I,4,UL⟩=UK (UH UJ s.i.imm.v):=by simpa using i4.i32
 obtain⟨va,i3,hva⟩:=(ct.ins.part InsD.eX).sl;have i3:an V ⟨I,3,UL⟩=UK va:=by simpa using i3
 have a0:=hva.rng (i:=0) U1;have a1:=hva.rng (i:=1) U1;have hm : ∀X,Rd X (.agg #[UH UI 29,UH UI s.i.dst,UH UI s.i.two,UH UI (nth s.i.args 0),UH UI (nth s.i.args 1),UH UI 0,UH UJ 0,UM UL 0 0]) (⟨29,s.i.dst,s.i.two,nth s.i.args 0,nth s.i.args 1,0,⟨0⟩,[]⟩:bz):=λX=>jV U9 U2 aS;refine aK V cb.wle ?_;simp(disch:=omega)[i1,i2,i3,hva.idx1 rfl,hva.int UE];refine⟨?_,?_⟩
 ·refine aA (z:=zz8) (places:=zpb) (vs:=[(0,UH UI 29),(1,UH UI s.i.dst),(2,UH UI s.i.two),(3,UH UI (nth s.i.args 0)),(4,UH UI (nth s.i.args 1))]) (cs:=#[UH UI 29,UH UI s.i.dst,UH UI s.i.two,UH UI (nth s.i.args 0),UH UI (nth s.i.args 1),UH UI 0,UH UJ 0,UM UL 0 0]) U0 U0 U2 U0 ?_;refine⟨UF UE cb.wle,?_⟩;refine ah U0 (eO cb.wle (hva.mono UE) U1) ?_;rintro u1 h1 ⟨hle1,hcl1⟩;have c1:=cb.ext hle1;refine⟨UF (UF UE (cb.up)) c1.wle,?_⟩;refine ah U0 (lL c1.wle (hm _) hcl1 aS) ?_;rintro _ hE ⟨hleE,vf,rfl,hvf⟩;have cE:=c1.ext hleE;simp;refine cE.bG (k:=(0,0)) Own.ao hvf rfl rfl U0 rfl rfl λh9 l9 hl9 c9=>?_;subst hz;simp[c9.all (k:=(0,0)) Own.ao];exact hK _ _ (cg.of c9 (hl9▸hvf) rfl λy e=>by cases e;rfl)
 refine ah U0 (eO cb.wle (hva.mono UE) U1) ?_;rintro u1 h1 ⟨hle1,hcl1⟩;have c1:=cb.ext hle1;refine⟨UF (UF UE (cb.up)) c1.wle,?_⟩;refine aA (z:=zz8) (places:=zpb) (vs:=[(0,UH UI 29),(1,UH UI s.i.dst),(2,UH UI s.i.two),(3,UH UI (nth s.i.args 0)),(4,UH UI (nth s.i.args 1))]) (cs:=#[UH UI 29,UH UI s.i.dst,UH UI s.i.two,UH UI (nth s.i.args 0),UH UI (nth s.i.args 1),UH UI 0,UH UJ 0,UM UL 0 0]) U0 U0 U2 U0 ?_;refine⟨UF (UF UE (cb.up)) c1.wle,?_⟩;refine ah U0 (lL c1.wle (hm _) hcl1 aS) ?_;rintro _ hE ⟨hleE,vf,rfl,hvf⟩;have cE:=c1.ext hleE;simp;refine cE.bG (k:=(0,0)) Own.ao hvf rfl rfl U0 rfl rfl λh9 l9 hl9 c9=>?_;subst hz;simp[c9.all (k:=(0,0)) Own.ao];exact hK _ _ (cg.of c9 (hl9▸hvf) rfl λy e=>by cases e;rfl)
end
theorem Hh(n:Int):-2147483648<=(w32 n).v/\(w32 n).v<=2147483647:=by unfold w32 IntKind.wrap;simp[IntKind.signed,IntKind.bits];omega
section
variable{W V:View}{S I R:Nat}{s:cC}{h:Heap}
theorem zu{f:ak}{v lo hi:Int}(hr : ∀i∈fg f,-2147483648<=i.imm.v/\i.imm.v<=2147483647):-2147483648<=(fh f v lo hi).1/\(fh f v lo hi).1<=2147483647:=by
 unfold fh aJ;cases hm:qN f v with
 | none=>exact⟨(by decide:(-2147483648:Int)<=0),(by decide:(0:Int)<=2147483647)⟩
 | some i=>exact hr i (SZ hm)
set_option maxHeartbeats 4000000 in
/-- addi to sari. -/
theorem KH{L1 M1 O1 G1:Nat}{lo hi m sign:Int}(ct:Ct V S I s)(hV:V.le (vw h))(hok:mJ s)(ha:2<=s.i.args.length)(hl:an V ⟨L1,0,UL⟩=UK (UH UI lo))(hh:an V ⟨M1,0,UL⟩=UK (UH UI hi))(hm:an V ⟨O1,0,UL⟩=UK (UH UI m))(hg:an V ⟨G1,0,UL⟩=UK (UH UI sign))(hs:sign=1\/sign=-1)(hm0:0<=m/\m<=100):
    ay UQ 194 #[ptz S,ptz I,ptz L1,ptz M1,ptz O1,ptz G1] h
      (λu h'=>cg V h h' u (immS s.f s.i m lo hi sign)):=by
  refine aq (args:=[ptz S,ptz I,ptz L1,ptz M1,ptz O1,ptz G1]) follows Tryz.func194 E.cY UC λK hK=>?_
  dsimp only[L.cY,lkF,lkG]
  have c0:=Cx.start hV
  refine aa λz hz=>?_
  simp
  refine c0.de (k:=(0,0)) (n:=7) (z:=.agg fitZ.toArray) rfl U0 rfl U3 U8 λR hb hleb cb=>?_
  subst hz
  have i1:=(ct.ins.part InsD.gm)
  have r1:=i1.rng
  have i1:an V ⟨I,1,UL⟩=UK (UH UI s.i.dst):=by simpa using i1.int
  obtain⟨va,i3,hva⟩:=(ct.ins.part InsD.eX).sl
  have i3:an V ⟨I,3,UL⟩=UK va:=by simpa using i3
  have a0:=hva.rng (i:=0) U1
  have a1:=hva.rng (i:=1) U1
  obtain⟨us,hus,rus⟩:=ct.site.ldN rfl (N:=13) rfl
  have hus:=hus V UE
  have most:=hok.one.most
  refine aa λz hz=>?_
  refine aK V cb.wle ?_
  simp(disch:=omega)[hus,i3,hva.idx1 rfl,hva.int UE,hl,hh]
  refine ah U0 (xv cb.wle rus hok.sm a1) ?_
  rintro _ hc ⟨hle,rfl⟩
  have cc:Cx V h V hc _:=⟨cb.own.ext' hle,cb.old,UF cb.le0 hle,cb.new⟩
  simp
  have rk:-2147483648<=(fh s.f (nth s.i.args 1) lo hi).1/\(fh s.f (nth s.i.args 1) lo hi).1<=2147483647:=zu hok.rng
  generalize hk:(fh s.f (nth s.i.args 1) lo hi).1=k at *
  generalize hb2:(fh s.f (nth s.i.args 1) lo hi).2=ok at *
  subst hz
  refine aa λz hz=>?_
  refine aK V cc.wle ?_
  have e1:IntKind.i64.wrap (sign*k)=sign*k:=by rcases hs with rfl | rfl<;>exact bc U1 U1
  have hmm : ∀X,Rd X (.agg #[UH UI m,UH UI s.i.dst,UH UI 0,UH UI (nth s.i.args 0),UH UI 0,UH UI 0,UH UJ (IntKind.i32.wrap (sign*k)),UM UL 0 0]) (⟨m,s.i.dst,0,nth s.i.args 0,0,0,w32 (sign*k),[]⟩:bz):=λX=>jV (imm:=w32 (sign*k)) U9 (Hh _) aS
  have fin : ∀(W:View) (hx:Heap) (o:Own) (l9:List Value),Cx V h W hx o->Rd W (.agg l9.toArray) (⟨[nth s.i.args 0],[nth s.i.args 1],[⟨m,s.i.dst,0,nth s.i.args 0,0,0,w32 (sign*k),[]⟩],dc⟩:FitD)->K (.tuple #[.agg l9.toArray,.bool ok]) hx:=λW hx o l9 c hr=>
    hK _ _ (cg.of c hr (by unfold immS;rw[hb2];split<;>simp_all) λy e=>by
      unfold immS at e
      rw[hb2,hk]at e
      split at e<;>cases e
      rfl)
  have c:=cc
  have q0:=hva.idx1 (k:=.i64) (i:=0) rfl U3 U1
  have q1:=hva.idx1 (k:=.i64) (i:=1) rfl U3 U1
  have d0:=hva.int (View.le_refl V) (i:=0) U1
  have d1:=hva.int (View.le_refl V) (i:=1) U1
  repeat' (first
    | refine jg ?_ ?_
    | (refine dh λy hy=>?_
       simp[hm,hg,i1,i3,q0,q1,d0,d1,e1]
       first
       | refine aA (z:=.agg #[UH UI 0,UH UI 0,UH UI 0,UH UI 0,UH UI 0,UH UI 0,UH UJ 0,UM UL 0 0]) (places:=zpb) (vs:=[(0,UH UI m),(1,UH UI s.i.dst),(3,UH UI (nth s.i.args 0)),(6,UH UJ (IntKind.i32.wrap (sign*k)))]) (cs:=#[UH UI m,UH UI s.i.dst,UH UI 0,UH UI (nth s.i.args 0),UH UI 0,UH UI 0,UH UJ (IntKind.i32.wrap (sign*k)),UM UL 0 0]) U0 U0 U2 U0 ?_
       | (refine c.mF (α:=Int) (n:=1) (vs:=[UH UI (nth s.i.args 0)]) (ds:=[nth s.i.args 0]) El.aY ?_ ⟨bw.2 ⟨rfl,a0⟩,trivial⟩ rfl U3 U3 λuA h W hW c huA hle=>?_
          · simp;done)
       | (refine c.mF (α:=Int) (n:=1) (vs:=[UH UI (nth s.i.args 1)]) (ds:=[nth s.i.args 1]) El.aY ?_ ⟨bw.2 ⟨rfl,a1⟩,trivial⟩ rfl U3 U3 λuB h W hW c huB hle=>?_
          · simp;done)
       | refine c.de (k:=(0,1)) (n:=7) (z:=.agg fitZ.toArray) U4 U0 rfl U3 U8 λR2 h hle c=>?_
       | (refine ah U0 (lL c.wle (hmm _) (huA.mono UD) (huB.mono UD)) ?_
          rintro _ h ⟨hle,vf,rfl,hvf⟩
          have hW:=c.up (h':=h)
          have c:=c.ext hle)
       | refine c.bG (k:=(0,1)) (n:=7) (l:=fitZ) U4 (hvf.mono UD) rfl rfl U0 rfl rfl λh l9 hl9 c=>?_
       try refine⟨UF UD c.wle,?_⟩
       subst hy))
  all_goals
    simp
    rw[hz]
    subst hl9
    have hall:=c.all (k:=(0,1)) (n:=7) (l:=l9) (B:=R2) (e:=T.bf) U4
    simp at hall
    simp[hall]
    refine c.bG (k:=(0,0)) (n:=7) (l:=fitZ) U4 (hvf.mono UD) rfl rfl U0 rfl rfl λh9 l9' hl9' c9=>?_
    have hall:=c9.all (k:=(0,0)) (n:=7) (l:=l9') (B:=R) (e:=T.bf) U4
    simp at hall
    simp[hall]
    exact fin _ _ _ _ c9 (hl9'▸hvf.mono UD)
end
variable{po:OP}
theorem HI{P:Program}{ty:TypeId}{us:List (Nat × Value)}{h:Heap}{K:Value->Heap->Prop}{f:FuncId}{x:Operand}{v:Value}(hx:asg us x=v)(hk:K (.func (.func f) #[v] #[]) h):step P (.makeFunc (.func f) #[x] #[]) ty us h K:=by refine df (cB λw hw=>⟨_,w,?_,Same.refl _,by rw[hw];exact hk⟩);simp only[bL,execOp];simp[Instr.makeFunc,hx]
theorem IF{P:Program}{ty:TypeId}{us:List (Nat × Value)}{h:Heap}{K:Value->Heap->Prop}{f:FuncId}{t:Nat}{ops:List Operand}{T:Array TypeId}{first caps:Array Value}(hf:asg us (.tmp t) = .func (.func f) first caps){R:Value->Heap->Prop}(hfn:isFn P f=UO)
  (hc:ay P f (first.toList++ops.map (asg us)++caps.toList).toArray h R) (hk : ∀v h',R v h'->K v h'):step P (.call ⟨.value (.tmp t),ops.toArray,T⟩) ty us h K:=by
 refine df (tN (R:=R) (f:=f) (args:=(first.toList++ops.map (asg us)++caps.toList).toArray) (λw _=>?_) hc hk);unfold isFn at hfn;cases hfn':P.funcs[f]? with
 | none=>simp[hfn']at hfn
 | some fn=>simp only[hfn',Q9,bne_iff_ne,ne_eq]at hfn;obtain⟨h1,h2⟩:=hfn;simp[bL,execOp,resolve,Deferred.ofValue,hf,invoke,callFunc,program,Sem.run,hfn',h1,Option.isNone];cases hb:fn.body<;>simp[hb]at h2 ⊢
end Go.Lft
namespace Go.Lft
section
variable{W V:View}{S I R:Nat}{s:cC}{h:Heap}
theorem ff{f:ak}{v op:Int}(hb:(aJ f v op).2=UO):(aJ f v op).1∈fg f/\(aJ f v op).1.op=op/\cI f v=UO/\(aJ f v op).1.dst=v/\(aJ f v op).1.op≠16:=by
 unfold aJ at *;cases hm:qN f v with
 | none=>rw[hm]at hb;cases hb
 | some i=>rw[hm]at hb;have hb:(decide (i.op=op)&&cI f v)=true:=hb;simp at hb;have hp:=Uw hm;simp[jE]at hp;exact⟨SZ hm,hb.1,hb.2,hp.2,hp.1⟩
set_option maxHeartbeats 4000000 in
/-- madd. -/
theorem L8{Z:Nat}(ct:Ct V S I s)(hV:V.le (vw h))(hok:mJ s)(ha:2<=s.i.args.length)(hz0:an V ⟨Z,0,UL⟩=UK (.func (.func 187) #[] #[])) :
    ay UQ 196 #[ptz S,ptz I,ptz Z] h
      (λu h'=>cg V h h' u (doS s.f s.i s.temp 22)):=by
  refine aq (args:=[ptz S,ptz I,ptz Z]) follows Tryz.func196 E.fW UC λK hK=>?_
  dsimp only[L.fW,lkF,lkG]
  have c0:=Cx.start hV
  refine aa λz hz=>?_
  simp
  refine c0.de (k:=(0,0)) (n:=7) (z:=.agg fitZ.toArray) rfl U0 rfl U3 U8 λR hb hleb cb=>?_
  subst hz
  have i1:=(ct.ins.part InsD.gm)
  have r1:=i1.rng
  have i1:an V ⟨I,1,UL⟩=UK (UH UI s.i.dst):=by simpa using i1.int
  obtain⟨va,i3,hva⟩:=(ct.ins.part InsD.eX).sl
  have i3:an V ⟨I,3,UL⟩=UK va:=by simpa using i3
  have a0:=hva.rng (i:=0) U1
  have a1:=hva.rng (i:=1) U1
  obtain⟨us,hus,rus⟩:=ct.site.ldN rfl (N:=13) rfl
  have q0:=hva.idx1 (k:=.i64) (i:=0) rfl U3 U1
  have q1:=hva.idx1 (k:=.i64) (i:=1) rfl U3 U1
  refine aa λz hz=>?_
  simp[hus _ cb.wle]
  refine HI rfl ?_
  subst hz
  refine aa λz hz=>?_
  simp[ae cb.wle i3,q0,hva.int cb.wle (i:=0) U1]
  refine IF (ops:=[.tmp 15,.const (UH UI 4)]) rfl U0 (oU (x:=nth s.i.args 0) (op:=4) cb.wle rus hok.sm a0) ?_
  rintro _ hc ⟨hle,vm,rfl,hvm⟩
  have cc:=cb.ext hle
  have hWc:=cb.up (h':=hc)
  have hdo:doS s.f s.i s.temp 22=if(aJ s.f (nth s.i.args 0) 4).2 then
      UK ⟨[nth (aJ s.f (nth s.i.args 0) 4).1.args 0,nth (aJ s.f (nth s.i.args 0) 4).1.args 1,nth s.i.args 1],[nth s.i.args 0],[⟨23,s.i.dst,0,nth (aJ s.f (nth s.i.args 0) 4).1.args 0,nth (aJ s.f (nth s.i.args 0) 4).1.args 1,nth s.i.args 1,⟨0⟩,[]⟩],dc⟩
    else none:=rfl
  have hfm:=ff (f:=s.f) (v:=nth s.i.args 0) (op:=4)
  generalize (aJ s.f (nth s.i.args 0) 4).1=m at *
  generalize (aJ s.f (nth s.i.args 0) 4).2=b at *
  simp
  refine cc.eC (α:=InsD) hvm (n:=5) (z:=zz5) U0 rfl rfl U0 U5 U5 λB2 hd Wd hWd cd hat2 hle2=>?_
  subst hz
  have vw1:V.le Wd:=UF hWc hWd
  refine aa λz hz=>?_
  cases b with
  | false=>
    simp[ae (UF vw1 cd.wle) hz0]
    refine bZ (ops:=[]) rfl U0 (GW cd.wle) ?_
    rintro _ he ⟨hle3,vf,x,rfl,hvf,-⟩
    have ce:=cd.ext hle3
    simp
    refine ce.bG (k:=(0,0)) (n:=7) (l:=fitZ) U4 hvf rfl rfl U0 rfl rfl λh9 l9 hl9 c9=>?_
    simp[c9.all (k:=(0,0)) Own.ao]
    exact hK _ _ (cg.of c9 (hl9▸hvf) (by rw[hdo];rfl) λy e=>by rw[hdo]at e;cases e)
  | true=>
    obtain⟨m1,m2,-⟩:=hfm rfl
    have hma:=(hok.all _ m1).two U1
    have r2:=hok.all _ m1
    obtain⟨vb,j3,hvb⟩:=(hat2.part InsD.eX).sl
    have j3:an Wd ⟨B2,3,UL⟩=UK vb:=by simpa using j3
    have b0:=hvb.rng (i:=0) U1
    have b1:=hvb.rng (i:=1) U1
    simp
    subst hz
    refine aa λz hz=>?_
    refine aK Wd cd.wle ?_
    have hmm : ∀X,Rd X (.agg #[UH UI 23,UH UI s.i.dst,UH UI 0,UH UI (nth m.args 0),UH UI (nth m.args 1),UH UI (nth s.i.args 1),UH UJ 0,UM UL 0 0]) (⟨23,s.i.dst,0,nth m.args 0,nth m.args 1,nth s.i.args 1,⟨0⟩,[]⟩:bz):=λX=>jV (imm:=⟨0⟩) U9 U2 aS
    have fin : ∀(W:View) (hx:Heap) (o:Own) (l9:List Value),Cx V h W hx o->Rd W (.agg l9.toArray) (⟨[nth m.args 0,nth m.args 1,nth s.i.args 1],[nth s.i.args 0],[⟨23,s.i.dst,0,nth m.args 0,nth m.args 1,nth s.i.args 1,⟨0⟩,[]⟩],dc⟩:FitD)->K (.tuple #[.agg l9.toArray,.bool UO]) hx:=λW hx o l9 c hr=>
      hK _ _ (cg.of c hr (by rw[hdo];rfl) λy e=>by rw[hdo]at e;cases e;rfl)
    have c:=cd
    have i1:=ae vw1 i1
    have i3:=ae vw1 i3
    have q2:=hvb.idx1 (k:=.i64) (i:=0) rfl U3 U1
    have q3:=hvb.idx1 (k:=.i64) (i:=1) rfl U3 U1
    have d0:=hva.int vw1 (i:=0) U1
    have d1:=hva.int vw1 (i:=1) U1
    have d2:=hvb.int (View.le_refl Wd) (i:=0) U1
    have d3:=hvb.int (View.le_refl Wd) (i:=1) U1
    repeat' (first
      | refine jg ?_ ?_
      | (refine dh λy hy=>?_
         simp[i1,i3,j3,q0,q1,q2,q3,d0,d1,d2,d3]
         first
         | refine aA (z:=.agg #[UH UI 0,UH UI 0,UH UI 0,UH UI 0,UH UI 0,UH UI 0,UH UJ 0,UM UL 0 0]) (places:=zpb) (vs:=[(0,UH UI 23),(1,UH UI s.i.dst),(3,UH UI (nth m.args 0)),(4,UH UI (nth m.args 1)),(5,UH UI (nth s.i.args 1))]) (cs:=#[UH UI 23,UH UI s.i.dst,UH UI 0,UH UI (nth m.args 0),UH UI (nth m.args 1),UH UI (nth s.i.args 1),UH UJ 0,UM UL 0 0]) U0 U0 U2 U0 ?_
         | (refine c.mF (α:=Int) (n:=3) (vs:=[UH UI (nth m.args 0),UH UI (nth m.args 1),UH UI (nth s.i.args 1)]) (ds:=[nth m.args 0,nth m.args 1,nth s.i.args 1]) El.aY ?_ ⟨bw.2 ⟨rfl,b0⟩,bw.2 ⟨rfl,b1⟩,bw.2 ⟨rfl,a1⟩,trivial⟩ rfl U3 U3 λuA h W hW c huA hle=>?_
            · simp;done)
         | (refine c.mF (α:=Int) (n:=1) (vs:=[UH UI (nth s.i.args 0)]) (ds:=[nth s.i.args 0]) El.aY ?_ ⟨bw.2 ⟨rfl,a0⟩,trivial⟩ rfl U3 U3 λuB h W hW c huB hle=>?_
            · simp;done)
         | (refine ah U0 (lL c.wle (hmm _) (huA.mono UD) (huB.mono UD)) ?_
            rintro _ h ⟨hle,vf,rfl,hvf⟩
            have hW:=c.up (h':=h)
            have c:=c.ext hle)
         | refine c.bG (k:=(0,0)) (n:=7) (l:=fitZ) U4 (hvf.mono UD) rfl rfl U0 rfl rfl λh l9 hl9 c=>?_
         try refine⟨UF UD c.wle,?_⟩
         subst hy))
    all_goals
      simp
      rw[hz]
      have hall:=c.all (k:=(0,0)) (n:=7) (l:=l9) (B:=R) (e:=T.bf) U4
      simp at hall
      simp[hall]
      exact fin _ _ _ _ c (hl9▸hvf.mono UD)
end
structure Pm(f:ak)(i:InsD)(temp:Int)(W:View)(h:Heap)(r:Nat)(n:Int->Bool):Prop where
 wle:W.le (vw h)
 av:W r=UL
 ex : ∃g:Int->Option Value,di (.int .i64) h r (mapE id g)/\(∀p,(g p).isSome=n p)/\∀p v,g p=UK v->qJ W v (patS f i temp p)
section
variable{f:ak}{i:InsD}{temp:Int}{W:View}{h h':Heap}{r S I O Z:Nat}{n:Int->Bool}
theorem Pm.ext(m:Pm f i temp W h r n)(hle:(vw h).le (vw h')):Pm f i temp (grow W h h') h' r n:=by obtain⟨g,h1,h2,h3⟩:=m.ex;exact⟨kR (UF m.wle hle),by rw[gP h1.lt];exact m.av,g,h1.ext hle,h2,λp v hp=>(h3 p v hp).mono (bo m.wle)⟩
theorem Pm.put(m:Pm f i temp W h r n){g:Int->Option Value}{p:Int}{v:Value}(hg:di (.int .i64) h' r (mapE id (putM g p v)))(h2 : ∀q,(g q).isSome=n q)(h3 : ∀q u,g q=UK u->qJ W u (patS f i temp q))(hv:qJ W v (patS f i temp p))(ho : ∀b,b≠r->h'[b]? = h[b]?) :
  Pm f i temp W h' r λq=>n q||decide (q=p):=by
 refine⟨λb o hb=>?_,m.av,_,hg,λq=>?_,λq u hq=>?_⟩
 ·show h'[b]? = _;rw[ho b (by rintro rfl;rw[m.av]at hb;cases hb)];exact m.wle b o hb
 ·unfold putM;by_cases e:q=p
  ·simp[e]
  simp[e,h2]
 unfold putM at hq;split at hq
 ·rename_i e;cases hq;rw[e];exact hv
 exact h3 q u hq
theorem F8:qJ W (.func (.func 187) #[] #[]) none:=⟨_,_,rfl,by kernel_rfl,λh V _ hV=>GW hV⟩
structure Wn(W:View)(s:cC)(S I O Z r:Nat):Prop where
 term:an W ⟨S,11,UL⟩=UK (.bool UP)
 op:an W ⟨I,0,UL⟩=UK (UH UI s.i.op)
 out:an W ⟨O,0,UL⟩=UK (.map (UK r))
 zero:an W ⟨Z,0,UL⟩=UK (.func (.func 187) #[] #[])
theorem Wn.mono{W':View}{s:cC}(w:Wn W s S I O Z r)(h:W.le W'):Wn W' s S I O Z r:=⟨ae h w.term,ae h w.op,ae h w.out,ae h w.zero⟩
theorem kL{s:cC}{op pat:Int}{v:Value}(m:Pm s.f s.i s.temp W h r n)(w:Wn W s S I O Z r)(hn:n pat=UP)(hp:1<=pat/\pat<=32)(hop:opOf pat.toNat=op)(hv:s.i.op=op->qJ W v (doS s.f s.i s.temp pat.toNat)) :
  ay UQ 188 #[UH UI op,UH UI pat,v,ptz S,ptz I,ptz O,ptz Z] h
   (λ_ h'=>Pm s.f s.i s.temp W h' r (λq=>n q||decide (q=pat))/\Kept h h' (UK r)):=by
 refine aq (args:=[UH UI op,UH UI pat,v,ptz S,ptz I,ptz O,ptz Z]) follows Tryz.func188 E.gn UC λK hK=>?_;dsimp only[L.gn,lkF,lkG];have wh:=w.mono m.wle;obtain⟨g,h1,h2,h3⟩:=m.ex;have hg:g pat=none:=by have:=h2 pat;rw[hn]at this;simpa using this
 by_cases c:s.i.op=op
 ·simp[wh.term,wh.op,wh.out,c];refine kz (.inl rfl) (t:=T.da) (k:=T.int) (e:=T.gM) (u:=UH UI pat) U.da U.int rfl rfl rfl cV h1 (mapE id (putM g pat v)) iy.1 iy.2 λh2' hs ho hm=>?_;exact hK _ _ ⟨m.put hm h2 h3 (by unfold patS;rw[if_pos ⟨hp.1,hp.2,by rw[hop];exact c⟩];exact hv c) ho,Kept.upd hs ho⟩
 simp[wh.term,wh.op,wh.out,c];refine wy (f:=mapE id g) (z:=.nilFunc) (k:=T.int) (e:=T.gM) (d:=.int .i64) (r:=r) (u:=UH UI pat) U.da U.int U0 rfl rfl cV h1 ?_;simp[hg];refine MR (v:=.nilFunc) (ps:=#[]) (rs:=#[T.bf,T.bool]) (vr:=false) U0 rfl rfl rfl ?_;simp[Cs,wh.out,wh.zero];refine kz (.inl rfl) (t:=T.da) (k:=T.int) (e:=T.gM) (u:=UH UI pat) U.da U.int rfl rfl rfl cV h1 (mapE id (putM g pat (.func (.func 187) #[] #[]))) iy.1 iy.2 λh2' hs ho hm=>?_;exact hK _ _ ⟨m.put hm h2 h3 (by unfold patS;rw[if_neg (by rintro⟨-,-,e⟩;rw[hop]at e;exact c e)];exact F8) ho,Kept.upd hs ho⟩
end
section
variable{po po2:OP}{W:View}{h h':Heap}{r S I O Z:Nat}{n:Int->Bool}{s:cC}
structure Up(W:View)(h:Heap)(W':View):Prop where
 le:W.le W'
 old:Old W h W'
theorem Up.trans{W' W'':View}(u:Up W h W')(hs:h.size<=h'.size)(u':Up W' h' W''):Up W h W'':=⟨UF u.le u'.le,λb o hb hx=>u.old b o hb (u'.old b o U1 hx)⟩
theorem yk(hW:W.le (vw h)):Up W h (grow W h h'):=⟨bo hW,(Old.refl _ _).grow (Q4 _)⟩
theorem Pm.ey{α:Type}[Rep α]{P:Program}{ty:TypeId}{us:List (Nat × Value)}{t:TypeId}{x:Operand}{v:Value}{d:α}{K:Value->Heap->Prop}(m:Pm s.f s.i s.temp W h r n)(hx:asg us x=v)(hv:Rd W v d)
  (hk : ∀B h' W',Up W h W'->Pm s.f s.i s.temp W' h' r n->At W' ⟨B,0,UL⟩ d->Kept h h' (UK r)->K (ptz B) h'):@Lft.step po P (.box t x) ty us h K:=by refine fT hx (hv.mono m.wle) λh1 hp hle hs _=>?_;exact hk _ _ _ (yk m.wle) (m.ext hle) (oR (t:=t) (fz:=(0,0)) (by rw[bY (Q4 _),hp];simp) (hv.mono (bo m.wle))) (Kept.of_le hle)
theorem Cn{op pat mo lo hi sign:Int}{B:Nat}(m:Pm s.f s.i s.temp W h r n)(w:Wn W s S I O Z r)(ct:Ct W S I s)(hB:an W ⟨B,0,UL⟩=UK (.func (.func 188) #[] #[ptz S,ptz I,ptz O,ptz Z]))
  (hn:n pat=UP) (hp:1<=pat/\pat<=32) (hop:opOf pat.toNat=op) (hok:mJ s) (h2:2<=op/\op<=14) (hs:sign=1\/sign=-1) (hm0:0<=mo/\mo<=100) (hlo:I64 lo) (hhi:I64 hi) (hd:doS s.f s.i s.temp pat.toNat=immS s.f s.i mo lo hi sign) :
  ay UQ 193 #[UH UI op,UH UI pat,UH UI mo,UH UI lo,UH UI hi,UH UI sign,ptz B,ptz S,ptz I] h
   (λ_ h'=>∃W',Up W h W'/\Pm s.f s.i s.temp W' h' r (λq=>n q||decide (q=pat))/\Kept h h' (UK r)):=by
 refine aq (args:=[UH UI op,UH UI pat,UH UI mo,UH UI lo,UH UI hi,UH UI sign,ptz B,ptz S,ptz I]) follows Tryz.func193 E.fQ UC λK hK=>?_;dsimp only[L.fQ,lkF,lkG];refine aa λz hz=>?_;simp;refine m.ey (α:=Int) (d:=mo) rfl (bw.2 ⟨rfl,by omega,by omega⟩) λB1 h1 W1 u1 m1 a1 k1=>?_;have l1:=u1.le;refine m1.ey (α:=Int) (d:=lo) rfl (bw.2 ⟨rfl,hlo⟩) λB2 h2' W2 u2 m2 a2 k2=>?_;have l2:=u2.le;refine m2.ey (α:=Int) (d:=hi) rfl (bw.2 ⟨rfl,hhi⟩) λB3 h3 W3 u3 m3 a3 k3=>?_;have l3:=u3.le;refine m3.ey (α:=Int) (d:=sign) rfl (bw.2 ⟨rfl,by omega,by omega⟩) λB4 h4 W4 u4 m4 a4 k4=>?_;have l4:=u4.le;have l14:=UF l2 (UF l3 l4);have l04:=UF l1 l14;have w4:=w.mono l04;have ct4:=ct.mono l04;subst hz;simp[ae (UF l04 m4.wle) hB];refine bZ (ops:=[.tmp 16,.tmp 17,.tmp 18]) rfl U0 (kL (op:=op) (pat:=pat) (v:=.func (.func 194) #[] #[ptz S,ptz I,ptz B2,ptz B3,ptz B1,ptz B4]) m4 w4 hn hp hop λho=>?_) ?_
 ·rw[hd];have ha:=hok.one.two U1;exact⟨_,_,rfl,by kernel_rfl,λh V hW hV=>KH (ct4.mono hW) hV hok ha (ae (UF (UF l3 l4) hW) a2.int) (ae (UF l4 hW) a3.int) (ae (UF l14 hW) a1.int) (ae hW a4.int) hs hm0⟩
 rintro _ h5 ⟨m5,k5⟩;exact hK _ _ ⟨W4,u1.trans k1.size (u2.trans k2.size (u3.trans k3.size u4)),m5,k1.trans (k2.trans (k3.trans (k4.trans k5)))⟩
theorem Pm.eC{P:Program}{ty:TypeId}{us:List (Nat × Value)}{t ty2:TypeId}{k:Nat}{z:Value}{x y:Operand}{us2:Value->List (Nat × Value)}{v:Value}{K:Value->Heap->Prop}(m:Pm s.f s.i s.temp W h r n)(hz:(P.info? t).map (·.zero)=UK (UK z))(hzc:z.cells.size=k)(hsz:cU P t=UK k)(hv:v.cells.size=k)(h1 : ∀c∈v.cells.toList,c.oneCell'=UO)
  (hx : ∀p,asg (us2 p) x=p) (hy : ∀p,asg (us2 p) y=v) (hk : ∀B h' W',Up W h W'->Pm s.f s.i s.temp W' h' r n->W' B=UK (.cells v.cells t (0,0))->Kept h h' (UK r)->K (ptz B) h') :
  @Lft.step po P (.alloc t) ty us h λp h2=>@Lft.step po2 P (.store t x y) ty2 (us2 p) h2 λ_ h3=>K p h3:=
 fO hz hzc hsz hv h1 hx hy λh' hle hs hb=>hk _ _ _ (yk m.wle) (m.ext hle) (by rw[bY (Q4 _)];exact hb) (Kept.of_le hle)
structure Mx(W:View)(S I O P Q L T:Nat)(s:cC)(op plain sum:Int):Prop where
 ct:Ct W S I s
 op:an W ⟨O,0,UL⟩=UK (UH UI op)
 plain:an W ⟨P,0,UL⟩=UK (UH UI plain)
 sum:an W ⟨Q,0,UL⟩=UK (UH UI sum)
 laid:an W ⟨L,0,UL⟩=UK (.func (.func 225) #[] #[ptz O,ptz I,ptz P])
 with_:an W ⟨T,0,UL⟩=UK (.func (.func 226) #[] #[ptz I])
theorem Mx.mono{W':View}{P Q L T:Nat}{op plain sum:Int}(m:Mx W S I O P Q L T s op plain sum)(h:W.le W'):Mx W' S I O P Q L T s op plain sum:=
 ⟨m.ct.mono h,ae h m.op,ae h m.plain,ae h m.sum,ae h m.laid,ae h m.with_⟩
abbrev ptr(B:Nat):Value:=ptz B
def ib:Prop:=∀(V:View) (h:Heap) (s:cC) (S I O P Q L T:Nat) (op plain sum:Int),Mx V S I O P Q L T s op plain sum->V.le (vw h)->mJ s->s.i.op=op->(op=15\/op=16)->plain≠sum->(0<=plain/\plain<=100)->(0<=sum/\sum<=100)->-9223372036854775808<=s.temp/\s.temp<=9223372036854775807->
 ay UQ 227 #[ptr L,ptr P,ptr I,ptr T] h (λu h'=>cg V h h' u (memS s.f s.i s.temp op plain sum 0))/\
 ay UQ 228 #[ptr S,ptr I,ptr L,ptr P,ptr T] h (λu h'=>cg V h h' u (memS s.f s.i s.temp op plain sum 1))/\
 ay UQ 229 #[ptr S,ptr I,ptr L,ptr Q,ptr T] h (λu h'=>cg V h h' u (memS s.f s.i s.temp op plain sum 2))/\
 ay UQ 230 #[ptr S,ptr I,ptr T,ptr L,ptr Q] h (λu h'=>cg V h h' u (memS s.f s.i s.temp op plain sum 3))
theorem cell_of{B:Nat}{v:Value}{t:TypeId}(h:W B=UK (.cells v.cells t (0,0)))(h1:v.cells = #[v]):an W ⟨B,0,UL⟩=UK v:=by simp[an,h,h1]
theorem Bj{op pat plain sum:Int}{vs:Value}(m:Pm s.f s.i s.temp W h r n)(w:Wn W s S I O Z r)(hvs:Rd W vs s)
  (hn : ∀k,0<=k->k<4->n (pat+k)=UP) (hp:1<=pat/\pat<=28) (hop : ∀k:Int,0<=k->k<4->opOf (pat+k).toNat=op) (hok:mJ s) (h2:op=15\/op=16) (hne:plain≠sum) (hpl:0<=plain/\plain<=100) (hsu:0<=sum/\sum<=100)
  (hM:s.i.op=op->ib) (hd : ∀k:Nat,k<4->doS s.f s.i s.temp (pat+k).toNat=memS s.f s.i s.temp op plain sum k) :
  ay UQ 197 #[vs,.func (.func 188) #[] #[ptr S,ptr I,ptr O,ptr Z],UH UI pat,UH UI op,UH UI plain,UH UI sum] h
   (λ_ h'=>∃W',Up W h W'/\Pm s.f s.i s.temp W' h' r (λq=>n q||decide (pat<=q/\q<pat+4))/\Kept h h' (UK r)):=by
 refine aq (args:=[vs,.func (.func 188) #[] #[ptr S,ptr I,ptr O,ptr Z],UH UI pat,UH UI op,UH UI plain,UH UI sum]) follows Tryz.func197 E.jl UC λK hK=>?_;dsimp only[L.jl,lkF,lkG];refine aa λz hz=>?_;simp;refine m.ey (d:=s) rfl hvs λB1 h1 W1 u1 m1 a1 k1=>?_;have l1:=u1.le;refine m1.ey (α:=Int) (d:=op) rfl (bw.2 ⟨rfl,by omega,by omega⟩) λB2 h2' W2 u2 m2 a2 k2=>?_;have l2:=u2.le;refine m2.ey (α:=Int) (d:=plain) rfl (bw.2 ⟨rfl,by omega,by omega⟩) λB3 h3 W3 u3 m3 a3 k3=>?_;have l3:=u3.le;refine m3.ey (α:=Int) (d:=sum) rfl (bw.2 ⟨rfl,by omega,by omega⟩) λB4 h4 W4 u4 m4 a4 k4=>?_;have l4:=u4.le;subst hz;refine aa λz hz=>?_;have l24:=UF l3 l4;have l14:=UF l2 l24;obtain⟨ui,hui,rui⟩:=(a1.part cC.QI).ldN rfl (N:=5) rfl;have hui:=hui _ (UF l14 m4.wle);have hui:Un.ev (vw h4) (.bM 5) (UN (UK ⟨B1,2,UL⟩))=UK ui:=by simpa using hui
 obtain⟨c1,c2,c3⟩:=fH rui;simp[hui];refine m4.eC (k:=5) (z:=zz5) U0 rfl U0 c2 c3 U5 U5 λB5 h5 W5 u5 m5 b5 k5=>?_;have l5:=u5.le;have a5:At W5 ⟨B5,0,UL⟩ s.i:=oR b5 (rui.mono (UF l14 l5));subst hz;refine aa λz hz=>?_;simp;refine m5.eC (k:=1) (z:=.nilFunc) (v:=.func (.func 225) #[] #[ptr B2,ptr B5,ptr B3]) U0 rfl U0 rfl U8 U5 U5 λB6 h6 W6 u6 m6 b6 k6=>?_;have l6:=u6.le;subst hz;refine aa λz hz=>?_;simp;refine m6.eC (k:=1) (z:=.nilFunc) (v:=.func (.func 226) #[] #[ptr B5]) U0 rfl U0 rfl U8 U5 U5 λB7 h7 W7 u7 m7 b7 k7=>?_;have l7:=u7.le;have l57:=UF l6 l7;have l47:=UF l5 l57;have l17:=UF l14 l47;have mx:Mx W7 B1 B5 B2 B3 B4 B6 B7 s op plain sum:=⟨⟨a1.mono l17,a5.mono l57⟩,ae (UF l24 l47) a2.int,ae (UF l4 l47) a3.int,ae l47 a4.int,ae l7 (cell_of b6 rfl),cell_of b7 rfl⟩;have w7:=w.mono (UF l1 l17);have tr:-9223372036854775808<=s.temp/\s.temp<=9223372036854775807:=(a1.part cC.FD).rng;have hn0:=hn 0 U1 U1;have fits:s.i.op=op->qJ W7 (.func (.func 227) #[] #[ptr B6,ptr B3,ptr B5,ptr B7]) (memS s.f s.i s.temp op plain sum 0)/\qJ W7 (.func (.func 228) #[] #[ptr B1,ptr B5,ptr B6,ptr B3,ptr B7]) (memS s.f s.i s.temp op plain sum 1)/\
   qJ W7 (.func (.func 229) #[] #[ptr B1,ptr B5,ptr B6,ptr B4,ptr B7]) (memS s.f s.i s.temp op plain sum 2)/\qJ W7 (.func (.func 230) #[] #[ptr B1,ptr B5,ptr B7,ptr B6,ptr B4]) (memS s.f s.i s.temp op plain sum 3):=λho=>
  ⟨⟨_,_,rfl,by kernel_rfl,λh V hW hV=>(hM ho V h s _ _ _ _ _ _ _ op plain sum (mx.mono hW) hV hok ho h2 hne hpl hsu tr).1⟩,⟨_,_,rfl,by kernel_rfl,λh V hW hV=>(hM ho V h s _ _ _ _ _ _ _ op plain sum (mx.mono hW) hV hok ho h2 hne hpl hsu tr).2.1⟩,
   ⟨_,_,rfl,by kernel_rfl,λh V hW hV=>(hM ho V h s _ _ _ _ _ _ _ op plain sum (mx.mono hW) hV hok ho h2 hne hpl hsu tr).2.2.1⟩,⟨_,_,rfl,by kernel_rfl,λh V hW hV=>(hM ho V h s _ _ _ _ _ _ _ op plain sum (mx.mono hW) hV hok ho h2 hne hpl hsu tr).2.2.2⟩⟩;subst hz;refine aa λz hz=>?_;simp[ae m7.wle mx.op];refine bZ (ops:=[.tmp 20,.tmp 21,.tmp 22]) rfl U0 (kL (op:=op) (pat:=pat) m7 w7 (by simpa using hn0) U1 (by simpa using hop 0 U1 U1) λho=>by have:=hd 0 U1;simp at this;rw[this];exact(fits ho).1) ?_;rintro _ h8 ⟨m8,k8⟩;subst hz;refine aa λz hz=>?_;have e1:IntKind.i64.wrap (pat+1)=pat+1:=bc U1 U1;simp[ae m8.wle mx.op,e1];refine bZ (ops:=[.tmp 25,.tmp 27,.tmp 28]) rfl U0 (kL (op:=op) (pat:=pat+1) m8 w7 (by have:=hn 1 U1 U1;simp[this]<;>omega) U1 (hop 1 U1 U1) λho=>by have:=hd 1 U1;simp at this;rw[this];exact(fits ho).2.1) ?_;rintro _ h9 ⟨m9,k9⟩;subst hz;refine aa λz hz=>?_;have e1:IntKind.i64.wrap (pat+2)=pat+2:=bc U1 U1;simp[ae m9.wle mx.op,e1];refine bZ (ops:=[.tmp 31,.tmp 33,.tmp 34]) rfl U0 (kL (op:=op) (pat:=pat+2) m9 w7 (by have:=hn 2 U1 U1;simp[this]<;>omega) U1 (hop 2 U1 U1) λho=>by have:=hd 2 U1;simp at this;rw[this];exact(fits ho).2.2.1) ?_;rintro _ h10 ⟨m10,k10⟩;subst hz;have e1:IntKind.i64.wrap (pat+3)=pat+3:=bc U1 U1;simp[ae m10.wle mx.op,e1];refine bZ (ops:=[.tmp 37,.tmp 39,.tmp 40]) rfl U0 (kL (op:=op) (pat:=pat+3) m10 w7 (by have:=hn 3 U1 U1;simp[this]<;>omega) U1 (hop 3 U1 U1) λho=>by have:=hd 3 U1;simp at this;rw[this];exact(fits ho).2.2.2) ?_;rintro _ h11 ⟨m11,k11⟩;refine hK _ _ ⟨W7,u1.trans k1.size (u2.trans k2.size (u3.trans k3.size (u4.trans k4.size (u5.trans k5.size (u6.trans k6.size u7))))),?_,k1.trans (k2.trans (k3.trans (k4.trans (k5.trans (k6.trans (k7.trans (k8.trans (k9.trans (k10.trans k11)))))))))⟩
 have e:(λq=>n q||decide (pat<=q/\q<pat+4))=λq=>(((n q||decide (q=pat))||decide (q=pat+1))||decide (q=pat+2))||decide (q=pat+3):=by
  funext q;cases n q with
  | true=>simp
  | false=>rw[RM];simp;omega
 rw[e];exact m11
end
section
variable{W V:View}{h h':Heap}{r S I O Z:Nat}{n:Int->Bool}{s:cC}
def nTo(m:Int):Int->Bool:=λq=>decide (1<=q/\q<=m)
theorem Pm.to{a b:Int}(m:Pm s.f s.i s.temp W h r (λq=>nTo a q||decide (q=b)))(hb:b=a+1)(ha:0<=a):Pm s.f s.i s.temp W h r (nTo b):=by
 have e:(λq=>nTo a q||decide (q=b))=nTo b:=by funext q;unfold nTo;rw[RM];simp;omega
 rw[<-e];exact m
theorem Pm.to4{a b:Int}(m:Pm s.f s.i s.temp W h r (λq=>nTo a q||decide (b<=q/\q<b+4)))(hb:b=a+1)(ha:0<=a):Pm s.f s.i s.temp W h r (nTo (a+4)):=by
 have e:(λq=>nTo a q||decide (b<=q/\q<b+4))=nTo (a+4):=by funext q;unfold nTo;rw[RM];simp;omega
 rw[<-e];exact m
theorem Ls{f:ak}{i:InsD}{temp:Int}{p:Nat}(h:3<=p/\p<=15):doS f i temp p=UK ⟨i.args,[],[⟨p+2,i.dst,0,nth i.args 0,nth i.args 1,0,⟨0⟩,[]⟩],dc⟩:=by unfold doS;rw[if_neg U1,if_neg U1,if_pos U1]
theorem DZ{vs:Value}{W0:View}(hW:W0.le (vw h))(hvs:Rd W0 vs s)(hok:mJ s)(hterm:s.term=UP)(hM:s.i.op=15\/s.i.op=16->ib):
  ay UQ 139 #[vs] h (λu h'=>∃r W',u = .map (UK r)/\Up W0 h W'/\Pm s.f s.i s.temp W' h' r (nTo 32)/\(vw h).le (vw h')):=by
 refine aq (args:=[vs]) follows Tryz.func139 E.bj UC λK hK=>?_;dsimp only[L.bj,lkF,lkG];have c0:=Cx.start hW;refine aa λz hz=>?_;simp;refine c0.ey rfl hvs λS h1 W1 hW1 c1 at1 hle1=>?_;subst hz;refine aa λz hz=>?_;obtain⟨ui,hui,rui⟩:=(at1.part cC.QI).ldN rfl (N:=5) rfl;have hui:Un.ev (vw h1) (.bM 5) (UN (UK ⟨S,2,UL⟩))=UK ui:=by simpa using hui _ c1.wle
 simp[hui];refine c1.eC (α:=InsD) rui (n:=5) (z:=zz5) U0 rfl rfl U0 U5 U5 λI h2 W2 hW2 c2 at2 hle2=>?_;subst hz;refine aa λz hz=>?_;simp;refine fO (n:=1) (z:=.nilFunc) (v:=.func (.func 187) #[] #[]) U0 rfl U0 rfl U8 U5 U5 λh3 hle3 hs3 hb3=>?_;have c3:=c2.ext hle3;have hW3:=c2.up (h':=h3);have z3:an (grow W2 h2 h3) ⟨h2.size,0,UL⟩=UK (.func (.func 187) #[] #[]):=cell_of (by rw[bY (Q4 _)];exact hb3) rfl;generalize grow W2 h2 h3=W3 at *;generalize h2.size=Z at z3;subst hz;refine aa λz hz=>?_;simp;refine lE ?_;have m3:di (.int .i64) (h3.push (.map #[] 0)) h3.size (mapE id λ_=>UL):=by rw[nh];exact di.none U2
 have q3:=bQ h3 (.map #[] 0);have av3:W3 h3.size=none:=View.b8 c3.wle (Q4 _);have k3:Kept h3 (h3.push (.map #[] 0)) none:=Kept.push ..;have hsz:h3.size<(h3.push (.map #[] 0)).size:=by simp
 generalize h3.push (.map #[] 0)=h4 at *;obtain⟨r,hr⟩ : ∃r,r=h3.size:=⟨_,rfl⟩;rw[<-hr]at m3 av3 ⊢;have p4:Pm s.f s.i s.temp W3 h4 r (nTo 0):=⟨UF c3.wle q3,av3,_,m3,λp=>by unfold nTo;simp;omega,λp v hp=>by cases hp⟩;have u03:Up W0 h W3:=⟨UF hW1 (UF hW2 hW3),c3.old⟩;have le04:(vw h).le (vw h4):=UF c3.le0 q3;have hrs:h.size<=r:=by rw[hr];exact bO c3.le0
 refine p4.eC (k:=1) (z:=.map UL) (v:=.map (UK r)) U0 rfl U0 rfl U8 U5 U5 λO h5 W5 u5 p5 b5 k5=>?_;subst hz;refine aa λz hz=>?_;simp;refine p5.eC (k:=1) (z:=.nilFunc) (v:=.func (.func 188) #[] #[ptr S,ptr I,ptr O,ptr Z]) U0 rfl U0 rfl U8 U5 U5 λB h6 W6 u6 p6 b6 k6=>?_;have l16:W1.le W6:=UF hW2 (UF hW3 (UF u5.le u6.le));have l26:W2.le W6:=UF hW3 (UF u5.le u6.le);have ct:Ct W6 S I s:=⟨at1.mono l16,at2.mono l26⟩;have w6:Wn W6 s S I O Z r:=⟨by have:=(ct.site.part cC.lF).bool;rw[hterm]at this;simpa using this,by simpa using(ct.ins.part InsD.wI).int,cell_of (u6.le _ _ b5) rfl,ae (UF u5.le u6.le) z3⟩;have hB:an W6 ⟨B,0,UL⟩=UK (.func (.func 188) #[] #[ptr S,ptr I,ptr O,ptr Z]):=cell_of b6 rfl;have s06:h.size<=h4.size:=bO le04;have u06:Up W0 h W6:=u03.trans s06 (u5.trans k5.size u6);have k46:=k5.trans k6;generalize W6=Wa at *;generalize h6=ha at *;clear b5 b6 k5 k6 u5 u6 p5 l16 l26 z3 hui at1 at2 c1 c2 c3;subst hz;refine aa λz hz=>?_;have hb:=ae p6.wle hB;simp[hb];refine bZ (ops:=[.const (UH UI 1),.const (UH UI 1),.tmp 16]) rfl U0 (kL (op:=1) (pat:=1) p6 w6 U4 U1 U4 λho=>⟨_,_,rfl,by kernel_rfl,λh V hW hV=>LH (ct.mono hW) hV⟩) ?_;rintro _ hc1 ⟨p7,k7⟩;have p7:=p7.to (a:=0) U4 U1;subst hz;refine aa λz hz=>?_;have hb:=ae p7.wle hB;simp[hb];refine bZ (ops:=[.const (UH UI 1),.const (UH UI 2),.tmp 19]) rfl U0 (kL (op:=1) (pat:=2) p7 w6 U4 U1 U4 λho=>⟨_,_,rfl,by kernel_rfl,λh V hW hV=>LQ (ct.mono hW) hV⟩) ?_;rintro _ hc2 ⟨p8,k8⟩;have p8:=p8.to (a:=1) U4 U1;have k48:=k46.trans (k7.trans k8);subst hz;refine aa λz hz=>?_;refine aa λy hy=>?_;simp;refine p8.eC (k:=1) (z:=UH UI 0) (v:=UH UI 2) U0 rfl U0 rfl U8 U5 U5 λP0 h9 W9 u9 p9 b9 k9=>?_;have c9:an W9 ⟨P0,0,UL⟩=UK (UH UI ((2:Int)+(0:Nat))):=cell_of b9 rfl;have k49:=k48.trans k9;have u09:Up W0 h W9:=u06.trans (Rt s06 k48.size) u9;have l9:=u9.le;subst hy;simp only[aW];refine ik [0,1,2,3,4,5,6,7] (λm ρ hx=>∃(k:Nat) (W:View) (P:Nat),k<=13/\m=13-k/\ρ=[(0,vs),(1,ptr S),(2,.map UL),(3,ptr I),(4,ptr Z),(5,ptr O),(6,ptr B),(7,ptr P)]/\Wa.le W/\Up W0 h W/\Pm s.f s.i s.temp W hx r (nTo (2+k))/\an W ⟨P,0,UL⟩=UK (UH UI ((2:Int)+k))/\Kept h4 hx (UK r)) 13
  ⟨0,W9,P0,by omega,rfl,rfl,l9,u09,by simpa using p9,c9,k49⟩ ?_;clear hb k7 k8 k9 p6 p7 p8 p9 b9 c9 k46 k48 k49 u9 u09 l9;rintro m ρ hx ⟨k,W,P,hk,rfl,rfl,lW,uW,pW,cP,kW⟩ K2 hK2;have cPx:=ae pW.wle cP;have hb:=ae (UF lW pW.wle) hB;dsimp only[L.bj.l1,lkF,lkG];refine aa λx hx2=>?_;by_cases c:k<13
 ·have e14:(2:Int)+k<=14:=by omega
  simp[cPx,e14];rw[hx2];clear hx2 x;refine aa λx hx2=>?_;have e1:(3:Int)+(2+k)-2=3+k:=by omega
  simp(disch:=omega)[cPx,hb,e1];refine bZ (ops:=[.tmp 26,.tmp 29,.tmp 30]) rfl U0 (kL (op:=2+k) (pat:=3+k) pW (w6.mono lW) (by unfold nTo;simp<;>omega) U1 (by unfold opOf;rw[if_neg U1,if_pos U1];try omega) λho=>?_) ?_
  ·rw[Ls U1];have e:((3+(k:Int)).toNat:Int)+2=(2+(k:Int))+3:=by omega
   rw[e];exact⟨_,_,rfl,by kernel_rfl,λh V hW hV=>L4 ((ct.mono lW).mono hW) hV (ae hW cP) U1 ⟨hok.one.two U1,hok.one.most⟩⟩
  rintro _ hy1 ⟨pX,kX⟩;have pX:=pX.to (a:=2+k) U1 U1;rw[hx2];clear hx2 x;simp[ae pX.wle cP];refine fO (n:=1) (z:=UH UI 0) (v:=UH UI (2+k)) U0 rfl U0 rfl U8 U5 U5 λhy2 hle2 hs2 hb2=>?_;have cN:an (vw hy2) ⟨hy1.size,0,UL⟩=UK (UH UI (2+k)):=cell_of hb2 rfl;simp(disch:=omega)[cN];refine eh (g:=hy1.size) (o:=0) (n:=1) (v:=UH UI (2+k+1)) (cur:=(UH UI (2+k)).cells) (e:=T.int) U0 rfl rfl rfl U8 hb2 (by simp[Value.cells]) λhy3 hs3 ⟨row,hr3,he3⟩ ho3=>?_;have hrow:row = #[UH UI (2+k+1)]:=by rw[<-Array.toList_inj,he3];simp[Value.cells]
  rw[hrow]at hr3;have le13:(vw hy1).le (vw hy3):=λb o hb=>by have hlt:=View.lt (View.le_refl (vw hy1)) hb;show hy3[b]? = _;rw[ho3 b U1];exact hle2 b o hb
  have cN3:an (grow W hy1 hy3) ⟨hy1.size,0,UL⟩=UK (UH UI ((2:Int)+(k+1:Nat))):=by rw[show((2:Int)+(k+1:Nat))=2+k+1 by omega];simp[an,bY (Q4 _),hr3]
  have uX:=yk (h':=hy3) pX.wle;have eN:(2:Int)+((k+1:Nat):Int)=3+k:=by omega
  refine hK2 (13-(k+1)) _ _ U1 ⟨k+1,_,hy1.size,by omega,rfl,rfl,UF lW uX.le,uW.trans (Rt s06 (kW.trans kX).size) uX,?_,cN3,kW.trans (kX.trans (Kept.of_le le13))⟩;rw[eN];exact pX.ext le13
 have e13:k=13:=by omega
 subst e13;simp[cPx];clear hK2 cPx cP hx2 x;subst hz;refine aa λz hz=>?_;simp;subst hz;refine aa λz hz=>?_;simp;have ctW:=ct.mono lW;have wW:=w6.mono lW;have hBW:=ae lW hB;refine bZ (ops:=[.const (UH UI 2),.const (UH UI 16),.const (UH UI 18),.const (UH UI (-128)),.const (UH UI 127),.const (UH UI 1)]) rfl U0 (Cn (op:=2) (pat:=16) (mo:=18) (lo:=-128) (hi:=127) (sign:=1) pW wW ctW hBW U4 U1 U4 hok U1 (.inl rfl) U1 (by constructor<;>decide) (by constructor<;>decide) rfl) ?_;rintro _ i1 ⟨V1,v1,p1,k1⟩;have p1:=p1.to (a:=15) U4 U1;subst hz;refine aa λz hz=>?_;simp;refine bZ (ops:=[.const (UH UI 3),.const (UH UI 17),.const (UH UI 18),.const (UH UI (-127)),.const (UH UI 128),.const (UH UI (-1))]) rfl U0 (Cn (op:=3) (pat:=17) (mo:=18) (lo:=-127) (hi:=128) (sign:=-1) p1 (wW.mono v1.le) (ctW.mono v1.le) (ae v1.le hBW) U4 U1 U4 hok U1 (.inr rfl) U1 (by constructor<;>decide) (by constructor<;>decide) rfl) ?_;rintro _ i2 ⟨V2,v2,p2,k2⟩;have v12:=UF v1.le v2.le;have p2:=p2.to (a:=16) U4 U1;subst hz;refine aa λz hz=>?_;simp;refine bZ (ops:=[.const (UH UI 5),.const (UH UI 18),.const (UH UI 19),.const (UH UI (-128)),.const (UH UI 127),.const (UH UI 1)]) rfl U0 (Cn (op:=5) (pat:=18) (mo:=19) (lo:=-128) (hi:=127) (sign:=1) p2 (wW.mono v12) (ctW.mono v12) (ae v12 hBW) U4 U1 U4 hok U1 (.inl rfl) U1 (by constructor<;>decide) (by constructor<;>decide) rfl) ?_;rintro _ i3 ⟨V3,v3,p3,k3⟩;have v13:=UF v12 v3.le;have p3:=p3.to (a:=17) U4 U1;have uV3:Up W0 h V3:=uW.trans (Rt s06 kW.size) (v1.trans k1.size (v2.trans k2.size v3));have kV3:=kW.trans (k1.trans (k2.trans k3));have lV3:=UF lW v13;clear v1 v2 v3 v12 v13 p1 p2 k1 k2 k3 pW uW kW hBW wW ctW lW;subst hz;refine aa λz hz=>?_;refine aa λy hy=>?_;simp;refine yc (α:=Int) (n:=3) (X:=V3) (vs:=[UH UI 8,UH UI 9,UH UI 10]) (ds:=[8,9,10]) El.aY U2 ⟨bw.2 ⟨rfl,by decide,by decide⟩,bw.2 ⟨rfl,by decide,by decide⟩,bw.2 ⟨rfl,by decide,by decide⟩,trivial⟩ rfl U3 U3 λu40 i4 hle4 hs4 hu4 _=>?_;have hu4:=hu4 (grow V3 i3 i4) (bo p3.wle) (bY (Q4 _));have p4:=p3.ext hle4;have u4:=yk (h':=i4) p3.wle;have uV4:=uV3.trans (Rt s06 kV3.size) u4;have kV4:=kV3.trans (Kept.of_le hle4);have lV4:=UF lV3 u4.le;subst hy;simp[hu4.len];refine aG [0,1,2,3,4,5,6,8,40,41,42] (fun(_:Unit) j=>[vs,ptr S,.map UL,ptr I,ptr Z,ptr O,ptr B,.func (.func 193) #[] #[ptr B,ptr S,ptr I],u40,UH UI 3,UH UI j])
  (λ_ j hx=>∃W,(grow V3 i3 i4).le W/\Up W0 h W/\Pm s.f s.i s.temp W hx r (nTo (18+j))/\Kept h4 hx (UK r)) 3 ()
  rfl U1 rfl ⟨_,View.le_refl _,uV4,by simpa using p4,kV4⟩ (λ_ _=>rfl) (λv i h1 hk m=>by simp) ?_ ?_
 ·rintro _ j hx hj ⟨W,lW,uW,pW,kW⟩ K2 hK2;have hux:=hu4.mono (UF lW pW.wle);refine aa λx hx2=>?_;have hj3:j<[8,9,10].length:=hj;simp(disch:=omega)[hux.idx1 rfl,hux.int UE];have h012:j=0\/j=1\/j=2:=by omega
  have ej:nth ([8,9,10]:List Int) j=8+(j:Int):=by rcases h012 with rfl | rfl | rfl<;>rfl
  rw[ej,hx2];clear hx2 x;simp(disch:=omega);have lWa:=UF lV4 lW;refine bZ (ops:=[.tmp 48,.tmp 50,.tmp 52,.const (UH UI 0),.const (UH UI 31),.const (UH UI 1)]) rfl U0 (Cn (op:=8+j) (pat:=19+j) (mo:=20+j) (lo:=0) (hi:=31) (sign:=1) pW (w6.mono lWa) (ct.mono lWa) (ae lWa hB) (by unfold nTo;simp<;>omega) U1 (by rcases h012 with rfl | rfl | rfl<;>rfl) hok U1 (.inl rfl) U1 (by constructor<;>decide) (by constructor<;>decide) (by rcases h012 with rfl | rfl | rfl<;>rfl)) ?_;rintro _ hx3 ⟨W3,v3,p3,k3⟩;have p3:=p3.to (a:=18+j) U1 U1;refine hK2 () _ _ rfl rfl ⟨W3,UF lW v3.le,uW.trans (Rt s06 kW.size) v3,?_,kW.trans k3⟩;rw[show(18:Int)+((j+1:Nat):Int)=19+j by omega];exact p3
 rintro _ hx ⟨W,lW,uW,pW,kW⟩;have lWa:=UF lV4 lW;simp;subst hz;refine aa λz hz=>?_;have ctW:=ct.mono lWa;have wW:=w6.mono lWa;have hBW:=ae lWa hB;have hb:=ae pW.wle hBW;simp[hb];refine bZ (ops:=[.const (UH UI 2),.const (UH UI 22),.tmp 56]) rfl U0 (kL (op:=2) (pat:=22) pW wW U4 U1 U4 λho=>⟨_,_,rfl,by kernel_rfl,λh V hW hV=>L8 (ctW.mono hW) hV hok (hok.one.two U1) (ae hW wW.zero)⟩) ?_;rintro _ i1 ⟨p1,k1⟩;have p1:=p1.to (a:=21) U4 U1;subst hz;refine aa λz hz=>?_;obtain⟨us,hus,rus⟩:=ctW.site.ldN rfl (N:=13) rfl;have hb:=ae p1.wle hBW;simp[hb,hus _ p1.wle];refine wY _ U0 U2 (Bj (op:=15) (pat:=23) (plain:=24) (sum:=25) p1 wW rus (λk h0 h4=>by unfold nTo;simp<;>omega) U1 (λk h0 h4=>?_) hok (.inl rfl) U3 U1 U1 (λho=>hM (.inl ho)) (λk hk=>?_)) ?_
 ·rcases(by omega:k=0\/k=1\/k=2\/k=3)with rfl | rfl | rfl | rfl<;>rfl
 ·rcases(by omega:k=0\/k=1\/k=2\/k=3)with rfl | rfl | rfl | rfl<;>rfl
 rintro _ i2 ⟨V2,v2,p2,k2⟩;have p2:=p2.to4 (a:=22) U4 U1;subst hz;refine aa λz hz=>?_;have hb:=ae p2.wle (ae v2.le hBW);simp[hb,hus _ (UF v2.le p2.wle)];refine wY _ U0 U2 (Bj (op:=16) (pat:=27) (plain:=26) (sum:=27) p2 (wW.mono v2.le) (rus.mono v2.le) (λk h0 h4=>by unfold nTo;simp<;>omega) U1 (λk h0 h4=>?_) hok (.inr rfl) U3 U1 U1 (λho=>hM (.inr ho)) (λk hk=>?_)) ?_
 ·rcases(by omega:k=0\/k=1\/k=2\/k=3)with rfl | rfl | rfl | rfl<;>rfl
 ·rcases(by omega:k=0\/k=1\/k=2\/k=3)with rfl | rfl | rfl | rfl<;>rfl
 rintro _ i3 ⟨V3',v3,p3,k3⟩;have p3:=p3.to4 (a:=26) U4 U1;have v23:=UF v2.le v3.le;have ct3:=ctW.mono v23;have w3:=wW.mono v23;have hb:=ae p3.wle (ae v23 hBW);subst hz;refine aa λz hz=>?_;simp[hb];refine bZ (ops:=[.const (UH UI 17),.const (UH UI 31),.tmp 65]) rfl U0 (kL (op:=17) (pat:=31) p3 w3 U4 U1 U4 λho=>⟨_,_,rfl,by kernel_rfl,λh V hW hV=>Nb (ct3.mono hW) hV hok.one.most⟩) ?_;rintro _ i4' ⟨p4',k4⟩;have p4':=p4'.to (a:=30) U4 U1;subst hz;refine aa λz hz=>?_;have hb:=ae p4'.wle (ae v23 hBW);simp[hb];refine bZ (ops:=[.const (UH UI 18),.const (UH UI 32),.tmp 68]) rfl U0 (kL (op:=18) (pat:=32) p4' w3 U4 U1 U4 λho=>⟨_,_,rfl,by kernel_rfl,λh V hW hV=>Mr (ct3.mono hW) hV ⟨hok.one.two U1,hok.one.most⟩⟩) ?_;rintro _ i5 ⟨p5,k5⟩;have p5:=p5.to (a:=31) U4 U1;subst hz;simp[ae p5.wle w3.out];have kk:=kW.trans (k1.trans (k2.trans (k3.trans (k4.trans k5))));have sx:h.size<=hx.size:=Rt s06 kW.size;refine hK _ _ ⟨r,V3',rfl,uW.trans (Rt sx k1.size) (v2.trans k2.size v3),p5,?_⟩;intro b o hb;have hlt:=View.lt (View.le_refl (vw h)) hb;show i5[b]? = _;rw[kk.block b U1 U9];exact le04 b o hb
end
end Go.Lft
