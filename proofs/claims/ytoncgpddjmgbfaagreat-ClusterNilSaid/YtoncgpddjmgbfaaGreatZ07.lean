import Derived.Test.YtoncgpddjmgbfaaGreatZ06
import Derived.Lib.AppendZerosOnto
import Derived.Lib.Overlaps
import Derived.Laws.Externs
namespace Go.Proofs.YtoncgpddjmgbfaaGreat
open Go.RowKit Go.Proofs.Tryz
set_option maxRecDepth 100000
set_option maxHeartbeats 12800000
set_option linter.unusedVariables false
set_option linter.unusedSimpArgs false
section
attribute [local go_sem] Gq
theorem Qz(x y:Bk)(W:World):Calls prog 300 #[.agg x.cells.toArray,.agg y.cells.toArray] W fun e g=>e=.returned (.i (nZ x y))∧∃q f,g=Go.Sort.grow (W.drewN q) f:=by
 have b:=kp (show ∃q d,(W.alloc (.cells #[.i x.a,.i x.o] 262)).alloc (.cells #[.i y.a,.i y.o] 262)=Go.Sort.grow (W.drewN q) d from⟨0,_,by rw[Go.Sort.alloc_eq_grow,Go.Sort.alloc_eq_grow,Go.Sort.grow_grow]; rfl⟩);unfold nZ;change Calls _ _ #[.agg #[.i x.a,.i x.o],.agg #[.i y.a,.i y.o]] W _;obtain⟨h,c,i,j,k,l,_⟩:=zZ W x y 262;subst c;go_enter func300,ntmps300;go_wp2_with fail;refine ms' (qG x.a y.a _) ?_;go_wp2_with fail;go_ret;exact⟨rfl,b.o⟩
theorem Ra{base g:Nat}{v:Value}{l:List Bk}(w:World)(h:Que w base g v l)(z:l.length≤1000000)(s:base≤w.heap.size):
  Calls prog 289 #[.agg #[.pointer (some ⟨g,0,none⟩)]] w fun e n=>e=.returned v∧∃l',l.Perm l'∧l'.Pairwise (fun x y=>x.a≤y.a)∧Ow n base 262 2 v Bk.cells l'∧Chg (fun i=>v.ownBlock=some i) w n:=by
 have b:=ba' w (.cells #[.pointer (some ⟨g,0,none⟩)] 367);have c:=h.below b;have m:=c.blk.cell 0;simp only[aP]at m;have A:=kp c;have p:=kp b;have r:=kp (Gk 300 (enters_of func300 (by kernel_rfl) rfl) Qz v l base _ c.row (aB s b.size) z);clear h b c;go_enter func289,ntmps289;go_wp2_with fail;refine r.o.mono ?_;rintro e B ⟨rfl,l',j,k,f,d⟩;have q:=k'4 j k f ((Chg.of_below p.o).trans (T:=fun i=>v.ownBlock=some i) (eX d) fun _ _ h=>h);clear j k f d m;go_wp2_with fail;go_ret;exact⟨rfl,l',q.o⟩
theorem Que.keep{w c:World}{base g z:Nat}{v v':Value}{l:List Bk}{b:List Value}(h:Que w base g v l)(a:Blk w z 367 b)(f:QTo w c g v v'):Blk c z 367 b:=
 a.chg f.chg fun d=>d.elim (fun e=>by subst e; have:=(show w.heap[z]? =_ from a).symm.trans h.blk; simp at this) fun e=>h.row.ne_blk a (by decide) e
theorem Que.keep2{w b:World}{base g z:Nat}{t:TypeId}{v v':Value}{l:List Bk}{a:List Value}(h:Que w base g v l)(f:Blk w z t a)(d:QTo w b g v v')(i:z<base):Blk b z t a:=
 f.chg d.chg fun c=>c.elim (fun e=>by have:=h.lo; omega) fun e=>by have:=(h.row.lt e).1; omega
theorem Qd.off{w k:World}{base b c z:Nat}{e f:Value}{j ls:List Bk}{l:List Value}(h:Qd w base b c e f j ls)(g:Blk w z 262 l)(a:Chg (fun i=>i=z) w k)(m:∀i,e.ownBlock=some i→i≠z)(n:∀i,f.ownBlock=some i→i≠z):Qd k base b c e f j ls:=
 ⟨⟨h.que.blk.chg a (fun d=>by subst d; have:=(show w.heap[b]? =_ from h.que.blk).symm.trans g; simp at this),h.que.row.chg a m,h.que.lo⟩,h.small.chg a n,h.sep,
  h.ptr.chg a (fun d=>by subst d; have:=(show w.heap[c]? =_ from h.ptr).symm.trans g; simp at this)⟩
def jS(o want:Int)(free:List Bk):Int×Bk×List Bk:=
 if (gX o free&&(decide (0≤want)&&decide (want≤o)))=true then
  match kG want free with
  |none=>(40,⟨0,0⟩,[])
  |some (b,out)=>(0,b,out)
 else (1,⟨0,0⟩,[])
theorem Rb{o c:Int}{a e h ls:List Bk}{x:Bk}(i:gX o a=true)(g:e.Perm (a.filter (fN c)))(q:ls=a.filter fun b=> !fN c b)(k:e.Perm (x::h))(p:∀y∈e,LeB x y):
  kG c a=some (iO c 9 x (fZ a x))∧(h++ls).Perm (fZ a x)∧c≤x.o∧x∈a:=by
 have j:=(oU ((lX _ _).1 i).1).1 i;have s:x∈e:=k.mem_iff.2 (by simp);have d:=List.mem_filter.1 (g.mem_iff.1 s);have f:wV c a x:=⟨d.1,by simpa [fN] using d.2,fun y z r=>p y (g.mem_iff.2 (List.mem_filter.2 ⟨z,by simpa [fN] using r⟩))⟩
 have n:fS c a=some x:=by
  cases hb:fS c a with
  |none=>have:=(Af c a).1 hb x d.1; have:=f.2.1; omega
  |some y=>rw[Oq (Fl c a y j.sort hb) f]
 refine⟨by unfold kG; rw[n]; rfl,?_,f.2.1,d.1⟩;have l:(x::(h++ls)).Perm a:=by
  have m:(e++ls).Perm a:=by
   rw[q];exact (g.append_right _).trans (List.filter_append_perm _ _)
  exact (k.append_right ls).symm.trans m
 exact (List.perm_cons x).1 (l.trans (uK a x j.sort d.1))
theorem Re(o d:Int)(v:Value)(B:Nat)(l:List Bk)(w:World)(hv:Sl w B v Bk.cells l)(hB:B≤w.heap.size)(hn:l.length≤400000):
  Calls prog 278 #[.i o,v,.i d] w fun e w'=>∃v',e=.returned (.tuple #[.agg (jS o d l).2.1.cells.toArray,v',.i (jS o d l).1])∧Ow w' w.heap.size 262 2 v' Bk.cells (jS o d l).2.2∧Bw' w w':=by
 have hb:=ba' w (.cells #[.i 0,.i 0] 262);have hz:=Blk.new w 262 [.i 0,.i 0];have HS:=kp (hv.below hb hB);have HB:=kp hb;have Q:=kp hz;have o1:=kp (aB hB hb.size);have H:=kp (pV o v B l _ HS.o o1.o (by omega));clear hv hb hz hB
 cases hf:gX o l
 .have A:jS o d l=(1,⟨0,0⟩,[]):=by unfold jS; rw[hf]; rfl
  rw[A];rw[hf]at H;clear hf A;go_enter func278,zF;go_wp2_with fail;refine mb' H.o fun w2 r=>?_;have X:=kp (HB.o.on r);have j:=Q.o.below r Q.o.lt;have O:=j.cell 0;have P:=j.cell 1;have y0:=j.frozen 0;have y1:=j.frozen 1;have S:=kp (((j.setCell 0 (.i 0)).setCell 1 (.i 0)).cell 0);have T:=kp (((j.setCell 0 (.i 0)).setCell 1 (.i 0)).cell 1);simp only[aP,aZ]at O P;clear j;clear r;go_wp2_with fail;clear O P y0 y1;have L:=S.o;have M:=T.o;simp only[aC,aD,aP,aZ]at L M;have V:=kp (((X.o).setCell (p:=⟨w.heap.size,0,none⟩) (aN _) (.i 0)).setCell (p:=⟨w.heap.size,1,none⟩) (aN _) (.i 0));clear S T;generalize (w2.setCell ⟨w.heap.size,0,none⟩ (.i 0)).setCell ⟨w.heap.size,1,none⟩ (.i 0)=W5 at *;exact bI (v:=.tuple #[.agg #[.i 0,.i 0],.slice none 0 0,.i 1]) (by simp[results,zG,go_sem,L,M]) rfl ⟨_,rfl,Ow.nil _ _ _ _ _,V.o⟩
 .rw[hf]at H
  by_cases y7:d<0
  .have A:jS o d l=(1,⟨0,0⟩,[]):=by unfold jS; rw[hf,dR (show ¬0≤d by omega)]; rfl
   rw[A];clear hf A;go_enter func278,zF;go_wp2_with fail;refine mb' H.o fun w2 r=>?_;have X:=kp (HB.o.on r);have j:=Q.o.below r Q.o.lt;have O:=j.cell 0;have P:=j.cell 1;have y0:=j.frozen 0;have y1:=j.frozen 1;have S:=kp (((j.setCell 0 (.i 0)).setCell 1 (.i 0)).cell 0);have T:=kp (((j.setCell 0 (.i 0)).setCell 1 (.i 0)).cell 1);simp only[aP,aZ]at O P;clear j;clear r;go_wp2_with fail;clear O P y0 y1;have L:=S.o;have M:=T.o;simp only[aC,aD,aP,aZ]at L M;have V:=kp (((X.o).setCell (p:=⟨w.heap.size,0,none⟩) (aN _) (.i 0)).setCell (p:=⟨w.heap.size,1,none⟩) (aN _) (.i 0));clear S T;generalize (w2.setCell ⟨w.heap.size,0,none⟩ (.i 0)).setCell ⟨w.heap.size,1,none⟩ (.i 0)=W5 at *;exact bI (v:=.tuple #[.agg #[.i 0,.i 0],.slice none 0 0,.i 1]) (by simp[results,zG,go_sem,L,M]) rfl ⟨_,rfl,Ow.nil _ _ _ _ _,V.o⟩
  have h0:0≤d:=by omega
  by_cases C3:o<d
  .have A:jS o d l=(1,⟨0,0⟩,[]):=by unfold jS; rw[hf,dR (show ¬d≤o by omega)]; simp
   rw[A];clear hf A y7;go_enter func278,zF;go_wp2_with fail;refine mb' H.o fun w2 r=>?_;have X:=kp (HB.o.on r);have j:=Q.o.below r Q.o.lt;have O:=j.cell 0;have P:=j.cell 1;have y0:=j.frozen 0;have y1:=j.frozen 1;have S:=kp (((j.setCell 0 (.i 0)).setCell 1 (.i 0)).cell 0);have T:=kp (((j.setCell 0 (.i 0)).setCell 1 (.i 0)).cell 1);simp only[aP,aZ]at O P;clear j;clear r;go_wp2_with fail;clear O P y0 y1;have L:=S.o;have M:=T.o;simp only[aC,aD,aP,aZ]at L M;have V:=kp (((X.o).setCell (p:=⟨w.heap.size,0,none⟩) (aN _) (.i 0)).setCell (p:=⟨w.heap.size,1,none⟩) (aN _) (.i 0));clear S T;generalize (w2.setCell ⟨w.heap.size,0,none⟩ (.i 0)).setCell ⟨w.heap.size,1,none⟩ (.i 0)=W5 at *;exact bI (v:=.tuple #[.agg #[.i 0,.i 0],.slice none 0 0,.i 1]) (by simp[results,zG,go_sem,L,M]) rfl ⟨_,rfl,Ow.nil _ _ _ _ _,V.o⟩
  have h1:d≤o:=by omega
  have A:jS o d l=match kG d l with |none=>(40,⟨0,0⟩,[])|some (b,b0)=>(0,b,b0):=by unfold jS; rw[hf,fA h0,fA h1]; rfl
  have HR:=kp A;have b2:=kp (fun(w':World)(b6:Below (w.alloc (.cells #[.i 0,.i 0] 262)).heap.size (w.alloc (.cells #[.i 0,.i 0] 262)) w')=>Qx o d v B l w' (HS.o.below b6 o1.o) (aB o1.o b6.size) (by omega) hf h0 h1);have o0:=kp hf;clear A y7 C3 hf;have a6:(l.any fun b=>decide (d≤b.o))=(fS d l).isSome:=by
   cases hb:fS d l with
   |none=>
    rw[pT.2]
    .rfl
    .intro y hy;have:=(Af d l).1 hb y hy;simp; omega
   |some y=>
    have:=sK d l y hb;exact mM.2 ⟨y,this.1,by simpa using this.2.1⟩
  rw[a6]at b2;clear a6
  cases a0:fS d l with
  |none=>
   rw[a0]at b2;have A:jS o d l=(40,⟨0,0⟩,[]):=by rw[HR.o]; unfold kG; rw[a0]; rfl
   rw[A];clear A a0;go_enter func278,zF;go_wp2_with fail;refine mb' H.o fun w2 r=>?_;have X:=kp (HB.o.on r);have z3:=kp (b2.o w2 r);have a4:=r;clear r;go_wp2_with fail;refine mb' z3.o fun E Z=>?_;have g0:=kp (X.o.on Z);have j:=(Q.o.below a4 Q.o.lt).below Z (Q.o.below a4 Q.o.lt).lt;have O:=j.cell 0;have P:=j.cell 1;have y0:=j.frozen 0;have y1:=j.frozen 1;have S:=kp (((j.setCell 0 (.i 0)).setCell 1 (.i 0)).cell 0);have T:=kp (((j.setCell 0 (.i 0)).setCell 1 (.i 0)).cell 1);simp only[aP,aZ]at O P;clear j Z a4;go_wp2_with fail;clear O P y0 y1;have L:=S.o;have M:=T.o;simp only[aC,aD,aP,aZ]at L M;have V:=kp (((g0.o).setCell (p:=⟨w.heap.size,0,none⟩) (aN _) (.i 0)).setCell (p:=⟨w.heap.size,1,none⟩) (aN _) (.i 0));clear S T;generalize (E.setCell ⟨w.heap.size,0,none⟩ (.i 0)).setCell ⟨w.heap.size,1,none⟩ (.i 0)=W5 at *;exact bI (v:=.tuple #[.agg #[.i 0,.i 0],.slice none 0 0,.i 40]) (by simp[results,zG,go_sem,L,M]) rfl ⟨_,rfl,Ow.nil _ _ _ _ _,V.o⟩
  |some bx=>
   rw[a0]at b2;have q4:=kp (sK d l bx a0);clear a0;go_enter func278,zF;go_wp2_with fail;refine mb' H.o fun w2 r=>?_;have X:=kp (HB.o.on r);have z3:=kp (b2.o w2 r);have l5:=kp (Q.o.below r Q.o.lt);have q9:=kp (HS.o.below r o1.o);have p4:=kp (aB o1.o r.size);clear r;go_wp2_with fail;refine mb' z3.o fun E Z=>?_;have g0:=kp (X.o.on Z);have a3:=kp (l5.o.below Z l5.o.lt);have o9:=kp (Qy d v B l E (q9.o.below Z p4.o) (aB p4.o Z.size) (by omega));clear Z;go_wp2_with fail;refine o9.o.mono ?_;rintro e w4 ⟨J,gD,vq,vs,lq,rfl,m7,d7,m6,d4⟩;have d5:=kp m7;have o2:=k'2 d7 m6;have e8:=kp (g0.o.on d4);have m5:=kp (a3.o.below d4 a3.o.lt);clear m7 d7 m6 d4;have q':lq.length≤400000:=by rw[o2.a.length_eq]; exact aB (nI _ _) hn
   have e7:0<lq.length:=List.length_pos_of_mem (o2.a.mem_iff.2 (List.mem_filter.2 ⟨q4.a,by simpa [fN] using q4.b⟩));have d3:=ba' w4 (.cells #[.pointer (some ⟨J,0,none⟩)] 367);have o8:=kp (Blk.new w4 367 [.pointer (some ⟨J,0,none⟩)]);have a1:=kp (d5.o.below d3);have c':=kp (m5.o.below d3 m5.o.lt);have m4:=kp (e8.o.on d3);have a5:=kp (Qu _ a1.o.que (by omega) e7 o2.B);unfold qV Bk.cells at a5;clear e7 d3;go_wp2_with fail;refine a5.o.mono ?_;rintro e G ⟨x,l6,v6,rfl,j7,l2,j4,p6⟩;have y3:=kp (a1.o.big j7 l2);have l3:=kp (a1.o.que.keep o8.o l2);have b3:=kp (a1.o.que.keep2 c'.o l2 (by have:=g0.o.size; have:=a3.o.lt; omega));have g3:=kp (m4.o.trans (l2.chg.below (fun i n=>n.elim (fun e=>by have:=a1.o.que.lo; have:=g0.o.size; omega) fun e=>by have:=(a1.o.que.row.lt e).1; have:=g0.o.size; omega) m4.o.size));have d2:=kp (Rb o0.o o2.a rfl j4 p6);have C9:l6.length≤400000:=by have:=j4.length_eq; simp at this; omega
   have z8:=kp (gU ((lX _ _).1 o0.o).1 (((lX _ _).1 o0.o).2.1 x d2.D));have e9:=kp (fB ((lX _ _).1 o0.o).1);have z9:=kp (show jS o d l=(0,(iO d 9 x (fZ l x)).1,(iO d 9 x (fZ l x)).2) by rw[HR.o,d2.a]);have j2:=ba' G (.cells #[.i x.a,.i x.o] 262);have a':=kp (Blk.new G 262 [.i x.a,.i x.o]);have l9:=kp (y3.o.below j2);have p8:=kp (l3.o.below j2 l3.o.lt);have d':=kp (b3.o.below j2 b3.o.lt);have g8:=kp (g3.o.on j2);have b9:=kp (show ∀i,v6.ownBlock=some i→i≠G.heap.size from fun i n e=>by have:=(y3.o.que.row.lt n).2; omega);have s:=k'4 g0.o.size a3.o.lt d5.o.que.lo g3.o.size;clear j7 l2 j4 p6 j2 q';go_wp2_with fail
   go_loopw [46] (fun _ wr=>∃(b:Bk)(v l':_),(Qd wr E.heap.size J gD v vs l' (l.filter fun b=> !fN d b)∧(∀i,v.ownBlock=some i→i≠G.heap.size)∧G.heap.size<wr.heap.size)∧Blk wr w4.heap.size 367 [.pointer (some ⟨J,0,none⟩)]∧Blk wr G.heap.size 262 [.i b.a,.i b.o]∧Blk wr w.heap.size 262 [.i 0,.i 0]∧Bw' w wr∧
    ∃(m:Nat)(b0:List Bk),iO d m b b0=iO d 9 x (fZ l x)∧(l'++l.filter fun b=> !fN d b).Perm b0∧b.o-d≤m∧d≤b.o∧b.o≤8∧l'.length+m≤400100∧0≤b.a∧b.a≤256) (fun _ wr=>match wr.cell? ⟨G.heap.size,1,none⟩ with |some (.int _ z)=>(z-d).toNat|_=>0)
   case atStart=>
    refine⟨x,v6,l6,⟨l9.o,b9.o,by simp⟩,p8.o,a'.o,d'.o,g8.o,9,_,rfl,d2.b,?_,d2.c,?_,by omega,?_,?_⟩
    all_goals
     have:=z8.o;have:=e9.o;omega
   case round=>
    obtain⟨b,v7,l7,⟨hq,j1,D2⟩,hk,hx,hz,e3,m,b0,hs,hp,hm,D3,D4,D0,g',j'⟩:=hrel;have I:=kp hq;have a2:=kp j1;have HK:=kp hk;have HX:=kp hx;have q5:=kp hz;have m2:=kp e3;have g5:=kp hs;have p3:=kp hp;have q0:=hk.cell 0;have c0:=hx.cell 0;have c1:=hx.cell 1;have d1:=hx.frozen 1;simp only[aP,aZ]at q0 c0 c1;clear hq j1 hk hx hz e3 hs hp
    by_cases y':d<b.o
    .have m0:=(Chg.refl (fun i=>i=G.heap.size) wr).setCell (.inr rfl) 1 (.i (b.o-1));have l4:=HX.o.setCell 1 (.i (b.o-1));obtain⟨W8,y5⟩:=nm' (wr.setCell ⟨G.heap.size,1,none⟩ (.i (b.o-1)));rw[y5]at m0 l4;have y2:=kp (show Blk W8 G.heap.size 262 [.i b.a,.i (b.o-1)] from l4);have m9:=kp (I.o.off HX.o m0 a2.o (fun i n e=>by have:=(y3.o.small.lt n).2; omega));have m3:=kp (HK.o.chg m0 (by have:=l3.o.lt; omega));have o5:=kp (q5.o.chg m0 (by have:=b3.o.lt; omega));have j8:=kp (m2.o.trans (m0.below (fun i n=>by have:=b3.o.lt; omega) m2.o.size));have y9:=kp m0.size;have q8:=bG (m3.o.cell 0);have e0:=bG (y2.o.cell 0);have e1:=bG (y2.o.cell 1);have E:=fX (b.o-1);clear m0 l4;go_wp2_with fail;clear y5 q0 c0 c1 d1;refine mO 12 (by kernel_rfl) (by kernel_rfl) ?_;simp only[lV,kB,bS,bU]
     repeat (go_big_quiet_step ((go_at_call 218; with_reducible refine dP (iL _ _))))
     refine cI ?_;rintro W9 ⟨⟨_,l0⟩,rfl⟩;have Y:=kp (m9.o.below l0);have y8:=kp (m3.o.below l0 m3.o.lt);have e':=kp (o5.o.below l0 o5.o.lt);have z2:=kp (y2.o.below l0 y2.o.lt);have o4:=kp (j8.o.on l0);have C8:=kp (aB y9.o l0.size);have g9:=kp (show Calls prog 288 #[.iface 367 (.agg #[.pointer (some ⟨J,0,none⟩)]),.iface 262 (.agg #[.i (b.a+aU (b.o-1)),.i (b.o-1)])] W9 _ from Qv ⟨b.a+aU (b.o-1),b.o-1⟩ W9 Y.o.que (by omega) (by have:=s.D; have:=z2.o.lt; have:=g3.o.size; have:=Y.o.que.lo; have:=Y.o.que.blk.lt; omega));clear l0 q8 e0 e1;go_wp2_with fail;refine g9.o.mono ?_;rintro e C6 ⟨rfl,a8,C5,g7,d0,b7⟩;have j9:=kp (Y.o.big g7 d0);have m8:=kp (Y.o.que.keep y8.o d0);have q6:∀i,i=J∨v7.ownBlock=some i→i≠G.heap.size:=fun i n e=>n.elim (fun e2=>by subst e2; subst e; have:=(show W9.heap[_]? =_ from z2.o).symm.trans Y.o.que.blk; simp at this) fun e2=>a2.o i e2 e;have p2:=kp (z2.o.chg d0.chg fun hs=>q6 _ hs rfl);have b':=kp (Y.o.que.keep2 e'.o d0 (by have:=s.a; have:=s.b; omega));have d8:=kp (o4.o.trans (d0.chg.below (fun i n=>n.elim (fun e=>by have:=Y.o.que.lo; have:=s.a; have:=s.b; omega) fun e=>by have:=(Y.o.que.row.lt e).1; have:=s.a; have:=s.b; omega) o4.o.size));have a9:=kp (show ∀i,a8.ownBlock=some i→i≠G.heap.size from fun i n e=>(d0.own i n).elim (fun h2=>a2.o i h2 e) fun hk=>by have:=z2.o.lt; omega);have C7:=kp d0.chg.size;have y4:=kp b7;have g1:=p2.o.cell 1;have g2:=HX.o.cell 1;simp only[aP,aZ]at g1 g2;clear g7 d0 b7 q6;go_wp2_with fail;go_roundw
     case rel=>
      obtain⟨m',rfl⟩:∃m',m=m'+1:=⟨m-1,by omega⟩
      have C4:aU (b.o-1)=aW (b.o-1):=fJ (by omega) (by omega);refine⟨⟨b.a,b.o-1⟩,a8,C5,⟨j9.o,a9.o,by have:=p2.o.lt; exact this⟩,m8.o,p2.o,b'.o,d8.o,m',gY b0 ⟨b.a+aU (b.o-1),b.o-1⟩,?_,?_,by show b.o-1-d≤m'; omega,by show d≤b.o-1; omega,by show b.o-1≤8; omega,?_,g',j'⟩
      .rw[←g5.o,C4]
       conv=>rhs; unfold iO
       rw[aK y']
      .exact ((y4.o.append_right _).trans ((List.perm_cons _).2 p3.o)).trans (pX _ _).symm
      .have:=y4.o.length_eq;simp at this;omega
     case measure=>
      rw[show C6.cell? ⟨G.heap.size,1,none⟩=_ from p2.o.cell 1,show wr.cell? ⟨G.heap.size,1,none⟩=_ from HX.o.cell 1];show (b.o-1-d).toNat<(b.o-d).toNat;omega
    .have a0:b.o=d:=by omega
     have e5:=kp (show iO d 9 x (fZ l x)=(b,b0) from by rw[←g5.o]; cases m<;>simp[iO,a0]);obtain⟨ls,g4⟩:=nm' (l.filter fun b=> !fN d b);rw[g4]at I p3;have D1:ls.length≤400000:=by rw[←g4]; exact aB (nI _ _) hn
     clear g4 a0 q0 c0 c1 d1;have c1:=HX.o.cell 1;simp only[aP,aZ]at c1;go_wp2_with fail;clear c1;have H:=kp (fun W(f:Chg (fun i=>v7.ownBlock=some i) wr W∧Ow W E.heap.size 262 2 v7 Bk.cells l7)=>
      fR (I.o.que.keep HK.o (g:=J) (v':=v7) ⟨f.1.mono fun i _ n=>.inr n,fun _ h=>.inl h⟩) (fR (I.o.que.blk_chg f.1) (I.o.small.chg f.1 fun i n he=>I.o.sep i n he)))
     have d6:E.heap.size≤wr.heap.size:=by have:=s.c; have:=I.o.que.blk.lt; omega
     refine fM 11 (fun W=>Chg (fun i=>v7.ownBlock=some i) wr W∧Ow W E.heap.size 262 2 v7 Bk.cells l7) (jJ 8 fun i=>v7.ownBlock=some i) (by kernel_rfl) (by kernel_rfl) ⟨(Chg.refl _ _).drew,I.o.que.row.below (bL (aH _ _))⟩ ?_
     iterate 8 (refine bE ?_; apply Exists.intro)
     refine bJ (fun u W=>Ow W E.heap.size 262 2 u Bk.cells (l7++ls)∧∀k,u.ownBlock=some k→v7.ownBlock=some k∨wr.heap.size≤k) ?_
     iterate 2 (refine bE ?_; apply Exists.intro)
     refine cC ⟨?pers,?walk⟩
     case walk=>
      iterate 8
       apply bB (by kernel_rfl) (by intro t w h; cases h; exact trivial) rfl
       .intro W f U; have q:=(H.o W f).1.cell 0; have q2:=(H.o W f).2.1.cell 0; simp only[aP]at q q2; go_wp2_with fail;exact⟨rfl,_,rfl,f,cN (by decide) (aH _ _),rfl⟩
       simp only[Act.put,aE,aC,aD]
      refine⟨fun W f U=>?_,fun u8=>?_⟩
      .have e3:E.heap.size≤W.heap.size:=aB d6 f.1.size;go_wp2_with (at_builtin; refine jD (enc:=Bk.cells) W rfl (.tmp 72) (.tmp 73) 38 rfl E.heap.size 262 nY iH rfl (by omega) cO f.2 rfl ((H.o W f).2.2.sl cO) rfl (fun a _=>lJ a) ?_ ?_ e3 ?_)
       .unfold maxLen; omega
       .omega
       intro v' W3 ho z' hg o';exact⟨rfl,_,rfl,⟨f.1.trans (eX hg) (fun _ _ h=>h),z'⟩,pA (eX hg),ho,fun k hk=>(o' k hk).imp id (aB f.1.size)⟩
      simp only[Act.put,aE,aC,aD]
      iterate 2
       apply bB (by kernel_rfl) (by intro t w h; cases h; exact trivial) rfl
       .intro W f U; go_wp2_with fail;exact⟨rfl,_,rfl,f,cN (by decide) (aH _ _),rfl⟩
       simp only[Act.put,aE,aC,aD]
      intro W f U;have f8:=U 74;obtain⟨f8,f9⟩:=f8;have q:=(H.o W f).2.1.cell 0;have qf:=(H.o W f).2.1.frozen 0;have HW:=kp f;have b5:=kp (H.o W f);have h8:=kp f8;have h9:=kp f9;simp only[bS,bU,aP]at q ⊢;obtain⟨F,c8,q7,_,_⟩:=dO f8;obtain⟨N,hN⟩:=nm' ((l7++ls).length);rw[hN]at q7;subst q7;clear U f f8 f9;have o7:Que (W.setCell ⟨J,0,none⟩ (.slice F N c8)) E.heap.size J (.slice F N c8) (l7++ls):=
       ⟨b5.b.setCell 0 _,h8.o.chg ((Chg.refl (fun i=>i=J) W).setCell (.inr rfl) 0 _) (fun i n he=>h8.o.ne_blk b5.b (by decide) (he▸n)),I.o.que.lo⟩
      have m1:QTo wr (W.setCell ⟨J,0,none⟩ (.slice F N c8)) J v7 (.slice F N c8):=⟨(HW.a.mono fun i _ n=>.inr n).setCell (.inr (.inl rfl)) 0 _,h9.o⟩
      have j0:=kp o7;have o3:=kp (I.o.que.keep HK.o m1);have j5:=kp (HX.o.chg m1.chg fun hs=>hs.elim (fun e=>by have:=(show wr.heap[_]? =_ from HX.o).symm.trans (e▸I.o.que.blk); simp at this) fun e=>a2.o _ e rfl);have p5:=kp (I.o.que.keep2 q5.o m1 (by have:=s.a; have:=s.b; omega));have j3:=kp (m2.o.trans (m1.chg.below (fun i n=>n.elim (fun e=>by have:=I.o.que.lo; have:=s.a; have:=s.b; omega) fun e=>by have:=(I.o.que.row.lt e).1; have:=s.a; have:=s.b; omega) m2.o.size));have e6:E.heap.size≤(W.setCell ⟨J,0,none⟩ (.slice F N c8)).heap.size:=aB d6 m1.chg.size;obtain⟨Wn,z5⟩:=nm' (W.setCell ⟨J,0,none⟩ (.slice F N c8));rw[z5]at j0 o3 j5 p5 j3 e6;clear o7 m1;go_wp2_with fail;clear q qf z5;have d9:=kp (show ∀i,(Value.slice F N c8).ownBlock=some i→i≠G.heap.size from fun i n e=>(h9.o i n).elim (fun h2=>a2.o i h2 e) fun hk=>by omega);have q1:=kp (fun W(f:Chg (fun i=>(Value.slice F N c8).ownBlock=some i) Wn W∧∃K,Ow W E.heap.size 262 2 (.slice F N c8) Bk.cells K∧K.Perm (l7++ls))=>
       fR (o3.o.chg f.1 (j0.o.row.ne_blk o3.o (by decide))) (fR (j0.o.blk_chg f.1) (fR (j5.o.chg f.1 fun he=>d9.o _ he rfl) (p5.o.chg f.1 fun he=>by have:=(j0.o.row.lt he).1; have:=s.a; have:=s.b; omega))))
      refine fM 4 (fun W=>Chg (fun i=>(Value.slice F N c8).ownBlock=some i) Wn W∧∃K,Ow W E.heap.size 262 2 (.slice F N c8) Bk.cells K∧K.Perm (l7++ls)) (jJ 3 fun i=>(Value.slice F N c8).ownBlock=some i) (by kernel_rfl) (by kernel_rfl) ⟨(Chg.refl _ _).drew,_,j0.o.row.below (bL (aH _ _)),.refl _⟩ ?_
      iterate 3 (refine bE ?_; apply Exists.intro)
      refine bJ (fun u W=>u=.slice F N c8∧∃K,K.Perm (l7++ls)∧K.Pairwise (fun x y=>x.a≤y.a)∧Ow W E.heap.size 262 2 (.slice F N c8) Bk.cells K) ?_;refine cC ⟨?pers2,?walk2⟩
      case walk2=>
       iterate 3
        apply bB (by kernel_rfl) (by intro t w h; cases h; exact trivial) rfl
        .intro W f U; have q:=(q1.o W f).1.cell 0; have q2:=(q1.o W f).2.2.1.cell 0; have q3:=(q1.o W f).2.2.1.cell 1; simp only[aP,aZ]at q q2 q3; go_wp2_with fail;exact⟨rfl,_,rfl,f,cN (by decide) (aH _ _),rfl⟩
        simp only[Act.put,aE,aC,aD]
       refine⟨fun W f U=>?_,fun u8=>?_⟩
       .obtain⟨K,o6,l1⟩:=f.2;have p9:=kp (Ra W ⟨(q1.o W f).2.1,o6,j0.o.lo⟩ (by rw[l1.length_eq,bF]; omega) (aB e6 f.1.size));have HW:=kp f.1;have z4:=kp l1;clear U f o6 l1;go_wp2_with fail;refine p9.o.mono ?_;rintro e w' ⟨rfl,z7,a7,C0,y6,g6⟩;go_wp2_with fail;exact⟨rfl,_,rfl,⟨HW.o.trans g6 (fun _ _ h=>h),z7,y6,a7.symm.trans z4.o⟩,pA g6,rfl,z7,a7.symm.trans z4.o,C0,y6⟩
       simp only[Act.put,aE,aC,aD];intro W f U;have f8:=U 80;obtain⟨rfl,K,l1,p7,z6⟩:=f8;have b1:=kp (q1.o W f).2.2.2;have l8:=kp (j3.o.trans (f.1.below (fun i n=>by have:=(j0.o.row.lt n).1; have:=s.a; have:=s.b; omega) j3.o.size));have O:=b1.o.cell 0;have P:=b1.o.cell 1;have y0:=b1.o.frozen 0;have y1:=b1.o.frozen 1;have HL:=k'3 l1 p7 z6;simp only[bS,bU,aP,aZ]at O P ⊢;clear U f l1 p7 z6;go_wp2_with fail;clear O P y0 y1;have L:=((b1.o.setCell 0 (.i b.a)).setCell 1 (.i b.o)).cell 0;have M:=((b1.o.setCell 0 (.i b.a)).setCell 1 (.i b.o)).cell 1;simp only[aC,aD,aP,aZ]at L M;have j6:=((Chg.refl (fun i=>i=w.heap.size) W).setCell (.inr rfl) 0 (.i b.a)).setCell (.inr rfl) 1 (.i b.o);have V:=k'2 ((l8.o.setCell (p:=⟨w.heap.size,0,none⟩) (aN _) (.i b.a)).setCell (p:=⟨w.heap.size,1,none⟩) (aN _) (.i b.o)) (HL.C.chg j6 fun i n e=>by have:=(HL.C.lt n).1; have:=s.a; have:=s.b; omega);clear j6;generalize (W.setCell ⟨w.heap.size,0,none⟩ (.i b.a)).setCell ⟨w.heap.size,1,none⟩ (.i b.o)=Wf at *;refine bI (v:=.tuple #[.agg #[.i b.a,.i b.o],.slice F N c8,.i 0]) (by simp[results,zG,go_sem,L,M]) rfl ?_;have e4:=(lX _ _).1 o0.o;have C1:kG d l=some (b,b0):=by rw[d2.a,e5.o]
       have C2:=Fo (R:=[]) e4.1 h0 ((oU e4.1).1 o0.o) (by rw[fG]; exact e4.2.2.imp fun h=>h.2.1.symm) C1;have p':b0=K:=Or C2.2.2.1.sort HL.b (p3.o.symm.trans HL.a.symm);rw[z9.o,e5.o];exact⟨_,rfl,by rw[p']; exact V.B.mono (by have:=s.a; have:=s.b; omega),V.a⟩
      case pers2=>
       refine⟨pv',pv',pv',?_,trivial⟩;rintro i u W W' j1 ⟨h1,K,h2,h3,h4⟩ A;exact⟨h1,K,h2,h3,h4.below (pB A j1)⟩
     case pers=>
      refine⟨pv',pv',pv',pv',pv',pv',pv',pv',?_,pv',pv',trivial⟩;rintro i u W W' j1 ⟨h1,h2⟩ A;exact⟨h1.below (pB A j1),h2⟩
end
section
open Go.RowKit Go.Lib
theorem pC{P:Program}(w:World)(f E F d:TypeId)(k g o e n:Nat)(a:Addr)(l D:Nat)(c:Array Value)(t:TypeId)(b:List Value)(m:Nat)
  (C:P.underlying f=some (.slice d)) (h:(P.info? d).map (·.size)=some k)
  (r:w.heap[g]? =some (.cells c t (0,0))) (y:m=Nat.min l e) (z:b.length=m*k)
  (A:∀j v,b[j]? =some v→w.cell? (a.add j)=some v) (q:o+b.length≤c.size) (p:∀v∈b,v.oneCell'=true):
  (Builtin.copy_ #[f,E] F #[.slice (some ⟨g,o,none⟩) e n,.slice (some a) l D]).run P w=
   .ok (goInt m) (w.setRow g (c.toList.take o++b++c.toList.drop (o+b.length)).toArray):=by
 have x:=run_loadCells_list (P:=P) w a b A;have B:=run_storeCells_at P g o t b 0 c w r (by simpa using q) p
 cases hq:P.info? d with
 |none=>simp[hq]at h
 |some i=>
  have s:i.size=k:=by simpa [hq] using h
  simp[Builtin.copy_,run_underlying C,Builtin.lenOf,Builtin.firstCells,sizeOf,typeInfo,hq,s,←y,←z,x,B]
theorem pD{P:Program}(w:World){b:Array Oper}{c:List Oper}{o:Oper}{a:Act}{Q:Exit→Act→World→Prop}(i:o.guard=none)(d s:Operand)(t e:TypeId)
  (j:o.op=.call {callee:=.builtin .copy,args:=#[d,s],argTypes:=#[t,e]}) (v u:Value) (g:a.eval d=v) (l:a.eval s=u) {v':Value} {w':World}
  (k:(Builtin.copy_ #[t,e] o.type #[v,u]).run P w=.ok v' w') (h:wpList P b Q c (a.put o.dst v') w'):wpList P b Q (o::c) a w:=by
 refine wpList_plain i fun _ f=>?_;unfold Oper.wp execOp;simp only[j,resolve,invoke,builtin,Sem.run_bind,Sem.run_pure,Result.andThen_ok,List.map_toArray,mJ,tQ,g,l,k];exact f _ _ h
def OR{α:Type}(w:World)(S:Nat→Prop)(t:TypeId)(k:Nat)(v:Value)(enc:α→List Value)(l:List α):Prop:=aM w S t k v l.length (aO enc l)
section
variable {α:Type}{enc:α→List Value}{w w':World}{S T:Nat→Prop}{base k:Nat}{t:TypeId}{v:Value}{l:List α}
theorem OR.of_ow(h:Ow w base t k v enc l)(a:∀i,base≤i→i<w.heap.size→S i):OR w S t k v enc l:=aM.of_own h a
theorem OR.below(h:OR w S t k v enc l)(a:Bw' w w'):OR w' S t k v enc l:=aM.below h a
theorem OR.sl(h:OR w S t k v enc l):Sl w w.heap.size v enc l:=by
 obtain⟨A,c,rfl,a,b⟩:=aM.slice h;exact⟨A,c,rfl,aM.rd h,a,b⟩
theorem OR.lt(h:OR w S t k v enc l):∀i,some i=v.ownBlock→S i∧i<w.heap.size:=aM.lt h
end
end
end Go.Proofs.YtoncgpddjmgbfaaGreat
