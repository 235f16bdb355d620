import Derived.Test.YtoncgpddjmgbfaaGreatZ16
import Derived.Test.YtoncgpddjmgbfaaGreatZ17
import Derived.Test.YtoncgpddjmgbfaaGreatZ20
import Derived.Test.YtoncgpddjmgbfaaGreatZ21
import Derived.Test.YtoncgpddjmgbfaaGreatZ22
namespace Go.Proofs.YtoncgpddjmgbfaaGreat
open Go.RowKit Go.Proofs.Tryz
set_option maxRecDepth 100000
set_option maxHeartbeats 12800000
set_option linter.unusedVariables false
set_option linter.unusedSimpArgs false
section
theorem Wm(w:World)(l:List Int)(b:l.length≤1000):Sl (w.alloc (.cells (iv l).toArray 3)) (w.heap.size+1) (.slice (some ⟨w.heap.size,0,none⟩) l.length l.length) i1 l:=by
 refine⟨_,_,rfl,.inr ⟨w.heap.size,0,rfl,by omega,fun j u a=>?_⟩,aN _,by unfold maxLen; omega⟩;rw[gL,(Blk.new w 3 (iv l)).cell,←oO];exact a
def iV(W:World)(g:Nat)(v:Value)(ns:List Int):Prop:=∃B,Sl W B v i1 ns∧B≤W.heap.size∧∀A n c b off,v=.slice A n c→A=some ⟨b,off,none⟩→ns≠[]→b≠g
theorem iV.low{W:World}{B g:Nat}{v:Value}{ns:List Int}(h:Sl W B v i1 ns)(i:B≤g)(j:g≤W.heap.size):iV W g v ns:=by
 refine⟨B,h,aB i j,fun A n c b q l f k=>?_⟩;obtain⟨m,c',e,a,-,-⟩:=h;rw[l]at e;obtain⟨rfl,-,-⟩:=Value.slice.inj e;rcases a with a|⟨o,r,d,p,-⟩
 .exact absurd (by cases ns with |nil=>rfl|cons x t=>rw[oO]at a; simp[iv]at a) k
 .rw[f]at d; cases d; omega
theorem iV.new{W:World}{g:Nat}{ns:List Int}(d:ns.length≤1000)(f:g<W.heap.size):iV (W.alloc (.cells (iv ns).toArray 3)) g (.slice (some ⟨W.heap.size,0,none⟩) ns.length ns.length) ns:=
 ⟨_,Wm W ns d,by simp,fun A n c b h e a _=>by
  obtain⟨rfl,-,-⟩:=Value.slice.inj e
  cases a; omega⟩
theorem qS{w:World}{g:Nat}{l:List UInt8}{v:Value}{ns:List Int}(h:eR w g l)(f:iV w g v ns)(k:InN ns)(j:l.length+4*ns.length≤1000000):
  Calls prog 127 #[.pointer (some ⟨g,0,none⟩),v] w fun e a=>e=.returned (.tuple #[])∧eR a g (l++ns.flatMap aQ)∧Chg (fun i=>i=g) w a:=by
 obtain⟨B,b,c,d⟩:=f;exact Wj g B l v ns w h b c d k j
theorem Iz{w:World}{g:Nat}{l:List UInt8}{v:Value}{ns:List Int}(h:eR w g l)(f:iV w g v ns)(j:l.length+8*ns.length≤1000000):
  Calls prog 128 #[.pointer (some ⟨g,0,none⟩),v] w fun e a=>e=.returned (.tuple #[])∧eR a g (l++ns.flatMap dH)∧Chg (fun i=>i=g) w a:=by
 obtain⟨B,b,c,d⟩:=f;exact Wl g B l v ns w h b c d j
def vD(w:World)(B:Nat)(v:Value)(l:List UInt8):Prop:=∃A c,v=.slice A l.length c∧Rd w B A (bv l)
theorem vD.below{w a:World}{B C:Nat}{v:Value}{l:List UInt8}(h:vD w B v l)(d:Below C w a)(b:B≤C):vD a B v l:=by
 obtain⟨A,c,e,f⟩:=h;exact⟨A,c,e,f.below d b⟩
theorem Ja:∀(l:List Ob),(∀x∈l,x.ws.length≤32∧x.ls.length≤16)→(l.flatMap iP).length≤336*l.length
 |[],_=>aN _
 |x::l,h=>by
  have b:=h x (by simp);have c:=Ja l fun y a=>h y (by simp[a]);rw[mK,bF,Ft,eS];omega
def oE(h:Hp):List UInt8:=aQ h.order++aQ h.next++h.tops.flatMap aQ++aQ h.obs.length
theorem Wq(h:Hp):(oE h).length=28:=by
 unfold oE;rw[bF,bF,bF,fU,fU,fU,jI _ 4 fU]; rfl
theorem Wr(p:HpV)(r:List ObV)(B:Nat)(w:World)(h:jB w B p r)(hB:B≤w.heap.size)(H:cR p.x=true):
  Calls prog 125 #[.agg p.cells.toArray] w fun e w'=>∃v,e=.returned (.tuple #[v,.i 0])∧vD w' w'.heap.size v (cF p.x)∧Bw' w w':=by
 have hH:=gE.1 H;have HH:=kp hH;have HK:=kp hH.okN;have p0:=kp hH.len;generalize z0:w.alloc (.cells p.cells.toArray 40)=W1;have s:Blk W1 w.heap.size 40 p.cells:=z0▸Blk.new w 40 p.cells;have e1:Bw' w W1:=z0▸ba' w _;have l5:=kp e1;have o0:=kp s;have S:=k'2 (h.below e1 hB) (aB hB e1.size);have HE:=kp h.2.1;have l4:r.length=p.x.obs.length:=by rw[h.2.1,dD]
 have o2:=kp (by have:=xT p r B W1 S.a S.B (by have:=p0.o; omega) (by have:=p0.o; omega); rw[H]at this; exact this);obtain⟨n,hN⟩:=nm' r.length;obtain⟨A,c,y4,-,-,-⟩:=h.1.1;have y0:=kp y4;have Q:=k'2 hN (show p.x.obs.length=n by rw[←l4]; exact hN);have g7:n≤256:=by have:=p0.o; have:=Q.o; omega
 have k0:=(eP.of s).c0;have O:=(eP.of s).c1;have k2:=(eP.of s).c2;have k3:=(eP.of s).c3;have k4:=(eP.of s).c4;have k5:=(eP.of s).c5;have k6:=(eP.of s).c6;have k7:=(eP.of s).c7;rw[show p.cells.toArray=#[.i p.x.order,p.ov,.i p.x.next,.i p.x.t0,.i p.x.t1,.i p.x.t2,.i p.x.t3,p.fv] from rfl]at o2 z0 ⊢;clear h s e1 hB hN hH H l4 y4;go_enter func125,ntmps125;go_wp2_with fail;refine mb' (o2.o) fun w2 G=>?_;have z6:=kp G;have a4:=o0.o.below G o0.o.lt;obtain⟨g,hg⟩:=nm' w2.heap.size;have h3:=Blk.new w2 209 [.slice none 0 0];have K:=ba' w2 (.cells [Value.slice none 0 0].toArray 209);obtain⟨d,p3⟩:=nm' (w2.alloc (.cells #[.slice none 0 0] 209));rw[show ([Value.slice none 0 0].toArray:Array Value)=#[.slice none 0 0] from rfl,p3]at K;rw[show ([Value.slice none 0 0].toArray:Array Value)=#[.slice none 0 0] from rfl,p3]at h3;rw[hg]at h3 K;have HG:=kp hg;have a7:=kp K;have E:=kp (eR.nil h3);have I:=kp (show w.heap.size<g by rw[←hg]; exact cY o0.o.lt G.size);have a0:=kp (show Blk d w.heap.size 40 p.cells from a4.below K I.o);have F:=kp (show jB d B p r∧B≤g from⟨(S.a.below G S.B).below K (by rw[←hg]; exact aB S.B G.size),by rw[←hg]; exact aB S.B G.size⟩);have j5:=kp (show Bw' w d from (l5.o.on G).trans (K.mono (dK I.o)));clear G a4 h3 K k0 O k2 k3 k4 k5 k6 k7;have k0:=(eP.of a0.o).c0;have k2:=(eP.of a0.o).c2;have a1:=iV.new (W:=d) (g:=g) (ns:=[p.x.order,p.x.next]) (by simp) E.o.lt;have e4:=ba' d (.cells (iv [p.x.order,p.x.next]).toArray 3);obtain⟨W4,m6⟩:=nm' (d.alloc (.cells #[.i p.x.order,.i p.x.next] 3));rw[show (iv [p.x.order,p.x.next]).toArray=#[.i p.x.order,.i p.x.next] from rfl,m6]at a1 e4;have m5:=kp (qS (E.o.below e4) a1 (by intro z l; simp only[bD,dF,or_false]at l; rcases l with rfl|rfl; exact HK.a; exact HK.b) (by simp));have d2:=kp (e4.mono (dK E.o.lt));clear a1 e4;go_wp2_with fail;refine (m5.o).mono ?_;rintro e w5 ⟨rfl,m4,d4⟩;have q0:=kp m4;have g2:=kp (show Below g d w5 from d2.o.trans (d4.below (fun i e=>nH e.symm) (by have:=d2.o.size; have:=E.o.lt; omega)));clear m4 d4 k0 k2;have M:=a0.o.below g2.o I.o;have y3:iV w5 g (.slice (some ⟨w.heap.size,3,none⟩) 4 4) p.x.tops:=by
  refine iV.low (B:=w.heap.size+1) ⟨_,_,rfl,.inr ⟨w.heap.size,3,rfl,by omega,fun j u hu=>?_⟩,aN _,by unfold maxLen; omega⟩ I.o (by have:=q0.o.lt; omega);rw[M.cell];rw[oO]at hu;have hj:j<4:=by
   obtain⟨hj,-⟩:=iZ.1 hu;exact hj
  rw[←hu]
  match j,hj with
  |0,_=>rfl
  |1,_=>rfl
  |2,_=>rfl
  |3,_=>rfl
 have o5:=kp (qS q0.o y3 (fun z l=>HK.c z l) (by simp[fU]; show 4+4+4*4≤_; omega));clear y3 M;go_wp2_with fail;refine (o5.o).mono ?_;rintro e w6 ⟨rfl,o4,g4⟩;have b3:=kp o4;have j0:=kp (show Below g d w6 from g2.o.trans (g4.below (fun i e=>nH e.symm) (by have:=q0.o.lt; omega)));clear o4 g4;have O:=(eP.of (a0.o.below j0.o I.o)).c1;rw[y0.o,Q.a]at O;have T:=iV.new (W:=w6) (g:=g) (ns:=[(n:Int)]) (by simp) b3.o.lt;have e7:=ba' w6 (.cells (iv [(n:Int)]).toArray 3);obtain⟨W7,p6⟩:=nm' (w6.alloc (.cells #[.i n] 3));rw[show (iv [(n:Int)]).toArray=#[.i (n:Int)] from rfl,p6]at T e7;have q5:=kp (qS (b3.o.below e7) T (by intro z l; rw[bZ.1 l]; exact⟨by omega,by omega⟩) (by have h1:(p.x.tops.flatMap aQ).length=16:=jI _ 4 fU p.x.tops; simp only[bF,h1,mK,zD,nL,fU,eS]; omega));have l2:=kp (j0.o.trans (e7.mono (aB (by have:=E.o.lt; omega) j0.o.size)));clear T e7;go_wp2_with fail;refine (q5.o).mono ?_;rintro e Z ⟨rfl,e0,U⟩;have g6:=kp (show eR Z g (oE p.x++(p.x.obs.take 0).flatMap iP) by
  have:oE p.x++(p.x.obs.take 0).flatMap iP=[]++[p.x.order,p.x.next].flatMap aQ++p.x.tops.flatMap aQ++[(n:Int)].flatMap aQ:=by
   unfold oE; rw[Q.B]; simp
  rw[this]; exact e0)
 have m2:=kp (show Below g d Z from l2.o.trans (U.below (fun i e=>nH e.symm) (aB (by have:=E.o.lt; omega) l2.o.size)));clear e0 U O;have O:=(eP.of (a0.o.below m2.o I.o)).c1;rw[y0.o,Q.a]at O;go_wp2_with fail;clear O
 go_loopw [32] (fun i wr=>∃k:Nat,k≤n∧i=.i k∧eR wr g (oE p.x++(p.x.obs.take k).flatMap iP)∧Below g d wr) (fun i _=>n-(intOf i).toNat)
 case atStart=>exact⟨0,by omega,rfl,g6.o,m2.o⟩
 case round=>
  obtain⟨k,hk,rfl,Y,g1⟩:=hrel;have R:=kp Y;have HB:=kp g1;have l3:=kp (F.a.below g1 F.B);clear Y g1
  by_cases d7:k<n
  .have g3:(k:Int)<(n:Int):=by omega
   have X:k<r.length:=by have:=Q.a; omega
   obtain⟨A6,c6,z1,a5,-,-⟩:=l3.a.1;rw[y0.o]at z1;obtain⟨rfl,-,rfl⟩:=Value.slice.inj z1;obtain⟨b,j7,rfl,-,V,-⟩:=dS (P:=prog) 5 eV (by omega) a5 k X;have d5:r[k]∈r:=cU X;have b2:r[k]? =some (r[k]'X):=jN X;generalize r[k]'X=x at *;have y1:p.x.obs[k]? =some x.x:=by rw[HE.o,Md,b2]; rfl
   have b5:p.x.obs.take (k+1)=p.x.obs.take k++[x.x]:=by
    obtain⟨q6,y6⟩:=iZ.1 y1;rw[fE q6,y6]
   have o1:=nJ y1;have o3:=kp b2;have d0:=k'3 b5 (HK.D _ o1) (HH.o.lens o1);have g0:=l3.a.2 x d5;have b7:=kp g0;obtain⟨Aw,cw,a2,-,-,-⟩:=g0.1;obtain⟨Al,cl,m1,-,-,-⟩:=g0.2;have m3:=k'2 a2 m1;have l1:(oE p.x++(p.x.obs.take k).flatMap iP).length≤28+336*k:=by
    rw[bF,Wq];have:=Ja (p.x.obs.take k) fun y hy=>HH.o.lens (rI hy);rw[cL]at this;have:min k p.x.obs.length≤k:=Nat.min_le_left ..;omega
   obtain⟨L,hL⟩:=nm' (oE p.x++(p.x.obs.take k).flatMap iP);rw[hL]at R l1;have y2:=kp l1;have d6:=kp hL;have x0:=V 0 _ rfl;have x1:=V 1 _ rfl;have x2:=V 2 _ rfl;have x3:=V 3 _ rfl;have x4:=V 4 _ rfl;simp only[dW]at x0;obtain⟨f,q1⟩:=nm' x.x.ws.length;obtain⟨q,p1⟩:=nm' x.x.ls.length;rw[a2,q1]at x3;rw[m1,p1]at x4;have J:=k'2 q1 p1;have g9:f≤32∧q≤16:=by have:=d0.C; omega
   have z2:=kp g9;generalize q3:wr.alloc (.cells #[.i x.x.h,.i x.x.b.a,.i x.x.b.o,.slice Aw f cw,.slice Al q cl] 264)=W5;have M:Bw' wr W5:=q3▸ba' wr _;have N:Blk W5 wr.heap.size 264 [.i x.x.h,.i x.x.b.a,.i x.x.b.o,.slice Aw f cw,.slice Al q cl]:=q3▸Blk.new wr 264 [.i x.x.h,.i x.x.b.a,.i x.x.b.o,.slice Aw f cw,.slice Al q cl];have s0:=N.cell 0;have s1:=N.cell 1;have s3:=N.cell 3;have s4:=N.cell 4;simp only[aP,aZ]at s0 s1 s3 s4;have p2:=kp (show g<wr.heap.size from R.o.lt);have a3:=kp (R.o.below M);have e5:=kp (HB.o.trans (M.mono (dK R.o.lt)));have b1:=iV.new (W:=W5) (g:=g) (ns:=[x.x.h,x.x.b.a,(f:Int),(q:Int)]) (by simp) a3.o.lt;have e6:=ba' W5 (.cells (iv [x.x.h,x.x.b.a,(f:Int),(q:Int)]).toArray 3);obtain⟨W6,o6⟩:=nm' (W5.alloc (.cells #[.i x.x.h,.i x.x.b.a,.i f,.i q] 3));rw[show (iv [x.x.h,x.x.b.a,(f:Int),(q:Int)]).toArray=#[.i x.x.h,.i x.x.b.a,.i (f:Int),.i (q:Int)] from rfl,o6]at b1 e6;have p5:=kp (qS (a3.o.below e6) b1 (by
    intro z l;simp only[bD,dF,or_false]at l;rcases l with rfl|rfl|rfl|rfl
    .exact d0.b.1
    .exact d0.b.2.1
    .exact⟨by omega,by omega⟩
    .exact⟨by omega,by omega⟩) (by show L.length+4*4≤_; omega))
   have a6:=kp (N.below e6 N.lt);have j2:=kp (e5.o.trans (e6.mono (aB (dK R.o.lt) M.size)));clear b5 o1 g0 a2 m1 l1 V a5 z1 d5 b2 y1 X hL q1 p1 M N b1 e6;go_wp2_with fail;refine (p5.o).mono ?_;rintro e w7 ⟨rfl,p4,j1⟩;have d3:=kp p4;have q2:=kp (a6.o.chg j1 (fun e=>by have:=p2.o; omega));have l0:=kp (show Below g d w7 from j2.o.trans (j1.below (fun i e=>nH e.symm) (aB (by have:=E.o.lt; omega) j2.o.size)));clear p4 j1 s0 s1 s3 s4 x0 x1 x2 x3 x4;have s3:=q2.o.cell 3;simp only[aP,aZ]at s3;have T:iV w7 g (.slice Aw f cw) x.x.ws:=by
    have:=iV.low (W:=w7) ((F.a.below l0.o F.B).1.2 x ?_).1 F.B (dK d3.o.lt)
    .rw[m3.a,J.a]at this; exact this
    .have:=o3.o; exact nJ this
   have y5:=kp (Iz d3.o T (by rw[bF,jI _ 4 fU,J.a]; have:=y2.o; have:=z2.o; show L.length+4*4+8*f≤_; omega));clear T;go_wp2_with fail;refine (y5.o).mono ?_;rintro e Z ⟨rfl,e0,U⟩;have j3:=kp e0;have b6:=kp (q2.o.chg U (fun e=>by have:=p2.o; omega));have m0:=kp (show Below g d Z from l0.o.trans (U.below (fun i e=>nH e.symm) (aB (by have:=E.o.lt; omega) l0.o.size)));clear e0 U s3;have s4:=b6.o.cell 4;simp only[aP,aZ]at s4;have z3:iV Z g (.slice Al q cl) x.x.ls:=by
    have:=iV.low (W:=Z) ((F.a.below m0.o F.B).1.2 x (nJ o3.o)).2 F.B (dK j3.o.lt);rw[m3.B,J.B]at this; exact this
   have z5:=kp (qS j3.o z3 (fun z l=>d0.b.2.2.2 z l) (by rw[bF,bF,jI _ 4 fU,jI _ 8 uM,J.a,J.B]; have:=y2.o; have:=z2.o; show L.length+4*4+8*f+4*q≤_; omega));clear z3;go_wp2_with fail;refine (z5.o).mono ?_;rintro e w9 ⟨rfl,q4,j4⟩;have j6:=kp q4;have g5:=kp (show Below g d w9 from m0.o.trans (j4.below (fun i e=>nH e.symm) (aB (by have:=E.o.lt; omega) m0.o.size)));clear q4 j4 s4;go_wp2_with fail;go_roundw
   case rel=>
    refine⟨k+1,by omega,by go_num,?_,g5.o⟩;have h9:=j6.o;rw[d0.a,zC,←cH,d6.o,Dm];unfold iP;rw[J.a,J.B];simpa [cH] using h9
   case measure=>simp[intOf]; omega
  .obtain rfl:k=n:=by omega
   have Y:=R.o;rw[eF (by have:=Q.B; omega)]at Y;obtain⟨A9,c9,d1,z4,-⟩:=Y.o;obtain⟨m,hm⟩:=nm' ((oE p.x++p.x.obs.flatMap iP).length);rw[hm]at d1;have HM:=kp (show (cF p.x).length=m from hm);have s0:=d1.cell 0;simp only[aP]at s0;have l6:=kp (show Rd wr wr.heap.size A9 (bv (cF p.x)) from z4);clear Y d1 z4 hm;go_wp2_with fail;go_ret2;exact⟨.slice A9 m c9,rfl,⟨A9,c9,by rw[HM.o],l6.o⟩,j5.o.trans (HB.o.mono (dK I.o))⟩
end
section
theorem Jb(x:Rw):(jC x).length=20:=by unfold jC; simp only[bF,fU,uM]
theorem Jc(p:StV)(ps:List ObV)(B:Nat)(w:World)(h:gW w B p ps)(hB:B≤w.heap.size)(hn:ps.length≤1000000)(hf:p.p.x.free.length≤900000)(hr:p.rows.length≤1000000):
  Calls prog 77 #[.agg p.cells.toArray] w fun e w'=>∃v,e=.returned (.tuple #[v,.i (dG 60 (stB p.x))])∧(stB p.x=true→vD w' w'.heap.size v (fK p.x))∧Bw' w w':=by
 generalize j1:w.alloc (.cells p.cells.toArray 43)=M;have b0:Blk M w.heap.size 43 p.cells:=j1▸Blk.new w 43 p.cells;have e1:Bw' w M:=j1▸ba' w _;have p2:=kp e1;have d:=kp b0;have r:=k'2 (h.below e1 hB) (aB hB e1.size);obtain⟨n,hN⟩:=nm' p.rows.length;obtain⟨A,c,l4,-,-,-⟩:=h.2;have d1:=kp l4;have E:=kp hN;have p0:=kp (yF p ps B M r.a r.B hn hf hr);rw[hN]at hr;have Y:=d.o.cell 0;have Z:=d.o.cell 1;have k2:=d.o.cell 2;have k3:=d.o.cell 3;have k4:=d.o.cell 4;have k5:=d.o.cell 5;have k6:=d.o.cell 6;have k7:=d.o.cell 7;have j:=d.o.cell 8;simp only[StV.cells,HpV.cells,aT,aS,aP,aZ]at Y Z k2 k3 k4 k5 k6 k7 j;rw[show p.cells.toArray=#[.i p.p.x.order,p.p.ov,.i p.p.x.next,.i p.p.x.t0,.i p.p.x.t1,.i p.p.x.t2,.i p.p.x.t3,p.p.fv,p.rv] from rfl]at p0 j1 ⊢;obtain⟨R,hR⟩:=nm' (stB p.x);rw[hR]at p0 ⊢;have HR:=kp hR;clear h l4 b0 e1 hB hN hR hn hf;go_enter func77,ntmps77;go_wp2_with fail;refine mb' (p0.o) fun w2 G=>?_;have d2:=kp G;clear Y Z k2 k3 k4 k5 k6 k7 j
 cases R
 .have S:dG 60 false=60:=rfl;rw[S];clear S G;go_wp2_with fail;go_ret2;exact⟨_,rfl,(fun h=>by cases h),p2.o.on d2.o⟩
 have S:dG 60 true=0:=rfl;rw[S];clear S;have X:=HR.o;unfold stB at X;simp only[bH]at X;have q2:=kp (show cR p.p.x=true from X.1);have b3:=kp (wY p.rows 0 (iG 0) X.2);have b7:n≤4:=by have:=b3.B; have:=E.o; omega
 have l:=d.o.below G d.o.lt;have a3:=kp (Wr p.p ps B w2 (r.a.1.below G r.B) (aB r.B G.size) q2.o);have Y:=l.cell 0;have Z:=l.cell 1;have k2:=l.cell 2;have k3:=l.cell 3;have k4:=l.cell 4;have k5:=l.cell 5;have k6:=l.cell 6;have k7:=l.cell 7;have j:=l.cell 8;simp only[StV.cells,HpV.cells,aT,aS,aP,aZ]at Y Z k2 k3 k4 k5 k6 k7 j;rw[show p.p.cells.toArray=#[.i p.p.x.order,p.p.ov,.i p.p.x.next,.i p.p.x.t0,.i p.p.x.t1,.i p.p.x.t2,.i p.p.x.t3,p.p.fv] from rfl]at a3;clear X l G;go_wp2_with fail;refine (a3.o).mono ?_;rintro e w3 ⟨v3,rfl,q6,j3⟩;have m0:=kp (d2.o.on j3);obtain⟨A3,c3,rfl,z1⟩:=q6;obtain⟨m3,j0⟩:=nm' ((cF p.p.x).length);rw[j0];have y2:=k'2 j0 (Ai q2.o);have y6:=kp z1;obtain⟨g,hg⟩:=nm' w3.heap.size;have T:=Blk.new w3 209 [.slice none 0 0];have O:=ba' w3 (.cells [Value.slice none 0 0].toArray 209);obtain⟨f,g6⟩:=nm' (w3.alloc (.cells #[.slice none 0 0] 209));rw[show ([Value.slice none 0 0].toArray:Array Value)=#[.slice none 0 0] from rfl,g6]at T O;have p6:=wH (P:=prog) f 154 9 5 rW tT rX w3.heap.size A3 m3 c3 (cF p.p.x) (z1.below O (aN _)) j0;rw[hg]at T O;have HG:=kp hg;have y0:=kp (eR.nil T);have o0:=kp T;have g1:M.heap.size≤g:=by rw[←hg]; exact m0.o.size
 have q0:=kp (show w.heap.size<g by rw[←hg]; exact cY d.o.lt m0.o.size);have d0:Bw' M f:=m0.o.trans (O.mono g1);have o2:=kp (d.o.below d0 d.o.lt);have d3:=kp (show gW f B p ps∧B≤g from⟨r.a.below d0 r.B,aB r.B g1⟩);have b5:=kp (show Bw' w f from p2.o.on d0);have b6:=kp (Nk none 0 0 [] ⟨(cF p.p.x).toArray⟩ f (.inl rfl) rfl (by omega) (by have:=y2.o; show (cF p.p.x).toArray.size≤_; rw[fF]; omega));clear j3 z1 j0 T O g1 d0 Y Z k2 k3 k4 k5 k6 k7 j;go_wp2_with fail;refine (b6.o).mono ?_;rintro e w5 ⟨v5,rfl,l0,y⟩;obtain⟨A5,c5,rfl⟩:=Cl l0;have U:=o0.o.below y o0.o.lt;obtain⟨K,q1⟩:=nm' (0+4+(⟨(cF p.p.x).toArray⟩:ByteArray).size);rw[q1]at l0 ⊢;have q3:K=(aQ (cF p.p.x).length++cF p.p.x).length:=by
  rw[←q1,bF,fU];show 0+4+(cF p.p.x).toArray.size=_;rw[fF]
 have y3:w5.ownsRow f.heap.size 5 1 (.slice A5 K c5) K (bv (aQ (cF p.p.x).length++cF p.p.x)):=by
  have e:bv []++bv (beN 4 (⟨(cF p.p.x).toArray⟩:ByteArray).size)++bv (⟨(cF p.p.x).toArray⟩:ByteArray).data.toList=bv (aQ (cF p.p.x).length++cF p.p.x):=by
   rw[zH]; unfold aQ;show []++bv (beN 4 (cF p.p.x).toArray.size)++bv (cF p.p.x).toArray.toList=_;rw[fF,aS]; rfl
  rw[←e]; exact l0
 have y1:=eR.put U rfl y3 q3;have e0:Below g f (w5.setCell ⟨g,0,none⟩ (.slice A5 K c5)):=
  (y.mono (dK o0.o.lt)).trans (((Chg.refl (fun i=>i=g) w5).setCell (.inr rfl) 0 (.slice A5 K c5)).below (fun i e=>nH e.symm) (dK U.lt))
 have z0:=U.cell 0;have f0:=U.frozen 0;simp only[aP]at z0;obtain⟨W6,j6⟩:=nm' (w5.setCell ⟨g,0,none⟩ (.slice A5 K c5));rw[j6]at y1 e0;have a1:=kp y1;have y4:=kp e0;have j:=(o2.o.below e0 q0.o).cell 8;rw[StV.c8,d1.o,E.o]at j;have C:=iV.new (W:=W6) (g:=g) (ns:=[(n:Int)]) (by simp) a1.o.lt;have q:=ba' W6 (.cells (iv [(n:Int)]).toArray 3);obtain⟨W7,m6⟩:=nm' (W6.alloc (.cells #[.i n] 3));rw[show (iv [(n:Int)]).toArray=#[.i (n:Int)] from rfl,m6]at C q;have p3:(aQ (cF p.p.x).length++cF p.p.x).length≤4128:=by have:=y2.o; rw[bF,fU]; omega
 have p5:=kp p3;have e5:=kp (qS (a1.o.below q) C (by intro z hz; rw[bZ.1 hz]; exact⟨by omega,by omega⟩) (by show (aQ (cF p.p.x).length++cF p.p.x).length+4*1≤_; omega));have j2:=kp (y4.o.trans (q.mono (dK a1.o.lt)));clear C q l0 y3 q1 q3 U y y1 e0 p3 p6;go_wp2_with fail;refine (e5.o).mono ?_;rintro e w8 ⟨rfl,a4,l3⟩;have z5:=kp (show eR w8 g (aQ (cF p.p.x).length++cF p.p.x++aQ n++(p.rows.take 0).flatMap jC) by simpa using a4);have l2:=kp (show Below g f w8 from j2.o.trans (l3.below (fun i e=>nH e.symm) (aB (by have:=y0.o.lt; omega) j2.o.size)));clear a4 l3 j z0 f0;have j:=(o2.o.below l2.o q0.o).cell 8;rw[StV.c8,d1.o,E.o]at j;go_wp2_with fail;clear j
 go_loopw [41] (fun i wr=>∃k:Nat,k≤n∧i=.i k∧eR wr g (aQ (cF p.p.x).length++cF p.p.x++aQ n++(p.rows.take k).flatMap jC)∧Below g f wr) (fun i _=>n-(intOf i).toNat)
 case atStart=>exact⟨0,by omega,rfl,z5.o,l2.o⟩
 case round=>
  obtain⟨k,hk,rfl,J,m1⟩:=hrel;have F:=kp J;have HB:=kp m1;have m4:=d3.a.2.below m1 d3.B;clear J m1
  by_cases a7:k<n
  .have g3:(k:Int)<(n:Int):=by omega
   have I:k<p.rows.length:=by have:=E.o; omega
   obtain⟨A6,c6,b2,j4,-,-⟩:=m4;rw[d1.o]at b2;obtain⟨rfl,-,rfl⟩:=Value.slice.inj b2;obtain⟨b,d7,rfl,-,V,-⟩:=dS (P:=prog) 4 jP (by omega) j4 k I;have o4:p.rows.take (k+1)=p.rows.take k++[p.rows[k]'I]:=fE I;have p4:p.rows[k]∈p.rows:=cU I;generalize p.rows[k]'I=x at *;have a0:=k'2 o4 (b3.a x p4);have p1:(aQ (cF p.p.x).length++cF p.p.x++aQ n++(p.rows.take k).flatMap jC).length≤4132+20*k:=by
    rw[bF,bF,fU,jI _ 20 Jb,cL];have:=p5.o;have:min k p.rows.length≤k:=Nat.min_le_left ..;omega
   obtain⟨L,hL⟩:=nm' (aQ (cF p.p.x).length++cF p.p.x++aQ n++(p.rows.take k).flatMap jC);rw[hL]at F p1;have q5:=kp p1;have y5:=kp hL;have x0:=V 0 _ rfl;have x1:=V 1 _ rfl;have x2:=V 2 _ rfl;have x3:=V 3 _ rfl;simp only[dW]at x0;generalize e3:wr.alloc (.cells #[.i x.c,.i x.s,.i x.k,.i x.v] 141)=N;have y:Bw' wr N:=e3▸ba' wr _;have H:Blk N wr.heap.size 141 [.i x.c,.i x.s,.i x.k,.i x.v]:=e3▸Blk.new wr 141 [.i x.c,.i x.s,.i x.k,.i x.v];have s0:=H.cell 0;have s1:=H.cell 1;have s2:=H.cell 2;simp only[aP,aZ]at s0 s1 s2;have j5:=kp (show g<wr.heap.size from F.o.lt);have z2:=kp (F.o.below y);have q4:=kp (HB.o.trans (y.mono (dK F.o.lt)));have l1:=iV.new (W:=N) (g:=g) (ns:=[x.c,x.s,x.k]) (by simp) z2.o.lt;have Q:=ba' N (.cells (iv [x.c,x.s,x.k]).toArray 3);obtain⟨z6,l6⟩:=nm' (N.alloc (.cells #[.i x.c,.i x.s,.i x.k] 3));rw[show (iv [x.c,x.s,x.k]).toArray=#[.i x.c,.i x.s,.i x.k] from rfl,l6]at l1 Q;have d5:=kp (qS (z2.o.below Q) l1 (by
    intro z hz;simp only[bD,dF,or_false]at hz;rcases hz with rfl|rfl|rfl
    .exact a0.b
    .exact a0.c
    .exact a0.D) (by show L.length+4*3≤_; omega))
   have l5:=kp (H.below Q H.lt);have g2:=kp (q4.o.trans (Q.mono (aB (dK F.o.lt) y.size)));clear o4 p4 p1 V j4 b2 I hL y H l1 Q;go_wp2_with fail;refine (d5.o).mono ?_;rintro e w7 ⟨rfl,z3,o1⟩;have b1:=kp z3;have o5:=kp (l5.o.chg o1 (fun e=>by have:=j5.o; omega));have z4:=kp (show Below g f w7 from g2.o.trans (o1.below (fun i e=>nH e.symm) (aB (by have:=y0.o.lt; omega) g2.o.size)));clear z3 o1 s0 s1 s2 x0 x1 x2 x3;have s3:=o5.o.cell 3;simp only[aP,aZ]at s3;have C:=iV.new (W:=w7) (g:=g) (ns:=[x.v]) (by simp) b1.o.lt;have q:=ba' w7 (.cells (iv [x.v]).toArray 3);obtain⟨W8,o6⟩:=nm' (w7.alloc (.cells #[.i x.v] 3));rw[show (iv [x.v]).toArray=#[.i x.v] from rfl,o6]at C q;have g5:=kp (Iz (b1.o.below q) C (by rw[bF,jI _ 4 fU]; have:=q5.o; show L.length+4*3+8*1≤_; omega));have m2:=kp (z4.o.trans (q.mono (dK b1.o.lt)));clear C q;go_wp2_with fail;refine (g5.o).mono ?_;rintro e w9 ⟨rfl,d4,o3⟩;have a6:=kp d4;have a5:=kp (show Below g f w9 from m2.o.trans (o3.below (fun i e=>nH e.symm) (aB (by have:=y0.o.lt; omega) m2.o.size)));clear d4 o3 s3;go_wp2_with fail;go_roundw
   case rel=>
    refine⟨k+1,by omega,by go_num,?_,a5.o⟩;have h9:=a6.o;rw[a0.a,zC,←cH,y5.o,Dm];unfold jC;simpa [cH] using h9
   case measure=>simp[intOf]; omega
  .obtain rfl:k=n:=by omega
   have J:=F.o;rw[eF (by have:=E.o; omega)]at J;obtain⟨A9,c9,g0,a2,-⟩:=J.o;have g4:fK p.x=aQ (cF p.p.x).length++cF p.p.x++aQ k++p.rows.flatMap jC:=by
    unfold fK StV.x;rw[E.o]
   rw[←g4]at g0 a2;obtain⟨m,hm⟩:=nm' ((fK p.x).length);rw[hm]at g0;have HM:=kp hm;have s0:=g0.cell 0;simp only[aP]at s0;have d6:=kp a2;clear J g0 a2 hm g4 m4;go_wp2_with fail;go_ret2;exact⟨.slice A9 m c9,rfl,⟨A9,c9,by rw[HM.o],d6.o⟩,b5.o.trans (HB.o.mono (dK q0.o))⟩
def iD(s:St):ByteArray:=if stB s=true then ⟨(fK s).toArray⟩ else ⟨#[]⟩
theorem Cm(p:StV)(i:List ObV)(B:Nat)(w:World)(h:gW w B p i)(d:B≤w.heap.size)(s:i.length≤1000000)(q:p.p.x.free.length≤900000)(y:p.rows.length≤1000000):
  Calls prog 91 #[.agg p.cells.toArray] w fun e Q=>e=.returned (.string (iD p.x))∧Bw' w Q:=by
 generalize f:w.alloc (.cells p.cells.toArray 43)=c;have k:Blk c w.heap.size 43 p.cells:=f▸Blk.new w 43 p.cells;have e1:Bw' w c:=f▸ba' w _;have a:=kp k;have M:=kp e1;have b:=kp (Jc p i B c (h.below e1 d) (aB d e1.size) s q y);have A:=a.o.cell 0;have C:=a.o.cell 1;have D:=a.o.cell 2;have E:=a.o.cell 3;have F:=a.o.cell 4;have G:=a.o.cell 5;have H:=a.o.cell 6;have I:=a.o.cell 7;have J:=a.o.cell 8;simp only[StV.cells,HpV.cells,aT,aS,aP,aZ]at A C D E F G H I J;rw[show p.cells.toArray=#[.i p.p.x.order,p.p.ov,.i p.p.x.next,.i p.p.x.t0,.i p.p.x.t1,.i p.p.x.t2,.i p.p.x.t3,p.p.fv,p.rv] from rfl]at b f ⊢;unfold iD;obtain⟨R,l⟩:=nm' (stB p.x);rw[l]at b ⊢;clear h k e1 d l s q y;go_enter func91,ntmps91;go_wp2_with fail;refine (b.o).mono ?_;rintro e K ⟨S,rfl,g,n⟩;have j:=kp (M.o.on n);clear n A C D E F G H I J
 cases R
 .have N:(dG 60 false != 0)=true:=rfl;clear g;go_wp2_with fail;go_ret;exact⟨rfl,j.o⟩
 have N:(dG 60 true != 0)=false:=rfl;obtain⟨L,c3,rfl,z⟩:=g rfl;have O:=wH (P:=prog) K 154 9 5 rW tT rX K.heap.size L (fK p.x).length c3 (fK p.x) z rfl;obtain⟨m,r⟩:=nm' ((fK p.x).length);rw[r]at O ⊢;clear g z r;go_wp2_with fail;go_ret;exact⟨rfl,j.o⟩
end
section
attribute [-go_sem] loadCellsFrom storeCells
attribute [local go_sem] aX
theorem Wt{s t:St}(c:stB s=true)(d:stR s)(e:stR t):decide (iD s=iD t)=decide (s=t):=by
 rw[←Tl c d e];refine decide_eq_decide.2 ?_;unfold iD;rw[aK c,aK c];constructor
 .intro h
  split<;>rename_i a
  .rw[aK a]at h;have:=bA (fun b:ByteArray=>b.data.toList) h;simpa using this
  .rw[aF a]at h;have:=bA (fun b:ByteArray=>b.data.toList) h;simpa using this
 .intro h
  split<;>rename_i a
  .rw[aK a]at h; rw[h]
  .rw[aF a]at h; rw[h]
theorem Wu(s t:ByteArray):(s.toList==t.toList)=decide (s=t):=by
 have e:s.toList=t.toList↔s=t:=⟨fun h=>by rw[ByteArray.toList_eq,ByteArray.toList_eq]at h; exact ByteArray.ext (Array.ext' h),fun h=>h▸rfl⟩
 by_cases h:s=t
 .rw[fA h]; simpa using e.2 h
 .rw[dR h]; simpa using fun a=>h (e.1 a)
theorem Jd(p:RpV)(K:List ObV)(B:Nat)(w:World)(h:kK w B p K)(V:B≤w.heap.size)(S:RpS p K):
  Calls prog 53 #[.agg p.cells.toArray] w fun e w'=>e=.returned (.i (dG 1 (cS p.x)))∧Bw' w w':=by
 obtain⟨L,y1,A,H,z1⟩:=par w 50 p.cells;have i:=kp A;have d:=k'3 (h.below H V) (aB V H.size) S;have g:=kp H;have f:=kp (aH L.heap.size L);obtain⟨a1,e1⟩:∃a,iB p.nodes=a:=⟨_,rfl⟩
 obtain⟨a2,e2⟩:∃a,aG p.id 1 p.nodes=a:=⟨_,rfl⟩
 obtain⟨G,I⟩:∃a,dY p.x.k=a:=⟨_,rfl⟩
 obtain⟨a4,u4⟩:∃a,decide (p.k.view≤800000000)=a:=⟨_,rfl⟩
 obtain⟨M,O⟩:∃a,decide (p.x.k.last≤800000000)=a:=⟨_,rfl⟩
 obtain⟨a6,Q⟩:∃a,aG p.timer 0 1000=a:=⟨_,rfl⟩
 obtain⟨a7,R⟩:∃a,xG p.x=a:=⟨_,rfl⟩
 obtain⟨a8,T⟩:∃a,xH p.x=a:=⟨_,rfl⟩
 obtain⟨N,U⟩:∃a,decide (kI p.x.k p.commit=some p.s.x)=a:=⟨_,rfl⟩
 have hR:cS p.x=(a1&&(a2&&(G&&(a4&&(M&&(a6&&(a7&&(a8&&N)))))))):=by rw[←e1,←e2,←I,←u4,←O,←Q,←R,←T,←U]; rfl
 rw[hR];have z0:=kp (fun W=>e1▸sU p.nodes W S.r.2.1);have d1:=kp (fun W=>e2▸cK.1 p.id 1 p.nodes W);have g1:=kp (by have:=pI p.k B L d.a.1 d.b S.k.2.1 S.k.1 (aB S.k.2.2 (by decide)); rw[show dY p.k.x=G from I]at this; exact this);have j1:=kp (fun W=>Q▸cK.1 p.timer 0 1000 W);have hk:G=true→∃s,KOk p.x.k s:=fun h=>mW.1 (I.trans h);have u5:decide (800000000<p.x.k.last)= !M:=by rw[←O]; exact (by rw[←decide_not]; exact decide_eq_decide.2 (by omega))
 have m:=k'4 R T U hk;have k0:=A.cell 0;have k1:=A.cell 1;rw[RpV.c0]at k0;rw[RpV.c1]at k1;have l2:=A.loadOff (P:=prog) 2 5 p.k.cells rfl rfl;clear hR e1 e2 I O Q R T U hk A H h V S;go_enter func53,ntmps53;go_wp2_with fail;refine ms' (z0.o _) ?_;clear y1
 cases a1
 case' true=>
  go_wp2_with fail;refine ms' (d1.o _) ?_
  cases a2
  case' true=>
   go_wp2_with fail;refine mb' (g1.o) fun w3 X=>?_;have g:=kp (g.o.on X);have f:=kp X;have k2:=(i.o.grow f.o).cell 2;rw[RpV.c2]at k2;clear k0 k1 l2 X
   cases G
   case' true=>
    cases a4
    case' true=>
     have z:=(i.o.grow f.o).load (P:=prog) (k:=26) rfl;have HL:=kp (by obtain⟨s,hs⟩:=m.D rfl; exact Bx p w3 B (Sl.below d.a.1 f.o d.b) hs.base d.C.k.2.1);go_wp2_with fail;refine mb' (HL.o) fun w4 Y=>?_;have g:=kp (g.o.on Y);have f:=kp (f.o.on Y);clear z k2 Y
     cases M
     case' true=>
      have y0:=(i.o.grow f.o).cell 17;rw[RpV.c17]at y0;go_wp2_with fail;refine ms' (j1.o _) ?_
      cases a6
      case' true=>
       have z:=(i.o.grow f.o).load (P:=prog) (k:=26) rfl;have q1:=kp (by obtain⟨s,hs⟩:=m.D rfl; have:=Vl p K B w4 (d.a.below f.o d.b) (aB d.b f.o.size) d.C hs.base; rw[m.a]at this; exact this);go_wp2_with fail;refine mb' (q1.o) fun w5 Z=>?_;have g:=kp (g.o.on Z);have f:=kp (f.o.on Z);clear z y0 Z
       cases a7
       case' true=>
        have z:=(i.o.grow f.o).load (P:=prog) (k:=26) rfl;have l1:=kp (by have:=To p w5 d.C.r.2.1; rw[m.b]at this; exact this);go_wp2_with fail;refine mb' (l1.o) fun w6 a0=>?_;have g:=kp (g.o.on a0);have f:=kp (f.o.on a0);clear z a0
        cases a8
        case' true=>
         have y6:=i.o.grow f.o;have l2:=y6.loadOff (P:=prog) 2 5 p.k.cells rfl rfl;have k7:=y6.cell 7;rw[RpV.c7]at k7;have p1:=kp (Wi p.k p.commit B w6 (Sl.below d.a.1 f.o d.b) (aB d.b f.o.size) d.C.k.2.1 d.C.k.1 (aB d.C.k.2.2 (by decide)) d.C.r.2.2.1);clear y6;go_wp2_with fail;refine (p1.o).mono ?_;rintro e w7 ⟨q,qs,c,rfl,q0,p0,m0,b0⟩;obtain⟨F,b2,s8,x8,dH,-⟩:=eJ w7 43 z'2 q.cells rfl (StV.one m0.st);have g:=kp (g.o.on (b0.on dH));have f:=kp (f.o.on (b0.on dH));have E:=k'3 q0 p0 (m0.below dH);have HX:=kp x8;clear l2 k7 b0 dH q0 p0 m0 x8;go_wp2_with fail;clear s8 b2;have j:=m.c
         cases ho:kI p.k.x p.commit with
         |none=>
          rw[show kI p.x.k p.commit=none from ho]at j;obtain rfl:N=false:=by rw[←j]; rfl
          have u9:(c != 0)=true:=by simpa using E.b ho
          clear j ho;refine cX (by kernel_rfl) (by kernel_rfl) ?_
          repeat (go_big_quiet_step (fail))
          refine cI ?_;rintro W9 ⟨⟨_,n⟩,rfl⟩;have g:=kp (g.o.on n);clear n;go_wp2_with fail;go_ret;exact⟨rfl,g.o⟩
         |some s=>
          rw[show kI p.x.k p.commit=some s from ho]at j;obtain⟨rfl,y⟩:=E.a s ho;have J:=Cb (k:=p.k.x) (fun e he=>(d.C.k.1 e he).2.2.2.2.2.2.2.2.2.1) ho;have l:decide (iD q.x=iD p.s.x)=N:=by rw[←j,Wt (y▸J.1) (y▸J.2) d.C.s.2.2.1,y]; exact decide_eq_decide.2 (by simp)
          obtain⟨t1,g0⟩:∃t,iD q.x=t:=⟨_,rfl⟩
          obtain⟨t2,j0⟩:∃t,iD p.s.x=t:=⟨_,rfl⟩
          rw[g0,j0,←Wu]at l;have HC:=kp l;clear j;have l8:=Ib (P:=prog) HX.o (k:=9) rfl;have l4:∀r:Blw F,Sem.run prog (loadCellsFrom ⟨w.heap.size,8,none⟩ 0 9 #[]) r.w=.ok p.s.cells.toArray r.w:=fun r=>(i.o.grow (f.o.on r.h)).loadOff 8 9 p.s.cells rfl rfl;have d0:stB q.x=true:=y▸J.1;have e0:=SmO.ok E.C.st.1 (gE.1 (jR.1 d0).1);have d2:q.rows.length≤4:=by have:=qR (jR.1 d0).2 (by omega); have e:q.x.rows=q.rows:=rfl; rw[e]at this; omega
          have m1:=kp (fun(r:Blw F)=>g0▸Cm q qs F.heap.size r.w (E.C.st.below r.h (aN _)) r.h.size (by have:=e0.obs; omega) (by have:=e0.free; omega) (by omega));have o1:=kp (fun(r:Blw F)=>j0▸Cm p.s K B r.w (d.a.2.1.below (f.o.on r.h) d.b) (aB d.b (f.o.on r.h).size) (by have:=d.C.s.1.obs; omega) (by have:=d.C.s.1.free; omega) (by have:=d.C.s.2.1; omega));have u8:((0:Int) != 0)=false:=rfl;clear d0 e0 d2 J y g0 j0 ho l;refine cX (by kernel_rfl) (by kernel_rfl) ?_
          repeat (go_big_quiet_step (first |(go_at_call 91; first |with_reducible refine gV (m1.o _)|with_reducible refine gV (o1.o _))))
          refine cI ?_;rintro W9 ⟨⟨_,n⟩,rfl⟩;have g:=kp (g.o.on n);clear n l8 l4;go_wp2_with fail
          all_goals
           rename_i o0;have l:=HC.o
           cases hbb:(t1.toList==t2.toList)
           all_goals
            rw[hbb]at o0 l
            first
            |exact absurd o0 (by decide)
            |subst l
             go_ret;exact⟨rfl,g.o⟩
 all_goals
  go_wp2_with fail;go_ret;exact⟨rfl,g.o⟩
end
section
attribute [-go_sem] loadCellsFrom storeCells
attribute [local go_sem] aX
end
section
attribute [-go_sem] loadCellsFrom storeCells
attribute [local go_sem] aX
end
section
structure jU(t:TypeId)(Φ:Value→World→Prop):Prop where
 grow:∀z W W',Φ z W→Bw' W W'→Φ z W'
 put:∀z W a cs cs',Φ z W→Blk W a t cs→Φ z (W.setRow a cs')
theorem fC{X:Nat→Option Value}{k:Nat}{v:Value}:aY X k v k=some v:=aK rfl
structure CAl(Wa:World)(t:TypeId)(zs:List Value)(t2:TypeId)(zs2:List Value)(Φ:Value→World→Prop)(E:Value→Value→Prop)(kc km ke ka kb ks:Nat)(X:Nat→Option Value)(W:World):Prop where
 bel:Bw' Wa W
 call:∀z,X kc=some z→Φ z W
 mv:∀z,X km=some z→X kc=some z
 ext:∀z,X ke=some z→∃u,X kc=some u∧E u z
 al:∀z,X ka=some z→∃a cs,z=.pointer (some ⟨a,0,none⟩)∧Wa.heap.size≤a∧Blk W a t cs∧(X ks=none→cs=zs)∧∀s,X ks=some s→X ke=some (.agg cs.toArray)
 al2:∀z,X kb=some z→∃b,z=.pointer (some ⟨b,0,none⟩)∧Wa.heap.size≤b∧Blk W b t2 zs2
 st:∀s,X ks=some s→(X ka).isSome=true
section
variable {Wa W W':World}{t t2:TypeId}{zs zs2:List Value}{Φ:Value→World→Prop}{E:Value→Value→Prop}{kc km ke ka kb ks:Nat}{X:Nat→Option Value}{u z:Value}
theorem CAl.start:CAl Wa t zs t2 zs2 Φ E kc km ke ka kb ks (fun _=>none) Wa:=
 ⟨.refl _ _,fun _ h=>(nomatch h),fun _ h=>(nomatch h),fun _ h=>(nomatch h),fun _ h=>(nomatch h),fun _ h=>(nomatch h),fun _ h=>(nomatch h)⟩
theorem CAl.other{j:Nat}(h:CAl Wa t zs t2 zs2 Φ E kc km ke ka kb ks X W)(m:kc≠j∧km≠j∧ke≠j∧ka≠j∧kb≠j∧ks≠j):CAl Wa t zs t2 zs2 Φ E kc km ke ka kb ks (aY X j u) W:=by
 obtain⟨f,e,g,i,k,l⟩:=m;have e1:=aI (X:=X) (v:=u) f;have c:=aI (X:=X) (v:=u) e;have e2:=aI (X:=X) (v:=u) g;have a:=aI (X:=X) (v:=u) i;have d:=aI (X:=X) (v:=u) k;have b:=aI (X:=X) (v:=u) l;exact⟨h.bel,by rw[e1]; exact h.call,by rw[c,e1]; exact h.mv,by rw[e1,e2]; exact h.ext,by rw[a,b,e2]; exact h.al,by rw[d]; exact h.al2,by rw[b,a]; exact h.st⟩
theorem CAl.grow(h:CAl Wa t zs t2 zs2 Φ E kc km ke ka kb ks X W)(i:jU t Φ)(b:Bw' W W'):CAl Wa t zs t2 zs2 Φ E kc km ke ka kb ks X W':=
 ⟨h.bel.on b,fun z a=>i.grow _ _ _ (h.call z a) b,h.mv,h.ext,fun z a=>(h.al z a).imp fun _ ⟨f,e,d,c,g⟩=>⟨f,e,d,c.grow b,g⟩,
  fun z a=>(h.al2 z a).imp fun _ ⟨e,d,c⟩=>⟨e,d,c.grow b⟩,h.st⟩
theorem CAl.doCall(h:CAl Wa t zs t2 zs2 Φ E kc km ke ka kb ks X W)(r:jU t Φ)(d:X kc=none)(o:Bw' W W')(q:Φ z W')(p:km≠kc∧ke≠kc∧ka≠kc∧kb≠kc∧ks≠kc):CAl Wa t zs t2 zs2 Φ E kc km ke ka kb ks (aY X kc z) W':=by
 have g:=h.grow r o;obtain⟨j,k,l,m,n⟩:=p;have f:=aI (X:=X) (v:=z) j;have e2:=aI (X:=X) (v:=z) k;have b:=aI (X:=X) (v:=z) l;have i:=aI (X:=X) (v:=z) m;have c:=aI (X:=X) (v:=z) n;refine⟨g.bel,fun u a=>?_,fun u a=>?_,fun u a=>?_,by rw[b,c,e2]; exact g.al,by rw[i]; exact g.al2,by rw[c,b]; exact g.st⟩
 .rw[fC]at a; cases a; exact q
 .rw[f]at a; have:=h.mv u a; rw[d]at this; cases this
 .rw[e2]at a;obtain⟨v,e,-⟩:=h.ext u a;rw[d]at e; cases e
theorem CAl.doMv(h:CAl Wa t zs t2 zs2 Φ E kc km ke ka kb ks X W)(l:X kc=some u)(k:kc≠km∧ke≠km∧ka≠km∧kb≠km∧ks≠km):CAl Wa t zs t2 zs2 Φ E kc km ke ka kb ks (aY X km u) W:=by
 obtain⟨e,f,g,i,j⟩:=k;have e1:=aI (X:=X) (v:=u) e;have e2:=aI (X:=X) (v:=u) f;have a:=aI (X:=X) (v:=u) g;have d:=aI (X:=X) (v:=u) i;have b:=aI (X:=X) (v:=u) j;exact⟨h.bel,by rw[e1]; exact h.call,fun v c=>by rw[fC]at c; cases c; rw[e1]; exact l,by rw[e1,e2]; exact h.ext,by rw[a,b,e2]; exact h.al,by rw[d]; exact h.al2,by rw[b,a]; exact h.st⟩
theorem CAl.doExt(h:CAl Wa t zs t2 zs2 Φ E kc km ke ka kb ks X W)(p:X ke=none)(B:X kc=some u)(q:E u z)(r:kc≠ke∧km≠ke∧ka≠ke∧kb≠ke∧ks≠ke):CAl Wa t zs t2 zs2 Φ E kc km ke ka kb ks (aY X ke z) W:=by
 obtain⟨c,k,m,n,o⟩:=r;have e1:=aI (X:=X) (v:=z) c;have i:=aI (X:=X) (v:=z) k;have d:=aI (X:=X) (v:=z) m;have j:=aI (X:=X) (v:=z) n;have f:=aI (X:=X) (v:=z) o;refine⟨h.bel,by rw[e1]; exact h.call,by rw[i,e1]; exact h.mv,fun v b=>?_,?_,by rw[j]; exact h.al2,by rw[f,d]; exact h.st⟩
 .rw[fC]at b; cases b;exact⟨u,by rw[e1]; exact B,q⟩
 .rw[d,f];intro v b;obtain⟨a,g,e,y,x,c,l⟩:=h.al v b;exact⟨a,g,e,y,x,c,fun s A=>by have:=l s A; rw[p]at this; cases this⟩
theorem CAl.noSt(h:CAl Wa t zs t2 zs2 Φ E kc km ke ka kb ks X W)(a:X ka=none):X ks=none:=by
 cases hs:X ks with
 |none=>rfl
 |some s=>have:=h.st s hs; rw[a]at this; cases this
theorem CAl.doAlloc(h:CAl Wa t zs t2 zs2 Φ E kc km ke ka kb ks X W)(p:jU t Φ)(m:X ka=none)(n:kc≠ka∧km≠ka∧ke≠ka∧kb≠ka∧ks≠ka):CAl Wa t zs t2 zs2 Φ E kc km ke ka kb ks (aY X ka (.pointer (some ⟨W.heap.size,0,none⟩))) (W.alloc (.cells zs.toArray t)):=by
 have g:=h.grow p (ba' W (.cells zs.toArray t));have o:=h.noSt m;obtain⟨i,f,j,k,l⟩:=n;have e1:=aI (X:=X) (v:=.pointer (some ⟨W.heap.size,0,none⟩)) i;have c:=aI (X:=X) (v:=.pointer (some ⟨W.heap.size,0,none⟩)) f;have e2:=aI (X:=X) (v:=.pointer (some ⟨W.heap.size,0,none⟩)) j;have d:=aI (X:=X) (v:=.pointer (some ⟨W.heap.size,0,none⟩)) k;have e:=aI (X:=X) (v:=.pointer (some ⟨W.heap.size,0,none⟩)) l;refine⟨g.bel,by rw[e1]; exact g.call,by rw[c,e1]; exact g.mv,by rw[e1,e2]; exact g.ext,fun v b=>?_,by rw[d]; exact g.al2,fun s _=>by rw[fC]; rfl⟩;rw[fC]at b; cases b;exact⟨_,zs,rfl,h.bel.size,Blk.new W t zs,fun _=>rfl,fun s a=>by rw[e,o]at a; cases a⟩
theorem CAl.doAlloc2(h:CAl Wa t zs t2 zs2 Φ E kc km ke ka kb ks X W)(m:jU t Φ)(l:kc≠kb∧km≠kb∧ke≠kb∧ka≠kb∧ks≠kb):CAl Wa t zs t2 zs2 Φ E kc km ke ka kb ks (aY X kb (.pointer (some ⟨W.heap.size,0,none⟩))) (W.alloc (.cells zs2.toArray t2)):=by
 have g:=h.grow m (ba' W (.cells zs2.toArray t2));obtain⟨f,e,i,j,k⟩:=l;have e1:=aI (X:=X) (v:=.pointer (some ⟨W.heap.size,0,none⟩)) f;have d:=aI (X:=X) (v:=.pointer (some ⟨W.heap.size,0,none⟩)) e;have e2:=aI (X:=X) (v:=.pointer (some ⟨W.heap.size,0,none⟩)) i;have a:=aI (X:=X) (v:=.pointer (some ⟨W.heap.size,0,none⟩)) j;have b:=aI (X:=X) (v:=.pointer (some ⟨W.heap.size,0,none⟩)) k;refine⟨g.bel,by rw[e1]; exact g.call,by rw[d,e1]; exact g.mv,by rw[e1,e2]; exact g.ext,by rw[a,b,e2]; exact g.al,fun v c=>?_,by rw[b,a]; exact g.st⟩;rw[fC]at c; cases c;exact⟨_,rfl,h.bel.size,Blk.new W t2 zs2⟩
theorem CAl.doStore{a:Nat}{d:List Value}(h:CAl Wa t zs t2 zs2 Φ E kc km ke ka kb ks X W)(D:jU t Φ)(C:t≠t2)(x:X ks=none)(i:X ka=some (.pointer (some ⟨a,0,none⟩)))(y:X ke=some (.agg d.toArray))(A:kc≠ks∧km≠ks∧ke≠ks∧ka≠ks∧kb≠ks):
  Blk W a t zs∧CAl Wa t zs t2 zs2 Φ E kc km ke ka kb ks (aY X ks u) (W.setRow a d.toArray):=by
 obtain⟨F,cs',e,l,f,g,-⟩:=h.al _ i
 cases e;obtain rfl:=g x;obtain⟨g,o,p,q,r⟩:=A;have e1:=aI (X:=X) (v:=u) g;have m:=aI (X:=X) (v:=u) o;have e2:=aI (X:=X) (v:=u) p;have j:=aI (X:=X) (v:=u) q;have n:=aI (X:=X) (v:=u) r;refine⟨f,eU h.bel l _,?_,by rw[m,e1]; exact h.mv,by rw[e1,e2]; exact h.ext,?_,?_,?_⟩
 .rw[e1]; exact fun z c=>D.put _ _ _ _ _ (h.call z c) f
 .intro z c;rw[j,i]at c
  cases c;exact⟨a,d,rfl,l,f.set d,fun h=>(by rw[fC]at h; cases h),fun s _=>by rw[e2]; exact y⟩
 .intro z c;rw[n]at c;obtain⟨b,e,B,k⟩:=h.al2 z c;exact⟨b,e,B,k.other (k.ne f C.symm) _⟩
 .intro s _; rw[j,i]; rfl
end
end
section
attribute [-go_sem] loadCellsFrom storeCells Instr.build
attribute [local go_sem] aX
def Je(Wa:World)(s:St)(z:Value)(W:World):Prop:=∃q qs c d,z=.tuple #[.agg q.cells.toArray,.agg #[.i c,.i d]]∧q.x=s∧Ws W Wa.heap.size q qs
theorem Je.stab(Wa:World)(s:St):jU 43 (Je Wa s):=
 ⟨fun _ _ _ ⟨q,f,c,d,e,b,h⟩ g=>⟨q,f,c,d,e,b,h.below g⟩,fun _ W a _ cs' ⟨q,f,c,d,e,b,h⟩ j=>⟨q,f,c,d,e,b,h.chg j ((Chg.refl (fun i=>i=a) W).setRow (.inr rfl) cs') (by decide) (by decide) (by decide) (by decide)⟩⟩
def mE(u z:Value):Prop:=∃y,u=.tuple #[z,y]
end
section
attribute [-go_sem] loadCellsFrom storeCells
attribute [local go_sem] aX
end
section
attribute [-go_sem] loadCellsFrom storeCells
attribute [local go_sem] aX
end
section
attribute [-go_sem] loadCellsFrom storeCells
attribute [local go_sem] aX
structure RcV where
 (kind view src number:Int) (image:ByteArray) (entry:En) (es:List En) (ev:Value)
def RcV.cells(p:RcV):List Value:=[.i p.kind,.i p.view,.i p.src,.i p.number,.string p.image]++p.entry.cells++[p.ev]
def RcV.x(p:RcV):Rc:=⟨p.kind,p.view,p.src,p.number,p.image,p.entry,p.es⟩
def Jf:RcV:=⟨0,0,0,0,⟨#[]⟩,As,[],.slice none 0 0⟩
theorem Ww(w:World):(Instr.build 124 #[]).run prog w=.ok (.agg Jf.cells.toArray) w:=run_build w _ _ _ (by kernel_rfl)
attribute [-go_sem] Instr.build
attribute [go_sem] Ww
structure MgV where
 (kind src dst view normal number base commit:Int) (es:List En) (ev:Value) (offset total:Int) (data:ByteArray) (seq:Int) (op:Opn) (code value:Int) (ok:Bool)
def MgV.cells(p:MgV):List Value:=[.i p.kind,.i p.src,.i p.dst,.i p.view,.i p.normal,.i p.number,.i p.base,.i p.commit,p.ev,.i p.offset,.i p.total,.string p.data,.i p.seq]++p.op.cells++[.i p.code,.i p.value,.bool p.ok]
def MgV.x(p:MgV):Mg:=⟨p.kind,p.src,p.dst,p.view,p.normal,p.number,p.base,p.commit,p.es,p.offset,p.total,p.data,p.seq,p.op,p.code,p.value,p.ok⟩
def jV:MgV:=⟨0,0,0,0,0,0,0,0,[],.slice none 0 0,0,0,⟨#[]⟩,0,dU,0,0,false⟩
end
section
attribute [-go_sem] loadCellsFrom storeCells run_eql_struct run_neq_struct
attribute [local go_sem] aX
end
end Go.Proofs.YtoncgpddjmgbfaaGreat
