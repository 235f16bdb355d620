import Derived.Test.YtdoopoapbffpbaaGreatZ33
namespace Go.Proofs.YtdoopoapbffpbaaGreat
open Go.RowKit Go.Proofs.Tryz
set_option maxRecDepth 100000
set_option maxHeartbeats 12800000
set_option linter.unusedVariables false
set_option linter.unusedSimpArgs false
section
attribute [-go_sem] loadCellsFrom storeCells
attribute [local go_sem] bC
theorem Zs(p:VoV)(B:Nat)(w:World)(h:mS w B p)(hB:B≤w.heap.size)(hn:p.es.length≤1000000)(hr:VoR p.x):
  Calls prog 99 #[.agg p.cells.toArray] w fun e w'=>e=.returned (.bool (iC p.x))∧Bw' w w':=by
 obtain⟨R,hR⟩:=nm' (iC p.x);rw[hR];have X:=ba' w (.cells p.cells.toArray 84);have E:=Blk.new w 84 p.cells;obtain⟨W1,o1⟩:=nm' (w.alloc (.cells p.cells.toArray 84));rw[o1]at X E;have s:=k'2 X (aB hB X.size);have z:=kp E;have HS:=kp (Sl.below h X hB);have l1:=kp hr;have k0:=E.cell 0;change _=some (Value.i p.node)at k0;have k1:=E.cell 1;change _=some (Value.i p.normal)at k1;have k2:=E.cell 2;change _=some (Value.i p.base)at k2;have k3:=E.cell 3;change _=some (Value.i p.number)at k3;have k4:=E.cell 4;change _=some (Value.i p.commit)at k4;have k5:=E.cell 5;obtain⟨A,c,hv,-,-,-⟩:=h;obtain⟨n,hl⟩:=nm' p.es.length;rw[hl]at hv hn;rw[show p.cells[5]? =some p.ev from rfl,hv]at k5;have y:=k'2 hv hl;have a1:=Md p.x;rw[hR,show (p.x.es.length:Int)=(n:Int) from by rw[show p.x.es=p.es from rfl,hl]]at a1;simp only[VoV.x]at a1;have f:=kp cJ.2.2.2.2.2.2.1;clear X E hv hl hB hr hR;go_enter func99,ntmps99;rcases a1 with⟨d,rfl⟩|⟨d,m,rfl⟩|⟨d,m,j,rfl⟩|⟨d,m,j,Q,rfl⟩|⟨d,m,j,Q,Y,rfl⟩|⟨d,m,j,Q,Y,h6⟩
 .have r:=kp (fun W=>by have:=f.o p.node 1 7 W; rw[d]at this; exact this);clear d;go_wp2_with fail;refine ms' (r.o _) ?_;go_wp2_with fail;go_ret;exact⟨rfl,s.a⟩
 .have r:=kp (fun W=>by have:=f.o p.node 1 7 W; rw[d]at this; exact this);have D:=kp (fun W=>by have:=f.o p.normal 0 900000000 W; rw[m]at this; exact this);clear d m;go_wp2_with fail;refine ms' (r.o _) ?_;go_wp2_with fail;refine ms' (D.o _) ?_;go_wp2_with fail;go_ret;exact⟨rfl,s.a⟩
 .have r:=kp (fun W=>by have:=f.o p.node 1 7 W; rw[d]at this; exact this);have D:=kp (fun W=>by have:=f.o p.normal 0 900000000 W; rw[m]at this; exact this);have M:=kp (fun W=>by have:=f.o p.base 0 900000000 W; rw[j]at this; exact this);clear d m j;go_wp2_with fail;refine ms' (r.o _) ?_;go_wp2_with fail;refine ms' (D.o _) ?_;go_wp2_with fail;refine ms' (M.o _) ?_;go_wp2_with fail;go_ret;exact⟨rfl,s.a⟩
 .have r:=kp (fun W=>by have:=f.o p.node 1 7 W; rw[d]at this; exact this);have D:=kp (fun W=>by have:=f.o p.normal 0 900000000 W; rw[m]at this; exact this);have M:=kp (fun W=>by have:=f.o p.base 0 900000000 W; rw[j]at this; exact this);have d4:=bY (show 4000<(n:Int) by omega);clear d m j Q;go_wp2_with fail;refine ms' (r.o _) ?_;go_wp2_with fail;refine ms' (D.o _) ?_;go_wp2_with fail;refine ms' (M.o _) ?_;go_wp2_with fail;go_ret;exact⟨rfl,s.a⟩
 .have r:=kp (fun W=>by have:=f.o p.node 1 7 W; rw[d]at this; exact this);have D:=kp (fun W=>by have:=f.o p.normal 0 900000000 W; rw[m]at this; exact this);have M:=kp (fun W=>by have:=f.o p.base 0 900000000 W; rw[j]at this; exact this);have l:0≤p.base∧p.base≤900000000:=by unfold aF at j; simpa using j
  have m0:=kp (by have:=yH.2 p.ev p.es p.base B W1 HS.o s.B (by have:=y.B; omega) (fun e he=>(l1.o e he).1) l.1 l.2; rw[Y,y.a]at this; exact this);have d4:=aX (show ¬4000<(n:Int) by omega);clear d m j l Y Q;go_wp2_with fail;refine ms' (r.o _) ?_;go_wp2_with fail;refine ms' (D.o _) ?_;go_wp2_with fail;refine ms' (M.o _) ?_;go_wp2_with fail;refine mb' (m0.o) fun w3 l=>?_;have a0:=kp (s.a.on l);clear l;go_wp2_with fail;go_ret;exact⟨rfl,a0.o⟩
 .have r:=kp (fun W=>by have:=f.o p.node 1 7 W; rw[d]at this; exact this);have D:=kp (fun W=>by have:=f.o p.normal 0 900000000 W; rw[m]at this; exact this);have M:=kp (fun W=>by have:=f.o p.base 0 900000000 W; rw[j]at this; exact this);have l:0≤p.base∧p.base≤900000000:=by unfold aF at j; simpa using j
  have m0:=kp (by have:=yH.2 p.ev p.es p.base B W1 HS.o s.B (by have:=y.B; omega) (fun e he=>(l1.o e he).1) l.1 l.2; rw[Y,y.a]at this; exact this);have p2:=k'2 l Q;obtain⟨rv,g1⟩:=nm' (vwB p.normal 0 p.es);rw[g1]at h6;have O:=k'2 g1 h6;have d4:=aX (show ¬4000<(n:Int) by omega);clear d m j l Y h6 g1 Q;go_wp2_with fail;refine ms' (r.o _) ?_;go_wp2_with fail;refine ms' (D.o _) ?_;go_wp2_with fail;refine ms' (M.o _) ?_;go_wp2_with fail;refine mb' (m0.o) fun w3 l=>?_;have a0:=k'2 l (s.a.on l);clear k0 k1 k2 k3 k4 k5 l o1;go_wp2_with fail
  go_loopw [3] (fun i wr=>∃k:Nat,k≤n∧i=.i k∧vwB p.normal (kH p.es k) (p.es.drop k)=rv∧Bw' w wr∧Bw' W1 wr) (fun i _=>n-(intOf i).toNat)
  case atStart=>exact⟨0,by omega,rfl,O.a,a0.B,a0.a⟩
  case round=>
   obtain⟨k,hk,rfl,hf,q1,d1⟩:=hrel;have HF:=kp hf;have F:=k'2 q1 d1;have XR:=kp (z.o.below d1 z.o.lt);clear hf q1 d1;have T:=XR.o.cell 5;rw[show p.cells[5]? =some p.ev from rfl,y.a]at T
   by_cases j3:k<n
   .have g3:(k:Int)<(n:Int):=by omega
    have b0:k<p.es.length:=by have:=y.B; omega
    have y2:=kp (HS.o.below F.B s.B);obtain⟨A2,c2,l2,g2,-,-⟩:=y2.o;obtain⟨b,o2,hA,-,b3,b2⟩:=dB (P:=prog) 11 En.cells eL (by omega) g2 k b0;have a3:A2=A:=by have:=y.a; rw[l2]at this; cases this; rfl
    subst a3;subst hA;have N:=b2 0;change Sem.run _ _ wr=.ok _ wr at N;have HT:=kp (vQ p.normal (kH p.es k) p.es k b0);have o0:=kp (yX p.es k b0);clear b3 b2 l2 g2;obtain⟨x,hx⟩:=nm' (p.es[k]'b0);rw[hx]at N HT o0;clear hx;have nz:=Blk.new wr 46 z'3;have U:=nz.store (P:=prog) (cs':=x.cells) rfl (nI x);have nb:=nz.set x.cells;have j0:=(((cL (ba' wr (.cells z'3a 46)) (aD _) x.cells.toArray)))
    obtain⟨Wn,z0⟩:=nm' ((wr.alloc (.cells z'3a 46)).setRow wr.heap.size x.cells.toArray);rw[z0]at nb j0;rw[show (wr.alloc (.cells z'3.toArray 46)).setRow wr.heap.size x.cells.toArray=Wn from z0]at U;have C:=k'2 (F.a.on j0) (F.B.on j0);have XN:=kp (z.o.below C.B z.o.lt);have q2:=kp (HS.o.below C.B s.B);have Z:=mC (P:=prog) (k:=11) nb rfl;have I:=nb.cell 1;change _=some (Value.i x.v)at I;have I:=aP I;have i1:=XN.o.cell 1;change _=some (Value.i p.normal)at i1;have i1:=aP i1;have H:=XN.o.cell 5;rw[show p.cells[5]? =some p.ev from rfl,y.a]at H;have H:=aP H;clear nb nz j0 z0;have K:=kp (fun W=>vN.2 x W);have G:=kp (HT.o.symm.trans HF.o)
    by_cases S:fY x=true
    rotate_left
    .rw[zY]at S;rw[S]at K G;clear S;go_wp2_with fail;clear N U T;refine bJ (by kernel_rfl) (by kernel_rfl) ?_
     repeat (go_big_quiet_step ((go_at_call 98; refine bU (K.o _))))
     refine bH ?_;rintro W5 ⟨⟨_,g⟩,rfl⟩;have q:=kp (C.a.on g);clear g Z I i1 H;go_wp2_with fail;go_ret;exact⟨by rw[O.B,←G.o]; rfl,q.o⟩
    rw[S]at K G;have g0:=Mc S;clear S
    by_cases e0:p.normal<x.v
    .have g7:decide (p.normal<x.v)=true:=by simp; omega
     have L:=kp (show aF x.v (kH p.es k) p.normal=false by unfold aF; simp; omega);clear e0 g0;go_wp2_with fail;clear N U T;refine bJ (by kernel_rfl) (by kernel_rfl) ?_
     repeat (go_big_quiet_step ((go_at_call 98; refine bU (K.o _))))
     refine bH ?_;rintro W5 ⟨⟨_,g⟩,rfl⟩;have q:=kp (C.a.on g);clear g Z I i1 H;go_wp2_with fail;go_ret;exact⟨by rw[O.B,←G.o,L.o]; rfl,q.o⟩
    have g7:decide (p.normal<x.v)=false:=by simp; omega
    by_cases e1:k=0
    .have g5:decide (0<k)=false:=by simp; omega
     have L:=kp (show aF x.v (kH p.es k) p.normal=true by rw[e1]; unfold aF kH; simp; omega);clear e0 g0 e1;go_wp2_with fail;clear N U T;refine bJ (by kernel_rfl) (by kernel_rfl) ?_
     repeat (go_big_quiet_step ((go_at_call 98; refine bU (K.o _))))
     refine bH ?_;rintro W5 ⟨⟨_,g⟩,rfl⟩;have q:=k'2 (C.a.on g) (C.B.on g);clear g Z I i1 H;go_wp2_with fail;go_roundw
     case rel=>exact⟨k+1,by omega,by go_num,by rw[o0.o,←G.o,L.o]; rfl,q.a,q.B⟩
     case measure=>simp[intOf]; omega
    obtain⟨J,z1⟩:∃J,k=J+1:=⟨k-1,by omega⟩
    have a2:J<p.es.length:=by omega
    obtain⟨A3,c3,m2,j2,-,-⟩:=q2.o;obtain⟨b',e3,p0,-,y1,-⟩:=dB (P:=prog) 11 En.cells eL (by omega) j2 J a2;have m1:A3=some ⟨b,o2,none⟩:=by have:=y.a; rw[m2]at this; cases this; rfl
    rw[m1]at p0;obtain⟨rfl,rfl⟩:b=b'∧o2=e3:=by cases p0; exact⟨rfl,rfl⟩
    have V:=y1 1 _ rfl;rw[show (p.es[J]).v=kH p.es k by rw[z1,yX p.es J a2]]at V;have V:=aP V;obtain⟨lv,d2⟩:=nm' (kH p.es k);rw[d2]at V G;have g5:decide (0<k)=true:=by simp; omega
    have gk:(k:Int)-1=(J:Int):=by omega
    have g6:(J:Int)<(n:Int):=by omega
    clear m2 j2 y1 m1 p0 d2 z1 e1
    by_cases e2:x.v<lv
    .have g8:decide (x.v<lv)=true:=by simp; omega
     have L:=kp (show aF x.v lv p.normal=false by unfold aF; simp; omega);clear e2 e0 g0;go_wp2_with fail;clear N U T;refine bJ (by kernel_rfl) (by kernel_rfl) ?_
     repeat (go_big_quiet_step ((go_at_call 98; refine bU (K.o _))))
     refine bH ?_;rintro W5 ⟨⟨_,g⟩,rfl⟩;have q:=kp (C.a.on g);clear g Z I i1 H V;go_wp2_with fail;go_ret;exact⟨by rw[O.B,←G.o,L.o]; rfl,q.o⟩
    .have g8:decide (x.v<lv)=false:=by simp; omega
     have L:=kp (show aF x.v lv p.normal=true by unfold aF; simp; omega);clear e2 e0 g0;go_wp2_with fail;clear N U T;refine bJ (by kernel_rfl) (by kernel_rfl) ?_
     repeat (go_big_quiet_step ((go_at_call 98; refine bU (K.o _))))
     refine bH ?_;rintro W5 ⟨⟨_,g⟩,rfl⟩;have q:=k'2 (C.a.on g) (C.B.on g);clear g Z I i1 H V;go_wp2_with fail;go_roundw
     case rel=>exact⟨k+1,by omega,by go_num,by rw[o0.o,←G.o,L.o]; rfl,q.a,q.B⟩
     case measure=>simp[intOf]; omega
   .obtain rfl:k=n:=by omega
    have d3:rv=true:=by
     have:=HF.o;rw[Fe.2 (by have:=y.B; omega)]at this;exact this.symm
    subst d3;have k2:=(z.o.below F.B z.o.lt).cell 2;change _=some (Value.i p.base)at k2;have k3:=(z.o.below F.B z.o.lt).cell 3;change _=some (Value.i p.number)at k3;have k4:=(z.o.below F.B z.o.lt).cell 4;change _=some (Value.i p.commit)at k4;have p1:=p2.o
    by_cases d0:p.number=p.base+k
    .have g4:(p.number==wrap64 (p.base+k))=true:=by simp; unfold wrap64; omega
     have HE:=kp (show R=aF p.commit p.base p.number by rw[O.B]; exact (show (true&&(decide (p.number=p.base+(k:Int))&&aF p.commit p.base p.number))=_ by rw[bY d0]; simp));have z2:=kp (fun W=>by have:=f.o p.commit p.base p.number W; rw[←HE.o]at this; exact this);clear d0 p1;go_wp2_with fail;refine ms' (z2.o _) ?_;go_wp2_with fail;go_ret;exact⟨rfl,F.a⟩
    .have g4:(p.number==wrap64 (p.base+k))=false:=by simp; unfold wrap64; omega
     have HE:=kp (show R=false by rw[O.B]; exact (show (true&&(decide (p.number=p.base+(k:Int))&&aF p.commit p.base p.number))=_ by rw[aX d0]; simp));clear d0 p1;go_wp2_with fail;go_ret;exact⟨by rw[HE.o]; rfl,F.a⟩
end
end Go.Proofs.YtdoopoapbffpbaaGreat
