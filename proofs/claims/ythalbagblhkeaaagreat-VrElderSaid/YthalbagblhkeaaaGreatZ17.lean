import Derived.Test.YthalbagblhkeaaaGreatZ04
import Derived.Test.YthalbagblhkeaaaGreatZ15
import Derived.Test.YthalbagblhkeaaaGreatZ16
import Derived.ChangeKeysEq
namespace Go.Proofs.YthalbagblhkeaaaGreat
open Go.RowKit Go.Proofs.Tryz
set_option maxRecDepth 100000
set_option maxHeartbeats 12800000
set_option linter.unusedVariables false
set_option linter.unusedSimpArgs false
section
theorem Vg(e f g h i j k l:Int)(w:World):Sem.run prog (binOp .neq 26 (.agg #[.i e,.i f,.i g,.i h]) (.agg #[.i i,.i j,.i k,.i l])) w=.ok (.bool (!decide ([e,f,g,h]=[i,j,k,l]))) w:=by
 obtain⟨o,n,-,-,-⟩:=info_parts mL;have m:prog.cellsOf 3=1:=by kernel_rfl
 rw[run_neq_struct,show (10000:Nat)=9999+1 from rfl,run_equalIn_array w 9999 _ _ underlying26 n,m];simp only[show List.range 4=[0,1,2,3] from rfl,Op.eqItems]
 go_simp
 by_cases a:¬e=i
 .simp[a]
 replace a:=dQ.1 a
 subst a
 by_cases b:¬f=j
 .simp[b]
 replace b:=dQ.1 b
 subst b
 by_cases c:¬g=k
 .simp[c]
 replace c:=dQ.1 c
 subst c
 by_cases d:¬h=l
 .simp[d]
 replace d:=dQ.1 d
 subst d;simp
theorem Vh(p q:HpV)(ps l:List ObV)(B:Nat)(w:World)(h:gH w B p ps)(h':gH w B q l)(hB:B≤w.heap.size)(hn:ps.length≤1000000)(hf:p.x.free.length≤1000000)(hl:∀z∈ps,z.x.ws.length≤1000000∧z.x.ls.length≤1000000):
  Calls prog 79 #[.agg p.cells.toArray,.agg q.cells.toArray] w fun e w'=>e=.returned (.bool (decide (p.x=q.x)))∧Bw' w w':=by
 obtain⟨r,hr⟩:=nm' (decide (p.x=q.x));rw[hr];have G:=kp hr;generalize q1:w.alloc (.cells p.cells.toArray 29)=H;generalize z1:H.alloc (.cells q.cells.toArray 29)=N;have b0:Blk H w.heap.size 29 p.cells:=q1▸Blk.new w 29 p.cells;have b1:Blk N H.heap.size 29 q.cells:=z1▸Blk.new H 29 q.cells;have e1:Bw' w H:=q1▸ba' w _;have e2:Bw' H N:=z1▸ba' H _;have f:=kp (e1.on e2);have d:=k'2 (b0.below e2 b0.lt) b1;have j:=k'3 (h.below f.o hB) (h'.below f.o hB) (aB hB f.o.size);have p0:=k'2 hf hl;obtain⟨n,hN⟩:=nm' ps.length;obtain⟨m,hM⟩:=nm' l.length;have D:=k'2 hN hM;have g5:=kp hB;rw[hN]at hn;obtain⟨A,c,q2,-,-,-⟩:=h.1.1;obtain⟨A',c',z2,-,-,-⟩:=h'.1.1;have U:=k'2 q2 z2;have k0:=(cI.of d.a).c0;have k1:=(cI.of d.a).c1;have k2:=(cI.of d.a).c2;have k3:=(cI.of d.a).c3;have k4:=(cI.of d.a).c4;have k5:=(cI.of d.a).c5;have k6:=(cI.of d.a).c6;have k7:=(cI.of d.a).c7;have j0:=(cI.of d.B).c0;have j1:=(cI.of d.B).c1;have j2:=(cI.of d.B).c2;have j3:=(cI.of d.B).c3;have j4:=(cI.of d.B).c4;have j5:=(cI.of d.B).c5;have j6:=(cI.of d.B).c6;have j7:=(cI.of d.B).c7;rw[q2,hN]at k1;rw[z2,hM]at j1;have tn:=Vg p.x.t0 p.x.t1 p.x.t2 p.x.t3 q.x.t0 q.x.t1 q.x.t2 q.x.t3;go_enter func79,ntmps79
 by_cases c1:¬p.x.order=q.x.order
 .have g1:(p.x.order != q.x.order)=true:=by simp[c1]
  obtain rfl:r=false:=by rw[←G.o]; exact aX fun h=>c1 (by rw[h])
  go_wp2_with fail;go_ret;exact⟨rfl,f.o⟩
 have g1:(p.x.order != q.x.order)=false:=by simp; exact dQ.1 c1
 have p3:=kp (dQ.1 c1)
 by_cases c2:¬p.x.next=q.x.next
 .have g2:(p.x.next != q.x.next)=true:=by simp[c2]
  obtain rfl:r=false:=by rw[←G.o]; exact aX fun h=>c2 (by rw[h])
  go_wp2_with fail;go_ret;exact⟨rfl,f.o⟩
 have g2:(p.x.next != q.x.next)=false:=by simp; exact dQ.1 c2
 have z3:=kp (dQ.1 c2)
 by_cases c3:¬p.x.tops=q.x.tops
 .rw[show [p.x.t0,p.x.t1,p.x.t2,p.x.t3]=p.x.tops from rfl,show [q.x.t0,q.x.t1,q.x.t2,q.x.t3]=q.x.tops from rfl,aX c3,Bool.not_false]at tn;obtain rfl:r=false:=by rw[←G.o]; exact aX fun h=>c3 (by rw[h])
  go_wp2_with fail;go_ret;exact⟨rfl,f.o⟩
 rw[show [p.x.t0,p.x.t1,p.x.t2,p.x.t3]=p.x.tops from rfl,show [q.x.t0,q.x.t1,q.x.t2,q.x.t3]=q.x.tops from rfl,bY (dQ.1 c3),Bool.not_true]at tn;have a4:=kp (dQ.1 c3)
 by_cases c4:¬n=m
 .have g4:((n:Int) != (m:Int))=true:=by simp; omega
  obtain rfl:r=false:=by rw[←G.o]; exact aX fun h=>c4 (by have:=j.a.2.1; rw[h,j.b.2.1]at this; have:=bG List.length this; rw[cW,cW,D.a,D.B]at this; exact this.symm)
  go_wp2_with fail;go_ret;exact⟨rfl,f.o⟩
 replace c4:=dQ.1 c4
 subst c4;have o1:=kp (Nq.1 p.fv q.fv p.x.free q.x.free B N j.a.2.2 j.b.2.2 p0.a);obtain⟨r5,O⟩:=nm' (decide (p.x.free=q.x.free));rw[O]at o1;have m1:=kp O;go_wp2_with fail;refine mb' (o1.o) fun w3 p4=>?_;have a1:=kp (show Bw' N w3 by obtain⟨q3,rfl⟩:=p4; exact gG (aL _ _) _)
 cases r5
 .obtain rfl:r=false:=by rw[←G.o]; exact aX fun h=>of_decide_eq_false m1.o (by rw[h])
  go_wp2_with fail;go_ret;exact⟨rfl,f.o.on a1.o⟩
 go_wp2_with fail
 go_loopw [5] (fun i wr=>∃k:Nat,k≤n∧i=.i k∧(ps.take k).map (·.x)=(l.take k).map (·.x)∧Bw' N wr) (fun i _=>n-(intOf i).toNat)
 case atStart=>exact⟨0,by omega,rfl,by simp,a1.o⟩
 case round=>
  obtain⟨k,hk,rfl,d5,X⟩:=hrel;have M:=kp X;have HT:=kp d5;have k1:=(cI.of (d.a.below X d.a.lt)).c1;have j1:=(cI.of (d.B.below X d.B.lt)).c1;rw[U.a,D.a]at k1;rw[U.B,D.B]at j1;have g0:=k'2 (j.a.below X j.C) (j.b.below X j.C)
  by_cases l5:k<n
  .have g3:(k:Int)<(n:Int):=by omega
   have K:k<ps.length:=by have:=D.a; omega
   have L:k<l.length:=by have:=D.B; omega
   have a3:ps.take (k+1)=ps.take k++[ps[k]'K]:=cV K;have b3:l.take (k+1)=l.take k++[l[k]'L]:=cV L;have o0:ps[k]∈ps:=bK K;have o3:l[k]∈l:=bK L;obtain⟨A6,c6,d3,a5,-,-⟩:=g0.a.1.1;rw[U.a]at d3;obtain⟨rfl,-,rfl⟩:=Value.slice.inj d3;obtain⟨b,m5,rfl,-,R,-⟩:=bV (P:=prog) 5 cM (by omega) a5 k K;have q0:ps[k]? =some (ps[k]'K):=eK K;have z0:l[k]? =some (l[k]'L):=eK L;obtain⟨x,hx⟩:=nm' (ps[k]'K);obtain⟨y,hy⟩:=nm' (l[k]'L);rw[hx]at a3 o0 R q0;rw[hy]at b3 o3 z0;have p1:=k'4 a3 b3 q0 z0;have l0:=g0.a.1.2 x o0;have m0:=g0.b.2 y o3;obtain⟨Z,cw,l3,-,-,-⟩:=l0.1;obtain⟨Y,cl,o2,-,-,-⟩:=l0.2;obtain⟨Bw,dw,m3,-,-,-⟩:=m0.1;obtain⟨Bl,dl,p2,-,-,-⟩:=m0.2;have x0:=R 0 _ rfl;have x1:=R 1 _ rfl;have x2:=R 2 _ rfl;have x3:=R 3 _ rfl;have x4:=R 4 _ rfl;simp only[cF]at x0;rw[l3]at x3;rw[o2]at x4;generalize a2:wr.alloc (.cells #[.i x.x.h,.i x.x.b.a,.i x.x.b.o,.slice Z x.x.ws.length cw,.slice Y x.x.ls.length cl] 152)=I;have F:Bw' wr I:=a2▸ba' wr _;have m2:Blk I wr.heap.size 152 [.i x.x.h,.i x.x.b.a,.i x.x.b.o,.slice Z x.x.ws.length cw,.slice Y x.x.ls.length cl]:=a2▸Blk.new wr 152 [.i x.x.h,.i x.x.b.a,.i x.x.b.o,.slice Z x.x.ws.length cw,.slice Y x.x.ls.length cl];have Q:B≤wr.heap.size:=aB j.C M.o.size;obtain⟨A7,c7,e3,b5,-,-⟩:=(g0.B.below F Q).1.1;rw[U.B]at e3;obtain⟨rfl,-,rfl⟩:=Value.slice.inj e3;obtain⟨b',o5,rfl,-,S,-⟩:=bV (P:=prog) 5 cM (by omega) b5 k L;rw[hy]at S;have y0:=S 0 _ rfl;have y1:=S 1 _ rfl;have y2:=S 2 _ rfl;have y3:=S 3 _ rfl;have y4:=S 4 _ rfl;simp only[cF]at y0;rw[m3]at y3;rw[p2]at y4;have e5:=(cI.of ((d.B.below M.o d.B.lt).below F (d.B.below M.o d.B.lt).lt)).c1;rw[U.B,D.B]at e5;generalize b2:I.alloc (.cells #[.i y.x.h,.i y.x.b.a,.i y.x.b.o,.slice Bw y.x.ws.length dw,.slice Bl y.x.ls.length dl] 152)=V;have J:Bw' I V:=b2▸ba' I _;have m4:Blk V I.heap.size 152 [.i y.x.h,.i y.x.b.a,.i y.x.b.o,.slice Bw y.x.ws.length dw,.slice Bl y.x.ls.length dl]:=b2▸Blk.new I 152 [.i y.x.h,.i y.x.b.a,.i y.x.b.o,.slice Bw y.x.ws.length dw,.slice Bl y.x.ls.length dl];have g:=k'2 (m2.below J m2.lt) m4;have d0:=k'2 (M.o.trans ((F.on J).mono M.o.size)) (aB (aB Q F.size) J.size);have HI:=kp (fun(W':World)(hb:Bw' V W')=>jQ
    (show Calls prog 139 #[.slice Z x.x.ws.length cw,.slice Bw y.x.ws.length dw] W' _ by
     have W:=(F.on J).trans (hb.mono (aB F.size J.size));have:=rN.1 x.wv y.wv x.x.ws y.x.ws B W' (l0.1.below W Q) (m0.1.below W Q) (p0.B x o0).1;rw[l3,m3]at this;exact this)
    (show Calls prog 139 #[.slice Y x.x.ls.length cl,.slice Bl y.x.ls.length dl] W' _ by
     have W:=(F.on J).trans (hb.mono (aB F.size J.size));have:=rN.1 x.lv y.lv x.x.ls y.x.ls B W' (l0.2.below W Q) (m0.2.below W Q) (p0.B x o0).2;rw[o2,p2]at this;exact this))
   have s0:=g.a.cell 0;have s1:=g.a.cell 1;have s2:=g.a.cell 2;have s3:=g.a.cell 3;have s4:=g.a.cell 4;have t0:=g.B.cell 0;have t1:=g.B.cell 1;have t2:=g.B.cell 2;have t3:=g.B.cell 3;have t4:=g.B.cell 4;simp only[aG,aK]at s0 s1 s2 s3 s4 t0 t1 t2 t3 t4;have l2:∀w:World,Sem.run prog (binOp .neq 150 (.agg #[.i x.x.b.a,.i x.x.b.o]) (.agg #[.i y.x.b.a,.i y.x.b.o])) w=.ok (.bool (!decide (x.x.b=y.x.b))) w:=fun w=>cJ.1 x.x.b y.x.b w;have e0:=kp (fun(o4:¬x.x=y.x)=>show r=false by
    rw[←G.o];refine aX fun h=>o4 ?_;have s:=j.a.2.1;rw[h,j.b.2.1]at s;have E:=bG (·[k]?) s;simp only[wC,q0,z0,kL,Option.some.injEq]at E;exact E.symm)
   by_cases d1:¬x.x.h=y.x.h
   .have e1:(x.x.h != y.x.h)=true:=by simp[d1]
    obtain rfl:=e0.o fun e=>d1 (by rw[e]);go_wp2_with fail;go_ret;exact⟨rfl,f.o.on d0.a⟩
   have e1:(x.x.h != y.x.h)=false:=by simp; exact dQ.1 d1
   have d4:=kp (dQ.1 d1)
   by_cases d2:¬x.x.b=y.x.b
   .rw[aX d2,Bool.not_false]at l2;obtain rfl:=e0.o fun e=>d2 (by rw[e]);go_wp2_with fail;go_ret;exact⟨rfl,f.o.on d0.a⟩
   rw[bY (dQ.1 d2),Bool.not_true]at l2;have e4:=kp (dQ.1 d2);obtain⟨r7,h7⟩:=nm' (decide (x.x.ws=y.x.ws));obtain⟨r8,h8⟩:=nm' (decide (x.x.ls=y.x.ls));rw[h7,h8]at HI;have a0:=k'2 h7 h8;go_wp2_with fail;refine mb' ((HI.o V (aL _ _)).1) fun w7 q4=>?_;have T:=kp (show Bw' V w7 by obtain⟨q3,rfl⟩:=q4; exact gG (aL _ _) _)
   cases r7
   .obtain rfl:=e0.o fun e=>of_decide_eq_false a0.a (by rw[e]);go_wp2_with fail;go_ret;exact⟨rfl,f.o.trans ((d0.a.on T.o).mono f.o.size)⟩
   have s4:=(g.a.below T.o g.a.lt).cell 4;have t4:=(g.B.below T.o g.B.lt).cell 4;simp only[aG,aK]at s4 t4;go_wp2_with fail;refine mb' ((HI.o w7 T.o).2) fun w8 z4=>?_;have l1:=kp (show Bw' N w8 by obtain⟨q3,rfl⟩:=z4; exact gG (d0.a.on T.o) _)
   cases r8
   .obtain rfl:=e0.o fun e=>of_decide_eq_false a0.B (by rw[e]);go_wp2_with fail;go_ret;exact⟨rfl,f.o.on l1.o⟩
   go_wp2_with fail;go_roundw
   case rel=>exact⟨k+1,by omega,by go_num,by
    have e7:=bT a0.a;have e8:=bT a0.B;have l4:x.x=y.x:=by
     have s:=d4.o; have E:=e4.o
     cases hxx:x.x; cases hyy:y.x;rw[hxx,hyy]at e7 e8 s E;subst e7 e8 s E; rfl
    rw[p1.a,p1.b,gC,gC,HT.o];simp[l4],l1.o⟩
   case measure=>simp[intOf]; omega
  .obtain rfl:k=n:=by omega
   obtain rfl:r=true:=by
    rw[←G.o];refine bY ?_;have s:=HT.o;rw[cN (by have:=D.a; omega),cN (by have:=D.B; omega),←j.a.2.1,←j.b.2.1]at s;have E:=bT m1.o;have h3:=p3.o;have h4:=z3.o;have O:=a4.o
    cases hpx:p.x; cases hqx:q.x;rw[hpx,hqx]at s E h3 h4 O;simp only[Hp.tops,List.cons.injEq,and_true]at O;obtain⟨i0,i1,i2,i3⟩:=O;simp only[]at s E h3 h4 i0 i1 i2 i3;subst s E h3 h4 i0 i1 i2 i3; rfl
   go_wp2_with fail;go_ret;exact⟨rfl,f.o.on M.o⟩
end
section
structure SmH(h:Hp):Prop where
 obs:h.obs.length≤600
 free:h.free.length≤600
 rows:∀x∈h.obs,x.ws.length≤5000∧x.ls.length≤5000
def NoR(w:World)(Q:Prop)(e:Ending)(w':World):Prop:=∃r,e=.returned (.bool r)∧(r=false→Q)∧Bw' w w'
theorem NoR.of{w a:World}{Q:Prop}{r:Bool}(h:r=false→Q)(b:Bw' w a):NoR w Q (.returned (.bool r)) a:=⟨r,rfl,h,b⟩
theorem Vi(p:HpV)(ps:List ObV)(B:Nat)(w:World)(h:gH w B p ps)(R:B≤w.heap.size):
  Calls prog 52 #[.agg p.cells.toArray] w (NoR w (SmH p.x)):=by
 generalize U:w.alloc (.cells p.cells.toArray 29)=G;have H:Blk G w.heap.size 29 p.cells:=U▸Blk.new w 29 p.cells;have e1:Bw' w G:=U▸ba' w _;have j:=kp e1;have K:=kp H;have l:=k'2 (h.below e1 R) (aB R e1.size);obtain⟨n,T⟩:=nm' ps.length;obtain⟨m,S⟩:=nm' p.x.free.length;have e:=k'2 T S;obtain⟨A,c,X,-,-,-⟩:=h.1.1;obtain⟨A',c',p0,-,-,-⟩:=h.2.2;have L:=kp X;have g:=(cI.of H).c1;have k7:=(cI.of H).c7;rw[X,T]at g;rw[p0,S]at k7;go_enter func52,ntmps52
 by_cases c1:600<n
 .have g1:decide (600<(n:Int))=true:=by simp; omega
  go_wp2_with fail;go_ret;exact NoR.of (fun h=>by cases h) j.o
 have g1:decide (600<(n:Int))=false:=by simp; omega
 by_cases c2:600<m
 .have g2:decide (600<(m:Int))=true:=by simp; omega
  go_wp2_with fail;go_ret;exact NoR.of (fun h=>by cases h) j.o
 have g2:decide (600<(m:Int))=false:=by simp; omega
 have F:=k'2 c1 c2;go_wp2_with fail
 go_loopw [3,4] (fun s i wr=>∃(k:Nat)(c:Int),k≤n∧s=.i c∧i=.i k∧0≤c∧c≤20000∧(c≤5000→∀x∈ps.take k,(x.x.ws.length:Int)≤5000∧(x.x.ls.length:Int)≤5000)∧Bw' G wr) (fun _ i _=>n-(intOf i).toNat)
 case atStart=>exact⟨0,0,by omega,rfl,rfl,by omega,by omega,by simp,aL _ _⟩
 case round=>
  obtain⟨k,c,hk,rfl,rfl,d1,j1,o0,I⟩:=hrel;have E:=kp I;have N:=kp o0;have g:=(cI.of (K.o.below I K.o.lt)).c1;rw[L.o,e.a]at g;have M:=kp (l.a.below I l.B);have p1:n≤600:=by have:=F.o; omega
  by_cases o1:k<n
  .have g3:(k:Int)<(n:Int):=by omega
   by_cases W:c≤5000
   .have g4:decide (c≤5000)=true:=by simp[W]
    have f:k<ps.length:=by have:=e.a; omega
    have Z:ps.take (k+1)=ps.take k++[ps[k]'f]:=cV f;have g0:ps[k]∈ps:=bK f;obtain⟨A6,c6,e0,a1,-,-⟩:=M.a.1;rw[L.o]at e0;obtain⟨rfl,-,rfl⟩:=Value.slice.inj e0;obtain⟨b,z1,rfl,-,J,-⟩:=bV (P:=prog) 5 cM (by omega) a1 k f;obtain⟨x,hx⟩:=nm' (ps[k]'f);rw[hx]at Z g0 J;have l0:=kp Z;have Y:=M.a.2 x g0;obtain⟨Aw,cw,b1,-,q1,y1⟩:=Y.1;obtain⟨Al,cl,q0,-,l1,m1⟩:=Y.2;have C:=J 3 _ rfl;have D:=J 4 _ rfl;rw[b1]at C;rw[q0]at D;have C:=aP C;have D:=aP D;have g:=aP g;obtain⟨r,a0⟩:=nm' x.x.ws.length;obtain⟨y,d0⟩:=nm' x.x.ls.length;rw[a0]at C;rw[d0]at D;have O:=k'2 a0 d0;go_wp2_with fail;refine bJ (by kernel_rfl) (by kernel_rfl) ?_
    repeat (go_big_quiet_step (fail))
    refine bH ?_;rintro W5 ⟨⟨_,m0⟩,rfl⟩;have j0:=kp (E.o.on m0);have y0:min (r:Int) 5001≤5001∧0≤min (r:Int) 5001∧(min (r:Int) 5001≤5000→(r:Int)≤5000):=by omega
    have z0:min (y:Int) 5001≤5001∧0≤min (y:Int) 5001∧(min (y:Int) 5001≤5000→(y:Int)≤5000):=by omega
    have HM:=k'2 y0 z0;go_wp2_with fail;go_roundw
    case rel=>
     have hm:=HM.o;refine⟨k+1,_,by omega,rfl,by go_num,by omega,by omega,fun V=>?_,j0.o⟩;rw[l0.o];intro z d;rcases dF.1 d with d|d
     .exact N.o W z d
     .rw[bQ.1 d,O.a,O.B];omega
    case measure=>simp[intOf]; omega
   .have g4:decide (c≤5000)=false:=by simp; omega
    have g5:decide (5000<c)=true:=by simp; omega
    go_wp2_with fail;go_ret;exact NoR.of (fun h=>by cases h) (j.o.on E.o)
  .obtain rfl:k=n:=by omega
   go_wp2_with fail;go_ret;refine NoR.of (fun h=>?_) (j.o.on E.o);have V:c≤5000:=by simpa using h
   have Q:=N.o V;rw[cN (by have:=e.a; omega)]at Q;refine⟨by rw[l.a.2.1,cW]; have:=e.o; have:=F.o; omega,by have:=e.o; have:=F.o; omega,fun z d=>?_⟩;rw[l.a.2.1]at d;obtain⟨q,hq,rfl⟩:=cX.1 d;have:=Q q hq;omega
end
section
def pY(cs:List Value)(o:Nat)(vs:List Value):List Value:=cs.take o++vs++cs.drop (o+vs.length)
theorem Blk.storeOff'{P:Program}{g o:Nat}{t:TypeId}:∀(b:List Value)(i:Nat)(a:List Value)(W:World),Blk W g t a→o+i+b.length≤a.length→(∀u∈b,u.oneCell'=true)→Sem.run P (storeCells ⟨g,o,none⟩ b i) W=.ok () (W.setRow g (pY a (o+i) b).toArray)
 |[],i,a,W,h,d,c=>by
  have:=run_storeCells_from (P:=P) g t [] a.length a.toArray W h (by simp) (by simp);have e:pY a (o+i) []=a:=by unfold pY; simp
  rw[e];show Sem.run P (storeCells ⟨g,0,none⟩ [] a.length) W=_;rw[this];simp
 |v::f,i,a,W,h,d,c=>by
  have j:o+i<a.length:=by simp at d; omega
  have k:(⟨g,o,none⟩:Addr).add i=⟨g,o+i,none⟩:=by unfold Addr.add; split<;>simp_all
  have l:W.cell? ⟨g,o+i,none⟩=some a[o+i]:=by rw[h.cell]; simp[j]
  have m:W.frozen? ⟨g,o+i,none⟩=false:=h.frozen _;have n:Sem.run P (Go.store ((⟨g,o,none⟩:Addr).add i) v) W=.ok () (W.setCell ⟨g,o+i,none⟩ v):=by
   rw[k,run_store P W _ v _ (c v (by simp)),l];simp[m]
  have q:=Blk.storeOff' (P:=P) (o:=o) f (i+1) (a.set (o+i) v) (W.setCell ⟨g,o+i,none⟩ v) (h.setCell (o+i) v) (by simp at d ⊢; omega) fun x p=>c x (by simp[p]);simp only[storeCells,Sem.run_bind,n,Result.andThen_ok,q];rw[setCell_eq_setRow W g (o+i) a.toArray t (0,0) v h,setRow_setRow]
  congr 3
  unfold pY;rw[←oE,eV,show o+i+1+f.length=o+i+(f.length+1) by omega];rw[cV (by simpa using j),List.take_set_of_le (aD _),List.drop_set_of_lt (by omega)];simp
theorem Blk.storeOff{P:Program}{g:Nat}{t:TypeId}{b:List Value}{W:World}(h:Blk W g t b)(o:Nat)(a:List Value)(d:o+a.length≤b.length)(c:∀u∈a,u.oneCell'=true):Sem.run P (storeCells ⟨g,o,none⟩ a 0) W=.ok () (W.setRow g (pY b o a).toArray):=Blk.storeOff' a 0 b W h d c
theorem Ko(a b:Rw)(w:World):Sem.run prog (binOp .neq 117 (.agg a.cells.toArray) (.agg b.cells.toArray)) w=.ok (.bool (!decide (a=b))) w:=by
 obtain⟨i,j,k,l⟩:=a;obtain⟨m,n,o,p⟩:=b;simp only[Rw.cells,Rw.mk.injEq];have g:prog.underlying 117=some (.struct (prog.fieldsOf 117)):=by kernel_rfl
 have h:prog.stoodInHeld 117=false:=by kernel_rfl
 rw[run_neq_struct,show (10000:Nat)=9999+1 from rfl,run_equalIn_agg w 9999 _ _ _ g h];simp only[Program.fieldsOf,underlying117]
 go_simp
 by_cases c:¬i=m
 .simp[c]
 replace c:=dQ.1 c
 subst c
 by_cases d:¬j=n
 .simp[d]
 replace d:=dQ.1 d
 subst d
 by_cases e:¬k=o
 .simp[e]
 replace e:=dQ.1 e
 subst e
 by_cases f:¬l=p
 .simp[f]
 replace f:=dQ.1 f
 subst f;simp
attribute [-go_sem] loadCellsFrom storeCells
attribute [local go_sem] bC
theorem StV.one{p:StV}{ps:List ObV}{w:World}{B:Nat}(h:fN w B p ps):∀u∈p.cells,u.oneCell'=true:=by
 intro u a;rcases dF.1 a with a|a
 .exact HpV.one h.1.1.1.one h.1.2.2.one u a
 .rw[bQ.1 a]; exact h.2.one
theorem StV.h8(p:StV):(p.cells.drop 0).take 8=p.p.cells:=rfl
theorem StV.c8(p:StV):p.cells[8]? =some p.rv:=rfl
theorem Kq(p q:StV)(ps qs:List ObV)(B:Nat)(w:World)(h:fN w B p ps)(Y:fN w B q qs)(O:B≤w.heap.size)(hn:ps.length≤1000000)(hf:p.p.x.free.length≤1000000)(hl:∀z∈ps,z.x.ws.length≤1000000∧z.x.ls.length≤1000000)(hr:p.rows.length≤1000000):
  Calls prog 37 #[.agg p.cells.toArray,.agg q.cells.toArray] w fun e w'=>e=.returned (.bool (decide (p.x=q.x)))∧Bw' w w':=by
 obtain⟨r,e0⟩:=nm' (decide (p.x=q.x));rw[e0];have J:=kp e0;generalize a0:w.alloc (.cells p.cells.toArray 32)=l;generalize d0:l.alloc (.cells q.cells.toArray 32)=M;have W:Blk l w.heap.size 32 p.cells:=a0▸Blk.new w 32 p.cells;have b1:Blk M l.heap.size 32 q.cells:=d0▸Blk.new l 32 q.cells;have e1:Bw' w l:=a0▸ba' w _;have X:Bw' l M:=d0▸ba' l _;have d:=kp (e1.on X);have f:=k'2 (W.below X W.lt) b1;have j:=k'3 (h.below d.o O) (Y.below d.o O) (aB O d.o.size);obtain⟨n,Q⟩:=nm' p.rows.length;obtain⟨m,hM⟩:=nm' q.rows.length;have g:=k'2 Q hM;rw[Q]at hr;obtain⟨A,c,g0,-,-,-⟩:=h.2;obtain⟨A',c',j0,-,-,-⟩:=Y.2;have K:=k'2 g0 j0;have l0:=f.a.loadOff (P:=prog) 0 8 p.p.cells p.h8 rfl;have l1:=f.B.loadOff (P:=prog) 0 8 q.p.cells q.h8 rfl;have I:=f.a.cell 8;have H:=f.B.cell 8;rw[StV.c8]at I H;rw[g0,Q]at I;rw[j0,hM]at H;have U:=kp (Vh p.p q.p ps qs B M j.a.1 j.b.1 j.C hn hf hl);go_enter func37,ntmps37
 by_cases c4:¬n=m
 .have g4:((n:Int) != (m:Int))=true:=by simp; omega
  obtain rfl:r=false:=by rw[←J.o]; exact aX fun h=>c4 (by have:=g.o; have:=bG St.rows h; have:=bG List.length this; unfold StV.x at this; simp only[]at this; omega)
  go_wp2_with fail;go_ret;exact⟨rfl,d.o⟩
 replace c4:=dQ.1 c4
 subst c4;obtain⟨r5,Z⟩:=nm' (decide (p.p.x=q.p.x));rw[Z]at U;have T:=kp Z;go_wp2_with fail;refine mb' (U.o) fun w3 p0=>?_;have S:=kp p0
 cases r5
 .obtain rfl:r=false:=by rw[←J.o]; exact aX fun h=>of_decide_eq_false T.o (bG St.h h)
  go_wp2_with fail;go_ret;exact⟨rfl,d.o.on S.o⟩
 go_wp2_with fail
 go_loopw [5] (fun i wr=>∃k:Nat,k≤n∧i=.i k∧p.rows.take k=q.rows.take k∧Bw' M wr) (fun i _=>n-(intOf i).toNat)
 case atStart=>exact⟨0,by omega,rfl,by simp,S.o⟩
 case round=>
  obtain⟨k,hk,rfl,p1,E⟩:=hrel;have N:=kp E;have V:=kp p1;have I:=(f.a.below E f.a.lt).cell 8;have H:=(f.B.below E f.B.lt).cell 8;rw[StV.c8]at I H;rw[K.a,g.a]at I;rw[K.B,g.B]at H;have g1:=j.a.2.below E j.C;have j1:=j.b.2.below E j.C
  by_cases z1:k<n
  .have g3:(k:Int)<(n:Int):=by omega
   have F:k<p.rows.length:=by have:=g.a; omega
   have G:k<q.rows.length:=by have:=g.B; omega
   obtain⟨A6,c6,m0,a1,-,-⟩:=g1;rw[K.a]at m0;obtain⟨rfl,-,rfl⟩:=Value.slice.inj m0;obtain⟨A7,c7,o0,d1,-,-⟩:=j1;rw[K.B]at o0;obtain⟨rfl,-,rfl⟩:=Value.slice.inj o0;obtain⟨b,a2,rfl,-,-,q1⟩:=dB (P:=prog) 4 Rw.cells fJ (by omega) a1 k F;obtain⟨b',b2,rfl,-,-,y1⟩:=dB (P:=prog) 4 Rw.cells fJ (by omega) d1 k G;have m1:p.rows.take (k+1)=p.rows.take k++[p.rows[k]'F]:=cV F;have o1:q.rows.take (k+1)=q.rows.take k++[q.rows[k]'G]:=cV G;have y0:=eK F;have z0:=eK G;generalize p.rows[k]'F=x at *;generalize q.rows[k]'G=y at *;have L:=k'4 m1 o1 y0 z0
   by_cases R:x=y
   .subst R;have q0:∀w:World,Sem.run prog (binOp .neq 117 (.agg x.cells.toArray) (.agg x.cells.toArray)) w=.ok (.bool false) w:=fun w=>by rw[Ko x x w]; simp
    go_wp2_with fail
    go_quiet (fail)
    go_wp2_with fail;go_roundw
    case rel=>exact⟨k+1,by omega,by go_num,by rw[L.a,L.b,V.o],gG N.o _⟩
    case measure=>simp[intOf]; omega
   .obtain rfl:r=false:=by
     rw[←J.o];exact aX fun h=>R (by have s:=L.c; rw[show p.rows=q.rows from bG St.rows h,L.D]at s; injection s with s; exact s.symm)
    have q0:∀w:World,Sem.run prog (binOp .neq 117 (.agg x.cells.toArray) (.agg y.cells.toArray)) w=.ok (.bool true) w:=fun w=>by rw[Ko x y w,aX R]; rfl
    go_wp2_with fail
    go_quiet (fail)
    go_wp2_with fail;go_ret;exact⟨rfl,d.o.trans ((gG N.o _).mono d.o.size)⟩
  .obtain rfl:k=n:=by omega
   obtain rfl:r=true:=by
    rw[←J.o];refine bY ?_;have s:=V.o;rw[cN (by have:=g.a; omega),cN (by have:=g.B; omega)]at s;unfold StV.x;rw[s,bT T.o]
   go_wp2_with fail;go_ret;exact⟨rfl,d.o.on N.o⟩
structure Sv(w:World)(base:Nat)(p:StV)(ps:List ObV):Prop where
 h:Hv w base p.p ps
 rows:Ow w base 117 4 p.rv Rw.cells p.rows
theorem Sv.st{w:World}{base:Nat}{p:StV}{ps:List ObV}(h:Sv w base p ps):fN w w.heap.size p ps:=⟨h.h.wv.hpAt,h.rows.sl fJ⟩
theorem Sv.below{w b:World}{base:Nat}{p:StV}{ps:List ObV}(h:Sv w base p ps)(a:Bw' w b):Sv b base p ps:=⟨h.h.below a,h.rows.below a⟩
theorem Hv.mono{w:World}{base base2:Nat}{p:HpV}{ps:List ObV}(h:Hv w base p ps)(a:base2≤base):Hv w base2 p ps:=⟨h.obs.mono a,h.rws.mono a,h.eq,aO.mono h.free fun _ _ h=>aB a h⟩
theorem Sv.mono{w:World}{base base2:Nat}{p:StV}{ps:List ObV}(h:Sv w base p ps)(a:base2≤base):Sv w base2 p ps:=⟨h.h.mono a,h.rows.mono a⟩
theorem Hv.chg{w j:World}{base b:Nat}{p:HpV}{ps:List ObV}{t:TypeId}{k:List Value}(h:Hv w base p ps)(c:Blk w b t k)(d:Chg (fun i=>i=b) w j)(a:t≠152)(f:t≠150)(g:t≠3):Hv j base p ps:=
 ⟨h.obs.chg d fun _ l e=>h.obs.ne_blk c (fun e=>a e.symm) (e▸l),(h.wv.chg c d a f g).rws,h.eq,(h.wv.chg c d a f g).free⟩
theorem Sv.chg{w d:World}{base b:Nat}{p:StV}{ps:List ObV}{t:TypeId}{f:List Value}(h:Sv w base p ps)(a:Blk w b t f)(c:Chg (fun i=>i=b) w d)(g:t≠152)(j:t≠150)(k:t≠3)(l:t≠117):Sv d base p ps:=
 ⟨h.h.chg a c g j k,h.rows.chg c fun _ m e=>h.rows.ne_blk a (fun e=>l e.symm) (e▸m)⟩
structure SmO(p:HpV)(ps:List ObV):Prop where
 obs:ps.length≤1000
 free:p.x.free.length≤1000
 rows:∀q∈ps,q.x.ws.length≤5001∧q.x.ls.length≤5001
theorem SmO.of{w:World}{B:Nat}{p:HpV}{ps:List ObV}(h:gH w B p ps)(a:SmH p.x):SmO p ps:=
 ⟨by have:=bG List.length h.2.1; rw[cW]at this; have:=a.obs; omega,by have:=a.free; omega,fun q b=>by have:=a.rows q.x (by rw[h.2.1]; exact cX.2 ⟨q,b,rfl⟩); omega⟩
theorem Vj(p:StV)(ps:List ObV)(B:Nat)(w:World)(h:fN w B p ps)(i:B≤w.heap.size):
  Calls prog 20 #[.agg p.cells.toArray] w (NoR w (SmH p.p.x∧p.rows.length≤1000)):=by
 generalize k:w.alloc (.cells p.cells.toArray 32)=b;have g:Blk b w.heap.size 32 p.cells:=k▸Blk.new w 32 p.cells;have e1:Bw' w b:=k▸ba' w _;have d:=kp e1;obtain⟨n,j⟩:=nm' p.rows.length;obtain⟨A,c,D,-,-,-⟩:=h.2;have E:=g.loadOff (P:=prog) 0 8 p.p.cells p.h8 rfl;have y:=g.cell 8;rw[StV.c8,D,j]at y;have q:=kp j;have l:=kp (Vi p.p ps B b (h.1.below e1 i) (aB i e1.size));go_enter func20,ntmps20
 by_cases c1:1000<n
 .have s:decide (1000<(n:Int))=true:=by simp; omega
  go_wp2_with fail;go_ret;exact NoR.of (fun h=>by cases h) d.o
 have s:decide (1000<(n:Int))=false:=by simp; omega
 have m:=kp c1;go_wp2_with fail;refine (l.o).mono ?_;rintro e F ⟨r,rfl,C,z⟩;have f:=k'2 C z;go_wp2_with fail;go_ret;exact NoR.of (fun h=>⟨f.a h,by have:=m.o; have:=q.o; omega⟩) (d.o.on f.B)
end
section
def KpV.x(p:KpV):Kd:=⟨p.view,p.normal,p.base,p.image,p.es⟩
def fL(w:World)(B:Nat)(p:KpV):Prop:=Sl w B p.ev En.cells p.es
def VoV.x(p:VoV):Vo:=⟨p.node,p.normal,p.base,p.number,p.commit,p.es⟩
def mS(w:World)(B:Nat)(p:VoV):Prop:=Sl w B p.ev En.cells p.es
def nQ(w:World)(B:Nat)(v:Value)(vs:List VoV):Prop:=Sl w B v VoV.cells vs∧∀p∈vs,mS w B p
def Pt.cells(p:Pt):List Value:=[.i p.src,.i p.view,.i p.number,.i p.total,.string p.data]
structure RpV where
 (id nodes:Int) (k:KpV) (commit:Int) (s:StV) (timer:Int) (starts:List Int) (sv:Value) (votes:List VoV) (vv:Value) (acks:List Ak) (av:Value) (part:Pt)
def RpV.cells(p:RpV):List Value:=[.i p.id,.i p.nodes]++p.k.cells++[.i p.commit]++p.s.cells++[.i p.timer,p.sv,p.vv,p.av]++p.part.cells
def RpV.x(p:RpV):Rp:=⟨p.id,p.nodes,p.k.x,p.commit,p.s.x,p.timer,p.starts,p.votes.map (·.x),p.acks,p.part⟩
def eO(w:World)(B:Nat)(p:RpV)(ps:List ObV):Prop:=fL w B p.k∧fN w B p.s ps∧Sl w B p.sv i1 p.starts∧nQ w B p.vv p.votes∧Sl w B p.av Ak.cells p.acks
section
variable {w w':World}{B C:Nat}{v:Value}
theorem nQ.below{c:List VoV}(h:nQ w B v c)(b:Below C w w')(a:B≤C):nQ w' B v c:=⟨h.1.below b a,fun p d=>Sl.below (h.2 p d) b a⟩
theorem nQ.more{b:List VoV}(h:nQ w B v b)(a:B≤C):nQ w C v b:=⟨h.1.more a,fun p c=>Sl.more (h.2 p c) a⟩
theorem eO.below{p:RpV}{ps:List ObV}(h:eO w B p ps)(b:Below C w w')(a:B≤C):eO w' B p ps:=⟨Sl.below h.1 b a,h.2.1.below b a,h.2.2.1.below b a,h.2.2.2.1.below b a,h.2.2.2.2.below b a⟩
theorem eO.more{p:RpV}{ps:List ObV}(h:eO w B p ps)(a:B≤C):eO w C p ps:=⟨Sl.more h.1 a,h.2.1.more a,h.2.2.1.more a,h.2.2.2.1.more a,h.2.2.2.2.more a⟩
end
def KdR(k:Kd):Prop:=∀e∈k.es,enR e
def VoR(v:Vo):Prop:=∀e∈v.es,enR e
theorem Vk{p:KpV}{w:World}{B:Nat}(h:fL w B p):∀u∈p.cells,u.oneCell'=true:=by
 intro u a;simp only[KpV.cells,bA,dW,or_false]at a;rcases a with rfl|rfl|rfl|rfl|rfl
 .rfl
 .rfl
 .rfl
 .rfl
 .exact Sl.one h
theorem yK{p:VoV}{w:World}{B:Nat}(h:mS w B p):∀u∈p.cells,u.oneCell'=true:=by
 intro u a;simp only[VoV.cells,bA,dW,or_false]at a;rcases a with rfl|rfl|rfl|rfl|rfl|rfl
 .rfl
 .rfl
 .rfl
 .rfl
 .rfl
 .exact Sl.one h
theorem Dh(p:Pt):∀u∈p.cells,u.oneCell'=true:=by
 intro u a;simp only[Pt.cells,bA,dW,or_false]at a;rcases a with rfl|rfl|rfl|rfl|rfl<;>rfl
end
section
attribute [-go_sem] loadCellsFrom storeCells
attribute [local go_sem] bC
theorem RpV.len(p:RpV):p.cells.length=26:=rfl
theorem RpV.c0(p:RpV):p.cells[0]? =some (.i p.id):=rfl
theorem RpV.c1(p:RpV):p.cells[1]? =some (.i p.nodes):=rfl
theorem RpV.c2(p:RpV):p.cells[2]? =some (.i p.k.view):=rfl
theorem RpV.c3(p:RpV):p.cells[3]? =some (.i p.k.normal):=rfl
theorem RpV.c4(p:RpV):p.cells[4]? =some (.i p.k.base):=rfl
theorem RpV.c5(p:RpV):p.cells[5]? =some (.string p.k.image):=rfl
theorem RpV.c6(p:RpV):p.cells[6]? =some p.k.ev:=rfl
theorem RpV.c7(p:RpV):p.cells[7]? =some (.i p.commit):=rfl
theorem RpV.c17(p:RpV):p.cells[17]? =some (.i p.timer):=rfl
theorem RpV.c18(p:RpV):p.cells[18]? =some p.sv:=rfl
theorem RpV.c19(p:RpV):p.cells[19]? =some p.vv:=rfl
theorem RpV.c20(p:RpV):p.cells[20]? =some p.av:=rfl
theorem mC{P:Program}{W:World}{g k:Nat}{t:TypeId}{a:List Value}(h:Blk W g t a)(b:a.length=k):∀p:Blw W,Sem.run P (loadCellsFrom ⟨g,0,none⟩ 0 k #[]) p.w=.ok a.toArray p.w:=fun p=>(h.below p.h h.lt).load b
theorem aB8(p:KpV)(w:World)(B:Nat)(h:fL w B p)(g:0≤p.base∧p.base≤900000000)(i:p.es.length≤1000000):Calls prog 58 #[.agg p.cells.toArray] w fun e m=>e=.returned (.i p.x.last)∧Bw' w m:=by
 obtain⟨A,c,d,-,-,-⟩:=h;obtain⟨n,b⟩:=nm' p.es.length;have j:p.x.last=p.base+n:=by rw[←b]; rfl
 rw[j];rw[b]at d i;have f:=kp (ba' w (.cells p.cells.toArray 24));have a:=Blk.new w 24 p.cells;have k:=a.cell 2;have l:=a.cell 4;change _=some (Value.i p.base)at k;rw[show p.cells[4]? =some p.ev from rfl,d]at l;obtain⟨q,r⟩:=g;generalize p.base=s at *;go_enter func58,ntmps58;go_wp2_with fail;go_ret;exact⟨rfl,f.o⟩
theorem Di(p:RpV)(w:World)(B:Nat)(h:fL w B p.k)(g:0≤p.k.base∧p.k.base≤900000000)(i:p.k.es.length≤1000000):Calls prog 24 #[.agg p.cells.toArray] w fun e q=>e=.returned (.i p.x.k.last)∧Bw' w q:=by
 obtain⟨A,c,d,-,-,-⟩:=h;obtain⟨n,b⟩:=nm' p.k.es.length;have j:p.x.k.last=p.k.base+n:=by rw[←b]; rfl
 rw[j];rw[b]at d i;have a:=Blk.new w 39 p.cells;have f:=kp (ba' w (.cells p.cells.toArray 39));have l:=a.cell 4;have m:=a.cell 6;rw[RpV.c4]at l;rw[RpV.c6,d]at m;obtain⟨r,s⟩:=g;generalize p.k.base=y at *;go_enter func24,ntmps24;go_wp2_with fail;go_ret;exact⟨rfl,f.o⟩
theorem aCn(p:RpV)(w:World):Calls prog 50 #[.agg p.cells.toArray] w fun e f=>e=.returned (.bool (gY p.x))∧Bw' w f:=by
 have a:=Blk.new w 39 p.cells;have b:=kp (ba' w (.cells p.cells.toArray 39));have c:=a.cell 2;have d:=a.cell 3;rw[RpV.c2]at c;rw[RpV.c3]at d;have g:(p.k.normal==p.k.view)=gY p.x:=rfl;generalize p.k.normal=h at *;generalize p.k.view=i at *;go_enter func50,ntmps50;go_wp2_with fail;go_ret;exact⟨rfl,b.o⟩
theorem Ks(p:RpV)(w:World)(i:inR p.nodes):Calls prog 57 #[.agg p.cells.toArray] w fun e j=>e=.returned (.bool (mN p.x))∧Bw' w j:=by
 obtain⟨l,g⟩:=nm' (w.alloc (.cells p.cells.toArray 39));have a:=Blk.new w 39 p.cells;have b:=ba' w (.cells p.cells.toArray 39);rw[g]at a b;have c:=kp b;have q:=aP (v:=.i p.id) (a.cell 0);have r:=aP (v:=.i p.nodes) (a.cell 1);have s:=aP (v:=.i p.k.view) (a.cell 2);have n:(mM p.nodes p.k.view==p.id)=mN p.x:=rfl;have f:=kp i;go_enter func57,ntmps57;go_wp2_with fail;refine bJ (by kernel_rfl) (by kernel_rfl) ?_
 repeat (go_big_quiet_step ((go_at_call 101; refine dG (Uq _ _ _ f.o))))
 refine bH ?_;rintro m ⟨⟨_,h⟩,rfl⟩;have d:=kp (c.o.on h);go_wp2_with fail;go_ret;exact⟨rfl,d.o⟩
theorem Dj(p:RpV)(w:World)(y:inR p.nodes):Calls prog 42 #[.agg p.cells.toArray] w fun e z=>e=.returned (.bool (gM p.x))∧Bw' w z:=by
 obtain⟨q,r⟩:=nm' (w.alloc (.cells p.cells.toArray 39));have d:=Blk.new w 39 p.cells;have h:=ba' w (.cells p.cells.toArray 39);rw[r]at d h;have A:=d.load (P:=prog) (k:=26) rfl;have c:=k'2 d h;obtain⟨a,g⟩:=nm' (gY p.x);obtain⟨b,j⟩:=nm' (mN p.x);have n:=kp (by have:=aCn p q; rw[g]at this; exact this);have m:=kp (fun W=>by have:=Ks p W y; rw[j]at this; exact this);unfold gM;rw[g,j];go_enter func42,ntmps42;go_wp2_with fail;refine mb' (n.o) fun C i=>?_;have l2:=(c.a.below i c.a.lt).load (P:=prog) (k:=26) rfl;have f:=kp (c.B.on i)
 cases a
 .go_wp2_with fail;go_ret;exact⟨rfl,f.o⟩
 go_wp2_with fail;refine mb' (m.o _) fun D s=>?_;have l:=kp (f.o.on s);go_wp2_with fail;go_ret;exact⟨rfl,l.o⟩
end
section
theorem par(w:World)(t:TypeId)(a:List Value):∃W,w.alloc (.cells a.toArray t)=W∧Blk W w.heap.size t a∧Bw' w W∧w.heap.size<W.heap.size:=
 ⟨_,rfl,Blk.new w t a,ba' w _,by simp⟩
theorem fB(w:World)(t:TypeId)(b a:List Value)(d:a.length=b.length)(c:∀u∈a,u.oneCell'=true):
  ∃W,(w.alloc (.cells b.toArray t)).setRow w.heap.size a.toArray=W∧Sem.run prog (storeCells ⟨w.heap.size,0,none⟩ a 0) (w.alloc (.cells b.toArray t))=.ok () W∧Blk W w.heap.size t a∧Bw' w W∧w.heap.size<W.heap.size:=by
 refine⟨_,rfl,(Blk.new w t b).store d c,(Blk.new w t b).set a,cL (ba' w _) (aD _) _,by simp⟩
theorem Blk.put{W:World}{g:Nat}{t:TypeId}{a:List Value}(h:Blk W g t a)(cs':List Value)(c:cs'.length=a.length)(b:∀u∈cs',u.oneCell'=true):
  ∃W',W.setRow g cs'.toArray=W'∧Sem.run prog (storeCells ⟨g,0,none⟩ cs' 0) W=.ok () W'∧Blk W' g t cs'∧Chg (fun i=>i=g) W W':=
 ⟨_,rfl,h.store c b,h.set cs',(Chg.refl (fun i=>i=g) W).setRow (.inr rfl) _⟩
theorem Blk.grow{W W':World}{g:Nat}{t:TypeId}{a:List Value}(h:Blk W g t a)(b:Bw' W W'):Blk W' g t a:=h.below b h.lt
end
section
theorem Kt{l r:List UInt8}{z:Int}(h:eY l=some (z,r)):inR z:=by
 unfold eY at h
 split at h
 .cases h;unfold aA
  split
  .exact⟨by decide,by decide⟩
  .unfold inR wrap64; omega
 .cases h
theorem yL{α:Type}{one:List UInt8→Option (α×List UInt8)}{Q:α→Prop}(b:∀l x r,one l=some (x,r)→Q x):∀(n:Nat)(l:List UInt8)(xs:List α)(r:List UInt8),aZ one n l=some (xs,r)→∀x∈xs,Q x
 |0,_,_,_,h=>by cases h; intro x d; cases d
 |n+1,l,xs,r,h=>by
  unfold aZ at h
  split at h
  .cases h
  .rename_i e1
   split at h
   .cases h
   .rename_i c
    cases h;intro y a;rcases bA.1 a with rfl|a
    .exact b _ _ _ e1
    .exact yL b n _ _ _ c y a
theorem Vl{l r:List UInt8}{x:Ob}(h:obP l=some (x,r)):∀z∈x.ws,inR z:=by
 unfold obP at h
 split at h
 .split at h
  .cases h
  split at h
  .cases h
  rename_i e1
  split at h
  .cases h
  .cases h;exact yL (fun _ _ _ h=>Kt h) _ _ _ _ e1
 .cases h
theorem Vm{l:List UInt8}{x:Hp}(h:eZ l=some x):cO x=true∧hpR x:=by
 unfold eZ at h
 split at h
 .rename_i e1
  split at h
  .rename_i a
   cases h;refine⟨a,?_⟩;unfold hpP at e1
   split at e1
   .split at e1
    .cases e1
    split at e1
    .cases e1
    .rename_i b
     cases e1;exact fun x c=>yL (Q:=fun x:Ob=>∀z∈x.ws,inR z) (fun _ _ _ h=>Vl h) _ _ _ _ b x c
   .cases e1
  .cases h
 .cases h
theorem Vn{l r:List UInt8}{x:Rw}(h:rwP l=some (x,r)):inR x.v:=by
 unfold rwP at h
 split at h
 .split at h
  .cases h
  .rename_i e1
   cases h;exact Kt e1
 .cases h
theorem tW{l:List UInt8}{s:St}(h:dM l=some s):stB s=true∧stR s:=by
 unfold dM at h
 split at h
 .split at h
  .cases h
  rename_i e1
  split at h
  .cases h
  split at h
  .cases h
  split at h
  .rename_i a
   split at h
   .rename_i b
    cases h;exact⟨b,(Vm e1).2,fun x c=>yL (Q:=fun x:Rw=>inR x.v) (fun _ _ _ h=>Vn h) _ _ _ _ a x c⟩
   .cases h
  .cases h
 .cases h
theorem Kv:∀{l:List En}{b v:Int},vwB b v l=true→∀e∈l,fY e=true
 |[],_,_,_,_,a=>by cases a
 |x::l,b,v,h,e,a=>by
  unfold vwB at h;simp only[bI]at h;rcases bA.1 a with rfl|a
  .exact h.1
  .exact Kv h.2.2 e a
structure KOk(k:Kd)(s:St):Prop where
 view:0≤k.view∧k.view≤900000000
 normal:0≤k.normal∧k.normal≤k.view
 base:0≤k.base∧k.base≤900000000
 len:(k.es.length:Int)≤4000
 fol:fA k.base k.es=true
 vw:vwB k.normal 0 k.es=true
 img:dM (jK k.image)=some s
theorem pZ{k:Kd}:dA k=true↔∃s,KOk k s:=by
 unfold dA rG aF;simp only[bI,bP,Option.isSome_iff_exists];constructor
 .rintro⟨a,b,c,⟨d,e,f⟩,s,g⟩; exact⟨s,a,b,c,d,e,f,g⟩
 .rintro⟨s,a,b,c,d,e,f,g⟩; exact⟨a,b,c,⟨d,e,f⟩,s,g⟩
theorem KOk.may{k:Kd}{s:St}(h:KOk k s):∀e∈k.es,fY e=true:=Kv h.vw
theorem Dk{k:Kd}{n:Int}(h:dA k=false):iB k n=none:=by unfold iB; rw[h]; rfl
theorem vO{k:Kd}{n:Int}(h:aF n k.base k.last=false):iB k n=none:=by unfold iB; rw[h]; split<;>rfl
theorem Dl{k:Kd}{n:Int}{s:St}(h:KOk k s)(a:aF n k.base k.last=true):iB k n=some (jD s (k.es.take (n-k.base).toNat)):=by
 unfold iB;rw[aE (pZ.2 ⟨s,h⟩),aE a,h.img];rfl
theorem Kw(s:St)(l:List En)(k:Nat)(a:k<l.length):jD s (l.take (k+1))=(jC (jD s (l.take k)) l[k]).1:=by
 rw[cV a,Sb]
theorem Vp{s:St}(b:stB s=true){e:En}(a:fY e=true):stB (jC s e).1=true:=by
 obtain⟨f,g⟩:=kA.1 b;unfold jC
 split
 .exact b
 rename_i d
 split
 .exact b
 split
 .exact b
 unfold fY aF at a;rw[aC d]at a;simp only[bI,bP]at a;have c:=Ht s.h e.op;unfold aF at c;simp only[bI,bP]at c;exact kA.2 ⟨Hk f e.op,Cm a.2.2.1.2 a.2.2.2 c s.rows 0 (by simp only; omega) g⟩
theorem Dm:∀{l:List En}{s:St},stB s=true→(∀e∈l,fY e=true)→stB (jD s l)=true
 |[],_,a,_=>a
 |e::l,_,a,h=>Dm (l:=l) (Vp a (h e (by simp))) fun x b=>h x (by simp[b])
theorem Dn{k:Kd}{n:Int}{s:St}(c:∀e∈k.es,inR e.u)(h:iB k n=some s):stB s=true∧stR s:=by
 cases hk:dA k
 .rw[Dk hk]at h; cases h
 obtain⟨d,H⟩:=pZ.1 hk
 cases h2:aF n k.base k.last
 .rw[vO h2]at h; cases h
 rw[Dl H h2]at h
 cases h;have a:=tW H.img;exact Hy _ a.1 a.2 fun e b=>⟨H.may e (qN b),c e (qN b)⟩
end
section
theorem Vv(nodes a:Int)(l:List Int)(k:Nat)(b:k<l.length):lY nodes a (l.drop k)=((decide (a<l[k])&&decide (l[k]≤nodes))&&lY nodes l[k] (l.drop (k+1))):=by
 rw[fG b]; rfl
theorem Vw(nodes a:Int)(l:List Vo)(k:Nat)(b:k<l.length):lZ nodes a (l.drop k)=(iC l[k]&&((decide (a<(l[k]).node)&&decide ((l[k]).node≤nodes))&&lZ nodes (l[k]).node (l.drop (k+1)))):=by
 rw[fG b]; rfl
theorem Vx(nodes id last a:Int)(l:List Ak)(k:Nat)(b:k<l.length):mA nodes id last a (l.drop k)=(((decide (a<(l[k]).n)&&decide ((l[k]).n≤nodes))&&(!decide ((l[k]).n=id)&&aF (l[k]).k 0 last))&&mA nodes id last (l[k]).n (l.drop (k+1))):=by
 rw[fG b]; rfl
theorem Vy{s t:St}(b:stB s=true)(d:stR s)(f:stR t):decide ((if stB s=true then gI s else [])=if stB t=true then gI t else [])=decide (s=t):=by
 rw[aE b]
 by_cases a:stB t=true
 .rw[aE a]
  by_cases e:s=t
  .subst e; simp
  .rw[aX e,aX fun h=>e (Rk b d a f h)]
 .rw[aC a];have c:gI s≠[]:=fun h=>by
   have:=bG List.length h;unfold gI at this;simp only[bB,gX,mH]at this;omega
  rw[aX c,aX];rintro rfl;exact a b
end
end Go.Proofs.YthalbagblhkeaaaGreat
