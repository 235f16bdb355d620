import Derived.Test.YtoncgpddjmgbfaaGreatZ02
import Derived.Test.YtoncgpddjmgbfaaGreatZ03
import Derived.Test.YtoncgpddjmgbfaaGreatZ04
import Derived.Test.YtoncgpddjmgbfaaGreatZ07
import Derived.Test.YtoncgpddjmgbfaaGreatZ12
import Derived.Test.YtoncgpddjmgbfaaGreatZ13
import Derived.Laws.StructEq
namespace Go.Proofs.YtoncgpddjmgbfaaGreat
open Go.RowKit Go.Proofs.Tryz
set_option maxRecDepth 100000
set_option maxHeartbeats 12800000
set_option linter.unusedVariables false
set_option linter.unusedSimpArgs false
section
def Opn.cells(o:Opn):List Value:=[.i o.k,.i o.h,.i o.i,.i o.n,.i o.m,.i o.v,.i o.t]
structure lD(w:World)(g:Nat)(o:Opn):Prop where
 blk:Blk w g 25 o.cells
 c0:w.cell? ⟨g,0,none⟩=some (.i o.k)
 c1:w.cell? ⟨g,1,none⟩=some (.i o.h)
 c2:w.cell? ⟨g,2,none⟩=some (.i o.i)
 c3:w.cell? ⟨g,3,none⟩=some (.i o.n)
 c4:w.cell? ⟨g,4,none⟩=some (.i o.m)
 c5:w.cell? ⟨g,5,none⟩=some (.i o.v)
 c6:w.cell? ⟨g,6,none⟩=some (.i o.t)
theorem lD.of{w:World}{g:Nat}{o:Opn}(h:Blk w g 25 o.cells):lD w g o:=⟨h,h.cell 0,h.cell 1,h.cell 2,h.cell 3,h.cell 4,h.cell 5,h.cell 6⟩
theorem lD.below{w a:World}{g:Nat}{o:Opn}(h:lD w g o)(b:Bw' w a):lD a g o:=.of (h.blk.below b h.blk.lt)
def atI(h:Hp)(o:Opn):Hp×Int×Int:=
 match wX h.obs o.h with
 |none=>(h,51,0)
 |some p=>match h.obs[p]? with
  |none=>(h,51,0)
  |some g=>lY h o p g
structure CL(W:World)(e b:Nat)(t:TypeId)(cs cs':List Value)(X:Nat→Option Value)(W':World):Prop where
 chg:Chg (fun i=>i=b) W W'
 pre:X e=none→W'=W.drew
 post:(X e).isSome=true→Blk W' b t cs'
theorem CL.other{W W':World}{e b j:Nat}{t:TypeId}{a cs':List Value}{X:Nat→Option Value}{v:Value}(h:CL W e b t a cs' X W')(c:j≠e):CL W e b t a cs' (aY X j v) W':=by
 refine⟨h.chg,?_,?_⟩
 .rw[aI (bM c)]; exact h.pre
 .rw[aI (bM c)]; exact h.post
theorem CL.at_{W W' a:World}{e b:Nat}{t:TypeId}{c cs':List Value}{X:Nat→Option Value}{v:Value}(h:CL W e b t c cs' X W')(f:Chg (fun i=>i=b) W' a)(d:Blk a b t cs'):CL W e b t c cs' (aY X e v) a:=
 ⟨h.chg.trans f fun _ _ h=>h,fun h=>by simp[aY]at h,fun _=>d⟩
structure Hb(w:World)(base g:Nat)(p:HpV)(ps:List ObV)(o:Opn)(W:World):Prop where
 wk:Wk W base g 320 p ps
 res:cG W (w.heap.size+1) 0 0
 op:lD W w.heap.size o
 bw:Bw base w W
 h0:base≤w.heap.size
section
variable {w W W':World}{base g:Nat}{p:HpV}{ps:List ObV}{y:Opn}
theorem Hb.below(h:Hb w base g p ps y W)(a:Bw' W W'):Hb w base g p ps y W':=⟨h.wk.below a,h.res.below a,h.op.below a,h.bw.below h.h0 a,h.h0⟩
theorem Hb.hx(h:Hb w base g p ps y W):Hx W base g (w.heap.size+1) p p.x.free ps:=h.wk.wx.hx h.res (aB h.h0 (Nat.le_succ _))
theorem Hb.o(h:Hb w base g p ps y W)(c d:Int):Wo base g p.x w ((W.setCell ⟨w.heap.size+1,0,none⟩ (.i c)).setCell ⟨w.heap.size+1,1,none⟩ (.i d)):=h.hx.o h.bw h.h0 (Nat.le_succ _) h.wk.eq rfl c d
theorem Hb.fin{x:Hp}(h:Hb w base g p ps y W)(a:Wo base g x W W')(c d:Int):cG W' (w.heap.size+1) 0 0∧Wo base g x w ((W'.setCell ⟨w.heap.size+1,0,none⟩ (.i c)).setCell ⟨w.heap.size+1,1,none⟩ (.i d)):=a.fin h.bw h.h0 h.res (Nat.le_succ _) c d
theorem Hb.of(o:Opn)(h:Wk w base g 320 p ps)(a:base≤w.heap.size):Hb w base g p ps o ((w.alloc (.cells #[.i o.k,.i o.h,.i o.i,.i o.n,.i o.m,.i o.v,.i o.t] 25)).alloc (.cells #[.i 0,.i 0] 73)):=by
 have c:=ba' w (.cells #[.i o.k,.i o.h,.i o.i,.i o.n,.i o.m,.i o.v,.i o.t] 25);have b:=(aH _ (w.alloc (.cells #[.i o.k,.i o.h,.i o.i,.i o.n,.i o.m,.i o.v,.i o.t] 25))).alloc (aN _) (.cells #[.i 0,.i 0] 73);have d:=cG.new (w.alloc (.cells #[.i o.k,.i o.h,.i o.i,.i o.n,.i o.m,.i o.v,.i o.t] 25));rw[show (w.alloc (.cells #[.i o.k,.i o.h,.i o.i,.i o.n,.i o.m,.i o.v,.i o.t] 25)).heap.size=w.heap.size+1 by simp]at d;exact⟨(h.below c).below b,d,(lD.of (Blk.new w 25 o.cells)).below b,(Bw.of a c).below a b,a⟩
end
theorem Sm{α:Type}{l:List α}{n:Nat}{y:α}(h:l[n]? =some y):l.set n y=l:=by
 apply rL;intro i;rw[rM]
 split
 .rename_i e; subst e; rw[h]; simp[(iZ.1 h).1]
 .rfl
theorem Ht{ps:List ObV}{n:Nat}{q:ObV}:(ps.set n q).map (·.x)=(ps.map (·.x)).set n q.x:=rU
theorem Hu{ps:List ObV}{n:Nat}{q:ObV}(h:n<ps.length)(a:q.cells=ps[n].cells):aO ObV.cells (ps.set n q)=aO ObV.cells ps:=by
 unfold aO;rw[rU,a]
 congr 1
 apply rL;intro i;rw[rM]
 split
 .rename_i e; subst e; simp[h]
 .rfl
theorem Hb.row{w W W':World}{base g b:Nat}{p:HpV}{ps:List ObV}{o:Opn}{n:Nat}{y:ObV}{v:Value}{ws ls:List Int}(h:Hb w base g p ps o W)(r:∃a:n<ps.length,ps[n]=y)(f:v=y.wv∨v=y.lv)(q:v.ownBlock=some b)
  (m:Chg (fun i=>i=b) W W') (k:Ow W' base 3 1 y.wv i1 ws) (l:Ow W' base 3 1 y.lv i1 ls):
  Wo base g {p.x with obs:=p.x.obs.set n {y.x with ws:=ws,ls:=ls}} W W':=by
 obtain⟨a,rfl⟩:=r;have d:Chg (fun i=>some i=v.ownBlock) W W':=m.mono fun i _ e=>by rw[q,e]
 have z:∃t,Ow W base 3 1 v i1 t:=by
  rcases f with rfl|rfl
  .exact⟨_,(h.wk.rws.row _ (cU a)).1⟩
  .exact⟨_,(h.wk.rws.row _ (cU a)).2⟩
 obtain⟨t,j⟩:=z;have s:=h.wk.rws.upd a f d k l;have c:=h.hx.row j d s (Hu a rfl) (nM ..);refine⟨⟨{p.x with obs:=p.x.obs.set n {ps[n].x with ws:=ws,ls:=ls}},p.ov,p.fv⟩,_,rfl,⟨c.blk,c.lo,c.obs,c.rws,c.free,?_⟩,(Bw.of (aB h.h0 h.bw.bel.size) (aH _ _)).row (aB h.h0 h.bw.bel.size) (OR.of_ow (S:=fun i=>base≤i) j fun i h _=>h) (fun _ h=>h) (by decide) d⟩;rw[Ht,←h.wk.eq]
theorem Sn{base g:Nat}{p:HpV}{ps:List ObV}(o:Opn)(w:World)(h:Wk w base g 320 p ps)(hb:base≤w.heap.size)(H:HOk p.x):
  Calls prog 260 #[.pointer (some ⟨g,0,none⟩),.agg o.cells.toArray] w fun e w'=>e=.returned (.agg #[.i (atI p.x o).2.1,.i (atI p.x o).2.2])∧Wo base g (atI p.x o).1 w w':=by
 show Calls _ _ #[_,.agg #[.i o.k,.i o.h,.i o.i,.i o.n,.i o.m,.i o.v,.i o.t]] _ _;have hs:iA (fun p:ObV=>p.x.h) ps:=Hr (by rw[←h.eq]; exact H.rise.2);have d2:=Ho o.h ps hs;have a3:=Hq o.h ps hs;rw[←h.eq]at d2;have z3:ps.length≤256:=by have:=H.len.1; have:=bA List.length h.eq; rw[dD]at this; omega
 have d3:=Hb.of o h hb;obtain⟨W2,q3⟩:=nm' ((w.alloc (.cells #[.i o.k,.i o.h,.i o.i,.i o.n,.i o.m,.i o.v,.i o.t] 25)).alloc (.cells #[.i 0,.i 0] 73));rw[q3]at d3;have HW:=kp d3;have HE:=kp h.eq;have HH:=kp H;have m3:=kp z3;have HS:=kp hs;have l2:=kp (fun q:Blw W2=>Ge p.ov ps o.h W2.heap.size q.w (Sl.blw q (HW.o.hx.obs.sl) (aN _)) q.h.size (by omega) hs);obtain⟨n,hn⟩:=nm' (eD (fun p:ObV=>p.x.h) o.h ps);obtain⟨a,ha⟩:=nm' (ps.any fun p=>decide (p.x.h=o.h));obtain⟨R,hR⟩:=nm' (atI p.x o);rw[hn,ha]at d2 l2;rw[ha,hn]at a3;rw[hR];have HR:=kp hR;have p2:=kp d2;have l3:=kp a3;have q1:=bG HW.o.hx.hp.c1;have o1:=bG HW.o.op.c1;go_enter func260,ntmps260;go_wp2_with fail;refine cX (by kernel_rfl) (by kernel_rfl) ?_
 repeat (go_big_quiet_step ((go_at_call 252; with_reducible refine gV (l2.o _))))
 refine cI ?_;rintro W3 ⟨⟨_,y3⟩,rfl⟩;have f:=kp (HW.o.below y3)
 cases a
 .obtain rfl:R=(p.x,51,0):=by rw[←HR.o]; unfold atI; rw[p2.o]; rfl
  go_wp2_with fail;refine mb' (mC 51 _) fun w4 a0=>?_;have O:=kp (f.o.below a0);have d:=kp O.o.res;have E:=Blk.cell d.o 0;have F:=Blk.cell d.o 1;have y0:=Blk.frozen d.o 0;have y1:=Blk.frozen d.o 1;simp only[aP,aZ]at E F;have l:=kp ((Blk.setCell d.o 0 (.i (51))).setCell 1 (.i (0)));go_wp2_with fail;have s:=l.o.cell 0;have z:=l.o.cell 1;simp only[aC,aD,aP,aZ]at s z;exact bI (v:=.agg #[.i (51),.i (0)]) (by simp[results,nS,go_sem,s,z]) rfl ⟨rfl,O.o.o 51 0⟩
 obtain⟨Q,y4⟩:=l3.o rfl;obtain⟨y,hy⟩:=nm' (ps[n]);have HY:=kp (show ∃Q:n<ps.length,ps[n]=y from⟨Q,hy⟩);have b2:p.x.obs[n]? =some y.x:=by rw[HE.o]; simp[Q,hy]
 have HO:=kp b2;have l0:=kp (show R=lY p.x o n y.x by rw[←HR.o]; unfold atI; rw[p2.o]; simp only[if_true]; rw[b2]);have m2:=kp (HH.o.lens (nJ b2));have o0:=f.o.op.c0
 by_cases k2:o.k=2
 .have g2:(o.k==2)=true:=by simp[k2]
  obtain rfl:R=(oV p.x n y.x,0,0):=by rw[l0.o]; unfold lY; rw[aK k2]
  have S:=kp (Sk n W3 f.o.wk (aB f.o.h0 f.o.bw.bel.size) HH.o Q);rw[hy]at S;go_wp2_with fail;refine mb' (S.o) fun w4 j4=>?_;obtain⟨d4,l4⟩:=f.o.fin j4 0 0;have d:=kp d4;have p3:=kp l4;have E:=Blk.cell d.o 0;have F:=Blk.cell d.o 1;have y0:=Blk.frozen d.o 0;have y1:=Blk.frozen d.o 1;simp only[aP,aZ]at E F;have l:=kp ((Blk.setCell d.o 0 (.i (0))).setCell 1 (.i (0)));go_wp2_with fail;have s:=l.o.cell 0;have z:=l.o.cell 1;simp only[aC,aD,aP,aZ]at s z;exact bI (v:=.agg #[.i (0),.i (0)]) (by simp[results,nS,go_sem,s,z]) rfl ⟨rfl,p3.o⟩
 have g2:(o.k==2)=false:=by simp[k2]
 obtain⟨A,c,a4,e4,-,-⟩:=f.o.wk.wx.obs.sl;obtain⟨b,z4,rfl,-,m1,-⟩:=dS (P:=prog) 5 eV (by omega) e4 n Q;rw[hy]at m1;have j2:=f.o.wk.rws.row y (hy▸cU Q);have x3:=m1 3 _ rfl;have x4:=m1 4 _ rfl;have q1:=f.o.wk.blk.cell 1;simp only[HpV.cells,aZ,aP]at q1;rw[a4]at q1;obtain⟨N,hN⟩:=nm' ps.length;rw[hN]at q1;have g1:(n:Int)<N:=by omega
 have b0:=kp j2;obtain⟨Aw,cw,e3,-,o4,q4⟩:=j2.1.sl eG;obtain⟨Al,cl,b3,-,m4,p4⟩:=j2.2.sl eG;have q0:=k'2 e3 b3;rw[e3]at x3;rw[b3]at x4;have o2:=f.o.op.c2;have o5:=f.o.op.c5;have o6:=f.o.op.c6;have q2:=m2.a;have y2:=m2.B
 by_cases k4:o.k=4
 .have g4:(o.k==4)=true:=by rw[k4]; rfl
  have g3:(o.k==3)=false:=by rw[k4]; rfl
  obtain⟨m,V⟩:=nm' y.x.ls.length;have g8: -9223372036854775808≤(m:Int)-1:=by omega
  have g9:(m:Int)-1≤9223372036854775807:=by omega
  have HM:=kp V;have D:=kp (show R=if 0≤o.i∧o.i<m then (if eI p.x.obs o.t=true then ({p.x with obs:=p.x.obs.set n {y.x with ls:=y.x.ls.set o.i.toNat o.t}},0,0) else (p.x,51,0)) else (p.x,52,0) by
   rw[l0.o,←HM.o]; unfold lY; rw[aF k2,aK (.inl k4)]
   by_cases h:0≤o.i∧o.i<y.x.ls.length
   .rw[aK h,aK h]; rw[aK k4]
   .rw[aF h,aF h])
  rw[V]at y2 x4
  by_cases L:0≤o.i∧o.i<m
  rotate_left
  .obtain rfl:R=(p.x,52,0):=by rw[D.o,aF L]
   have G:=kp (fun W=>by
    have:=cK.2.2.2.2 o.i 0 ((m:Int)-1) W;rw[show aG o.i 0 ((m:Int)-1)=false by unfold aG; simp; omega]at this;exact this)
   go_wp2_with fail;refine mb' (G.o _) fun w' M=>?_;obtain rfl:=M.symm;go_wp2_with fail;refine mb' (mC 52 _) fun w4 a0=>?_;have O:=kp (f.o.below a0);have d:=kp O.o.res;have E:=Blk.cell d.o 0;have F:=Blk.cell d.o 1;have y0:=Blk.frozen d.o 0;have y1:=Blk.frozen d.o 1;simp only[aP,aZ]at E F;have l:=kp ((Blk.setCell d.o 0 (.i (52))).setCell 1 (.i (0)));go_wp2_with fail;have s:=l.o.cell 0;have z:=l.o.cell 1;simp only[aC,aD,aP,aZ]at s z;exact bI (v:=.agg #[.i (52),.i (0)]) (by simp[results,nS,go_sem,s,z]) rfl ⟨rfl,O.o.o 52 0⟩
  rw[aK L]at D;have G:=kp (fun W=>by
   have:=cK.2.2.2.2 o.i 0 ((m:Int)-1) W;rw[show aG o.i 0 ((m:Int)-1)=true by unfold aG; simp; omega]at this;exact this)
  obtain⟨i,U⟩:∃i:Nat,o.i=i:=⟨o.i.toNat,by omega⟩
  rw[U]at L o2 D G;rw[gS]at D;have a2:i<m:=by omega
  have g0:(i:Int)<m:=by omega
  obtain⟨b',c',post,Z,j1,b1,K,e0⟩:=b0.B.blk (by omega);have J:=k'3 Z K e0;have d0:(iv y.x.ls++post)[i]? =some (.i (y.x.ls.getD i 0)):=by
   rw[pP (by rw[kD]; omega),tZ _ _ (by omega),nF,jN (by omega)]; rfl
  have z2:=K.cell i;have f2:=K.frozen i;rw[d0]at z2;obtain⟨zv,j0⟩:=nm' (y.x.ls.getD i 0);rw[j0]at z2;obtain⟨rfl,-,rfl⟩:=Value.slice.inj (Z.symm.trans q0.B);have HI:=kp U;have HD:=kp (f.o.below (bL (aH _ _)));have j3:=kp (show Blk W3.drew b' 3 (iv y.x.ls++post) from J.b);have a1:=kp (Hm o.t W3.drew (eP.of HD.o.wk.blk) HD.o.wk.wx.obs.sl (by have:=m3.o; omega) HS.o j3.o (j:=i) (by rw[bF,kD,HM.o]; omega));obtain⟨r,hr⟩:=nm' (eI (ps.map (·.x)) o.t);rw[hr]at a1;rw[HE.o,hr]at D;have o3:=kp (show ({p.x with obs:=p.x.obs.set n {y.x with ls:=y.x.ls}}:Hp)=p.x by rw[Sm HO.o]);rw[←HE.o]at D;go_wp2_with fail;refine mb' (G.o _) fun w' M=>?_;obtain rfl:=M.symm
  cases r
  .go_wp2_with fail;refine eY 8 (CL W3 7 b' 3 (iv y.x.ls++post) (iv y.x.ls++post)) (fun _=>eQ) (by kernel_rfl) (by kernel_rfl) ⟨(Chg.refl _ _).drew,fun _=>rfl,fun h=>by cases h⟩ ?_
   iterate 8 (refine bE ?_; apply Exists.intro)
   refine cC ⟨?pers51,?walk51⟩
   case walk51=>
    iterate 7
     apply bQ (by kernel_rfl) (by intro t w h; cases h; exact trivial) rfl
     .intro X W' I hX hw hV hF; have ho:=lD.of (f.o.op.blk.chg I.chg (f.o.op.blk.ne J.b (by decide))); have o2:=ho.c2; have o6:=ho.c6; rw[HI.o]at o2; clear ho; go_wp2_with fail;exact⟨rfl,_,rfl,I.other (by decide),aV,rfl⟩
     simp only[Act.put,aE,aC,aD,aS,aT]
    apply bQ (by kernel_rfl) (by intro t w h; cases h; exact trivial) rfl
    .intro X W' I hX hw hV hF;obtain rfl:=I.pre hX;go_wp2_with fail;refine (a1.o).mono ?_;rintro e w5 ⟨rfl,l1,d1⟩;go_wp2_with fail;exact⟨rfl,_,rfl,I.at_ l1 d1,aV,rfl⟩
    simp only[Act.put,aE,aC,aD,aS,aT];intro W5 I hF;simp only[bS,bU];have m0:=kp (f.o.row HY.o (.inr rfl) (by rw[J.a]; rfl) I.chg (ws:=y.x.ws) (ls:=y.x.ls) (b0.a.chg I.chg fun j hj e=>by
     obtain⟨Q,rfl⟩:=HY.o;exact f.o.wk.rws.self Q j hj (by rw[J.a,e]; rfl)) (J.C _ _ (by simp) (by
     have:=I.post rfl;exact this)))
    have S:=kp (f.o.fin m0.o 51 0);have d:=kp S.a;have Y:=D.o;simp only[if_false,tL]at Y;subst Y;have E:=Blk.cell d.o 0;have F:=Blk.cell d.o 1;have y0:=Blk.frozen d.o 0;have y1:=Blk.frozen d.o 1;simp only[aP,aZ]at E F;have l:=kp ((Blk.setCell d.o 0 (.i (51))).setCell 1 (.i (0)));go_wp2_with fail;have s:=l.o.cell 0;have z:=l.o.cell 1;simp only[aC,aD,aP,aZ]at s z;exact bI (v:=.agg #[.i (51),.i (0)]) (by simp[results,nS,go_sem,s,z]) rfl ⟨rfl,by have:=S.B; rw[o3.o]at this; exact this⟩
   case pers51=>exact⟨pv',pv',pv',pv',pv',pv',pv',pv',trivial⟩
  .go_wp2_with fail;refine eY 8 (CL W3 7 b' 3 (iv y.x.ls++post) ((iv y.x.ls++post).set i (.i o.t))) (fun _=>eQ) (by kernel_rfl) (by kernel_rfl) ⟨(Chg.refl _ _).drew,fun _=>rfl,fun h=>by cases h⟩ ?_
   iterate 8 (refine bE ?_; apply Exists.intro)
   refine cC ⟨?pers0,?walk0⟩
   case walk0=>
    iterate 7
     apply bQ (by kernel_rfl) (by intro t w h; cases h; exact trivial) rfl
     .intro X W' I hX hw hV hF; have ho:=lD.of (f.o.op.blk.chg I.chg (f.o.op.blk.ne J.b (by decide))); have o2:=ho.c2; have o6:=ho.c6; rw[HI.o]at o2; clear ho; go_wp2_with fail;exact⟨rfl,_,rfl,I.other (by decide),aV,rfl⟩
     simp only[Act.put,aE,aC,aD,aS,aT]
    apply bQ (by kernel_rfl) (by intro t w h; cases h; exact trivial) rfl
    .intro X W' I hX hw hV hF;obtain rfl:=I.pre hX;go_wp2_with fail;refine (a1.o).mono ?_;rintro e w5 ⟨rfl,l1,d1⟩;go_wp2_with fail;exact⟨rfl,_,rfl,I.at_ l1 d1,aV,rfl⟩
    simp only[Act.put,aE,aC,aD,aS,aT];intro W5 I hF;simp only[bS,bU];have m0:=kp (f.o.row HY.o (.inr rfl) (by rw[J.a]; rfl) I.chg (ws:=y.x.ws) (ls:=y.x.ls.set i o.t) (b0.a.chg I.chg fun j hj e=>by
     obtain⟨Q,rfl⟩:=HY.o;exact f.o.wk.rws.self Q j hj (by rw[J.a,e]; rfl)) (J.C _ _ (by simp) (by
     have:=I.post rfl;rw[Mf _ _ (by rw[kD,HM.o]; omega)]at this;unfold iv at *
     rwa [rU])))
    have S:=kp (f.o.fin m0.o 0 0);have d:=kp S.a;have Y:=D.o;simp only[if_true]at Y;subst Y;have E:=Blk.cell d.o 0;have F:=Blk.cell d.o 1;have y0:=Blk.frozen d.o 0;have y1:=Blk.frozen d.o 1;simp only[aP,aZ]at E F;have l:=kp ((Blk.setCell d.o 0 (.i (0))).setCell 1 (.i (0)));go_wp2_with fail;have s:=l.o.cell 0;have z:=l.o.cell 1;simp only[aC,aD,aP,aZ]at s z;exact bI (v:=.agg #[.i (0),.i (0)]) (by simp[results,nS,go_sem,s,z]) rfl ⟨rfl,S.B⟩
   case pers0=>exact⟨pv',pv',pv',pv',pv',pv',pv',pv',trivial⟩
 by_cases k7:o.k=7
 .have g4:(o.k==4)=false:=by rw[k7]; rfl
  have g7:(o.k==7)=true:=by rw[k7]; rfl
  have g3:(o.k==3)=false:=by rw[k7]; rfl
  obtain⟨m,V⟩:=nm' y.x.ls.length;have g8: -9223372036854775808≤(m:Int)-1:=by omega
  have g9:(m:Int)-1≤9223372036854775807:=by omega
  have HM:=kp V;have D:=kp (show R=if 0≤o.i∧o.i<m then (p.x,0,y.x.ls.getD o.i.toNat 0) else (p.x,52,0) by
   rw[l0.o,←HM.o]; unfold lY; rw[aF k2,aK (.inr k7)]
   by_cases h:0≤o.i∧o.i<y.x.ls.length
   .rw[aK h,aK h]; rw[aF k4]
   .rw[aF h,aF h])
  rw[V]at y2 x4
  by_cases L:0≤o.i∧o.i<m
  rotate_left
  .obtain rfl:R=(p.x,52,0):=by rw[D.o,aF L]
   have G:=kp (fun W=>by
    have:=cK.2.2.2.2 o.i 0 ((m:Int)-1) W;rw[show aG o.i 0 ((m:Int)-1)=false by unfold aG; simp; omega]at this;exact this)
   go_wp2_with fail;refine mb' (G.o _) fun w' M=>?_;obtain rfl:=M.symm;go_wp2_with fail;refine mb' (mC 52 _) fun w4 a0=>?_;have O:=kp (f.o.below a0);have d:=kp O.o.res;have E:=Blk.cell d.o 0;have F:=Blk.cell d.o 1;have y0:=Blk.frozen d.o 0;have y1:=Blk.frozen d.o 1;simp only[aP,aZ]at E F;have l:=kp ((Blk.setCell d.o 0 (.i (52))).setCell 1 (.i (0)));go_wp2_with fail;have s:=l.o.cell 0;have z:=l.o.cell 1;simp only[aC,aD,aP,aZ]at s z;exact bI (v:=.agg #[.i (52),.i (0)]) (by simp[results,nS,go_sem,s,z]) rfl ⟨rfl,O.o.o 52 0⟩
  rw[aK L]at D;have G:=kp (fun W=>by
   have:=cK.2.2.2.2 o.i 0 ((m:Int)-1) W;rw[show aG o.i 0 ((m:Int)-1)=true by unfold aG; simp; omega]at this;exact this)
  obtain⟨i,U⟩:∃i:Nat,o.i=i:=⟨o.i.toNat,by omega⟩
  rw[U]at L o2 D G;rw[gS]at D;have a2:i<m:=by omega
  have g0:(i:Int)<m:=by omega
  obtain⟨b',c',post,Z,j1,b1,K,e0⟩:=b0.B.blk (by omega);have J:=k'3 Z K e0;have d0:(iv y.x.ls++post)[i]? =some (.i (y.x.ls.getD i 0)):=by
   rw[pP (by rw[kD]; omega),tZ _ _ (by omega),nF,jN (by omega)]; rfl
  have z2:=K.cell i;have f2:=K.frozen i;rw[d0]at z2;obtain⟨zv,j0⟩:=nm' (y.x.ls.getD i 0);rw[j0]at z2 D;obtain⟨rfl,-,rfl⟩:=Value.slice.inj (Z.symm.trans q0.B);have HI:=kp U;have T:=kp f.o.res;go_wp2_with fail;refine mb' (G.o _) fun w' M=>?_;obtain rfl:=M.symm;have Y:=D.o;subst Y;have E:=Blk.cell T.o 0;have F:=Blk.cell T.o 1;have y0:=Blk.frozen T.o 0;have y1:=Blk.frozen T.o 1;simp only[aP,aZ]at E F;have l:=kp ((Blk.setCell T.o 0 (.i (0))).setCell 1 (.i (zv)));go_wp2_with fail;have s:=l.o.cell 0;have z:=l.o.cell 1;simp only[aC,aD,aP,aZ]at s z;exact bI (v:=.agg #[.i (0),.i (zv)]) (by simp[results,nS,go_sem,s,z]) rfl ⟨rfl,f.o.o 0 _⟩
 by_cases k3:o.k=3
 .have g4:(o.k==4)=false:=by rw[k3]; rfl
  have g7:(o.k==7)=false:=by rw[k3]; rfl
  have g3:(o.k==3)=true:=by rw[k3]; rfl
  obtain⟨m,V⟩:=nm' y.x.ws.length;have g8: -9223372036854775808≤(m:Int)-1:=by omega
  have g9:(m:Int)-1≤9223372036854775807:=by omega
  have HM:=kp V;have D:=kp (show R=if 0≤o.i∧o.i<m then ({p.x with obs:=p.x.obs.set n {y.x with ws:=y.x.ws.set o.i.toNat o.v}},0,0) else (p.x,52,0) by
   rw[l0.o,←HM.o]; unfold lY; rw[aF k2,aF (by omega)]
   by_cases h:0≤o.i∧o.i<y.x.ws.length
   .rw[aK h,aK h]; rw[aK k3]
   .rw[aF h,aF h])
  rw[V]at q2 x3
  by_cases L:0≤o.i∧o.i<m
  rotate_left
  .obtain rfl:R=(p.x,52,0):=by rw[D.o,aF L]
   have G:=kp (fun W=>by
    have:=cK.2.2.2.2 o.i 0 ((m:Int)-1) W;rw[show aG o.i 0 ((m:Int)-1)=false by unfold aG; simp; omega]at this;exact this)
   go_wp2_with fail;refine mb' (G.o _) fun w' M=>?_;obtain rfl:=M.symm;go_wp2_with fail;refine mb' (mC 52 _) fun w4 a0=>?_;have O:=kp (f.o.below a0);have d:=kp O.o.res;have E:=Blk.cell d.o 0;have F:=Blk.cell d.o 1;have y0:=Blk.frozen d.o 0;have y1:=Blk.frozen d.o 1;simp only[aP,aZ]at E F;have l:=kp ((Blk.setCell d.o 0 (.i (52))).setCell 1 (.i (0)));go_wp2_with fail;have s:=l.o.cell 0;have z:=l.o.cell 1;simp only[aC,aD,aP,aZ]at s z;exact bI (v:=.agg #[.i (52),.i (0)]) (by simp[results,nS,go_sem,s,z]) rfl ⟨rfl,O.o.o 52 0⟩
  rw[aK L]at D;have G:=kp (fun W=>by
   have:=cK.2.2.2.2 o.i 0 ((m:Int)-1) W;rw[show aG o.i 0 ((m:Int)-1)=true by unfold aG; simp; omega]at this;exact this)
  obtain⟨i,U⟩:∃i:Nat,o.i=i:=⟨o.i.toNat,by omega⟩
  rw[U]at L o2 D G;rw[gS]at D;have a2:i<m:=by omega
  have g0:(i:Int)<m:=by omega
  obtain⟨b',c',post,Z,j1,b1,K,e0⟩:=b0.a.blk (by omega);have J:=k'3 Z K e0;have d0:(iv y.x.ws++post)[i]? =some (.i (y.x.ws.getD i 0)):=by
   rw[pP (by rw[kD]; omega),tZ _ _ (by omega),nF,jN (by omega)]; rfl
  have z2:=K.cell i;have f2:=K.frozen i;rw[d0]at z2;obtain⟨zv,j0⟩:=nm' (y.x.ws.getD i 0);rw[j0]at z2;obtain⟨rfl,-,rfl⟩:=Value.slice.inj (Z.symm.trans q0.a);have HI:=kp U;have m0:=kp (f.o.row HY.o (.inl rfl) (by rw[J.a]; rfl) ((Chg.refl (fun i=>i=b') W3).setCell (.inr rfl) i (.i o.v)) (ws:=y.x.ws.set i o.v) (ls:=y.x.ls) (J.C _ _ (nM ..) (by
   have:=J.b.setCell i (.i o.v);rw[Mf _ _ (by rw[kD,HM.o]; omega)]at this;unfold iv at *
   rwa [rU])) (b0.B.chg ((Chg.refl (fun i=>i=b') W3).setCell (.inr rfl) i (.i o.v)) fun j hj e=>by
    obtain⟨Q,rfl⟩:=HY.o;exact f.o.wk.rws.self Q j (by rw[J.a,e]; rfl) hj))
  have S:=kp (f.o.fin m0.o 0 0);have d:=kp S.a;go_wp2_with fail;refine mb' (G.o _) fun w' M=>?_;obtain rfl:=M.symm;have Y:=D.o;subst Y;have E:=Blk.cell d.o 0;have F:=Blk.cell d.o 1;have y0:=Blk.frozen d.o 0;have y1:=Blk.frozen d.o 1;simp only[aP,aZ]at E F;have l:=kp ((Blk.setCell d.o 0 (.i (0))).setCell 1 (.i (0)));go_wp2_with fail;have s:=l.o.cell 0;have z:=l.o.cell 1;simp only[aC,aD,aP,aZ]at s z;exact bI (v:=.agg #[.i (0),.i (0)]) (by simp[results,nS,go_sem,s,z]) rfl ⟨rfl,S.B⟩
 .have g4:(o.k==4)=false:=by simp[k4]
  have g7:(o.k==7)=false:=by simp[k7]
  have g3:(o.k==3)=false:=by simp[k3]
  obtain⟨m,V⟩:=nm' y.x.ws.length;have g8: -9223372036854775808≤(m:Int)-1:=by omega
  have g9:(m:Int)-1≤9223372036854775807:=by omega
  have HM:=kp V;have D:=kp (show R=if 0≤o.i∧o.i<m then (p.x,0,y.x.ws.getD o.i.toNat 0) else (p.x,52,0) by
   rw[l0.o,←HM.o]; unfold lY; rw[aF k2,aF (by omega)]
   by_cases h:0≤o.i∧o.i<y.x.ws.length
   .rw[aK h,aK h]; rw[aF k3]
   .rw[aF h,aF h])
  rw[V]at q2 x3
  by_cases L:0≤o.i∧o.i<m
  rotate_left
  .obtain rfl:R=(p.x,52,0):=by rw[D.o,aF L]
   have G:=kp (fun W=>by
    have:=cK.2.2.2.2 o.i 0 ((m:Int)-1) W;rw[show aG o.i 0 ((m:Int)-1)=false by unfold aG; simp; omega]at this;exact this)
   go_wp2_with fail;refine mb' (G.o _) fun w' M=>?_;obtain rfl:=M.symm;go_wp2_with fail;refine mb' (mC 52 _) fun w4 a0=>?_;have O:=kp (f.o.below a0);have d:=kp O.o.res;have E:=Blk.cell d.o 0;have F:=Blk.cell d.o 1;have y0:=Blk.frozen d.o 0;have y1:=Blk.frozen d.o 1;simp only[aP,aZ]at E F;have l:=kp ((Blk.setCell d.o 0 (.i (52))).setCell 1 (.i (0)));go_wp2_with fail;have s:=l.o.cell 0;have z:=l.o.cell 1;simp only[aC,aD,aP,aZ]at s z;exact bI (v:=.agg #[.i (52),.i (0)]) (by simp[results,nS,go_sem,s,z]) rfl ⟨rfl,O.o.o 52 0⟩
  rw[aK L]at D;have G:=kp (fun W=>by
   have:=cK.2.2.2.2 o.i 0 ((m:Int)-1) W;rw[show aG o.i 0 ((m:Int)-1)=true by unfold aG; simp; omega]at this;exact this)
  obtain⟨i,U⟩:∃i:Nat,o.i=i:=⟨o.i.toNat,by omega⟩
  rw[U]at L o2 D G;rw[gS]at D;have a2:i<m:=by omega
  have g0:(i:Int)<m:=by omega
  obtain⟨b',c',post,Z,j1,b1,K,e0⟩:=b0.a.blk (by omega);have J:=k'3 Z K e0;have d0:(iv y.x.ws++post)[i]? =some (.i (y.x.ws.getD i 0)):=by
   rw[pP (by rw[kD]; omega),tZ _ _ (by omega),nF,jN (by omega)]; rfl
  have z2:=K.cell i;have f2:=K.frozen i;rw[d0]at z2;obtain⟨zv,j0⟩:=nm' (y.x.ws.getD i 0);rw[j0]at z2 D;obtain⟨rfl,-,rfl⟩:=Value.slice.inj (Z.symm.trans q0.a);have HI:=kp U;have T:=kp f.o.res;go_wp2_with fail;refine mb' (G.o _) fun w' M=>?_;obtain rfl:=M.symm;have Y:=D.o;subst Y;have E:=Blk.cell T.o 0;have F:=Blk.cell T.o 1;have y0:=Blk.frozen T.o 0;have y1:=Blk.frozen T.o 1;simp only[aP,aZ]at E F;have l:=kp ((Blk.setCell T.o 0 (.i (0))).setCell 1 (.i (zv)));go_wp2_with fail;have s:=l.o.cell 0;have z:=l.o.cell 1;simp only[aC,aD,aP,aZ]at s z;exact bI (v:=.agg #[.i (0),.i (zv)]) (by simp[results,nS,go_sem,s,z]) rfl ⟨rfl,f.o.o 0 _⟩
end
section
attribute [-go_sem] run_eql_struct run_neq_struct
theorem Hw(a b:Opn)(w:World):Sem.run prog (binOp .eql 25 (.agg a.cells.toArray) (.agg b.cells.toArray)) w=.ok (.bool (decide (a=b))) w:=by
 obtain⟨l,m,n,o,p,q,r⟩:=a;obtain⟨s,x,y,z,A,B,C⟩:=b;simp only[Opn.cells,Opn.mk.injEq];have j:prog.underlying 25=some (.struct (prog.fieldsOf 25)):=by kernel_rfl
 have k:prog.stoodInHeld 25=false:=by kernel_rfl
 rw[run_eql_struct,show (10000:Nat)=9999+1 from rfl,run_equalIn_agg w 9999 _ _ _ j k];simp only[Program.fieldsOf,underlying25]
 go_simp
 by_cases c:¬l=s
 .simp[c]
 replace c:=tR.1 c
 subst c
 by_cases d:¬m=x
 .simp[d]
 replace d:=tR.1 d
 subst d
 by_cases e:¬n=y
 .simp[e]
 replace e:=tR.1 e
 subst e
 by_cases f:¬o=z
 .simp[f]
 replace f:=tR.1 f
 subst f
 by_cases g:¬p=A
 .simp[g]
 replace g:=tR.1 g
 subst g
 by_cases h:¬q=B
 .simp[h]
 replace h:=tR.1 h
 subst h
 by_cases i:¬r=C
 .simp[i]
 replace i:=tR.1 i
 subst i;simp
attribute [-go_sem] loadCellsFrom storeCells
attribute [local go_sem] aX
theorem sU(n:Int)(w:World)(l:inR n):Calls prog 34 #[.i n] w fun e k=>e=.returned (.bool (iB n))∧k=w:=by
 obtain⟨r,f⟩:=nm' (iB n);have g:(decide (n.tmod 2=1)&&(decide (3≤n)&&decide (n≤7)))=r:=by
  rw[←f];unfold iB
  by_cases h:3≤n∧n≤7
  .have:n=3∨n=4∨n=5∨n=6∨n=7:=by omega
   rcases this with rfl|rfl|rfl|rfl|rfl<;>rfl
  .rw[show (decide (3≤n)&&decide (n≤7))=false by simp; omega,Mk]
   symm
   simp;omega
 rw[f];obtain⟨a,d⟩:=nm' (decide (n.tmod 2=1));obtain⟨b,i⟩:=nm' (decide (3≤n));obtain⟨c,j⟩:=nm' (decide (n≤7));rw[d,i,j]at g;have m:((n.tmod 2:Int)==1)=a:=by rw[←d]; rfl
 go_enter func34,ntmps34
 cases a<;>cases b<;>cases c<;>subst g
 all_goals
  go_wp2_with fail;go_ret;exact⟨rfl,rfl⟩
theorem So(n:Int)(w:World):Calls prog 142 #[.i n] w fun e f=>e=.returned (.bool (aG n 0 900000000))∧f=w:=by
 unfold aG;obtain⟨a,c⟩:=nm' (decide (0≤n));obtain⟨b,d⟩:=nm' (decide (n≤900000000));rw[c,d];go_enter func142,ntmps142
 cases a<;>cases b
 all_goals
  go_wp2_with fail;go_ret;exact⟨rfl,rfl⟩
theorem Sq(nodes a:Int):(iB nodes=false∧qI nodes a=0)∨(iB nodes=true∧aG a 0 900000000=false∧qI nodes a=0)∨
  (iB nodes=true∧aG a 0 900000000=true∧(nodes=3∨nodes=5∨nodes=7)∧0≤a∧a≤900000000∧∃q,a.tmod nodes=q∧0≤q∧q<7∧qI nodes a=1+q):=by
 unfold qI
 cases h1:iB nodes
 .exact .inl ⟨rfl,by simp⟩
 cases h2:aG a 0 900000000
 .exact .inr (.inl ⟨rfl,rfl,by simp⟩)
 .refine .inr (.inr ⟨rfl,rfl,?_⟩);have c:nodes=3∨nodes=5∨nodes=7:=by unfold iB at h1; simpa using h1
  have b:0≤a∧a≤900000000:=by unfold aG at h2; simpa using h2
  refine⟨c,b.1,b.2,_,rfl,?_⟩;rw[aK ⟨rfl,rfl⟩,Mb b.1];rcases c with rfl|rfl|rfl<;>exact⟨by omega,by omega,rfl⟩
theorem Sr(nodes h:Int)(w:World)(j:inR nodes):Calls prog 84 #[.i nodes,.i h] w fun e c=>e=.returned (.i (qI nodes h))∧c=w:=by
 have b:=kp (fun w=>sU nodes w j);have g:=kp (So h);rcases Sq nodes h with⟨d,f⟩|⟨d,i,f⟩|⟨d,i,j,m,n,q,s,p,r,f⟩
 .rw[d]at b;rw[f];go_enter func84,ntmps84;go_wp2_with fail;refine mb' (b.o _) fun c a=>?_;obtain rfl:=a.symm;go_wp2_with fail;go_ret;exact⟨rfl,rfl⟩
 .rw[d]at b;rw[i]at g;rw[f];go_enter func84,ntmps84;go_wp2_with fail;refine mb' (b.o _) fun c a=>?_;obtain rfl:=a.symm;go_wp2_with fail;refine mb' (g.o _) fun c a=>?_;obtain rfl:=a.symm;go_wp2_with fail;go_ret;exact⟨rfl,rfl⟩
 .rw[d]at b;rw[i]at g;rw[f];have l:¬nodes=0:=by omega
  have k:(1+q:Int)=q+1:=by omega
  rw[k];go_enter func84,ntmps84;go_wp2_with fail;refine mb' (b.o _) fun c a=>?_;obtain rfl:=a.symm;go_wp2_with fail;refine mb' (g.o _) fun c a=>?_;obtain rfl:=a.symm;go_wp2_with fail;go_ret;exact⟨rfl,rfl⟩
end
section
attribute [-go_sem] loadCellsFrom storeCells run_eql_struct run_neq_struct
attribute [local go_sem] aX
theorem iS{α:Type}{P:Program}{w:World}{B:Nat}{A:Option Addr}(k:Nat)(enc:α→List Value)(e:∀a,(enc a).length=k)(f:0<k){l:List α}(o:Rd w B A (aO enc l))(i:Nat)(m:i<l.length):
  ∃b c,A=some ⟨b,c,none⟩∧b<B∧(∀t u,(enc (l[i]))[t]? =some u→w.cell? ⟨b,c+i*k+t,none⟩=some u)∧
   ∀n,Sem.run P (loadCellsFrom ⟨b,c+i*k,none⟩ 0 k #[]) (w.drewN n)=.ok (enc (l[i])).toArray (w.drewN n):=by
 obtain⟨b,c,g,h,d,-⟩:=dS (P:=P) k e f o i m;refine⟨b,c,g,h,d,fun n=>?_⟩;have:=run_loadCells_list (P:=P) (w:=w.drewN n) ⟨b,c+i*k,none⟩ (enc (l[i])) (fun j v p=>by
  rw[Addr.add_lit];exact d j v p)
 rw[e]at this;simpa [loadCells] using this
end
section
attribute [-go_sem] loadCellsFrom storeCells run_eql_struct run_neq_struct
attribute [local go_sem] aX
theorem xU(x:En)(w:World):Calls prog 63 #[.agg x.cells.toArray] w fun e l=>e=.returned (.bool (dQ x))∧Bw' w l:=by
 generalize r:w.alloc (.cells x.cells.toArray 122)=p;have f:Blk p w.heap.size 122 x.cells:=r▸Blk.new w 122 x.cells;have G:=kp (show Bw' w p from r▸ba' w _);have M:=f.cell 0;have N:=f.cell 1;have O:=f.cell 2;have Q:=f.cell 3;have U:=f.loadOff (P:=prog) 4 7 [.i x.k,.i x.h,.i x.i,.i x.m,.i x.j,.i x.u,.i x.t] rfl rfl;simp only[En.cells,aP,aZ]at M N O Q;obtain⟨a,y⟩:=nm' (aG x.n 1 900000000);obtain⟨b,A⟩:=nm' (aG x.v 0 900000000);obtain⟨c,B⟩:=nm' (aG x.c 1 4);obtain⟨s,d⟩:=nm' (aG x.s 1 1000000);obtain⟨q,D⟩:∃q,decide (x.op=⟨0,0,0,0,0,0,0⟩)=q:=⟨_,rfl⟩
 obtain⟨z,E⟩:=nm' (decide (x.s=0));have S:∀w,Sem.run prog (binOp .eql 25 (.agg #[.i x.k,.i x.h,.i x.i,.i x.m,.i x.j,.i x.u,.i x.t]) (.agg #[.i 0,.i 0,.i 0,.i 0,.i 0,.i 0,.i 0])) w=.ok (.bool q) w:=fun w=>by
  rw[←D];exact Hw x.op ⟨0,0,0,0,0,0,0⟩ w
 have F:=kp (fun w=>by have:=cK.2.2.1 x.n 1 900000000 w; rw[y]at this; exact this);have H:=kp (fun w=>by have:=cK.2.2.1 x.v 0 900000000 w; rw[A]at this; exact this);have I:=kp (fun w=>by have:=cK.2.2.1 x.c 1 4 w; rw[B]at this; exact this);have J:=kp (fun w=>by have:=cK.2.2.1 x.s 1 1000000 w; rw[d]at this; exact this);have T:(x.s==0)=z:=E;obtain⟨g,C⟩:=nm' (decide (x.c=0));have R:(x.c==0)=g:=C;have L:dQ x=(a&&(b&&if g=true then z&&q else c&&s)):=by
  unfold dQ;rw[y,A,B,d,D,E,←C]
  by_cases h:x.c=0<;>simp[h]
 rw[L];generalize x.n=V at *;generalize x.v=W at *;generalize x.c=X at *;generalize x.s=Y at *;go_enter func63,ntmps63;have K:(a=false∧g=false)∨(a=false∧g=true)∨(a=true∧b=false∧g=false)∨(a=true∧b=false∧g=true)∨(a=true∧b=true∧g=false∧c=false)∨(a=true∧b=true∧g=false∧c=true∧s=false)∨(a=true∧b=true∧g=false∧c=true∧s=true)∨
   (a=true∧b=true∧g=true∧z=false)∨(a=true∧b=true∧g=true∧z=true∧q=false)∨(a=true∧b=true∧g=true∧z=true∧q=true):=by
  cases a<;>cases b<;>cases g<;>cases z<;>cases q<;>cases c<;>cases s<;>decide
 rcases K with⟨rfl,rfl⟩|⟨rfl,rfl⟩|⟨rfl,rfl,rfl⟩|⟨rfl,rfl,rfl⟩|⟨rfl,rfl,rfl,rfl⟩|⟨rfl,rfl,rfl,rfl,rfl⟩|⟨rfl,rfl,rfl,rfl,rfl⟩|⟨rfl,rfl,rfl,rfl⟩|⟨rfl,rfl,rfl,rfl,rfl⟩|⟨rfl,rfl,rfl,rfl,rfl⟩
 all_goals
  go_wp2_with (first |(with_reducible refine Calls.mono (F.o _) ?_; rintro e l ⟨rfl,d⟩; obtain rfl:=d.symm; clear d)|(with_reducible refine Calls.mono (H.o _) ?_; rintro e l ⟨rfl,d⟩; obtain rfl:=d.symm; clear d)|(with_reducible refine Calls.mono (I.o _) ?_; rintro e l ⟨rfl,d⟩; obtain rfl:=d.symm; clear d)|(with_reducible refine Calls.mono (J.o _) ?_; rintro e l ⟨rfl,d⟩; obtain rfl:=d.symm; clear d));go_ret;exact⟨rfl,G.o⟩
theorem Br{a:Int}{l:List En}(k:Nat)(b:k<l.length)(h:eO a (l.take k)=true):eO a l=(decide (l[k].n=a+k+1)&&eO (a+k+1) (l.drop (k+1))):=by
 induction k generalizing a l with
 |zero=>
  cases l with
  |nil=>simp at b
  |cons e l=>simp[eO]
 |succ k c=>
  cases l with
  |nil=>simp at b
  |cons e l=>
   simp only[lV,eO,bH,bR]at h;have:=c (a:=a+1) (l:=l) (by simpa using b) h.2;simp only[eO,bS,Mh,h.1,decide_true,kU,this];rw[show a+1+(k:Int)+1=a+((k+1:Nat):Int)+1 by omega]
theorem Hy{a:Int}{l:List En}(k:Nat)(d:k<l.length)(h:eO a (l.take k)=true)(c:l[k].n=a+k+1):eO a (l.take (k+1))=true:=by
 have b:=Br (a:=a) (l:=l.take (k+1)) k (by simp; omega) (by rw[kC,nO (by omega)]; exact h);rw[b,aCg,c];simp[eO]
theorem uV:(∀(v:Value)(l:List En)(a:Int)(B:Nat)(w:World)(h:Sl w B v En.cells l)(p:B≤w.heap.size)(r:l.length≤1000000)(s:∀e∈l,inR e.n)(I:0≤a)(J:a≤900000000),Calls prog 140 #[v,.i a] w fun e F=>e=.returned (.bool (eO a l))∧Bw' w F)∧(∀(v:Value)(l:List En)(a:Int)(B:Nat)(w:World)(h:Sl w B v En.cells l)(p:B≤w.heap.size)(r:l.length≤1000000)(s:∀e∈l,inR e.n)(I:0≤a)(J:a≤900000000),Calls prog 161 #[v,.i a] w fun e F=>e=.returned (.bool (eO a l))∧Bw' w F):=by
 refine⟨?q0,?q1⟩
 all_goals
  intro v l a B w h p r s I J;obtain⟨A,c,rfl,R,V,Y⟩:=h;obtain⟨n,K⟩:=nm' l.length;rw[K]at r ⊢;have H:=k'3 R K s
  first |go_enter func140,ntmps140|go_enter func161,ntmps161
  go_wp2_with fail
  go_loopw [9] (fun i wr=>∃k:Nat,k≤n∧i=.i k∧eO a (l.take k)=true∧Bw' w wr) (fun i _=>n-(intOf i).toNat)
  case atStart=>exact⟨0,by omega,rfl,rfl,aH _ _⟩
  case round=>
   obtain⟨k,W,rfl,O,L⟩:=hrel;have m:=kp O;have d:=kp L
   by_cases X:k<n
   .have U:(k:Int)<(n:Int):=by omega
    have f:k<l.length:=by have:=H.b; omega
    obtain⟨b,b0,rfl,-,M,Q⟩:=iS (P:=prog) 11 En.cells eM (by omega) (H.a.below d.o p) k f;have q1:=M 0 _ rfl;have q0:=Q 0;change Sem.run _ _ wr=.ok _ wr at q0;simp only[dW]at q1;have y:=H.C _ (cU f);have G:=k'2 (Br (a:=a) k f m.o) (Hy (a:=a) k f m.o);generalize l[k]'f=x at *;have Z:=y.1;have a0:=y.2;have T:=kp y
    by_cases q:x.n=a+k+1
    .have N:(wrap64 (wrap64 (x.n-1)-k) != a)=false:=by rw[q]; unfold wrap64; simp; omega
     have j:=kp q;have g:=Blk.new wr 122 z'3;have S:=g.store (P:=prog) (cs':=x.cells) rfl (kV x);have D:=g.set x.cells;have E:=kp (d.o.trans (((eU (ba' wr (.cells z'3a 122)) (aN _) x.cells.toArray)).mono d.o.size));have z:=D.cell 0;change _=some (Value.i x.n)at z;go_wp2_with fail;go_roundw
     case rel=>exact⟨k+1,by omega,by go_num,G.B j.o,E.o⟩
     case measure=>simp[intOf]; omega
    .have N:(wrap64 (wrap64 (x.n-1)-k) != a)=true:=by unfold wrap64; simp; omega
     have j:=kp q;have g:=Blk.new wr 122 z'3;have S:=g.store (P:=prog) (cs':=x.cells) rfl (kV x);have D:=g.set x.cells;have E:=kp (d.o.trans (((eU (ba' wr (.cells z'3a 122)) (aN _) x.cells.toArray)).mono d.o.size));have z:=D.cell 0;change _=some (Value.i x.n)at z;go_wp2_with fail;go_ret;exact⟨by rw[G.a,dR j.o]; rfl,E.o⟩
   .obtain rfl:k=n:=by omega
    go_wp2_with fail;go_ret;have:=m.o;rw[eF (by have:=H.b; omega)]at this;exact⟨by rw[this]; rfl,d.o⟩
end
section
attribute [-go_sem] run_eql_struct run_neq_struct
end
section
attribute [-go_sem] run_eql_struct run_neq_struct
end
end Go.Proofs.YtoncgpddjmgbfaaGreat
