import Derived.Test.YthalbagblhkeaaaGreatZ02
import Derived.Test.YthalbagblhkeaaaGreatZ03
import Derived.Test.YthalbagblhkeaaaGreatZ04
import Derived.Test.YthalbagblhkeaaaGreatZ07
import Derived.Test.YthalbagblhkeaaaGreatZ13
import Derived.Laws.StructEq
namespace Go.Proofs.YthalbagblhkeaaaGreat
open Go.RowKit Go.Proofs.Tryz
set_option maxRecDepth 100000
set_option maxHeartbeats 12800000
set_option linter.unusedVariables false
set_option linter.unusedSimpArgs false
section
def Opn.cells(o:Opn):List Value:=[.i o.k,.i o.h,.i o.i,.i o.n,.i o.m,.i o.v,.i o.t]
structure jM(w:World)(g:Nat)(o:Opn):Prop where
 blk:Blk w g 43 o.cells
 c0:w.cell? ⟨g,0,none⟩=some (.i o.k)
 c1:w.cell? ⟨g,1,none⟩=some (.i o.h)
 c2:w.cell? ⟨g,2,none⟩=some (.i o.i)
 c3:w.cell? ⟨g,3,none⟩=some (.i o.n)
 c4:w.cell? ⟨g,4,none⟩=some (.i o.m)
 c5:w.cell? ⟨g,5,none⟩=some (.i o.v)
 c6:w.cell? ⟨g,6,none⟩=some (.i o.t)
theorem jM.of{w:World}{g:Nat}{o:Opn}(h:Blk w g 43 o.cells):jM w g o:=⟨h,h.cell 0,h.cell 1,h.cell 2,h.cell 3,h.cell 4,h.cell 5,h.cell 6⟩
theorem jM.below{w a:World}{g:Nat}{o:Opn}(h:jM w g o)(b:Bw' w a):jM a g o:=.of (h.blk.below b h.blk.lt)
def atI(h:Hp)(o:Opn):Hp×Int×Int:=
 match pP h.obs o.h with
 |none=>(h,51,0)
 |some p=>match h.obs[p]? with
  |none=>(h,51,0)
  |some g=>iK h o p g
structure CL(W:World)(e b:Nat)(t:TypeId)(cs cs':List Value)(X:Nat→Option Value)(W':World):Prop where
 chg:Chg (fun i=>i=b) W W'
 pre:X e=none→W'=W.drew
 post:(X e).isSome=true→Blk W' b t cs'
theorem CL.other{W W':World}{e b j:Nat}{t:TypeId}{a cs':List Value}{X:Nat→Option Value}{v:Value}(h:CL W e b t a cs' X W')(c:j≠e):CL W e b t a cs' (bD X j v) W':=by
 refine⟨h.chg,?_,?_⟩
 .rw[aR (bL c)]; exact h.pre
 .rw[aR (bL c)]; exact h.post
theorem CL.at_{W W' a:World}{e b:Nat}{t:TypeId}{c cs':List Value}{X:Nat→Option Value}{v:Value}(h:CL W e b t c cs' X W')(f:Chg (fun i=>i=b) W' a)(d:Blk a b t cs'):CL W e b t c cs' (bD X e v) a:=
 ⟨h.chg.trans f fun _ _ h=>h,fun h=>by simp[bD]at h,fun _=>d⟩
structure Hb(w:World)(base g:Nat)(p:HpV)(ps:List ObV)(o:Opn)(W:World):Prop where
 wk:Wk W base g 208 p ps
 res:bZ W (w.heap.size+1) 0 0
 op:jM W w.heap.size o
 bw:Bw base w W
 h0:base≤w.heap.size
section
variable {w W W':World}{base g:Nat}{p:HpV}{ps:List ObV}{y:Opn}
theorem Hb.below(h:Hb w base g p ps y W)(a:Bw' W W'):Hb w base g p ps y W':=⟨h.wk.below a,h.res.below a,h.op.below a,h.bw.below h.h0 a,h.h0⟩
theorem Hb.hx(h:Hb w base g p ps y W):Hx W base g (w.heap.size+1) p p.x.free ps:=h.wk.wx.hx h.res (aB h.h0 (Nat.le_succ _))
theorem Hb.o(h:Hb w base g p ps y W)(c d:Int):Wo base g p.x w ((W.setCell ⟨w.heap.size+1,0,none⟩ (.i c)).setCell ⟨w.heap.size+1,1,none⟩ (.i d)):=h.hx.o h.bw h.h0 (Nat.le_succ _) h.wk.eq rfl c d
theorem Hb.fin{x:Hp}(h:Hb w base g p ps y W)(a:Wo base g x W W')(c d:Int):bZ W' (w.heap.size+1) 0 0∧Wo base g x w ((W'.setCell ⟨w.heap.size+1,0,none⟩ (.i c)).setCell ⟨w.heap.size+1,1,none⟩ (.i d)):=a.fin h.bw h.h0 h.res (Nat.le_succ _) c d
theorem Hb.of(o:Opn)(h:Wk w base g 208 p ps)(a:base≤w.heap.size):Hb w base g p ps o ((w.alloc (.cells #[.i o.k,.i o.h,.i o.i,.i o.n,.i o.m,.i o.v,.i o.t] 43)).alloc (.cells #[.i 0,.i 0] 46)):=by
 have c:=ba' w (.cells #[.i o.k,.i o.h,.i o.i,.i o.n,.i o.m,.i o.v,.i o.t] 43);have b:=(aL _ (w.alloc (.cells #[.i o.k,.i o.h,.i o.i,.i o.n,.i o.m,.i o.v,.i o.t] 43))).alloc (aD _) (.cells #[.i 0,.i 0] 46);have d:=bZ.new (w.alloc (.cells #[.i o.k,.i o.h,.i o.i,.i o.n,.i o.m,.i o.v,.i o.t] 43));rw[show (w.alloc (.cells #[.i o.k,.i o.h,.i o.i,.i o.n,.i o.m,.i o.v,.i o.t] 43)).heap.size=w.heap.size+1 by simp]at d;exact⟨(h.below c).below b,d,(jM.of (Blk.new w 43 o.cells)).below b,(Bw.of a c).below a b,a⟩
end
theorem Uo{α:Type}{l:List α}{n:Nat}{y:α}(h:l[n]? =some y):l.set n y=l:=by
 apply sR;intro i;rw[sS]
 split
 .rename_i e; subst e; rw[h]; simp[(iH.1 h).1]
 .rfl
theorem Ju{ps:List ObV}{n:Nat}{q:ObV}:(ps.set n q).map (·.x)=(ps.map (·.x)).set n q.x:=pD
theorem Jv{ps:List ObV}{n:Nat}{q:ObV}(h:n<ps.length)(a:q.cells=ps[n].cells):aM ObV.cells (ps.set n q)=aM ObV.cells ps:=by
 unfold aM;rw[pD,a]
 congr 1
 apply sR;intro i;rw[sS]
 split
 .rename_i e; subst e; simp[h]
 .rfl
theorem Hb.row{w W W':World}{base g b:Nat}{p:HpV}{ps:List ObV}{o:Opn}{n:Nat}{y:ObV}{v:Value}{ws ls:List Int}(h:Hb w base g p ps o W)(r:∃a:n<ps.length,ps[n]=y)(f:v=y.wv∨v=y.lv)(q:v.ownBlock=some b)
  (m:Chg (fun i=>i=b) W W') (k:Ow W' base 3 1 y.wv i1 ws) (l:Ow W' base 3 1 y.lv i1 ls):
  Wo base g {p.x with obs:=p.x.obs.set n {y.x with ws:=ws,ls:=ls}} W W':=by
 obtain⟨a,rfl⟩:=r;have d:Chg (fun i=>some i=v.ownBlock) W W':=m.mono fun i _ e=>by rw[q,e]
 have z:∃t,Ow W base 3 1 v i1 t:=by
  rcases f with rfl|rfl
  .exact⟨_,(h.wk.rws.row _ (bK a)).1⟩
  .exact⟨_,(h.wk.rws.row _ (bK a)).2⟩
 obtain⟨t,j⟩:=z;have s:=h.wk.rws.upd a f d k l;have c:=h.hx.row j d s (Jv a rfl) (mI ..);refine⟨⟨{p.x with obs:=p.x.obs.set n {ps[n].x with ws:=ws,ls:=ls}},p.ov,p.fv⟩,_,rfl,⟨c.blk,c.lo,c.obs,c.rws,c.free,?_⟩,(Bw.of (aB h.h0 h.bw.bel.size) (aL _ _)).row (aB h.h0 h.bw.bel.size) (OR.of_ow (S:=fun i=>base≤i) j fun i h _=>h) (fun _ h=>h) (by decide) d⟩;rw[Ju,←h.wk.eq]
theorem Up{base g:Nat}{p:HpV}{ps:List ObV}(o:Opn)(w:World)(h:Wk w base g 208 p ps)(hb:base≤w.heap.size)(H:HOk p.x):
  Calls prog 210 #[.pointer (some ⟨g,0,none⟩),.agg o.cells.toArray] w fun e w'=>e=.returned (.agg #[.i (atI p.x o).2.1,.i (atI p.x o).2.2])∧Wo base g (atI p.x o).1 w w':=by
 show Calls _ _ #[_,.agg #[.i o.k,.i o.h,.i o.i,.i o.n,.i o.m,.i o.v,.i o.t]] _ _;have hs:iL (fun p:ObV=>p.x.h) ps:=Jp (by rw[←h.eq]; exact H.rise.2);have d2:=Jn o.h ps hs;have y2:=Jo o.h ps hs;rw[←h.eq]at d2;have y3:ps.length≤256:=by have:=H.len.1; have:=bG List.length h.eq; rw[cW]at this; omega
 have b3:=Hb.of o h hb;obtain⟨W2,p3⟩:=nm' ((w.alloc (.cells #[.i o.k,.i o.h,.i o.i,.i o.n,.i o.m,.i o.v,.i o.t] 43)).alloc (.cells #[.i 0,.i 0] 46));rw[p3]at b3;have HW:=kp b3;have HE:=kp h.eq;have HH:=kp H;have l3:=kp y3;have HS:=kp hs;have j2:=kp (fun q:Blw W2=>Ic p.ov ps o.h W2.heap.size q.w (Sl.blw q (HW.o.hx.obs.sl) (aD _)) q.h.size (by omega) hs);obtain⟨n,hn⟩:=nm' (eT (fun p:ObV=>p.x.h) o.h ps);obtain⟨a,ha⟩:=nm' (ps.any fun p=>decide (p.x.h=o.h));obtain⟨R,hR⟩:=nm' (atI p.x o);rw[hn,ha]at d2 j2;rw[ha,hn]at y2;rw[hR];have HR:=kp hR;have m2:=kp d2;have j3:=kp y2;have q1:=aP HW.o.hx.hp.c1;have o1:=aP HW.o.op.c1;go_enter func210,ntmps210;go_wp2_with fail;refine bJ (by kernel_rfl) (by kernel_rfl) ?_
 repeat (go_big_quiet_step ((go_at_call 248; with_reducible refine bU (j2.o _))))
 refine bH ?_;rintro W3 ⟨⟨_,q3⟩,rfl⟩;have f:=kp (HW.o.below q3)
 cases a
 .obtain rfl:R=(p.x,51,0):=by rw[←HR.o]; unfold atI; rw[m2.o]; rfl
  go_wp2_with fail;refine mb' (mR 51 _) fun w4 a0=>?_;have O:=kp (f.o.below a0);have d:=kp O.o.res;have E:=Blk.cell d.o 0;have F:=Blk.cell d.o 1;have y0:=Blk.frozen d.o 0;have y1:=Blk.frozen d.o 1;simp only[aG,aK]at E F;have l:=kp ((Blk.setCell d.o 0 (.i (51))).setCell 1 (.i (0)));go_wp2_with fail;have s:=l.o.cell 0;have z:=l.o.cell 1;simp only[aH,aI,aG,aK]at s z;exact aU (v:=.agg #[.i (51),.i (0)]) (by simp[results,Sr,go_sem,s,z]) rfl ⟨rfl,O.o.o 51 0⟩
 obtain⟨Q,q4⟩:=j3.o rfl;obtain⟨y,hy⟩:=nm' (ps[n]);have HY:=kp (show ∃Q:n<ps.length,ps[n]=y from⟨Q,hy⟩);have b2:p.x.obs[n]? =some y.x:=by rw[HE.o]; simp[Q,hy]
 have HO:=kp b2;have l0:=kp (show R=iK p.x o n y.x by rw[←HR.o]; unfold atI; rw[m2.o]; simp only[if_true]; rw[b2]);have l2:=kp (HH.o.lens (oY b2));have o0:=f.o.op.c0
 by_cases k2:o.k=2
 .have g2:(o.k==2)=true:=by simp[k2]
  obtain rfl:R=(nK p.x n y.x,0,0):=by rw[l0.o]; unfold iK; rw[aE k2]
  have S:=kp (Un n W3 f.o.wk (aB f.o.h0 f.o.bw.bel.size) HH.o Q);rw[hy]at S;go_wp2_with fail;refine mb' (S.o) fun w4 e4=>?_;obtain⟨a4,j4⟩:=f.o.fin e4 0 0;have d:=kp a4;have o3:=kp j4;have E:=Blk.cell d.o 0;have F:=Blk.cell d.o 1;have y0:=Blk.frozen d.o 0;have y1:=Blk.frozen d.o 1;simp only[aG,aK]at E F;have l:=kp ((Blk.setCell d.o 0 (.i (0))).setCell 1 (.i (0)));go_wp2_with fail;have s:=l.o.cell 0;have z:=l.o.cell 1;simp only[aH,aI,aG,aK]at s z;exact aU (v:=.agg #[.i (0),.i (0)]) (by simp[results,Sr,go_sem,s,z]) rfl ⟨rfl,o3.o⟩
 have g2:(o.k==2)=false:=by simp[k2]
 obtain⟨A,c,z3,d4,-,-⟩:=f.o.wk.wx.obs.sl;obtain⟨b,y4,rfl,-,m1,-⟩:=bV (P:=prog) 5 cM (by omega) d4 n Q;rw[hy]at m1;have e2:=f.o.wk.rws.row y (hy▸bK Q);have x3:=m1 3 _ rfl;have x4:=m1 4 _ rfl;have q1:=f.o.wk.blk.cell 1;simp only[HpV.cells,aK,aG]at q1;rw[z3]at q1;obtain⟨N,hN⟩:=nm' ps.length;rw[hN]at q1;have g1:(n:Int)<N:=by omega
 have b0:=kp e2;obtain⟨Aw,cw,d3,-,m4,p4⟩:=e2.1.sl cS;obtain⟨Al,cl,a3,-,l4,o4⟩:=e2.2.sl cS;have q0:=k'2 d3 a3;rw[d3]at x3;rw[a3]at x4;have o2:=f.o.op.c2;have o5:=f.o.op.c5;have o6:=f.o.op.c6;have p2:=l2.a;have q2:=l2.B
 by_cases k4:o.k=4
 .have g4:(o.k==4)=true:=by rw[k4]; rfl
  have g3:(o.k==3)=false:=by rw[k4]; rfl
  obtain⟨m,V⟩:=nm' y.x.ls.length;have g8: -9223372036854775808≤(m:Int)-1:=by omega
  have g9:(m:Int)-1≤9223372036854775807:=by omega
  have HM:=kp V;have D:=kp (show R=if 0≤o.i∧o.i<m then (if dS p.x.obs o.t=true then ({p.x with obs:=p.x.obs.set n {y.x with ls:=y.x.ls.set o.i.toNat o.t}},0,0) else (p.x,51,0)) else (p.x,52,0) by
   rw[l0.o,←HM.o]; unfold iK; rw[aC k2,aE (.inl k4)]
   by_cases h:0≤o.i∧o.i<y.x.ls.length
   .rw[aE h,aE h]; rw[aE k4]
   .rw[aC h,aC h])
  rw[V]at q2 x4
  by_cases L:0≤o.i∧o.i<m
  rotate_left
  .obtain rfl:R=(p.x,52,0):=by rw[D.o,aC L]
   have G:=kp (fun W=>by
    have:=oK.2.2.2.2 o.i 0 ((m:Int)-1) W;rw[show aF o.i 0 ((m:Int)-1)=false by unfold aF; simp; omega]at this;exact this)
   go_wp2_with fail;refine mb' (G.o _) fun w' M=>?_;obtain rfl:=M.symm;go_wp2_with fail;refine mb' (mR 52 _) fun w4 a0=>?_;have O:=kp (f.o.below a0);have d:=kp O.o.res;have E:=Blk.cell d.o 0;have F:=Blk.cell d.o 1;have y0:=Blk.frozen d.o 0;have y1:=Blk.frozen d.o 1;simp only[aG,aK]at E F;have l:=kp ((Blk.setCell d.o 0 (.i (52))).setCell 1 (.i (0)));go_wp2_with fail;have s:=l.o.cell 0;have z:=l.o.cell 1;simp only[aH,aI,aG,aK]at s z;exact aU (v:=.agg #[.i (52),.i (0)]) (by simp[results,Sr,go_sem,s,z]) rfl ⟨rfl,O.o.o 52 0⟩
  rw[aE L]at D;have G:=kp (fun W=>by
   have:=oK.2.2.2.2 o.i 0 ((m:Int)-1) W;rw[show aF o.i 0 ((m:Int)-1)=true by unfold aF; simp; omega]at this;exact this)
  obtain⟨i,U⟩:∃i:Nat,o.i=i:=⟨o.i.toNat,by omega⟩
  rw[U]at L o2 D G;rw[eR]at D;have a2:i<m:=by omega
  have g0:(i:Int)<m:=by omega
  obtain⟨b',c',post,Z,j1,b1,K,e0⟩:=b0.B.blk (by omega);have J:=k'3 Z K e0;have d0:(iv y.x.ls++post)[i]? =some (.i (y.x.ls.getD i 0)):=by
   rw[lS (by rw[fM]; omega),lU _ _ (by omega),kK,eK (by omega)]; rfl
  have z2:=K.cell i;have f2:=K.frozen i;rw[d0]at z2;obtain⟨zv,j0⟩:=nm' (y.x.ls.getD i 0);rw[j0]at z2;obtain⟨rfl,-,rfl⟩:=Value.slice.inj (Z.symm.trans q0.B);have HI:=kp U;have HD:=kp (f.o.below (bR (aL _ _)));have e3:=kp (show Blk W3.drew b' 3 (iv y.x.ls++post) from J.b);have a1:=kp (Jl o.t W3.drew (cI.of HD.o.wk.blk) HD.o.wk.wx.obs.sl (by have:=l3.o; omega) HS.o e3.o (j:=i) (by rw[bB,fM,HM.o]; omega));obtain⟨r,hr⟩:=nm' (dS (ps.map (·.x)) o.t);rw[hr]at a1;rw[HE.o,hr]at D;have m3:=kp (show ({p.x with obs:=p.x.obs.set n {y.x with ls:=y.x.ls}}:Hp)=p.x by rw[Uo HO.o]);rw[←HE.o]at D;go_wp2_with fail;refine mb' (G.o _) fun w' M=>?_;obtain rfl:=M.symm
  cases r
  .go_wp2_with fail;refine fR 8 (CL W3 7 b' 3 (iv y.x.ls++post) (iv y.x.ls++post)) (fun _=>fK) (by kernel_rfl) (by kernel_rfl) ⟨(Chg.refl _ _).drew,fun _=>rfl,fun h=>by cases h⟩ ?_
   iterate 8 (refine bO ?_; apply Exists.intro)
   refine dR ⟨?pers51,?walk51⟩
   case walk51=>
    iterate 7
     apply Ug (by kernel_rfl) (by intro t w h; cases h; exact trivial) rfl
     .intro X W' I hX hw hV hF; have ho:=jM.of (f.o.op.blk.chg I.chg (f.o.op.blk.ne J.b (by decide))); have o2:=ho.c2; have o6:=ho.c6; rw[HI.o]at o2; clear ho; go_wp2_with fail;exact⟨rfl,_,rfl,I.other (by decide),aV,rfl⟩
     simp only[Act.put,aN,aH,aI,aT,aW]
    apply Ug (by kernel_rfl) (by intro t w h; cases h; exact trivial) rfl
    .intro X W' I hX hw hV hF;obtain rfl:=I.pre hX;go_wp2_with fail;refine (a1.o).mono ?_;rintro e w5 ⟨rfl,l1,d1⟩;go_wp2_with fail;exact⟨rfl,_,rfl,I.at_ l1 d1,aV,rfl⟩
    simp only[Act.put,aN,aH,aI,aT,aW];intro W5 I hF;simp only[dO,dP];have m0:=kp (f.o.row HY.o (.inr rfl) (by rw[J.a]; rfl) I.chg (ws:=y.x.ws) (ls:=y.x.ls) (b0.a.chg I.chg fun j hj e=>by
     obtain⟨Q,rfl⟩:=HY.o;exact f.o.wk.rws.self Q j hj (by rw[J.a,e]; rfl)) (J.C _ _ (by simp) (by
     have:=I.post rfl;exact this)))
    have S:=kp (f.o.fin m0.o 51 0);have d:=kp S.a;have Y:=D.o;simp only[if_false,qO]at Y;subst Y;have E:=Blk.cell d.o 0;have F:=Blk.cell d.o 1;have y0:=Blk.frozen d.o 0;have y1:=Blk.frozen d.o 1;simp only[aG,aK]at E F;have l:=kp ((Blk.setCell d.o 0 (.i (51))).setCell 1 (.i (0)));go_wp2_with fail;have s:=l.o.cell 0;have z:=l.o.cell 1;simp only[aH,aI,aG,aK]at s z;exact aU (v:=.agg #[.i (51),.i (0)]) (by simp[results,Sr,go_sem,s,z]) rfl ⟨rfl,by have:=S.B; rw[m3.o]at this; exact this⟩
   case pers51=>exact⟨pv',pv',pv',pv',pv',pv',pv',pv',trivial⟩
  .go_wp2_with fail;refine fR 8 (CL W3 7 b' 3 (iv y.x.ls++post) ((iv y.x.ls++post).set i (.i o.t))) (fun _=>fK) (by kernel_rfl) (by kernel_rfl) ⟨(Chg.refl _ _).drew,fun _=>rfl,fun h=>by cases h⟩ ?_
   iterate 8 (refine bO ?_; apply Exists.intro)
   refine dR ⟨?pers0,?walk0⟩
   case walk0=>
    iterate 7
     apply Ug (by kernel_rfl) (by intro t w h; cases h; exact trivial) rfl
     .intro X W' I hX hw hV hF; have ho:=jM.of (f.o.op.blk.chg I.chg (f.o.op.blk.ne J.b (by decide))); have o2:=ho.c2; have o6:=ho.c6; rw[HI.o]at o2; clear ho; go_wp2_with fail;exact⟨rfl,_,rfl,I.other (by decide),aV,rfl⟩
     simp only[Act.put,aN,aH,aI,aT,aW]
    apply Ug (by kernel_rfl) (by intro t w h; cases h; exact trivial) rfl
    .intro X W' I hX hw hV hF;obtain rfl:=I.pre hX;go_wp2_with fail;refine (a1.o).mono ?_;rintro e w5 ⟨rfl,l1,d1⟩;go_wp2_with fail;exact⟨rfl,_,rfl,I.at_ l1 d1,aV,rfl⟩
    simp only[Act.put,aN,aH,aI,aT,aW];intro W5 I hF;simp only[dO,dP];have m0:=kp (f.o.row HY.o (.inr rfl) (by rw[J.a]; rfl) I.chg (ws:=y.x.ws) (ls:=y.x.ls.set i o.t) (b0.a.chg I.chg fun j hj e=>by
     obtain⟨Q,rfl⟩:=HY.o;exact f.o.wk.rws.self Q j hj (by rw[J.a,e]; rfl)) (J.C _ _ (by simp) (by
     have:=I.post rfl;rw[zT _ _ (by rw[fM,HM.o]; omega)]at this;unfold iv at *
     rwa [pD])))
    have S:=kp (f.o.fin m0.o 0 0);have d:=kp S.a;have Y:=D.o;simp only[if_true]at Y;subst Y;have E:=Blk.cell d.o 0;have F:=Blk.cell d.o 1;have y0:=Blk.frozen d.o 0;have y1:=Blk.frozen d.o 1;simp only[aG,aK]at E F;have l:=kp ((Blk.setCell d.o 0 (.i (0))).setCell 1 (.i (0)));go_wp2_with fail;have s:=l.o.cell 0;have z:=l.o.cell 1;simp only[aH,aI,aG,aK]at s z;exact aU (v:=.agg #[.i (0),.i (0)]) (by simp[results,Sr,go_sem,s,z]) rfl ⟨rfl,S.B⟩
   case pers0=>exact⟨pv',pv',pv',pv',pv',pv',pv',pv',trivial⟩
 by_cases k7:o.k=7
 .have g4:(o.k==4)=false:=by rw[k7]; rfl
  have g7:(o.k==7)=true:=by rw[k7]; rfl
  have g3:(o.k==3)=false:=by rw[k7]; rfl
  obtain⟨m,V⟩:=nm' y.x.ls.length;have g8: -9223372036854775808≤(m:Int)-1:=by omega
  have g9:(m:Int)-1≤9223372036854775807:=by omega
  have HM:=kp V;have D:=kp (show R=if 0≤o.i∧o.i<m then (p.x,0,y.x.ls.getD o.i.toNat 0) else (p.x,52,0) by
   rw[l0.o,←HM.o]; unfold iK; rw[aC k2,aE (.inr k7)]
   by_cases h:0≤o.i∧o.i<y.x.ls.length
   .rw[aE h,aE h]; rw[aC k4]
   .rw[aC h,aC h])
  rw[V]at q2 x4
  by_cases L:0≤o.i∧o.i<m
  rotate_left
  .obtain rfl:R=(p.x,52,0):=by rw[D.o,aC L]
   have G:=kp (fun W=>by
    have:=oK.2.2.2.2 o.i 0 ((m:Int)-1) W;rw[show aF o.i 0 ((m:Int)-1)=false by unfold aF; simp; omega]at this;exact this)
   go_wp2_with fail;refine mb' (G.o _) fun w' M=>?_;obtain rfl:=M.symm;go_wp2_with fail;refine mb' (mR 52 _) fun w4 a0=>?_;have O:=kp (f.o.below a0);have d:=kp O.o.res;have E:=Blk.cell d.o 0;have F:=Blk.cell d.o 1;have y0:=Blk.frozen d.o 0;have y1:=Blk.frozen d.o 1;simp only[aG,aK]at E F;have l:=kp ((Blk.setCell d.o 0 (.i (52))).setCell 1 (.i (0)));go_wp2_with fail;have s:=l.o.cell 0;have z:=l.o.cell 1;simp only[aH,aI,aG,aK]at s z;exact aU (v:=.agg #[.i (52),.i (0)]) (by simp[results,Sr,go_sem,s,z]) rfl ⟨rfl,O.o.o 52 0⟩
  rw[aE L]at D;have G:=kp (fun W=>by
   have:=oK.2.2.2.2 o.i 0 ((m:Int)-1) W;rw[show aF o.i 0 ((m:Int)-1)=true by unfold aF; simp; omega]at this;exact this)
  obtain⟨i,U⟩:∃i:Nat,o.i=i:=⟨o.i.toNat,by omega⟩
  rw[U]at L o2 D G;rw[eR]at D;have a2:i<m:=by omega
  have g0:(i:Int)<m:=by omega
  obtain⟨b',c',post,Z,j1,b1,K,e0⟩:=b0.B.blk (by omega);have J:=k'3 Z K e0;have d0:(iv y.x.ls++post)[i]? =some (.i (y.x.ls.getD i 0)):=by
   rw[lS (by rw[fM]; omega),lU _ _ (by omega),kK,eK (by omega)]; rfl
  have z2:=K.cell i;have f2:=K.frozen i;rw[d0]at z2;obtain⟨zv,j0⟩:=nm' (y.x.ls.getD i 0);rw[j0]at z2 D;obtain⟨rfl,-,rfl⟩:=Value.slice.inj (Z.symm.trans q0.B);have HI:=kp U;have T:=kp f.o.res;go_wp2_with fail;refine mb' (G.o _) fun w' M=>?_;obtain rfl:=M.symm;have Y:=D.o;subst Y;have E:=Blk.cell T.o 0;have F:=Blk.cell T.o 1;have y0:=Blk.frozen T.o 0;have y1:=Blk.frozen T.o 1;simp only[aG,aK]at E F;have l:=kp ((Blk.setCell T.o 0 (.i (0))).setCell 1 (.i (zv)));go_wp2_with fail;have s:=l.o.cell 0;have z:=l.o.cell 1;simp only[aH,aI,aG,aK]at s z;exact aU (v:=.agg #[.i (0),.i (zv)]) (by simp[results,Sr,go_sem,s,z]) rfl ⟨rfl,f.o.o 0 _⟩
 by_cases k3:o.k=3
 .have g4:(o.k==4)=false:=by rw[k3]; rfl
  have g7:(o.k==7)=false:=by rw[k3]; rfl
  have g3:(o.k==3)=true:=by rw[k3]; rfl
  obtain⟨m,V⟩:=nm' y.x.ws.length;have g8: -9223372036854775808≤(m:Int)-1:=by omega
  have g9:(m:Int)-1≤9223372036854775807:=by omega
  have HM:=kp V;have D:=kp (show R=if 0≤o.i∧o.i<m then ({p.x with obs:=p.x.obs.set n {y.x with ws:=y.x.ws.set o.i.toNat o.v}},0,0) else (p.x,52,0) by
   rw[l0.o,←HM.o]; unfold iK; rw[aC k2,aC (by omega)]
   by_cases h:0≤o.i∧o.i<y.x.ws.length
   .rw[aE h,aE h]; rw[aE k3]
   .rw[aC h,aC h])
  rw[V]at p2 x3
  by_cases L:0≤o.i∧o.i<m
  rotate_left
  .obtain rfl:R=(p.x,52,0):=by rw[D.o,aC L]
   have G:=kp (fun W=>by
    have:=oK.2.2.2.2 o.i 0 ((m:Int)-1) W;rw[show aF o.i 0 ((m:Int)-1)=false by unfold aF; simp; omega]at this;exact this)
   go_wp2_with fail;refine mb' (G.o _) fun w' M=>?_;obtain rfl:=M.symm;go_wp2_with fail;refine mb' (mR 52 _) fun w4 a0=>?_;have O:=kp (f.o.below a0);have d:=kp O.o.res;have E:=Blk.cell d.o 0;have F:=Blk.cell d.o 1;have y0:=Blk.frozen d.o 0;have y1:=Blk.frozen d.o 1;simp only[aG,aK]at E F;have l:=kp ((Blk.setCell d.o 0 (.i (52))).setCell 1 (.i (0)));go_wp2_with fail;have s:=l.o.cell 0;have z:=l.o.cell 1;simp only[aH,aI,aG,aK]at s z;exact aU (v:=.agg #[.i (52),.i (0)]) (by simp[results,Sr,go_sem,s,z]) rfl ⟨rfl,O.o.o 52 0⟩
  rw[aE L]at D;have G:=kp (fun W=>by
   have:=oK.2.2.2.2 o.i 0 ((m:Int)-1) W;rw[show aF o.i 0 ((m:Int)-1)=true by unfold aF; simp; omega]at this;exact this)
  obtain⟨i,U⟩:∃i:Nat,o.i=i:=⟨o.i.toNat,by omega⟩
  rw[U]at L o2 D G;rw[eR]at D;have a2:i<m:=by omega
  have g0:(i:Int)<m:=by omega
  obtain⟨b',c',post,Z,j1,b1,K,e0⟩:=b0.a.blk (by omega);have J:=k'3 Z K e0;have d0:(iv y.x.ws++post)[i]? =some (.i (y.x.ws.getD i 0)):=by
   rw[lS (by rw[fM]; omega),lU _ _ (by omega),kK,eK (by omega)]; rfl
  have z2:=K.cell i;have f2:=K.frozen i;rw[d0]at z2;obtain⟨zv,j0⟩:=nm' (y.x.ws.getD i 0);rw[j0]at z2;obtain⟨rfl,-,rfl⟩:=Value.slice.inj (Z.symm.trans q0.a);have HI:=kp U;have m0:=kp (f.o.row HY.o (.inl rfl) (by rw[J.a]; rfl) ((Chg.refl (fun i=>i=b') W3).setCell (.inr rfl) i (.i o.v)) (ws:=y.x.ws.set i o.v) (ls:=y.x.ls) (J.C _ _ (mI ..) (by
   have:=J.b.setCell i (.i o.v);rw[zT _ _ (by rw[fM,HM.o]; omega)]at this;unfold iv at *
   rwa [pD])) (b0.B.chg ((Chg.refl (fun i=>i=b') W3).setCell (.inr rfl) i (.i o.v)) fun j hj e=>by
    obtain⟨Q,rfl⟩:=HY.o;exact f.o.wk.rws.self Q j (by rw[J.a,e]; rfl) hj))
  have S:=kp (f.o.fin m0.o 0 0);have d:=kp S.a;go_wp2_with fail;refine mb' (G.o _) fun w' M=>?_;obtain rfl:=M.symm;have Y:=D.o;subst Y;have E:=Blk.cell d.o 0;have F:=Blk.cell d.o 1;have y0:=Blk.frozen d.o 0;have y1:=Blk.frozen d.o 1;simp only[aG,aK]at E F;have l:=kp ((Blk.setCell d.o 0 (.i (0))).setCell 1 (.i (0)));go_wp2_with fail;have s:=l.o.cell 0;have z:=l.o.cell 1;simp only[aH,aI,aG,aK]at s z;exact aU (v:=.agg #[.i (0),.i (0)]) (by simp[results,Sr,go_sem,s,z]) rfl ⟨rfl,S.B⟩
 .have g4:(o.k==4)=false:=by simp[k4]
  have g7:(o.k==7)=false:=by simp[k7]
  have g3:(o.k==3)=false:=by simp[k3]
  obtain⟨m,V⟩:=nm' y.x.ws.length;have g8: -9223372036854775808≤(m:Int)-1:=by omega
  have g9:(m:Int)-1≤9223372036854775807:=by omega
  have HM:=kp V;have D:=kp (show R=if 0≤o.i∧o.i<m then (p.x,0,y.x.ws.getD o.i.toNat 0) else (p.x,52,0) by
   rw[l0.o,←HM.o]; unfold iK; rw[aC k2,aC (by omega)]
   by_cases h:0≤o.i∧o.i<y.x.ws.length
   .rw[aE h,aE h]; rw[aC k3]
   .rw[aC h,aC h])
  rw[V]at p2 x3
  by_cases L:0≤o.i∧o.i<m
  rotate_left
  .obtain rfl:R=(p.x,52,0):=by rw[D.o,aC L]
   have G:=kp (fun W=>by
    have:=oK.2.2.2.2 o.i 0 ((m:Int)-1) W;rw[show aF o.i 0 ((m:Int)-1)=false by unfold aF; simp; omega]at this;exact this)
   go_wp2_with fail;refine mb' (G.o _) fun w' M=>?_;obtain rfl:=M.symm;go_wp2_with fail;refine mb' (mR 52 _) fun w4 a0=>?_;have O:=kp (f.o.below a0);have d:=kp O.o.res;have E:=Blk.cell d.o 0;have F:=Blk.cell d.o 1;have y0:=Blk.frozen d.o 0;have y1:=Blk.frozen d.o 1;simp only[aG,aK]at E F;have l:=kp ((Blk.setCell d.o 0 (.i (52))).setCell 1 (.i (0)));go_wp2_with fail;have s:=l.o.cell 0;have z:=l.o.cell 1;simp only[aH,aI,aG,aK]at s z;exact aU (v:=.agg #[.i (52),.i (0)]) (by simp[results,Sr,go_sem,s,z]) rfl ⟨rfl,O.o.o 52 0⟩
  rw[aE L]at D;have G:=kp (fun W=>by
   have:=oK.2.2.2.2 o.i 0 ((m:Int)-1) W;rw[show aF o.i 0 ((m:Int)-1)=true by unfold aF; simp; omega]at this;exact this)
  obtain⟨i,U⟩:∃i:Nat,o.i=i:=⟨o.i.toNat,by omega⟩
  rw[U]at L o2 D G;rw[eR]at D;have a2:i<m:=by omega
  have g0:(i:Int)<m:=by omega
  obtain⟨b',c',post,Z,j1,b1,K,e0⟩:=b0.a.blk (by omega);have J:=k'3 Z K e0;have d0:(iv y.x.ws++post)[i]? =some (.i (y.x.ws.getD i 0)):=by
   rw[lS (by rw[fM]; omega),lU _ _ (by omega),kK,eK (by omega)]; rfl
  have z2:=K.cell i;have f2:=K.frozen i;rw[d0]at z2;obtain⟨zv,j0⟩:=nm' (y.x.ws.getD i 0);rw[j0]at z2 D;obtain⟨rfl,-,rfl⟩:=Value.slice.inj (Z.symm.trans q0.a);have HI:=kp U;have T:=kp f.o.res;go_wp2_with fail;refine mb' (G.o _) fun w' M=>?_;obtain rfl:=M.symm;have Y:=D.o;subst Y;have E:=Blk.cell T.o 0;have F:=Blk.cell T.o 1;have y0:=Blk.frozen T.o 0;have y1:=Blk.frozen T.o 1;simp only[aG,aK]at E F;have l:=kp ((Blk.setCell T.o 0 (.i (0))).setCell 1 (.i (zv)));go_wp2_with fail;have s:=l.o.cell 0;have z:=l.o.cell 1;simp only[aH,aI,aG,aK]at s z;exact aU (v:=.agg #[.i (0),.i (zv)]) (by simp[results,Sr,go_sem,s,z]) rfl ⟨rfl,f.o.o 0 _⟩
end
section
attribute [-go_sem] run_eql_struct run_neq_struct
theorem Jw(a b:Opn)(w:World):Sem.run prog (binOp .eql 43 (.agg a.cells.toArray) (.agg b.cells.toArray)) w=.ok (.bool (decide (a=b))) w:=by
 obtain⟨l,m,n,o,p,q,r⟩:=a;obtain⟨s,x,y,z,A,B,C⟩:=b;simp only[Opn.cells,Opn.mk.injEq];have j:prog.underlying 43=some (.struct (prog.fieldsOf 43)):=by kernel_rfl
 have k:prog.stoodInHeld 43=false:=by kernel_rfl
 rw[run_eql_struct,show (10000:Nat)=9999+1 from rfl,run_equalIn_agg w 9999 _ _ _ j k];simp only[Program.fieldsOf,underlying43]
 go_simp
 by_cases c:¬l=s
 .simp[c]
 replace c:=dQ.1 c
 subst c
 by_cases d:¬m=x
 .simp[d]
 replace d:=dQ.1 d
 subst d
 by_cases e:¬n=y
 .simp[e]
 replace e:=dQ.1 e
 subst e
 by_cases f:¬o=z
 .simp[f]
 replace f:=dQ.1 f
 subst f
 by_cases g:¬p=A
 .simp[g]
 replace g:=dQ.1 g
 subst g
 by_cases h:¬q=B
 .simp[h]
 replace h:=dQ.1 h
 subst h
 by_cases i:¬r=C
 .simp[i]
 replace i:=dQ.1 i
 subst i;simp
attribute [-go_sem] loadCellsFrom storeCells
attribute [local go_sem] bC
theorem Jx(n:Int)(w:World)(l:inR n):Calls prog 21 #[.i n] w fun e k=>e=.returned (.bool (kB n))∧k=w:=by
 obtain⟨r,f⟩:=nm' (kB n);have g:(decide (n.tmod 2=1)&&(decide (3≤n)&&decide (n≤7)))=r:=by
  rw[←f];unfold kB
  by_cases h:3≤n∧n≤7
  .have:n=3∨n=4∨n=5∨n=6∨n=7:=by omega
   rcases this with rfl|rfl|rfl|rfl|rfl<;>rfl
  .rw[show (decide (3≤n)&&decide (n≤7))=false by simp; omega,wI]
   symm
   simp;omega
 rw[f];obtain⟨a,d⟩:=nm' (decide (n.tmod 2=1));obtain⟨b,i⟩:=nm' (decide (3≤n));obtain⟨c,j⟩:=nm' (decide (n≤7));rw[d,i,j]at g;have m:((n.tmod 2:Int)==1)=a:=by rw[←d]; rfl
 go_enter func21,ntmps21
 cases a<;>cases b<;>cases c<;>subst g
 all_goals
  go_wp2_with fail;go_ret;exact⟨rfl,rfl⟩
theorem aC2(n:Int)(w:World):Calls prog 151 #[.i n] w fun e f=>e=.returned (.bool (aF n 0 900000000))∧f=w:=by
 unfold aF;obtain⟨a,c⟩:=nm' (decide (0≤n));obtain⟨b,d⟩:=nm' (decide (n≤900000000));rw[c,d];go_enter func151,ntmps151
 cases a<;>cases b
 all_goals
  go_wp2_with fail;go_ret;exact⟨rfl,rfl⟩
theorem Ka(nodes a:Int):(kB nodes=false∧mM nodes a=0)∨(kB nodes=true∧aF a 0 900000000=false∧mM nodes a=0)∨
  (kB nodes=true∧aF a 0 900000000=true∧(nodes=3∨nodes=5∨nodes=7)∧0≤a∧a≤900000000∧∃q,a.tmod nodes=q∧0≤q∧q<7∧mM nodes a=1+q):=by
 unfold mM
 cases h1:kB nodes
 .exact .inl ⟨rfl,by simp⟩
 cases h2:aF a 0 900000000
 .exact .inr (.inl ⟨rfl,rfl,by simp⟩)
 .refine .inr (.inr ⟨rfl,rfl,?_⟩);have c:nodes=3∨nodes=5∨nodes=7:=by unfold kB at h1; simpa using h1
  have b:0≤a∧a≤900000000:=by unfold aF at h2; simpa using h2
  refine⟨c,b.1,b.2,_,rfl,?_⟩;rw[aE ⟨rfl,rfl⟩,zM b.1];rcases c with rfl|rfl|rfl<;>exact⟨by omega,by omega,rfl⟩
theorem Uq(nodes h:Int)(w:World)(j:inR nodes):Calls prog 101 #[.i nodes,.i h] w fun e c=>e=.returned (.i (mM nodes h))∧c=w:=by
 have b:=kp (fun w=>Jx nodes w j);have g:=kp (aC2 h);rcases Ka nodes h with⟨d,f⟩|⟨d,i,f⟩|⟨d,i,j,m,n,q,s,p,r,f⟩
 .rw[d]at b;rw[f];go_enter func101,ntmps101;go_wp2_with fail;refine mb' (b.o _) fun c a=>?_;obtain rfl:=a.symm;go_wp2_with fail;go_ret;exact⟨rfl,rfl⟩
 .rw[d]at b;rw[i]at g;rw[f];go_enter func101,ntmps101;go_wp2_with fail;refine mb' (b.o _) fun c a=>?_;obtain rfl:=a.symm;go_wp2_with fail;refine mb' (g.o _) fun c a=>?_;obtain rfl:=a.symm;go_wp2_with fail;go_ret;exact⟨rfl,rfl⟩
 .rw[d]at b;rw[i]at g;rw[f];have l:¬nodes=0:=by omega
  have k:(1+q:Int)=q+1:=by omega
  rw[k];go_enter func101,ntmps101;go_wp2_with fail;refine mb' (b.o _) fun c a=>?_;obtain rfl:=a.symm;go_wp2_with fail;refine mb' (g.o _) fun c a=>?_;obtain rfl:=a.symm;go_wp2_with fail;go_ret;exact⟨rfl,rfl⟩
end
section
attribute [-go_sem] loadCellsFrom storeCells run_eql_struct run_neq_struct
attribute [local go_sem] bC
theorem dB{α:Type}{P:Program}{w:World}{B:Nat}{A:Option Addr}(k:Nat)(enc:α→List Value)(e:∀a,(enc a).length=k)(f:0<k){l:List α}(o:Rd w B A (aM enc l))(i:Nat)(m:i<l.length):
  ∃b c,A=some ⟨b,c,none⟩∧b<B∧(∀t u,(enc (l[i]))[t]? =some u→w.cell? ⟨b,c+i*k+t,none⟩=some u)∧
   ∀n,Sem.run P (loadCellsFrom ⟨b,c+i*k,none⟩ 0 k #[]) (w.drewN n)=.ok (enc (l[i])).toArray (w.drewN n):=by
 obtain⟨b,c,g,h,d,-⟩:=bV (P:=P) k e f o i m;refine⟨b,c,g,h,d,fun n=>?_⟩;have:=run_loadCells_list (P:=P) (w:=w.drewN n) ⟨b,c+i*k,none⟩ (enc (l[i])) (fun j v p=>by
  rw[Addr.add_lit];exact d j v p)
 rw[e]at this;simpa [loadCells] using this
theorem yF{α:Type}{P:Program}{w:World}{B:Nat}{A o:Option Addr}(k:Nat)(enc:α→List Value)(s:∀a,(enc a).length=k)(p:0<k){f g:List α}(D:Rd w B A (aM enc f))(E:Rd w B o (aM enc g))(i:Nat)(q:i<f.length)(r:i<g.length):
  ∃b j d m x y,A=some ⟨b,j,none⟩∧o=some ⟨d,m,none⟩∧(∀t u,(enc x)[t]? =some u→w.cell? ⟨b,j+i*k+t,none⟩=some u)∧(∀t u,(enc y)[t]? =some u→w.cell? ⟨d,m+i*k+t,none⟩=some u)∧
   (∀n,Sem.run P (loadCellsFrom ⟨b,j+i*k,none⟩ 0 k #[]) (w.drewN n)=.ok (enc x).toArray (w.drewN n))∧(∀n,Sem.run P (loadCellsFrom ⟨d,m+i*k,none⟩ 0 k #[]) (w.drewN n)=.ok (enc y).toArray (w.drewN n))∧
   (f.take (i+1)=f.take i++[x]∧g.take (i+1)=g.take i++[y]∧(x≠y→f≠g)):=by
 obtain⟨b,j,e,-,c,l⟩:=dB (P:=P) k enc s p D i q;obtain⟨d,m,C,-,z,l'⟩:=dB (P:=P) k enc s p E i r;exact⟨b,j,d,m,_,_,e,C,c,z,l,l',cV q,cV r,fun h e=>by subst e; exact h rfl⟩
theorem Dd(a b:En)(w:World):Sem.run prog (binOp .neq 93 (.agg a.cells.toArray) (.agg b.cells.toArray)) w=.ok (.bool (!decide (a=b))) w:=by
 obtain⟨p,q,s,x,y,z,A,B,C,D,r⟩:=a;obtain⟨E,F,H,I,J,K,L,M,N,O,G⟩:=b;simp only[En.cells,En.mk.injEq];have n:prog.underlying 93=some (.struct (prog.fieldsOf 93)):=by kernel_rfl
 have o:prog.stoodInHeld 93=false:=by kernel_rfl
 rw[run_neq_struct,show (10000:Nat)=9999+1 from rfl,run_equalIn_agg w 9999 _ _ _ n o];simp only[Program.fieldsOf,underlying93];clear n o
 go_simp
 by_cases c:¬p=E
 .simp[c]
 replace c:=dQ.1 c
 subst c
 by_cases d:¬q=F
 .simp[d]
 replace d:=dQ.1 d
 subst d
 by_cases f:¬s=H
 .simp[f]
 replace f:=dQ.1 f
 subst f
 by_cases g:¬x=I
 .simp[g]
 replace g:=dQ.1 g
 subst g
 by_cases h:¬y=J
 .simp[h]
 replace h:=dQ.1 h
 subst h
 by_cases i:¬z=K
 .simp[i]
 replace i:=dQ.1 i
 subst i
 by_cases j:¬A=L
 .simp[j]
 replace j:=dQ.1 j
 subst j
 by_cases k:¬B=M
 .simp[k]
 replace k:=dQ.1 k
 subst k
 by_cases l:¬C=N
 .simp[l]
 replace l:=dQ.1 l
 subst l
 by_cases m:¬D=O
 .simp[m]
 replace m:=dQ.1 m
 subst m
 by_cases e:¬r=G
 .simp[e]
 replace e:=dQ.1 e
 subst e;simp
theorem Kc(a b:Ak)(w:World):Sem.run prog (binOp .neq 109 (.agg a.cells.toArray) (.agg b.cells.toArray)) w=.ok (.bool (!decide (a=b))) w:=by
 obtain⟨g,h⟩:=a;obtain⟨i,j⟩:=b;simp only[Ak.cells,Ak.mk.injEq];have e:prog.underlying 109=some (.struct (prog.fieldsOf 109)):=by kernel_rfl
 have f:prog.stoodInHeld 109=false:=by kernel_rfl
 rw[run_neq_struct,show (10000:Nat)=9999+1 from rfl,run_equalIn_agg w 9999 _ _ _ e f];simp only[Program.fieldsOf,underlying109];clear e f
 go_simp
 by_cases c:¬g=i
 .simp[c]
 replace c:=dQ.1 c
 subst c
 by_cases d:¬h=j
 .simp[d]
 replace d:=dQ.1 d
 subst d;simp
theorem rN:(∀(g j:Value)(d f:List Int)(B:Nat)(w:World)(G:Sl w B g i1 d)(I:Sl w B j i1 f)(J:d.length≤1000000),Calls prog 139 #[g,j] w fun e O=>e=.returned (.bool (decide (d=f)))∧∃q,O=w.drewN q)∧(∀(g j:Value)(d f:List Int)(B:Nat)(w:World)(G:Sl w B g i1 d)(I:Sl w B j i1 f)(J:d.length≤1000000),Calls prog 36 #[g,j] w fun e O=>e=.returned (.bool (decide (d=f)))∧∃q,O=w.drewN q):=by
 refine⟨?q0,?q1⟩
 all_goals
  intro g j d f B w G I J;obtain⟨A,c,rfl,L,-,-⟩:=G;obtain⟨Z,c',rfl,M,-,-⟩:=I;obtain⟨n,l⟩:=nm' d.length;obtain⟨Y,m⟩:=nm' f.length;rw[l]at J ⊢;rw[m];obtain⟨r,s⟩:=nm' (decide (d=f));rw[s];have Q:=kp s
  by_cases p:¬n=Y
  .have m0:((n:Int) != (Y:Int))=true:=by simp; omega
   have N:r=false:=by rw[←s]; exact aX fun h=>by rw[←l,←m,h]at p; exact p rfl
   subst N;clear l m L M s
   first |go_enter func139,ntmps139|go_enter func36,ntmps36
   go_wp2_with fail;go_ret;exact⟨rfl,0,rfl⟩
  replace p:=dQ.1 p
  subst p;have H:=k'4 L l M m;clear l m L M s
  first |go_enter func139,ntmps139|go_enter func36,ntmps36
  go_wp2_with fail
  go_loopw [5] (fun i wr=>∃k:Nat,k≤n∧i=.i k∧d.take k=f.take k∧∃q,wr=w.drewN q) (fun i _=>n-(intOf i).toNat)
  case atStart=>exact⟨0,by omega,rfl,by simp,0,rfl⟩
  case round=>
   obtain⟨k,hk,rfl,X,q,K⟩:=hrel;have E:=kp K;have R:=kp (show Rd wr B A (aM i1 d)∧Rd wr B Z (aM i1 f) from by rw[K]; exact⟨H.a.drewN q,H.c.drewN q⟩);have S:=kp X;clear K X
   by_cases l0:k<n
   .have g3:(k:Int)<(n:Int):=by omega
    have a0:k<d.length:=by have:=H.b; omega
    have b0:k<f.length:=by have:=H.D; omega
    obtain⟨b,o0,b',p0,x,y,rfl,rfl,V,W,d0,e0,U⟩:=yF (P:=prog) 1 i1 cS (by omega) R.a R.B k a0 b0;have F:=kp U;clear U;have x0:=V 0 _ rfl;have y0:=W 0 _ rfl;simp only[cF,oF]at x0 y0;clear V W d0 e0
    by_cases z:x=y
    .subst z;go_wp2_with fail
     go_quiet (fail)
     go_wp2_with fail;go_roundw
     case rel=>exact⟨k+1,by omega,by go_num,by rw[F.a,F.b,S.o],_,by rw[E.o,World.drewN_drewN]⟩
     case measure=>simp[intOf]; omega
    .have N:r=false:=by rw[←Q.o]; exact aX (F.C z)
     subst N;have j0:(x != y)=true:=by simp[z]
     clear z;go_wp2_with fail
     go_quiet (fail)
     go_wp2_with fail;go_ret;exact⟨rfl,_,by rw[E.o,World.drewN_drewN]⟩
   .obtain rfl:k=n:=by omega
    have g0:r=true:=by
     rw[←Q.o];have T:=S.o;rw[cN (by have:=H.b; omega),cN (by have:=H.D; omega)]at T;exact bY T
    subst g0;go_wp2_with fail;go_ret;exact⟨rfl,_,E.o⟩
theorem Nq:(∀(g j:Value)(d f:List Bk)(B:Nat)(w:World)(K:Sl w B g Bk.cells d)(L:Sl w B j Bk.cells f)(M:d.length≤1000000),Calls prog 138 #[g,j] w fun e I=>e=.returned (.bool (decide (d=f)))∧∃q,I=w.drewN q)∧(∀(g j:Value)(d f:List Ak)(B:Nat)(w:World)(K:Sl w B g Ak.cells d)(L:Sl w B j Ak.cells f)(M:d.length≤1000000),Calls prog 39 #[g,j] w fun e I=>e=.returned (.bool (decide (d=f)))∧∃q,I=w.drewN q)∧(∀(g j:Value)(d f:List En)(B:Nat)(w:World)(K:Sl w B g En.cells d)(L:Sl w B j En.cells f)(M:d.length≤1000000),Calls prog 49 #[g,j] w fun e I=>e=.returned (.bool (decide (d=f)))∧∃q,I=w.drewN q):=by
 refine⟨?q0,?q1,?q2⟩
 case' q0=>have N:=True.intro
 case' q1=>have O:=True.intro
 all_goals
  intro g j d f B w K L M;obtain⟨A,c,rfl,X,-,-⟩:=K;obtain⟨Q,c',rfl,Y,-,-⟩:=L;obtain⟨n,s⟩:=nm' d.length;obtain⟨n',z⟩:=nm' f.length;rw[s]at M ⊢;rw[z];obtain⟨r,G⟩:=nm' (decide (d=f));rw[G];have HR:=kp G
  by_cases E:¬n=n'
  .have m0:((n:Int) != (n':Int))=true:=by simp; omega
   have Z:r=false:=by rw[←G]; exact aX fun h=>by rw[←s,←z,h]at E; exact E rfl
   subst Z;clear s z X Y G
   first |go_enter func138,ntmps138|go_enter func39,ntmps39|go_enter func49,ntmps49
   go_wp2_with fail;go_ret;exact⟨rfl,0,rfl⟩
  replace E:=dQ.1 E
  subst E;have H:=k'4 X s Y z;clear s z X Y G
  first |go_enter func138,ntmps138|go_enter func39,ntmps39|go_enter func49,ntmps49
  go_wp2_with fail
  go_loopw [5] (fun i wr=>∃k:Nat,k≤n∧i=.i k∧d.take k=f.take k∧∃q,wr=w.drewN q) (fun i _=>n-(intOf i).toNat)
  case atStart=>exact⟨0,by omega,rfl,by simp,0,rfl⟩
  case round=>
   obtain⟨k,hk,rfl,d0,q,F⟩:=hrel;have R:=kp F
   first
   |(have:=N; have l:=kp (show Rd wr B A (aM Bk.cells d)∧Rd wr B Q (aM Bk.cells f) from by rw[F]; exact⟨H.a.drewN q,H.c.drewN q⟩))
   |(have:=O; have l:=kp (show Rd wr B A (aM Ak.cells d)∧Rd wr B Q (aM Ak.cells f) from by rw[F]; exact⟨H.a.drewN q,H.c.drewN q⟩))
   |have l:=kp (show Rd wr B A (aM En.cells d)∧Rd wr B Q (aM En.cells f) from by rw[F]; exact⟨H.a.drewN q,H.c.drewN q⟩)
   have HT:=kp d0;clear F d0
   by_cases l0:k<n
   .have g3:(k:Int)<(n:Int):=by omega
    have V:k<d.length:=by have:=H.b; omega
    have W:k<f.length:=by have:=H.D; omega
    first
    |(have:=N; obtain⟨b,e0,b',g0,x,y,rfl,rfl,T,U,a0,b0,J⟩:=yF (P:=prog) 2 Bk.cells bM (by omega) l.a l.B k V W)
    |(have:=O; obtain⟨b,e0,b',g0,x,y,rfl,rfl,T,U,a0,b0,J⟩:=yF (P:=prog) 2 Ak.cells nH (by omega) l.a l.B k V W)
    |obtain⟨b,e0,b',g0,x,y,rfl,rfl,T,U,a0,b0,J⟩:=yF (P:=prog) 11 En.cells eL (by omega) l.a l.B k V W
    have S:=kp J;clear J;clear T U
    by_cases m:x=y
    .subst m
     first
     |(have:=N; have p:∀w:World,Sem.run prog (binOp .neq 150 (.agg x.cells.toArray) (.agg x.cells.toArray)) w=.ok (.bool false) w:=fun w=>by rw[cJ.1 x x w]; simp)
     |(have:=O; have p:∀w:World,Sem.run prog (binOp .neq 109 (.agg x.cells.toArray) (.agg x.cells.toArray)) w=.ok (.bool false) w:=fun w=>by rw[Kc x x w]; simp)
     |have p:∀w:World,Sem.run prog (binOp .neq 93 (.agg x.cells.toArray) (.agg x.cells.toArray)) w=.ok (.bool false) w:=fun w=>by rw[Dd x x w]; simp
     go_wp2_with fail
     go_quiet (fail)
     go_wp2_with fail;go_roundw
     case rel=>exact⟨k+1,by omega,by go_num,by rw[S.a,S.b,HT.o],_,by rw[R.o,World.drewN_drewN]⟩
     case measure=>simp[intOf]; omega
    .have Z:r=false:=by rw[←HR.o]; exact aX (S.C m)
     subst Z
     first
     |(have:=N; have p:∀w:World,Sem.run prog (binOp .neq 150 (.agg x.cells.toArray) (.agg y.cells.toArray)) w=.ok (.bool true) w:=fun w=>by rw[cJ.1 x y w,aX m]; rfl)
     |(have:=O; have p:∀w:World,Sem.run prog (binOp .neq 109 (.agg x.cells.toArray) (.agg y.cells.toArray)) w=.ok (.bool true) w:=fun w=>by rw[Kc x y w,aX m]; rfl)
     |have p:∀w:World,Sem.run prog (binOp .neq 93 (.agg x.cells.toArray) (.agg y.cells.toArray)) w=.ok (.bool true) w:=fun w=>by rw[Dd x y w,aX m]; rfl
     clear m;go_wp2_with fail
     go_quiet (fail)
     go_wp2_with fail;go_ret;exact⟨rfl,_,by rw[R.o,World.drewN_drewN]⟩
   .obtain rfl:k=n:=by omega
    have j0:r=true:=by
     rw[←HR.o];have h1:=HT.o;rw[cN (by have:=H.b; omega),cN (by have:=H.D; omega)]at h1;exact bY h1
    subst j0;go_wp2_with fail;go_ret;exact⟨rfl,_,R.o⟩
end
end Go.Proofs.YthalbagblhkeaaaGreat
