import Derived.Test.YtdoopoapbffpbaaGreatZ21
namespace Go.Proofs.YtdoopoapbffpbaaGreat
open Go.RowKit Go.Proofs.Tryz
set_option maxRecDepth 100000
set_option maxHeartbeats 12800000
set_option linter.unusedVariables false
set_option linter.unusedSimpArgs false
section
attribute [-go_sem] loadCellsFrom storeCells
attribute [local go_sem] bC
theorem Fv.row{w W W':World}{base j k l b:Nat}{p:HpV}{ps:List ObV}{o:Opn}{n:Nat}{y:ObV}{v:Value}{ws ls:List Int}(h:Fv w W base j k l p ps o)(C:∃f:n<ps.length,ps[n]=y)(q:v=y.wv∨v=y.lv)(B:v.ownBlock=some b)
  (A:Chg (fun i=>i=b) W W') (r:Ow W' base 3 1 y.wv i1 ws) (s:Ow W' base 3 1 y.lv i1 ls):
  Fv w W' base j k l ⟨{p.x with obs:=p.x.obs.set n {y.x with ws:=ws,ls:=ls}},p.ov,p.fv⟩ (ps.set n ⟨{y.x with ws:=ws,ls:=ls},y.wv,y.lv⟩) o:=by
 obtain⟨f,rfl⟩:=C;have a:Chg (fun i=>some i=v.ownBlock) W W':=A.mono fun i _ e=>by rw[B,e]
 have D:∃t,Ow W base 3 1 v i1 t:=by
  rcases q with rfl|rfl
  .exact⟨_,(h.hv.rws.row _ (bK f)).1⟩
  .exact⟨_,(h.hv.rws.row _ (bK f)).2⟩
 obtain⟨t,d⟩:=D;refine⟨⟨?_,h.hv.rws.upd f q a r s,?_,?_⟩,h.box.chg a (d.tagF h.box (by decide)),.of (h.op.blk.chg a (d.tagF h.op.blk (by decide))),h.r4.chg a (d.tagF h.r4 (by decide)),Blk.chg h.r5 a (d.tagF h.r5 (by decide)),h.bel.row h.h0 d (.inl rfl) a,h.h0,h.l2,h.l3⟩
 .have m:=(show Ow W base 90 5 p.ov ObV.cells ps from h.hv.obs).chg a fun i g e=>h.hv.obs.apt d (by decide) i g e.symm;have e:aM ObV.cells (ps.set n ⟨{ps[n].x with ws:=ws,ls:=ls},ps[n].wv,ps[n].lv⟩)=aM ObV.cells ps:=Jv f rfl;unfold Ow at m ⊢;rw[e,mI];exact m
 .show p.x.obs.set n _=_;rw[Ju,h.hv.eq]
 .exact aO.chg h.hv.free a fun i g e=>by
   obtain⟨c,z⟩:=aO.tag h.hv.free g;exact d.tagF z (by decide) e
section
variable {base:Nat}{p:HpV}{ps:List ObV}{o:Opn}{w:World}
def Res(base:Nat)(w:World)(R:Hp×Int×Int)(e:Ending)(w':World):Prop:=∃p' ps',e=.returned (.tuple #[.agg p'.cells.toArray,.agg #[.i R.2.1,.i R.2.2]])∧p'.x=R.1∧Wv w' base p' ps'∧Bz base w w'
theorem Res.of{a:World}{R:Hp×Int×Int}{p':HpV}{b:List ObV}(e:p'.x=R.1)(d:Wv a base p' b)(c:Bz base w a):Res base w R (.returned (.tuple #[.agg p'.cells.toArray,.agg #[.i R.2.1,.i R.2.2]])) a:=⟨p',b,rfl,e,d,c⟩
theorem Vb(o:Opn)(t:Int)(w:World)(h:Hv w base p ps)(d:base≤w.heap.size)(j:t<0):
  Calls prog 205 #[.agg p.cells.toArray,.agg o.cells.toArray,.i t] w (Res base w (p.x,51,0)):=by
 show Calls _ _ #[_,.agg #[.i o.k,.i o.h,.i o.i,.i o.n,.i o.m,.i o.v,.i o.t],_] _ _;obtain⟨s,y,z,A,F,G,H,I,f⟩:=Fv.of p o h d;have b:=kp f;have E:decide (t<0)=true:=by simp[j]
 clear f h d j;go_enter func205,ntmps205;have J:=b.o.box.load (P:=prog) (k:=8) rfl;obtain⟨C,D,K,L,l,r,g,e,-⟩:=b.o.fin (51) (0);have c:=k'2 g e;clear g e;go_wp2_with fail;exact aU (v:=.tuple #[.agg b.o.q.cells.toArray,.agg #[.i (51),.i (0)]]) (by simp[results,lA,go_sem,l,r,Fv.q]) rfl (Res.of rfl c.a c.B)
theorem Vc(o:Opn)(n:Nat)(w:World)(h:Hv w base p ps)(hb:base≤w.heap.size)(H:HOk p.x)(hn:n<ps.length):
  Calls prog 205 #[.agg p.cells.toArray,.agg o.cells.toArray,.i n] w (Res base w (iK p.x o n ps[n].x)):=by
 show Calls _ _ #[_,.agg #[.i o.k,.i o.h,.i o.i,.i o.n,.i o.m,.i o.v,.i o.t],_] _ _;obtain⟨W1,W2,W3,W4,j5,l5,m5,p5,hf⟩:=Fv.of p o h hb;obtain⟨y,hy⟩:=nm' (ps[n]);have HY:=kp (show ∃hk:n<ps.length,ps[n]=y from⟨hn,hy⟩);have e3:p.x.obs[n]? =some y.x:=by rw[h.eq]; simp[hn,hy]
 have HO:=kp e3;have l:=kp h.eq;have HH:=kp H;have e4:=kp (show ps.length≤256 by have:=H.len.1; have:=bG List.length h.eq; rw[cW]at this; omega);have d3:=H.lens (oY e3);obtain⟨R,hR⟩:=nm' (iK p.x o n y.x);have b1:=kp hR.symm;rw[hy,hR];have j3:=hf.hv.rws.row y (hy▸bK hn);obtain⟨Aw,cw,p1,-,y4,a5⟩:=j3.1.sl cS;obtain⟨Al,cl,m1,-,q4,z4⟩:=j3.2.sl cS;obtain⟨A,c,p3,q3,-,-⟩:=hf.hv.obs.sl cM;obtain⟨b,e5,rfl,-,-,b3⟩:=dB (P:=prog) 5 ObV.cells cM (by omega) q3 n hn;rw[hy]at b3;have O:Sem.run prog (loadCellsFrom ⟨b,e5+n*5,none⟩ 0 5 #[]) W4=.ok y.cells.toArray W4:=b3 0;have q1:=(cI.of hf.box).c1;obtain⟨N,hN⟩:=nm' ps.length;rw[p3,hN]at q1;have g1:(n:Int)<N:=by omega
 have g2:decide ((n:Int)<0)=false:=by simp
 have hz:Blk (W4.alloc (.cells z'5a 90)) W4.heap.size 90 z'5:=Blk.new W4 90 z'5;have o1:=hz.store (P:=prog) (cs':=y.cells) rfl (by
  unfold ObV.cells; rw[p1,m1];intro u hu;simp only[bA,dW,or_false]at hu;rcases hu with rfl|rfl|rfl|rfl|rfl<;>rfl)
 have m2:=((Chg.refl (fun i=>i=W4.heap.size) W4).alloc (.cells z'5a 90)).setRow (.inr rfl) y.cells.toArray;have y1:=hz.set y.cells;obtain⟨Z,m4⟩:=nm' ((W4.alloc (.cells z'5a 90)).setRow W4.heap.size y.cells.toArray);rw[m4]at o1 m2 y1;have d:=kp (hf.below (m2.below (fun i e=>fU e.symm) (aD _)));have p0:=kp (d.o.hv.rws.row y (hy▸bK hn));have j1:=k'2 p1 m1;have x3:=y1.cell 3;have x4:=y1.cell 4;simp only[ObV.cells,aG,aK]at x3 x4;rw[p1]at x3;rw[m1]at x4;have o0:=d.o.op.c0;have V:=d.o.op.c2;have o5:=d.o.op.c5;have o6:=d.o.op.c6;have y0:=d.o.box.load (P:=prog) (k:=8) rfl;have m3:=d3.1;have o3:=d3.2;clear d3 hf e3 j3 p1 m1 y4 a5 q4 z4 p3 q3 b3 hz m2 y1 h H hb hR hN hy hn;go_enter func205,ntmps205
 by_cases k2:o.k=2
 .have g4:(o.k==4)=false:=by simp[k2]
  have g7:(o.k==7)=false:=by simp[k2]
  have g3:(o.k==2)=true:=by simp[k2]
  obtain rfl:R=(nK p.x n y.x,0,0):=by rw[b1.o]; unfold iK; rw[aE k2]
  have d4:=kp (by
   obtain⟨hk,d5⟩:=HY.o;have:=Va n Z d.o.hv (aB d.o.h0 d.o.bel.size) HH.o hk;rw[d5]at this;exact this)
  clear k2;go_wp2_with fail;refine (d4.o).mono ?_;rintro e w6 ⟨p6,q5,rfl,a4,y3,l1⟩;dsimp only;obtain⟨J,W9,T,a0,D,E,g,f,-⟩:=y3.fin (l1.keep _ _ _ (by decide) (by decide) d.o.r4) (l1.keep _ _ _ (by decide) (by decide) d.o.r5) (d.o.bel.trans l1) d.o.h0 (dY d.o.l2) (dY d.o.l3) 0 0;have b2:=k'3 g f a4;clear g f y3 l1 a4 q1 x3 x4 o0 V o5 o6 y0 O o1;go_wp2_with fail;exact aU (v:=.tuple #[.agg p6.cells.toArray,.agg #[.i 0,.i 0]]) (by simp[results,lA,go_sem,D,E]) rfl (Res.of b2.C b2.a b2.b)
 have g3:(o.k==2)=false:=by simp[k2]
 by_cases k4:o.k=4
 .have g4:(o.k==4)=true:=by rw[k4]; rfl
  have g7:(o.k==7)=false:=by rw[k4]; rfl
  have g5:(o.k==3)=false:=by rw[k4]; rfl
  obtain⟨m,F⟩:=nm' y.x.ls.length;have HM:=kp F;have s:=kp (show R=if 0≤o.i∧o.i<m then (if dS p.x.obs o.t=true then ({p.x with obs:=p.x.obs.set n {y.x with ls:=y.x.ls.set o.i.toNat o.t}},0,0) else (p.x,51,0)) else (p.x,52,0) by
   rw[b1.o,←HM.o]; unfold iK; rw[aC k2,aE (.inl k4)]
   by_cases h:0≤o.i∧o.i<y.x.ls.length
   .rw[aE h,aE h]; rw[aE k4]
   .rw[aC h,aC h])
  rw[F]at o3 x4;clear k4
  by_cases z:0≤o.i∧o.i<m
  rotate_left
  .obtain rfl:R=(p.x,52,0):=by rw[s.o,aC z]
   by_cases S:o.i<0
   .have g8:decide (o.i<0)=true:=by simp[S]
    clear z S F;have O:=d.o.box.load (P:=prog) (k:=8) rfl;obtain⟨J,W9,T,a0,D,E,g,f,-⟩:=d.o.fin (52) (0);have l:=k'2 g f;clear g f;go_wp2_with fail;exact aU (v:=.tuple #[.agg d.o.q.cells.toArray,.agg #[.i (52),.i (0)]]) (by simp[results,lA,go_sem,D,E,Fv.q]) rfl (Res.of rfl l.a l.B)
   .have g8:decide (o.i<0)=false:=by simp; omega
    have g9:decide ((m:Int)≤o.i)=true:=by simp; omega
    clear z S F;have O:=d.o.box.load (P:=prog) (k:=8) rfl;obtain⟨J,W9,T,a0,D,E,g,f,-⟩:=d.o.fin (52) (0);have l:=k'2 g f;clear g f;go_wp2_with fail;exact aU (v:=.tuple #[.agg d.o.q.cells.toArray,.agg #[.i (52),.i (0)]]) (by simp[results,lA,go_sem,D,E,Fv.q]) rfl (Res.of rfl l.a l.B)
  rw[aE z]at s;obtain⟨i,Q⟩:∃i:Nat,o.i=i:=⟨o.i.toNat,by omega⟩
  rw[Q]at z V s;rw[eR]at s;have j0:i<m:=by omega
  have g0:(i:Int)<m:=by omega
  have g8:decide ((i:Int)<0)=false:=by simp
  have g9:decide ((m:Int)≤(i:Int))=false:=by simp; omega
  obtain⟨K,c',post,U,p2,j2,I,d0⟩:=p0.B.blk (by omega);have Y:=k'3 U I d0;have G:(iv y.x.ls++post)[i]? =some (.i (y.x.ls.getD i 0)):=by
   rw[lS (by rw[fM]; omega),lU _ _ (by omega),kK,eK (by omega)]; rfl
  have M:=I.cell i;have f2:=I.frozen i;rw[G]at M;obtain⟨zv,e0⟩:=nm' (y.x.ls.getD i 0);rw[e0]at M G;have q0:=kp G;clear e0;obtain⟨rfl,-,rfl⟩:=Value.slice.inj (U.symm.trans j1.B);have HI:=kp Q;clear z Q U I d0 G F;have d2:=kp (tN p ps o.t Z.heap.size Z (d.o.hv.obs.sl cM) (aD _) (by have:=e4.o; omega));obtain⟨r,hr⟩:=nm' (dS (ps.map (·.x)) o.t);rw[hr]at d2;rw[l.o,hr,←l.o]at s;clear hr
  cases r
  .obtain rfl:R=(p.x,51,0):=by rw[s.o]; rfl
   clear j0;go_wp2_with fail;refine mb' (d2.o) fun w6 l0=>?_;have b0:=kp (d.o.below l0);clear l0 o0 V o5 o6 M f2 x3 x4 y0;have O:=b0.o.box.load (P:=prog) (k:=8) rfl;obtain⟨J,W9,T,a0,D,E,g,f,-⟩:=b0.o.fin (51) (0);have l:=k'2 g f;clear g f;go_wp2_with fail;exact aU (v:=.tuple #[.agg b0.o.q.cells.toArray,.agg #[.i (51),.i (0)]]) (by simp[results,lA,go_sem,D,E,Fv.q]) rfl (Res.of rfl l.a l.B)
  .obtain rfl:R=({p.x with obs:=p.x.obs.set n {y.x with ls:=y.x.ls.set i o.t}},0,0):=by rw[s.o]; rfl
   go_wp2_with fail;refine mb' (d2.o) fun w6 l0=>?_;have b0:=kp (d.o.below l0);have z1:=kp (Y.b.below l0 Y.b.lt);have j4:=kp (p0.a.below l0);clear l0 o0 V o5 o6 M f2 x3 x4 y0;have V:=b0.o.op.c2;have o6:=b0.o.op.c6;rw[HI.o]at V;have M:=z1.o.cell i;have f2:=z1.o.frozen i;rw[q0.o]at M;have y2:=b0.o.row HY.o (.inr rfl) (by rw[Y.a]; rfl) ((Chg.refl (fun i=>i=K) w6).setCell (.inr rfl) i (.i o.t)) (ws:=y.x.ws) (ls:=y.x.ls.set i o.t) (j4.o.chg ((Chg.refl (fun i=>i=K) w6).setCell (.inr rfl) i (.i o.t)) fun j hj e=>by
    obtain⟨hk,rfl⟩:=HY.o;exact b0.o.hv.rws.self hk j hj (by rw[Y.a,e]; rfl)) (Y.C _ _ (mI ..) (by
    have:=z1.o.setCell i (.i o.t);rw[zT _ _ (by rw[fM,HM.o]; omega)]at this;unfold iv at *
    rwa [pD]))
   obtain⟨W7,p4⟩:=nm' (w6.setCell ⟨K,i,none⟩ (.i o.t));rw[p4]at y2;have a2:=kp y2;clear y2 j0;have O:=a2.o.box.load (P:=prog) (k:=8) rfl;obtain⟨J,W9,T,a0,D,E,g,f,-⟩:=a2.o.fin (0) (0);have l:=k'2 g f;clear g f;go_wp2_with fail;exact aU (v:=.tuple #[.agg a2.o.q.cells.toArray,.agg #[.i (0),.i (0)]]) (by simp[results,lA,go_sem,D,E,Fv.q]) rfl (Res.of rfl l.a l.B)
 by_cases k7:o.k=7
 .have g4:(o.k==4)=false:=by rw[k7]; rfl
  have g7:(o.k==7)=true:=by rw[k7]; rfl
  have g5:(o.k==3)=false:=by rw[k7]; rfl
  obtain⟨m,F⟩:=nm' y.x.ls.length;have HM:=kp F;have s:=kp (show R=if 0≤o.i∧o.i<m then (p.x,0,y.x.ls.getD o.i.toNat 0) else (p.x,52,0) by
   rw[b1.o,←HM.o]; unfold iK; rw[aC k2,aE (.inr k7)]
   by_cases h:0≤o.i∧o.i<y.x.ls.length
   .rw[aE h,aE h]; rw[aC k4]
   .rw[aC h,aC h])
  rw[F]at o3 x4;clear k7
  by_cases z:0≤o.i∧o.i<m
  rotate_left
  .obtain rfl:R=(p.x,52,0):=by rw[s.o,aC z]
   by_cases S:o.i<0
   .have g8:decide (o.i<0)=true:=by simp[S]
    clear z S F;have O:=d.o.box.load (P:=prog) (k:=8) rfl;obtain⟨J,W9,T,a0,D,E,g,f,-⟩:=d.o.fin (52) (0);have l:=k'2 g f;clear g f;go_wp2_with fail;exact aU (v:=.tuple #[.agg d.o.q.cells.toArray,.agg #[.i (52),.i (0)]]) (by simp[results,lA,go_sem,D,E,Fv.q]) rfl (Res.of rfl l.a l.B)
   .have g8:decide (o.i<0)=false:=by simp; omega
    have g9:decide ((m:Int)≤o.i)=true:=by simp; omega
    clear z S F;have O:=d.o.box.load (P:=prog) (k:=8) rfl;obtain⟨J,W9,T,a0,D,E,g,f,-⟩:=d.o.fin (52) (0);have l:=k'2 g f;clear g f;go_wp2_with fail;exact aU (v:=.tuple #[.agg d.o.q.cells.toArray,.agg #[.i (52),.i (0)]]) (by simp[results,lA,go_sem,D,E,Fv.q]) rfl (Res.of rfl l.a l.B)
  rw[aE z]at s;obtain⟨i,Q⟩:∃i:Nat,o.i=i:=⟨o.i.toNat,by omega⟩
  rw[Q]at z V s;rw[eR]at s;have j0:i<m:=by omega
  have g0:(i:Int)<m:=by omega
  have g8:decide ((i:Int)<0)=false:=by simp
  have g9:decide ((m:Int)≤(i:Int))=false:=by simp; omega
  obtain⟨K,c',post,U,p2,j2,I,d0⟩:=p0.B.blk (by omega);have Y:=k'3 U I d0;have G:(iv y.x.ls++post)[i]? =some (.i (y.x.ls.getD i 0)):=by
   rw[lS (by rw[fM]; omega),lU _ _ (by omega),kK,eK (by omega)]; rfl
  have M:=I.cell i;have f2:=I.frozen i;rw[G]at M;obtain⟨zv,e0⟩:=nm' (y.x.ls.getD i 0);rw[e0]at M G s;have q0:=kp G;clear e0;obtain⟨rfl,-,rfl⟩:=Value.slice.inj (U.symm.trans j1.B);have HI:=kp Q;clear z Q U I d0 G F;clear j0;obtain rfl:=s.o;go_wp2_with fail;have hD:=d.o.below (bR (aL _ _));obtain⟨J,W9,T,a0,D,E,g,f,m0⟩:=hD.fin 0 zv;have a1:=k'2 g f;have HD:=kp hD;have z0:=kp m0;have z3:Z.drew.cell? ⟨K,i,none⟩=some (.i zv)∧J.cell? ⟨K,i,none⟩=some (.i zv):=by
   have hk:Blk Z.drew K 3 _:=Y.b;have a3:=hk.chg m0 (hk.ne (show Blk Z.drew W2.heap.size 29 kE from d.o.r4) (by decide));have h1:=hk.cell i;have h2:=a3.cell i;rw[q0.o]at h1 h2;exact⟨h1,h2⟩
  clear g f hD m0 o0 V o5 o6 x3 x4 q1 O o1 y0 M f2;refine fR 8 (Two 7 Z.drew J) (fun _=>fK) (by kernel_rfl) (by kernel_rfl) (Two.start _ _ _) ?_
  iterate 7 (refine bO ?_; apply Exists.intro)
  refine bS eM ?_;refine dR ⟨?persk7,?walkk7⟩
  case walkk7=>
   have e2:=kp (show w.heap.size≠W2.heap.size from uI d.o.l2);have HZ:=kp z3
   iterate 7
    apply Ug (by kernel_rfl) (by intro t w h; cases h; exact trivial) rfl
    .intro X W' L hX hw hV hF;have d1:=L.all (P:=fun W=>Blk W w.heap.size 29 p.cells) HD.o.box (HD.o.box.chg z0.o e2.o);have e1:=L.all (P:=fun W=>jM W W1.heap.size o) HD.o.op (.of (HD.o.op.blk.chg z0.o (HD.o.op.blk.ne HD.o.r4 (by decide))));have b5:=L.all (P:=fun W=>W.cell? ⟨K,i,none⟩=some (.i zv)) HZ.a HZ.B;have O:=d1.load (P:=prog) (k:=8) rfl;have V:=e1.c2;rw[HI.o]at V;clear d1 e1;go_wp2_with fail;exact⟨rfl,_,rfl,L.other (by decide),aV,rfl⟩
    simp only[Act.put,aN,aH,aI,aT,aW]
   refine⟨fun X W' L hX hw hV hF=>?_,fun u7=>?_⟩
   .obtain rfl:=L.1 hX;go_wp2_with fail;exact⟨rfl,undef,rfl,Two.at_,aV,trivial⟩
   simp only[Act.put,aT,aW];intro l4 L hF;clear hF;obtain rfl:=L.2 rfl;simp only[dO,dP];clear T;go_wp2_with fail;exact aU (v:=.tuple #[.agg p.cells.toArray,.agg #[.i 0,.i zv]]) (by simp[results,lA,go_sem,D,E]) rfl (Res.of rfl a1.a a1.B)
  case persk7=>exact⟨pv',pv',pv',pv',pv',pv',pv',fun _ _ _ _ _ h _=>h,trivial⟩
 by_cases k3:o.k=3
 .have g4:(o.k==4)=false:=by rw[k3]; rfl
  have g7:(o.k==7)=false:=by rw[k3]; rfl
  have g5:(o.k==3)=true:=by rw[k3]; rfl
  obtain⟨m,F⟩:=nm' y.x.ws.length;have HM:=kp F;have s:=kp (show R=if 0≤o.i∧o.i<m then ({p.x with obs:=p.x.obs.set n {y.x with ws:=y.x.ws.set o.i.toNat o.v}},0,0) else (p.x,52,0) by
   rw[b1.o,←HM.o]; unfold iK; rw[aC k2,aC (by omega)]
   by_cases h:0≤o.i∧o.i<y.x.ws.length
   .rw[aE h,aE h]; rw[aE k3]
   .rw[aC h,aC h])
  rw[F]at m3 x3;clear k3
  by_cases z:0≤o.i∧o.i<m
  rotate_left
  .obtain rfl:R=(p.x,52,0):=by rw[s.o,aC z]
   by_cases S:o.i<0
   .have g8:decide (o.i<0)=true:=by simp[S]
    clear z S F;have O:=d.o.box.load (P:=prog) (k:=8) rfl;obtain⟨J,W9,T,a0,D,E,g,f,-⟩:=d.o.fin (52) (0);have l:=k'2 g f;clear g f;go_wp2_with fail;exact aU (v:=.tuple #[.agg d.o.q.cells.toArray,.agg #[.i (52),.i (0)]]) (by simp[results,lA,go_sem,D,E,Fv.q]) rfl (Res.of rfl l.a l.B)
   .have g8:decide (o.i<0)=false:=by simp; omega
    have g9:decide ((m:Int)≤o.i)=true:=by simp; omega
    clear z S F;have O:=d.o.box.load (P:=prog) (k:=8) rfl;obtain⟨J,W9,T,a0,D,E,g,f,-⟩:=d.o.fin (52) (0);have l:=k'2 g f;clear g f;go_wp2_with fail;exact aU (v:=.tuple #[.agg d.o.q.cells.toArray,.agg #[.i (52),.i (0)]]) (by simp[results,lA,go_sem,D,E,Fv.q]) rfl (Res.of rfl l.a l.B)
  rw[aE z]at s;obtain⟨i,Q⟩:∃i:Nat,o.i=i:=⟨o.i.toNat,by omega⟩
  rw[Q]at z V s;rw[eR]at s;have j0:i<m:=by omega
  have g0:(i:Int)<m:=by omega
  have g8:decide ((i:Int)<0)=false:=by simp
  have g9:decide ((m:Int)≤(i:Int))=false:=by simp; omega
  obtain⟨K,c',post,U,p2,j2,I,d0⟩:=p0.a.blk (by omega);have Y:=k'3 U I d0;have G:(iv y.x.ws++post)[i]? =some (.i (y.x.ws.getD i 0)):=by
   rw[lS (by rw[fM]; omega),lU _ _ (by omega),kK,eK (by omega)]; rfl
  have M:=I.cell i;have f2:=I.frozen i;rw[G]at M;obtain⟨zv,e0⟩:=nm' (y.x.ws.getD i 0);rw[e0]at M G;have q0:=kp G;clear e0;obtain⟨rfl,-,rfl⟩:=Value.slice.inj (U.symm.trans j1.a);have HI:=kp Q;clear z Q U I d0 G F;have q2:=d.o.row HY.o (.inl rfl) (by rw[Y.a]; rfl) ((Chg.refl (fun i=>i=K) Z).setCell (.inr rfl) i (.i o.v)) (ws:=y.x.ws.set i o.v) (ls:=y.x.ls) (Y.C _ _ (mI ..) (by
   have:=Y.b.setCell i (.i o.v);rw[zT _ _ (by rw[fM,HM.o]; omega)]at this;unfold iv at *
   rwa [pD])) (p0.B.chg ((Chg.refl (fun i=>i=K) Z).setCell (.inr rfl) i (.i o.v)) fun j hj e=>by
    obtain⟨hk,rfl⟩:=HY.o;exact d.o.hv.rws.self hk j (by rw[Y.a,e]; rfl) hj)
  obtain⟨W6,o4⟩:=nm' (Z.setCell ⟨K,i,none⟩ (.i o.v));rw[o4]at q2;have b0:=kp q2;clear q2 j0;obtain rfl:=s.o;clear y0;have O:=b0.o.box.load (P:=prog) (k:=8) rfl;obtain⟨J,W9,T,a0,D,E,g,f,-⟩:=b0.o.fin (0) (0);have l:=k'2 g f;clear g f;go_wp2_with fail;exact aU (v:=.tuple #[.agg b0.o.q.cells.toArray,.agg #[.i (0),.i (0)]]) (by simp[results,lA,go_sem,D,E,Fv.q]) rfl (Res.of rfl l.a l.B)
 .have g4:(o.k==4)=false:=by simp[k4]
  have g7:(o.k==7)=false:=by simp[k7]
  have g5:(o.k==3)=false:=by simp[k3]
  obtain⟨m,F⟩:=nm' y.x.ws.length;have HM:=kp F;have s:=kp (show R=if 0≤o.i∧o.i<m then (p.x,0,y.x.ws.getD o.i.toNat 0) else (p.x,52,0) by
   rw[b1.o,←HM.o]; unfold iK; rw[aC k2,aC (by omega)]
   by_cases h:0≤o.i∧o.i<y.x.ws.length
   .rw[aE h,aE h]; rw[aC k3]
   .rw[aC h,aC h])
  rw[F]at m3 x3
  by_cases z:0≤o.i∧o.i<m
  rotate_left
  .obtain rfl:R=(p.x,52,0):=by rw[s.o,aC z]
   by_cases S:o.i<0
   .have g8:decide (o.i<0)=true:=by simp[S]
    clear z S F;have O:=d.o.box.load (P:=prog) (k:=8) rfl;obtain⟨J,W9,T,a0,D,E,g,f,-⟩:=d.o.fin (52) (0);have l:=k'2 g f;clear g f;go_wp2_with fail;exact aU (v:=.tuple #[.agg d.o.q.cells.toArray,.agg #[.i (52),.i (0)]]) (by simp[results,lA,go_sem,D,E,Fv.q]) rfl (Res.of rfl l.a l.B)
   .have g8:decide (o.i<0)=false:=by simp; omega
    have g9:decide ((m:Int)≤o.i)=true:=by simp; omega
    clear z S F;have O:=d.o.box.load (P:=prog) (k:=8) rfl;obtain⟨J,W9,T,a0,D,E,g,f,-⟩:=d.o.fin (52) (0);have l:=k'2 g f;clear g f;go_wp2_with fail;exact aU (v:=.tuple #[.agg d.o.q.cells.toArray,.agg #[.i (52),.i (0)]]) (by simp[results,lA,go_sem,D,E,Fv.q]) rfl (Res.of rfl l.a l.B)
  rw[aE z]at s;obtain⟨i,Q⟩:∃i:Nat,o.i=i:=⟨o.i.toNat,by omega⟩
  rw[Q]at z V s;rw[eR]at s;have j0:i<m:=by omega
  have g0:(i:Int)<m:=by omega
  have g8:decide ((i:Int)<0)=false:=by simp
  have g9:decide ((m:Int)≤(i:Int))=false:=by simp; omega
  obtain⟨K,c',post,U,p2,j2,I,d0⟩:=p0.a.blk (by omega);have Y:=k'3 U I d0;have G:(iv y.x.ws++post)[i]? =some (.i (y.x.ws.getD i 0)):=by
   rw[lS (by rw[fM]; omega),lU _ _ (by omega),kK,eK (by omega)]; rfl
  have M:=I.cell i;have f2:=I.frozen i;rw[G]at M;obtain⟨zv,e0⟩:=nm' (y.x.ws.getD i 0);rw[e0]at M G s;have q0:=kp G;clear e0;obtain⟨rfl,-,rfl⟩:=Value.slice.inj (U.symm.trans j1.a);have HI:=kp Q;clear z Q U I d0 G F;clear j0;obtain rfl:=s.o;go_wp2_with fail;have hD:=d.o.below (bR (aL _ _));obtain⟨J,W9,T,a0,D,E,g,f,m0⟩:=hD.fin 0 zv;have a1:=k'2 g f;have HD:=kp hD;have z0:=kp m0;have z3:Z.drew.cell? ⟨K,i,none⟩=some (.i zv)∧J.cell? ⟨K,i,none⟩=some (.i zv):=by
   have hk:Blk Z.drew K 3 _:=Y.b;have a3:=hk.chg m0 (hk.ne (show Blk Z.drew W2.heap.size 29 kE from d.o.r4) (by decide));have h1:=hk.cell i;have h2:=a3.cell i;rw[q0.o]at h1 h2;exact⟨h1,h2⟩
  clear g f hD m0 o0 V o5 o6 x3 x4 q1 O o1 y0 M f2;refine fR 8 (Two 7 Z.drew J) (fun _=>fK) (by kernel_rfl) (by kernel_rfl) (Two.start _ _ _) ?_
  iterate 7 (refine bO ?_; apply Exists.intro)
  refine bS eM ?_;refine dR ⟨?persko,?walkko⟩
  case walkko=>
   have e2:=kp (show w.heap.size≠W2.heap.size from uI d.o.l2);have HZ:=kp z3
   iterate 7
    apply Ug (by kernel_rfl) (by intro t w h; cases h; exact trivial) rfl
    .intro X W' L hX hw hV hF;have d1:=L.all (P:=fun W=>Blk W w.heap.size 29 p.cells) HD.o.box (HD.o.box.chg z0.o e2.o);have e1:=L.all (P:=fun W=>jM W W1.heap.size o) HD.o.op (.of (HD.o.op.blk.chg z0.o (HD.o.op.blk.ne HD.o.r4 (by decide))));have b5:=L.all (P:=fun W=>W.cell? ⟨K,i,none⟩=some (.i zv)) HZ.a HZ.B;have O:=d1.load (P:=prog) (k:=8) rfl;have V:=e1.c2;rw[HI.o]at V;clear d1 e1;go_wp2_with fail;exact⟨rfl,_,rfl,L.other (by decide),aV,rfl⟩
    simp only[Act.put,aN,aH,aI,aT,aW]
   refine⟨fun X W' L hX hw hV hF=>?_,fun u7=>?_⟩
   .obtain rfl:=L.1 hX;go_wp2_with fail;exact⟨rfl,undef,rfl,Two.at_,aV,trivial⟩
   simp only[Act.put,aT,aW];intro l4 L hF;clear hF;obtain rfl:=L.2 rfl;simp only[dO,dP];clear T;go_wp2_with fail;exact aU (v:=.tuple #[.agg p.cells.toArray,.agg #[.i 0,.i zv]]) (by simp[results,lA,go_sem,D,E]) rfl (Res.of rfl a1.a a1.B)
  case persko=>exact⟨pv',pv',pv',pv',pv',pv',pv',fun _ _ _ _ _ h _=>h,trivial⟩
end
end
end Go.Proofs.YtdoopoapbffpbaaGreat
