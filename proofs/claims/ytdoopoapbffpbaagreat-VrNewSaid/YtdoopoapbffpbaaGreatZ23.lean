import Derived.Test.YtdoopoapbffpbaaGreatZ22
import Derived.ChangeKeysEq
namespace Go.Proofs.YtdoopoapbffpbaaGreat
open Go.RowKit Go.Proofs.Tryz
set_option maxRecDepth 100000
set_option maxHeartbeats 12800000
set_option linter.unusedVariables false
set_option linter.unusedSimpArgs false
section
attribute [-go_sem] loadCellsFrom storeCells
attribute [local go_sem] bC
def sh3(X:Nat→Option Value):Nat→Option Value:=fun j=>X (j-3)
theorem CM.eqX{W W':World}{nx:Int}{b:Bk}{n m:Nat}{X Y:Nat→Option Value}(h:CM W nx b n m X W')(c:Y 8=X 8)(a:Y 11=X 11)(d:Y 12=X 12)(e:Y 13=X 13):CM W nx b n m Y W':=
 ⟨h.chg,by rw[c,a]; exact h.ws,by rw[a]; exact h.ls,by rw[d,c,a]; exact h.bd,by rw[e]; exact h.var⟩
theorem CM.oth3{W W':World}{nx:Int}{b:Bk}{n m:Nat}{X:Nat→Option Value}(h:CM W nx b n m (sh3 X) W')(j:Nat)(v:Value)(c:j≠5)(d:j≠8)(e:j≠9)(a:j≠10):CM W nx b n m (sh3 (bD X j v)) W':=
 h.eqX (aR (bL c)) (aR (bL d)) (aR (bL e)) (aR (bL a))
theorem Fv.grew{w W W':World}{base s y A:Nat}{p:HpV}{ps:List ObV}{o:Opn}{q:ObV}{v j:Value}{r:List Bk}{nx:Int}(h:Fv w W base s y A p ps o)(l:W.grownBy W' p.ov.ownBlock)(D:Ow W' base 90 5 v ObV.cells (ps++[q]))
  (m:Rws W base (ps++[q])) (B:OR W (fun i=>base≤i) 88 2 j Bk.cells r):
  Blk W' w.heap.size 29 p.cells∧Fv w (((W'.setCell ⟨w.heap.size,1,none⟩ v).setCell ⟨w.heap.size,7,none⟩ j).setCell ⟨w.heap.size,2,none⟩ (.i nx)) base s y A ⟨{p.x with obs:=p.x.obs++[q.x],free:=r,next:=nx},v,j⟩ (ps++[q]) o:=by
 have b:=h.hv.obs;have f:=fZ l;have d:=h.box.chg f (b.ne_blk h.box (by decide));have n:Rws W' base (ps++[q]):=⟨fun z k=>⟨b.other (m.row z k).1 (by decide) l,b.other (m.row z k).2 (by decide) l⟩,m.sep⟩
 have C:OR W' (fun i=>base≤i) 88 2 j Bk.cells r:=aO.chg B f fun i a e=>by
  obtain⟨c,G⟩:=aO.tag B a;exact b.ne_blk G (by decide) e
 have H:Bz base w W':=h.bel.row h.h0 b (.inr rfl) (f.mono fun i _ e=>e.symm);have g:=(((Chg.refl (fun i=>i=w.heap.size) W').setCell (.inr rfl) 1 v).setCell (.inr rfl) 7 j).setCell (.inr rfl) 2 (.i nx);have E:=h.l2;have F:=h.l3;refine⟨d,⟨D.chg g fun i a e=>D.ne_blk d (by decide) (e▸a),n.chg g fun z k _ e=>⟨fun a=>(n.row z k).1.tagF d (by decide) (e▸a.symm),fun a=>(n.row z k).2.tagF d (by decide) (e▸a.symm)⟩,?_,aO.chg C g fun _ a e=>aO.not_blk C d (by decide) (e▸a)⟩,
  ((d.setCell 1 v).setCell 7 j).setCell 2 (.i nx),.of ((h.op.blk.chg f (b.ne_blk h.op.blk (by decide))).chg g ((h.op.blk.chg f (b.ne_blk h.op.blk (by decide))).ne d (by decide))),(h.r4.chg f (b.ne_blk h.r4 (by decide))).chg g (by omega),Blk.chg (Blk.chg h.r5 f (b.ne_blk h.r5 (by decide))) g (by omega),H.new h.h0 g (aD _),h.h0,E,F⟩
 show p.x.obs++[q.x]=_;rw[gC,h.hv.eq]; rfl
theorem Vd{base:Nat}{p:HpV}{ps:List ObV}(o:Opn)(w:World)(h:Hv w base p ps)(hb:base≤w.heap.size)(H:HOk p.x):
  Calls prog 204 #[.agg p.cells.toArray,.agg o.cells.toArray] w (Res base w (fP p.x o.n o.m)):=by
 show Calls _ _ #[_,.agg #[.i o.k,.i o.h,.i o.i,.i o.n,.i o.m,.i o.v,.i o.t]] _ _;obtain⟨W1,W2,W3,W4,d7,e7,g7,j7,hf⟩:=Fv.of p o h hb;have f:=kp hf;have y:=kp h.eq;have HH:=kp H;have e4:=kp (show ps.length≤256 by have:=H.len.1; have:=bG List.length h.eq; rw[cW]at this; omega);obtain⟨R,hR⟩:=nm' (fP p.x o.n o.m);rw[hR];have HR:=kp hR;have o3:=hf.op.c3;have o4:=hf.op.c4;have k0:=hf.box.cell 0;have k2:=hf.box.cell 2;simp only[HpV.cells,aG,aK]at k0 k2;clear hf h hb H hR;go_enter func204,ntmps204;go_wp2_with fail;refine ms' (vG o.n o.m W4) ?_
 by_cases K:bX o.n o.m<0
 .obtain rfl:R=(p.x,53,0):=by rw[←HR.o]; unfold fP; rw[aE K]
  have g1:decide (bX o.n o.m<0)=true:=by simp[K]
  clear K o3 o4 k0 k2;have d1:=f.o.box.load (P:=prog) (k:=8) rfl;obtain⟨A,V,m0,l1,Q,S,s,r,-⟩:=f.o.fin (53) (0);have y:=k'2 s r;clear s r;go_wp2_with fail;exact aU (v:=.tuple #[.agg f.o.q.cells.toArray,.agg #[.i (53),.i (0)]]) (by simp[results,Au,go_sem,Q,S,Fv.q]) rfl (Res.of rfl y.a y.B)
 have g1:decide (bX o.n o.m<0)=false:=by simp; omega
 by_cases hx:1000000<p.x.next
 .obtain rfl:R=(p.x,2,0):=by rw[←HR.o]; unfold fP; rw[aC K,aE hx]
  have g2:decide (1000000<p.x.next)=true:=by simp[hx]
  clear K hx o3 o4 k0;have d1:=f.o.box.load (P:=prog) (k:=8) rfl;obtain⟨A,V,m0,l1,Q,S,s,r,-⟩:=f.o.fin (2) (0);have y:=k'2 s r;clear s r;go_wp2_with fail;exact aU (v:=.tuple #[.agg f.o.q.cells.toArray,.agg #[.i (2),.i (0)]]) (by simp[results,Au,go_sem,Q,S,Fv.q]) rfl (Res.of rfl y.a y.B)
 have g2:decide (1000000<p.x.next)=false:=by simp; omega
 obtain⟨c,b,p1,q3,j2,m2⟩:=Kg HH.o o.n o.m K;have z1:=kp (show R=match (if bX o.n o.m≤p.x.order then iY (bX o.n o.m) p.x.free else none) with
  |none=>(p.x,50,0)
  |some (b,free)=>({p.x with obs:=p.x.obs++[⟨p.x.next,b,List.replicate o.n.toNat 0,List.replicate o.m.toNat 0⟩],free:=free,next:=p.x.next+1},0,p.x.next) by rw[←HR.o]; unfold fP; rw[aC K,aC hx]; rfl)
 by_cases l3:p.x.order<bX o.n o.m
 .obtain rfl:R=(p.x,50,0):=by rw[z1.o,aC (by omega)]
  have g3:decide (p.x.order<bX o.n o.m)=true:=by simp[l3]
  clear K hx l3 o3 o4 q3 j2 m2;have d1:=f.o.box.load (P:=prog) (k:=8) rfl;obtain⟨A,V,m0,l1,Q,S,s,r,-⟩:=f.o.fin (50) (0);have y:=k'2 s r;clear s r;go_wp2_with fail;exact aU (v:=.tuple #[.agg f.o.q.cells.toArray,.agg #[.i (50),.i (0)]]) (by simp[results,Au,go_sem,Q,S,Fv.q]) rfl (Res.of rfl y.a y.B)
 have g3:decide (p.x.order<bX o.n o.m)=false:=by simp; omega
 have HC:=k'2 j2 m2;have l4:=kp (by
  have:=Ut p.x.order (bX o.n o.m) p.fv W4.heap.size p.x.free W4 f.o.hv.free.sl (aD _) ((lE HH.o.reg).2 HH.o.free) (by omega) (by omega);rw[q3]at this;exact this)
 obtain⟨nd,b3⟩:=nm' (bX o.n o.m);have d0:=k'2 b3 (oP K);have z5:=kp hx;rw[b3]at K l4 g1 g3 ⊢;have k7:=f.o.box.cell 7;simp only[HpV.cells,aG,aK]at k7;clear j2 m2 q3 HR l3 K hx b3;go_wp2_with fail;refine (l4.o).mono ?_;rintro e T ⟨v5,rfl,j3,q0⟩;dsimp only;obtain⟨A5,c5,rfl,-⟩:=j3.sl bM;have hz:=Blk.new T 88 [.i 0,.i 0];have o0:=hz.store (P:=prog) (cs':=b.cells) rfl (fun u hu=>gU b u hu);have y3:=hz.set b.cells;have o2:=((Chg.refl (fun i=>i=T.heap.size) T).alloc (.cells #[.i 0,.i 0] 88)).setRow (.inr rfl) b.cells.toArray;obtain⟨W6,b2⟩:=nm' ((T.alloc (.cells #[.i 0,.i 0] 88)).setRow T.heap.size b.cells.toArray);have e6:(T.alloc (.cells [Value.i 0,Value.i 0].toArray 88)).setRow T.heap.size b.cells.toArray=W6:=b2;rw[e6]at o0 y3;rw[b2]at o2;have y0:Bw' T W6:=o2.below (fun i e=>fU e.symm) (aD _);have I:=kp ((f.o.below q0).below y0);have a6:=kp (j3.below y0);have q1:=k'3 y3 q0.size (q0.on y0);clear j3 q0 hz y3 o2 y0 e6 o3 o4 k0 k2 k7
 by_cases hc:c=0
 rotate_left
 .have g4:(c != 0)=true:=by simp[hc]
  obtain rfl:R=(p.x,50,0):=by rw[z1.o,HC.a hc]
  clear hc;have d1:=I.o.box.load (P:=prog) (k:=8) rfl;obtain⟨A,V,m0,l1,Q,S,s,r,-⟩:=I.o.fin (50) (0);have y:=k'2 s r;clear s r;go_wp2_with fail;exact aU (v:=.tuple #[.agg I.o.q.cells.toArray,.agg #[.i (50),.i (0)]]) (by simp[results,Au,go_sem,Q,S,Fv.q]) rfl (Res.of rfl y.a y.B)
 subst hc;have j6:=kp (show R=({p.x with obs:=p.x.obs++[⟨p.x.next,b,List.replicate o.n.toNat 0,List.replicate o.m.toNat 0⟩],free:=p1,next:=p.x.next+1},0,p.x.next) by rw[z1.o,HC.B rfl]);obtain⟨l,e1⟩:∃l:Nat,o.n=l:=⟨o.n.toNat,by have:=d0.o; omega⟩
 obtain⟨j,a5⟩:∃j:Nat,o.m=j:=⟨o.m.toNat,by have:=d0.o; omega⟩
 have L:=k'2 e1 a5;obtain⟨i0,q4,g5,j5,l5⟩:=info_parts mL;have U:=k'4 q4 g5 j5 l5;clear e1 a5 q4 g5 j5 l5;go_wp2_with fail;clear o0 b2;refine fR 11 (fun X W'=>CM W6 p.x.next b l j (sh3 X) W') (fun _=>fK) (by kernel_rfl) (by kernel_rfl) ⟨bR (aL _ _),(fun _ h=>by cases h),(fun _ h=>by cases h),(fun _ h=>by cases h),fun _ h=>by cases h⟩ ?_
 iterate 5 (refine bO ?_; apply Exists.intro)
 refine bS eM ?_
 iterate 2 (refine bO ?_; apply Exists.intro)
 iterate 3 (refine bS eM ?_)
 refine dR ⟨?pers2,?walk2⟩
 case walk2=>
  iterate 5
   apply Ug (by kernel_rfl) (by intro t w h; cases h; exact trivial) rfl
   .intro X W' d N Z M E; have hh:=I.o.below d.chg; have k2:=hh.box.cell 2; simp only[HpV.cells,aG,aK]at k2; have o3:=hh.op.c3; have hk:=q1.a.below d.chg q1.a.lt; have s0:Sem.run prog (loadCellsFrom ⟨T.heap.size,0,none⟩ 0 2 #[]) W'=.ok #[.i b.a,.i b.o] W':=hk.load rfl; clear hh hk; go_wp2_with fail;exact⟨rfl,_,rfl,d.oth3 _ _ (by decide) (by decide) (by decide) (by decide),aV,rfl⟩
   simp only[Act.put,aN,aH,aI,aT,aW]
  refine⟨fun X W' d N Z M E=>?_,fun v5=>?_⟩
  .go_wp2_with (at_make; refine wpList_make_full _ rfl _ _ 33 rfl W'.heap.size 3 i0 (.i 0) 1 lT U.a U.b U.c .i64 .i64 _ _ l rfl rfl L.a L.a ?_ ?_ (aD _) ?_)
   .rw[U.D]; have:=d0.o; have:=L.o; omega
   .have:=d0.o; have:=L.o; unfold maxLen; omega
   intro w6 l0 y2;rw[yI]at l0;go_wp2_with fail;exact⟨rfl,_,rfl,(d.first N ((aL _ _).grown y2 (aD _) (by simp)) (by unfold Ow; rw[qL]; exact l0)).eqX rfl rfl rfl rfl,aV,trivial⟩
  simp only[Act.put,aN,aH,aI,aT,aW]
  iterate 2
   apply Ug (by kernel_rfl) (by intro t w h; cases h; exact trivial) rfl
   .intro X W' d N Z M E; have o4:=(I.o.below d.chg).op.c4; go_wp2_with fail;exact⟨rfl,_,rfl,d.oth3 _ _ (by decide) (by decide) (by decide) (by decide),aV,rfl⟩
   simp only[Act.put,aN,aH,aI,aT,aW]
  refine⟨fun X W' d N Z M E=>?_,fun v8=>?_⟩
  .go_wp2_with (at_make; refine wpList_make_full _ rfl _ _ 33 rfl W'.heap.size 3 i0 (.i 0) 1 lT U.a U.b U.c .i64 .i64 _ _ j rfl rfl L.B L.B ?_ ?_ (aD _) ?_)
   .rw[U.D]; have:=d0.o; have:=L.o; omega
   .have:=d0.o; have:=L.o; unfold maxLen; omega
   intro w6 l0 y2;rw[yI]at l0;go_wp2_with fail;exact⟨rfl,_,rfl,(d.second N ((aL _ _).grown y2 (aD _) (by simp)) (by unfold Ow; rw[qL]; exact l0)).eqX rfl rfl rfl rfl,aV,trivial⟩
  simp only[Act.put,aN,aH,aI,aT,aW];refine⟨fun X W' d N Z M E=>?_,fun v9=>?_⟩
  .have h8:X 5=some v5:=M 5 50 v5 (by kernel_rfl) (by kernel_rfl) (bT (by kernel_rfl)) rfl;have a2:X 8=some v8:=M 8 53 v8 (by kernel_rfl) (by kernel_rfl) (bT (by kernel_rfl)) rfl;obtain⟨G,c8,rfl,-⟩:=(d.ws v5 h8).1.sl cS;obtain⟨F,c11,rfl,-⟩:=(d.ls v8 a2).sl cS;have e2:=d.build h8 a2;simp only[qL]at e2;have m5:=kp e2;clear e2;clear h8 a2 d M E Z;go_wp2_with fail;exact⟨rfl,_,rfl,m5.o.eqX rfl rfl rfl rfl,aV,trivial⟩
  simp only[Act.put,aN,aH,aI,aT,aW];refine⟨fun X W' d N Z M E=>?_,fun a7=>?_⟩
  .go_wp2_with fail;exact⟨rfl,_,rfl,d.alloc.eqX rfl rfl rfl rfl,aV,trivial⟩
  simp only[Act.put,aN,aH,aI,aT,aW];intro W7 d E;clear E;simp only[dO,dP];obtain⟨z,z',e8,p4,rfl⟩:=d.bd v9 rfl;obtain rfl:v5=z:=by cases e8; rfl
  obtain rfl:v8=z':=by cases p4; rfl
  obtain⟨t,rfl,ht,Y⟩:=d.var a7 rfl;obtain⟨b0,e0⟩:=d.ws v5 rfl;have e0:=e0 v8 rfl;have a0:=d.ls v8 rfl;obtain⟨G,c8,rfl,-⟩:=b0.sl cS;obtain⟨F,c11,rfl,-⟩:=a0.sl cS;simp only[qL]at b0 e0 a0 ⊢;obtain⟨q,hq⟩:∃q:ObV,(⟨⟨p.x.next,b,List.replicate l 0,List.replicate j 0⟩,.slice G l c8,.slice F j c11⟩:ObV)=q:=⟨_,rfl⟩
  have p3:q.cells=[.i p.x.next,.i b.a,.i b.o,.slice G l c8,.slice F j c11]:=by rw[←hq]; rfl
  have o0:=Y.store (P:=prog) (cs':=[.i p.x.next,.i b.a,.i b.o,.slice G l c8,.slice F j c11]) rfl (fun u hu=>by
   simp only[bA,dW,or_false]at hu;rcases hu with rfl|rfl|rfl|rfl|rfl<;>rfl)
  have j0:=Y.set [.i p.x.next,.i b.a,.i b.o,.slice G l c8,.slice F j c11];have g0:=(Chg.refl (fun i=>i=t) W7).setRow (.inr rfl) [.i p.x.next,.i b.a,.i b.o,.slice G l c8,.slice F j c11].toArray;obtain⟨A,p6⟩:=nm' (W7.setRow t [.i p.x.next,.i b.a,.i b.o,.slice G l c8,.slice F j c11].toArray);rw[p6]at o0 j0 g0;have y6:=j0.load (P:=prog) (k:=5) rfl;have z0:Bw' W6 A:=d.chg.trans (g0.below (fun i e=>e▸ht) d.chg.size);have o6:W4.heap.size≤W6.heap.size:=q1.C.size;have z3:=kp (I.o.below z0);have d5:=b0.chg g0 fun i g e=>b0.tagF Y (by decide) (e▸g.symm);have b5:=a0.chg g0 fun i g e=>a0.tagF Y (by decide) (e▸g.symm);have o1:Sl (A.alloc (.cells q.cells.toArray 90)) (A.heap.size+1) (.slice (some ⟨A.heap.size,0,none⟩) 1 1) ObV.cells [q]:=eQ (enc:=ObV.cells) A 90 q;have O:=ba' A (.cells q.cells.toArray 90);rw[p3]at o1 O;obtain⟨V,q6⟩:=nm' (A.alloc (.cells #[.i p.x.next,.i b.a,.i b.o,.slice G l c8,.slice F j c11] 90));have e9:A.alloc (.cells [Value.i p.x.next,.i b.a,.i b.o,.slice G l c8,.slice F j c11].toArray 90)=V:=q6;rw[e9]at o1 O;have m6:=kp o1;have y1:=kp (z3.o.below O);have b6:=kp ((a6.o.below z0).below O);have p5:=kp (j0.below O j0.lt);have p0:w.heap.size≤W6.heap.size:=I.o.bel.size;have a1:=I.o.h0;have e5:∀i,p.ov.ownBlock=some i→i<W6.heap.size:=fun i g=>(I.o.hv.obs.lt g).2;have g6:=kp (show Rws V base (ps++[q]) by
   have h1:=(d5.below O).mono (aB a1 p0);have h2:=(b5.below O).mono (aB a1 p0);refine y1.o.hv.rws.snoc (by rw[←hq]; exact h1) (by rw[←hq]; exact h2) (by rw[←hq]; exact e0) fun z hz=>?_;have g1:=(I.o.hv.rws.row z hz).1;have g2:=(I.o.hv.rws.row z hz).2;rw[←hq];refine⟨fun i g hj=>?_,fun i g hj=>?_,fun i g hj=>?_,fun i g hj=>?_⟩
   .have:=(g1.lt g).2; have:=(b0.lt hj).1; omega
   .have:=(g1.lt g).2; have:=(a0.lt hj).1; omega
   .have:=(g2.lt g).2; have:=(b0.lt hj).1; omega
   .have:=(g2.lt g).2; have:=(a0.lt hj).1; omega)
  have HT:=k'3 ht e5 p3;have HQ:=kp hq;have k1:=z3.o.box.cell 1;have m4:base≤V.heap.size:=aB (aB a1 p0) (aB z0.size O.size);have l6:=kp m4;simp only[HpV.cells,aG,aK]at k1;clear d b0 e0 a0 ht Y e8 p4 j0 g0 z0 o6 d5 b5 o1 O e9 p0 a1 e5 hq p3 m4;go_wp2_with (at_builtin; refine eU (enc:=ObV.cells) V rfl (.tmp 56) (.tmp 58) 25 rfl base 90 pS nE rfl (by omega) cM y1.o.hv.obs rfl m6.o rfl (fun a ha=>?_) ?_ ?_ l6.o ?_)
  .rw[bQ.1 ha,HT.C];intro u hu;simp only[bA,dW,or_false]at hu;rcases hu with rfl|rfl|rfl|rfl|rfl<;>rfl
  .have:=e4.o; unfold maxLen; show ps.length+1≤_; omega
  .have:=e4.o; show (ps.length+1)*72≤_; omega
  intro va wa j1 z2;obtain⟨Aa,ca,rfl,-⟩:=j1.sl cM;simp only[bB,eV,mH,hY]at j1;obtain⟨J,q2⟩:=y1.o.grew (nx:=p.x.next+1) z2 j1 g6.o (OR.of_ow b6.o fun i g _=>aB (aB f.o.h0 f.o.bel.size) g);obtain⟨Wn,d2⟩:=nm' (((wa.setCell ⟨w.heap.size,1,none⟩ (.slice Aa (ps.length+1) ca)).setCell ⟨w.heap.size,7,none⟩ (.slice A5 p1.length c5)).setCell ⟨w.heap.size,2,none⟩ (.i (p.x.next+1)));rw[d2]at q2;have a3:=p5.o.chg (fZ z2) fun e=>by have:=HT.a; have:=HT.b _ e; omega
  have z4:Blk Wn t 90 [.i p.x.next,.i b.a,.i b.o,.slice G l c8,.slice F j c11]:=by
   rw[←d2];have d3:=a3.ne J (by decide);exact ((a3.otherCell d3 _ _).otherCell d3 _ _).otherCell d3 _ _
  have a4:=kp q2;have q5:=kp z4;have k1:=J.cell 1;have k2:=J.cell 2;have k7:=J.cell 7;have f1:=J.frozen 1;have f2:=J.frozen 2;have f7:=J.frozen 7;simp only[HpV.cells,aG,aK]at k1 k2 k7;have e3: -9223372036854775808≤p.x.next+1∧p.x.next+1≤9223372036854775807:=by have:=z5.o; have:=HH.o.next; omega
  have e1:=e3.1;have z6:=e3.2;clear j1 z2 J q2 a3 z4 e3;go_wp2_with fail;clear k1 k2 k7 f1 f2 f7 e1 z6 d2 o0 y6 g1 g2 g3;obtain⟨p9,m3⟩:∃p9:HpV,(⟨{p.x with obs:=p.x.obs++[q.x],free:=p1,next:=p.x.next+1},.slice Aa (ps.length+1) ca,.slice A5 p1.length c5⟩:HpV)=p9:=⟨_,rfl⟩
  rw[m3]at a4;have hD:=a4.o.below (bR (aL _ _));have b1:Blk Wn.drew t 90 _:=q5.o;obtain⟨V8,V9,m0,l1,Q,S,s,r,p2⟩:=hD.fin 0 p.x.next;have y4:=b1.chg p2 (b1.ne hD.r4 (by decide));have d4:=k'2 s r;have HD:=kp hD;have o5:=kp p2;have j4:=k'2 b1 y4;have d6:=kp m3;have y5:=kp (show w.heap.size≠W2.heap.size from uI f.o.l2);clear s r hD p2 b1 y4 m3;refine fR 5 (Two 4 Wn.drew V8) (fun _=>fK) (by kernel_rfl) (by kernel_rfl) (Two.start _ _ _) ?_
  iterate 4 (refine bO ?_; apply Exists.intro)
  refine bS eM ?_;refine dR ⟨?pers3,?walk3⟩
  case walk3=>
   iterate 4
    apply Ug (by kernel_rfl) (by intro t w h; cases h; exact trivial) rfl
    .intro X W' d N Z M E;have J:=d.all (P:=fun W=>Blk W w.heap.size 29 p9.cells) HD.o.box (HD.o.box.chg o5.o y5.o);have Y:=d.all (P:=fun W=>Blk W t 90 [.i p.x.next,.i b.a,.i b.o,.slice G l c8,.slice F j c11]) j4.a j4.B;have d1:=J.load (P:=prog) (k:=8) rfl;have t0:=Y.cell 0;simp only[aG]at t0;clear J Y;go_wp2_with fail;exact⟨rfl,_,rfl,d.other (by decide),aV,rfl⟩
    simp only[Act.put,aN,aH,aI,aT,aW]
   refine⟨fun X W' d N Z M E=>?_,fun u4=>?_⟩
   .obtain rfl:=d.1 N;go_wp2_with fail;exact⟨rfl,undef,rfl,Two.at_,aV,trivial⟩
   simp only[Act.put,aT,aW];intro b7 d E;clear E;obtain rfl:=d.2 rfl;simp only[dO,dP];clear m0;go_wp2_with fail;refine aU (v:=.tuple #[.agg p9.cells.toArray,.agg #[.i 0,.i p.x.next]]) (by simp[results,Au,go_sem,Q,S]) rfl ?_;rw[j6.o];refine Res.of (R:=(_,0,p.x.next)) ?_ d4.a d4.B;rw[←d6.o,←HQ.o,L.a,L.B]; rfl
  case pers3=>exact⟨pv',pv',pv',pv',fun _ _ _ _ _ h _=>h,trivial⟩
 case pers2=>exact⟨pv',pv',pv',pv',pv',fun _ _ _ _ _ h _=>h,pv',pv',fun _ _ _ _ _ h _=>h,fun _ _ _ _ _ h _=>h,fun _ _ _ _ _ h _=>h,trivial⟩
end
section
attribute [-go_sem] loadCellsFrom storeCells
attribute [local go_sem] bC
structure Dv(w W:World)(base a1 a2 a3:Nat)(p:HpV)(ps:List ObV)(o:Opn):Prop where
 hv:Hv W base p ps
 box:Blk W w.heap.size 29 p.cells
 op:jM W a1 o
 r4:Blk W a2 29 kE
 r5:bZ W a3 0 0
 bel:Bw' w W
 h1:base≤W.heap.size
 l0:w.heap.size<base∧a1<base∧a2<base∧a3<base
 l2:w.heap.size<a2∧w.heap.size<a3
section
variable {w W W':World}{base base2 a1 a2 a3:Nat}{p p':HpV}{ps ps':List ObV}{o:Opn}
theorem Wv.mono(h:Wv w base p ps)(a:base2≤base):Wv w base2 p ps:=⟨aO.mono h.obs fun _ _ h=>aB a h,h.rws.mono a,h.eq,aO.mono h.free fun _ _ h=>aB a h⟩
theorem Dv.below(h:Dv w W base a1 a2 a3 p ps o)(a:Bw' W W'):Dv w W' base a1 a2 a3 p ps o:=
 ⟨h.hv.below a,h.box.below a h.box.lt,h.op.below a,h.r4.below a h.r4.lt,h.r5.below a,h.bel.on a,aB h.h1 a.size,h.l0,h.l2⟩
theorem Dv.fin(h:Dv w W base a1 a2 a3 p ps o)(i:Wv W' base p' ps')(e:Bz base W W')(c d:Int):
  ∃b a,Sem.run prog (storeCells ⟨a2,0,none⟩ p'.cells 0) W'=.ok () b∧Sem.run prog (storeCells ⟨a3,0,none⟩ [.i c,.i d] 0) b=.ok () a∧
   Sem.run prog (loadCellsFrom ⟨a2,0,none⟩ 0 8 #[]) a=.ok p'.cells.toArray a∧Sem.run prog (loadCellsFrom ⟨a3,0,none⟩ 0 2 #[]) a=.ok #[.i c,.i d] a∧Wv a w.heap.size p' ps'∧Bw' w a:=by
 obtain⟨b,a,j,k,l,m,f,g,-⟩:=(i.mono (dY h.l0.1)).fin (h.r4.below e.bel h.l0.2.2.1) (Blk.below h.r5 e.bel h.l0.2.2.2) (.of (h.bel.trans (e.bel.mono (dY h.l0.1))) (aD _)) (aD _) (dY h.l2.1) (dY h.l2.2) c d;exact⟨b,a,j,k,l,m,f,g.bel⟩
theorem Bz.refl:Bz base W W:=⟨.refl _ _,fun _ _ _ _ _ h=>h⟩
end
structure CD(W:World)(base:Nat)(R:Hp×Int×Int)(X:Nat→Option Value)(W':World):Prop where
 bel:Below base W W'
 pre:X 6=none→Bw' W W'
 d5:X 5=none→X 6=none
 post:∀u,X 6=some u→∃p' ps',u=.tuple #[.agg p'.cells.toArray,.agg #[.i R.2.1,.i R.2.2]]∧p'.x=R.1∧Wv W' base p' ps'∧Bz base W W'
 e7:∀z,X 7=some z→∃y,X 6=some (.tuple #[z,y])
section
variable {W W' W2:World}{base:Nat}{R:Hp×Int×Int}{X:Nat→Option Value}{v z:Value}
theorem CD.other(h:CD W base R X W')(j:Nat)(v:Value)(b:j≠5)(a:j≠6)(c:j≠7):CD W base R (bD X j v) W':=by
 refine⟨h.bel,?_,?_,?_,?_⟩
 .rw[aR (bL a)]; exact h.pre
 .rw[aR (bL b),aR (bL a)]; exact h.d5
 .rw[aR (bL a)]; exact h.post
 .rw[aR (bL c),aR (bL a)]; exact h.e7
theorem CD.place(h:CD W base R X W')(f:X 5=none)(e:base≤W.heap.size)(b:Bw' W' W2):CD W base R (bD X 5 v) W2:=by
 have a:=h.d5 f;have c:=h.pre a;refine⟨h.bel.trans (b.mono (aB e c.size)),fun _=>c.on b,fun h=>by simp[bD]at h,fun u d=>?_,?_⟩
 .rw[aR (by decide),a]at d; cases d
 .rw[aR (by decide),aR (by decide)]; exact h.e7
theorem CD.obj(h:CD W base R X W')(c:X 6=none)(b:(X 5).isSome=true)(g:base≤W.heap.size){e:Ending}(l:Res base W' R e W2):∃p' ps',e=.returned (.tuple #[.agg p'.cells.toArray,.agg #[.i R.2.1,.i R.2.2]])∧CD W base R (bD X 6 (.tuple #[.agg p'.cells.toArray,.agg #[.i R.2.1,.i R.2.2]])) W2∧Wv W2 base p' ps':=by
 obtain⟨p',ps',j,n,d,i⟩:=l;have k:=h.pre c;have a:Bz base W W2:=(Bz.of k g).trans i;refine⟨p',ps',j,⟨a.bel,fun h=>by simp[bD]at h,fun h=>?_,fun u m=>?_,fun z a=>?_⟩,d⟩
 .rw[aR (by decide)]at h; rw[h]at b; cases b
 .cases m; exact⟨p',ps',rfl,n,d,a⟩
 .rw[aR (by decide)]at a; obtain⟨y,f⟩:=h.e7 z a; rw[c]at f; cases f
theorem CD.extr{y:Value}(h:CD W base R X W')(a:X 6=some (.tuple #[z,y])):CD W base R (bD X 7 z) W':=
 ⟨h.bel,h.pre,h.d5,h.post,fun u b=>by cases b; exact⟨y,a⟩⟩
end
theorem Kn(t:Int):∀(ps:List ObV),eI (fun p:ObV=>decide (p.x.h=t)) ps=match pP (ps.map (·.x)) t with |none=> -1|some n=>(n:Int)
 |[]=>rfl
 |x::l=>by
  have b:=Kn t l;unfold pP at b ⊢;unfold eI;rw[kM,List.findIdx?_cons]
  by_cases h:x.x.h=t
  .have a:decide (x.x.h=t)=true:=by simp[h]
   simp only[a,if_true]; rfl
  .have a:decide (x.x.h=t)=false:=by simp[h]
   simp only[a,qO,if_false];rw[b]
   cases List.findIdx? (fun x=>decide (x.h=t)) (l.map (·.x)) with
   |none=>rfl
   |some n=>show (if ((n:Int)= -1) then _ else _)=_; rw[aC (by omega)]; simp
theorem Ve{h:Hp}{o:Opn}{ps:List ObV}(b:h.obs=ps.map (·.x)):(eI (fun p:ObV=>decide (p.x.h=o.h)) ps<0∧atI h o=(h,51,0))∨∃n,∃a:n<ps.length,eI (fun p:ObV=>decide (p.x.h=o.h)) ps=n∧atI h o=iK h o n ps[n].x:=by
 rw[Kn];unfold atI;rw[b]
 cases hp:pP (ps.map (·.x)) o.h with
 |none=>exact .inl ⟨by show (-1:Int)<0; decide,rfl⟩
 |some n=>
  have a:n<ps.length:=by
   unfold pP at hp;have:=(List.findIdx?_eq_some_iff_getElem.1 hp).1;simpa using this
  refine .inr ⟨n,a,rfl,?_⟩;simp[a]
theorem Vf(p:HpV)(ps:List ObV)(o:Opn)(B:Nat)(w:World)(h:gH w B p ps)(hB:B≤w.heap.size)(H:HOk p.x):
  Calls prog 155 #[.agg p.cells.toArray,.agg o.cells.toArray] w fun e w'=>∃p' ps',e=.returned (.tuple #[.agg p'.cells.toArray,.agg #[.i (dU p.x o).2.1,.i (dU p.x o).2.2]])∧p'.x=(dU p.x o).1∧Wv w' w.heap.size p' ps'∧Bw' w w':=by
 show Calls _ _ #[_,.agg #[.i o.k,.i o.h,.i o.i,.i o.n,.i o.m,.i o.v,.i o.t]] _ _;generalize z1:w.alloc (.cells p.cells.toArray 29)=G;generalize a2:G.alloc (.cells #[.i o.k,.i o.h,.i o.i,.i o.n,.i o.m,.i o.v,.i o.t] 44)=W2;generalize d2:W2.alloc (.cells z'1a 29)=O;generalize j2:O.alloc (.cells #[.i 0,.i 0] 53)=Q;have b0:Blk G w.heap.size 29 p.cells:=z1▸Blk.new w 29 p.cells;have b1:Blk W2 G.heap.size 44 o.cells:=a2▸Blk.new G 44 o.cells;have b2:Blk O W2.heap.size 29 kE:=d2▸Blk.new W2 29 kE;have b3:bZ Q O.heap.size 0 0:=j2▸bZ.new O;have e1:Bw' w G:=z1▸ba' w _;have S:Bw' G W2:=a2▸ba' G _;have T:Bw' W2 O:=d2▸ba' W2 _;have U:Bw' O Q:=j2▸ba' O _;have g2:=b0.below S b0.lt;have g3:=b1.below T b1.lt;have d1:=g2.below T g2.lt;have y0:Bw' w Q:=((e1.on S).trans (T.mono (aB e1.size S.size))).trans (U.mono (aB (aB e1.size S.size) T.size));have s:=k'5 (d1.below U d1.lt) (g3.below U g3.lt) (b2.below U b2.lt) b3 y0;have HL:=k'6 (eA b0.lt (aB S.size (aB T.size U.size))) (eA b1.lt (aB T.size U.size)) (eA b2.lt U.size) b3.lt (eA b0.lt S.size) (eA b0.lt (aB S.size T.size));have j3:ps.length=p.x.obs.length:=by rw[h.2.1,cW]
 have q2:=kp (Kk p ps B Q (h.below y0 hB) (aB hB y0.size) (by have:=H.len; omega) (by have:=H.len; omega) (fun q hq=>by have:=H.lens (show q.x∈p.x.obs by rw[h.2.1]; exact cX.2 ⟨q,hq,rfl⟩); omega));have HH:=kp H;obtain⟨R,hR⟩:=nm' (dU p.x o);rw[hR];have HR:=kp hR;have e0:=s.a.load (P:=prog) (k:=8) rfl;clear b0 b1 b2 b3 e1 S T U g2 g3 d1 y0 j3 h H hR hB;go_enter func155,ntmps155;go_wp2_with fail;refine (q2.o).mono ?_;rintro e w5 ⟨g,m0,rfl,o2,J,M⟩;dsimp only;have j0:=s.a.below M s.a.lt;have a1:=j0.store (P:=prog) (cs':=g.cells) rfl J.wv.one;have l1:=j0.set g.cells;have I:=(Chg.refl (fun i=>i=w.heap.size) w5).setRow (.inr rfl) g.cells.toArray;obtain⟨L,z2⟩:=nm' (w5.setRow w.heap.size g.cells.toArray);rw[z2]at a1 l1 I;have hl:=HL.o;have m2:Hv L Q.heap.size g m0:=
  ⟨J.obs.chg I fun i hi e=>by have:=(J.obs.lt hi).1; omega,J.rws.chg I fun q hq i e=>⟨fun hi=>by have:=((J.rws.row q hq).1.lt hi).1; omega,fun hi=>by have:=((J.rws.row q hq).2.lt hi).1; omega⟩,J.eq,aO.chg J.free I fun i hi e=>by have:=(aO.lt J.free i hi).1; omega⟩
 have h5:=M.size;have f:=kp (show Dv w L Q.heap.size G.heap.size W2.heap.size O.heap.size g m0 o from
  ⟨m2,l1,.of ((s.b.below M s.b.lt).chg I ((s.b.below M s.b.lt).ne j0 (by decide))),(s.c.below M s.c.lt).chg I (by have:=hl.2.2.2.2.1; omega),Blk.chg (s.d.below M) I (Blk.ne (s.d.below M) j0 (by decide)),(s.E.on M).trans (I.below (fun i e=>fU e.symm) (aB s.E.size h5)),aB h5 I.size,⟨hl.1,hl.2.1,hl.2.2.1,hl.2.2.2.1⟩,hl.2.2.2.2⟩)
 have HE:=kp o2;clear e0 j0 l1 I m2 h5 hl J M o2;have e0:=f.o.box.load (P:=prog) (k:=8) rfl;have z0:Sem.run prog (loadCellsFrom ⟨G.heap.size,0,none⟩ 0 7 #[]) L=.ok o.cells.toArray L:=f.o.op.blk.load rfl;have o0:=f.o.op.c0;have o1:=f.o.op.c1;have q0:=kp (show HOk g.x by rw[HE.o]; exact HH.o)
 by_cases K:o.k=1
 .have g1:(o.k==1)=true:=by simp[K]
  have g0:=kp (show R=fP g.x o.n o.m by rw[←HR.o,HE.o]; unfold dU; rw[aE K]);clear K;go_wp2_with fail;refine (Vd o L f.o.hv f.o.h1 q0.o).mono ?_;rintro e w7 ⟨N,p0,rfl,Y,W,Z⟩;dsimp only;obtain⟨V8,V9,q1,y1,a0,d0,D,A⟩:=f.o.fin W Z (fP g.x o.n o.m).2.1 (fP g.x o.n o.m).2.2;have r:=k'3 D A Y;clear D A Y W Z e0 z0 o0 o1 a1;go_wp2_with fail;refine aU (v:=.tuple #[.agg N.cells.toArray,.agg #[.i (fP g.x o.n o.m).2.1,.i (fP g.x o.n o.m).2.2]]) (by simp[results,Fi,go_sem,a0,d0]) rfl ?_;rw[g0.o];exact⟨N,p0,rfl,r.C,r.a,r.b⟩
 have g1:(o.k==1)=false:=by simp[K]
 by_cases j:o.k=2∨o.k=3∨o.k=4∨o.k=6∨o.k=7
 .have j1:R=atI g.x o:=by rw[←HR.o,←HE.o]; unfold dU; rw[aC K,aE j]; rfl
  obtain⟨z,hz,l2⟩:∃z:Int,eI (fun p:ObV=>decide (p.x.h=o.h)) m0=z∧(∀W',Bw' L W'→Calls prog 205 #[.agg g.cells.toArray,.agg o.cells.toArray,.i z] W' (Res Q.heap.size W' R)):=by
   rcases Ve (o:=o) f.o.hv.eq with⟨h1,h2⟩|⟨n,hn,h1,h2⟩
   .exact⟨_,rfl,fun W' hb=>by rw[j1,h2]; exact Vb o _ W' (f.o.hv.below hb) (aB f.o.h1 hb.size) h1⟩
   .exact⟨_,rfl,fun W' hb=>by rw[j1,h2,h1]; exact Vc o n W' (f.o.hv.below hb) (aB f.o.h1 hb.size) q0.o hn⟩
  have y2:=kp (fun(W':World)(hb:Bw' L W')=>by
   have:=Ig g m0 o.h W'.heap.size W' ((f.o.hv.below hb).obs.sl cM) (aD _) (by have:=q0.o.len; have:=bG List.length f.o.hv.eq; rw[cW]at this; omega);rw[hz]at this;exact this)
  have p2:=kp l2;clear j1 hz K l2;rcases j with j|j|j|j|j
  all_goals
   first |(have g2:(o.k==2)=true:=by rw[j]; rfl)|(have g2:(o.k==2)=false:=by rw[j]; rfl)
   first |(have g3:(o.k==3)=true:=by rw[j]; rfl)|(have g3:(o.k==3)=false:=by rw[j]; rfl)
   first |(have g4:(o.k==4)=true:=by rw[j]; rfl)|(have g4:(o.k==4)=false:=by rw[j]; rfl)
   first |(have g6:(o.k==6)=true:=by rw[j]; rfl)|(have g6:(o.k==6)=false:=by rw[j]; rfl)
   first |(have g7:(o.k==7)=true:=by rw[j]; rfl)|(have g7:(o.k==7)=false:=by rw[j]; rfl)
   clear j;go_wp2_with fail;clear e0 z0 o0 o1 a1 g1 g2 g3 g4 g6 g7;refine fR 9 (CD L Q.heap.size R) (fun _=>fK) (by kernel_rfl) (by kernel_rfl) ⟨bR (aL _ _),fun _=>bR (aL _ _),fun _=>rfl,(fun _ h=>by cases h),fun _ h=>by cases h⟩ ?_
   iterate 6 (refine bO ?_; apply Exists.intro)
   iterate 2 (refine bS eM ?_)
   refine bO ?_; apply Exists.intro;refine dR ⟨?pers,?walk⟩
   case walk=>
    iterate 5
     apply Ug (by kernel_rfl) (by intro t w h; cases h; exact trivial) rfl
     .intro X W' l V hw hV hF;have e0:=(f.o.box.below l.bel f.o.l0.1).load (P:=prog) (k:=8) rfl;have m1:=jM.of (f.o.op.blk.below l.bel f.o.l0.2.1);have z0:Sem.run prog (loadCellsFrom ⟨G.heap.size,0,none⟩ 0 7 #[]) W'=.ok o.cells.toArray W':=m1.blk.load rfl;have o1:=m1.c1;clear m1;go_wp2_with fail;exact⟨rfl,_,rfl,l.other _ _ (by decide) (by decide) (by decide),aV,rfl⟩
     simp only[Act.put,aN,aH,aI,aT,aW]
    apply Ug (by kernel_rfl) (by intro t w h; cases h; exact trivial) rfl
    .intro X W' l V hw hV hF;go_wp2_with fail;refine mb' (y2.o W' (l.pre (l.d5 V))) fun w7 a3=>?_;go_wp2_with fail;exact⟨rfl,_,rfl,l.place V f.o.h1 a3,aV,rfl⟩
    simp only[Act.put,aN,aH,aI,aT,aW];refine⟨fun X W' l V hw hV hF=>?_,fun u6=>?_⟩
    .go_wp2_with fail;refine (p2.o W' (l.pre V)).mono ?_;rintro e w7 l3;obtain⟨p',ps',rfl,d3,-⟩:=l.obj V (hw 5 (by kernel_rfl)) f.o.h1 l3;go_wp2_with fail;exact⟨rfl,_,rfl,d3,aV,trivial⟩
    simp only[Act.put,aN,aH,aI,aT,aW];refine⟨fun X W' l V hw hV hF=>?_,fun u7=>?_⟩
    .have h6:X 6=some u6:=hV 6 29 u6 (by kernel_rfl) (by kernel_rfl) (bT (by kernel_rfl)) rfl;obtain⟨p',ps',rfl,-⟩:=l.post u6 h6;go_wp2_with fail;exact⟨rfl,_,rfl,l.extr h6,aV,trivial⟩
    simp only[Act.put,aN,aH,aI,aT,aW];apply Ug (by kernel_rfl) (by intro t w h; cases h; exact trivial) rfl
    .intro X W' l V hw hV hF;have h6:X 6=some u6:=hV 6 29 u6 (by kernel_rfl) (by kernel_rfl) (bT (by kernel_rfl)) rfl;obtain⟨p',ps',rfl,-⟩:=l.post u6 h6;go_wp2_with fail;exact⟨rfl,_,rfl,l.other _ _ (by decide) (by decide) (by decide),aV,rfl⟩
    simp only[Act.put,aN,aH,aI,aT,aW];intro W7 l hF;clear hF;simp only[dO,dP];obtain⟨N,p0,rfl,Y,W,Z⟩:=l.post u6 rfl;obtain⟨y,hy⟩:=l.e7 u7 rfl;obtain rfl:u7=.agg N.cells.toArray:=by cases hy; rfl
    obtain⟨V8,V9,q1,y1,a0,d0,D,A⟩:=f.o.fin W Z R.2.1 R.2.2;have r:=k'3 D A Y;clear D A Y W Z hy l;go_wp2_with fail;exact aU (v:=.tuple #[.agg N.cells.toArray,.agg #[.i R.2.1,.i R.2.2]]) (by simp[results,Fi,go_sem,a0,d0]) rfl ⟨N,p0,rfl,r.C,r.a,r.b⟩
   case pers=>exact⟨pv',pv',pv',pv',pv',pv',fun _ _ _ _ _ h _=>h,fun _ _ _ _ _ h _=>h,pv',trivial⟩
 have g2:(o.k==2)=false:=by simp; omega
 have g3:(o.k==3)=false:=by simp; omega
 have g4:(o.k==4)=false:=by simp; omega
 have g6:(o.k==6)=false:=by simp; omega
 have g7:(o.k==7)=false:=by simp; omega
 by_cases F:o.k=5∨o.k=8
 .have g0:=kp (show R=jG g.x o by rw[←HR.o,HE.o]; unfold dU; rw[aC K,aC j,aE F]);clear K j;rcases F with F|F
  all_goals
   first |(have g5:(o.k==5)=true:=by rw[F]; rfl)|(have g5:(o.k==5)=false:=by rw[F]; rfl)
   first |(have g8:(o.k==8)=true:=by rw[F]; rfl)|(have g8:(o.k==8)=false:=by rw[F]; rfl)
   clear F;go_wp2_with fail;refine (Uz o L f.o.hv f.o.h1 q0.o).mono ?_;rintro e w7 ⟨N,p0,rfl,Y,W,Z⟩;dsimp only;obtain⟨V8,V9,q1,y1,a0,d0,D,A⟩:=f.o.fin W Z (jG g.x o).2.1 (jG g.x o).2.2;have r:=k'3 D A Y;clear D A Y W Z e0 z0 o0 o1 a1;go_wp2_with fail;refine aU (v:=.tuple #[.agg N.cells.toArray,.agg #[.i (jG g.x o).2.1,.i (jG g.x o).2.2]]) (by simp[results,Fi,go_sem,a0,d0]) rfl ?_;rw[g0.o];exact⟨N,p0,rfl,r.C,r.a,r.b⟩
 have g5:(o.k==5)=false:=by simp; omega
 have g8:(o.k==8)=false:=by simp; omega
 have g0:=kp (show R=(g.x,54,0) by rw[←HR.o,HE.o]; unfold dU; rw[aC K,aC j,aC F]);clear K j F;obtain⟨V8,V9,q1,y1,a0,d0,D,A⟩:=f.o.fin f.o.hv.wv Bz.refl 54 0;have r:=k'2 D A;clear D A;go_wp2_with fail;refine aU (v:=.tuple #[.agg g.cells.toArray,.agg #[.i 54,.i 0]]) (by simp[results,Fi,go_sem,a0,d0]) rfl ?_;rw[g0.o];exact⟨g,m0,rfl,rfl,r.a,r.B⟩
end
section
theorem Vg(e f g h i j k l:Int)(w:World):Sem.run prog (binOp .neq 26 (.agg #[.i e,.i f,.i g,.i h]) (.agg #[.i i,.i j,.i k,.i l])) w=.ok (.bool (!decide ([e,f,g,h]=[i,j,k,l]))) w:=by
 obtain⟨o,n,-,-,-⟩:=info_parts mL;have m:prog.cellsOf 3=1:=by kernel_rfl
 rw[run_neq_struct,show (10000:Nat)=9999+1 from rfl,run_equalIn_array w 9999 _ _ underlying26 n,m];simp only[show List.range 4=[0,1,2,3] from rfl,Op.eqItems]
 go_simp
 by_cases a:¬e=i
 .simp[a]
 replace a:=dQ.1 a
 subst a
 by_cases b:¬f=j
 .simp[b]
 replace b:=dQ.1 b
 subst b
 by_cases c:¬g=k
 .simp[c]
 replace c:=dQ.1 c
 subst c
 by_cases d:¬h=l
 .simp[d]
 replace d:=dQ.1 d
 subst d;simp
theorem Vh(p q:HpV)(ps l:List ObV)(B:Nat)(w:World)(h:gH w B p ps)(h':gH w B q l)(hB:B≤w.heap.size)(hn:ps.length≤1000000)(hf:p.x.free.length≤1000000)(hl:∀z∈ps,z.x.ws.length≤1000000∧z.x.ls.length≤1000000):
  Calls prog 87 #[.agg p.cells.toArray,.agg q.cells.toArray] w fun e w'=>e=.returned (.bool (decide (p.x=q.x)))∧Bw' w w':=by
 obtain⟨r,hr⟩:=nm' (decide (p.x=q.x));rw[hr];have G:=kp hr;generalize q1:w.alloc (.cells p.cells.toArray 29)=H;generalize z1:H.alloc (.cells q.cells.toArray 29)=N;have b0:Blk H w.heap.size 29 p.cells:=q1▸Blk.new w 29 p.cells;have b1:Blk N H.heap.size 29 q.cells:=z1▸Blk.new H 29 q.cells;have e1:Bw' w H:=q1▸ba' w _;have e2:Bw' H N:=z1▸ba' H _;have f:=kp (e1.on e2);have d:=k'2 (b0.below e2 b0.lt) b1;have j:=k'3 (h.below f.o hB) (h'.below f.o hB) (aB hB f.o.size);have p0:=k'2 hf hl;obtain⟨n,hN⟩:=nm' ps.length;obtain⟨m,hM⟩:=nm' l.length;have D:=k'2 hN hM;have g5:=kp hB;rw[hN]at hn;obtain⟨A,c,q2,-,-,-⟩:=h.1.1;obtain⟨A',c',z2,-,-,-⟩:=h'.1.1;have U:=k'2 q2 z2;have k0:=(cI.of d.a).c0;have k1:=(cI.of d.a).c1;have k2:=(cI.of d.a).c2;have k3:=(cI.of d.a).c3;have k4:=(cI.of d.a).c4;have k5:=(cI.of d.a).c5;have k6:=(cI.of d.a).c6;have k7:=(cI.of d.a).c7;have j0:=(cI.of d.B).c0;have j1:=(cI.of d.B).c1;have j2:=(cI.of d.B).c2;have j3:=(cI.of d.B).c3;have j4:=(cI.of d.B).c4;have j5:=(cI.of d.B).c5;have j6:=(cI.of d.B).c6;have j7:=(cI.of d.B).c7;rw[q2,hN]at k1;rw[z2,hM]at j1;have tn:=Vg p.x.t0 p.x.t1 p.x.t2 p.x.t3 q.x.t0 q.x.t1 q.x.t2 q.x.t3;go_enter func87,ntmps87
 by_cases c1:¬p.x.order=q.x.order
 .have g1:(p.x.order != q.x.order)=true:=by simp[c1]
  obtain rfl:r=false:=by rw[←G.o]; exact aX fun h=>c1 (by rw[h])
  go_wp2_with fail;go_ret;exact⟨rfl,f.o⟩
 have g1:(p.x.order != q.x.order)=false:=by simp; exact dQ.1 c1
 have p3:=kp (dQ.1 c1)
 by_cases c2:¬p.x.next=q.x.next
 .have g2:(p.x.next != q.x.next)=true:=by simp[c2]
  obtain rfl:r=false:=by rw[←G.o]; exact aX fun h=>c2 (by rw[h])
  go_wp2_with fail;go_ret;exact⟨rfl,f.o⟩
 have g2:(p.x.next != q.x.next)=false:=by simp; exact dQ.1 c2
 have z3:=kp (dQ.1 c2)
 by_cases c3:¬p.x.tops=q.x.tops
 .rw[show [p.x.t0,p.x.t1,p.x.t2,p.x.t3]=p.x.tops from rfl,show [q.x.t0,q.x.t1,q.x.t2,q.x.t3]=q.x.tops from rfl,aX c3,Bool.not_false]at tn;obtain rfl:r=false:=by rw[←G.o]; exact aX fun h=>c3 (by rw[h])
  go_wp2_with fail;go_ret;exact⟨rfl,f.o⟩
 rw[show [p.x.t0,p.x.t1,p.x.t2,p.x.t3]=p.x.tops from rfl,show [q.x.t0,q.x.t1,q.x.t2,q.x.t3]=q.x.tops from rfl,bY (dQ.1 c3),Bool.not_true]at tn;have a4:=kp (dQ.1 c3)
 by_cases c4:¬n=m
 .have g4:((n:Int) != (m:Int))=true:=by simp; omega
  obtain rfl:r=false:=by rw[←G.o]; exact aX fun h=>c4 (by have:=j.a.2.1; rw[h,j.b.2.1]at this; have:=bG List.length this; rw[cW,cW,D.a,D.B]at this; exact this.symm)
  go_wp2_with fail;go_ret;exact⟨rfl,f.o⟩
 replace c4:=dQ.1 c4
 subst c4;have o1:=kp (tS.1 p.fv q.fv p.x.free q.x.free B N j.a.2.2 j.b.2.2 p0.a);obtain⟨r5,O⟩:=nm' (decide (p.x.free=q.x.free));rw[O]at o1;have m1:=kp O;go_wp2_with fail;refine mb' (o1.o) fun w3 p4=>?_;have a1:=kp (show Bw' N w3 by obtain⟨q3,rfl⟩:=p4; exact gG (aL _ _) _)
 cases r5
 .obtain rfl:r=false:=by rw[←G.o]; exact aX fun h=>of_decide_eq_false m1.o (by rw[h])
  go_wp2_with fail;go_ret;exact⟨rfl,f.o.on a1.o⟩
 go_wp2_with fail
 go_loopw [5] (fun i wr=>∃k:Nat,k≤n∧i=.i k∧(ps.take k).map (·.x)=(l.take k).map (·.x)∧Bw' N wr) (fun i _=>n-(intOf i).toNat)
 case atStart=>exact⟨0,by omega,rfl,by simp,a1.o⟩
 case round=>
  obtain⟨k,hk,rfl,d5,X⟩:=hrel;have M:=kp X;have HT:=kp d5;have k1:=(cI.of (d.a.below X d.a.lt)).c1;have j1:=(cI.of (d.B.below X d.B.lt)).c1;rw[U.a,D.a]at k1;rw[U.B,D.B]at j1;have g0:=k'2 (j.a.below X j.C) (j.b.below X j.C)
  by_cases l5:k<n
  .have g3:(k:Int)<(n:Int):=by omega
   have K:k<ps.length:=by have:=D.a; omega
   have L:k<l.length:=by have:=D.B; omega
   have a3:ps.take (k+1)=ps.take k++[ps[k]'K]:=cV K;have b3:l.take (k+1)=l.take k++[l[k]'L]:=cV L;have o0:ps[k]∈ps:=bK K;have o3:l[k]∈l:=bK L;obtain⟨A6,c6,d3,a5,-,-⟩:=g0.a.1.1;rw[U.a]at d3;obtain⟨rfl,-,rfl⟩:=Value.slice.inj d3;obtain⟨b,m5,rfl,-,R,-⟩:=bV (P:=prog) 5 cM (by omega) a5 k K;have q0:ps[k]? =some (ps[k]'K):=eK K;have z0:l[k]? =some (l[k]'L):=eK L;obtain⟨x,hx⟩:=nm' (ps[k]'K);obtain⟨y,hy⟩:=nm' (l[k]'L);rw[hx]at a3 o0 R q0;rw[hy]at b3 o3 z0;have p1:=k'4 a3 b3 q0 z0;have l0:=g0.a.1.2 x o0;have m0:=g0.b.2 y o3;obtain⟨Z,cw,l3,-,-,-⟩:=l0.1;obtain⟨Y,cl,o2,-,-,-⟩:=l0.2;obtain⟨Bw,dw,m3,-,-,-⟩:=m0.1;obtain⟨Bl,dl,p2,-,-,-⟩:=m0.2;have x0:=R 0 _ rfl;have x1:=R 1 _ rfl;have x2:=R 2 _ rfl;have x3:=R 3 _ rfl;have x4:=R 4 _ rfl;simp only[cF]at x0;rw[l3]at x3;rw[o2]at x4;generalize a2:wr.alloc (.cells #[.i x.x.h,.i x.x.b.a,.i x.x.b.o,.slice Z x.x.ws.length cw,.slice Y x.x.ls.length cl] 90)=I;have F:Bw' wr I:=a2▸ba' wr _;have m2:Blk I wr.heap.size 90 [.i x.x.h,.i x.x.b.a,.i x.x.b.o,.slice Z x.x.ws.length cw,.slice Y x.x.ls.length cl]:=a2▸Blk.new wr 90 [.i x.x.h,.i x.x.b.a,.i x.x.b.o,.slice Z x.x.ws.length cw,.slice Y x.x.ls.length cl];have Q:B≤wr.heap.size:=aB j.C M.o.size;obtain⟨A7,c7,e3,b5,-,-⟩:=(g0.B.below F Q).1.1;rw[U.B]at e3;obtain⟨rfl,-,rfl⟩:=Value.slice.inj e3;obtain⟨b',o5,rfl,-,S,-⟩:=bV (P:=prog) 5 cM (by omega) b5 k L;rw[hy]at S;have y0:=S 0 _ rfl;have y1:=S 1 _ rfl;have y2:=S 2 _ rfl;have y3:=S 3 _ rfl;have y4:=S 4 _ rfl;simp only[cF]at y0;rw[m3]at y3;rw[p2]at y4;have e5:=(cI.of ((d.B.below M.o d.B.lt).below F (d.B.below M.o d.B.lt).lt)).c1;rw[U.B,D.B]at e5;generalize b2:I.alloc (.cells #[.i y.x.h,.i y.x.b.a,.i y.x.b.o,.slice Bw y.x.ws.length dw,.slice Bl y.x.ls.length dl] 90)=V;have J:Bw' I V:=b2▸ba' I _;have m4:Blk V I.heap.size 90 [.i y.x.h,.i y.x.b.a,.i y.x.b.o,.slice Bw y.x.ws.length dw,.slice Bl y.x.ls.length dl]:=b2▸Blk.new I 90 [.i y.x.h,.i y.x.b.a,.i y.x.b.o,.slice Bw y.x.ws.length dw,.slice Bl y.x.ls.length dl];have g:=k'2 (m2.below J m2.lt) m4;have d0:=k'2 (M.o.trans ((F.on J).mono M.o.size)) (aB (aB Q F.size) J.size);have HI:=kp (fun(W':World)(hb:Bw' V W')=>jQ
    (show Calls prog 134 #[.slice Z x.x.ws.length cw,.slice Bw y.x.ws.length dw] W' _ by
     have W:=(F.on J).trans (hb.mono (aB F.size J.size));have:=De.1 x.wv y.wv x.x.ws y.x.ws B W' (l0.1.below W Q) (m0.1.below W Q) (p0.B x o0).1;rw[l3,m3]at this;exact this)
    (show Calls prog 134 #[.slice Y x.x.ls.length cl,.slice Bl y.x.ls.length dl] W' _ by
     have W:=(F.on J).trans (hb.mono (aB F.size J.size));have:=De.1 x.lv y.lv x.x.ls y.x.ls B W' (l0.2.below W Q) (m0.2.below W Q) (p0.B x o0).2;rw[o2,p2]at this;exact this))
   have s0:=g.a.cell 0;have s1:=g.a.cell 1;have s2:=g.a.cell 2;have s3:=g.a.cell 3;have s4:=g.a.cell 4;have t0:=g.B.cell 0;have t1:=g.B.cell 1;have t2:=g.B.cell 2;have t3:=g.B.cell 3;have t4:=g.B.cell 4;simp only[aG,aK]at s0 s1 s2 s3 s4 t0 t1 t2 t3 t4;have l2:∀w:World,Sem.run prog (binOp .neq 88 (.agg #[.i x.x.b.a,.i x.x.b.o]) (.agg #[.i y.x.b.a,.i y.x.b.o])) w=.ok (.bool (!decide (x.x.b=y.x.b))) w:=fun w=>pM.1 x.x.b y.x.b w;have e0:=kp (fun(o4:¬x.x=y.x)=>show r=false by
    rw[←G.o];refine aX fun h=>o4 ?_;have s:=j.a.2.1;rw[h,j.b.2.1]at s;have E:=bG (·[k]?) s;simp only[wC,q0,z0,kL,Option.some.injEq]at E;exact E.symm)
   by_cases d1:¬x.x.h=y.x.h
   .have e1:(x.x.h != y.x.h)=true:=by simp[d1]
    obtain rfl:=e0.o fun e=>d1 (by rw[e]);go_wp2_with fail;go_ret;exact⟨rfl,f.o.on d0.a⟩
   have e1:(x.x.h != y.x.h)=false:=by simp; exact dQ.1 d1
   have d4:=kp (dQ.1 d1)
   by_cases d2:¬x.x.b=y.x.b
   .rw[aX d2,Bool.not_false]at l2;obtain rfl:=e0.o fun e=>d2 (by rw[e]);go_wp2_with fail;go_ret;exact⟨rfl,f.o.on d0.a⟩
   rw[bY (dQ.1 d2),Bool.not_true]at l2;have e4:=kp (dQ.1 d2);obtain⟨r7,h7⟩:=nm' (decide (x.x.ws=y.x.ws));obtain⟨r8,h8⟩:=nm' (decide (x.x.ls=y.x.ls));rw[h7,h8]at HI;have a0:=k'2 h7 h8;go_wp2_with fail;refine mb' ((HI.o V (aL _ _)).1) fun w7 q4=>?_;have T:=kp (show Bw' V w7 by obtain⟨q3,rfl⟩:=q4; exact gG (aL _ _) _)
   cases r7
   .obtain rfl:=e0.o fun e=>of_decide_eq_false a0.a (by rw[e]);go_wp2_with fail;go_ret;exact⟨rfl,f.o.trans ((d0.a.on T.o).mono f.o.size)⟩
   have s4:=(g.a.below T.o g.a.lt).cell 4;have t4:=(g.B.below T.o g.B.lt).cell 4;simp only[aG,aK]at s4 t4;go_wp2_with fail;refine mb' ((HI.o w7 T.o).2) fun w8 z4=>?_;have l1:=kp (show Bw' N w8 by obtain⟨q3,rfl⟩:=z4; exact gG (d0.a.on T.o) _)
   cases r8
   .obtain rfl:=e0.o fun e=>of_decide_eq_false a0.B (by rw[e]);go_wp2_with fail;go_ret;exact⟨rfl,f.o.on l1.o⟩
   go_wp2_with fail;go_roundw
   case rel=>exact⟨k+1,by omega,by go_num,by
    have e7:=bT a0.a;have e8:=bT a0.B;have l4:x.x=y.x:=by
     have s:=d4.o; have E:=e4.o
     cases hxx:x.x; cases hyy:y.x;rw[hxx,hyy]at e7 e8 s E;subst e7 e8 s E; rfl
    rw[p1.a,p1.b,gC,gC,HT.o];simp[l4],l1.o⟩
   case measure=>simp[intOf]; omega
  .obtain rfl:k=n:=by omega
   obtain rfl:r=true:=by
    rw[←G.o];refine bY ?_;have s:=HT.o;rw[cN (by have:=D.a; omega),cN (by have:=D.B; omega),←j.a.2.1,←j.b.2.1]at s;have E:=bT m1.o;have h3:=p3.o;have h4:=z3.o;have O:=a4.o
    cases hpx:p.x; cases hqx:q.x;rw[hpx,hqx]at s E h3 h4 O;simp only[Hp.tops,List.cons.injEq,and_true]at O;obtain⟨i0,i1,i2,i3⟩:=O;simp only[]at s E h3 h4 i0 i1 i2 i3;subst s E h3 h4 i0 i1 i2 i3; rfl
   go_wp2_with fail;go_ret;exact⟨rfl,f.o.on M.o⟩
end
section
structure SmH(h:Hp):Prop where
 obs:h.obs.length≤600
 free:h.free.length≤600
 rows:∀x∈h.obs,x.ws.length≤5000∧x.ls.length≤5000
def NoR(w:World)(Q:Prop)(e:Ending)(w':World):Prop:=∃r,e=.returned (.bool r)∧(r=false→Q)∧Bw' w w'
theorem NoR.of{w a:World}{Q:Prop}{r:Bool}(h:r=false→Q)(b:Bw' w a):NoR w Q (.returned (.bool r)) a:=⟨r,rfl,h,b⟩
theorem Vi(p:HpV)(ps:List ObV)(B:Nat)(w:World)(h:gH w B p ps)(Q:B≤w.heap.size):
  Calls prog 66 #[.agg p.cells.toArray] w (NoR w (SmH p.x)):=by
 generalize T:w.alloc (.cells p.cells.toArray 29)=E;have F:Blk E w.heap.size 29 p.cells:=T▸Blk.new w 29 p.cells;have G:Bw' w E:=T▸ba' w _;have j:=kp G;have J:=kp F;have l:=k'2 (h.below G Q) (aB Q G.size);obtain⟨n,S⟩:=nm' ps.length;obtain⟨m,R⟩:=nm' p.x.free.length;have e:=k'2 S R;obtain⟨A,c,W,-,-,-⟩:=h.1.1;obtain⟨A',c',o0,-,-,-⟩:=h.2.2;have K:=kp W;have g:=(cI.of F).c1;have k7:=(cI.of F).c7;rw[W,S]at g;rw[o0,R]at k7;go_enter func66,ntmps66
 by_cases c1:600<n
 .have g1:decide (600<(n:Int))=true:=by simp; omega
  go_wp2_with fail;go_ret;exact NoR.of (fun h=>by cases h) j.o
 have g1:decide (600<(n:Int))=false:=by simp; omega
 by_cases c2:600<m
 .have g2:decide (600<(m:Int))=true:=by simp; omega
  go_wp2_with fail;go_ret;exact NoR.of (fun h=>by cases h) j.o
 have g2:decide (600<(m:Int))=false:=by simp; omega
 have D:=k'2 c1 c2;go_wp2_with fail
 go_loopw [3,4] (fun s i wr=>∃(k:Nat)(c:Int),k≤n∧s=.i c∧i=.i k∧0≤c∧c≤20000∧(c≤5000→∀x∈ps.take k,(x.x.ws.length:Int)≤5000∧(x.x.ls.length:Int)≤5000)∧Bw' E wr) (fun _ i _=>n-(intOf i).toNat)
 case atStart=>exact⟨0,0,by omega,rfl,rfl,by omega,by omega,by simp,aL _ _⟩
 case round=>
  obtain⟨k,c,hk,rfl,rfl,b1,d1,m0,H⟩:=hrel;have C:=kp H;have M:=kp m0;have g:=(cI.of (J.o.below H J.o.lt)).c1;rw[K.o,e.a]at g;have L:=kp (l.a.below H l.B);have o1:n≤600:=by have:=D.o; omega
  by_cases m1:k<n
  .have g3:(k:Int)<(n:Int):=by omega
   by_cases V:c≤5000
   .have g4:decide (c≤5000)=true:=by simp[V]
    have f:k<ps.length:=by have:=e.a; omega
    have Y:ps.take (k+1)=ps.take k++[ps[k]'f]:=cV f;have e0:ps[k]∈ps:=bK f;obtain⟨A6,c6,d0,z0,-,-⟩:=L.a.1;rw[K.o]at d0;obtain⟨rfl,-,rfl⟩:=Value.slice.inj d0;obtain⟨b,y1,rfl,-,I,-⟩:=bV (P:=prog) 5 cM (by omega) z0 k f;obtain⟨x,hx⟩:=nm' (ps[k]'f);rw[hx]at Y e0 I;have j0:=kp Y;have X:=L.a.2 x e0;obtain⟨Aw,cw,a1,-,p1,q1⟩:=X.1;obtain⟨Al,cl,p0,-,j1,l1⟩:=X.2;have r:=I 3 _ rfl;have y:=I 4 _ rfl;rw[a1]at r;rw[p0]at y;have r:=aP r;have y:=aP y;have g:=aP g;obtain⟨u1,Z⟩:=nm' x.x.ws.length;obtain⟨u2,a0⟩:=nm' x.x.ls.length;rw[Z]at r;rw[a0]at y;have N:=k'2 Z a0;go_wp2_with fail;refine bJ (by kernel_rfl) (by kernel_rfl) ?_
    repeat (go_big_quiet_step (fail))
    refine bH ?_;rintro W5 ⟨⟨_,l0⟩,rfl⟩;have g0:=kp (C.o.on l0);have q0:min (u1:Int) 5001≤5001∧0≤min (u1:Int) 5001∧(min (u1:Int) 5001≤5000→(u1:Int)≤5000):=by omega
    have y0:min (u2:Int) 5001≤5001∧0≤min (u2:Int) 5001∧(min (u2:Int) 5001≤5000→(u2:Int)≤5000):=by omega
    have HM:=k'2 q0 y0;go_wp2_with fail;go_roundw
    case rel=>
     have hm:=HM.o;refine⟨k+1,_,by omega,rfl,by go_num,by omega,by omega,fun U=>?_,g0.o⟩;rw[j0.o];intro z d;rcases dF.1 d with d|d
     .exact M.o V z d
     .rw[bQ.1 d,N.a,N.B];omega
    case measure=>simp[intOf]; omega
   .have g4:decide (c≤5000)=false:=by simp; omega
    have g5:decide (5000<c)=true:=by simp; omega
    go_wp2_with fail;go_ret;exact NoR.of (fun h=>by cases h) (j.o.on C.o)
  .obtain rfl:k=n:=by omega
   go_wp2_with fail;go_ret;refine NoR.of (fun h=>?_) (j.o.on C.o);have U:c≤5000:=by simpa using h
   have O:=M.o U;rw[cN (by have:=e.a; omega)]at O;refine⟨by rw[l.a.2.1,cW]; have:=e.o; have:=D.o; omega,by have:=e.o; have:=D.o; omega,fun z d=>?_⟩;rw[l.a.2.1]at d;obtain⟨q,hq,rfl⟩:=cX.1 d;have:=O q hq;omega
end
section
def pY(cs:List Value)(o:Nat)(vs:List Value):List Value:=cs.take o++vs++cs.drop (o+vs.length)
theorem Blk.storeOff'{P:Program}{g o:Nat}{t:TypeId}:∀(b:List Value)(i:Nat)(a:List Value)(W:World),Blk W g t a→o+i+b.length≤a.length→(∀u∈b,u.oneCell'=true)→Sem.run P (storeCells ⟨g,o,none⟩ b i) W=.ok () (W.setRow g (pY a (o+i) b).toArray)
 |[],i,a,W,h,d,c=>by
  have:=run_storeCells_from (P:=P) g t [] a.length a.toArray W h (by simp) (by simp);have e:pY a (o+i) []=a:=by unfold pY; simp
  rw[e];show Sem.run P (storeCells ⟨g,0,none⟩ [] a.length) W=_;rw[this];simp
 |v::f,i,a,W,h,d,c=>by
  have j:o+i<a.length:=by simp at d; omega
  have k:(⟨g,o,none⟩:Addr).add i=⟨g,o+i,none⟩:=by unfold Addr.add; split<;>simp_all
  have l:W.cell? ⟨g,o+i,none⟩=some a[o+i]:=by rw[h.cell]; simp[j]
  have m:W.frozen? ⟨g,o+i,none⟩=false:=h.frozen _;have n:Sem.run P (Go.store ((⟨g,o,none⟩:Addr).add i) v) W=.ok () (W.setCell ⟨g,o+i,none⟩ v):=by
   rw[k,run_store P W _ v _ (c v (by simp)),l];simp[m]
  have q:=Blk.storeOff' (P:=P) (o:=o) f (i+1) (a.set (o+i) v) (W.setCell ⟨g,o+i,none⟩ v) (h.setCell (o+i) v) (by simp at d ⊢; omega) fun x p=>c x (by simp[p]);simp only[storeCells,Sem.run_bind,n,Result.andThen_ok,q];rw[setCell_eq_setRow W g (o+i) a.toArray t (0,0) v h,setRow_setRow]
  congr 3
  unfold pY;rw[←oE,eV,show o+i+1+f.length=o+i+(f.length+1) by omega];rw[cV (by simpa using j),List.take_set_of_le (aD _),List.drop_set_of_lt (by omega)];simp
theorem Blk.storeOff{P:Program}{g:Nat}{t:TypeId}{b:List Value}{W:World}(h:Blk W g t b)(o:Nat)(a:List Value)(d:o+a.length≤b.length)(c:∀u∈a,u.oneCell'=true):Sem.run P (storeCells ⟨g,o,none⟩ a 0) W=.ok () (W.setRow g (pY b o a).toArray):=Blk.storeOff' a 0 b W h d c
theorem Ko(a b:Rw)(w:World):Sem.run prog (binOp .neq 86 (.agg a.cells.toArray) (.agg b.cells.toArray)) w=.ok (.bool (!decide (a=b))) w:=by
 obtain⟨i,j,k,l⟩:=a;obtain⟨m,n,o,p⟩:=b;simp only[Rw.cells,Rw.mk.injEq];have g:prog.underlying 86=some (.struct (prog.fieldsOf 86)):=by kernel_rfl
 have h:prog.stoodInHeld 86=false:=by kernel_rfl
 rw[run_neq_struct,show (10000:Nat)=9999+1 from rfl,run_equalIn_agg w 9999 _ _ _ g h];simp only[Program.fieldsOf,underlying86]
 go_simp
 by_cases c:¬i=m
 .simp[c]
 replace c:=dQ.1 c
 subst c
 by_cases d:¬j=n
 .simp[d]
 replace d:=dQ.1 d
 subst d
 by_cases e:¬k=o
 .simp[e]
 replace e:=dQ.1 e
 subst e
 by_cases f:¬l=p
 .simp[f]
 replace f:=dQ.1 f
 subst f;simp
attribute [-go_sem] loadCellsFrom storeCells
attribute [local go_sem] bC
theorem StV.one{p:StV}{ps:List ObV}{w:World}{B:Nat}(h:fN w B p ps):∀u∈p.cells,u.oneCell'=true:=by
 intro u a;rcases dF.1 a with a|a
 .exact HpV.one h.1.1.1.one h.1.2.2.one u a
 .rw[bQ.1 a]; exact h.2.one
theorem StV.h8(p:StV):(p.cells.drop 0).take 8=p.p.cells:=rfl
theorem StV.c8(p:StV):p.cells[8]? =some p.rv:=rfl
theorem Kq(p q:StV)(ps qs:List ObV)(B:Nat)(w:World)(h:fN w B p ps)(Y:fN w B q qs)(O:B≤w.heap.size)(hn:ps.length≤1000000)(hf:p.p.x.free.length≤1000000)(hl:∀z∈ps,z.x.ws.length≤1000000∧z.x.ls.length≤1000000)(hr:p.rows.length≤1000000):
  Calls prog 30 #[.agg p.cells.toArray,.agg q.cells.toArray] w fun e w'=>e=.returned (.bool (decide (p.x=q.x)))∧Bw' w w':=by
 obtain⟨r,e0⟩:=nm' (decide (p.x=q.x));rw[e0];have J:=kp e0;generalize a0:w.alloc (.cells p.cells.toArray 32)=l;generalize d0:l.alloc (.cells q.cells.toArray 32)=M;have W:Blk l w.heap.size 32 p.cells:=a0▸Blk.new w 32 p.cells;have b1:Blk M l.heap.size 32 q.cells:=d0▸Blk.new l 32 q.cells;have e1:Bw' w l:=a0▸ba' w _;have X:Bw' l M:=d0▸ba' l _;have d:=kp (e1.on X);have f:=k'2 (W.below X W.lt) b1;have j:=k'3 (h.below d.o O) (Y.below d.o O) (aB O d.o.size);obtain⟨n,Q⟩:=nm' p.rows.length;obtain⟨m,hM⟩:=nm' q.rows.length;have g:=k'2 Q hM;rw[Q]at hr;obtain⟨A,c,g0,-,-,-⟩:=h.2;obtain⟨A',c',j0,-,-,-⟩:=Y.2;have K:=k'2 g0 j0;have l0:=f.a.loadOff (P:=prog) 0 8 p.p.cells p.h8 rfl;have l1:=f.B.loadOff (P:=prog) 0 8 q.p.cells q.h8 rfl;have I:=f.a.cell 8;have H:=f.B.cell 8;rw[StV.c8]at I H;rw[g0,Q]at I;rw[j0,hM]at H;have U:=kp (Vh p.p q.p ps qs B M j.a.1 j.b.1 j.C hn hf hl);go_enter func30,ntmps30
 by_cases c4:¬n=m
 .have g4:((n:Int) != (m:Int))=true:=by simp; omega
  obtain rfl:r=false:=by rw[←J.o]; exact aX fun h=>c4 (by have:=g.o; have:=bG St.rows h; have:=bG List.length this; unfold StV.x at this; simp only[]at this; omega)
  go_wp2_with fail;go_ret;exact⟨rfl,d.o⟩
 replace c4:=dQ.1 c4
 subst c4;obtain⟨r5,Z⟩:=nm' (decide (p.p.x=q.p.x));rw[Z]at U;have T:=kp Z;go_wp2_with fail;refine mb' (U.o) fun w3 p0=>?_;have S:=kp p0
 cases r5
 .obtain rfl:r=false:=by rw[←J.o]; exact aX fun h=>of_decide_eq_false T.o (bG St.h h)
  go_wp2_with fail;go_ret;exact⟨rfl,d.o.on S.o⟩
 go_wp2_with fail
 go_loopw [5] (fun i wr=>∃k:Nat,k≤n∧i=.i k∧p.rows.take k=q.rows.take k∧Bw' M wr) (fun i _=>n-(intOf i).toNat)
 case atStart=>exact⟨0,by omega,rfl,by simp,S.o⟩
 case round=>
  obtain⟨k,hk,rfl,p1,E⟩:=hrel;have N:=kp E;have V:=kp p1;have I:=(f.a.below E f.a.lt).cell 8;have H:=(f.B.below E f.B.lt).cell 8;rw[StV.c8]at I H;rw[K.a,g.a]at I;rw[K.B,g.B]at H;have g1:=j.a.2.below E j.C;have j1:=j.b.2.below E j.C
  by_cases z1:k<n
  .have g3:(k:Int)<(n:Int):=by omega
   have F:k<p.rows.length:=by have:=g.a; omega
   have G:k<q.rows.length:=by have:=g.B; omega
   obtain⟨A6,c6,m0,a1,-,-⟩:=g1;rw[K.a]at m0;obtain⟨rfl,-,rfl⟩:=Value.slice.inj m0;obtain⟨A7,c7,o0,d1,-,-⟩:=j1;rw[K.B]at o0;obtain⟨rfl,-,rfl⟩:=Value.slice.inj o0;obtain⟨b,a2,rfl,-,-,q1⟩:=dB (P:=prog) 4 Rw.cells fJ (by omega) a1 k F;obtain⟨b',b2,rfl,-,-,y1⟩:=dB (P:=prog) 4 Rw.cells fJ (by omega) d1 k G;have m1:p.rows.take (k+1)=p.rows.take k++[p.rows[k]'F]:=cV F;have o1:q.rows.take (k+1)=q.rows.take k++[q.rows[k]'G]:=cV G;have y0:=eK F;have z0:=eK G;generalize p.rows[k]'F=x at *;generalize q.rows[k]'G=y at *;have L:=k'4 m1 o1 y0 z0
   by_cases R:x=y
   .subst R;have q0:∀w:World,Sem.run prog (binOp .neq 86 (.agg x.cells.toArray) (.agg x.cells.toArray)) w=.ok (.bool false) w:=fun w=>by rw[Ko x x w]; simp
    go_wp2_with fail
    go_quiet (fail)
    go_wp2_with fail;go_roundw
    case rel=>exact⟨k+1,by omega,by go_num,by rw[L.a,L.b,V.o],gG N.o _⟩
    case measure=>simp[intOf]; omega
   .obtain rfl:r=false:=by
     rw[←J.o];exact aX fun h=>R (by have s:=L.c; rw[show p.rows=q.rows from bG St.rows h,L.D]at s; injection s with s; exact s.symm)
    have q0:∀w:World,Sem.run prog (binOp .neq 86 (.agg x.cells.toArray) (.agg y.cells.toArray)) w=.ok (.bool true) w:=fun w=>by rw[Ko x y w,aX R]; rfl
    go_wp2_with fail
    go_quiet (fail)
    go_wp2_with fail;go_ret;exact⟨rfl,d.o.trans ((gG N.o _).mono d.o.size)⟩
  .obtain rfl:k=n:=by omega
   obtain rfl:r=true:=by
    rw[←J.o];refine bY ?_;have s:=V.o;rw[cN (by have:=g.a; omega),cN (by have:=g.B; omega)]at s;unfold StV.x;rw[s,bT T.o]
   go_wp2_with fail;go_ret;exact⟨rfl,d.o.on N.o⟩
structure Sv(w:World)(base:Nat)(p:StV)(ps:List ObV):Prop where
 h:Hv w base p.p ps
 rows:Ow w base 86 4 p.rv Rw.cells p.rows
theorem Sv.st{w:World}{base:Nat}{p:StV}{ps:List ObV}(h:Sv w base p ps):fN w w.heap.size p ps:=⟨h.h.wv.hpAt,h.rows.sl fJ⟩
theorem Sv.below{w b:World}{base:Nat}{p:StV}{ps:List ObV}(h:Sv w base p ps)(a:Bw' w b):Sv b base p ps:=⟨h.h.below a,h.rows.below a⟩
theorem Hv.mono{w:World}{base base2:Nat}{p:HpV}{ps:List ObV}(h:Hv w base p ps)(a:base2≤base):Hv w base2 p ps:=⟨h.obs.mono a,h.rws.mono a,h.eq,aO.mono h.free fun _ _ h=>aB a h⟩
theorem Sv.mono{w:World}{base base2:Nat}{p:StV}{ps:List ObV}(h:Sv w base p ps)(a:base2≤base):Sv w base2 p ps:=⟨h.h.mono a,h.rows.mono a⟩
theorem Hv.chg{w j:World}{base b:Nat}{p:HpV}{ps:List ObV}{t:TypeId}{k:List Value}(h:Hv w base p ps)(c:Blk w b t k)(d:Chg (fun i=>i=b) w j)(a:t≠90)(f:t≠88)(g:t≠3):Hv j base p ps:=
 ⟨h.obs.chg d fun _ l e=>h.obs.ne_blk c (fun e=>a e.symm) (e▸l),(h.wv.chg c d a f g).rws,h.eq,(h.wv.chg c d a f g).free⟩
theorem Sv.chg{w d:World}{base b:Nat}{p:StV}{ps:List ObV}{t:TypeId}{f:List Value}(h:Sv w base p ps)(a:Blk w b t f)(c:Chg (fun i=>i=b) w d)(g:t≠90)(j:t≠88)(k:t≠3)(l:t≠86):Sv d base p ps:=
 ⟨h.h.chg a c g j k,h.rows.chg c fun _ m e=>h.rows.ne_blk a (fun e=>l e.symm) (e▸m)⟩
structure SmO(p:HpV)(ps:List ObV):Prop where
 obs:ps.length≤1000
 free:p.x.free.length≤1000
 rows:∀q∈ps,q.x.ws.length≤5001∧q.x.ls.length≤5001
theorem SmO.of{w:World}{B:Nat}{p:HpV}{ps:List ObV}(h:gH w B p ps)(a:SmH p.x):SmO p ps:=
 ⟨by have:=bG List.length h.2.1; rw[cW]at this; have:=a.obs; omega,by have:=a.free; omega,fun q b=>by have:=a.rows q.x (by rw[h.2.1]; exact cX.2 ⟨q,b,rfl⟩); omega⟩
theorem Kr(p:StV)(ps:List ObV)(B:Nat)(w:World)(h:fN w B p ps)(S:B≤w.heap.size)(Y:SmO p.p ps)(hn:p.rows.length≤100000):
  Calls prog 54 #[.agg p.cells.toArray] w fun e w'=>∃p' g2,e=.returned (.agg p'.cells.toArray)∧p'.x=p.x∧Sv w' w.heap.size p' g2∧Bw' w w':=by
 obtain⟨r,hr⟩:=nm' p.x;have z0:=kp hr;rw[hr];generalize e0:w.alloc (.cells p.cells.toArray 32)=j;have Q:Blk j w.heap.size 32 p.cells:=e0▸Blk.new w 32 p.cells;have e1:Bw' w j:=e0▸ba' w _
 let zs:List Value:=z'2
 have b1:Blk (j.alloc (.cells z'2a 32)) j.heap.size 32 zs:=Blk.new j 32 zs;have R:Bw' j (j.alloc (.cells z'2a 32)):=ba' j _;generalize j2:j.alloc (.cells z'2a 32)=W2 at b1 R;have m:=kp (e1.on R);have G:=k'2 (Q.below R Q.lt) b1;have L:=k'2 (h.below m.o S) (aB S m.o.size);obtain⟨n,hN⟩:=nm' p.rows.length;have y:=kp hN;rw[hN]at hn;obtain⟨A,c,z1,-,-,-⟩:=h.2;have O:=kp z1;have l0:=G.a.loadOff (P:=prog) 0 8 p.p.cells p.h8 rfl;have y0:=kp (Kk p.p ps B W2 L.a.1 L.B Y.obs Y.free Y.rows);have K:=k'3 Q.lt e1.size S;have a0:=kp hn;go_enter func54,ntmps54;go_wp2_with fail;refine (y0.o).mono ?_;rintro e w3 ⟨f,q0,rfl,d2,o0,s⟩;dsimp only;have T:=G.a.below s G.a.lt;have m0:=T.storeOff (P:=prog) 0 f.cells (by show 0+8≤9; omega) o0.wv.one;have p1:pY p.cells 0 f.cells=f.cells++[p.rv]:=rfl;rw[p1]at m0;have U:=T.set (f.cells++[p.rv]);have D:=(Chg.refl (fun i=>i=w.heap.size) w3).setRow (.inr rfl) (f.cells++[p.rv]).toArray;obtain⟨q,d1⟩:=nm' (w3.setRow w.heap.size (f.cells++[p.rv]).toArray);rw[d1]at m0 U D;have b2:=o0.chg T D (by decide) (by decide) (by decide);have h8:=U.cell 8;rw[show (f.cells++[p.rv])[8]? =some p.rv from rfl,O.o,y.o]at h8;have l1:Bw' w q:=(m.o.on s).trans (D.below (fun i e=>fU e.symm) (aB m.o.size s.size));have j0:=(L.a.2.below s L.B).below (D.below (B:=w.heap.size) (fun i e=>fU e.symm) (aB m.o.size s.size)) K.C;rw[O.o,y.o]at j0;have q1:=(G.B.below s G.B.lt).chg D (fun e=>by have:=K.a; omega);have l:=k'5 b2 U l1 d2 q1;have d0:=k'2 j0 (aB s.size D.size);go_wp2_with (at_builtin; refine eU (enc:=Rw.cells) q rfl (.tmp 8) (.tmp 10) 30 rfl q.heap.size 86 rE kO rfl (by omega) fJ (Ow.nil _ _ _ _ _) rfl d0.a rfl (fun a _=>jR a) ?_ ?_ (aD _) ?_)
 .have:=y.o; have:=a0.o; unfold maxLen; simp; omega
 .have:=y.o; have:=a0.o; simp; omega
 intro v5 Z N m1;have z:Bw' q Z:=Ow.grew (Ow.nil q q.heap.size 86 4 Rw.cells) m1 (aD _);obtain⟨g,c5,rfl,-⟩:=N.sl fJ;rw[y.o]at N ⊢;have H:=l.b.below z l.b.lt;have y1:=l.E.below z l.E.lt;have k8:=H.cell 8;have f8:=H.frozen 8;rw[show (f.cells++[p.rv])[8]? =some p.rv from rfl,O.o,y.o]at k8;have W:=H.setCell 8 (.slice g n c5);rw[show (f.cells++[p.rv]).set 8 (.slice g n c5)=f.cells++[.slice g n c5] from rfl]at W;have F:=(Chg.refl (fun i=>i=w.heap.size) Z).setCell (.inr rfl) 8 (.slice g n c5);have o1:j.heap.size≠w.heap.size:=fun e=>by have:=K.a; omega
 have I:=y1.chg F o1;have p0:=(l.a.below z).chg H F (by decide) (by decide) (by decide);have X:=N.chg F fun i V e=>N.ne_blk H (by decide) (e▸V);obtain⟨W6,g1⟩:=nm' (Z.setCell ⟨w.heap.size,8,none⟩ (.slice g n c5));rw[g1]at W F I p0 X;have l6:=W.load (P:=prog) (k:=9) rfl;have a2:=I.store (P:=prog) (cs':=f.cells++[.slice g n c5]) rfl (by
  intro u J;rcases dF.1 J with J|J
  .exact l.a.wv.one u J
  .rw[bQ.1 J]; rfl)
 have g0:=I.set (f.cells++[.slice g n c5]);have M:=(Chg.refl (fun i=>i=j.heap.size) W6).setRow (.inr rfl) (f.cells++[Value.slice g n c5]).toArray;obtain⟨W7,j1⟩:=nm' (W6.setRow j.heap.size (f.cells++[Value.slice g n c5]).toArray);rw[j1]at a2 g0 M;have l7:=g0.load (P:=prog) (k:=9) rfl;have a1:W2.heap.size≤q.heap.size:=d0.B;have HF:=k'2 (show Sv W7 w.heap.size ⟨f,p.rows,.slice g n c5⟩ q0 from
  ⟨(p0.chg I M (by decide) (by decide) (by decide)).mono m.o.size,(X.chg M fun i V e=>X.ne_blk I (by decide) (e▸V)).mono (aB m.o.size a1)⟩) (((l.c.on z).trans (F.below (fun i e=>fU e.symm) (aB l.c.size z.size))).trans (M.below (B:=w.heap.size) (fun i e=>by have:=K.b; omega) (aB (aB l.c.size z.size) F.size)))
 go_wp2_with fail;exact aU (v:=.agg (f.cells++[Value.slice g n c5]).toArray) (by simp[results,results54,go_sem,l7]) rfl ⟨⟨f,p.rows,.slice g n c5⟩,q0,rfl,by rw[←z0.o]; unfold StV.x; rw[l.d],HF.a,HF.B⟩
theorem Vj(p:StV)(ps:List ObV)(B:Nat)(w:World)(h:fN w B p ps)(j:B≤w.heap.size):
  Calls prog 25 #[.agg p.cells.toArray] w (NoR w (SmH p.p.x∧p.rows.length≤1000)):=by
 generalize l:w.alloc (.cells p.cells.toArray 32)=b;have i:Blk b w.heap.size 32 p.cells:=l▸Blk.new w 32 p.cells;have d:Bw' w b:=l▸ba' w _;have f:=kp d;obtain⟨n,k⟩:=nm' p.rows.length;obtain⟨A,c,E,-,-,-⟩:=h.2;have F:=i.loadOff (P:=prog) 0 8 p.p.cells p.h8 rfl;have z:=i.cell 8;rw[StV.c8,E,k]at z;have s:=kp k;have m:=kp (Vi p.p ps B b (h.1.below d j) (aB j d.size));go_enter func25,ntmps25
 by_cases c1:1000<n
 .have y:decide (1000<(n:Int))=true:=by simp; omega
  go_wp2_with fail;go_ret;exact NoR.of (fun h=>by cases h) f.o
 have y:decide (1000<(n:Int))=false:=by simp; omega
 have q:=kp c1;go_wp2_with fail;refine (m.o).mono ?_;rintro e G ⟨r,rfl,D,C⟩;have g:=k'2 D C;go_wp2_with fail;go_ret;exact NoR.of (fun h=>⟨g.a h,by have:=q.o; have:=s.o; omega⟩) (f.o.on g.B)
end
end Go.Proofs.YtdoopoapbffpbaaGreat
