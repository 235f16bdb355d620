import Derived.Test.YtdoopoapbffpbaaGreatZ18
import Derived.Test.YtdoopoapbffpbaaGreatZ20
namespace Go.Proofs.YtdoopoapbffpbaaGreat
open Go.RowKit Go.Proofs.Tryz
set_option maxRecDepth 100000
set_option maxHeartbeats 12800000
set_option linter.unusedVariables false
set_option linter.unusedSimpArgs false
section
attribute [-go_sem] loadCellsFrom storeCells
attribute [local go_sem] bC
theorem Wx.chg{w k:World}{base g b:Nat}{p:HpV}{ps:List ObV}{t:TypeId}{l:List Value}(h:Wx w base g p ps)(c:Blk w b t l)(d:Chg (fun i=>i=b) w k)(m:t≠90)(n:t≠88)(f:t≠3)(o:228≠t):Wx k base g p ps:=
 ⟨h.blk.chg d (h.blk.ne c o),h.lo,aO.chg h.obs d fun _ a e=>aO.not_blk h.obs c m (e▸a),h.rws.chg d fun q j _ e=>⟨fun a=>(h.rws.row q j).1.tagF c (fun e=>f e.symm) (e▸a.symm),fun a=>(h.rws.row q j).2.tagF c (fun e=>f e.symm) (e▸a.symm)⟩,aO.chg h.free d fun _ a e=>aO.not_blk h.free c n (e▸a),h.eq⟩
theorem Wx.below{w c:World}{base g:Nat}{p:HpV}{ps:List ObV}(a:Wx w base g p ps)(b:Bw' w c):Wx c base g p ps:=⟨a.blk.below b a.blk.lt,a.lo,a.obs.below b,a.rws.below b,a.free.below b,a.eq⟩
def Two(e:Nat)(Wa Wb:World)(X:Nat→Option Value)(W:World):Prop:=(X e=none→W=Wa)∧((X e).isSome=true→W=Wb)
theorem Two.start(e:Nat)(a b:World):Two e a b (fun _=>none) a:=⟨fun _=>rfl,fun h=>by cases h⟩
theorem Two.other{e j:Nat}{a b W:World}{X:Nat→Option Value}{v:Value}(h:Two e a b X W)(c:j≠e):Two e a b (bD X j v) W:=by
 unfold Two;rw[aR (bL c)];exact h
theorem Two.at_{e:Nat}{b a:World}{X:Nat→Option Value}{v:Value}:Two e b a (bD X e v) a:=⟨fun h=>by simp[bD]at h,fun _=>rfl⟩
theorem Two.all{e:Nat}{a b W:World}{X:Nat→Option Value}(h:Two e a b X W){P:World→Prop}(c:P a)(d:P b):P W:=by
 cases hx:X e with
 |none=>rw[h.1 hx]; exact c
 |some u=>rw[h.2 (by rw[hx]; rfl)]; exact d
theorem Kj(p:HpV)(ps:List ObV)(o:Opn)(B:Nat)(w:World)(h:gH w B p ps)(hB:B≤w.heap.size)(H:cO p.x=true):
  Calls prog 141 #[.agg p.cells.toArray,.agg o.cells.toArray] w fun e w'=>∃p' j4,e=.returned (.tuple #[.agg p'.cells.toArray,.agg #[.i (dU p.x o).2.1,.i (dU p.x o).2.2]])∧p'.x=(dU p.x o).1∧(∃base g,w.heap.size≤base∧Wx w' base g p' j4)∧Bw' w w':=by
 obtain⟨R,hR⟩:=nm' (dU p.x o);rw[hR];have o3:=kp hR;clear hR;have S:=eC.1 H;have hl:=S.len;have a2:=fun x hx=>S.lens (x:=x) hx;have d4:ps.length≤256:=by have:=bG List.length h.2.1; rw[cW]at this; omega
 have hz:∀u∈ps,u.x.ws.length≤1000∧u.x.ls.length≤1000:=fun u hu=>by
  have:=a2 u.x (by rw[h.2.1]; exact cX.2 ⟨u,hu,rfl⟩);omega
 have q:=Blk.new w 29 p.cells;have z:=ba' w (.cells p.cells.toArray 29);obtain⟨W1,z3⟩:=nm' (w.alloc (.cells p.cells.toArray 29));rw[z3]at q z;have L:=Blk.new W1 44 o.cells;have f:=ba' W1 (.cells o.cells.toArray 44);obtain⟨j,e0⟩:=nm' (W1.alloc (.cells o.cells.toArray 44));rw[e0]at L;rw[e0]at f;have V:=Blk.new j 29 z'1;have r:=ba' j (.cells z'1a 29);obtain⟨K,y1⟩:=nm' (j.alloc (.cells z'1a 29));rw[show ((z'1:List Value).toArray)=z'1a from rfl,y1]at V;rw[y1]at r;have p0:=bZ.new K;have C:=ba' K (.cells #[.i 0,.i 0] 53);obtain⟨W4,z1⟩:=nm' (K.alloc (.cells #[.i 0,.i 0] 53));rw[z1]at p0;rw[z1]at C;have O:=k'2 (((z.on f).trans (r.mono (aB z.size f.size))).trans (C.mono (aB (aB z.size f.size) r.size))) (aB hB (aB (aB (aB z.size f.size) r.size) C.size));have m3:=k'2 (aB z.size f.size) (aB (aB z.size f.size) r.size);have Z:=kp (((q.below f q.lt).below r (q.below f q.lt).lt).below C ((q.below f q.lt).below r (q.below f q.lt).lt).lt);have H1:=kp ((L.below r L.lt).below C (L.below r L.lt).lt);have H2:=kp (V.below C V.lt);have H3:=kp p0;have HS:=kp (h.below O.a hB);have j3:=kp (by have:=yD p ps B W4 HS.o O.B (by omega) (by omega); rw[H]at this; exact this);have e3:=kp (fun(W':World)(hb:Bw' W4 W')=>Ui p ps B W' (HS.o.below hb O.B) (aB O.B hb.size) (by omega) (by omega) hz);have l3:=kp S;rw[show o.cells.toArray=#[.i o.k,.i o.h,.i o.i,.i o.n,.i o.m,.i o.v,.i o.t] from rfl]at e0;show Calls _ _ #[_,.agg #[.i o.k,.i o.h,.i o.i,.i o.n,.i o.m,.i o.v,.i o.t]] _ _;have l0:=Z.o.load (P:=prog) (k:=8) rfl;clear q z L f V r p0 C h hB H hl a2 d4 hz S;go_enter func141,ntmps141;go_wp2_with fail;refine mb' (j3.o) fun w5 D=>?_;have o2:=kp (Z.o.below D Z.o.lt);have a1:=kp (H1.o.below D H1.o.lt);have d1:=kp (H2.o.below D H2.o.lt);have g1:=kp (H3.o.below D);have m1:=kp (O.a.on D);have g3:=kp (e3.o w5 D);have l5:=o2.o.load (P:=prog) (k:=8) rfl;clear D l0;go_wp2_with fail;refine (g3.o).mono ?_;rintro e w6 ⟨g,p1,l4,rfl,o0,e2,M⟩;dsimp only;have m0:=d1.o.lt;have b2:=Blk.lt g1.o;have y2:=kp (d1.o.below M m0);have z2:=kp (g1.o.below M);have q2:=kp (a1.o.below M a1.o.lt);have b3:=kp (m1.o.on M);have l6:=q2.o.load (P:=prog) (k:=7) rfl;have q1:=kp (Uy o w6 e2 M.size (by rw[o0]; exact l3.o));have I:=k'4 m0 b2 m1.o.size m3.o;rw[o0,o3.o]at q1;clear M e2 m0 b2 o0 l5;go_wp2_with fail;refine mb' (q1.o) fun y g4=>?_;obtain⟨s,m2,j2,g2,T⟩:=g4;have e1:=kp (y2.o.below T.bel I.a);have a3:=kp (show bZ y _ 0 0 from Blk.below z2.o T.bel I.b);have d3:=kp (b3.o.trans (T.bel.mono I.c));have J:=k'2 j2 g2;clear j2 g2 T l6;have q0:=bZ.new y;have d2:=q0.store R.2.1 R.2.2;have y0:=q0.set R.2.1 R.2.2;have F:Bw' y ((y.alloc (.cells #[.i 0,.i 0] 53)).setRow y.heap.size #[.i R.2.1,.i R.2.2]):=cL (ba' y _) (aD _) _;obtain⟨l,a4⟩:=nm' ((y.alloc (.cells #[.i 0,.i 0] 53)).setRow y.heap.size #[.i R.2.1,.i R.2.2]);rw[a4]at d2 y0 F;have d0:=kp y0;have a0:=kp (J.B.blk.below F J.B.blk.lt);have G:=kp (e1.o.below F e1.o.lt);have j1:=kp (bZ.below a3.o F);have o1:=kp (d3.o.on F);have p3:=kp (J.B.below F);clear q0 y0 F;go_wp2_with fail;clear d2;have e4:=(show Blk l.drew j.heap.size 29 z'1 from G.o).store (P:=prog) (cs':=s.cells) rfl (HpV.one J.B.obs.sl.one J.B.free.sl.one);refine fR 6 (Two 5 l.drew (l.drew.setRow j.heap.size s.cells.toArray)) (fun _=>fK) (by kernel_rfl) (by kernel_rfl) (Two.start _ _ _) ?_
 iterate 5 (refine bO ?_; apply Exists.intro)
 refine bS eM ?_;refine dR ⟨?pers,?walk⟩
 case walk=>
  iterate 5
   apply Ug (by kernel_rfl) (by intro t w h; cases h; exact trivial) rfl
   .intro X W' A hX hw hV hF;have hg:=A.all (P:=fun W=>Blk W g 228 s.cells) a0.o (Blk.other a0.o (a0.o.ne G.o (by decide)) _);have hr:=A.all (P:=fun W=>bZ W y.heap.size R.2.1 R.2.2) d0.o (Blk.other d0.o (Blk.ne d0.o G.o (by decide)) _);have l0:=hg.load (P:=prog) (k:=8) rfl;have l1:=hr.load;clear hg hr;go_wp2_with fail;exact⟨rfl,_,rfl,A.other (by decide),aV,rfl⟩
   simp only[Act.put,aN,aH,aI,aT,aW]
  refine⟨fun X W' A hX hw hV hF=>?_,fun u5=>?_⟩
  .obtain rfl:=A.1 hX;go_wp2_with fail;exact⟨rfl,undef,rfl,Two.at_,aV,trivial⟩
  simp only[Act.put,aT,aW];intro W9 A hF;clear hF;obtain rfl:=A.2 rfl;simp only[dO,dP];have Y:=(show Blk l.drew j.heap.size 29 z'1 from G.o).set s.cells;have j0:=(Chg.refl (fun i=>i=j.heap.size) l.drew).setRow (.inr rfl) s.cells.toArray;have z0:=(show Wx l.drew w5.heap.size g s m2 from p3.o.below (bR (aL _ _))).chg (show Blk l.drew j.heap.size 29 _ from G.o) j0 (by decide) (by decide) (by decide) (by decide);have N:bZ (l.drew.setRow j.heap.size s.cells.toArray) K.heap.size 0 0:=Blk.other (show bZ l.drew K.heap.size 0 0 from j1.o) (Blk.ne j1.o G.o (by decide)) _;have Q:=(gG o1.o 1).trans (j0.below (B:=w.heap.size) (fun i e=>e▸I.d) o1.o.size);obtain⟨W9,g0⟩:=nm' (l.drew.setRow j.heap.size s.cells.toArray);rw[g0]at Y z0 N ⊢;have Q:Bw' w W9:=by rw[←g0]; exact Q
  clear g0 j0;have h1:=N.store R.2.1 R.2.2;have HP:=N.set R.2.1 R.2.2;have U:=(Chg.refl (fun i=>i=K.heap.size) W9).setRow (.inr rfl) #[.i R.2.1,.i R.2.2];have l2:=Y.chg U (Y.ne N (by decide));have HF:=k'2 (z0.chg N U (by decide) (by decide) (by decide) (by decide)) (Q.trans (U.below (B:=w.heap.size) (fun i e=>e▸I.E) Q.size));have q3:=l2.load (P:=prog) (k:=8) rfl;have y3:=HP.load;clear Y z0 N Q U l2 e4;go_wp2_with fail;exact aU (v:=.tuple #[.agg s.cells.toArray,.agg #[.i R.2.1,.i R.2.2]]) (by simp[results,results141,go_sem,q3,y3]) rfl ⟨s,m2,rfl,J.a,⟨_,_,I.c,HF.a⟩,HF.B⟩
 case pers=>exact⟨pv',pv',pv',pv',pv',fun _ _ _ _ _ h _=>h,trivial⟩
end
section
structure Hv(w:World)(base:Nat)(p:HpV)(ps:List ObV):Prop where
 obs:Ow w base 90 5 p.ov ObV.cells ps
 rws:Rws w base ps
 eq:p.x.obs=ps.map (·.x)
 free:OR w (fun i=>base≤i) 88 2 p.fv Bk.cells p.x.free
structure Wv(w:World)(base:Nat)(p:HpV)(ps:List ObV):Prop where
 obs:OR w (fun i=>base≤i) 90 5 p.ov ObV.cells ps
 rws:Rws w base ps
 eq:p.x.obs=ps.map (·.x)
 free:OR w (fun i=>base≤i) 88 2 p.fv Bk.cells p.x.free
def kE:List Value:=z'1
section
variable {w w' w0:World}{base b r4 r5:Nat}{p:HpV}{ps:List ObV}{t:TypeId}{cs:List Value}
theorem Rws.mono{base base2:Nat}{w:World}{ps:List ObV}(h:Rws w base ps)(a:base2≤base):Rws w base2 ps:=⟨fun q b=>⟨(h.row q b).1.mono a,(h.row q b).2.mono a⟩,h.sep⟩
theorem Hv.below(h:Hv w base p ps)(a:Bw' w w'):Hv w' base p ps:=⟨h.obs.below a,h.rws.below a,h.eq,h.free.below a⟩
theorem Wv.below(h:Wv w base p ps)(a:Bw' w w'):Wv w' base p ps:=⟨h.obs.below a,h.rws.below a,h.eq,h.free.below a⟩
theorem Hv.wv(h:Hv w base p ps):Wv w base p ps:=⟨OR.of_ow h.obs fun _ h _=>h,h.rws,h.eq,h.free⟩
theorem Wv.hpAt(h:Wv w base p ps):gH w w.heap.size p ps:=⟨⟨h.obs.sl,fun q a=>⟨(h.rws.row q a).1.sl cS,(h.rws.row q a).2.sl cS⟩⟩,h.eq,h.free.sl⟩
theorem Wv.chg(h:Wv w base p ps)(c:Blk w b t cs)(d:Chg (fun i=>i=b) w w')(j:t≠90)(k:t≠88)(f:t≠3):Wv w' base p ps:=
 ⟨aO.chg h.obs d fun _ a e=>aO.not_blk h.obs c j (e▸a),h.rws.chg d fun q g _ e=>⟨fun a=>(h.rws.row q g).1.tagF c (fun e=>f e.symm) (e▸a.symm),fun a=>(h.rws.row q g).2.tagF c (fun e=>f e.symm) (e▸a.symm)⟩,h.eq,aO.chg h.free d fun _ a e=>aO.not_blk h.free c k (e▸a)⟩
theorem Wv.one(h:Wv w base p ps):∀u∈p.cells,u.oneCell'=true:=HpV.one h.obs.sl.one h.free.sl.one
end
structure Bz(base:Nat)(w w':World):Prop where
 bel:Below base w w'
 keep:∀i t cs,t≠3→t≠90→Blk w i t cs→Blk w' i t cs
section
variable {α:Type}{enc:α→List Value}{w0 w w':World}{base b k:Nat}{t:TypeId}{v:Value}{l:List α}{S:Nat→Prop}
theorem Bz.size(h:Bz base w0 w):w0.heap.size≤w.heap.size:=h.bel.size
theorem Bz.of(h:Bw' w0 w)(b:base≤w0.heap.size):Bz base w0 w:=⟨h.mono b,fun _ _ _ _ _ a=>a.below h a.lt⟩
theorem Bz.trans(h:Bz base w0 w)(a:Bz base w w'):Bz base w0 w':=⟨h.bel.trans a.bel,fun i t cs b c d=>a.keep i t cs b c (h.keep i t cs b c d)⟩
theorem Bz.below(h:Bz base w0 w)(a:base≤w0.heap.size)(b:Bw' w w'):Bz base w0 w':=h.trans (.of b (aB a h.size))
theorem Bz.new(h:Bz base w0 w)(a:base≤w0.heap.size)(c:Chg (fun i=>i=b) w w')(j:w0.heap.size≤b):Bz base w0 w':=
 ⟨h.bel.trans (c.below (fun _ e=>e▸aB a j) (aB a h.size)),fun i t cs f g d=>(h.keep i t cs f g d).chg c (fun e=>by have:=d.lt; omega)⟩
theorem Bz.row(h:Bz base w0 w)(g:base≤w0.heap.size)(f:Ow w base t k v enc l)(j:t=3∨t=90)(c:Chg (fun i=>some i=v.ownBlock) w w'):Bz base w0 w':=
 ⟨h.bel.trans (c.below (fun i e=>(f.lt e.symm).1) (aB g h.size)),fun i t cs a b d=>(h.keep i t cs a b d).chg c (f.tagF (h.keep i t cs a b d) fun e=>by subst e; rcases j with e|e; exact a e; exact b e)⟩
end
section
variable {w w' w0:World}{base b r4 r5:Nat}{p:HpV}{ps:List ObV}{t:TypeId}{cs:List Value}
theorem Wv.fin(h:Wv w base p ps)(b:Blk w r4 29 kE)(l:bZ w r5 0 0)(n:Bz base w0 w)(k:base≤w0.heap.size)(r:w0.heap.size≤r4)(s:w0.heap.size≤r5)(c d:Int):
  ∃f a,Sem.run prog (storeCells ⟨r4,0,none⟩ p.cells 0) w=.ok () f∧Sem.run prog (storeCells ⟨r5,0,none⟩ [.i c,.i d] 0) f=.ok () a∧
   Sem.run prog (loadCellsFrom ⟨r4,0,none⟩ 0 8 #[]) a=.ok p.cells.toArray a∧Sem.run prog (loadCellsFrom ⟨r5,0,none⟩ 0 2 #[]) a=.ok #[.i c,.i d] a∧Wv a base p ps∧Bz base w0 a∧Chg (fun i=>i=r4) w f:=by
 have g:=(Chg.refl (fun i=>i=r4) w).setRow (.inr rfl) p.cells.toArray;have o:=h.chg b g (by decide) (by decide) (by decide);have e:bZ (w.setRow r4 p.cells.toArray) r5 0 0:=Blk.other l (Blk.ne l b (by decide)) _;have m:=b.set p.cells;have j:=(Chg.refl (fun i=>i=r5) (w.setRow r4 p.cells.toArray)).setRow (.inr rfl) #[.i c,.i d];have q:=m.chg j (m.ne e (by decide));refine⟨w.setRow r4 p.cells.toArray,(w.setRow r4 p.cells.toArray).setRow r5 #[.i c,.i d],b.store (P:=prog) rfl h.one,e.store c d,q.load (P:=prog) rfl,(e.set c d).load,o.chg e j (by decide) (by decide) (by decide),?_,g⟩;exact (n.new k g r).new k j s
end
theorem Kk(p:HpV)(ps:List ObV)(B:Nat)(w:World)(h:gH w B p ps)(hB:B≤w.heap.size)(hn:ps.length≤1000)(b9:p.x.free.length≤1000)(hr:∀q∈ps,q.x.ws.length≤5001∧q.x.ls.length≤5001):
  Calls prog 103 #[.agg p.cells.toArray] w fun e w'=>∃p' q8,e=.returned (.agg p'.cells.toArray)∧p'.x=p.x∧Hv w' w.heap.size p' q8∧Bw' w w':=by
 have F:=Blk.new w 29 p.cells;have l2:=ba' w (.cells p.cells.toArray 29);obtain⟨W1,j8⟩:=nm' (w.alloc (.cells p.cells.toArray 29));rw[j8]at F l2;have m1:=Blk.new W1 29 kE;have j0:=ba' W1 (.cells kE.toArray 29);rw[show kE.toArray=z'1a from rfl]at m1 j0;obtain⟨N,l8⟩:=nm' (W1.alloc (.cells z'1a 29));rw[l8]at m1 j0;have HZ:=kp (F.below j0 F.lt);have HR:=kp m1;have T:=kp (l2.on j0);have z0:=kp (aB hB (aB l2.size j0.size));have HS:=kp (h.below T.o hB);have z6:=kp hB;have f:=k'2 F.lt (show W1.heap.size<N.heap.size from m1.lt);have y5:=kp (show w.heap.size≠W1.heap.size from uI F.lt);have j7:=kp hr;obtain⟨n,hl⟩:=nm' ps.length;have HL:=kp hl;rw[hl]at hn;clear F l2 m1 j0 h hB hl hr;go_enter func103,ntmps103;go_wp2_with fail
 go_loopw [3,4] (fun vl i wr=>∃(k:Nat)(r:List ObV),i=.i k∧(k≤n∧r.length=k∧r.map (·.x)=(ps.take k).map (·.x))∧Ow wr N.heap.size 90 5 vl ObV.cells r∧Rws wr N.heap.size r∧Bw' N wr) (fun _ i _=>n-(intOf i).toNat)
 case atStart=>exact⟨0,[],rfl,⟨by omega,rfl,rfl⟩,Ow.nil _ _ _ _ _,⟨by simp,by simp⟩,aL _ _⟩
 case round=>
  obtain⟨k,r,rfl,j,ho,q6,m2⟩:=hrel;have HQ:=kp j;have HO:=kp ho;have g0:=kp q6;have m:=kp m2;have hS:=HS.o.below m2 z0.o;have hp:=cI.of (HZ.o.below m2 HZ.o.lt);obtain⟨A,c,j6,m6,-,-⟩:=hS.1.1;have q1:=hp.c1;rw[j6,HL.o]at q1;have z8:=j.1;clear j ho q6 m2
  by_cases a9:k<n
  .have g3:(k:Int)<n:=by omega
   have y0:k<ps.length:=by have:=HL.o; omega
   obtain⟨b,d9,rfl,p8,o0,-⟩:=bV (P:=prog) 5 cM (by omega) m6 k y0;obtain⟨Z,cw,Y,cl,m5,y4,-,-,-⟩:=vH hS.1 k y0;have l5:=hS.1.2 _ (bK y0);have o6:=j7.o _ (bK y0);have x0:=o0 0 _ rfl;have x1:=o0 1 _ rfl;have x2:=o0 2 _ rfl;have x3:=o0 3 _ rfl;have x4:=o0 4 _ rfl;simp only[cF]at x0;have HT:=kp (cV y0);generalize ps[k]'y0=y at *;rw[m5]at x3;rw[y4]at x4;have W:=ba' wr (.cells #[.i y.x.h,.i y.x.b.a,.i y.x.b.o,.slice Z y.x.ws.length cw,.slice Y y.x.ls.length cl] 90);have y2:=Blk.new wr 90 [.i y.x.h,.i y.x.b.a,.i y.x.b.o,.slice Z y.x.ws.length cw,.slice Y y.x.ls.length cl];obtain⟨V,j2⟩:=nm' (wr.alloc (.cells #[.i y.x.h,.i y.x.b.a,.i y.x.b.o,.slice Z y.x.ws.length cw,.slice Y y.x.ls.length cl] 90));rw[show ([.i y.x.h,.i y.x.b.a,.i y.x.b.o,.slice Z y.x.ws.length cw,.slice Y y.x.ls.length cl]:List Value).toArray=#[.i y.x.h,.i y.x.b.a,.i y.x.b.o,.slice Z y.x.ws.length cw,.slice Y y.x.ls.length cl] from rfl,j2]at y2;rw[j2]at W;have o5:=kp y2;have a0:=kp W;have e8:=kp (show Sl V V.heap.size (.slice Z y.x.ws.length cw) i1 y.x.ws by have:=l5.1.below W (aB z0.o m.o.size); rw[m5]at this; exact this.more (aB (aB z0.o m.o.size) W.size));have m7:=kp (show Sl wr wr.heap.size (.slice Y y.x.ls.length cl) i1 y.x.ls by have:=l5.2; rw[y4]at this; exact this.more (aB z0.o m.o.size));have k3:=y2.cell 3;simp only[aG,aK]at k3;have b2:=kp o6;clear o0 l5 o6 W y2 m5 y4 hS hp j6 m6 p8;go_wp2_with (at_builtin; refine eU (enc:=i1) V rfl (.tmp 20) (.tmp 22) 33 rfl V.heap.size 3 mL lT rfl (by omega) cS (Ow.nil _ _ _ _ _) rfl e8.o rfl (fun a _=>pJ a) ?_ ?_ (aD _) ?_)
   .have:=b2.o; unfold maxLen; simp; omega
   .have:=b2.o; simp; omega
   intro v4 w4 L a6;have E:Bw' V w4:=(aL _ _).grown a6 (aD _) (by simp[Value.ownBlock]);obtain⟨s,c4,rfl,-⟩:=eD L;have b1:=o5.o.below E o5.o.lt;have j3:=b1.cell 3;have f3:=b1.frozen 3;simp only[aG,aK]at j3;have G:=(Chg.refl (fun i=>i=wr.heap.size) w4).setCell (.inr rfl) 3 (.slice s y.x.ws.length c4);have z2:=b1.setCell 3 (.slice s y.x.ws.length c4);have Q:=L.chg G fun i d e=>L.ne_blk b1 (by decide) (e▸d);have K:Bw' wr _:=(a0.o.on E).trans (G.below (fun i e=>fU e.symm) (aB a0.o.size E.size));obtain⟨W5,l4⟩:=nm' (w4.setCell ⟨wr.heap.size,3,none⟩ (.slice s y.x.ws.length c4));rw[l4]at z2 Q K G;have m3:=kp (Q.mono a0.o.size);have l3:=kp K;have q5:=kp z2;have l7:=kp (m7.o.below K (aD _));have k4:=z2.cell 4;simp only[aH,aI,aG,aK]at k4;clear E b1 G z2 Q K L a6 k3 x0 x1 x2 x3 x4;go_wp2_with (at_builtin; refine eU (enc:=i1) W5 rfl (.tmp 26) (.tmp 28) 33 rfl W5.heap.size 3 mL lT rfl (by omega) cS (Ow.nil _ _ _ _ _) rfl l7.o rfl (fun a _=>pJ a) ?_ ?_ (aD _) ?_)
   .have:=b2.o; unfold maxLen; simp; omega
   .have:=b2.o; simp; omega
   intro v6 w6 j1 b6;have l0:Bw' W5 w6:=(aL _ _).grown b6 (aD _) (by simp[Value.ownBlock]);obtain⟨S,c6,rfl,-⟩:=eD j1;have q0:=q5.o.below l0 q5.o.lt;have j4:=q0.cell 4;have f4:=q0.frozen 4;simp only[aH,aI,aG,aK]at j4;have o2:=(Chg.refl (fun i=>i=wr.heap.size) w6).setCell (.inr rfl) 4 (.slice S y.x.ls.length c6);have X:=q0.setCell 4 (.slice S y.x.ls.length c6);have b5:=j1.chg o2 fun i d e=>j1.ne_blk q0 (by decide) (e▸d);have a5:=(m3.o.below l0).chg o2 fun i d e=>(m3.o.below l0).ne_blk q0 (by decide) (e▸d);have m4:Bw' wr _:=(l3.o.on l0).trans (o2.below (fun i e=>fU e.symm) (aB l3.o.size l0.size));obtain⟨W7,m8⟩:=nm' (w6.setCell ⟨wr.heap.size,4,none⟩ (.slice S y.x.ls.length c6));rw[m8]at X b5 m4 a5;have o3:=k'3 a5 b5 (show Apt (.slice s y.x.ws.length c4) (.slice S y.x.ls.length c6) from fun i d H=>by have:=(m3.o.lt d).2; have:=(j1.lt H).1; omega);have a7:=kp m4;have z3:=kp l3.o.size;have k0:=X.cell 0;have k1:=X.cell 1;have k2:=X.cell 2;have k3:=X.cell 3;have k5:=X.cell 4;simp only[aH,aI,aG,aK]at k0 k1 k2 k3 k5;obtain⟨z,F⟩:∃z:ObV,(⟨y.x,.slice s y.x.ws.length c4,.slice S y.x.ls.length c6⟩:ObV)=z:=⟨_,rfl⟩
   have y6:z.cells.toArray=#[.i y.x.h,.i y.x.b.a,.i y.x.b.o,.slice s y.x.ws.length c4,.slice S y.x.ls.length c6]:=by rw[←F]; rfl
   have g4:=kp F;have a3:=eQ (enc:=ObV.cells) W7 90 z;have m0:=ba' W7 (.cells z.cells.toArray 90);rw[y6]at a3 m0;obtain⟨W8,o8⟩:=nm' (W7.alloc (.cells #[.i y.x.h,.i y.x.b.a,.i y.x.b.o,.slice s y.x.ws.length c4,.slice S y.x.ls.length c6] 90));rw[o8]at a3 m0;have g8:=kp a3;have a2:=kp (a7.o.on m0);have U:=k'3 (o3.a.below m0) (o3.b.below m0) o3.C;have q3:=kp (HO.o.below a2.o);have y3:=kp (g0.o.below a2.o);have z5:=kp (aB m.o.size a2.o.size);clear l0 q0 o2 X b5 a5 m4 j1 b6 a3 m0 F y6 k4 j3 f3;go_wp2_with (at_builtin; refine eU (enc:=ObV.cells) W8 rfl (.tmp 32) (.tmp 34) 25 rfl N.heap.size 90 pS nE rfl (by omega) cM q3.o rfl g8.o rfl (fun a ha=>?_) ?_ ?_ z5.o ?_)
   .rw[bQ.1 ha,←g4.o];intro u hu;simp only[ObV.cells,bA,dW,or_false]at hu;rcases hu with rfl|rfl|rfl|rfl|rfl<;>rfl
   .have:=HQ.b; unfold maxLen; simp; omega
   .have:=HQ.b; simp; omega
   intro v9 w9 g6 q4;have q7:=kp g6;have b7:=kp (m.o.trans ((a2.o.mono m.o.size).trans (q3.o.grew q4 z5.o)));have d8:=kp (show Rws w9 N.heap.size (r++[z]) by
    have h1:∀{b0:Nat}{v:Value}{l:List Int},Ow W8 b0 3 1 v i1 l→Ow w9 b0 3 1 v i1 l:=fun h=>q3.o.other h (by decide) q4;have h2:Rws w9 N.heap.size r:=⟨fun q j=>⟨h1 (y3.o.row q j).1,h1 (y3.o.row q j).2⟩,y3.o.sep⟩
    rw[←g4.o];refine h2.snoc ((h1 U.a).mono m.o.size) ((h1 U.b).mono (aB m.o.size z3.o)) (fun i d H=>U.C i d H) fun q j=>?_;have g1:=(g0.o.row q j).1;have g2:=(g0.o.row q j).2;refine⟨fun i d H=>?_,fun i d H=>?_,fun i d H=>?_,fun i d H=>?_⟩
    .have:=(g1.lt d).2; have:=(U.a.lt H).1; omega
    .have:=(g1.lt d).2; have:=(U.b.lt H).1; have:=z3.o; omega
    .have:=(g2.lt d).2; have:=(U.a.lt H).1; omega
    .have:=(g2.lt d).2; have:=(U.b.lt H).1; have:=z3.o; omega)
   clear g6 q4 k0 k1 k2 k3 k5 j4 f4;go_wp2_with fail;go_roundw
   case rel=>exact⟨k+1,r++[z],by go_num,⟨by omega,by rw[bB,HQ.b]; rfl,by rw[HT.o,gC,gC,HQ.C,←g4.o]; rfl⟩,q7.o,d8.o,b7.o⟩
   case measure=>simp[intOf]; omega
  .obtain rfl:k=n:=by omega
   have a8:=kp (Ih p.fv p.x.free B);obtain⟨R,c3,rfl,-⟩:=HO.o.sl cM;have F:=HZ.o.below m.o HZ.o.lt;have z1:=F.cell 1;have y1:=F.frozen 1;have O:=(Chg.refl (fun i=>i=w.heap.size) wr).setCell (.inr rfl) 1 (.slice R r.length c3);have o1:=F.setCell 1 (.slice R r.length c3);have W:Bw' N wr:=m.o;have z4:=HO.o.chg O fun i d e=>by have:=(HO.o.lt d).1; have:=f.a; have:=f.B; omega
   have g5:=g0.o.chg O fun q j i e=>⟨fun d=>by have:=((g0.o.row q j).1.lt d).1; have:=f.a; have:=f.B; omega,fun d=>by have:=((g0.o.row q j).2.lt d).1; have:=f.a; have:=f.B; omega⟩
   have o4:=(HS.o.below m.o z0.o).2.2.below (C:=w.heap.size) (O.below (fun i e=>fU e.symm) (aB T.o.size m.o.size)) z6.o;have j5:=(HR.o.below m.o f.B).chg O (fun e=>y5.o e.symm);obtain⟨V,j2⟩:=nm' (wr.setCell ⟨w.heap.size,1,none⟩ (.slice R r.length c3));rw[j2]at O o1 z4 g5 o4 j5;have a0:=kp ((T.o.on m.o).trans (O.below (B:=w.heap.size) (fun i e=>fU e.symm) (aB T.o.size m.o.size)));have J:=k'4 o1 z4 g5 j5;have o7:=kp (a8.o V o4 (by omega));have a4:=kp (aB m.o.size O.size);have z7:=o1.cell 7;have y7:=o1.frozen 7;simp only[HpV.cells,aH,aI,aG,aK]at z1 z7;clear F O o1 W z4 g5 o4 j5;go_wp2_with fail;refine (o7.o).mono ?_;rintro e w4 ⟨v4,rfl,L,E⟩;obtain⟨s,c4,rfl,-⟩:=L.sl bM;have b3:=J.a.below E J.a.lt;have l6:=J.D.below E J.D.lt;dsimp only;have z7:=b3.cell 7;have y8:=b3.frozen 7;have G:=(Chg.refl (fun i=>i=w.heap.size) w4).setCell (.inr rfl) 7 (.slice s p.x.free.length c4);have I:=b3.setCell 7 (.slice s p.x.free.length c4);have Q:=(J.b.below E).chg G fun i d e=>by have:=((J.b.below E).lt d).1; have:=f.a; have:=f.B; omega
   have l1:=(J.c.below E).chg G fun q j i e=>⟨fun d=>by have:=(((J.c.below E).row q j).1.lt d).1; have:=f.a; have:=f.B; omega,fun d=>by have:=(((J.c.below E).row q j).2.lt d).1; have:=f.a; have:=f.B; omega⟩
   have q2:=L.chg G fun i d e=>by have:=(L.lt d).1; have:=a4.o; have:=f.a; have:=f.B; omega
   have g:=l6.chg G (fun e=>y5.o e.symm);have K:=(a0.o.on E).trans (G.below (B:=w.heap.size) (fun i e=>fU e.symm) (aB a0.o.size E.size));simp only[HpV.cells,aH,aI,aG,aK]at z7;obtain⟨W5,l4⟩:=nm' (w4.setCell ⟨w.heap.size,7,none⟩ (.slice s p.x.free.length c4));rw[l4]at I Q l1 q2 g K;simp only[HpV.cells,aH,aI]at I;unfold kE at g;have d0:=I.cell 0;have e0:=g.cell 0;have f0:=g.frozen 0;have d1:=I.cell 1;have e1:=g.cell 1;have f1:=g.frozen 1;have d2:=I.cell 2;have e2:=g.cell 2;have f2:=g.frozen 2;have d3:=I.cell 3;have e3:=g.cell 3;have f3:=g.frozen 3;have d4:=I.cell 4;have e4:=g.cell 4;have f4:=g.frozen 4;have d5:=I.cell 5;have e5:=g.cell 5;have f5:=g.frozen 5;have d6:=I.cell 6;have e6:=g.cell 6;have f6:=g.frozen 6;have d7:=I.cell 7;have e7:=g.cell 7;have f7:=g.frozen 7;simp only[aG,aK]at d0 e0 d1 e1 d2 e2 d3 e3 d4 e4 d5 e5 d6 e6 d7 e7;have M:=kp (((((((((g).setCell 0 (.i p.x.order)).setCell 1 (.slice R r.length c3)).setCell 2 (.i p.x.next)).setCell 3 (.i p.x.t0)).setCell 4 (.i p.x.t1)).setCell 5 (.i p.x.t2)).setCell 6 (.i p.x.t3)).setCell 7 (.slice s p.x.free.length c4));have a1:=((((((((Chg.refl (fun i=>i=W1.heap.size) W5).setCell (.inr rfl) 0 (.i p.x.order)).setCell (.inr rfl) 1 (.slice R r.length c3)).setCell (.inr rfl) 2 (.i p.x.next)).setCell (.inr rfl) 3 (.i p.x.t0)).setCell (.inr rfl) 4 (.i p.x.t1)).setCell (.inr rfl) 5 (.i p.x.t2)).setCell (.inr rfl) 6 (.i p.x.t3)).setCell (.inr rfl) 7 (.slice s p.x.free.length c4);have HF:=kp (show Hv _ w.heap.size ⟨p.x,.slice R r.length c3,.slice s p.x.free.length c4⟩ r from
    ⟨(Q.chg a1 fun i d e=>by have:=(Q.lt d).1; have:=f.B; omega).mono T.o.size,(l1.chg a1 fun q j i e=>⟨fun d=>by have:=((l1.row q j).1.lt d).1; have:=f.B; omega,fun d=>by have:=((l1.row q j).2.lt d).1; have:=f.B; omega⟩).mono T.o.size,
     by rw[HQ.C,cN (by have:=HL.o; omega)]; exact HS.b,OR.of_ow (q2.chg a1 fun i d e=>by have:=(q2.lt d).1; have:=a4.o; have:=f.B; omega) fun i h _=>aB (aB T.o.size a4.o) h⟩)
   have g7:=kp (K.trans (a1.below (B:=w.heap.size) (fun i e=>by have:=f.a; omega) K.size));clear b3 l6 G I Q l1 q2 g K a1 L E z1 y1 q1;go_wp2_with fail;clear d0 e0 f0 d1 e1 f1 d2 e2 f2 d3 e3 f3 d4 e4 f4 d5 e5 f5 d6 e6 f6 d7 e7 f7 z7 y8;have p0:=M.o.cell 0;have p1:=M.o.cell 1;have p2:=M.o.cell 2;have p3:=M.o.cell 3;have p4:=M.o.cell 4;have p5:=M.o.cell 5;have p6:=M.o.cell 6;have p7:=M.o.cell 7;simp only[aH,aI,aG,aK]at p0 p1 p2 p3 p4 p5 p6 p7;exact aU (v:=.agg (HpV.cells ⟨p.x,.slice R r.length c3,.slice s p.x.free.length c4⟩).toArray) (by simp[results,results103,go_sem,HpV.cells,p0,p1,p2,p3,p4,p5,p6,p7]) rfl ⟨_,_,rfl,rfl,HF.o,g7.o⟩
end
section
attribute [-go_sem] loadCellsFrom storeCells
attribute [local go_sem] bC
structure Fv(w W:World)(base a1 a2 a3:Nat)(p:HpV)(ps:List ObV)(o:Opn):Prop where
 hv:Hv W base p ps
 box:Blk W w.heap.size 29 p.cells
 op:jM W a1 o
 r4:Blk W a2 29 kE
 r5:bZ W a3 0 0
 bel:Bz base w W
 h0:base≤w.heap.size
 l2:w.heap.size<a2
 l3:w.heap.size<a3
section
variable {w W W':World}{base a1 a2 a3 b:Nat}{p p':HpV}{ps:List ObV}{o:Opn}{t:TypeId}{cs:List Value}
def Fv.q(_:Fv w W base a1 a2 a3 p ps o):HpV:=p
theorem Fv.below(h:Fv w W base a1 a2 a3 p ps o)(a:Bw' W W'):Fv w W' base a1 a2 a3 p ps o:=
 ⟨h.hv.below a,h.box.below a h.box.lt,h.op.below a,h.r4.below a h.r4.lt,h.r5.below a,h.bel.below h.h0 a,h.h0,h.l2,h.l3⟩
theorem Fv.fin(h:Fv w W base a1 a2 a3 p ps o)(c d:Int):
  ∃b a,Sem.run prog (storeCells ⟨a2,0,none⟩ p.cells 0) W=.ok () b∧Sem.run prog (storeCells ⟨a3,0,none⟩ [.i c,.i d] 0) b=.ok () a∧
   Sem.run prog (loadCellsFrom ⟨a2,0,none⟩ 0 8 #[]) a=.ok p.cells.toArray a∧Sem.run prog (loadCellsFrom ⟨a3,0,none⟩ 0 2 #[]) a=.ok #[.i c,.i d] a∧Wv a base p ps∧Bz base w a∧Chg (fun i=>i=a2) W b:=
 h.hv.wv.fin h.r4 h.r5 h.bel h.h0 (dY h.l2) (dY h.l3) c d
theorem Fv.put(h:Fv w W base a1 a2 a3 p ps o)(j:Nat)(u:Value)(k:p.cells.set j u=p'.cells)(g:p'.ov=p.ov)(f:p'.fv=p.fv)(d:p'.x.obs=p.x.obs∧p'.x.free=p.x.free):Fv w (W.setCell ⟨w.heap.size,j,none⟩ u) base a1 a2 a3 p' ps o:=by
 have a:=(Chg.refl (fun i=>i=w.heap.size) W).setCell (.inr rfl) j u;have l:=h.l2;have m:=h.l3;refine⟨⟨?_,?_,by rw[d.1]; exact h.hv.eq,?_⟩,k▸h.box.setCell j u,.of (h.op.blk.chg a (h.op.blk.ne h.box (by decide))),h.r4.chg a (by omega),Blk.chg h.r5 a (by omega),h.bel.new h.h0 a (aD _),h.h0,h.l2,h.l3⟩
 .rw[g]; exact h.hv.obs.chg a fun i b e=>h.hv.obs.ne_blk h.box (by decide) (e▸b)
 .exact h.hv.rws.chg a fun q c _ e=>⟨fun b=>(h.hv.rws.row q c).1.tagF h.box (by decide) (e▸b.symm),fun b=>(h.hv.rws.row q c).2.tagF h.box (by decide) (e▸b.symm)⟩
 .rw[f,d.2]; exact aO.chg h.hv.free a fun _ b e=>aO.not_blk h.hv.free h.box (by decide) (e▸b)
theorem Fv.of(p:HpV)(o:Opn)(h:Hv w base p ps)(C:base≤w.heap.size):∃a b c l,w.alloc (.cells p.cells.toArray 29)=a∧a.alloc (.cells #[.i o.k,.i o.h,.i o.i,.i o.n,.i o.m,.i o.v,.i o.t] 44)=b∧
  b.alloc (.cells z'1a 29)=c∧c.alloc (.cells #[.i 0,.i 0] 53)=l∧Fv w l base a.heap.size b.heap.size c.heap.size p ps o:=by
 refine⟨_,_,_,_,rfl,rfl,rfl,rfl,?_⟩;generalize z:w.alloc (.cells p.cells.toArray 29)=a;generalize A:a.alloc (.cells #[.i o.k,.i o.h,.i o.i,.i o.n,.i o.m,.i o.v,.i o.t] 44)=b;generalize B:b.alloc (.cells z'1a 29)=c;have g:Blk a w.heap.size 29 p.cells:=z▸Blk.new w 29 p.cells;have q:Blk b a.heap.size 44 o.cells:=A▸Blk.new a 44 o.cells;have r:Blk c b.heap.size 29 kE:=B▸Blk.new b 29 kE;have j:Bw' w a:=z▸ba' w _;have d:Bw' a b:=A▸ba' a _;have e:Bw' b c:=B▸ba' b _;have f:Bw' c (c.alloc (.cells #[.i 0,.i 0] 53)):=ba' c _;have s:=g.below d g.lt;have y:=q.below e q.lt;have x:=s.below e s.lt;exact⟨(((h.below j).below d).below e).below f,x.below f x.lt,.of (y.below f y.lt),r.below f r.lt,bZ.new c,Bz.of (((j.on d).trans (e.mono (aB j.size d.size))).trans (f.mono (aB (aB j.size d.size) e.size))) C,C,eA g.lt d.size,eA g.lt (aB d.size e.size)⟩
end
theorem Uz{base:Nat}{p:HpV}{ps:List ObV}(o:Opn)(w:World)(h:Hv w base p ps)(hb:base≤w.heap.size)(H:HOk p.x):
  Calls prog 207 #[.agg p.cells.toArray,.agg o.cells.toArray] w fun e w'=>∃p' a1,e=.returned (.tuple #[.agg p'.cells.toArray,.agg #[.i (jG p.x o).2.1,.i (jG p.x o).2.2]])∧p'.x=(jG p.x o).1∧Wv w' base p' a1∧Bz base w w':=by
 show Calls _ _ #[_,.agg #[.i o.k,.i o.h,.i o.i,.i o.n,.i o.m,.i o.v,.i o.t]] _ _;obtain⟨W1,W2,W3,S,d1,e1,j1,l1,J⟩:=Fv.of p o h hb;have g:=kp J;have p0:=kp (show ps.length≤256 by have:=H.len.1; have:=bG List.length h.eq; rw[cW]at this; omega);have f:=kp h.eq;obtain⟨R,b⟩:=nm' (jG p.x o);rw[b];unfold jG at b;have o0:=J.op.c0;have z:=J.op.c2;have o6:=J.op.c6;clear J h hb H
 by_cases D:0≤o.i∧o.i<4
 rotate_left
 .obtain rfl:R=(p.x,52,0):=by rw[←b,aC D]
  clear b
  by_cases a0:o.i<0
  .have g1:decide (o.i<0)=true:=by simp[a0]
   clear D a0;go_enter func207,As;have N:=g.o.box.load (P:=prog) (k:=8) rfl;obtain⟨G,M,L,O,l,s,d,c,-⟩:=g.o.fin (52) (0);have f:=k'2 d c;clear d c;go_wp2_with fail;exact aU (v:=.tuple #[.agg g.o.q.cells.toArray,.agg #[.i (52),.i (0)]]) (by simp[results,At,go_sem,l,s,Fv.q]) rfl ⟨_,_,rfl,rfl,f.a,f.B⟩
  .have g1:decide (o.i<0)=false:=by simp; omega
   have g2:decide (4≤o.i)=true:=by simp; omega
   clear D a0;go_enter func207,As;have N:=g.o.box.load (P:=prog) (k:=8) rfl;obtain⟨G,M,L,O,l,s,d,c,-⟩:=g.o.fin (52) (0);have f:=k'2 d c;clear d c;go_wp2_with fail;exact aU (v:=.tuple #[.agg g.o.q.cells.toArray,.agg #[.i (52),.i (0)]]) (by simp[results,At,go_sem,l,s,Fv.q]) rfl ⟨_,_,rfl,rfl,f.a,f.B⟩
 rw[aE D]at b;obtain⟨i,Z⟩:∃i:Nat,o.i=i:=⟨o.i.toNat,by omega⟩
 rw[Z]at D z b;rw[eR]at b;have K:i<4:=by omega
 have F:=k'2 Z K;have g1:decide ((i:Int)<0)=false:=by simp
 have g2:decide (4≤(i:Int))=false:=by simp; omega
 have g9:(i:Int)<4:=by omega
 clear D Z
 by_cases E:o.k=8
 .have g8:(o.k==8)=true:=by simp[E]
  have A:=g.o.box.cell (3+i);rw[yJ p K]at A;obtain⟨zv,b0⟩:=nm' (p.x.tops.getD i 0);rw[b0]at A b;obtain rfl:R=(p.x,0,zv):=by rw[←b,aE E]
  have T:=g.o.below (bR (aL _ _));have y0:=kp b0;clear b0 K E b A;go_enter func207,As;go_wp2_with fail;obtain⟨G,M,L,O,l,s,d,c,j0⟩:=T.fin 0 zv;have e0:=k'2 d c;have C:=kp T;have d0:=kp j0;clear d c T j0 o0 z o6;refine fR 8 (Two 7 S.drew G) (fun _=>fK) (by kernel_rfl) (by kernel_rfl) (Two.start _ _ _) ?_
  iterate 7 (refine bO ?_; apply Exists.intro)
  refine bS eM ?_;refine dR ⟨?pers,?walk⟩
  case walk=>
   have q0:=kp (show w.heap.size≠W2.heap.size from uI g.o.l2)
   iterate 7
    apply Ug (by kernel_rfl) (by intro t w h; cases h; exact trivial) rfl
    .intro X W' y hX hw hV U;have V:=y.all (P:=fun W=>Blk W w.heap.size 29 p.cells) C.o.box (C.o.box.chg d0.o q0.o);have m0:=y.all (P:=fun W=>jM W W1.heap.size o) C.o.op (.of (C.o.op.blk.chg d0.o (C.o.op.blk.ne C.o.r4 (by decide))));have N:=V.load (P:=prog) (k:=8) rfl;have A:=V.cell (3+i);rw[yJ p F.B,y0.o]at A;have z:=m0.c2;rw[F.a]at z;clear V m0;go_wp2_with fail;exact⟨rfl,_,rfl,y.other (by decide),aV,rfl⟩
    simp only[Act.put,aN,aH,aI,aT,aW]
   refine⟨fun X W' y hX hw hV U=>?_,fun u7=>?_⟩
   .obtain rfl:=y.1 hX;go_wp2_with fail;exact⟨rfl,undef,rfl,Two.at_,aV,trivial⟩
   simp only[Act.put,aT,aW];intro b1 y U;clear U;obtain rfl:=y.2 rfl;simp only[dO,dP];clear L;go_wp2_with fail;exact aU (v:=.tuple #[.agg p.cells.toArray,.agg #[.i 0,.i zv]]) (by simp[results,At,go_sem,l,s]) rfl ⟨_,_,rfl,rfl,e0.a,e0.B⟩
  case pers=>exact⟨pv',pv',pv',pv',pv',pv',pv',fun _ _ _ _ _ h _=>h,trivial⟩
 have g8:(o.k==8)=false:=by simp[E]
 rw[aC E,f.o]at b;obtain⟨r,hr⟩:=nm' (dS (ps.map (·.x)) o.t);have g0:=kp (by have:=tN p ps o.t S.heap.size S (g.o.hv.obs.sl cM) (aD _) (by have:=p0.o; omega); rw[hr]at this; exact this);rw[hr]at b;have l0:=g.o.box.load (P:=prog) (k:=8) rfl;clear hr E
 cases r
 .obtain rfl:R=(p.x,51,0):=by rw[←b]; rfl
  clear K b;go_enter func207,As;go_wp2_with fail;refine mb' (g0.o) fun w5 I=>?_;have j:=kp (g.o.below I);clear I l0;have N:=j.o.box.load (P:=prog) (k:=8) rfl;obtain⟨G,M,L,O,l,s,d,c,-⟩:=j.o.fin (51) (0);have f:=k'2 d c;clear d c;go_wp2_with fail;exact aU (v:=.tuple #[.agg j.o.q.cells.toArray,.agg #[.i (51),.i (0)]]) (by simp[results,At,go_sem,l,s,Fv.q]) rfl ⟨_,_,rfl,rfl,f.a,f.B⟩
 .obtain rfl:R=(pQ p.x i o.t,0,0):=by rw[←b]; rfl
  clear K b;go_enter func207,As;go_wp2_with fail;refine mb' (g0.o) fun w5 I=>?_;have j:=kp (g.o.below I);clear I l0 o0 z o6;have z:=j.o.op.c2;have o6:=j.o.op.c6;rw[F.a]at z;have A:=j.o.box.cell (3+i);rw[yJ p F.B]at A;have f3:=j.o.box.frozen (3+i);have Y:=j.o.put (3+i) (.i o.t) (Kh p F.B o.t) rfl rfl (Ki p.x i o.t);obtain⟨W6,z0⟩:=nm' (w5.setCell ⟨w.heap.size,3+i,none⟩ (.i o.t));rw[z0]at Y;have Q:=kp Y;clear Y;have N:=Q.o.box.load (P:=prog) (k:=8) rfl;obtain⟨G,M,L,O,l,s,d,c,-⟩:=Q.o.fin (0) (0);have f:=k'2 d c;clear d c;go_wp2_with fail;exact aU (v:=.tuple #[.agg Q.o.q.cells.toArray,.agg #[.i (0),.i (0)]]) (by simp[results,At,go_sem,l,s,Fv.q]) rfl ⟨_,_,rfl,rfl,f.a,f.B⟩
end
section
structure Gv(w W:World)(base a2 a3 s:Nat)(p:HpV)(cs:List Value)(F:List Bk)(y:ObV)(ps:List ObV):Prop where
 box:Blk W w.heap.size 29 cs
 r4:Blk W a2 29 z'1
 r5:bZ W a3 0 0
 gone:gJ W s 90 y
 obs:Ow W base 90 5 p.ov ObV.cells ps
 rws:Rws W base ps
 free:OR W (fun i=>base≤i) 88 2 p.fv Bk.cells F
 bel:Bz base w W
 h0:base≤w.heap.size
 l2:w.heap.size<a2
 l3:w.heap.size<a3
 ls:w.heap.size<s
section
variable {w W W':World}{base a2 a3 s:Nat}{p:HpV}{cs:List Value}{F:List Bk}{y:ObV}{ps qs:List ObV}
theorem Gv.size(h:Gv w W base a2 a3 s p cs F y ps):base≤W.heap.size:=aB h.h0 h.bel.size
theorem Gv.below(h:Gv w W base a2 a3 s p cs F y ps)(a:Bw' W W'):Gv w W' base a2 a3 s p cs F y ps:=
 ⟨h.box.below a h.box.lt,h.r4.below a h.r4.lt,h.r5.below a,h.gone.below a,h.obs.below a,h.rws.below a,h.free.below a,h.bel.below h.h0 a,h.h0,h.l2,h.l3,h.ls⟩
theorem Gv.row(h:Gv w W base a2 a3 s p cs F y ps){v:Value}{t:List Int}(b:Ow W base 3 1 v i1 t)(a:Chg (fun i=>some i=v.ownBlock) W W')(k:Rws W' base qs)(g:aM ObV.cells qs=aM ObV.cells ps)(j:qs.length=ps.length):Gv w W' base a2 a3 s p cs F y qs:=by
 refine⟨h.box.chg a (b.tagF h.box (by decide)),h.r4.chg a (b.tagF h.r4 (by decide)),Blk.chg h.r5 a (b.tagF h.r5 (by decide)),.of (h.gone.blk.chg a (b.tagF h.gone.blk (by decide))),?_,k,aO.chg h.free a fun i d e=>?_,h.bel.row h.h0 b (.inl rfl) a,h.h0,h.l2,h.l3,h.ls⟩
 .unfold Ow;rw[g,j];exact (show Ow W base 90 5 p.ov ObV.cells ps from h.obs).chg a fun i d e=>h.obs.apt b (by decide) i d e.symm
 .obtain⟨c,f⟩:=aO.tag h.free d;exact b.tagF f (by decide) e
theorem Gv.put(h:Gv w W base a2 a3 s p cs F y ps)(j:Nat)(u:Value):Gv w (W.setCell ⟨w.heap.size,j,none⟩ u) base a2 a3 s p (cs.set j u) F y ps:=by
 have a:=(Chg.refl (fun i=>i=w.heap.size) W).setCell (.inr rfl) j u;have d:=h.l2;have f:=h.l3;exact⟨h.box.setCell j u,h.r4.chg a (by omega),Blk.chg h.r5 a (by omega),.of (h.gone.blk.chg a (by have:=h.ls; omega)),h.obs.chg a fun i b e=>h.obs.ne_blk h.box (by decide) (e▸b),
  h.rws.chg a fun q c _ e=>⟨fun b=>(h.rws.row q c).1.tagF h.box (by decide) (e▸b.symm),fun b=>(h.rws.row q c).2.tagF h.box (by decide) (e▸b.symm)⟩,aO.chg h.free a fun _ b e=>aO.not_blk h.free h.box (by decide) (e▸b),
  h.bel.new h.h0 a (aD _),h.h0,h.l2,h.l3,h.ls⟩
theorem Gv.grew{d:Nat}{v:Value}{l:List ObV}(h:Gv w W base a2 a3 s p cs F y ps)(a:Ow W d 90 5 v ObV.cells l)(f:W.grownBy W' v.ownBlock)(o:w.heap.size<d)(r:s<d)(k:∀i,p.ov.ownBlock=some i→i<d):Gv w W' base a2 a3 s p cs F y ps:=by
 have b:=fZ f;have m:base≤d:=aB h.h0 (dY o);refine⟨h.box.chg b (a.ne_blk h.box (by decide)),h.r4.chg b (a.ne_blk h.r4 (by decide)),Blk.chg h.r5 b (a.ne_blk h.r5 (by decide)),.of (h.gone.blk.chg b fun e=>by have:=(a.lt e).1; omega),h.obs.chg b fun i g e=>by have:=(a.lt e).1; have:=k i g; omega,
  ⟨fun q j=>⟨a.other (h.rws.row q j).1 (by decide) f,a.other (h.rws.row q j).2 (by decide) f⟩,h.rws.sep⟩,aO.chg h.free b fun i g e=>by
   obtain⟨c,n⟩:=aO.tag h.free g;exact a.ne_blk n (by decide) e,h.bel.row h.h0 (a.mono m) (.inr rfl) (b.mono fun i _ e=>e.symm),h.h0,h.l2,h.l3,h.ls⟩
end
theorem Kl{α:Type}(z:α):∀(A:List α)(q:Nat),(A++[z]).eraseIdx q=if A.length=q then A else A.eraseIdx q++[z]
 |[],0=>rfl
 |[],_+1=>rfl
 |_::_,0=>rfl
 |x::A,q+1=>by
  show x::(A++[z]).eraseIdx q=_;rw[Kl z A q,eV]
  by_cases h:A.length=q
  .rw[aE h,aE (by omega)]
  .rw[aC h,aC (by omega)]; rfl
theorem Km{α:Type}:∀(A:List α)(q:Nat),A.length≤q→A.eraseIdx q=A
 |[],_,_=>rfl
 |x::A,q+1,h=>bG (x::·) (Km A q (by simpa using h))
theorem Wv.fin10{w e:World}{base a b:Nat}{p:HpV}{ps:List ObV}{u0 u1 u2 u3 u4 u5 u6 u7:Value}(h:Wv w base p ps)(f:Blk w a 29 z'1)(m:bZ w b 0 0)(o:Bz base e w)(l:base≤e.heap.size)(r:e.heap.size≤a)(s:e.heap.size≤b)(c d:Int):
  let W:=((((((((((w).setCell ⟨a,0,none⟩ u0).setCell ⟨a,1,none⟩ u1).setCell ⟨a,2,none⟩ u2).setCell ⟨a,3,none⟩ u3).setCell ⟨a,4,none⟩ u4).setCell ⟨a,5,none⟩ u5).setCell ⟨a,6,none⟩ u6).setCell ⟨a,7,none⟩ u7).setCell ⟨b,0,none⟩ (.i c)).setCell ⟨b,1,none⟩ (.i d)
  Wv W base p ps∧Bz base e W∧Blk W a 29 [u0,u1,u2,u3,u4,u5,u6,u7]∧bZ W b c d:=by
 intro W;have g:=(((((((((Chg.refl (fun i=>i=a) w).setCell (.inr rfl) 0 u0).setCell (.inr rfl) 1 u1).setCell (.inr rfl) 2 u2).setCell (.inr rfl) 3 u3).setCell (.inr rfl) 4 u4).setCell (.inr rfl) 5 u5).setCell (.inr rfl) 6 u6).setCell (.inr rfl) 7 u7)
 have q:=h.chg f g (by decide) (by decide) (by decide);have k:bZ (((((((((w).setCell ⟨a,0,none⟩ u0).setCell ⟨a,1,none⟩ u1).setCell ⟨a,2,none⟩ u2).setCell ⟨a,3,none⟩ u3).setCell ⟨a,4,none⟩ u4).setCell ⟨a,5,none⟩ u5).setCell ⟨a,6,none⟩ u6).setCell ⟨a,7,none⟩ u7) b 0 0:=Blk.chg m g (Blk.ne m f (by decide));have n:=((((((((f.setCell 0 u0).setCell 1 u1).setCell 2 u2).setCell 3 u3).setCell 4 u4).setCell 5 u5).setCell 6 u6).setCell 7 u7)
 have j:=((Chg.refl (fun i=>i=b) (((((((((w).setCell ⟨a,0,none⟩ u0).setCell ⟨a,1,none⟩ u1).setCell ⟨a,2,none⟩ u2).setCell ⟨a,3,none⟩ u3).setCell ⟨a,4,none⟩ u4).setCell ⟨a,5,none⟩ u5).setCell ⟨a,6,none⟩ u6).setCell ⟨a,7,none⟩ u7)).setCell (.inr rfl) 0 (.i c)).setCell (.inr rfl) 1 (.i d);exact⟨q.chg k j (by decide) (by decide) (by decide),(o.new l g r).new l j s,n.chg j (n.ne k (by decide)),(Blk.setCell k 0 (.i c)).setCell 1 (.i d)⟩
theorem Va{base:Nat}{p:HpV}{ps:List ObV}(q:Nat)(w:World)(h:Hv w base p ps)(hb:base≤w.heap.size)(H:HOk p.x)(hq:q<ps.length):
  Calls prog 232 #[.agg p.cells.toArray,.i q] w fun e w'=>∃p' E6,e=.returned (.tuple #[.agg p'.cells.toArray,.agg #[.i 0,.i 0]])∧p'.x=nK p.x q ps[q].x∧Wv w' base p' E6∧Bz base w w':=by
 have C6:=H.len;have hG:=H.give (show p.x.obs[q]? =some ps[q].x by rw[h.eq]; simp[hq]);have j6:=kp H;have l':=kp (fun(x:ObV)(hx:x∈ps)=>H.lens (show x.x∈p.x.obs by rw[h.eq]; exact cX.2 ⟨x,hx,rfl⟩));have z4:=kp (show ps.length≤256 by have:=C6.1; have:=bG List.length h.eq; rw[cW]at this; omega);have HE:=kp h.eq;have b9:ps[q].x∈p.x.obs:=by rw[h.eq]; exact cX.2 ⟨_,bK hq,rfl⟩
 have y4:=kp (show (ps[q].x.b::p.x.free).Pairwise bE∧bN p.x.order ps[q].x.b=true from⟨eE.2 ⟨fun x hx=>((pB.1 H.apart).2.2 x hx _ (cX.2 ⟨_,b9,rfl⟩)).symm,H.free.side.imp fun h=>h.1⟩,(H.each _ b9).2⟩);obtain⟨y,hy⟩:=nm' (ps[q]);rw[hy]at y4 ⊢;have m0:=h.rws.row y (hy▸bK hq);obtain⟨Aw,cw,E1,-,-,-⟩:=m0.1.sl cS;obtain⟨Al,cl,D3,-,-,-⟩:=m0.2.sl cS;have p9:y.cells=[.i y.x.h,.i y.x.b.a,.i y.x.b.o,.slice Aw y.x.ws.length cw,.slice Al y.x.ls.length cl]:=by unfold ObV.cells; rw[E1,D3]
 generalize z7:w.alloc (.cells p.cells.toArray 29)=g;generalize a8:g.alloc (.cells z'1a 29)=l;generalize d8:l.alloc (.cells #[.i 0,.i 0] 53)=E;generalize e8:E.alloc (.cells #[.i y.x.h,.i y.x.b.a,.i y.x.b.o,.slice Aw y.x.ws.length cw,.slice Al y.x.ls.length cl] 90)=G;have b0:Blk g w.heap.size 29 p.cells:=z7▸Blk.new w 29 p.cells;have b1:Blk l g.heap.size 29 z'1:=a8▸Blk.new g 29 z'1;have b2:bZ E l.heap.size 0 0:=d8▸bZ.new l;have b3:gJ G E.heap.size 90 y:=.of (by rw[p9]; exact e8▸Blk.new E 90 [.i y.x.h,.i y.x.b.a,.i y.x.b.o,.slice Aw y.x.ws.length cw,.slice Al y.x.ls.length cl]);have e1:Bw' w g:=z7▸ba' w _;have I:Bw' g l:=a8▸ba' g _;have L:Bw' l E:=d8▸ba' l _;have J:Bw' E G:=e8▸ba' E _;have g3:=((b0.below I b0.lt).below L (b0.below I b0.lt).lt)
 have h3:=((h.below e1).below I).below L;have q4:=kp (show Gv w G base g.heap.size l.heap.size E.heap.size p p.cells p.x.free y ps from
  ⟨g3.below J g3.lt,((b1.below L b1.lt).below J (b1.below L b1.lt).lt),b2.below J,b3,h3.obs.below J,h3.rws.below J,h3.free.below J,Bz.of (((e1.on I).trans (L.mono (aB e1.size I.size))).trans (J.mono (aB (aB e1.size I.size) L.size))) hb,hb,b0.lt,eA b0.lt I.size,eA b0.lt (aB I.size L.size)⟩)
 have m':=kp (show ∀i,p.ov.ownBlock=some i→i<G.heap.size from fun i f=>((h3.obs.below J).lt f).2);have q7:=kp (show E.heap.size<G.heap.size from b3.blk.lt);have E7:=kp (show ∃hq:q<ps.length,ps[q]=y from⟨hq,hy⟩);obtain⟨A,c,d9,l5,-,-⟩:=h3.obs.sl cM;obtain⟨b,E4,rfl,-,r,-⟩:=bV (P:=prog) 5 cM (by omega) l5 q hq;obtain⟨n,hn⟩:=nm' ps.length;have Q:=kp hn;rw[hy,p9]at r;have x0:=r 0 _ rfl;have x1:=r 1 _ rfl;have x2:=r 2 _ rfl;have x3:=r 3 _ rfl;have x4:=r 4 _ rfl;simp only[cF]at x0;have q1:=(cI.of g3).c1;rw[d9,hn]at q1;rw[hn]at hq;have b7:=kp d9;have g1:(q:Int)<n:=by omega
 have g':=kp hG;rw[hy]at g';go_enter func232,ntmps232;go_wp2_with fail
 go_loopw [7,8] (fun vl i wr=>∃k:Nat,i=.i k∧k≤n∧Gv w wr base g.heap.size l.heap.size E.heap.size p p.cells p.x.free y (gO y.x.h ps k)∧Ow wr G.heap.size 90 5 vl ObV.cells (((ps.take k).map (iM y.x.h)).eraseIdx q)∧G.heap.size≤wr.heap.size) (fun _ i _=>n-(intOf i).toNat)
 case atStart=>exact⟨0,rfl,by omega,q4.o,Ow.nil _ _ _ _ _,aD _⟩
 case round=>
  obtain⟨k,rfl,hk,hg,U,D9⟩:=hrel;have y':=kp D9;have G1:n≤256:=by have:=Q.o; have:=z4.o; omega
  have HI:=kp hg;have HO:=kp U;have q1:=hg.box.cell 1;simp only[HpV.cells,aG,aK]at q1;rw[b7.o,Q.o]at q1
  by_cases E9:k<n
  .have a3:k<ps.length:=by have:=Q.o; omega
   have C8:=Jr y.x.h ps k a3;have z':=kp (Js y.x.h ps k a3);have q6:=kp (fun j=>Jq y.x.h ps j);have y5:=kp (fun j=>Jt y.x.h ps j);have C0:=kp (cV a3);have E2:ps[k]∈ps:=bK a3;generalize ps[k]'a3=z at *;obtain⟨m2,M⟩:=iH.1 C8;obtain⟨A6,c6,o9,l5,-,-⟩:=HI.o.obs.sl cM;rw[b7.o]at o9;obtain⟨rfl,-,rfl⟩:=Value.slice.inj o9;obtain⟨b6,E5,C5,-,r,-⟩:=bV (P:=prog) 5 cM (by omega) l5 k m2;obtain⟨rfl,rfl⟩:b=b6∧E4=E5:=by cases C5; exact⟨rfl,rfl⟩
   rw[M]at r;have m0:=HI.o.rws.row z (M▸bK m2);obtain⟨a1,j2,l4,-,-,-⟩:=m0.1.sl cS;obtain⟨q0,a2,j5,-,-,-⟩:=m0.2.sl cS;obtain⟨m,hm⟩:=nm' z.x.ls.length;have x0:=r 0 _ rfl;have x1:=r 1 _ rfl;have x2:=r 2 _ rfl;have x3:=r 3 _ rfl;have x4:=r 4 _ rfl;simp only[cF]at x0;rw[l4]at x3;rw[j5]at x4;rw[hm]at j5 x4;have g2:(k:Int)<n:=by omega
   generalize g8:wr.alloc (.cells #[.i z.x.h,.i z.x.b.a,.i z.x.b.o,.slice a1 z.x.ws.length j2,.slice q0 m a2] 90)=W5;have q2:Bw' wr W5:=g8▸ba' wr _;have D1:Blk W5 wr.heap.size 90 [.i z.x.h,.i z.x.b.a,.i z.x.b.o,.slice a1 z.x.ws.length j2,.slice q0 m a2]:=g8▸Blk.new wr 90 [.i z.x.h,.i z.x.b.a,.i z.x.b.o,.slice a1 z.x.ws.length j2,.slice q0 m a2];have O:=kp (HI.o.below q2);have q':=kp (aB y'.o q2.size);have m6:=kp D1;have m3:=kp (HO.o.below q2);have m1:=k'2 (m0.1.below q2) (m0.2.below q2);have R:=k'4 (show ∃h:k<(gO y.x.h ps k).length,(gO y.x.h ps k)[k]=z from⟨m2,M⟩) j5 l4 hm;have G0:m≤16:=by have:=(l'.o z E2).2; omega
   go_wp2_with fail
   go_loopw [10] (fun i wq=>∃j:Nat,i=.i j∧j≤m∧Chg (fun i=>some i=z.lv.ownBlock) W5 wq∧Ow wq base 3 1 z.lv i1 (eH y.x.h (z.x.ls.take j)++z.x.ls.drop j)) (fun i _=>m-(intOf i).toNat)
   case atStart=>exact⟨0,rfl,by omega,Chg.refl _ _,m1.B⟩
   case round=>
    obtain⟨j,rfl,hj,S,U⟩:=hrel;have HC:=kp S;have K:=kp U;have l0:=m6.o.chg S (m1.B.tagF m6.o (by decide));have C9:=gJ.of (O.o.gone.blk.chg S (m1.B.tagF O.o.gone.blk (by decide)))
    by_cases y8:j<m
    .have j0:j<z.x.ls.length:=by have:=R.D; omega
     have V:(eH y.x.h (z.x.ls.take j)).length=j:=by unfold eH; rw[cW,cZ]; omega
     have a4:(eH y.x.h (z.x.ls.take j)++z.x.ls.drop j).length=m:=by rw[bB,V,dX,R.D]; omega
     obtain⟨b',c',post,m5,-,E8,o8,m8⟩:=U.blk (by omega);rw[a4]at m5 m8;obtain⟨rfl,-,rfl⟩:=Value.slice.inj (m5.symm.trans R.b);have z3:(iv (eH y.x.h (z.x.ls.take j)++z.x.ls.drop j)++post)[j]? =some (.i z.x.ls[j]):=by
      rw[lS (by rw[fM,a4]; omega),lU _ _ (by rw[a4]; omega)];simp[V]
     have C1:=kp m5;have q5:=kp o8;have z9:=kp m8;have HT:=kp (Dc y.x.h z.x.ls j j0);have HD:=kp (show z.x.ls.drop j=z.x.ls[j]::z.x.ls.drop (j+1) from fG j0);have Z:=k'2 V a4;have W:=o8.cell j;rw[z3]at W;have W:=aP W;have y9:=l0.cell 4;simp only[aG,aK]at y9;have k4:=aP y9;have g0:=aP C9.c0;have o6:=kp l0;generalize z.x.ls[j]'j0=e at *;have g3:(j:Int)<m:=by omega
     by_cases a0:e=y.x.h
     all_goals
      have j1:=kp a0
     .have g4:(e==y.x.h)=true:=by simp[a0]
      go_wp2_with fail;refine bJ (by kernel_rfl) (by kernel_rfl) ?_
      repeat (go_big_quiet_step (fail))
      refine bH ?_;rintro W7 ⟨⟨_,F⟩,rfl⟩;have o2:=kp (q5.o.below F q5.o.lt);have o4:=kp (HC.o.then F);have D2:=o6.o.below F o6.o.lt;have k4:=D2.cell 4;simp only[aG,aK]at k4;have y1:=o2.o.cell j;rw[lS (by rw[fM,Z.B]; omega),lU _ _ (by rw[Z.B]; omega)]at y1;have f1:=o2.o.frozen j;go_wp2_with fail;go_roundw
      case rel=>
       refine⟨j+1,by go_num,by omega,o4.o.setCell (.inr (by rw[C1.o]; rfl)) _ _,z9.o _ _ (by rw[HT.o,aE j1.o,bB,bB,Z.a]; have:=Z.B; rw[bB,Z.a,HD.o,eV]at this; simp only[eV,mH]; omega) ?_⟩;have:=o2.o.setCell j (.i 0);rw[HD.o,oI,cR,qM _ _ (by rw[fM,Z.a]; exact aD _),fM,Z.a,qS]at this;rw[HT.o,aE j1.o,oI,oI];simpa [iv] using this
      case measure=>simp[intOf]; omega
     .have g4:(e==y.x.h)=false:=by simp[a0]
      go_wp2_with fail;refine bJ (by kernel_rfl) (by kernel_rfl) ?_
      repeat (go_big_quiet_step (fail))
      refine bH ?_;rintro W7 ⟨⟨_,F⟩,rfl⟩;have o2:=kp (K.o.below F);have o4:=kp (HC.o.then F);go_wp2_with fail;go_roundw
      case rel=>
       refine⟨j+1,by go_num,by omega,o4.o,o2.o.eqv ?_⟩;rw[HD.o,HT.o,aC j1.o];simp
      case measure=>simp[intOf]; omega
    .obtain rfl:j=m:=by omega
     have k4:=l0.cell 4;simp only[aG,aK]at k4;have D5:Ow wr base 3 1 z.lv i1 (eH y.x.h z.x.ls):=by
      have:=K.o;rw[cN (by have:=R.D; omega),gS (by have:=R.D; omega),fS]at this;exact this
     have D8:Rws wr base (gO y.x.h ps (k+1)):=by
      obtain⟨m2,M⟩:=R.a;have l4:=m1.a.chg S fun i f e=>by
       have:=O.o.rws.self m2;rw[M]at this;exact this i f e.symm
      have h9:=O.o.rws.upd m2 (v:=z.lv) (.inr (by rw[M])) S (ws:=z.x.ws) (ls:=eH y.x.h z.x.ls) (by rw[M]; exact l4) (by rw[M]; exact D5);rw[M]at h9;rw[←z'.o];exact h9
     have l7:=kp (aB q'.o S.size);have a6:=kp (O.o.row m1.B S D8 (by rw[y5.o,y5.o]) (by rw[q6.o,q6.o]));have z6:=kp (m3.o.chg S fun i f e=>m3.o.apt m1.B (by decide) i f e.symm);have k0:=l0.cell 0;have k1:=l0.cell 1;have k2:=l0.cell 2;have k3:=l0.cell 3;simp only[aG,aK]at k0 k1 k2 k3;have q9:(iM y.x.h z).cells=[.i z.x.h,.i z.x.b.a,.i z.x.b.o,.slice a1 z.x.ws.length j2,.slice q0 j a2]:=by
      show [_,_,_,z.wv,z.lv]=_;rw[R.b,R.c]; rfl
     have C3:=kp q9;have j8:((ps.take k).map (iM y.x.h)).length=k:=by rw[cW,cZ]; have:=Q.o; omega
     have m4:=kp j8;have e9:=Kl (iM y.x.h z) ((ps.take k).map (iM y.x.h)) q;rw[j8]at e9;have o7:=kp e9;have y6:=kp (show (ps.take (k+1)).map (iM y.x.h)=(ps.take k).map (iM y.x.h)++[iM y.x.h z] by rw[C0.o,gC]; rfl)
     by_cases g5:k=q
     .have g6:((k:Int) != (q:Int))=false:=by simp[g5]
      have j3:=kp g5;go_wp2_with fail;go_roundw
      case rel=>exact⟨k+1,by go_num,by omega,a6.o,z6.o.eqv (by rw[y6.o,o7.o,aE j3.o,Km _ _ (by rw[m4.o]; exact fU j3.o)]),l7.o⟩
      case measure=>simp[intOf]; omega
     .have g6:((k:Int) != (q:Int))=true:=by simp; omega
      have j3:=kp g5;have o5:=eQ (enc:=ObV.cells) wr 90 (iM y.x.h z);have y2:=ba' wr (.cells (iM y.x.h z).cells.toArray 90);rw[show (iM y.x.h z).cells.toArray=#[.i z.x.h,.i z.x.b.a,.i z.x.b.o,.slice a1 z.x.ws.length j2,.slice q0 j a2] by rw[q9]]at o5 y2;obtain⟨W8,b5⟩:=nm' (wr.alloc (.cells #[.i z.x.h,.i z.x.b.a,.i z.x.b.o,.slice a1 z.x.ws.length j2,.slice q0 j a2] 90));rw[b5]at o5 y2;have C2:=kp o5;have e':=kp (a6.o.below y2);have a7:=kp (z6.o.below y2);have E0:G.heap.size≤W8.heap.size:=aB l7.o y2.size;have y7:=kp E0;go_wp2_with (at_builtin; refine eU (enc:=ObV.cells) W8 rfl (.tmp 53) (.tmp 55) 25 rfl G.heap.size 90 pS nE rfl (by omega) cM a7.o rfl C2.o rfl (fun a ha=>?_) ?_ ?_ y7.o ?_)
      .rw[bQ.1 ha,C3.o];intro u hu;simp only[bA,dW,or_false]at hu;rcases hu with rfl|rfl|rfl|rfl|rfl<;>rfl
      .have:=m4.o; have:=List.length_eraseIdx_le ((ps.take k).map (iM y.x.h)) q; have:=z4.o; have:=Q.o; unfold maxLen; simp at *; omega
      .have:=m4.o; have:=List.length_eraseIdx_le ((ps.take k).map (iM y.x.h)) q; have:=z4.o; have:=Q.o; simp at *; omega
      intro v9 w9 j4 q8;have q3:=kp j4;have Y:=kp (e'.o.grew a7.o q8 (Nat.lt_trans q4.o.ls q7.o) q7.o m'.o);have a5:=kp (aB y7.o q8.size);go_wp2_with fail;go_roundw
      case rel=>exact⟨k+1,by go_num,by omega,Y.o,q3.o.eqv (by rw[y6.o,o7.o,aC j3.o,List.map_take]),a5.o⟩
      case measure=>simp[intOf]; omega
  .obtain rfl:k=n:=by omega
   have D6:p.cells=[.i p.x.order,p.ov,.i p.x.next]++iv p.x.tops++[p.fv]:=rfl;have o':=kp D6;go_wp2_with fail
   go_loopw [11] (fun i wq=>∃j:Nat,i=.i j∧j≤4∧Gv w wq base g.heap.size l.heap.size E.heap.size p ([.i p.x.order,p.ov,.i p.x.next]++iv (eH y.x.h (p.x.tops.take j)++p.x.tops.drop j)++[p.fv]) p.x.free y (gO y.x.h ps k)∧Ow wq G.heap.size 90 5 u7 ObV.cells (((ps.take k).map (iM y.x.h)).eraseIdx q)) (fun i _=>4-(intOf i).toNat)
   case atStart=>exact⟨0,rfl,by omega,o'.o▸HI.o,HO.o⟩
   case round=>
    obtain⟨j,rfl,hj,hg,U⟩:=hrel;have l6:=kp hg;have K:=kp U
    by_cases y8:j<4
    .have j0:j<p.x.tops.length:=y8;have V:(eH y.x.h (p.x.tops.take j)).length=j:=by unfold eH; rw[cW,cZ]; omega
     have z3:([.i p.x.order,p.ov,.i p.x.next]++iv (eH y.x.h (p.x.tops.take j)++p.x.tops.drop j)++[p.fv])[3+j]? =some (.i p.x.tops[j]):=by
      rw[cR,Er (by show 3≤3+j; omega),lS (by rw[fM,bB,dX,V]; show 3+j-3<_; omega),show 3+j-[Value.i p.x.order,p.ov,.i p.x.next].length=j from Es 3 j,lU _ _ (by rw[bB,dX,V]; omega)];simp[V]
     have W:=hg.box.cell (3+j);rw[z3]at W;have W:=aP W;have g0:=aP hg.gone.c0;have HT:=kp (Dc y.x.h p.x.tops j j0);have HD:=kp (show p.x.tops.drop j=p.x.tops[j]::p.x.tops.drop (j+1) from fG j0);have j7:=kp V;generalize p.x.tops[j]'j0=e at *;have d':=kp z3;have g3:(j:Int)<4:=by omega
     by_cases a0:e=y.x.h
     all_goals
      have j1:=kp a0
     .have g4:(e==y.x.h)=true:=by simp[a0]
      go_wp2_with fail;refine bJ (by kernel_rfl) (by kernel_rfl) ?_
      repeat (go_big_quiet_step (fail))
      refine bH ?_;rintro W7 ⟨⟨_,F⟩,rfl⟩;have l1:=kp (l6.o.below F);have o3:=kp (K.o.below F);have y1:=l1.o.box.cell (3+j);rw[d'.o]at y1;have f1:=l1.o.box.frozen (3+j);go_wp2_with fail;go_roundw
      case rel=>
       have hp:=l1.o.put (3+j) (.i 0);have U:=o3.o.chg ((Chg.refl (fun i=>i=w.heap.size) W7).setCell (.inr rfl) (3+j) (.i 0)) fun i f e=>o3.o.ne_blk l1.o.box (by decide) (e▸f);refine⟨j+1,by go_num,by omega,?_,U⟩;rw[HT.o,aE j1.o];rw[HD.o,cR,qM _ _ (by show 3≤3+j; omega),show 3+j-[Value.i p.x.order,p.ov,.i p.x.next].length=j from Es 3 j,oI,cR,qM _ _ (by rw[fM,j7.o]; exact aD _),fM,j7.o,qS]at hp;rw[oI,oI];simpa [iv] using hp
      case measure=>simp[intOf]; omega
     .have g4:(e==y.x.h)=false:=by simp[a0]
      go_wp2_with fail;refine bJ (by kernel_rfl) (by kernel_rfl) ?_
      repeat (go_big_quiet_step (fail))
      refine bH ?_;rintro W7 ⟨⟨_,F⟩,rfl⟩;have l1:=kp (l6.o.below F);have o3:=kp (K.o.below F);go_wp2_with fail;go_roundw
      case rel=>
       refine⟨j+1,by go_num,by omega,?_,o3.o⟩;have:=l1.o;rw[HD.o]at this;rw[HT.o,aC j1.o];simpa [iv] using this
      case measure=>simp[intOf]; omega
    .obtain rfl:j=4:=by omega
     obtain⟨X,c7,rfl,-⟩:=K.o.sl cM;obtain⟨m7,D4⟩:=nm' ((((ps.take k).map (iM y.x.h)).eraseIdx q).length);rw[D4]at K ⊢;have z2:Gv w wr base g.heap.size l.heap.size E.heap.size p [.i p.x.order,p.ov,.i p.x.next,.i (if p.x.t0=y.x.h then 0 else p.x.t0),.i (if p.x.t1=y.x.h then 0 else p.x.t1),.i (if p.x.t2=y.x.h then 0 else p.x.t2),.i (if p.x.t3=y.x.h then 0 else p.x.t3),p.fv] p.x.free y (gO y.x.h ps k):=hg;obtain⟨t0,g9⟩:∃t,(if p.x.t0=y.x.h then 0 else p.x.t0)=t:=⟨_,rfl⟩
     obtain⟨t1,j9⟩:∃t,(if p.x.t1=y.x.h then 0 else p.x.t1)=t:=⟨_,rfl⟩
     obtain⟨t2,l9⟩:∃t,(if p.x.t2=y.x.h then 0 else p.x.t2)=t:=⟨_,rfl⟩
     obtain⟨t3,m9⟩:∃t,(if p.x.t3=y.x.h then 0 else p.x.t3)=t:=⟨_,rfl⟩
     rw[g9,j9,l9,m9]at z2;have y3:=k'4 g9 j9 l9 m9;have k1:=z2.box.cell 1;have f1:=z2.box.frozen 1;have T:=z2.put 1 (.slice X m7 c7);have a9:=K.o.chg ((Chg.refl (fun i=>i=w.heap.size) wr).setCell (.inr rfl) 1 (.slice X m7 c7)) fun i f e=>K.o.ne_blk z2.box (by decide) (e▸f);obtain⟨W8,b5⟩:=nm' (wr.setCell ⟨w.heap.size,1,none⟩ (.slice X m7 c7));rw[b5]at T a9;simp only[aH,aI,aG,aK]at T k1;have O:=kp T;have m3:=kp a9;have k0:=T.box.cell 0;have k7:=T.box.cell 7;have s1:=T.gone.c1;have s2:=T.gone.c2;simp only[aG,aK]at k0 k7;have j':=kp (Uu p.x.order p.fv W8.heap.size p.x.free y.x.b W8 T.free.sl (aD _) ((lE j6.o.reg).2 j6.o.free) y4.B y4.a);go_wp2_with fail;refine (j'.o).mono ?_;rintro e w9 ⟨v9,rfl,j4,l8⟩;dsimp only;obtain⟨N,c12,rfl,-⟩:=j4.sl bM;have Y:=kp (O.o.below l8);have q3:=kp (m3.o.below l8);have z5:=kp j4;have a5:=kp O.o.size;have k7:=Y.o.box.cell 7;have f7:=Y.o.box.frozen 7;have d:=Y.o.put 7 (.slice N (dH p.x.order 9 y.x.b p.x.free).length c12);have z8:=q3.o.chg ((Chg.refl (fun i=>i=w.heap.size) w9).setCell (.inr rfl) 7 (.slice N (dH p.x.order 9 y.x.b p.x.free).length c12)) fun i f e=>q3.o.ne_blk Y.o.box (by decide) (e▸f);have p8:=z5.o.chg ((Chg.refl (fun i=>i=w.heap.size) w9).setCell (.inr rfl) 7 (.slice N (dH p.x.order 9 y.x.b p.x.free).length c12)) fun i f e=>z5.o.ne_blk Y.o.box (by decide) (e▸f);obtain⟨C4,C7⟩:=nm' (w9.setCell ⟨w.heap.size,7,none⟩ (.slice N (dH p.x.order 9 y.x.b p.x.free).length c12));rw[C7]at d z8 p8;simp only[aH,aI,aG,aK]at d k7;have D7:Wv C4 base ⟨⟨p.x.order,p.x.next,t0,t1,t2,t3,((p.x.obs.eraseIdx q).map fun x=>{x with ls:=eH y.x.h x.ls}),dH p.x.order 9 y.x.b p.x.free⟩,.slice X m7 c7,.slice N (dH p.x.order 9 y.x.b p.x.free).length c12⟩ (((ps.take k).map (iM y.x.h)).eraseIdx q):=by
      have D0:ps.take k=ps:=cN (fU Q.o);refine⟨OR.of_ow z8 fun i f _=>?_,?_,?_,OR.of_ow p8 fun i f _=>?_⟩
      .have:=d.size; have:=q4.o.size; omega
      .refine d.rws.sub ?_;unfold gO;rw[gS (fU Q.o),fS];exact zQ _ _
      .show ((p.x.obs.eraseIdx q).map fun x=>{x with ls:=eH y.x.h x.ls})=_;rw[D0,HE.o,yE,yE,pC,pC]; rfl
      .exact aB a5.o f
     have g7:=k'2 d.r4 d.r5;have a':=kp d.bel;have HL:=k'3 d.h0 d.l2 d.l3;have HQ:=kp D7;have d0:=d.box.cell 0;have e0:=d.r4.cell 0;have f0:=d.r4.frozen 0;have d1:=d.box.cell 1;have e1:=d.r4.cell 1;have f1:=d.r4.frozen 1;have d2:=d.box.cell 2;have I:=d.r4.cell 2;have f2:=d.r4.frozen 2;have d3:=d.box.cell 3;have L:=d.r4.cell 3;have f3:=d.r4.frozen 3;have d4:=d.box.cell 4;have J:=d.r4.cell 4;have f4:=d.r4.frozen 4;have d5:=d.box.cell 5;have e5:=d.r4.cell 5;have f5:=d.r4.frozen 5;have d6:=d.box.cell 6;have e6:=d.r4.cell 6;have f6:=d.r4.frozen 6;have d7:=d.box.cell 7;have e7:=d.r4.cell 7;have f7:=d.r4.frozen 7;have z0:=Blk.cell d.r5 0;have W:=Blk.frozen d.r5 0;have z1:=Blk.cell d.r5 1;have y1:=Blk.frozen d.r5 1;simp only[aG,aK]at d0 e0 d1 e1 d2 I d3 L d4 J d5 e5 d6 e6 d7 e7 z0 z1;have E3:g.heap.size≠l.heap.size:=d.r4.ne d.r5 (by decide);have G2:l.heap.size≠g.heap.size:=fun e=>E3 e.symm;go_wp2_with fail;have s:=kp (HQ.o.fin10 (u0:=.i p.x.order) (u1:=.slice X m7 c7) (u2:=.i p.x.next) (u3:=.i t0) (u4:=.i t1) (u5:=.i t2) (u6:=.i t3) (u7:=.slice N (dH p.x.order 9 y.x.b p.x.free).length c12) g7.a g7.B a'.o HL.a (dY HL.b) (dY HL.C) 0 0);have p0:=s.c.cell 0;have p1:=s.c.cell 1;have p2:=s.c.cell 2;have p3:=s.c.cell 3;have p4:=s.c.cell 4;have p5:=s.c.cell 5;have p6:=s.c.cell 6;have p7:=s.c.cell 7;have o0:=s.D.cell 0;have o1:=s.D.cell 1;simp only[aG,aK]at p0 p1 p2 p3 p4 p5 p6 p7 o0 o1;exact aU (v:=.tuple #[.agg #[.i p.x.order,.slice X m7 c7,.i p.x.next,.i t0,.i t1,.i t2,.i t3,.slice N (dH p.x.order 9 y.x.b p.x.free).length c12],.agg #[.i 0,.i 0]]) (by simp[results,results232,go_sem,p0,p1,p2,p3,p4,p5,p6,p7,o0,o1]) rfl ⟨⟨⟨p.x.order,p.x.next,t0,t1,t2,t3,((p.x.obs.eraseIdx q).map fun x=>{x with ls:=eH y.x.h x.ls}),dH p.x.order 9 y.x.b p.x.free⟩,.slice X m7 c7,.slice N (dH p.x.order 9 y.x.b p.x.free).length c12⟩,_,rfl,by rw[←y3.a,←y3.b,←y3.c,←y3.D]; rfl,s.a,s.b⟩
end
end Go.Proofs.YtdoopoapbffpbaaGreat
