import Derived.Test.YtdoopoapbffpbaaGreatZ28
import Derived.Test.YtdoopoapbffpbaaGreatZ31
namespace Go.Proofs.YtdoopoapbffpbaaGreat
open Go.RowKit Go.Proofs.Tryz
set_option maxRecDepth 100000
set_option maxHeartbeats 12800000
set_option linter.unusedVariables false
set_option linter.unusedSimpArgs false
section
attribute [-go_sem] loadCellsFrom storeCells
attribute [local go_sem] bC
theorem Yj(l:List UInt8):(dJ l).1.size≤65536:=by
 by_cases a:(dJ l).2.2=0
 .exact (Bq l a).1
 .unfold dJ at a ⊢
  repeat' split
  all_goals first
   |(simp[ByteArray.size]; done)
   |(exfalso; simp_all; done)
structure Tw(w:World)(g sb:Nat)(l:List UInt8)(b:Bool)(cs:List Value)(W:World):Prop where
 inn:RIn W g l b
 res:Blk W w.heap.size 32 z'2
 blk:Blk W sb 32 cs
 low:Bw' w W
 lo:w.heap.size<g
 lt:g<sb
section
variable {w W W':World}{g sb:Nat}{l l':List UInt8}{b b':Bool}{cs:List Value}
theorem Tw.call(h:Tw w g sb l b cs W)(c:RIn W' g l' b')(a:Chg (fun i=>i=g) W W'):Tw w g sb l' b' cs W':=
 ⟨c,h.res.chg a (by have:=h.lo; omega),h.blk.chg a (by have:=h.lt; omega),h.low.trans (a.below (fun i c=>by have:=h.lo; omega) h.low.size),h.lo,h.lt⟩
theorem Tw.put(h:Tw w g sb l b cs W)(j:Nat)(u:Value):Tw w g sb l b (cs.set j u) (W.setCell ⟨sb,j,none⟩ u):=
 have a:=h.lo;have c:=h.lt
 ⟨h.inn.at_ ((aL sb W).setCell (aD _) u) h.lt,h.res.otherCell (by omega) j u,h.blk.setCell j u,h.low.setCell (p:=⟨sb,j,none⟩) (by simp only; omega) u,h.lo,h.lt⟩
theorem Tw.at_(h:Tw w g sb l b cs W)(a:Below (sb+1) W W'):Tw w g sb l b cs W':=
 have c:=h.lo;have d:=h.lt
 ⟨h.inn.at_ a (by omega),h.res.below a (by omega),h.blk.below a (by omega),h.low.trans (a.mono (by omega)),h.lo,h.lt⟩
theorem Tw.grow(h:Tw w g sb l b cs W)(a:Bw' W W'):Tw w g sb l b cs W':=h.at_ (a.mono h.blk.lt)
end
structure Xw(w wr:World)(g sb:Nat)(l:List UInt8)(b:Bool)(cs rc:List Value)(W:World):Prop where
 t:Tw w g sb l b cs W
 x:Blk W wr.heap.size 86 rc
 c:Chg (fun i=>i=g) wr W
 lt:sb<wr.heap.size
section
variable {w wr W W':World}{g sb:Nat}{l l':List UInt8}{b b':Bool}{cs rc:List Value}
theorem Xw.call(h:Xw w wr g sb l b cs rc W)(d:RIn W' g l' b')(a:Chg (fun i=>i=g) W W'):Xw w wr g sb l' b' cs rc W':=
 ⟨h.t.call d a,h.x.chg a (by have:=h.t.lt; have:=h.lt; omega),h.c.trans a fun _ _ h=>h,h.lt⟩
theorem Xw.put(h:Xw w wr g sb l b cs rc W)(j:Nat)(u:Value):Xw w wr g sb l b cs (rc.set j u) (W.setCell ⟨wr.heap.size,j,none⟩ u):=
 ⟨h.t.at_ ((aL (sb+1) W).setCell (p:=⟨wr.heap.size,j,none⟩) (by have:=h.lt; simp only; omega) u),h.x.setCell j u,h.c.setCell (.inl (aD _)) j u,h.lt⟩
end
theorem Hv.row{w W':World}{base base2 k:Nat}{p:HpV}{ps:List ObV}{v:Value}{xs:List Rw}(h:Hv w base p ps)(b:Ow w base2 86 k v Rw.cells xs)(a:w.grownBy W' v.ownBlock):Hv W' base p ps:=
 ⟨b.other h.obs (by decide) a,Rws.grown b h.rws (by decide) a,h.eq,aO.chg h.free (fZ a) fun i g e=>by
  obtain⟨c,f⟩:=aO.tag h.free g;obtain⟨c2,j,d⟩:=b.tag e;rw[f]at d
  cases d⟩
theorem Dy(A:Option Addr)(n c B:Nat)(l:List UInt8)(w:World)(hr:Rd w B A (bv l))(hB:B≤w.heap.size)(hl:l.length=n)(hc:n≤c)(hm:c≤maxLen):
  Calls prog 28 #[.slice A n c] w (jN w (dM l)):=by
 obtain⟨R,hR⟩:=nm' (dM l);rw[hR];rw[Yi]at hR;have b1:=ba' w (.cells z'2a 32);have x1:=Blk.new w 32 z'2;have m3:=kp (Qb A n c B l _ (hr.below b1 hB) hl hc (by unfold maxLen at hm; omega));have HB:=k'2 b1 x1;have HR:=kp hR;have a0:=k'5 hr hB hl hc hm;have g3:=kp (Yj l);have l3:=kp (Bq l);clear hr hB hl hm hR b1 x1;obtain⟨⟨s,k,te⟩,ht⟩:∃q,dJ l=q:=⟨_,rfl⟩
 rw[ht]at m3 HR g3 l3;simp only[]at m3 HR g3 l3;clear ht;go_enter func28,ntmps28;go_wp2_with fail;refine (m3.o).mono ?_;rintro e w2 ⟨rfl,m,rfl⟩;have p0:=k'2 (gG HB.a m) (show Blk ((w.alloc (.cells z'2a 32)).drewN m) w.heap.size 32 z'2 from HB.B);obtain⟨W2,l1⟩:=nm' ((w.alloc (.cells z'2a 32)).drewN m);rw[l1]at p0 ⊢;clear l1 HB;obtain⟨c6,W6,q9,q3,p7,q7,l7,j7⟩:=oT W2 s (by have:=g3.o; unfold maxLen; omega);have m8:=kp (Yf (some ⟨W2.heap.size,0,none⟩) s.size c6 _ s.data.toList W6 p7 q7 (mD s) l7 j7);have q0:=k'2 (p0.a.on q3) (p0.B.below q3 p0.B.lt);clear q3 p7 q7 l7 j7 p0;go_wp2_with fail;refine (m8.o).mono ?_;rintro e w7 ⟨p,ps,rfl,j5,p2,a4⟩;obtain⟨cd,e0⟩:∃cd:Int,(if (eZ s.data.toList).isSome=true then (0:Int) else 60)=cd:=⟨_,rfl⟩
 rw[e0];obtain⟨f,ov,fv⟩:=p;obtain⟨z,H,q1,-⟩:=eD p2.obs;obtain⟨y,G,j4,-,-⟩:=aO.slice p2.free;simp only at q1 j4 j5;obtain⟨J,g5⟩:=nm' ps.length;obtain⟨I,e5⟩:=nm' f.free.length;rw[g5]at q1;rw[e5]at j4;subst q1;subst j4;have HP:=k'4 j5 e0 g5 e5;have g6:=kp (p2.mono q0.a.size);have a2:=k'2 (q0.a.on a4) (q0.B.below a4 q0.B.lt);clear j5 e0 g5 e5 p2 a4 q9 q0;simp only[HpV.cells];have p1:∀u∈([.i f.order,.slice z J H,.i f.next,.i f.t0,.i f.t1,.i f.t2,.i f.t3,.slice y I G]:List Value),u.oneCell'=true:=HpV.one (p:=⟨f,.slice z J H,.slice y I G⟩) rfl rfl;have nz:=Blk.new w7 29 z'1;have g0:=nz.store (P:=prog) (cs':=[.i f.order,.slice z J H,.i f.next,.i f.t0,.i f.t1,.i f.t2,.i f.t3,.slice y I G]) rfl p1;have nb:=nz.set [.i f.order,.slice z J H,.i f.next,.i f.t0,.i f.t1,.i f.t2,.i f.t3,.slice y I G];have O:=cL (ba' w7 (.cells z'1a 29)) (aD _) #[.i f.order,.slice z J H,.i f.next,.i f.t0,.i f.t1,.i f.t2,.i f.t3,.slice y I G];obtain⟨W8,o9⟩:=nm' ((w7.alloc (.cells z'1a 29)).setRow w7.heap.size #[.i f.order,.slice z J H,.i f.next,.i f.t0,.i f.t1,.i f.t2,.i f.t3,.slice y I G]);rw[o9]at g0 nb O;have T:=k'2 (a2.a.on O) (a2.B.below O a2.B.lt);have e9:=kp (g6.o.below O);have q5:=kp nb;clear nz nb O a2 g6 p1
 by_cases o2:te=0
 rotate_left
 .have j':(te != 0)=true:=by simpa using o2
  have Z:=kp (show R=none from by rw[←HR.o,aC o2]);have hS:=T.B.store (P:=prog) (cs':=z'2) rfl rY;have Q:=k'2 (T.B.set z'2) (cL T.a (aD _) z'2a);clear o2;go_wp2_with fail;have U:=Q.a.load (P:=prog) (k:=9) rfl;exact aU (v:=.tuple #[.agg z'2a,.i 60]) (by simp[results,uL,go_sem,U]) rfl (jN.no Z.o Q.B)
 subst o2
 by_cases e0:cd=0
 rotate_left
 .have g':(cd != 0)=true:=by simpa using e0
  have Z:=kp (show R=none from by
   have S:=HP.b
   cases hg:eZ s.data.toList with
   |none=>rw[←HR.o,hg,aE rfl]
   |some h=>rw[hg]at S; exact absurd S.symm e0)
  have hS:=T.B.store (P:=prog) (cs':=z'2) rfl rY;have Q:=k'2 (T.B.set z'2) (cL T.a (aD _) z'2a);clear e0;go_wp2_with fail;have U:=Q.a.load (P:=prog) (k:=9) rfl;exact aU (v:=.tuple #[.agg z'2a,.i 60]) (by simp[results,uL,go_sem,U]) rfl (jN.no Z.o Q.B)
 subst e0;have hg:eZ s.data.toList=some f:=by
  have S:=HP.b;have h2:=HP.a
  cases hg:eZ s.data.toList with
  |none=>rw[hg]at S; cases S
  |some h=>rw[hg]at h2; rw[show f=h from h2]
 have p8:=kp (show vV f (l.drop k)=R from by rw[←HR.o,aE rfl,hg]);have p5:=kp (Ls hg);have d6:=kp (l3.o rfl);have m':k≤n:=by have S:=d6.b; have h2:=d6.c; have h3:=a0.c; omega
 have l0:=a0.a.cut (k:=k) (cap:=c) (by rw[lB]; have h3:=a0.c; omega);rw[uN]at l0;clear hg hc
 by_cases m2:c=k
 all_goals
  obtain⟨vd,A',n',c',q2,e1⟩:∃vd A' n' c',(if c=k then Value.slice A (n-k) 0 else Value.slice (A.map (·.add k)) (n-k) (c-k))=vd∧Nonempty (Kp (vd=.slice A' n' c'∧Rd w B A' (bv (l.drop k))∧(l.drop k).length=n'∧n'≤c'∧c'≤maxLen)):=by
   by_cases h:c=k
   .rw[aE h]at l0 ⊢;exact⟨_,A,n-k,0,rfl,⟨kp ⟨rfl,l0,by rw[dX,a0.c],by have:=a0.d; omega,by unfold maxLen; omega⟩⟩⟩
   .rw[aC h]at l0 ⊢;exact⟨_,A.map (·.add k),n-k,c-k,rfl,⟨kp ⟨rfl,l0,by rw[dX,a0.c],by have:=a0.d; omega,by have:=a0.E; omega⟩⟩⟩
  obtain⟨e1⟩:=e1
  first
   |(rw[aE m2]at q2; subst q2; have p9:=m2.symm; clear m2; subst p9; have X:=ba' W8 (.cells #[.slice A (n-k) 0,.bool false] 144); have n9:=Blk.new W8 144 [.slice A (n-k) 0,.bool false]; obtain⟨V,j2⟩:=nm' (W8.alloc (.cells #[.slice A (n-k) 0,.bool false] 144)); rw[j2]at X n9)
   |(rw[aC m2]at q2; subst q2; have X:=ba' W8 (.cells #[.slice (A.map (·.add k)) (n-k) (c-k),.bool false] 144); have n9:=Blk.new W8 144 [.slice (A.map (·.add k)) (n-k) (c-k),.bool false]; obtain⟨V,j2⟩:=nm' (W8.alloc (.cells #[.slice (A.map (·.add k)) (n-k) (c-k),.bool false] 144)); rw[j2]at X n9)
  have z9:=(q5.o.below X q5.o.lt).load (P:=prog) (k:=8) rfl;have nz:=Blk.new V 32 z'2;have p1:∀u∈([.i f.order,.slice z J H,.i f.next,.i f.t0,.i f.t1,.i f.t2,.i f.t3,.slice y I G,.slice none 0 0]:List Value),u.oneCell'=true:=fun u hu=>by
   rcases dF.1 (show u∈HpV.cells ⟨f,.slice z J H,.slice y I G⟩++[.slice none 0 0] from hu) with h|h
   .exact HpV.one (p:=⟨f,.slice z J H,.slice y I G⟩) rfl rfl u h
   .rw[bQ.1 h]; rfl
  have g0:=nz.store (P:=prog) (cs':=[.i f.order,.slice z J H,.i f.next,.i f.t0,.i f.t1,.i f.t2,.i f.t3,.slice y I G,.slice none 0 0]) rfl p1;have nb:=nz.set [.i f.order,.slice z J H,.i f.next,.i f.t0,.i f.t1,.i f.t2,.i f.t3,.slice y I G,.slice none 0 0];have O:=cL (ba' V (.cells z'2a 32)) (aD _) #[.i f.order,.slice z J H,.i f.next,.i f.t0,.i f.t1,.i f.t2,.i f.t3,.slice y I G,.slice none 0 0];obtain⟨l9,o6⟩:=nm' ((V.alloc (.cells z'2a 32)).setRow V.heap.size #[.i f.order,.slice z J H,.i f.next,.i f.t0,.i f.t1,.i f.t2,.i f.t3,.slice y I G,.slice none 0 0]);rw[o6]at g0 nb O;have o3:=kp (show Tw w W8.heap.size V.heap.size (l.drop k) false [.i f.order,.slice z J H,.i f.next,.i f.t0,.i f.t1,.i f.t2,.i f.t3,.slice y I G,.slice none 0 0] l9 from
   ⟨⟨A',n',c',by have:=n9.below O n9.lt; rwa [e1.a]at this,((e1.b.below ((T.a.on X).trans (O.mono (aB T.a.size X.size))) a0.b).more (aB a0.b T.a.size)),e1.C⟩,(T.B.below X T.B.lt).below O (T.B.below X T.B.lt).lt,nb,(T.a.on X).trans (O.mono (aB T.a.size X.size)),T.B.lt,n9.lt⟩)
  have y8:=kp ((e9.o.below X).below O);clear X n9 nz p1 nb O l0;go_wp2_with fail;obtain⟨⟨o',a8,m6⟩,e2⟩:∃q,cQ (l.drop k) false=q:=⟨_,rfl⟩
  obtain⟨kn,d5,e7⟩:=vS (l.drop k) false;rw[e2]at d5;simp only at d5;subst d5;obtain⟨N,hN⟩:=nm' (min kn 5);obtain⟨⟨o0,l8,cD⟩,hQ⟩:∃q,gP kG N a8 m6=q:=⟨_,rfl⟩
  have a1:=kp (show (if cD=true∨l8≠[]∨(kn:Int)≠o0.length∨stB ⟨f,o0⟩=false then none else some ⟨f,o0⟩)=R from by
   rw[←p8.o];unfold vV;simp only[];rw[e2];simp only[];rw[eR,hN,hQ])
  have e8:=kp e2;have HN:=k'2 hN e7;have HQ:=kp hQ;clear e2 hN hQ e7 j2 o6 g0 z9;go_wp2_with fail;refine (lN o3.o.inn).mono ?_;rintro e p' ⟨rfl,o4,g4⟩;rw[e8.o]at o4 ⊢;have j9:=kp (o3.o.call o4 g4);have a9:=kp (by
   obtain⟨A',n',c',e4,-⟩:=o3.o.inn;exact y8.o.chg e4 g4 (by decide) (by decide) (by decide))
  clear o4 g4;go_wp2_with fail
  go_loopw [12] (fun i wr=>∃j:Nat,j≤N∧i=.i j∧∃(g:List Rw)(r:List UInt8)(b:Bool)(rv:Value),(g++(gP kG (N-j) r b).1=o0∧(gP kG (N-j) r b).2=(l8,cD)∧g.length=j)∧Tw w W8.heap.size V.heap.size r b [.i f.order,.slice z J H,.i f.next,.i f.t0,.i f.t1,.i f.t2,.i f.t3,.slice y I G,rv] wr∧Ow wr (V.heap.size+1) 86 4 rv Rw.cells g∧Hv wr w.heap.size ⟨f,.slice z J H,.slice y I G⟩ ps) (fun i _=>N-(intOf i).toNat)
  case atStart=>exact⟨0,by omega,rfl,[],a8,m6,_,⟨by rw[Nat.sub_zero,HQ.o]; rfl,by rw[Nat.sub_zero,HQ.o],rfl⟩,j9.o,Ow.nil _ _ _ _ _,a9.o⟩
  case round=>
   obtain⟨j,hj,rfl,g,r,b,rv,hq,l5,m7,b7⟩:=hrel;have F:=k'3 l5 m7 b7;have y0:=kp hq;obtain⟨f1,f2⟩:=l5.inn.facts;have l':(j:Int)≤5:=by have:=HN.a; omega
   clear hq l5 m7 b7 f2
   by_cases o1:j<N∧b=false
   .obtain⟨d7,rfl⟩:=o1;have d':(j:Int)<(kn:Int):=by have:=HN.a; omega
    have e':(j:Int)≤4:=by have:=HN.a; omega
    obtain⟨⟨L,r1,d1⟩,y1⟩:∃q,cQ r false=q:=⟨_,rfl⟩
    obtain⟨⟨xs,r2,d2⟩,y2⟩:∃q,cQ r1 d1=q:=⟨_,rfl⟩
    obtain⟨⟨M,r3,d3⟩,y3⟩:∃q,cQ r2 d2=q:=⟨_,rfl⟩
    obtain⟨⟨K,r4,d4⟩,y4⟩:∃q,gA r3 d3=q:=⟨_,rfl⟩
    have e3:=kp (show g++⟨L,xs,M,K⟩::(gP kG (N-(j+1)) r4 d4).1=o0∧(gP kG (N-(j+1)) r4 d4).2=(l8,cD)∧g.length=j from by
     have S:=y0.o;rw[show N-j=N-(j+1)+1 by omega,Lz,Ma y1 y2 y3 y4]at S;exact S)
    have Y1:=kp y1;have Y2:=kp y2;have Y3:=kp y3;have Y4:=kp y4;clear y1 y2 y3 y4;have nz:=Blk.new wr 86 z'4;have g0:=nz.store (P:=prog) (cs':=z'4) rfl (jR ⟨0,0,0,0⟩);have nb:=nz.set z'4;have O:=cL (ba' wr (.cells z'4a 86)) (aD _) z'4a;obtain⟨m9,p6⟩:=nm' ((wr.alloc (.cells z'4a 86)).setRow wr.heap.size z'4a);rw[p6]at g0 nb O;have X0:=kp (show Xw w wr W8.heap.size V.heap.size r false _ z'4 m9 from⟨F.a.grow O,nb,Chg.of_below O,F.a.blk.lt⟩);clear nz nb O;go_wp2_with fail;clear g0 p6 f1;go_wp2_with fail;refine (lN X0.o.t.inn).mono ?_;rintro e v1 ⟨rfl,m4,q6⟩;rw[Y1.o]at m4 ⊢;have U1:=kp (X0.o.call m4 q6);clear m4 q6;have z1:=U1.o.x.cell 0;have y1:=U1.o.x.frozen 0;simp only[aG]at z1;have X1:=kp (U1.o.put 0 (.i L));simp only[aH]at X1;go_wp2_with fail;refine (lN X1.o.t.inn).mono ?_;rintro e v2 ⟨rfl,p4,y6⟩;rw[Y2.o]at p4 ⊢;have U2:=kp (X1.o.call p4 y6);clear p4 y6;have z2:=U2.o.x.cell 1;have y2:=U2.o.x.frozen 1;simp only[aG,aK]at z2;have X2:=kp (U2.o.put 1 (.i xs));simp only[aH,aI]at X2;go_wp2_with fail;refine (lN X2.o.t.inn).mono ?_;rintro e v3 ⟨rfl,q4,z6⟩;rw[Y3.o]at q4 ⊢;have U3:=kp (X2.o.call q4 z6);clear q4 z6;have z3:=U3.o.x.cell 2;have y3:=U3.o.x.frozen 2;simp only[aG,aK]at z3;have X3:=kp (U3.o.put 2 (.i M));simp only[aH,aI]at X3;go_wp2_with fail;refine (Lv X3.o.t.inn).mono ?_;rintro e v4 ⟨rfl,a5,a7⟩;rw[Y4.o]at a5 ⊢;have U4:=kp (X3.o.call a5 a7);clear a5 a7;have z4:=U4.o.x.cell 3;have y4:=U4.o.x.frozen 3;simp only[aG,aK]at z4;have X4:=kp (U4.o.put 3 (.i K));simp only[aH,aI]at X4;have z8:=X4.o.t.blk.cell 8;simp only[aG,aK]at z8;have g7:=X4.o.x.load (P:=prog) (k:=4) rfl;have a6:=kp (F.b.chg X4.o.c fun i hi e=>by have S:=F.b.lt hi; have h2:=F.a.lt; omega);have j6:=kp (by
     obtain⟨A',n',c',e4,-⟩:=F.a.inn;exact F.C.chg e4 X4.o.c (by decide) (by decide) (by decide))
    have j3:=kp (show V.heap.size+1≤(v4.setCell ⟨wr.heap.size,3,none⟩ (.i K)).heap.size from X4.o.t.blk.lt);obtain⟨v5,z7⟩:=nm' (v4.setCell ⟨wr.heap.size,3,none⟩ (.i K));have X5:=kp X4.o;rw[z7]at g7 z8 X5 a6 j6 j3;clear X4 U4;have m5:Sl (v5.alloc (.cells #[.i (⟨L,xs,M,K⟩:Rw).c,.i (⟨L,xs,M,K⟩:Rw).s,.i (⟨L,xs,M,K⟩:Rw).k,.i (⟨L,xs,M,K⟩:Rw).v] 86)) (v5.heap.size+1) (.slice (some ⟨v5.heap.size,0,none⟩) 1 1) Rw.cells [(⟨L,xs,M,K⟩:Rw)]:=eQ (enc:=Rw.cells) v5 86 (⟨L,xs,M,K⟩:Rw);have p3:=a6.o.alloc (.cells #[.i (⟨L,xs,M,K⟩:Rw).c,.i (⟨L,xs,M,K⟩:Rw).s,.i (⟨L,xs,M,K⟩:Rw).k,.i (⟨L,xs,M,K⟩:Rw).v] 86);have l2:=ba' v5 (.cells #[.i (⟨L,xs,M,K⟩:Rw).c,.i (⟨L,xs,M,K⟩:Rw).s,.i (⟨L,xs,M,K⟩:Rw).k,.i (⟨L,xs,M,K⟩:Rw).v] 86);obtain⟨W2,l1⟩:=nm' (v5.alloc (.cells #[.i (⟨L,xs,M,K⟩:Rw).c,.i (⟨L,xs,M,K⟩:Rw).s,.i (⟨L,xs,M,K⟩:Rw).k,.i (⟨L,xs,M,K⟩:Rw).v] 86));rw[l1]at m5 p3 l2;have d0:=k'4 m5 p3 l2 (show (V.heap.size+1)≤W2.heap.size from aB (j3.o) l2.size);clear m5 p3 l2;go_wp2_with (at_builtin; refine eU (enc:=Rw.cells) W2 rfl (.tmp 76) (.tmp 78) 30 rfl ((V.heap.size+1)) 86 rE kO rfl (by omega) fJ d0.b rfl d0.a rfl (fun a _=>jR a) ?_ ?_ d0.D ?_)
    .have S:=y0.C; unfold maxLen; (try simp); omega
    .have S:=y0.C; (try simp); omega
    intro v3 w3 o7 l4;have g8:=kp ((d0.c.mono (j3.o)).trans (d0.b.grew l4 d0.D));have z5:=kp o7;have j8:=kp l4;clear o7 l4 l1;clear z1 z2 z3 z4 y1 y2 y3 y4 z7;obtain⟨A3,c3,y7,-⟩:=eD z5.o;rw[show (g++[(⟨L,xs,M,K⟩:Rw)]).length=g.length+1 by simp]at y7;subst y7;have j1:=kp (X5.o.t.at_ g8.o);have d9:=kp ((j6.o.below d0.c).row d0.b j8.o);clear z8 g7;have b':=j1.o.blk.cell 8;have q':=j1.o.blk.frozen 8;simp only[aG,aK]at b';have l6:=kp (j1.o.put 8 (.slice A3 (g.length+1) c3));simp only[aH,aI]at l6;have y5:=k'2 (z5.o.blk_set j1.o.blk (by decide) 8 (.slice A3 (g.length+1) c3)) (d9.o.chg j1.o.blk ((Chg.refl (fun i=>i=V.heap.size) w3).setCell (.inr rfl) 8 (.slice A3 (g.length+1) c3)) (by decide) (by decide) (by decide));go_wp2_with fail;go_roundw
    case rel=>
     refine⟨j+1,by omega,by go_num,g++[⟨L,xs,M,K⟩],r4,d4,_,⟨?_,e3.b,by simp[e3.C]⟩,l6.o,y5.a,y5.B⟩;rw[←e3.a,cR];rfl
    case measure=>simp[intOf]; omega
   .have hE:o0=g∧l8=r∧cD=b:=by
     have S:=y0.o;have e:gP kG (N-j) r b=([],r,b):=by
      cases b with
      |true=>exact vR _ _ _
      |false=>
       rw[show N-j=0 by
        have:¬j<N:=fun h=>o1 ⟨h,rfl⟩;omega]
       rfl
     rw[e]at S;obtain⟨h2,h3,-⟩:=S;injection h3 with h3 h4
     exact⟨by rw[←h2,fS],h3.symm,h4.symm⟩
    obtain⟨A8,k8,c8,q8,b5⟩:=F.a.inn.left;have HE:=kp hE;have b3:=kp b5
    cases b with
    |true=>
     have Z:=kp (show R=none from by rw[←a1.o,aE (.inl HE.C)]);have hS:=F.a.res.store (P:=prog) (cs':=z'2) rfl rY;have Q:=k'2 (F.a.res.set z'2) (cL F.a.low (aD _) z'2a);clear hE o1 b5;have m1:(j:Int)<(kn:Int)∧(j:Int)≤4∨(j:Int)<(kn:Int)∧¬(j:Int)≤4∨¬(j:Int)<(kn:Int):=by omega
     rcases m1 with⟨g1,g2⟩|⟨g1,g2⟩|g1
     all_goals
      go_wp2_with fail;have U:=Q.a.load (P:=prog) (k:=9) rfl;exact aU (v:=.tuple #[.agg z'2a,.i 60]) (by simp[results,uL,go_sem,U]) rfl (jN.no Z.o Q.B)
    |false=>
     have d7:j=N:=by
      have:¬j<N:=fun h=>o1 ⟨h,rfl⟩;omega
     have m1:(j:Int)<(kn:Int)∧¬(j:Int)≤4∨¬(j:Int)<(kn:Int):=by have:=HN.a; omega
     clear hE o1 d7 b5;obtain⟨W,Y,q1⟩:∃A c,rv=.slice A g.length c:=by
      obtain⟨A0,c0,h0,-⟩:=eD F.b;exact⟨A0,c0,h0⟩
     subst q1;have z0:=F.a.blk.cell 8;simp only[aG,aK]at z0;have zz:=z0
     by_cases y9:0<k8
     .have Z:=kp (show R=none from by
       rw[←a1.o,aE (.inr (.inl (by rw[HE.b]; intro h; rw[h]at b3; have:=b3.o; simp at this; omega)))])
      have hS:=F.a.res.store (P:=prog) (cs':=z'2) rfl rY;have Q:=k'2 (F.a.res.set z'2) (cL F.a.low (aD _) z'2a);rcases m1 with⟨g1,g2⟩|g1
      all_goals
       go_wp2_with fail;have U:=Q.a.load (P:=prog) (k:=9) rfl;exact aU (v:=.tuple #[.agg z'2a,.i 60]) (by simp[results,uL,go_sem,U]) rfl (jN.no Z.o Q.B)
     obtain rfl:k8=0:=by omega
     clear y9
     by_cases m0:(kn:Int)=(g.length:Int)
     .have a':((kn:Int) != (g.length:Int))=false:=by simpa using m0
      have o8:=kp m0;clear m0;rcases m1 with⟨g1,g2⟩|g1
      all_goals
       have z1:=F.a.blk.cell 8;have b6:=kp (show Sv wr w.heap.size ⟨⟨f,.slice z J H,.slice y I G⟩,g,.slice W g.length Y⟩ ps from⟨F.C,F.b.mono (dY (Nat.lt_trans F.a.lo (uF F.a.lt)))⟩);have U:=F.a.blk.load (P:=prog) (k:=9) rfl;have o5:=kp (F.C.few p5.o);have b2:=kp (Xl ⟨⟨f,.slice z J H,.slice y I G⟩,g,.slice W g.length Y⟩ ps _ _ b6.o.st (aD _) (by have:=o5.a; omega) (aB o5.B (by omega)) (by have S:=HN.a; have h2:=y0.C; show g.length≤_; omega) (by have S:=(eC.1 p5.o).next; exact⟨by show _≤f.next; omega,by show f.next≤_; omega⟩))
       cases hst:stB ⟨f,g⟩ with
       |false=>
        have Z:=kp (show R=none from by rw[←a1.o,aE (.inr (.inr (.inr (by rw[HE.a]; exact hst))))]);rw[show stB (StV.x ⟨⟨f,.slice z J H,.slice y I G⟩,g,.slice W g.length Y⟩)=false from hst]at b2;clear hst;go_wp2_with fail;refine mb' (b2.o) fun d8 j0=>?_;have b0:=kp (F.a.grow j0);clear j0 U f1 q8 z1 z0 zz;have hS:=b0.o.res.store (P:=prog) (cs':=z'2) rfl rY;have Q:=k'2 (b0.o.res.set z'2) (cL b0.o.low (aD _) z'2a);go_wp2_with fail;have U:=Q.a.load (P:=prog) (k:=9) rfl;exact aU (v:=.tuple #[.agg z'2a,.i 60]) (by simp[results,uL,go_sem,U]) rfl (jN.no Z.o Q.B)
       |true=>
        have g9:=kp (show R=some (StV.x ⟨⟨f,.slice z J H,.slice y I G⟩,g,.slice W g.length Y⟩) from by
         rw[←a1.o,aC,show StV.x ⟨⟨f,.slice z J H,.slice y I G⟩,g,.slice W g.length Y⟩=⟨f,g⟩ from rfl,HE.a];rintro (h|h|h|h)
         .rw[HE.C]at h; cases h
         .rw[HE.b]at h;exact h (hJ b3.o)
         .rw[HE.a]at h;exact h o8.o
         .rw[HE.a,hst]at h; cases h)
        rw[show stB (StV.x ⟨⟨f,.slice z J H,.slice y I G⟩,g,.slice W g.length Y⟩)=true from hst]at b2;clear hst;go_wp2_with fail;refine mb' (b2.o) fun d8 j0=>?_;have b0:=kp (F.a.grow j0);have e6:=kp (b6.o.below j0);clear j0 U f1 q8 z1 z0 zz;have U:=b0.o.blk.load (P:=prog) (k:=9) rfl;have hS:=b0.o.res.store (P:=prog) (cs':=[.i f.order,.slice z J H,.i f.next,.i f.t0,.i f.t1,.i f.t2,.i f.t3,.slice y I G,.slice W g.length Y]) rfl (StV.one e6.o.st);have a3:=k'3 (b0.o.res.set [.i f.order,.slice z J H,.i f.next,.i f.t0,.i f.t1,.i f.t2,.i f.t3,.slice y I G,.slice W g.length Y]) (cL b0.o.low (aD _) #[.i f.order,.slice z J H,.i f.next,.i f.t0,.i f.t1,.i f.t2,.i f.t3,.slice y I G,.slice W g.length Y]) (e6.o.chg b0.o.res ((Chg.refl (fun i=>i=w.heap.size) d8).setRow (.inr rfl) (List.toArray [.i f.order,.slice z J H,.i f.next,.i f.t0,.i f.t1,.i f.t2,.i f.t3,.slice y I G,.slice W g.length Y])) (by decide) (by decide) (by decide) (by decide));go_wp2_with fail;have hR:=a3.a.load (P:=prog) (k:=9) rfl;exact aU (v:=.tuple #[.agg (StV.cells ⟨⟨f,.slice z J H,.slice y I G⟩,g,.slice W g.length Y⟩).toArray,.i 0]) (by simp[results,uL,go_sem,hR,StV.cells,HpV.cells]) rfl (jN.yes (p:=⟨⟨f,.slice z J H,.slice y I G⟩,g,.slice W g.length Y⟩) g9.o a3.C a3.b)
     .have a':((kn:Int) != (g.length:Int))=true:=by simpa using m0
      have Z:=kp (show R=none from by rw[←a1.o,aE (.inr (.inr (.inl (by rw[HE.a]; exact m0))))]);clear m0;have hS:=F.a.res.store (P:=prog) (cs':=z'2) rfl rY;have Q:=k'2 (F.a.res.set z'2) (cL F.a.low (aD _) z'2a);rcases m1 with⟨g1,g2⟩|g1
      all_goals
       go_wp2_with fail;have U:=Q.a.load (P:=prog) (k:=9) rfl;exact aU (v:=.tuple #[.agg z'2a,.i 60]) (by simp[results,uL,go_sem,U]) rfl (jN.no Z.o Q.B)
end
end Go.Proofs.YtdoopoapbffpbaaGreat
