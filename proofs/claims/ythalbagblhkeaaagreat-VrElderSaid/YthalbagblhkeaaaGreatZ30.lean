import Derived.Test.YthalbagblhkeaaaGreatZ28
import Derived.Test.YthalbagblhkeaaaGreatZ29
namespace Go.Proofs.YthalbagblhkeaaaGreat
open Go.RowKit Go.Proofs.Tryz
set_option maxRecDepth 100000
set_option maxHeartbeats 12800000
set_option linter.unusedVariables false
set_option linter.unusedSimpArgs false
section
attribute [-go_sem] loadCellsFrom storeCells run_eql_struct run_neq_struct Instr.build
attribute [local go_sem] bC MgV.fold fF Ei
def exC(id view:Int)(q:StV)(mv:Value):List Value:=[.i id,.i view]++(q.cells++[mv])
structure ExO(W:World)(base g:Nat)(id view:Int)(q:StV)(qs:List ObV)(mv:Value)(l:List MgV):Prop where
 blk:Blk W g 232 (exC id view q mv)
 st:Ws W base q qs
 ms:Ow W base 48 23 mv MgV.cells l
 nil:∀x∈l,x.es=[]∧x.ev=.slice none 0 0
theorem ExO.below{W W':World}{base g:Nat}{id e:Int}{q:StV}{d:List ObV}{c:Value}{b:List MgV}(h:ExO W base g id e q d c b)(a:Bw' W W'):ExO W' base g id e q d c b:=⟨h.blk.grow a,h.st.below a,h.ms.below a,h.nil⟩
theorem aCD(id b:Int)(q:StV)(a:Value):(exC id b q a)[11]? =some a:=rfl
def aB1(id view:Int)(e:En)(c d:Int):MgV:=⟨2,id,-e.c,view,0,0,0,0,[],.slice none 0 0,0,0,⟨#[]⟩,e.s,pV,c,d,true⟩
theorem aDw(id a n s c d:Int)(w:World):(Instr.build 48 #[(0,.i 2),(1,.i id),(2,.i n),(3,.i a),(12,.i s),(14,.agg #[.i c,.i d]),(15,.bool true)]).run prog w=.ok (.agg (MgV.cells ⟨2,id,n,a,0,0,0,0,[],.slice none 0 0,0,0,⟨#[]⟩,s,pV,c,d,true⟩).toArray) w:=run_build w _ _ _ (by kernel_rfl)
def aCd(Wa:World)(R:St×Int×Int)(z:Value)(W:World):Prop:=∃q qs,z=.tuple #[.agg q.cells.toArray,.agg #[.i R.2.1,.i R.2.2]]∧q.x=R.1∧Ws W Wa.heap.size q qs
theorem aCd.stab(Wa:World)(R:St×Int×Int):qE 32 (aCd Wa R):=
 ⟨fun _ _ _ ⟨q,c,e,b,h⟩ d=>⟨q,c,e,b,h.below d⟩,fun _ W a _ cs' ⟨q,c,e,b,h⟩ f=>⟨q,c,e,b,h.chg f ((Chg.refl (fun i=>i=a) W).setRow (.inr rfl) cs') (by decide) (by decide) (by decide) (by decide)⟩⟩
def aDx(c d:Int)(v:Value)(_:World):Prop:=v=.agg #[.i c,.i d]
theorem aDy{x:En}(h:fY x=true):0≤x.c∧x.c≤4:=by
 unfold fY at h
 by_cases a:x.c=0
 .omega
 .rw[aC a]at h;unfold aF at h;simp only[bI,bP]at h;omega
theorem aDz{g base:Nat}(id D:Int)(q:StV)(qs:List ObV)(F:Value)(C:List MgV)(x:En)(w:World)(h:ExO w base g id D q qs F C)(J:base≤w.heap.size)(hg:base≤g)(hq:stB q.x=true)(hm:fY x=true)(hn:C.length≤5000):
  Calls prog 171 #[.pointer (some ⟨g,0,none⟩),.agg x.cells.toArray] w fun e w'=>e=.returned (.tuple #[])∧∃r G l3 l,ExO w' base g id D r G l3 (C++l)∧r.x=(jC q.x x).1∧l=(if x.c=0 then [] else [aB1 id D x (jC q.x x).2.1 (jC q.x x).2.2])∧Below base w w':=by
 obtain⟨K,y3,x1,b1,z1⟩:=par w 93 x.cells;have HD:=kp (show Bw' K K.drew from bR (aL _ _));have z:=k'a (h.below b1) x1 b1 (aB J b1.size) hn hg h.blk.lt (fun i hi=>(h.ms.lt (i:=i) hi).2) J hm;have j1:=kp (fun(W:World)(u:Bw' K W)=>Zj q qs x W.heap.size W ((h.below (b1.on u)).st.st) (aD _) hq hm);obtain⟨R,hR⟩:=nm' (jC q.x x);rw[hR]at j1 ⊢;obtain⟨L0,o0⟩:∃L0,(if x.c=0 then [] else [aB1 id D x R.2.1 R.2.2])=L0:=⟨_,rfl⟩
 rw[o0];have l1:=kp o0;have d4:wrap64 (-x.c)= -x.c:=by have:=aDy hm; unfold wrap64; omega
 clear x1 b1 z1 h J hg hq hm hn hR o0;go_enter func171,ntmps171;go_wp2_with fail;have e0:=kp (aCd.stab K.drew R);refine fR 12 (CAl K.drew 32 mF 46 [.i 0,.i 0] (aCd K.drew R) vY 5 6 7 9 10 11) (fun _=>fK) (by kernel_rfl) (by kernel_rfl) CAl.start ?_
 iterate 5 (refine bO ?_; apply Exists.intro)
 iterate 3 (refine bS eM ?_)
 refine bS (aDx R.2.1 R.2.2) ?_
 iterate 3 (refine bS eM ?_)
 refine dR ⟨?_,?_⟩
 rotate_left
 .iterate 5
   apply Ug (by kernel_rfl) (by intro t w h; cases h; exact trivial) rfl
   .intro X W' j I U E m;have hB:=HD.o.on j.bel;have l6:=(z.a.blk.grow hB).loadOff (P:=prog) 2 9 q.cells rfl rfl;have l4:=(z.b.grow hB).load (P:=prog) (k:=11) rfl;clear hB;go_wp2_with fail;exact⟨rfl,_,rfl,j.other (by decide),aV,rfl⟩
   simp only[Act.put,aN,aH,aI,aT,aW]
  refine⟨fun X W' j I U E m=>?_,fun u6=>?_⟩
  .go_wp2_with fail;refine (j1.o W' (HD.o.on j.bel)).mono ?_;rintro e g4 ⟨r,G,rfl,j0,a0,p2⟩;have N:=j.doCall e0.o I p2 ⟨r,G,rfl,j0,a0.mono j.bel.size⟩ (by decide);go_wp2_with fail;exact⟨rfl,_,rfl,N,aV,trivial⟩
  simp only[Act.put,aN,aH,aI,aT,aW];refine⟨fun X W' j I U E m=>?_,fun u7=>?_⟩
  .have h6:X 5=some u6:=E 5 12 u6 (by kernel_rfl) (by kernel_rfl) (bT (by kernel_rfl)) rfl;go_wp2_with fail;exact⟨rfl,_,rfl,j.doMv h6 (by decide),aV,trivial⟩
  simp only[Act.put,aN,aH,aI,aT,aW];refine⟨fun X W' j I U E m=>?_,fun u8=>?_⟩
  .have h7:X 6=some u7:=E 6 6 u7 (by kernel_rfl) (by kernel_rfl) (bT (by kernel_rfl)) rfl;have h6:=j.mv _ h7;obtain⟨r,G,rfl,-⟩:=j.call _ h6;have N:=j.doExt I h6 ⟨_,rfl⟩ (by decide);clear h6 h7;go_wp2_with fail;exact⟨rfl,_,rfl,N,aV,trivial⟩
  simp only[Act.put,aN,aH,aI,aT,aW];refine⟨fun X W' j I U E m=>?_,fun u9=>?_⟩
  .have h7:X 6=some u7:=E 6 6 u7 (by kernel_rfl) (by kernel_rfl) (bT (by kernel_rfl)) rfl;obtain⟨r,G,rfl,-⟩:=j.call _ (j.mv _ h7);clear h7;go_wp2_with fail;exact⟨rfl,_,rfl,j.other (by decide),aV,rfl⟩
  simp only[Act.put,aN,aH,aI,aT,aW];refine⟨fun X W' j I U E m=>?_,fun d1=>?_⟩
  .have N:=j.doAlloc e0.o I (by decide);go_wp2_with fail;exact⟨rfl,_,rfl,N,aV,trivial⟩
  simp only[Act.put,aN,aH,aI,aT,aW];refine⟨fun X W' j I U E m=>?_,fun o3=>?_⟩
  .have N:=j.doAlloc2 e0.o (by decide);go_wp2_with fail;exact⟨rfl,_,rfl,N,aV,trivial⟩
  simp only[Act.put,aN,aH,aI,aT,aW];refine⟨fun X W' j I U E m=>?_,fun p3=>?_⟩
  .have m0:X 9=some d1:=E 9 4 d1 (by kernel_rfl) (by kernel_rfl) (bT (by kernel_rfl)) rfl;have h8:X 7=some u8:=E 7 13 u8 (by kernel_rfl) (by kernel_rfl) (bT (by kernel_rfl)) rfl;obtain⟨u,hu,y,Q⟩:=j.ext _ h8;obtain⟨r,G,T,-,a0⟩:=j.call _ hu;rw[Q]at T;obtain⟨rfl,-⟩:u8=.agg r.cells.toArray∧y=.agg #[.i R.2.1,.i R.2.2]:=by simpa using T
   obtain⟨a,cs,rfl,-⟩:=j.al _ m0;obtain⟨hk,N⟩:=j.doStore (u:=undef) e0.o (by decide) I m0 h8 (by decide);have e4:=hk.store (P:=prog) (cs':=r.cells) rfl (StV.one a0.st);clear hk Q T hu h8 m0;go_wp2_with fail;exact⟨rfl,undef,rfl,N,aV,trivial⟩
  simp only[Act.put,aT,aW];intro W9 j m;have M:u9=.agg #[.i R.2.1,.i R.2.2]:=m 14;clear m;simp only[dO,dP];subst M;obtain⟨u,hu,y,Q⟩:=j.ext u8 rfl;obtain⟨r,G,T,j0,a0⟩:=j.call _ hu;rw[Q]at T;obtain⟨rfl,-⟩:u8=.agg r.cells.toArray∧y=.agg #[.i R.2.1,.i R.2.2]:=by simpa using T
  obtain⟨a,cs,rfl,a3,p0,-,b2⟩:=j.al d1 rfl;obtain rfl:r.cells=cs:=by have:=b2 p3 rfl; simpa using this
  obtain⟨Z,rfl,y0,d0⟩:=j.al2 o3 rfl;have a2:=HD.o.on j.bel;have j2:=bZ.store d0 R.2.1 R.2.2;have c13:=(Chg.refl (fun i=>i=Z) W9).setRow (.inr rfl) #[.i R.2.1,.i R.2.2];have z0:=p0.chg c13 (p0.ne d0 (by decide));have l0:=a0.chg d0 c13 (by decide) (by decide) (by decide) (by decide);have a1:Blk (W9.setRow Z #[.i R.2.1,.i R.2.2]) Z 46 [.i R.2.1,.i R.2.2]:=d0.set [.i R.2.1,.i R.2.2];have q0:K.heap.size≤K.drew.heap.size:=HD.o.size;have O:Bw' K (W9.setRow Z #[.i R.2.1,.i R.2.2]):=cL a2 (aB q0 y0) _;obtain⟨q3,q1⟩:∃W,W9.setRow Z #[.i R.2.1,.i R.2.2]=W:=⟨_,rfl⟩
  rw[q1]at j2 z0 l0 a1 O;have j3:=z0.load (P:=prog) (k:=9) rfl;have b0:=z.a.below O;have m2:=z.b.grow O;obtain⟨Y,o2,m3,p1,c14⟩:=b0.blk.off 2 r.cells (exC id D r F) rfl (by show 2+9≤12; decide) (StV.one l0.st);have z2:g<K.heap.size:=eA z.g z.c.size;have d2:¬(Z=g):=by omega
  have na:¬(w.heap.size=g):=by have:=z.g; omega
  have g1:=m2.chg c14 na;have g2:=a1.chg c14 d2;have e2:=b0.ms.chg_blk b0.blk c14 (by decide);have l2:Ws Y base r G:=(l0.mono (aB z.d q0)).chg b0.blk c14 (by decide) (by decide) (by decide) (by decide);have o1:Below base w Y:=(z.c.on O|>.mono z.i).trans (c14.below (B:=base) (fun i hi=>by have:=z.f; omega) (aB z.d O.size));have k2:Y.cell? ⟨w.heap.size,2,none⟩=some (.i x.c):=g1.cell 2;have n:=k'7 (show ExO Y base g id D r G F C from⟨p1,l2,e2,z.a.nil⟩) g1 g2 o1 j0 (aB z.d (aB O.size c14.size)) y0;clear j Q T hu a3 p0 b2 d0 a2 c13 z0 l0 a1 O b0 m2 p1 c14 z2 g1 g2 e2 l2 o1 a0 j0 q0 d2 na y0
  by_cases L:x.c=0
  .have e3:(x.c != 0)=false:=by simp[L]
   have HE:=kp (show ([]:List MgV)=L0 by rw[←l1.o,aE L]);clear L;go_wp2_with fail;go_end0;exact⟨rfl,r,G,F,[],by rw[fS]; exact n.a,n.e,HE.o,n.d⟩
  have e3:(x.c != 0)=true:=by simp[L]
  have HE:=kp (show [aB1 id D x R.2.1 R.2.2]=L0 by rw[←l1.o,aC L]);clear L;go_wp2_with fail;clear k2 e3 j2 j3 m3 o2 q1;obtain⟨A,g0⟩:=nm' (aB1 id D x R.2.1 R.2.2);rw[g0]at HE;have q2:∀w:World,(Instr.build 48 #[(0,.i 2),(1,.i id),(2,.i (-x.c)),(3,.i D),(12,.i x.s),(14,.agg #[.i R.2.1,.i R.2.2]),(15,.bool true)]).run prog w=.ok (.agg A.cells.toArray) w:=fun w=>g0▸aDw id D (-x.c) x.s R.2.1 R.2.2 w;have m1:=kp (show A.es=[]∧A.ev=.slice none 0 0 from g0▸⟨rfl,rfl⟩);clear g0;have H:=kp (fun W(j:Chg (fun i=>F.ownBlock=some i) Y W∧Ow W base 48 23 F MgV.cells C)=>jQ (n.a.blk.chg j.1 (n.a.ms.ne_blk n.a.blk (by decide))) (jQ (n.b.chg j.1 (n.a.ms.ne_blk n.b (by decide))) (n.c.chg j.1 (n.a.ms.ne_blk n.c (by decide)))));refine kU 24 (fun W=>Chg (fun i=>F.ownBlock=some i) Y W∧Ow W base 48 23 F MgV.cells C) (kD 21 fun i=>F.ownBlock=some i) (by kernel_rfl) (by kernel_rfl) ⟨(Chg.refl _ _).drew,n.a.ms.below (bR (aL _ _))⟩ ?_
  iterate 20 (refine bO ?_; apply Exists.intro)
  refine bS (fun u W=>∃b,u=.slice (some ⟨b,0,none⟩) 1 1∧(b<W.heap.size∧F.ownBlock≠some b)∧Sl W (b+1) u MgV.cells [A]) ?_;refine bS (fun u W=>Ow W base 48 23 u MgV.cells (C++[A])) ?_
  iterate 2 (refine bO ?_; apply Exists.intro)
  refine dR ⟨?pers,?walk⟩
  case walk=>
   iterate 4
    apply Sz (by kernel_rfl) (by intro t w h; cases h; exact trivial) rfl
    .intro W j m; go_wp2_with fail;exact⟨rfl,_,rfl,j,fQ (by decide) (aL _ _),rfl⟩
    simp only[Act.put,aN,aH,aI]
   apply Sz (by kernel_rfl) (by intro t w h; cases h; exact trivial) rfl
   .intro W j m; have V:=(H.o W j).1.cell 11; rw[aCD]at V; go_wp2_with fail;exact⟨rfl,_,rfl,j,fQ (by decide) (aL _ _),rfl⟩
   simp only[Act.put,aN,aH,aI]
   iterate 3
    apply Sz (by kernel_rfl) (by intro t w h; cases h; exact trivial) rfl
    .intro W j m; go_wp2_with fail;exact⟨rfl,_,rfl,j,fQ (by decide) (aL _ _),rfl⟩
    simp only[Act.put,aN,aH,aI]
   apply Sz (by kernel_rfl) (by intro t w h; cases h; exact trivial) rfl
   .intro W j m; have V:W.cell? ⟨g,0,none⟩=some (.i id):=(H.o W j).1.cell 0; go_wp2_with fail;exact⟨rfl,_,rfl,j,fQ (by decide) (aL _ _),rfl⟩
   simp only[Act.put,aN,aH,aI];apply Sz (by kernel_rfl) (by intro t w h; cases h; exact trivial) rfl
   .intro W j m; go_wp2_with fail;exact⟨rfl,_,rfl,j,fQ (by decide) (aL _ _),rfl⟩
   simp only[Act.put,aN,aH,aI];apply Sz (by kernel_rfl) (by intro t w h; cases h; exact trivial) rfl
   .intro W j m; have V:W.cell? ⟨w.heap.size,2,none⟩=some (.i x.c):=(H.o W j).2.1.cell 2; go_wp2_with fail;exact⟨rfl,_,rfl,j,fQ (by decide) (aL _ _),rfl⟩
   simp only[Act.put,aN,aH,aI]
   iterate 4
    apply Sz (by kernel_rfl) (by intro t w h; cases h; exact trivial) rfl
    .intro W j m; go_wp2_with fail;exact⟨rfl,_,rfl,j,fQ (by decide) (aL _ _),rfl⟩
    simp only[Act.put,aN,aH,aI]
   apply Sz (by kernel_rfl) (by intro t w h; cases h; exact trivial) rfl
   .intro W j m; have V:W.cell? ⟨g,1,none⟩=some (.i D):=(H.o W j).1.cell 1; go_wp2_with fail;exact⟨rfl,_,rfl,j,fQ (by decide) (aL _ _),rfl⟩
   simp only[Act.put,aN,aH,aI];apply Sz (by kernel_rfl) (by intro t w h; cases h; exact trivial) rfl
   .intro W j m; go_wp2_with fail;exact⟨rfl,_,rfl,j,fQ (by decide) (aL _ _),rfl⟩
   simp only[Act.put,aN,aH,aI];apply Sz (by kernel_rfl) (by intro t w h; cases h; exact trivial) rfl
   .intro W j m; have V:W.cell? ⟨w.heap.size,3,none⟩=some (.i x.s):=(H.o W j).2.1.cell 3; go_wp2_with fail;exact⟨rfl,_,rfl,j,fQ (by decide) (aL _ _),rfl⟩
   simp only[Act.put,aN,aH,aI];apply Sz (by kernel_rfl) (by intro t w h; cases h; exact trivial) rfl
   .intro W j m; have V:=(H.o W j).2.2.load (P:=prog) (k:=2) rfl; go_wp2_with fail;exact⟨rfl,_,rfl,j,fQ (by decide) (aL _ _),rfl⟩
   simp only[Act.put,aN,aH,aI];apply Sz (by kernel_rfl) (by intro t w h; cases h; exact trivial) rfl
   .intro W j m; have V:=q2 W; go_wp2_with fail;exact⟨rfl,_,rfl,j,fQ (by decide) (aL _ _),rfl⟩
   simp only[Act.put,aN,aH,aI];refine⟨fun W j m=>?_,fun u7=>?_⟩
   .go_wp2_with fail;have hs:=eQ (enc:=MgV.cells) W 48 A;have L:=jQ (j.1.alloc (.cells A.cells.toArray 48)) (j.2.alloc (.cells A.cells.toArray 48));have M:=fQ (e:=21) (k:=20) (S:=fun i=>F.ownBlock=some i) (by decide) (ba' W (.cells A.cells.toArray 48));have J:W.heap.size<(W.alloc (.cells A.cells.toArray 48)).heap.size:=by simp
    have hn:¬F.ownBlock=some W.heap.size:=fun Q=>by have:=(j.2.lt Q).2; omega
    generalize W.alloc (.cells A.cells.toArray 48)=W' at hs L M J ⊢;exact⟨rfl,_,rfl,L,M,_,rfl,⟨J,hn⟩,hs⟩
   simp only[Act.put,aN,aH,aI];refine⟨fun W j m=>?_,fun u8=>?_⟩
   .have f7:=m 42 (bT (by kernel_rfl));obtain⟨b,rfl,z3,g3⟩:=f7;have y2:base≤W.heap.size:=aB n.f j.1.size;go_wp2_with (at_builtin; refine mO (enc:=MgV.cells) W rfl (.tmp 26) (.tmp 42) 53 rfl base 48 zF aBW rfl (by omega) fF j.2 rfl g3 rfl (fun a ha=>by rw[bQ.1 ha]; exact nV (p:=A) (by rw[m1.B]; rfl)) ?_ ?_ y2 ?_)
    .have:=z.e; unfold maxLen; show C.length+1≤_; omega
    .have:=z.e; show (C.length+1)*208≤_; omega
    intro v' W3 ho d3 hg a4;exact⟨rfl,_,rfl,⟨j.1.trans (fZ hg) (fun _ _ h=>h),d3⟩,rK (fZ hg),ho⟩
   simp only[Act.put,aN,aH,aI]
   iterate 2
    apply Sz (by kernel_rfl) (by intro t w h; cases h; exact trivial) rfl
    .intro W j m; go_wp2_with fail;exact⟨rfl,_,rfl,j,fQ (by decide) (aL _ _),rfl⟩
    simp only[Act.put,aN,aH,aI]
   intro W j m;have f8:=m 43;have q:=(H.o W j).1.cell 11;have qf:=(H.o W j).1.frozen 11;rw[aCD]at q;obtain⟨A8,c8,rfl,_,_⟩:=eD f8;rw[bB,uC]at f8;have y9:Blk (W.setCell ⟨g,11,none⟩ (.slice A8 (C.length+1) c8)) g 232 (exC id D r (.slice A8 (C.length+1) c8)):=(H.o W j).1.setCell 11 _;have c9:=(Chg.refl (fun i=>i=g) W).setCell (.inr rfl) 11 (.slice A8 (C.length+1) c8);have o9:=f8.chg_blk (H.o W j).1 c9 (by decide);have w9:=(n.a.st.chg_row n.a.ms j.1 (by decide) (by decide) (by decide) (by decide)).chg (H.o W j).1 c9 (by decide) (by decide) (by decide) (by decide);have y1:Below base w (W.setCell ⟨g,11,none⟩ (.slice A8 (C.length+1) c8)):=(n.d.trans (j.1.below (B:=base) (fun i hi=>(n.a.ms.lt hi).1) n.f)).trans (c9.below (B:=base) (fun i hi=>by have:=z.f; omega) (aB n.f j.1.size));have HF:=k'2 (show ExO _ base g id D r G _ (C++[A]) from⟨y9,w9,o9,fun y hy=>by
    rcases dF.1 hy with hy|hy
    .exact z.a.nil y hy
    .rw[bQ.1 hy]; exact m1.o⟩) y1
   clear m j f8 y9 c9 o9 w9 y1;go_wp2_with fail;go_end0;exact⟨rfl,r,G,_,[A],HF.a,n.e,HE.o,HF.B⟩
  case pers=>
   refine⟨pv',pv',pv',pv',pv',pv',pv',pv',pv',pv',pv',pv',pv',pv',pv',pv',pv',pv',pv',pv',?_,?_,pv',pv',trivial⟩
   .rintro i u W W' _ ⟨b,rfl,J,hs⟩ M;exact⟨b,rfl,⟨eA J.1 (nO M).size,J.2⟩,vK hs (nO M) J.2 J.1⟩
   .rintro i u W W' b3 h1 M;exact h1.below (rL M b3)
 .exact⟨pv',pv',pv',pv',pv',fun _ _ _ _ _ h _=>h,fun _ _ _ _ _ h _=>h,fun _ _ _ _ _ h _=>h,fun _ _ _ _ _ h _=>h,fun _ _ _ _ _ h _=>h,fun _ _ _ _ _ h _=>h,fun _ _ _ _ _ h _=>h,trivial⟩
end
section
attribute [-go_sem] loadCellsFrom storeCells run_eql_struct run_neq_struct Instr.build
attribute [local go_sem] bC Ei
theorem aCr(id b:Int):∀(l:List En)(s:St)(e:En),lH id b s (l++[e])=((jC (lH id b s l).1 e).1,(lH id b s l).2++(if e.c=0 then [] else [aB1 id b e (jC (lH id b s l).1 e).2.1 (jC (lH id b s l).1 e).2.2]).map (·.x))
 |[],s,e=>by
  show ((jC s e).1,(if e.c=0 then [] else _)++[])=_;rw[fS]
  by_cases h:e.c=0<;>simp[lH,h]<;>rfl
 |a::l,s,e=>by
  show ((lH id b (jC s a).1 (l++[e])).1,_++(lH id b (jC s a).1 (l++[e])).2)=_;rw[aCr id b l];show _=(_,(_++_)++_);rw[cR];rfl
structure aBN(t:TypeId)(W0:World)(a:Nat)(cs:List Value)(X:Nat→Option Value)(W:World):Prop where
 c:Chg (fun i=>i=a) W0 W
 b:∃ds,Blk W a t ds∧ds.length=cs.length∧∀s,X 8=some s→ds=cs
section
variable {t:TypeId}{W0 W:World}{a:Nat}{cs:List Value}{X:Nat→Option Value}
theorem aBN.other{j:Nat}{u:Value}(h:aBN t W0 a cs X W)(g:8≠j):aBN t W0 a cs (bD X j u) W:=
 ⟨h.c,h.b.imp fun _ ⟨d,e,f⟩=>⟨d,e,by rw[aR g]; exact f⟩⟩
theorem aBN.put{u:Value}(h:aBN t W0 a cs X W):aBN t W0 a cs (bD X 8 u) (W.setRow a cs.toArray):=by
 obtain⟨e,d,-,-⟩:=h.b;exact⟨h.c.trans ((Chg.refl (fun i=>i=a) W).setRow (.inr rfl) _) fun _ _ h=>h,cs,d.set cs,rfl,fun _ _=>rfl⟩
end
def Gw:En:=⟨1,0,0,0,0,0,0,0,0,0,0⟩
theorem aDA(w:World):(Instr.build 93 #[(0,.i 1)]).run prog w=.ok (.agg Gw.cells.toArray) w:=run_build w _ _ _ (by kernel_rfl)
theorem aDB(id a:Int)(q:StV)(w:World):(Instr.build 232 #[(0,.i id),(1,.i a),(2,.agg q.cells.toArray)]).run prog w=.ok (.agg (exC id a q (.slice none 0 0)).toArray) w:=run_build w _ _ _ (by kernel_rfl)
attribute [local go_sem] aDA aDB
def aDC(w:World)(R:St×List Mg)(n:Nat)(e:Ending)(w':World):Prop:=∃q qs mv ms,e=.returned (.tuple #[.agg q.cells.toArray,mv])∧q.x=R.1∧ms.map (·.x)=R.2∧Ws w' w.heap.size q qs∧Ow w' w.heap.size 48 23 mv MgV.cells ms∧(∀x∈ms,x.es=[]∧x.ev=.slice none 0 0)∧ms.length≤n∧Bw' w w'
structure ExI(base:Nat)(w0 W:World)(g:Nat)(id view:Int)(s:St)(l:List En)(q:StV)(qs:List ObV)(mv:Value)(ms:List MgV):Prop where
 o:ExO W base g id view q qs mv ms
 b:Below base w0 W
 x:q.x=(lH id view s l).1
 m:ms.map (·.x)=(lH id view s l).2
 s:stB q.x=true∧stR q.x
 n:ms.length≤l.length
theorem aDD(id L:Int)(p:StV)(ps:List ObV)(v:Value)(l:List En)(B:Nat)(w:World)(h:fN w B p ps)(hv:Sl w B v En.cells l)(Z:B≤w.heap.size)(H:stB p.x=true)(hr:stR p.x)(hl:l.length≤4000)(hm:∀e∈l,fY e=true∧inR e.u):
  Calls prog 124 #[.i id,.i L,.agg p.cells.toArray,v] w (aDC w (lH id L p.x l) l.length):=by
 obtain⟨W1,b3,x1,b1,z1⟩:=par w 32 p.cells;obtain⟨W2,d1,x2,b2,z2⟩:=par W1 32 mF;unfold mF at d1;have U:=b1.on b2;have Y:=h.below U Z;have e2:=Sl.below hv U Z;have N:=aB Z U.size;have hH:=eC.1 (kA.1 H).1;have hs:=SmO.ok Y.1 hH;have o3:p.rows.length≤4:=by have:=rZ (kA.1 H).2 (by omega); have e:p.x.rows=p.rows:=rfl; rw[e]at this; omega
 have q2:=kp (by have:=Dt p ps B W2 Y N (by have:=hs.obs; omega) (by have:=hs.free; omega) (by omega); rw[H,show eN 60 true=0 from rfl]at this; exact this);have g1:(l.any fun e=> !fY e)=false:=by
  rw[pF];intro e he;rw[(hm e he).1];decide
 have y2:=kp (fun(W:World)(u:Bw' W2 W)=>by
  have:=aCp v l (fun e=> !fY e) 170 #[] B W (Sl.below e2 u N) (aB N u.size) (by omega) (enters_of func170 (by kernel_rfl) rfl) fun W' x _ _=>vC.2 x W';rw[g1]at this;exact this)
 have o2:=kp (fun(W:World)(u:Bw' W2 W)=>by
  have:=Zj p ps Gw B W (Y.below u N) (aB N u.size) H (by decide);rw[show jC p.x Gw=(p.x,0,0) by unfold jC; rw[aE (show Gw.c=0 from rfl)]]at this;exact this)
 have r:=k'a (x1.grow b2) x2 U z1 hv Z H hr hl hm;have l0:=(x1.grow b2).load (P:=prog) (k:=9) rfl;clear x1 x2 b1 b2 z1 z2 U Y e2 N hH hs o3 g1 h hv Z H hr hl hm;go_enter func124,ntmps124;go_wp2_with fail;refine mb' (q2.o) fun w3 m1=>?_;have z0:=kp m1;clear m1 l0;go_wp2_with fail;refine mb' (y2.o w3 z0.o) fun D o1=>?_;have R:=kp (z0.o.on o1);have l4:=(r.a.grow R.o).load (P:=prog) (k:=9) rfl;clear o1;go_wp2_with fail;refine (o2.o D R.o).mono ?_;rintro e w5 ⟨K,j2,rfl,j0,o0,e0⟩;have a0:=kp (R.o.on e0);have y0:=r.c.on a0.o;obtain⟨E,d3,s6,x6,c6⟩:=(r.a.grow a0.o).put K.cells rfl (StV.one o0.st);have l6:=x6.load (P:=prog) (k:=9) rfl;have m2:Ws E D.heap.size K j2:=o0.chg (r.a.grow a0.o) c6 (by decide) (by decide) (by decide) (by decide);have b6:Bw' w E:=y0.trans (c6.below (B:=w.heap.size) (fun i hi=>by omega) y0.size);have y6:=(r.b.grow a0.o).chg c6 (by have:=r.d; omega);obtain⟨T,e3,x7,V,z7⟩:=par E 232 (exC id L K (.slice none 0 0));have a1:D.heap.size≤E.heap.size:=aB e0.size c6.size;have HI:=kp (show ExI D.heap.size T T E.heap.size id L p.x [] K j2 (.slice none 0 0) [] from⟨⟨x7,m2.below V,Ow.nil _ _ _ _ _,fun _ h=>(nomatch h)⟩,aL _ _,j0,rfl,by rw[show K.x=p.x from j0]; exact⟨r.g,r.h⟩,cY _⟩);have y:=k'6 (y6.grow V) (show W1.heap.size<D.heap.size from eA r.b.lt R.o.size) (b6.on V) a1 z7 (show w.heap.size≤D.heap.size from aB r.c.size R.o.size);have p3:Sl T B v En.cells l:=Sl.below r.e (b6.on V) r.f;obtain⟨A,c,rfl,y1,-,-⟩:=p3;obtain⟨n,d0⟩:=nm' l.length;rw[d0];have z3:n≤4000:=d0▸r.i;have S:=k'3 y1 d0 (show B≤D.heap.size from aB r.f y.F);clear e0 o0 j0 y0 x6 c6 m2 b6 y6 x7 V z7 a1 y1 d0 l4;go_wp2_with fail;clear s6 l6 d3 e3 b3 d1
 go_loopw [37] (fun i wr=>∃k:Nat,k≤n∧i=.i k∧∃q qs Q G,ExI D.heap.size T wr E.heap.size id L p.x (l.take k) q qs Q G) (fun i _=>n-(intOf i).toNat)
 case atStart=>exact⟨0,by omega,rfl,_,_,_,_,HI.o⟩
 case round=>
  obtain⟨k,hk,rfl,q,qs,Q,G,hI⟩:=hrel;have j:=kp hI;clear hI;have a2:D.heap.size≤wr.heap.size:=aB (dY (Nat.lt_of_le_of_lt y.d y.e)) j.o.b.size
  by_cases l3:k<n
  .have g3:(k:Int)<(n:Int):=by omega
   have b0:k<l.length:=by have:=S.b; omega
   obtain⟨b,a4,rfl,-,-,p1⟩:=dB (P:=prog) 11 En.cells eL (by omega) (S.a.below j.o.b S.C) k b0;have K:=p1 0;change Sem.run _ _ wr=.ok _ wr at K;have M:=k'2 (cV b0) (r.J _ (bK b0));clear p1;generalize l[k]'b0=x at *;obtain⟨W8,j3,s8,x8,cD,-⟩:=fB wr 93 z'3 x.cells rfl (nI x);have l8:=x8.load (P:=prog) (k:=11) rfl;have m3:G.length≤4000:=by have h1:=j.o.n; have Y:=r.i; rw[cZ]at h1; omega
   have a3:=kp (aDz id L q qs Q G x W8 (j.o.o.below cD) (aB a2 cD.size) y.d j.o.s.1 M.b (by omega));have p2:=kp cD;clear x8 cD m3 a2;go_wp2_with fail;refine (a3.o).mono ?_;rintro e w9 ⟨rfl,q',y3,q3,l',q1,p0,g0,j1⟩;have HN:=kp (show ExI D.heap.size T w9 E.heap.size id L p.x (l.take (k+1)) q' y3 q3 (G++l') from
    ⟨q1,(j.o.b.trans (p2.o.mono (aB (dY (Nat.lt_of_le_of_lt y.d y.e)) j.o.b.size))).trans j1,by rw[M.a,aCr,←j.o.x]; exact p0,
     by rw[M.a,aCr,←j.o.x,gC,g0,j.o.m],
     by rw[show q'.x=(jC q.x x).1 from p0]; exact Sa j.o.s.1 j.o.s.2 M.b M.C,
     by rw[M.a,bB,bB,uC,g0]; have:=j.o.n; split; (· show G.length+0≤_; omega); (· show G.length+1≤_; omega)⟩)
   clear q1 p0 g0 j1 l8 s8 j3;go_wp2_with fail;go_roundw
   case rel=>exact⟨k+1,by omega,by go_num,_,_,_,_,HN.o⟩
   case measure=>simp[intOf]; omega
  .obtain rfl:k=n:=by omega
   have d2:l.take k=l:=cN (by have:=S.b; omega);rw[d2]at j;have I:=kp (show Bw' wr wr.drew from bR (aL _ _));have g2:Blk wr W1.heap.size 32 mF:=y.a.below j.o.b y.b;have HV:=kp g2;clear l3 d2 g2;go_wp2_with fail;refine fR 9 (aBN 32 wr.drew W1.heap.size q.cells) (fun _=>fK) (by kernel_rfl) (by kernel_rfl) ⟨Chg.refl _ _,mF,HV.o.grow I.o,rfl,fun _ h=>(nomatch h)⟩ ?_
   iterate 8 (refine bO ?_; apply Exists.intro)
   refine bS eM ?_;refine dR ⟨?_,?_⟩
   rotate_left
   .iterate 8
     apply Ug (by kernel_rfl) (by intro t w h; cases h; exact trivial) rfl
     .intro X W' z hX hw hV O;have b:=(j.o.o.blk.grow I.o).chg z.c (by have:=y.o; omega);have l1:=b.loadOff (P:=prog) 2 9 q.cells rfl rfl;have l2:W'.cell? ⟨E.heap.size,11,none⟩=some Q:=b.cell 11;clear b;go_wp2_with fail;exact⟨rfl,_,rfl,z.other (by decide),aV,rfl⟩
     simp only[Act.put,aN,aH,aI,aT,aW]
    refine⟨fun X W' z hX hw hV O=>?_,fun u8=>?_⟩
    .obtain⟨ds,hb,hl,-⟩:=z.b;have s:=hb.store (P:=prog) (cs':=q.cells) hl.symm (StV.one j.o.o.st.st);have hp:=z.put (u:=undef);clear hb hl;go_wp2_with fail;exact⟨rfl,undef,rfl,hp,aV,trivial⟩
    simp only[Act.put,aT,aW];intro W9 z O;obtain⟨ds,hb,-,hd⟩:=z.b;obtain rfl:=hd u8 rfl;have l9:=hb.load (P:=prog) (k:=9) rfl;have m0:=HV.o.grow I.o;have O:=k'3 ((j.o.o.st.below I.o).chg m0 z.c (by decide) (by decide) (by decide) (by decide)) ((j.o.o.ms.below I.o).chg_blk m0 z.c (by decide)) (((y.c.trans (j.o.b.mono y.F)).on I.o).trans (z.c.below (B:=w.heap.size) (fun i hi=>by have:=r.d; have:=r.b.lt; omega) (((y.c.trans (j.o.b.mono y.F)).on I.o).size)));clear z hb hd m0;go_wp2_with fail;exact aU (v:=.tuple #[.agg q.cells.toArray,Q]) (by simp[results,results124,go_sem,l9]) rfl ⟨q,qs,Q,G,rfl,j.o.x,j.o.m,O.a.mono y.F,O.b.mono y.F,j.o.o.nil,S.b▸j.o.n,O.C⟩
   .exact⟨pv',pv',pv',pv',pv',pv',pv',pv',fun _ _ _ _ _ h _=>h,trivial⟩
end
section
attribute [-go_sem] loadCellsFrom storeCells run_eql_struct run_neq_struct Instr.build
attribute [local go_sem] bC
def aBI(w w':World)(base g:Nat)(p:WkV)(q:aEF):Prop:=∃p' ps',aEG w w' base g p p' ps'∧p'.x=q
theorem aBI.of{w b:World}{base g:Nat}{p p':WkV}{q:aEF}{a:List ObV}(h:aEG w b base g p p' a)(e:p'.x=q):aBI w b base g p q:=⟨p',a,h,e⟩
def aCe(Wa:World)(R:St×List Mg)(z:Value)(W:World):Prop:=∃q qs mv ms,z=.tuple #[.agg q.cells.toArray,mv]∧q.x=R.1∧ms.map (·.x)=R.2∧Ws W Wa.heap.size q qs∧Ow W Wa.heap.size 48 23 mv MgV.cells ms∧(∀x∈ms,x.es=[]∧x.ev=.slice none 0 0)∧ms.length≤4000
theorem aCe.stab(Wa:World)(R:St×List Mg):qE 32 (aCe Wa R):=
 ⟨fun _ _ _ ⟨q,k,j,g,e,f,b,h,d,c⟩ l=>⟨q,k,j,g,e,f,b,h.below l,d.below l,c⟩,
  fun _ W a _ cs' ⟨q,k,j,g,e,f,b,h,d,c⟩ m=>⟨q,k,j,g,e,f,b,h.chg m ((Chg.refl (fun i=>i=a) W).setRow (.inr rfl) cs') (by decide) (by decide) (by decide) (by decide),d.chg_blk m ((Chg.refl (fun i=>i=a) W).setRow (.inr rfl) cs') (by decide),c⟩⟩
def aBT(Wa:World)(l:List En)(z:Value)(W:World):Prop:=Ow W Wa.heap.size 93 11 z En.cells l
theorem aBT.stab(Wa:World)(l:List En):qE 32 (aBT Wa l):=
 ⟨fun _ _ _ h b=>Ow.below h b,fun _ W a _ cs' h c=>Ow.chg_blk h c ((Chg.refl (fun i=>i=a) W).setRow (.inr rfl) cs') (by decide)⟩
abbrev ReC(Wa:World)(R:St×List Mg):(Nat→Option Value)→World→Prop:=CAl Wa 32 mF 46 [] (aCe Wa R) vY 34 35 36 38 1000 39
structure ReV(Wa:World)(R:St×List Mg)(l:List En)(X:Nat→Option Value)(W:World):Prop where
 c:ReC Wa R X W
 a:∀z,X 33=some z→aBT Wa l z W
 e:∀z,X 37=some z→∃u y,X 34=some u∧u=.tuple #[y,z]
theorem ReV.step{Wa W W':World}{R:St×List Mg}{l:List En}{X:Nat→Option Value}{j:Nat}{u:Value}(h:ReV Wa R l X W)(m:ReC Wa R (bD X j u) W')(k:∀z,aBT Wa l z W→aBT Wa l z W')(f:33≠j)(g:37≠j)(i:34=j→X 34=none):ReV Wa R l (bD X j u) W':=by
 refine⟨m,fun z b=>k z (h.a z (by rw[aR f]at b; exact b)),fun z b=>?_⟩;rw[aR g]at b;obtain⟨o,y,c,n⟩:=h.e z b;refine⟨o,y,?_,n⟩
 by_cases d:34=j
 .rw[i d]at c; cases c
 .rw[aR d]; exact c
def RpV.done(r:RpV)(s:StV)(n:Int):RpV:=⟨r.id,r.nodes,r.k,n,s,r.timer,r.starts,r.sv,r.votes,r.vv,r.acks,r.av,r.part⟩
theorem aEF.reach_no{q r:aEF}{n:Int}(h:q.reach n=some r)(a:n≤q.r.commit∨q.r.k.last<n):q=r:=by
 unfold aEF.reach at h; rw[aE a]at h; exact Option.some.inj h
theorem aEF.reach_go{q r:aEF}{n:Int}(h:q.reach n=some r)(b:¬(n≤q.r.commit∨q.r.k.last<n)):n-q.r.k.base<8∧
  (⟨{q.r with st:=(lH q.r.id q.r.k.view q.r.st (xG q.r.k q.r.commit (n-q.r.commit))).1,commit:=n},q.rs,q.ms++if gM q.r=true then (lH q.r.id q.r.k.view q.r.st (xG q.r.k q.r.commit (n-q.r.commit))).2 else []⟩:aEF)=r:=by
 unfold aEF.reach at h; rw[aC b]at h
 by_cases a:8≤n-q.r.k.base
 .rw[aE a]at h; cases h
 .rw[aC a]at h; exact⟨by omega,Option.some.inj h⟩
theorem aDE{k:Kd}{a b:Int}{e:En}(h:e∈xG k a b):e∈k.es:=by
 unfold xG at h
 split at h
 .cases h
 .exact zS (qN h)
theorem aCs(k:Kd)(a b:Int):(xG k a b).length≤k.es.length:=by
 unfold xG
 split
 .exact cY _
 .rw[cZ,dX]; omega
theorem aCE{g base:Nat}(p:WkV)(ps:List ObV)(n:Int)(w:World)(q:aEF)(h:WkO w base g 79 [] p ps)(hb:base≤w.heap.size)(S:WpS p.x)(hc:p.r.k.base≤p.r.commit)(hr:stR p.r.s.x)(hn:inR n)(hq:p.x.reach n=some q)(p3:p.ms.length≤1000):
  Calls prog 71 #[.pointer (some ⟨g,0,none⟩),.i n] w fun e w'=>e=.returned (.tuple #[])∧aBI w w' base g p q:=by
 have k7:w.cell? ⟨g,7,none⟩=some (.i p.r.commit):=h.blk.cell 7;have p2:=S.log;have b1:=kp (aAD p ps w h p2.1 (by have:=p2.2.1; exact aB this (by decide)));obtain⟨la,U⟩:=nm' p.r.k.x.last;rw[U]at b1;have m:=k'9 h hb S hc hr hn hq p3 U;clear p2 h hb S hc hr hq p3
 by_cases g1:n≤p.r.commit
 .have HE:=kp (aEF.reach_no m.g (.inl g1));go_enter func71,ntmps71;go_wp2_with fail;exact aU (v:=.tuple #[]) (by simp[results,results71,go_sem]) rfl ⟨rfl,.of (aEG.refl m.a) HE.o⟩
 by_cases g2:la<n
 .have HE:=kp (aEF.reach_no m.g (.inr (by show p.r.k.x.last<n; rw[U]; exact g2)));clear U;go_enter func71,ntmps71;go_wp2_with fail;refine mb' (b1.o) fun M d0=>?_;go_wp2_with fail;exact aU (v:=.tuple #[]) (by simp[results,results71,go_sem]) rfl ⟨rfl,.of ((aEG.refl m.a).post d0) HE.o⟩
 have HE:=kp (aEF.reach_go m.g (by intro hh; rcases hh with hh|hh; exact g1 hh; exact g2 (by rw[←U]; exact hh)));have HN:=k'3 g1 g2 U;clear U;go_enter func71,ntmps71;go_wp2_with fail;refine mb' (b1.o) fun M d0=>?_;have h2:=m.a.below d0;have HD:=kp (show Bw' M M.drew from bR (aL _ _));have H2:=k'3 h2 d0 (aB m.b d0.size);clear h2 d0 k7 b1;go_wp2_with fail;clear g1 g2;obtain⟨l,hl⟩:=nm' (xG p.r.k.x p.r.commit (n-p.r.commit));obtain⟨R,hR⟩:=nm' (lH p.r.id p.r.k.view p.r.s.x l);have p1:=m.c.log;have o1:p.r.k.es.length≤4000:=p1.2.1;have m5:wrap64 (n-p.r.commit)=n-p.r.commit:=by
  have h1:0≤p.r.k.base:=p1.1.1;have h2:=m.d;have h3:=HN.o;have h4:p.r.k.x.last≤900000000:=m.c.top;unfold wrap64; omega
 have m4:=kp (fun(W:World)(u:Bw' M W)=>by
  have:=aDt p.r.k p.r.commit (n-p.r.commit) W.heap.size W ((H2.a.below u).rep.es.sl eL) (aD _) m.c.kept m.c.kr m.c.img p1.1 o1 m.d (by have:=HN.o; omega) (by have:=HN.o; omega);rw[hl]at this;exact this)
 have p4:=kp (fun(W:World)(u:Bw' M W)(z:Value)(A:Sl W W.heap.size z En.cells l)=>by
  have:=aDD p.r.id p.r.k.view p.r.s ps z l W.heap.size W (H2.a.below u).rep.st.st A (aD _) m.c.st m.e (by rw[←hl]; exact aB (aCs _ _ _) o1) (fun e T=>by
   rw[←hl]at T;obtain⟨s,K⟩:=pZ.1 m.c.kept;have hm:=aDE T;exact⟨K.may e hm,(m.c.kr e hm).2.2.2.2.2.2.2.2.2.1⟩)
  rw[hR]at this;exact this)
 have q4:=kp (show l.length≤4000 by rw[←hl]; exact aB (aCs _ _ _) o1);have e0:=kp (show n-p.r.k.base<8∧(⟨{p.x.r with st:=R.1,commit:=n},p.x.rs,p.x.ms++if gM p.x.r=true then R.2 else []⟩:aEF)=q by
  have:=HE.o;rw[show xG p.x.r.k p.x.r.commit (n-p.x.r.commit)=l from hl,show lH p.x.r.id p.x.r.k.view p.x.r.st l=R from hR]at this;exact this)
 clear hl hR p1 o1 HE;have d1:=kp (aCe.stab M.drew R);have b2:=kp (aBT.stab M.drew l);refine fR 40 (ReV M.drew R l) (fun _=>fK) (by kernel_rfl) (by kernel_rfl) ⟨CAl.start,fun _ h=>(nomatch h),fun _ h=>(nomatch h)⟩ ?_
 iterate 33 (refine bO ?_; apply Exists.intro)
 iterate 7 (refine bS eM ?_)
 refine dR ⟨?_,?_⟩
 rotate_left
 .iterate 33
   apply Ug (by kernel_rfl) (by intro t w h; cases h; exact trivial) rfl
   .intro X W' j H hw F Q;have hB:=HD.o.on j.c.bel;have b:=H2.a.blk.grow hB;have c0:W'.cell? ⟨g,0,none⟩=some (.i p.r.id):=b.cell 0;have c2:W'.cell? ⟨g,2,none⟩=some (.i p.r.k.view):=b.cell 2;have c7:W'.cell? ⟨g,7,none⟩=some (.i p.r.commit):=b.cell 7;have l1:=b.loadOff (P:=prog) 8 9 p.r.s.cells rfl rfl;have l2:=b.loadOff (P:=prog) 2 5 p.r.k.cells rfl rfl;clear b hB;go_wp2_with fail;exact⟨rfl,_,rfl,j.step (j.c.other (by decide)) (fun _ h=>h) (by decide) (by decide) (fun h=>absurd h (by decide)),aV,rfl⟩
   simp only[Act.put,aN,aH,aI,aT,aW]
  refine⟨fun X W' j H hw F Q=>?_,fun q1=>?_⟩
  .go_wp2_with fail;refine (m4.o W' (HD.o.on j.c.bel)).mono ?_;rintro e j4 ⟨v,rfl,ho,b0⟩;have L:ReV M.drew R l (bD X 33 v) j4:=⟨(j.c.grow d1.o b0).other (by decide),fun z A=>by rw[qF]at A; cases A; exact ho.mono j.c.bel.size,fun z A=>by
    rw[aR (by decide)]at A;rw[aR (by decide)];exact j.e z A⟩
   clear ho b0;go_wp2_with fail;exact⟨rfl,_,rfl,L,aV,trivial⟩
  simp only[Act.put,aN,aH,aI,aT,aW];refine⟨fun X W' j H hw F Q=>?_,fun g4=>?_⟩
  .have g3:X 33=some q1:=F 33 53 q1 (by kernel_rfl) (by kernel_rfl) (bT (by kernel_rfl)) rfl;have ha:=j.a _ g3;have z3:Sl W' W'.heap.size q1 En.cells l:=Ow.sl ha eL;have o4:=kp (p4.o W' (HD.o.on j.c.bel) q1 z3);clear ha z3 g3;go_wp2_with fail;refine (o4.o).mono ?_;rintro e j4 ⟨D,a0,Z,I,rfl,p0,l0,V,o0,m0,j0,b0⟩;have L:=j.step (j.c.doCall d1.o H b0 ⟨D,a0,Z,I,rfl,p0,l0,V.mono j.c.bel.size,o0.mono j.c.bel.size,m0,aB j0 q4.o⟩ (by decide)) (fun z A=>b2.o.grow _ _ _ A b0) (by decide) (by decide) (fun _=>H);clear p0 l0 V o0 m0 j0 b0;go_wp2_with fail;exact⟨rfl,_,rfl,L,aV,trivial⟩
  simp only[Act.put,aN,aH,aI,aT,aW];refine⟨fun X W' j H hw F Q=>?_,fun y1=>?_⟩
  .have N:X 34=some g4:=F 34 54 g4 (by kernel_rfl) (by kernel_rfl) (bT (by kernel_rfl)) rfl;go_wp2_with fail;exact⟨rfl,_,rfl,j.step (j.c.doMv N (by decide)) (fun _ h=>h) (by decide) (by decide) (fun h=>absurd h (by decide)),aV,trivial⟩
  simp only[Act.put,aN,aH,aI,aT,aW];refine⟨fun X W' j H hw F Q=>?_,fun q0=>?_⟩
  .have h7:X 35=some y1:=F 35 19 y1 (by kernel_rfl) (by kernel_rfl) (bT (by kernel_rfl)) rfl;have N:=j.c.mv _ h7;obtain⟨D,a0,Z,I,rfl,-⟩:=j.c.call _ N;have L:=j.step (j.c.doExt H N ⟨_,rfl⟩ (by decide)) (fun _ h=>h) (by decide) (by decide) (fun h=>absurd h (by decide));clear N h7;go_wp2_with fail;exact⟨rfl,_,rfl,L,aV,trivial⟩
  simp only[Act.put,aN,aH,aI,aT,aW];refine⟨fun X W' j H hw F Q=>?_,fun y0=>?_⟩
  .have h7:X 35=some y1:=F 35 19 y1 (by kernel_rfl) (by kernel_rfl) (bT (by kernel_rfl)) rfl;have N:=j.c.mv _ h7;obtain⟨D,a0,Z,I,rfl,-⟩:=j.c.call _ N;have L:ReV M.drew R l (bD X 37 Z) W':=⟨j.c.other (by decide),fun z A=>by
    rw[aR (by decide)]at A;exact j.a z A,fun z A=>by
    rw[qF]at A; cases A;rw[aR (by decide)];exact⟨_,_,N,rfl⟩⟩
   clear N h7;go_wp2_with fail;exact⟨rfl,_,rfl,L,aV,trivial⟩
  simp only[Act.put,aN,aH,aI,aT,aW];refine⟨fun X W' j H hw F Q=>?_,fun a3=>?_⟩
  .have L:=j.step (j.c.doAlloc d1.o H (by decide)) (fun z A=>b2.o.grow _ _ _ A (ba' W' (.cells mF.toArray 32))) (by decide) (by decide) (fun h=>absurd h (by decide));go_wp2_with fail;exact⟨rfl,_,rfl,L,aV,trivial⟩
  simp only[Act.put,aN,aH,aI,aT,aW];refine⟨fun X W' j H hw F Q=>?_,fun j5=>?_⟩
  .have e2:X 38=some a3:=F 38 4 a3 (by kernel_rfl) (by kernel_rfl) (bT (by kernel_rfl)) rfl;have h8:X 36=some q0:=F 36 55 q0 (by kernel_rfl) (by kernel_rfl) (bT (by kernel_rfl)) rfl;obtain⟨u,hu,y,T⟩:=j.c.ext _ h8;obtain⟨D,a0,Z,I,Y,-,-,V,-⟩:=j.c.call _ hu;rw[T]at Y;obtain⟨rfl,-⟩:q0=.agg D.cells.toArray∧y=Z:=by simpa using Y
   obtain⟨a,cs,rfl,-⟩:=j.c.al _ e2;obtain⟨K,a4⟩:=j.c.doStore (u:=undef) d1.o (by decide) H e2 h8 (by decide);have L:=j.step a4 (fun z A=>b2.o.put _ _ _ _ _ A K) (by decide) (by decide) (fun h=>absurd h (by decide));have o5:=K.store (P:=prog) (cs':=D.cells) rfl (StV.one V.st);clear K T Y hu h8 e2 V a4;go_wp2_with fail;exact⟨rfl,undef,rfl,L,aV,trivial⟩
  simp only[Act.put,aT,aW];intro W9 j Q;clear Q;simp only[dO,dP];obtain⟨u,hu,y,T⟩:=j.c.ext q0 rfl;obtain⟨u',y',y2,m2⟩:=j.e y0 rfl;obtain rfl:u=u':=by rw[hu]at y2; exact Option.some.inj y2
  obtain⟨D,a0,Z,I,Y,p0,l0,V,o0,m0,j0⟩:=j.c.call _ hu;rw[m2]at Y;obtain⟨-,rfl⟩:y'=.agg D.cells.toArray∧y0=Z:=by simpa using Y
  rw[m2]at T;obtain⟨rfl,-⟩:y'=q0∧y0=y:=by simpa using T
  obtain⟨rfl,-⟩:y'=.agg D.cells.toArray∧y0=y0:=by simpa using Y
  obtain⟨a,cs,rfl,U,o3,-,l3⟩:=j.c.al a3 rfl;obtain rfl:D.cells=cs:=by have:=l3 j5 rfl; simpa using this
  have m1:=HD.o.on j.c.bel;have l9:=o3.load (P:=prog) (k:=9) rfl;have O:=H2.a.below m1;obtain⟨d2,a5,g5,a2,c10⟩:=O.blk.off 8 D.cells (WkV.cells ⟨p.r.done D p.r.commit,p.rs,p.rv,p.ms,p.mv⟩ []) rfl (by simp[WkV.cells,RpV.cells,KpV.cells,StV.cells,HpV.cells,Pt.cells]) (StV.one V.st);have z0:Blk (d2.setCell ⟨g,7,none⟩ (.i n)) g 79 (WkV.cells ⟨p.r.done D n,p.rs,p.rv,p.ms,p.mv⟩ []):=a2.setCell 7 _;have k7:d2.cell? ⟨g,7,none⟩=some (.i p.r.commit):=a2.cell 7;have f7:=a2.frozen 7;have c11:=c10.setCell (.inr rfl) 7 (.i n);obtain⟨g0,j3⟩:∃W,d2.setCell ⟨g,7,none⟩ (.i n)=W:=⟨_,rfl⟩
  rw[j3]at z0 c11;have j2:base≤M.drew.heap.size:=aB H2.C HD.o.size;have l4:=V.mono j2;have e3:WkO g0 base g 79 [] ⟨p.r.done D n,p.rs,p.rv,p.ms,p.mv⟩ a0:=O.put (.inl rfl) z0 c11 ⟨O.rep.es,l4,O.rep.starts,O.rep.votes,O.rep.ves,O.rep.acks⟩;have d4:=(o0.mono j2).chg_blk O.blk c11 (by decide);have b3:aEG w g0 base g p ⟨p.r.done D n,p.rs,p.rv,p.ms,p.mv⟩ a0:=⟨e3,(Chg.of_below (H2.b.on m1)).trans c11 fun i _ hi=>.inl hi,fun k K=>.inl K,fun k K=>.inl K⟩
  have lr:=z0.loadOff (P:=prog) 0 26 (p.r.done D n).cells rfl rfl;have k4:g0.cell? ⟨g,4,none⟩=some (.i p.r.k.base):=z0.cell 4;have HP:=kp (Dj (p.r.done D n) g0 (by have:=m.c.nodes; exact⟨by show _≤p.x.r.nodes; omega,by show p.x.r.nodes≤_; omega⟩));have J:=k'7 b3 d4 p0 l0 m0 j0 (show base≤g0.heap.size from aB H2.C (aB m1.size c11.size));clear j hu T Y y2 m2 U o3 l3 m1 O a2 c10 z0 c11 l4 e3 d4 b3 V o0 p0 l0 m0 j0 j2;go_wp2_with fail;refine mb' (HP.o) fun z1 j1=>?_;have y3:gM (p.r.done D n).x=gM p.x.r:=rfl;rw[y3];clear y3;have l5:wrap64 (n-p.r.k.base)=n-p.r.k.base:=by
   have h1:=m.c.log.1;change 0≤p.r.k.base∧p.r.k.base≤900000000 at h1;have h2:=m.d;have h3:=HN.o;have h4:=e0.a;unfold wrap64; omega
  have g8:¬8≤n-p.r.k.base:=by have:=e0.a; omega
  obtain⟨z,A⟩:=nm' (gM p.x.r);rw[A]at e0 ⊢;clear A;have d3:=J.a.post j1;have e4:=J.b.below j1;have E:=k'3 d3 e4 (aB J.G j1.size);clear d3 e4 j1 lr l9 g5 k7 f7 a5 j3 k4
  cases z
  .have k4:z1.cell? ⟨g,4,none⟩=some (.i p.r.k.base):=E.a.o.blk.cell 4;go_wp2_with fail;go_end0;refine⟨rfl,.of E.a ?_⟩;rw[←e0.B,aC (by decide),fS,←J.c];rfl
  .obtain⟨A5,c5,d5,-⟩:=E.b.sl fF;subst d5;have z2:=E.a.o.blk.cell 27;have z4:=E.a.o.blk.frozen 27;rw[zG]at z2;have q3:∀a∈I,∀u∈a.cells,u.oneCell'=true:=fun a ha=>nV (p:=a) (by rw[(J.e a ha).2]; rfl);go_wp2_with (at_builtin; refine mO (enc:=MgV.cells) z1 rfl (.tmp 77) (.tmp 78) 53 rfl base 48 zF aBW rfl (by omega) fF E.a.o.ms rfl (E.b.sl fF) rfl q3 ?_ ?_ E.C ?_)
   .have h1:=m.h; have h2:=J.f; unfold maxLen; show p.ms.length+I.length≤_; omega
   .have h1:=m.h; have h2:=J.f; show (p.ms.length+I.length)*208≤_; omega
   intro v7 w7 q2 e5 m3 o2;have c7:Chg (fun i=>p.mv.ownBlock=some i) z1 w7:=fZ m3;have ht:=E.a.o.told (.inl rfl) c7 q2 (fun x hx=>by
    rcases dF.1 hx with hx|hx
    .exact (E.a.o.mse x hx).chg_row E.a.o.ms c7 (by decide)
    .rw[(J.e x hx).1,(J.e x hx).2]; exact Ow.nil _ _ _ _ _)
   obtain⟨A8,c8,rfl,_,_⟩:=eD q2;rw[bB]at ht o2;have z2:=(E.a.o.blk.chg c7 (E.a.o.ms.ne_blk E.a.o.blk (by decide))).cell 27;have z4:=(E.a.o.blk.chg c7 (E.a.o.ms.ne_blk E.a.o.blk (by decide))).frozen 27;rw[zG]at z2;obtain⟨y4,b5⟩:∃W,w7.setCell ⟨g,27,none⟩ (.slice A8 (p.ms.length+I.length) c8)=W:=⟨_,rfl⟩
   have a1:aEG z1 (w7.setCell ⟨g,27,none⟩ (.slice A8 (p.ms.length+I.length) c8)) base g ⟨p.r.done D n,p.rs,p.rv,p.ms,p.mv⟩ ⟨p.r.done D n,p.rs,p.rv,p.ms++I,.slice A8 (p.ms.length+I.length) c8⟩ a0:=⟨ht.1,ht.2.mono fun i _ hi=>hi.imp id .inr,fun k K=>.inl K,o2⟩
   rw[b5]at a1;have k4:y4.cell? ⟨g,4,none⟩=some (.i p.r.k.base):=a1.o.blk.cell 4;have HG:=kp (E.a.trans a1);clear a1 ht q2 e5 m3 c7 q3 o2;go_wp2_with fail;go_end0;refine⟨rfl,.of HG.o ?_⟩;rw[←e0.B,aE rfl,←J.c,←J.d];unfold WkV.x;simp only[gC];rfl
 .exact⟨pv',pv',pv',pv',pv',pv',pv',pv',pv',pv',pv',pv',pv',pv',pv',pv',pv',pv',pv',pv',pv',pv',pv',pv',pv',pv',pv',pv',pv',pv',pv',pv',pv',fun _ _ _ _ _ h _=>h,fun _ _ _ _ _ h _=>h,fun _ _ _ _ _ h _=>h,fun _ _ _ _ _ h _=>h,fun _ _ _ _ _ h _=>h,fun _ _ _ _ _ h _=>h,fun _ _ _ _ _ h _=>h,trivial⟩
end
end Go.Proofs.YthalbagblhkeaaaGreat
