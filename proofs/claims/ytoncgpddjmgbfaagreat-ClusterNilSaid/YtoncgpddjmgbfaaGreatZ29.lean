import Derived.Test.YtoncgpddjmgbfaaGreatZ27
import Derived.Test.YtoncgpddjmgbfaaGreatZ28
namespace Go.Proofs.YtoncgpddjmgbfaaGreat
open Go.RowKit Go.Proofs.Tryz
set_option maxRecDepth 100000
set_option maxHeartbeats 12800000
set_option linter.unusedVariables false
set_option linter.unusedSimpArgs false
section
attribute [-go_sem] loadCellsFrom storeCells run_eql_struct run_neq_struct Instr.build
attribute [local go_sem] aX MgV.fold dA mZ
def exC(id view:Int)(q:StV)(mv:Value):List Value:=[.i id,.i view]++(q.cells++[mv])
structure ExO(W:World)(base g:Nat)(id view:Int)(q:StV)(qs:List ObV)(mv:Value)(l:List MgV):Prop where
 blk:Blk W g 236 (exC id view q mv)
 st:Ws W base q qs
 ms:Ow W base 75 23 mv MgV.cells l
 nil:∀x∈l,x.es=[]∧x.ev=.slice none 0 0
theorem ExO.below{W W':World}{base g:Nat}{id e:Int}{q:StV}{d:List ObV}{c:Value}{b:List MgV}(h:ExO W base g id e q d c b)(a:Bw' W W'):ExO W' base g id e q d c b:=⟨h.blk.grow a,h.st.below a,h.ms.below a,h.nil⟩
theorem Kh(id b:Int)(q:StV)(a:Value):(exC id b q a)[11]? =some a:=rfl
def vJ(id view:Int)(e:En)(c d:Int):MgV:=⟨2,id,-e.c,view,0,0,0,0,[],.slice none 0 0,0,0,⟨#[]⟩,e.s,dU,c,d,true⟩
theorem Zd(id a n s c d:Int)(w:World):(Instr.build 75 #[(0,.i 2),(1,.i id),(2,.i n),(3,.i a),(12,.i s),(14,.agg #[.i c,.i d]),(15,.bool true)]).run prog w=.ok (.agg (MgV.cells ⟨2,id,n,a,0,0,0,0,[],.slice none 0 0,0,0,⟨#[]⟩,s,dU,c,d,true⟩).toArray) w:=run_build w _ _ _ (by kernel_rfl)
def yN(Wa:World)(R:St×Int×Int)(z:Value)(W:World):Prop:=∃q qs,z=.tuple #[.agg q.cells.toArray,.agg #[.i R.2.1,.i R.2.2]]∧q.x=R.1∧Ws W Wa.heap.size q qs
theorem yN.stab(Wa:World)(R:St×Int×Int):jU 43 (yN Wa R):=
 ⟨fun _ _ _ ⟨q,c,e,b,h⟩ d=>⟨q,c,e,b,h.below d⟩,fun _ W a _ cs' ⟨q,c,e,b,h⟩ f=>⟨q,c,e,b,h.chg f ((Chg.refl (fun i=>i=a) W).setRow (.inr rfl) cs') (by decide) (by decide) (by decide) (by decide)⟩⟩
def Ze(c d:Int)(v:Value)(_:World):Prop:=v=.agg #[.i c,.i d]
theorem Zf{x:En}(h:dQ x=true):0≤x.c∧x.c≤4:=by
 unfold dQ at h
 by_cases a:x.c=0
 .omega
 .rw[aF a]at h;unfold aG at h;simp only[bH,bR]at h;omega
theorem Zg{g base:Nat}(id C:Int)(q:StV)(qs:List ObV)(E:Value)(A:List MgV)(x:En)(w:World)(h:ExO w base g id C q qs E A)(I:base≤w.heap.size)(hg:base≤g)(hq:stB q.x=true)(hm:dQ x=true)(hn:A.length≤5000):
  Calls prog 150 #[.pointer (some ⟨g,0,none⟩),.agg x.cells.toArray] w fun e w'=>e=.returned (.tuple #[])∧∃q' F l3 l,ExO w' base g id C q' F l3 (A++l)∧q'.x=(eE q.x x).1∧l=(if x.c=0 then [] else [vJ id C x (eE q.x x).2.1 (eE q.x x).2.2])∧Below base w w':=by
 obtain⟨J,y3,x1,b1,z1⟩:=par w 122 x.cells;have HD:=kp (show Bw' J J.drew from bL (aH _ _));have r:=k'a (h.below b1) x1 b1 (aB I b1.size) hn hg h.blk.lt (fun i hi=>(h.ms.lt (i:=i) hi).2) I hm;have g1:=kp (fun(W:World)(u:Bw' J W)=>Ck q qs x W.heap.size W ((h.below (b1.on u)).st.st) (aN _) hq hm);obtain⟨R,hR⟩:=nm' (eE q.x x);rw[hR]at g1 ⊢;obtain⟨L0,m0⟩:∃L0,(if x.c=0 then [] else [vJ id C x R.2.1 R.2.2])=L0:=⟨_,rfl⟩
 rw[m0];have j1:=kp m0;have d4:wrap64 (-x.c)= -x.c:=by have:=Zf hm; unfold wrap64; omega
 clear x1 b1 z1 h I hg hq hm hn hR m0;go_enter func150,ntmps150;go_wp2_with fail;have d0:=kp (yN.stab J.drew R);refine eY 12 (CAl J.drew 43 iU 73 [.i 0,.i 0] (yN J.drew R) mE 5 6 7 9 10 11) (fun _=>eQ) (by kernel_rfl) (by kernel_rfl) CAl.start ?_
 iterate 5 (refine bE ?_; apply Exists.intro)
 iterate 3 (refine bJ dV ?_)
 refine bJ (Ze R.2.1 R.2.2) ?_
 iterate 3 (refine bJ dV ?_)
 refine cC ⟨?_,?_⟩
 rotate_left
 .iterate 5
   apply bQ (by kernel_rfl) (by intro t w h; cases h; exact trivial) rfl
   .intro X W' j H T D m;have hB:=HD.o.on j.bel;have l6:=(r.a.blk.grow hB).loadOff (P:=prog) 2 9 q.cells rfl rfl;have l4:=(r.b.grow hB).load (P:=prog) (k:=11) rfl;clear hB;go_wp2_with fail;exact⟨rfl,_,rfl,j.other (by decide),aV,rfl⟩
   simp only[Act.put,aE,aC,aD,aS,aT]
  refine⟨fun X W' j H T D m=>?_,fun u6=>?_⟩
  .go_wp2_with fail;refine (g1.o W' (HD.o.on j.bel)).mono ?_;rintro e g4 ⟨q',F,rfl,g0,Z,p2⟩;have M:=j.doCall d0.o H p2 ⟨q',F,rfl,g0,Z.mono j.bel.size⟩ (by decide);go_wp2_with fail;exact⟨rfl,_,rfl,M,aV,trivial⟩
  simp only[Act.put,aE,aC,aD,aS,aT];refine⟨fun X W' j H T D m=>?_,fun u7=>?_⟩
  .have h6:X 5=some u6:=D 5 12 u6 (by kernel_rfl) (by kernel_rfl) (bO (by kernel_rfl)) rfl;go_wp2_with fail;exact⟨rfl,_,rfl,j.doMv h6 (by decide),aV,trivial⟩
  simp only[Act.put,aE,aC,aD,aS,aT];refine⟨fun X W' j H T D m=>?_,fun u8=>?_⟩
  .have h7:X 6=some u7:=D 6 6 u7 (by kernel_rfl) (by kernel_rfl) (bO (by kernel_rfl)) rfl;have h6:=j.mv _ h7;obtain⟨q',F,rfl,-⟩:=j.call _ h6;have M:=j.doExt H h6 ⟨_,rfl⟩ (by decide);clear h6 h7;go_wp2_with fail;exact⟨rfl,_,rfl,M,aV,trivial⟩
  simp only[Act.put,aE,aC,aD,aS,aT];refine⟨fun X W' j H T D m=>?_,fun u9=>?_⟩
  .have h7:X 6=some u7:=D 6 6 u7 (by kernel_rfl) (by kernel_rfl) (bO (by kernel_rfl)) rfl;obtain⟨q',F,rfl,-⟩:=j.call _ (j.mv _ h7);clear h7;go_wp2_with fail;exact⟨rfl,_,rfl,j.other (by decide),aV,rfl⟩
  simp only[Act.put,aE,aC,aD,aS,aT];refine⟨fun X W' j H T D m=>?_,fun a1=>?_⟩
  .have M:=j.doAlloc d0.o H (by decide);go_wp2_with fail;exact⟨rfl,_,rfl,M,aV,trivial⟩
  simp only[Act.put,aE,aC,aD,aS,aT];refine⟨fun X W' j H T D m=>?_,fun o3=>?_⟩
  .have M:=j.doAlloc2 d0.o (by decide);go_wp2_with fail;exact⟨rfl,_,rfl,M,aV,trivial⟩
  simp only[Act.put,aE,aC,aD,aS,aT];refine⟨fun X W' j H T D m=>?_,fun p3=>?_⟩
  .have l0:X 9=some a1:=D 9 4 a1 (by kernel_rfl) (by kernel_rfl) (bO (by kernel_rfl)) rfl;have h8:X 7=some u8:=D 7 13 u8 (by kernel_rfl) (by kernel_rfl) (bO (by kernel_rfl)) rfl;obtain⟨u,hu,y,O⟩:=j.ext _ h8;obtain⟨q',F,Q,-,Z⟩:=j.call _ hu;rw[O]at Q;obtain⟨rfl,-⟩:u8=.agg q'.cells.toArray∧y=.agg #[.i R.2.1,.i R.2.2]:=by simpa using Q
   obtain⟨a,cs,rfl,-⟩:=j.al _ l0;obtain⟨hk,M⟩:=j.doStore (u:=undef) d0.o (by decide) H l0 h8 (by decide);have e4:=hk.store (P:=prog) (cs':=q'.cells) rfl (StV.one Z.st);clear hk O Q hu h8 l0;go_wp2_with fail;exact⟨rfl,undef,rfl,M,aV,trivial⟩
  simp only[Act.put,aS,aT];intro W9 j m;have L:u9=.agg #[.i R.2.1,.i R.2.2]:=m 14;clear m;simp only[bS,bU];subst L;obtain⟨u,hu,y,O⟩:=j.ext u8 rfl;obtain⟨q',F,Q,g0,Z⟩:=j.call _ hu;rw[O]at Q;obtain⟨rfl,-⟩:u8=.agg q'.cells.toArray∧y=.agg #[.i R.2.1,.i R.2.2]:=by simpa using Q
  obtain⟨a,cs,rfl,a3,o0,-,a2⟩:=j.al a1 rfl;obtain rfl:q'.cells=cs:=by have:=a2 p3 rfl; simpa using this
  obtain⟨Y,rfl,q0,b0⟩:=j.al2 o3 rfl;have y1:=HD.o.on j.bel;have j2:=cG.store b0 R.2.1 R.2.2;have c13:=(Chg.refl (fun i=>i=Y) W9).setRow (.inr rfl) #[.i R.2.1,.i R.2.2];have y0:=o0.chg c13 (o0.ne b0 (by decide));have j0:=Z.chg b0 c13 (by decide) (by decide) (by decide) (by decide);have z0:Blk (W9.setRow Y #[.i R.2.1,.i R.2.2]) Y 73 [.i R.2.1,.i R.2.2]:=b0.set [.i R.2.1,.i R.2.2];have p0:J.heap.size≤J.drew.heap.size:=HD.o.size;have N:Bw' J (W9.setRow Y #[.i R.2.1,.i R.2.2]):=eU y1 (aB p0 q0) _;obtain⟨q3,p1⟩:∃W,W9.setRow Y #[.i R.2.1,.i R.2.2]=W:=⟨_,rfl⟩
  rw[p1]at j2 y0 j0 z0 N;have j3:=y0.load (P:=prog) (k:=9) rfl;have a0:=r.a.below N;have m2:=r.b.grow N;obtain⟨V,o2,m3,o1,c14⟩:=a0.blk.off 2 q'.cells (exC id C q' E) rfl (by show 2+9≤12; decide) (StV.one j0.st);have z2:g<J.heap.size:=cY r.g r.c.size;have b2:¬(Y=g):=by omega
  have na:¬(w.heap.size=g):=by have:=r.g; omega
  have d1:=m2.chg c14 na;have g2:=z0.chg c14 b2;have d2:=a0.ms.chg_blk a0.blk c14 (by decide);have l2:Ws V base q' F:=(j0.mono (aB r.d p0)).chg a0.blk c14 (by decide) (by decide) (by decide) (by decide);have m1:Below base w V:=(r.c.on N|>.mono r.i).trans (c14.below (B:=base) (fun i hi=>by have:=r.f; omega) (aB r.d N.size));have k2:V.cell? ⟨w.heap.size,2,none⟩=some (.i x.c):=d1.cell 2;have n:=k'7 (show ExO V base g id C q' F E A from⟨o1,l2,d2,r.a.nil⟩) d1 g2 m1 g0 (aB r.d (aB N.size c14.size)) q0;clear j O Q hu a3 o0 a2 b0 y1 c13 y0 j0 z0 N a0 m2 o1 c14 z2 d1 g2 d2 l2 m1 Z g0 p0 b2 na q0
  by_cases K:x.c=0
  .have e3:(x.c != 0)=false:=by simp[K]
   have HE:=kp (show ([]:List MgV)=L0 by rw[←j1.o,aK K]);clear K;go_wp2_with fail;go_end0;exact⟨rfl,q',F,E,[],by rw[fG]; exact n.a,n.e,HE.o,n.d⟩
  have e3:(x.c != 0)=true:=by simp[K]
  have HE:=kp (show [vJ id C x R.2.1 R.2.2]=L0 by rw[←j1.o,aF K]);clear K;go_wp2_with fail;clear k2 e3 j2 j3 m3 o2 p1;obtain⟨z,e0⟩:=nm' (vJ id C x R.2.1 R.2.2);rw[e0]at HE;have q2:∀w:World,(Instr.build 75 #[(0,.i 2),(1,.i id),(2,.i (-x.c)),(3,.i C),(12,.i x.s),(14,.agg #[.i R.2.1,.i R.2.2]),(15,.bool true)]).run prog w=.ok (.agg z.cells.toArray) w:=fun w=>e0▸Zd id C (-x.c) x.s R.2.1 R.2.2 w;have l1:=kp (show z.es=[]∧z.ev=.slice none 0 0 from e0▸⟨rfl,rfl⟩);clear e0;have G:=kp (fun W(j:Chg (fun i=>E.ownBlock=some i) V W∧Ow W base 75 23 E MgV.cells A)=>fR (n.a.blk.chg j.1 (n.a.ms.ne_blk n.a.blk (by decide))) (fR (n.b.chg j.1 (n.a.ms.ne_blk n.b (by decide))) (n.c.chg j.1 (n.a.ms.ne_blk n.c (by decide)))));refine fM 24 (fun W=>Chg (fun i=>E.ownBlock=some i) V W∧Ow W base 75 23 E MgV.cells A) (jJ 21 fun i=>E.ownBlock=some i) (by kernel_rfl) (by kernel_rfl) ⟨(Chg.refl _ _).drew,n.a.ms.below (bL (aH _ _))⟩ ?_
  iterate 20 (refine bE ?_; apply Exists.intro)
  refine bJ (fun u W=>∃b,u=.slice (some ⟨b,0,none⟩) 1 1∧(b<W.heap.size∧E.ownBlock≠some b)∧Sl W (b+1) u MgV.cells [z]) ?_;refine bJ (fun u W=>Ow W base 75 23 u MgV.cells (A++[z])) ?_
  iterate 2 (refine bE ?_; apply Exists.intro)
  refine cC ⟨?pers,?walk⟩
  case walk=>
   iterate 4
    apply bB (by kernel_rfl) (by intro t w h; cases h; exact trivial) rfl
    .intro W j m; go_wp2_with fail;exact⟨rfl,_,rfl,j,cN (by decide) (aH _ _),rfl⟩
    simp only[Act.put,aE,aC,aD]
   apply bB (by kernel_rfl) (by intro t w h; cases h; exact trivial) rfl
   .intro W j m; have U:=(G.o W j).1.cell 11; rw[Kh]at U; go_wp2_with fail;exact⟨rfl,_,rfl,j,cN (by decide) (aH _ _),rfl⟩
   simp only[Act.put,aE,aC,aD]
   iterate 3
    apply bB (by kernel_rfl) (by intro t w h; cases h; exact trivial) rfl
    .intro W j m; go_wp2_with fail;exact⟨rfl,_,rfl,j,cN (by decide) (aH _ _),rfl⟩
    simp only[Act.put,aE,aC,aD]
   apply bB (by kernel_rfl) (by intro t w h; cases h; exact trivial) rfl
   .intro W j m; have U:W.cell? ⟨g,0,none⟩=some (.i id):=(G.o W j).1.cell 0; go_wp2_with fail;exact⟨rfl,_,rfl,j,cN (by decide) (aH _ _),rfl⟩
   simp only[Act.put,aE,aC,aD];apply bB (by kernel_rfl) (by intro t w h; cases h; exact trivial) rfl
   .intro W j m; go_wp2_with fail;exact⟨rfl,_,rfl,j,cN (by decide) (aH _ _),rfl⟩
   simp only[Act.put,aE,aC,aD];apply bB (by kernel_rfl) (by intro t w h; cases h; exact trivial) rfl
   .intro W j m; have U:W.cell? ⟨w.heap.size,2,none⟩=some (.i x.c):=(G.o W j).2.1.cell 2; go_wp2_with fail;exact⟨rfl,_,rfl,j,cN (by decide) (aH _ _),rfl⟩
   simp only[Act.put,aE,aC,aD]
   iterate 4
    apply bB (by kernel_rfl) (by intro t w h; cases h; exact trivial) rfl
    .intro W j m; go_wp2_with fail;exact⟨rfl,_,rfl,j,cN (by decide) (aH _ _),rfl⟩
    simp only[Act.put,aE,aC,aD]
   apply bB (by kernel_rfl) (by intro t w h; cases h; exact trivial) rfl
   .intro W j m; have U:W.cell? ⟨g,1,none⟩=some (.i C):=(G.o W j).1.cell 1; go_wp2_with fail;exact⟨rfl,_,rfl,j,cN (by decide) (aH _ _),rfl⟩
   simp only[Act.put,aE,aC,aD];apply bB (by kernel_rfl) (by intro t w h; cases h; exact trivial) rfl
   .intro W j m; go_wp2_with fail;exact⟨rfl,_,rfl,j,cN (by decide) (aH _ _),rfl⟩
   simp only[Act.put,aE,aC,aD];apply bB (by kernel_rfl) (by intro t w h; cases h; exact trivial) rfl
   .intro W j m; have U:W.cell? ⟨w.heap.size,3,none⟩=some (.i x.s):=(G.o W j).2.1.cell 3; go_wp2_with fail;exact⟨rfl,_,rfl,j,cN (by decide) (aH _ _),rfl⟩
   simp only[Act.put,aE,aC,aD];apply bB (by kernel_rfl) (by intro t w h; cases h; exact trivial) rfl
   .intro W j m; have U:=(G.o W j).2.2.load (P:=prog) (k:=2) rfl; go_wp2_with fail;exact⟨rfl,_,rfl,j,cN (by decide) (aH _ _),rfl⟩
   simp only[Act.put,aE,aC,aD];apply bB (by kernel_rfl) (by intro t w h; cases h; exact trivial) rfl
   .intro W j m; have U:=q2 W; go_wp2_with fail;exact⟨rfl,_,rfl,j,cN (by decide) (aH _ _),rfl⟩
   simp only[Act.put,aE,aC,aD];refine⟨fun W j m=>?_,fun u7=>?_⟩
   .go_wp2_with fail;have hs:=gG (enc:=MgV.cells) W 75 z;have K:=fR (j.1.alloc (.cells z.cells.toArray 75)) (j.2.alloc (.cells z.cells.toArray 75));have L:=cN (e:=21) (k:=20) (S:=fun i=>E.ownBlock=some i) (by decide) (ba' W (.cells z.cells.toArray 75));have I:W.heap.size<(W.alloc (.cells z.cells.toArray 75)).heap.size:=by simp
    have hn:¬E.ownBlock=some W.heap.size:=fun O=>by have:=(j.2.lt O).2; omega
    generalize W.alloc (.cells z.cells.toArray 75)=W' at hs K L I ⊢;exact⟨rfl,_,rfl,K,L,_,rfl,⟨I,hn⟩,hs⟩
   simp only[Act.put,aE,aC,aD];refine⟨fun W j m=>?_,fun u8=>?_⟩
   .have f7:=m 42 (bO (by kernel_rfl));obtain⟨b,rfl,z3,g3⟩:=f7;have y2:base≤W.heap.size:=aB n.f j.1.size;go_wp2_with (at_builtin; refine jD (enc:=MgV.cells) W rfl (.tmp 26) (.tmp 42) 58 rfl base 75 sW rZ rfl (by omega) dA j.2 rfl g3 rfl (fun a ha=>by rw[bZ.1 ha]; exact fD (p:=z) (by rw[l1.B]; rfl)) ?_ ?_ y2 ?_)
    .have:=r.e; unfold maxLen; show A.length+1≤_; omega
    .have:=r.e; show (A.length+1)*208≤_; omega
    intro v' W3 ho d3 hg a4;exact⟨rfl,_,rfl,⟨j.1.trans (eX hg) (fun _ _ h=>h),d3⟩,pA (eX hg),ho⟩
   simp only[Act.put,aE,aC,aD]
   iterate 2
    apply bB (by kernel_rfl) (by intro t w h; cases h; exact trivial) rfl
    .intro W j m; go_wp2_with fail;exact⟨rfl,_,rfl,j,cN (by decide) (aH _ _),rfl⟩
    simp only[Act.put,aE,aC,aD]
   intro W j m;have f8:=m 43;have q:=(G.o W j).1.cell 11;have qf:=(G.o W j).1.frozen 11;rw[Kh]at q;obtain⟨A8,c8,rfl,_,_⟩:=dO f8;rw[bF,lH]at f8;have y9:Blk (W.setCell ⟨g,11,none⟩ (.slice A8 (A.length+1) c8)) g 236 (exC id C q' (.slice A8 (A.length+1) c8)):=(G.o W j).1.setCell 11 _;have c9:=(Chg.refl (fun i=>i=g) W).setCell (.inr rfl) 11 (.slice A8 (A.length+1) c8);have o9:=f8.chg_blk (G.o W j).1 c9 (by decide);have w9:=(n.a.st.chg_row n.a.ms j.1 (by decide) (by decide) (by decide) (by decide)).chg (G.o W j).1 c9 (by decide) (by decide) (by decide) (by decide);have q1:Below base w (W.setCell ⟨g,11,none⟩ (.slice A8 (A.length+1) c8)):=(n.d.trans (j.1.below (B:=base) (fun i hi=>(n.a.ms.lt hi).1) n.f)).trans (c9.below (B:=base) (fun i hi=>by have:=r.f; omega) (aB n.f j.1.size));have HF:=k'2 (show ExO _ base g id C q' F _ (A++[z]) from⟨y9,w9,o9,fun y hy=>by
    rcases cV.1 hy with hy|hy
    .exact r.a.nil y hy
    .rw[bZ.1 hy]; exact l1.o⟩) q1
   clear m j f8 y9 c9 o9 w9 q1;go_wp2_with fail;go_end0;exact⟨rfl,q',F,_,[z],HF.a,n.e,HE.o,HF.B⟩
  case pers=>
   refine⟨pv',pv',pv',pv',pv',pv',pv',pv',pv',pv',pv',pv',pv',pv',pv',pv',pv',pv',pv',pv',?_,?_,pv',pv',trivial⟩
   .rintro i u W W' _ ⟨b,rfl,I,hs⟩ L;exact⟨b,rfl,⟨cY I.1 (lQ L).size,I.2⟩,sP hs (lQ L) I.2 I.1⟩
   .rintro i u W W' b3 h1 L;exact h1.below (pB L b3)
 .exact⟨pv',pv',pv',pv',pv',fun _ _ _ _ _ h _=>h,fun _ _ _ _ _ h _=>h,fun _ _ _ _ _ h _=>h,fun _ _ _ _ _ h _=>h,fun _ _ _ _ _ h _=>h,fun _ _ _ _ _ h _=>h,fun _ _ _ _ _ h _=>h,trivial⟩
end
section
attribute [-go_sem] loadCellsFrom storeCells run_eql_struct run_neq_struct Instr.build
attribute [local go_sem] aX mZ
theorem Cw(id b:Int):∀(l:List En)(s:St)(e:En),gI id b s (l++[e])=((eE (gI id b s l).1 e).1,(gI id b s l).2++(if e.c=0 then [] else [vJ id b e (eE (gI id b s l).1 e).2.1 (eE (gI id b s l).1 e).2.2]).map (·.x))
 |[],s,e=>by
  show ((eE s e).1,(if e.c=0 then [] else _)++[])=_;rw[fG]
  by_cases h:e.c=0<;>simp[gI,h]<;>rfl
 |a::l,s,e=>by
  show ((gI id b (eE s a).1 (l++[e])).1,_++(gI id b (eE s a).1 (l++[e])).2)=_;rw[Cw id b l];show _=(_,(_++_)++_);rw[cH];rfl
structure rC(t:TypeId)(W0:World)(a:Nat)(cs:List Value)(X:Nat→Option Value)(W:World):Prop where
 c:Chg (fun i=>i=a) W0 W
 b:∃ds,Blk W a t ds∧ds.length=cs.length∧∀s,X 8=some s→ds=cs
section
variable {t:TypeId}{W0 W:World}{a:Nat}{cs:List Value}{X:Nat→Option Value}
theorem rC.other{j:Nat}{u:Value}(h:rC t W0 a cs X W)(g:8≠j):rC t W0 a cs (aY X j u) W:=
 ⟨h.c,h.b.imp fun _ ⟨d,e,f⟩=>⟨d,e,by rw[aI g]; exact f⟩⟩
theorem rC.put{u:Value}(h:rC t W0 a cs X W):rC t W0 a cs (aY X 8 u) (W.setRow a cs.toArray):=by
 obtain⟨e,d,-,-⟩:=h.b;exact⟨h.c.trans ((Chg.refl (fun i=>i=a) W).setRow (.inr rfl) _) fun _ _ h=>h,cs,d.set cs,rfl,fun _ _=>rfl⟩
end
def pL:En:=⟨1,0,0,0,0,0,0,0,0,0,0⟩
theorem Zh(w:World):(Instr.build 122 #[(0,.i 1)]).run prog w=.ok (.agg pL.cells.toArray) w:=run_build w _ _ _ (by kernel_rfl)
theorem Zi(id a:Int)(q:StV)(w:World):(Instr.build 236 #[(0,.i id),(1,.i a),(2,.agg q.cells.toArray)]).run prog w=.ok (.agg (exC id a q (.slice none 0 0)).toArray) w:=run_build w _ _ _ (by kernel_rfl)
attribute [local go_sem] Zh Zi
def Zj(w:World)(R:St×List Mg)(n:Nat)(e:Ending)(w':World):Prop:=∃q qs mv ms,e=.returned (.tuple #[.agg q.cells.toArray,mv])∧q.x=R.1∧ms.map (·.x)=R.2∧Ws w' w.heap.size q qs∧Ow w' w.heap.size 75 23 mv MgV.cells ms∧(∀x∈ms,x.es=[]∧x.ev=.slice none 0 0)∧ms.length≤n∧Bw' w w'
structure ExI(base:Nat)(w0 W:World)(g:Nat)(id view:Int)(s:St)(l:List En)(q:StV)(qs:List ObV)(mv:Value)(ms:List MgV):Prop where
 o:ExO W base g id view q qs mv ms
 b:Below base w0 W
 x:q.x=(gI id view s l).1
 m:ms.map (·.x)=(gI id view s l).2
 s:stB q.x=true∧stR q.x
 n:ms.length≤l.length
theorem Zk(id L:Int)(p:StV)(ps:List ObV)(v:Value)(l:List En)(B:Nat)(w:World)(h:gW w B p ps)(hv:Sl w B v En.cells l)(Z:B≤w.heap.size)(H:stB p.x=true)(hr:stR p.x)(hl:l.length≤4000)(hm:∀e∈l,dQ e=true∧inR e.u):
  Calls prog 107 #[.i id,.i L,.agg p.cells.toArray,v] w (Zj w (gI id L p.x l) l.length):=by
 obtain⟨W1,d3,x1,b1,z1⟩:=par w 43 p.cells;obtain⟨W2,d1,x2,b2,z2⟩:=par W1 43 iU;unfold iU at d1;have U:=b1.on b2;have Y:=h.below U Z;have g2:=Sl.below hv U Z;have N:=aB Z U.size;have hH:=gE.1 (jR.1 H).1;have hs:=SmO.ok Y.1 hH;have p3:p.rows.length≤4:=by have:=qR (jR.1 H).2 (by omega); have e:p.x.rows=p.rows:=rfl; rw[e]at this; omega
 have y2:=kp (by have:=yF p ps B W2 Y N (by have:=hs.obs; omega) (by have:=hs.free; omega) (by omega); rw[H,show dG 60 true=0 from rfl]at this; exact this);have g1:(l.any fun e=> !dQ e)=false:=by
  rw[pT];intro e he;rw[(hm e he).1];decide
 have a3:=kp (fun(W:World)(u:Bw' W2 W)=>by
  have:=Ct v l (fun e=> !dQ e) 149 #[] B W (Sl.below g2 u N) (aB N u.size) (by omega) (enters_of func149 (by kernel_rfl) rfl) fun W' x _ _=>Kc.2 x W';rw[g1]at this;exact this)
 have p2:=kp (fun(W:World)(u:Bw' W2 W)=>by
  have:=Ck p ps pL B W (Y.below u N) (aB N u.size) H (by decide);rw[show eE p.x pL=(p.x,0,0) by unfold eE; rw[aK (show pL.c=0 from rfl)]]at this;exact this)
 have r:=k'a (x1.grow b2) x2 U z1 hv Z H hr hl hm;have l0:=(x1.grow b2).load (P:=prog) (k:=9) rfl;clear x1 x2 b1 b2 z1 z2 U Y g2 N hH hs p3 g1 h hv Z H hr hl hm;go_enter func107,ntmps107;go_wp2_with fail;refine mb' (y2.o) fun w3 m1=>?_;have z0:=kp m1;clear m1 l0;go_wp2_with fail;refine mb' (a3.o w3 z0.o) fun D o1=>?_;have R:=kp (z0.o.on o1);have l4:=(r.a.grow R.o).load (P:=prog) (k:=9) rfl;clear o1;go_wp2_with fail;refine (p2.o D R.o).mono ?_;rintro e w5 ⟨K,m2,rfl,j0,o0,e0⟩;have a0:=kp (R.o.on e0);have y0:=r.c.on a0.o;obtain⟨E,e3,s6,x6,c6⟩:=(r.a.grow a0.o).put K.cells rfl (StV.one o0.st);have l6:=x6.load (P:=prog) (k:=9) rfl;have o2:Ws E D.heap.size K m2:=o0.chg (r.a.grow a0.o) c6 (by decide) (by decide) (by decide) (by decide);have b6:Bw' w E:=y0.trans (c6.below (B:=w.heap.size) (fun i hi=>by omega) y0.size);have y6:=(r.b.grow a0.o).chg c6 (by have:=r.d; omega);obtain⟨T,j3,x7,V,z7⟩:=par E 236 (exC id L K (.slice none 0 0));have a1:D.heap.size≤E.heap.size:=aB e0.size c6.size;have HI:=kp (show ExI D.heap.size T T E.heap.size id L p.x [] K m2 (.slice none 0 0) [] from⟨⟨x7,o2.below V,Ow.nil _ _ _ _ _,fun _ h=>(nomatch h)⟩,aH _ _,j0,rfl,by rw[show K.x=p.x from j0]; exact⟨r.g,r.h⟩,dJ _⟩);have y:=k'6 (y6.grow V) (show W1.heap.size<D.heap.size from cY r.b.lt R.o.size) (b6.on V) a1 z7 (show w.heap.size≤D.heap.size from aB r.c.size R.o.size);have q3:Sl T B v En.cells l:=Sl.below r.e (b6.on V) r.f;obtain⟨A,c,rfl,y1,-,-⟩:=q3;obtain⟨n,d0⟩:=nm' l.length;rw[d0];have a4:n≤4000:=d0▸r.i;have S:=k'3 y1 d0 (show B≤D.heap.size from aB r.f y.F);clear e0 o0 j0 y0 x6 c6 o2 b6 y6 x7 V z7 a1 y1 d0 l4;go_wp2_with fail;clear s6 l6 e3 j3 d3 d1
 go_loopw [37] (fun i wr=>∃k:Nat,k≤n∧i=.i k∧∃q qs Q G,ExI D.heap.size T wr E.heap.size id L p.x (l.take k) q qs Q G) (fun i _=>n-(intOf i).toNat)
 case atStart=>exact⟨0,by omega,rfl,_,_,_,_,HI.o⟩
 case round=>
  obtain⟨k,hk,rfl,q,qs,Q,G,hI⟩:=hrel;have j:=kp hI;clear hI;have a2:D.heap.size≤wr.heap.size:=aB (dK (Nat.lt_of_le_of_lt y.d y.e)) j.o.b.size
  by_cases m3:k<n
  .have g3:(k:Int)<(n:Int):=by omega
   have b0:k<l.length:=by have:=S.b; omega
   obtain⟨b,d4,rfl,-,-,p1⟩:=iS (P:=prog) 11 En.cells eM (by omega) (S.a.below j.o.b S.C) k b0;have K:=p1 0;change Sem.run _ _ wr=.ok _ wr at K;have M:=k'2 (fE b0) (r.J _ (cU b0));clear p1;generalize l[k]'b0=x at *;obtain⟨W8,l3,s8,x8,dH,-⟩:=eJ wr 122 z'3 x.cells rfl (kV x);have l8:=x8.load (P:=prog) (k:=11) rfl;have o3:G.length≤4000:=by have h1:=j.o.n; have Y:=r.i; rw[cL]at h1; omega
   have b3:=kp (Zg id L q qs Q G x W8 (j.o.o.below dH) (aB a2 dH.size) y.d j.o.s.1 M.b (by omega));have q2:=kp dH;clear x8 dH o3 a2;go_wp2_with fail;refine (b3.o).mono ?_;rintro e w9 ⟨rfl,q',z3,y3,l',q1,p0,g0,j1⟩;have HN:=kp (show ExI D.heap.size T w9 E.heap.size id L p.x (l.take (k+1)) q' z3 y3 (G++l') from
    ⟨q1,(j.o.b.trans (q2.o.mono (aB (dK (Nat.lt_of_le_of_lt y.d y.e)) j.o.b.size))).trans j1,by rw[M.a,Cw,←j.o.x]; exact p0,
     by rw[M.a,Cw,←j.o.x,fW,g0,j.o.m],
     by rw[show q'.x=(eE q.x x).1 from p0]; exact Gb j.o.s.1 j.o.s.2 M.b M.C,
     by rw[M.a,bF,bF,lH,g0]; have:=j.o.n; split; (· show G.length+0≤_; omega); (· show G.length+1≤_; omega)⟩)
   clear q1 p0 g0 j1 l8 s8 l3;go_wp2_with fail;go_roundw
   case rel=>exact⟨k+1,by omega,by go_num,_,_,_,_,HN.o⟩
   case measure=>simp[intOf]; omega
  .obtain rfl:k=n:=by omega
   have d2:l.take k=l:=eF (by have:=S.b; omega);rw[d2]at j;have I:=kp (show Bw' wr wr.drew from bL (aH _ _));have j2:Blk wr W1.heap.size 43 iU:=y.a.below j.o.b y.b;have HV:=kp j2;clear m3 d2 j2;go_wp2_with fail;refine eY 9 (rC 43 wr.drew W1.heap.size q.cells) (fun _=>eQ) (by kernel_rfl) (by kernel_rfl) ⟨Chg.refl _ _,iU,HV.o.grow I.o,rfl,fun _ h=>(nomatch h)⟩ ?_
   iterate 8 (refine bE ?_; apply Exists.intro)
   refine bJ dV ?_;refine cC ⟨?_,?_⟩
   rotate_left
   .iterate 8
     apply bQ (by kernel_rfl) (by intro t w h; cases h; exact trivial) rfl
     .intro X W' z hX hw hV O;have b:=(j.o.o.blk.grow I.o).chg z.c (by have:=y.o; omega);have l1:=b.loadOff (P:=prog) 2 9 q.cells rfl rfl;have l2:W'.cell? ⟨E.heap.size,11,none⟩=some Q:=b.cell 11;clear b;go_wp2_with fail;exact⟨rfl,_,rfl,z.other (by decide),aV,rfl⟩
     simp only[Act.put,aE,aC,aD,aS,aT]
    refine⟨fun X W' z hX hw hV O=>?_,fun u8=>?_⟩
    .obtain⟨ds,hb,hl,-⟩:=z.b;have s:=hb.store (P:=prog) (cs':=q.cells) hl.symm (StV.one j.o.o.st.st);have hp:=z.put (u:=undef);clear hb hl;go_wp2_with fail;exact⟨rfl,undef,rfl,hp,aV,trivial⟩
    simp only[Act.put,aS,aT];intro W9 z O;obtain⟨ds,hb,-,hd⟩:=z.b;obtain rfl:=hd u8 rfl;have l9:=hb.load (P:=prog) (k:=9) rfl;have m0:=HV.o.grow I.o;have O:=k'3 ((j.o.o.st.below I.o).chg m0 z.c (by decide) (by decide) (by decide) (by decide)) ((j.o.o.ms.below I.o).chg_blk m0 z.c (by decide)) (((y.c.trans (j.o.b.mono y.F)).on I.o).trans (z.c.below (B:=w.heap.size) (fun i hi=>by have:=r.d; have:=r.b.lt; omega) (((y.c.trans (j.o.b.mono y.F)).on I.o).size)));clear z hb hd m0;go_wp2_with fail;exact bI (v:=.tuple #[.agg q.cells.toArray,Q]) (by simp[results,results107,go_sem,l9]) rfl ⟨q,qs,Q,G,rfl,j.o.x,j.o.m,O.a.mono y.F,O.b.mono y.F,j.o.o.nil,S.b▸j.o.n,O.C⟩
   .exact⟨pv',pv',pv',pv',pv',pv',pv',pv',fun _ _ _ _ _ h _=>h,trivial⟩
end
section
attribute [-go_sem] loadCellsFrom storeCells run_eql_struct run_neq_struct Instr.build
attribute [local go_sem] aX
def pM(w w':World)(base g:Nat)(p:WkV)(q:Wp):Prop:=∃p' ps',Gn w w' base g p p' ps'∧p'.x=q
theorem pM.of{w a:World}{base g:Nat}{p p':WkV}{q:Wp}{ps':List ObV}(h:Gn w a base g p p' ps')(e:p'.x=q):pM w a base g p q:=⟨p',ps',h,e⟩
def yO(Wa:World)(R:St×List Mg)(z:Value)(W:World):Prop:=∃q qs mv ms,z=.tuple #[.agg q.cells.toArray,mv]∧q.x=R.1∧ms.map (·.x)=R.2∧Ws W Wa.heap.size q qs∧Ow W Wa.heap.size 75 23 mv MgV.cells ms∧(∀x∈ms,x.es=[]∧x.ev=.slice none 0 0)∧ms.length≤4000
theorem yO.stab(Wa:World)(R:St×List Mg):jU 43 (yO Wa R):=
 ⟨fun _ _ _ ⟨q,k,j,g,e,f,b,h,d,c⟩ l=>⟨q,k,j,g,e,f,b,h.below l,d.below l,c⟩,
  fun _ W a _ cs' ⟨q,k,j,g,e,f,b,h,d,c⟩ m=>⟨q,k,j,g,e,f,b,h.chg m ((Chg.refl (fun i=>i=a) W).setRow (.inr rfl) cs') (by decide) (by decide) (by decide) (by decide),d.chg_blk m ((Chg.refl (fun i=>i=a) W).setRow (.inr rfl) cs') (by decide),c⟩⟩
def tF(Wa:World)(l:List En)(z:Value)(W:World):Prop:=Ow W Wa.heap.size 122 11 z En.cells l
theorem tF.stab(Wa:World)(l:List En):jU 43 (tF Wa l):=
 ⟨fun _ _ _ h b=>Ow.below h b,fun _ W a _ cs' h c=>Ow.chg_blk h c ((Chg.refl (fun i=>i=a) W).setRow (.inr rfl) cs') (by decide)⟩
abbrev ReC(Wa:World)(R:St×List Mg):(Nat→Option Value)→World→Prop:=CAl Wa 43 iU 73 [] (yO Wa R) mE 34 35 36 38 1000 39
structure ReV(Wa:World)(R:St×List Mg)(l:List En)(X:Nat→Option Value)(W:World):Prop where
 c:ReC Wa R X W
 a:∀z,X 33=some z→tF Wa l z W
 e:∀z,X 37=some z→∃u y,X 34=some u∧u=.tuple #[y,z]
theorem ReV.step{Wa W W':World}{R:St×List Mg}{l:List En}{X:Nat→Option Value}{j:Nat}{u:Value}(h:ReV Wa R l X W)(m:ReC Wa R (aY X j u) W')(k:∀z,tF Wa l z W→tF Wa l z W')(f:33≠j)(g:37≠j)(i:34=j→X 34=none):ReV Wa R l (aY X j u) W':=by
 refine⟨m,fun z b=>k z (h.a z (by rw[aI f]at b; exact b)),fun z b=>?_⟩;rw[aI g]at b;obtain⟨o,y,c,n⟩:=h.e z b;refine⟨o,y,?_,n⟩
 by_cases d:34=j
 .rw[i d]at c; cases c
 .rw[aI d]; exact c
def RpV.done(r:RpV)(s:StV)(n:Int):RpV:=⟨r.id,r.nodes,r.k,n,s,r.timer,r.starts,r.sv,r.votes,r.vv,r.acks,r.av,r.part⟩
theorem Wp.reach_no{q r:Wp}{n:Int}(h:q.reach n=some r)(a:n≤q.r.commit∨q.r.k.last<n):q=r:=by
 unfold Wp.reach at h; rw[aK a]at h; exact Option.some.inj h
theorem Wp.reach_go{q r:Wp}{n:Int}(h:q.reach n=some r)(b:¬(n≤q.r.commit∨q.r.k.last<n)):n-q.r.k.base<8∧
  (⟨{q.r with st:=(gI q.r.id q.r.k.view q.r.st (kN q.r.k q.r.commit (n-q.r.commit))).1,commit:=n},q.rs,q.ms++if gO q.r=true then (gI q.r.id q.r.k.view q.r.st (kN q.r.k q.r.commit (n-q.r.commit))).2 else []⟩:Wp)=r:=by
 unfold Wp.reach at h; rw[aF b]at h
 by_cases a:8≤n-q.r.k.base
 .rw[aK a]at h; cases h
 .rw[aF a]at h; exact⟨by omega,Option.some.inj h⟩
theorem Zl{k:Kd}{a b:Int}{e:En}(h:e∈kN k a b):e∈k.es:=by
 unfold kN at h
 split at h
 .cases h
 .exact vW (rI h)
theorem Cx(k:Kd)(a b:Int):(kN k a b).length≤k.es.length:=by
 unfold kN
 split
 .exact dJ _
 .rw[cL,dM]; omega
theorem Ki{g base:Nat}(p:WkV)(ps:List ObV)(n:Int)(w:World)(q:Wp)(h:WkO w base g 101 [] p ps)(hb:base≤w.heap.size)(S:WpS p.x)(hc:p.r.k.base≤p.r.commit)(hr:stR p.r.s.x)(hn:inR n)(hq:p.x.reach n=some q)(p3:p.ms.length≤1000):
  Calls prog 68 #[.pointer (some ⟨g,0,none⟩),.i n] w fun e w'=>e=.returned (.tuple #[])∧pM w w' base g p q:=by
 have k7:w.cell? ⟨g,7,none⟩=some (.i p.r.commit):=h.blk.cell 7;have p2:=S.log;have a1:=kp (qU p ps w h p2.1 (by have:=p2.2.1; exact aB this (by decide)));obtain⟨la,T⟩:=nm' p.r.k.x.last;rw[T]at a1;have m:=k'9 h hb S hc hr hn hq p3 T;clear p2 h hb S hc hr hq p3
 by_cases g1:n≤p.r.commit
 .have HE:=kp (Wp.reach_no m.g (.inl g1));go_enter func68,ntmps68;go_wp2_with fail;exact bI (v:=.tuple #[]) (by simp[results,results68,go_sem]) rfl ⟨rfl,.of (Gn.refl m.a) HE.o⟩
 by_cases g2:la<n
 .have HE:=kp (Wp.reach_no m.g (.inr (by show p.r.k.x.last<n; rw[T]; exact g2)));clear T;go_enter func68,ntmps68;go_wp2_with fail;refine mb' (a1.o) fun L b0=>?_;go_wp2_with fail;exact bI (v:=.tuple #[]) (by simp[results,results68,go_sem]) rfl ⟨rfl,.of ((Gn.refl m.a).post b0) HE.o⟩
 have HE:=kp (Wp.reach_go m.g (by intro hh; rcases hh with hh|hh; exact g1 hh; exact g2 (by rw[←T]; exact hh)));have HN:=k'3 g1 g2 T;clear T;go_enter func68,ntmps68;go_wp2_with fail;refine mb' (a1.o) fun L b0=>?_;have h2:=m.a.below b0;have HD:=kp (show Bw' L L.drew from bL (aH _ _));have H2:=k'3 h2 b0 (aB m.b b0.size);clear h2 b0 k7 a1;go_wp2_with fail;clear g1 g2;obtain⟨l,hl⟩:=nm' (kN p.r.k.x p.r.commit (n-p.r.commit));obtain⟨R,hR⟩:=nm' (gI p.r.id p.r.k.view p.r.s.x l);have o1:=m.c.log;have m1:p.r.k.es.length≤4000:=o1.2.1;have m5:wrap64 (n-p.r.commit)=n-p.r.commit:=by
  have h1:0≤p.r.k.base:=o1.1.1;have h2:=m.d;have h3:=HN.o;have h4:p.r.k.x.last≤900000000:=m.c.top;unfold wrap64; omega
 have m4:=kp (fun(W:World)(u:Bw' L W)=>by
  have:=Za p.r.k p.r.commit (n-p.r.commit) W.heap.size W ((H2.a.below u).rep.es.sl eM) (aN _) m.c.kept m.c.kr m.c.img o1.1 m1 m.d (by have:=HN.o; omega) (by have:=HN.o; omega);rw[hl]at this;exact this)
 have p4:=kp (fun(W:World)(u:Bw' L W)(z:Value)(A:Sl W W.heap.size z En.cells l)=>by
  have:=Zk p.r.id p.r.k.view p.r.s ps z l W.heap.size W (H2.a.below u).rep.st.st A (aN _) m.c.st m.e (by rw[←hl]; exact aB (Cx _ _ _) m1) (fun e Q=>by
   rw[←hl]at Q;obtain⟨s,J⟩:=mW.1 m.c.kept;have hm:=Zl Q;exact⟨J.may e hm,(m.c.kr e hm).2.2.2.2.2.2.2.2.2.1⟩)
  rw[hR]at this;exact this)
 have q4:=kp (show l.length≤4000 by rw[←hl]; exact aB (Cx _ _ _) m1);have d0:=kp (show n-p.r.k.base<8∧(⟨{p.x.r with st:=R.1,commit:=n},p.x.rs,p.x.ms++if gO p.x.r=true then R.2 else []⟩:Wp)=q by
  have:=HE.o;rw[show kN p.x.r.k p.x.r.commit (n-p.x.r.commit)=l from hl,show gI p.x.r.id p.x.r.k.view p.x.r.st l=R from hR]at this;exact this)
 clear hl hR o1 m1 HE;have b1:=kp (yO.stab L.drew R);have a2:=kp (tF.stab L.drew l);refine eY 40 (ReV L.drew R l) (fun _=>eQ) (by kernel_rfl) (by kernel_rfl) ⟨CAl.start,fun _ h=>(nomatch h),fun _ h=>(nomatch h)⟩ ?_
 iterate 33 (refine bE ?_; apply Exists.intro)
 iterate 7 (refine bJ dV ?_)
 refine cC ⟨?_,?_⟩
 rotate_left
 .iterate 33
   apply bQ (by kernel_rfl) (by intro t w h; cases h; exact trivial) rfl
   .intro X W' j F hw E O;have hB:=HD.o.on j.c.bel;have b:=H2.a.blk.grow hB;have c0:W'.cell? ⟨g,0,none⟩=some (.i p.r.id):=b.cell 0;have c2:W'.cell? ⟨g,2,none⟩=some (.i p.r.k.view):=b.cell 2;have c7:W'.cell? ⟨g,7,none⟩=some (.i p.r.commit):=b.cell 7;have l1:=b.loadOff (P:=prog) 8 9 p.r.s.cells rfl rfl;have l2:=b.loadOff (P:=prog) 2 5 p.r.k.cells rfl rfl;clear b hB;go_wp2_with fail;exact⟨rfl,_,rfl,j.step (j.c.other (by decide)) (fun _ h=>h) (by decide) (by decide) (fun h=>absurd h (by decide)),aV,rfl⟩
   simp only[Act.put,aE,aC,aD,aS,aT]
  refine⟨fun X W' j F hw E O=>?_,fun p1=>?_⟩
  .go_wp2_with fail;refine (m4.o W' (HD.o.on j.c.bel)).mono ?_;rintro e j4 ⟨v,rfl,ho,a0⟩;have K:ReV L.drew R l (aY X 33 v) j4:=⟨(j.c.grow b1.o a0).other (by decide),fun z A=>by rw[fC]at A; cases A; exact ho.mono j.c.bel.size,fun z A=>by
    rw[aI (by decide)]at A;rw[aI (by decide)];exact j.e z A⟩
   clear ho a0;go_wp2_with fail;exact⟨rfl,_,rfl,K,aV,trivial⟩
  simp only[Act.put,aE,aC,aD,aS,aT];refine⟨fun X W' j F hw E O=>?_,fun g4=>?_⟩
  .have g3:X 33=some p1:=E 33 53 p1 (by kernel_rfl) (by kernel_rfl) (bO (by kernel_rfl)) rfl;have ha:=j.a _ g3;have z3:Sl W' W'.heap.size p1 En.cells l:=Ow.sl ha eM;have o4:=kp (p4.o W' (HD.o.on j.c.bel) p1 z3);clear ha z3 g3;go_wp2_with fail;refine (o4.o).mono ?_;rintro e j4 ⟨q',Z,Y,H,rfl,o0,j0,U,m0,l0,g0,a0⟩;have K:=j.step (j.c.doCall b1.o F a0 ⟨q',Z,Y,H,rfl,o0,j0,U.mono j.c.bel.size,m0.mono j.c.bel.size,l0,aB g0 q4.o⟩ (by decide)) (fun z A=>a2.o.grow _ _ _ A a0) (by decide) (by decide) (fun _=>F);clear o0 j0 U m0 l0 g0 a0;go_wp2_with fail;exact⟨rfl,_,rfl,K,aV,trivial⟩
  simp only[Act.put,aE,aC,aD,aS,aT];refine⟨fun X W' j F hw E O=>?_,fun q1=>?_⟩
  .have M:X 34=some g4:=E 34 54 g4 (by kernel_rfl) (by kernel_rfl) (bO (by kernel_rfl)) rfl;go_wp2_with fail;exact⟨rfl,_,rfl,j.step (j.c.doMv M (by decide)) (fun _ h=>h) (by decide) (by decide) (fun h=>absurd h (by decide)),aV,trivial⟩
  simp only[Act.put,aE,aC,aD,aS,aT];refine⟨fun X W' j F hw E O=>?_,fun p0=>?_⟩
  .have h7:X 35=some q1:=E 35 19 q1 (by kernel_rfl) (by kernel_rfl) (bO (by kernel_rfl)) rfl;have M:=j.c.mv _ h7;obtain⟨q',Z,Y,H,rfl,-⟩:=j.c.call _ M;have K:=j.step (j.c.doExt F M ⟨_,rfl⟩ (by decide)) (fun _ h=>h) (by decide) (by decide) (fun h=>absurd h (by decide));clear M h7;go_wp2_with fail;exact⟨rfl,_,rfl,K,aV,trivial⟩
  simp only[Act.put,aE,aC,aD,aS,aT];refine⟨fun X W' j F hw E O=>?_,fun q0=>?_⟩
  .have h7:X 35=some q1:=E 35 19 q1 (by kernel_rfl) (by kernel_rfl) (bO (by kernel_rfl)) rfl;have M:=j.c.mv _ h7;obtain⟨q',Z,Y,H,rfl,-⟩:=j.c.call _ M;have K:ReV L.drew R l (aY X 37 Y) W':=⟨j.c.other (by decide),fun z A=>by
    rw[aI (by decide)]at A;exact j.a z A,fun z A=>by
    rw[fC]at A; cases A;rw[aI (by decide)];exact⟨_,_,M,rfl⟩⟩
   clear M h7;go_wp2_with fail;exact⟨rfl,_,rfl,K,aV,trivial⟩
  simp only[Act.put,aE,aC,aD,aS,aT];refine⟨fun X W' j F hw E O=>?_,fun a3=>?_⟩
  .have K:=j.step (j.c.doAlloc b1.o F (by decide)) (fun z A=>a2.o.grow _ _ _ A (ba' W' (.cells iU.toArray 43))) (by decide) (by decide) (fun h=>absurd h (by decide));go_wp2_with fail;exact⟨rfl,_,rfl,K,aV,trivial⟩
  simp only[Act.put,aE,aC,aD,aS,aT];refine⟨fun X W' j F hw E O=>?_,fun j5=>?_⟩
  .have d2:X 38=some a3:=E 38 4 a3 (by kernel_rfl) (by kernel_rfl) (bO (by kernel_rfl)) rfl;have h8:X 36=some p0:=E 36 55 p0 (by kernel_rfl) (by kernel_rfl) (bO (by kernel_rfl)) rfl;obtain⟨u,hu,y,Q⟩:=j.c.ext _ h8;obtain⟨q',Z,Y,H,V,-,-,U,-⟩:=j.c.call _ hu;rw[Q]at V;obtain⟨rfl,-⟩:p0=.agg q'.cells.toArray∧y=Y:=by simpa using V
   obtain⟨a,cs,rfl,-⟩:=j.c.al _ d2;obtain⟨J,a4⟩:=j.c.doStore (u:=undef) b1.o (by decide) F d2 h8 (by decide);have K:=j.step a4 (fun z A=>a2.o.put _ _ _ _ _ A J) (by decide) (by decide) (fun h=>absurd h (by decide));have o5:=J.store (P:=prog) (cs':=q'.cells) rfl (StV.one U.st);clear J Q V hu h8 d2 U a4;go_wp2_with fail;exact⟨rfl,undef,rfl,K,aV,trivial⟩
  simp only[Act.put,aS,aT];intro W9 j O;clear O;simp only[bS,bU];obtain⟨u,hu,y,Q⟩:=j.c.ext p0 rfl;obtain⟨u',y',y2,m2⟩:=j.e q0 rfl;obtain rfl:u=u':=by rw[hu]at y2; exact Option.some.inj y2
  obtain⟨q',Z,Y,H,V,o0,j0,U,m0,l0,g0⟩:=j.c.call _ hu;rw[m2]at V;obtain⟨-,rfl⟩:y'=.agg q'.cells.toArray∧q0=Y:=by simpa using V
  rw[m2]at Q;obtain⟨rfl,-⟩:y'=p0∧q0=y:=by simpa using Q
  obtain⟨rfl,-⟩:y'=.agg q'.cells.toArray∧q0=q0:=by simpa using V
  obtain⟨a,cs,rfl,T,o3,-,l3⟩:=j.c.al a3 rfl;obtain rfl:q'.cells=cs:=by have:=l3 j5 rfl; simpa using this
  have j1:=HD.o.on j.c.bel;have l9:=o3.load (P:=prog) (k:=9) rfl;have N:=H2.a.below j1;obtain⟨b2,a5,g5,z1,c10⟩:=N.blk.off 8 q'.cells (WkV.cells ⟨p.r.done q' p.r.commit,p.rs,p.rv,p.ms,p.mv⟩ []) rfl (by simp[WkV.cells,RpV.cells,KpV.cells,StV.cells,HpV.cells,Pt.cells]) (StV.one U.st);have y0:Blk (b2.setCell ⟨g,7,none⟩ (.i n)) g 101 (WkV.cells ⟨p.r.done q' n,p.rs,p.rv,p.ms,p.mv⟩ []):=z1.setCell 7 _;have k7:b2.cell? ⟨g,7,none⟩=some (.i p.r.commit):=z1.cell 7;have f7:=z1.frozen 7;have c11:=c10.setCell (.inr rfl) 7 (.i n);obtain⟨e0,j3⟩:∃W,b2.setCell ⟨g,7,none⟩ (.i n)=W:=⟨_,rfl⟩
  rw[j3]at y0 c11;have j2:base≤L.drew.heap.size:=aB H2.C HD.o.size;have l4:=U.mono j2;have e3:WkO e0 base g 101 [] ⟨p.r.done q' n,p.rs,p.rv,p.ms,p.mv⟩ Z:=N.put (.inl rfl) y0 c11 ⟨N.rep.es,l4,N.rep.starts,N.rep.votes,N.rep.ves,N.rep.acks⟩;have d4:=(m0.mono j2).chg_blk N.blk c11 (by decide);have b3:Gn w e0 base g p ⟨p.r.done q' n,p.rs,p.rv,p.ms,p.mv⟩ Z:=⟨e3,(Chg.of_below (H2.b.on j1)).trans c11 fun i _ hi=>.inl hi,fun k J=>.inl J,fun k J=>.inl J⟩
  have lr:=y0.loadOff (P:=prog) 0 26 (p.r.done q' n).cells rfl rfl;have k4:e0.cell? ⟨g,4,none⟩=some (.i p.r.k.base):=y0.cell 4;have HP:=kp (Ca (p.r.done q' n) e0 (by have:=m.c.nodes; exact⟨by show _≤p.x.r.nodes; omega,by show p.x.r.nodes≤_; omega⟩));have I:=k'7 b3 d4 o0 j0 l0 g0 (show base≤e0.heap.size from aB H2.C (aB j1.size c11.size));clear j hu Q V y2 m2 T o3 l3 j1 N z1 c10 y0 c11 l4 e3 d4 b3 U m0 o0 j0 l0 g0 j2;go_wp2_with fail;refine mb' (HP.o) fun y1 d1=>?_;have y3:gO (p.r.done q' n).x=gO p.x.r:=rfl;rw[y3];clear y3;have l5:wrap64 (n-p.r.k.base)=n-p.r.k.base:=by
   have h1:=m.c.log.1;change 0≤p.r.k.base∧p.r.k.base≤900000000 at h1;have h2:=m.d;have h3:=HN.o;have h4:=d0.a;unfold wrap64; omega
  have g8:¬8≤n-p.r.k.base:=by have:=d0.a; omega
  obtain⟨z,A⟩:=nm' (gO p.x.r);rw[A]at d0 ⊢;clear A;have d3:=I.a.post d1;have e4:=I.b.below d1;have D:=k'3 d3 e4 (aB I.G d1.size);clear d3 e4 d1 lr l9 g5 k7 f7 a5 j3 k4
  cases z
  .have k4:y1.cell? ⟨g,4,none⟩=some (.i p.r.k.base):=D.a.o.blk.cell 4;go_wp2_with fail;go_end0;refine⟨rfl,.of D.a ?_⟩;rw[←d0.B,aF (by decide),fG,←I.c];rfl
  .obtain⟨A5,c5,d5,-⟩:=D.b.sl dA;subst d5;have z2:=D.a.o.blk.cell 27;have z4:=D.a.o.blk.frozen 27;rw[yJ]at z2;have q3:∀a∈H,∀u∈a.cells,u.oneCell'=true:=fun a ha=>fD (p:=a) (by rw[(I.e a ha).2]; rfl);go_wp2_with (at_builtin; refine jD (enc:=MgV.cells) y1 rfl (.tmp 77) (.tmp 78) 58 rfl base 75 sW rZ rfl (by omega) dA D.a.o.ms rfl (D.b.sl dA) rfl q3 ?_ ?_ D.C ?_)
   .have h1:=m.h; have h2:=I.f; unfold maxLen; show p.ms.length+H.length≤_; omega
   .have h1:=m.h; have h2:=I.f; show (p.ms.length+H.length)*208≤_; omega
   intro v7 w7 q2 e5 m3 o2;have c7:Chg (fun i=>p.mv.ownBlock=some i) y1 w7:=eX m3;have ht:=D.a.o.told (.inl rfl) c7 q2 (fun x hx=>by
    rcases cV.1 hx with hx|hx
    .exact (D.a.o.mse x hx).chg_row D.a.o.ms c7 (by decide)
    .rw[(I.e x hx).1,(I.e x hx).2]; exact Ow.nil _ _ _ _ _)
   obtain⟨A8,c8,rfl,_,_⟩:=dO q2;rw[bF]at ht o2;have z2:=(D.a.o.blk.chg c7 (D.a.o.ms.ne_blk D.a.o.blk (by decide))).cell 27;have z4:=(D.a.o.blk.chg c7 (D.a.o.ms.ne_blk D.a.o.blk (by decide))).frozen 27;rw[yJ]at z2;obtain⟨y4,b5⟩:∃W,w7.setCell ⟨g,27,none⟩ (.slice A8 (p.ms.length+H.length) c8)=W:=⟨_,rfl⟩
   have z0:Gn y1 (w7.setCell ⟨g,27,none⟩ (.slice A8 (p.ms.length+H.length) c8)) base g ⟨p.r.done q' n,p.rs,p.rv,p.ms,p.mv⟩ ⟨p.r.done q' n,p.rs,p.rv,p.ms++H,.slice A8 (p.ms.length+H.length) c8⟩ Z:=⟨ht.1,ht.2.mono fun i _ hi=>hi.imp id .inr,fun k J=>.inl J,o2⟩
   rw[b5]at z0;have k4:y4.cell? ⟨g,4,none⟩=some (.i p.r.k.base):=z0.o.blk.cell 4;have HG:=kp (D.a.trans z0);clear z0 ht q2 e5 m3 c7 q3 o2;go_wp2_with fail;go_end0;refine⟨rfl,.of HG.o ?_⟩;rw[←d0.B,aK rfl,←I.c,←I.d];unfold WkV.x;simp only[fW];rfl
 .exact⟨pv',pv',pv',pv',pv',pv',pv',pv',pv',pv',pv',pv',pv',pv',pv',pv',pv',pv',pv',pv',pv',pv',pv',pv',pv',pv',pv',pv',pv',pv',pv',pv',pv',fun _ _ _ _ _ h _=>h,fun _ _ _ _ _ h _=>h,fun _ _ _ _ _ h _=>h,fun _ _ _ _ _ h _=>h,fun _ _ _ _ _ h _=>h,fun _ _ _ _ _ h _=>h,fun _ _ _ _ _ h _=>h,trivial⟩
end
end Go.Proofs.YtoncgpddjmgbfaaGreat
