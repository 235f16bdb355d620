import Derived.Test.YtoncgpddjmgbfaaGreatZ21
import Derived.Test.YtoncgpddjmgbfaaGreatZ27
namespace Go.Proofs.YtoncgpddjmgbfaaGreat
open Go.RowKit Go.Proofs.Tryz
set_option maxRecDepth 100000
set_option maxHeartbeats 12800000
set_option linter.unusedVariables false
set_option linter.unusedSimpArgs false
section
attribute [-go_sem] loadCellsFrom storeCells run_eql_struct run_neq_struct Instr.build
attribute [local go_sem] aX MgV.fold dA En.fold eM mZ
theorem Ke{x:Int}(h:inR x):aG (wrap64 (-x)) 1 4=aG (-x) 1 4∧(aG (-x) 1 4=true→wrap64 (-x)= -x):=by
 obtain⟨b,c⟩:=h
 by_cases a:x= -9223372036854775808
 .subst a; exact⟨by decide+kernel,fun h=>absurd h (by decide+kernel)⟩
 .have:wrap64 (-x)= -x:=by unfold wrap64; omega
  exact⟨by rw[this],fun _=>this⟩
def jE:List Value:=z'7
def pK(d0 seq code value:Int)(ok:Bool):MgV:=⟨2,0,d0,0,0,0,0,0,[],.slice none 0 0,0,0,⟨#[]⟩,seq,dU,code,value,ok⟩
def Cv(n commit:Int)(e:En)(b:Nat):MgV:=⟨3,0,0,0,0,n,0,commit,[e],.slice (some ⟨b,0,none⟩) 1 1,0,0,⟨#[]⟩,0,dU,0,0,false⟩
theorem Yr(a b:Int)(w:World):(Instr.build 75 #[(0,.i 2),(2,.i a),(12,.i b)]).run prog w=.ok (.agg (pK a b 0 0 false).cells.toArray) w:=run_build w _ _ _ (by kernel_rfl)
theorem Ys(n v c s:Int)(o:Opn)(w:World):(Instr.build 122 #[(0,.i n),(1,.i v),(2,.i c),(3,.i s),(4,.agg o.cells.toArray)]).run prog w=.ok (.agg (En.cells ⟨n,v,c,s,o.k,o.h,o.i,o.n,o.m,o.v,o.t⟩).toArray) w:=run_build w _ _ _ (by kernel_rfl)
theorem Kf(e:En)(w:World):(Instr.build 124 #[(0,.i 2),(5,.agg e.cells.toArray)]).run prog w=.ok (.agg (gQ e).cells.toArray) w:=run_build w _ _ _ (by kernel_rfl)
theorem Yt(n a:Int)(e:En)(b:Nat)(w:World):(Instr.build 75 #[(0,.i 3),(5,.i n),(8,.slice (some ⟨b,0,none⟩) 1 1),(7,.i a)]).run prog w=.ok (.agg (Cv n a e b).cells.toArray) w:=run_build w _ _ _ (by kernel_rfl)
attribute [local go_sem] Yr Ys Kf
def tE(r:Rw)(z:Value)(_:World):Prop:=∃b,z=.tuple #[.agg r.cells.toArray,.bool b]
theorem tE.stab(r:Rw):jU 141 (tE r):=⟨fun _ _ _ h _=>h,fun _ _ _ _ _ h _=>h⟩
def Kg(z:Value)(_:World):Prop:=∃b,z=.bool b
def Yu(base:Nat)(e:En)(u:Value)(W:World):Prop:=∃b,u=.slice (some ⟨b,0,none⟩) 1 1∧Ow W base 122 11 u En.cells [e]
def Yv(base:Nat)(n c:Int)(e:En)(u:Value)(W:World):Prop:=∃b,u=.agg (Cv n c e b).cells.toArray∧Ow W base 122 11 (.slice (some ⟨b,0,none⟩) 1 1) En.cells [e]
theorem Yw{g base:Nat}(p:WkV)(ps:List ObV)(m:MgV)(w:World)(q:Wp)(h:WkO w base g 101 [] p ps)(hb:base≤w.heap.size)(S:WpS p.x)(R:MgR m.x)(hq:p.x.req m.x=some q)(d5:p.rs.length≤1000)(a5:p.ms.length≤900):
  Calls prog 30 #[.pointer (some ⟨g,0,none⟩),.agg m.cells.toArray] w fun e w'=>e=.returned (.tuple #[])∧∃p',Gn w w' base g p p' ps∧p'.x=q:=by
 obtain⟨N,b5⟩:=nm' (wrap64 (-m.src));obtain⟨H,p6,x1,b1,z1⟩:=par w 75 m.cells;have k1:H.cell? ⟨w.heap.size,1,none⟩=some (.i m.src):=x1.cell 1;have a6:H.cell? ⟨w.heap.size,12,none⟩=some (.i m.seq):=x1.cell 12;obtain⟨a,ha⟩:=nm' (aG N 1 4);obtain⟨b,y2⟩:=nm' (aG m.seq 1 1000000);have p3:=kp (fun w=>by have:=cK.1 N 1 4 w; rw[ha]at this; exact this);have q3:=kp (fun w=>by have:=cK.1 m.seq 1 1000000 w; rw[y2]at this; exact this);have HA:=k'3 (show aG (-m.src) 1 4=a by rw[←ha,←b5]; exact (Ke R.src).1.symm) y2 (show aG (-m.src) 1 4=true→N= -m.src from fun h=>b5.symm.trans ((Ke R.src).2 h));have K:=k'4 (h.below b1) x1 b1 (aB hb b1.size);have A:=k'5 S R hq d5 a5;have e0:=kp (fun{W:World}{p':WkV}(k:Gn H W base g p p' ps)=>k.pre b1);clear x1 b1 z1 ha y2 h hb S R hq d5 a5;go_enter func30,ntmps30;go_wp2_with fail;refine ms' (p3.o _) ?_
 cases a
 case false=>
  have J:=kp (Wp.req_out A.c (fun hy=>by have:=hy.1.symm.trans HA.a; cases this));go_wp2_with fail;exact bI (v:=.tuple #[]) (by simp[results,results30,go_sem]) rfl ⟨rfl,p,e0.o (Gn.refl K.a),J.o⟩
 go_wp2_with fail;refine ms' (q3.o _) ?_
 cases b
 case false=>
  have J:=kp (Wp.req_out A.c (fun hy=>by have:=hy.2.symm.trans HA.b; cases this));go_wp2_with fail;exact bI (v:=.tuple #[]) (by simp[results,results30,go_sem]) rfl ⟨rfl,p,e0.o (Gn.refl K.a),J.o⟩
 have Y:=k'2 (fR HA.a HA.b) (HA.C HA.a);clear HA p3 q3;obtain⟨W2,y5,s2,x2,b2,-⟩:=eJ H 75 jE (pK m.src m.seq 0 0 false).cells rfl (fD rfl);unfold jE at y5 s2;have h2:=K.a.below b2;have l2:=h2.blk.loadOff (P:=prog) 0 26 p.r.cells rfl rfl;obtain⟨z,hz⟩:=nm' (gO p.r.x);have HP:=kp (by have:=Ca p.r W2 (by have:=A.a.nodes; exact⟨by show _≤p.x.r.nodes; omega,by show p.x.r.nodes≤_; omega⟩); rw[hz]at this; exact this);have HZ:=kp hz;have H2:=k'4 h2 x2 b2 (K.b.grow b2);clear h2 x2 b2 hz;go_wp2_with fail;refine mb' (HP.o) fun w3 z0=>?_;have h3:=H2.a.below z0;have x3:=H2.b.grow z0;have y3:=H2.D.grow z0;have b3:=H2.c.on z0;have e3:=aB K.D b3.size;clear z0 l2 k1 a6 HP
 cases z
 case false=>
  have l3:=x3.load (P:=prog) (k:=23) rfl;have q0:=kp (yL p ps (pK m.src m.seq 0 0 false) w3 h3 (Ow.nil _ _ _ _ _) (by have:=A.E; omega) e3 (by show (2:Int)≠0; decide) (dJ _));have J:=kp (Wp.req_far A.c Y.a HZ.o);have HB:=kp b3;clear h3 x3 y3 b3 e3;go_wp2_with fail;refine (q0.o).mono ?_;rintro e w4 ⟨rfl,p',hG,hx⟩;have L:=k'2 (e0.o (hG.pre HB.o)) hx;clear hG hx;go_wp2_with fail;exact bI (v:=.tuple #[]) (by simp[results,results30,go_sem]) rfl ⟨rfl,p',L.a,L.B.trans J.o⟩
 have e6:w3.cell? ⟨H.heap.size,22,none⟩=some (.bool false):=x3.cell 22;have p5:=x3.frozen 22;have x4:Blk (w3.setCell ⟨H.heap.size,22,none⟩ (.bool true)) H.heap.size 75 (pK m.src m.seq 0 0 true).cells:=x3.setCell 22 _;have c4:=(Chg.refl (fun i=>i=H.heap.size) w3).setCell (.inr rfl) 22 (.bool true);have aQ:Bw' H (w3.setCell ⟨H.heap.size,22,none⟩ (.bool true)):=b3.trans (c4.below (B:=H.heap.size) (fun i hi=>by omega) b3.size);obtain⟨W4,e4⟩:∃W,w3.setCell ⟨H.heap.size,22,none⟩ (.bool true)=W:=⟨_,rfl⟩
 rw[e4]at x4 c4 aQ;have HD:=kp (show Bw' W4 W4.drew from bL (aH _ _));have H4:=k'5 (K.a.below aQ) x4 (K.b.grow aQ) aQ (aB K.D aQ.size);clear h3 x3 y3 b3 e3 c4 x4 aQ;go_wp2_with fail;clear e6 p5 e4;have j5:=kp (fun(W:World)(u:Bw' W4 W)=>It p.r.s ps N W.heap.size W (H4.a.below u).rep.rpAt.2.1 (aN _) (by have:=qR (jR.1 A.a.st).2 (by omega); have e:p.x.r.st.rows=p.r.s.rows:=rfl; rw[e]at this; omega));refine eY 14 (CAl W4.drew 141 z'4 73 [] (tE (cJ N p.r.s.rows)) mE 8 9 10 12 1000 13) (fun _=>eQ) (by kernel_rfl) (by kernel_rfl) CAl.start ?_
 iterate 8 (refine bE ?_; apply Exists.intro)
 iterate 3 (refine bJ dV ?_)
 refine bJ Kg ?_
 iterate 2 (refine bJ dV ?_)
 refine cC ⟨?_,?_⟩
 rotate_left
 .iterate 8
   apply bQ (by kernel_rfl) (by intro t w h; cases h; exact trivial) rfl
   .intro X W' f Z hw U j;have hB:=HD.o.on f.bel;have l1:=(H4.a.below hB).blk.loadOff (P:=prog) 8 9 p.r.s.cells rfl rfl;have k1:W'.cell? ⟨w.heap.size,1,none⟩=some (.i m.src):=(H4.c.grow hB).cell 1;clear hB;go_wp2_with fail;exact⟨rfl,_,rfl,f.other (by decide),aV,rfl⟩
   simp only[Act.put,aE,aC,aD,aS,aT]
  refine⟨fun X W' f Z hw U j=>?_,fun u6=>?_⟩
  .go_wp2_with fail;refine (j5.o W' (HD.o.on f.bel)).mono ?_;rintro e T ⟨v,rfl,g4⟩;have m0:=f.doCall (tE.stab _) Z g4 ⟨v,rfl⟩ (by decide);clear g4;go_wp2_with fail;exact⟨rfl,_,rfl,m0,aV,trivial⟩
  simp only[Act.put,aE,aC,aD,aS,aT];refine⟨fun X W' f Z hw U j=>?_,fun u7=>?_⟩
  .have h3:X 8=some u6:=U 8 44 u6 (by kernel_rfl) (by kernel_rfl) (bO (by kernel_rfl)) rfl;go_wp2_with fail;exact⟨rfl,_,rfl,f.doMv h3 (by decide),aV,trivial⟩
  simp only[Act.put,aE,aC,aD,aS,aT];refine⟨fun X W' f Z hw U j=>?_,fun u8=>?_⟩
  .have h4:X 9=some u7:=U 9 35 u7 (by kernel_rfl) (by kernel_rfl) (bO (by kernel_rfl)) rfl;have h3:=f.mv _ h4;obtain⟨v,rfl⟩:=f.call _ h3;have m0:=f.doExt Z h3 ⟨_,rfl⟩ (by decide);clear h3 h4;go_wp2_with fail;exact⟨rfl,_,rfl,m0,aV,trivial⟩
  simp only[Act.put,aE,aC,aD,aS,aT];refine⟨fun X W' f Z hw U j=>?_,fun u9=>?_⟩
  .have h4:X 9=some u7:=U 9 35 u7 (by kernel_rfl) (by kernel_rfl) (bO (by kernel_rfl)) rfl;obtain⟨v,rfl⟩:=f.call _ (f.mv _ h4);clear h4;go_wp2_with fail;exact⟨rfl,_,rfl,f.other (by decide),aV,v,rfl⟩
  simp only[Act.put,aE,aC,aD,aS,aT];refine⟨fun X W' f Z hw U j=>?_,fun d2=>?_⟩
  .have m0:=f.doAlloc (tE.stab _) Z (by decide);go_wp2_with fail;exact⟨rfl,_,rfl,m0,aV,trivial⟩
  simp only[Act.put,aE,aC,aD,aS,aT];refine⟨fun X W' f Z hw U j=>?_,fun g6=>?_⟩
  .have h7:X 12=some d2:=U 12 5 d2 (by kernel_rfl) (by kernel_rfl) (bO (by kernel_rfl)) rfl;have h5:X 10=some u8:=U 10 45 u8 (by kernel_rfl) (by kernel_rfl) (bO (by kernel_rfl)) rfl;obtain⟨u,hu,y,he⟩:=f.ext _ h5;obtain⟨v,l0⟩:=f.call _ hu;rw[he]at l0;obtain⟨rfl,-⟩:u8=.agg (cJ N p.r.s.rows).cells.toArray∧y=.bool v:=by simpa using l0
   obtain⟨a,cs,rfl,-⟩:=f.al _ h7;obtain⟨hk,m0⟩:=f.doStore (u:=undef) (tE.stab _) (by decide) Z h7 h5 (by decide);have b7:=hk.store (P:=prog) (cs':=(cJ N p.r.s.rows).cells) rfl (mP _);clear hk he l0 hu h7 h5;go_wp2_with fail;exact⟨rfl,undef,rfl,m0,aV,trivial⟩
  simp only[Act.put,aS,aT];intro W9 f j;obtain⟨bv,rfl⟩:Kg u9 W9:=j 46;clear j;simp only[bS,bU];obtain⟨u,hu,y,he⟩:=f.ext u8 rfl;obtain⟨v,l0⟩:=f.call _ hu;rw[he]at l0;obtain⟨rfl,-⟩:u8=.agg (cJ N p.r.s.rows).cells.toArray∧y=.bool v:=by simpa using l0
  obtain⟨a,cs,rfl,z4,y4,-,o4⟩:=f.al d2 rfl;obtain rfl:(cJ N p.r.s.rows).cells=cs:=by have:=o4 g6 rfl; simpa using this
  have a1:=HD.o.on f.bel;have H9:=k'6 (H4.a.below a1) (H4.b.grow a1) (H4.c.grow a1) y4 (H4.d.on a1) (show H.heap.size<a from cY H4.b.lt (aB HD.o.size z4));clear f he l0 hu z4 y4 o4 a1;have o2:=kp (qU p ps W9 H9.a A.a.log.1 (by have:=A.a.log.2.1; exact aB this (by decide)));obtain⟨I,a3⟩:=nm' (cJ N p.r.s.rows);rw[a3]at H9;have p0:=kp (show cJ (-m.src) p.x.r.st.rows=I by rw[←Y.B]; exact a3);clear a3;go_wp2_with fail;refine mb' (o2.o) fun T j0=>?_;have G:=k'7 (H9.a.below j0) (H9.b.grow j0) (H9.c.grow j0) (H9.d.grow j0) (H9.e.on j0) H9.F (aB K.D (H9.e.on j0).size);have kr:T.cell? ⟨a,1,none⟩=some (.i I.s):=G.d.cell 1;have ks:T.cell? ⟨w.heap.size,12,none⟩=some (.i m.seq):=G.c.cell 12;clear j0
  by_cases g1:m.seq<I.s
  .have z6:T.cell? ⟨H.heap.size,20,none⟩=some (.i 0):=G.b.cell 20;have o6:=G.b.frozen 20;have g0:Blk (T.setCell ⟨H.heap.size,20,none⟩ (.i 130)) H.heap.size 75 (pK m.src m.seq 130 0 true).cells:=G.b.setCell 20 _;have c11:=(Chg.refl (fun i=>i=H.heap.size) T).setCell (.inr rfl) 20 (.i 130);obtain⟨M,d4⟩:∃W,T.setCell ⟨H.heap.size,20,none⟩ (.i 130)=W:=⟨_,rfl⟩
   rw[d4]at g0 c11;obtain⟨rv,b0⟩:=nm' (pK m.src m.seq 130 0 true);have J:=kp (show p.x.send rv.x=q by rw[←b0]; exact Wp.req_old A.c Y.a HZ.o (by rw[show cJ (-m.x.src) p.x.r.st.rows=I from p0.o]; exact g1));have V:rv.kind=2∧rv.es=[]∧rv.ev=.slice none 0 0:=by subst b0; exact⟨rfl,rfl,rfl⟩
   rw[b0]at g0;have a0:Bw' H M:=G.e.trans (c11.below (B:=H.heap.size) (fun i hi=>by omega) G.e.size);have b6:=g0.load (P:=prog) (k:=23) rfl;have q0:=kp (yL p ps rv M (K.a.below a0) (by rw[V.2.1,V.2.2]; exact Ow.nil _ _ _ _ _) (by have:=A.E; omega) (aB K.D a0.size) (by rw[V.1]; decide) (by rw[V.2.1]; exact dJ _));have HB:=kp a0;clear g0 c11 a0 b0 V o2;go_wp2_with fail;refine (q0.o).mono ?_;rintro e l6 ⟨rfl,p',hG,hx⟩;have L:=k'2 (e0.o (hG.pre HB.o)) (hx.trans J.o);clear hG hx;go_wp2_with fail;go_end0;exact⟨rfl,p',L.a,L.B⟩
  by_cases g2:I.s=m.seq
  .have e2:(I.s==m.seq)=true:=by simp[g2]
   have l2:=G.d.loadOff (P:=prog) 2 2 [.i I.k,.i I.v] rfl rfl;obtain⟨M,d4,a7,g0,c11⟩:=G.b.off 20 [.i I.k,.i I.v] (pK m.src m.seq I.k I.v true).cells rfl (by show 20+2≤23; decide) (fun u hu=>by
    rcases bD.1 hu with rfl|hu
    .rfl
    .rw[bZ.1 hu]; rfl)
   obtain⟨rv,b0⟩:=nm' (pK m.src m.seq I.k I.v true);have J:=kp (show p.x.send rv.x=q by
    have:=Wp.req_same A.c Y.a HZ.o (by rw[show cJ (-m.x.src) p.x.r.st.rows=I from p0.o]; exact g1) (by rw[show cJ (-m.x.src) p.x.r.st.rows=I from p0.o]; exact g2);rw[show cJ (-m.x.src) p.x.r.st.rows=I from p0.o]at this;rw[←b0]; exact this)
   clear g2;have V:rv.kind=2∧rv.es=[]∧rv.ev=.slice none 0 0:=by subst b0; exact⟨rfl,rfl,rfl⟩
   rw[b0]at g0;have a0:Bw' H M:=G.e.trans (c11.below (B:=H.heap.size) (fun i hi=>by omega) G.e.size);have b6:=g0.load (P:=prog) (k:=23) rfl;have q0:=kp (yL p ps rv M (K.a.below a0) (by rw[V.2.1,V.2.2]; exact Ow.nil _ _ _ _ _) (by have:=A.E; omega) (aB K.D a0.size) (by rw[V.1]; decide) (by rw[V.2.1]; exact dJ _));have HB:=kp a0;clear g0 c11 a0 b0 V o2;go_wp2_with fail;refine (q0.o).mono ?_;rintro e l6 ⟨rfl,p',hG,hx⟩;have L:=k'2 (e0.o (hG.pre HB.o)) (hx.trans J.o);clear hG hx;go_wp2_with fail;go_end0;exact⟨rfl,p',L.a,L.B⟩
  have e2:(I.s==m.seq)=false:=by simp[g2]
  have HN:=k'2 (show ¬m.x.seq<(cJ (-m.x.src) p.x.r.st.rows).s by rw[show cJ (-m.x.src) p.x.r.st.rows=I from p0.o]; exact g1) (show ¬(cJ (-m.x.src) p.x.r.st.rows).s=m.x.seq by rw[show cJ (-m.x.src) p.x.r.st.rows=I from p0.o]; exact g2);clear g2;obtain⟨A6,c6,p4,-⟩:=dO G.a.rep.es;have o1:=kp (fun r:Blw T=>Ym p.r.k p.r.commit N m.seq r.w.heap.size r.w ((G.a.below r.h).rep.es.sl eM) (aN _) (aB A.a.log.2.1 (by decide)) A.a.kr (aB A.a.img (by decide)) A.a.kept);obtain⟨kz,z2⟩:=nm' (p.r.k.es.any (vI p.r.commit N m.seq));rw[z2]at o1;have o3:=kp (show yM p.x.r.k p.x.r.commit (-m.x.src) m.x.seq=kz by rw[←z2,Y.B]; rfl);have j6:=bG (show T.cell? ⟨g,6,none⟩=some (.slice A6 p.r.k.es.length c6) by rw[←p4]; exact G.a.blk.cell 6);have j7:=bG (show T.cell? ⟨g,7,none⟩=some (.i p.r.commit) from G.a.blk.cell 7);have j1:=bG (show T.cell? ⟨w.heap.size,1,none⟩=some (.i m.src) from G.c.cell 1);have j3:=bG ks;have jl:∀r:Blw T,Sem.run prog (loadCellsFrom ⟨g,2,none⟩ 0 5 #[]) r.w=.ok p.r.k.cells.toArray r.w:=fun r=>(G.a.blk.grow r.h).loadOff 2 5 p.r.k.cells rfl rfl;clear p4 z2
  by_cases g3:(p.r.k.es.length:Int)<3000
  case neg=>
   have J:=kp (Wp.req_no A.c Y.a HZ.o HN.a HN.B fun hy=>g3 (by have:=hy.1; exact Int.ofNat_lt.2 this));have gd:decide ((p.r.k.es.length:Int)<3000)=false:=dR g3;clear g3;go_wp2_with fail;refine cX (by kernel_rfl) (by kernel_rfl) ?_
   repeat (go_big_quiet_step (fail))
   refine cI ?_;rintro M ⟨⟨_,Q⟩,rfl⟩;have L:=kp ((Gn.refl (G.a.below Q)).pre (G.e.on Q));clear Q j6 j7 j1 j3 jl kr ks;go_wp2_with fail;go_end0;exact⟨rfl,p,e0.o L.o,J.o⟩
  cases kz
  case true=>
   have J:=kp (Wp.req_no A.c Y.a HZ.o HN.a HN.B fun hy=>by have:=o3.o.symm.trans hy.2; cases this);go_wp2_with fail;refine cX (by kernel_rfl) (by kernel_rfl) ?_
   repeat (go_big_quiet_step ((go_at_call 59; with_reducible refine gV (o1.o _))))
   refine cI ?_;rintro M ⟨⟨_,Q⟩,rfl⟩;have L:=kp ((Gn.refl (G.a.below Q)).pre (G.e.on Q));clear Q j6 j7 j1 j3 jl kr ks;go_wp2_with fail;go_end0;exact⟨rfl,p,e0.o L.o,J.o⟩
  have J:=kp (Wp.req_new A.c Y.a HZ.o HN.a HN.B ⟨Int.ofNat_lt.1 g3,o3.o⟩);go_wp2_with fail;refine cX (by kernel_rfl) (by kernel_rfl) ?_
  repeat (go_big_quiet_step ((go_at_call 59; with_reducible refine gV (o1.o _))))
  refine cI ?_;rintro M ⟨⟨_,Q⟩,rfl⟩;have g5:=kp (G.e.on Q);have d0:=k'3 ((G.a.below Q).below (bL (aH _ _))) ((G.c.grow Q).grow (bL (aH _ _))) (g5.o.on (bL (aH M.heap.size M)));clear Q j6 j7 j1 j3 jl kr ks e2 o1;have z5:wrap64 (p.r.k.x.last+1)=p.r.k.x.last+1:=by
   have h1:0≤p.r.k.x.last:=A.a.log.2.2.1;have h2:p.r.k.x.last≤900000000:=A.a.top;unfold wrap64; omega
  obtain⟨O,q5⟩:=nm' (⟨p.r.k.x.last+1,p.r.k.view,N,m.seq,m.op.k,m.op.h,m.op.i,m.op.n,m.op.m,m.op.v,m.op.t⟩:En);have m2:=kp (show oH p.x.r m.x=O by rw[←q5,Y.B]; rfl);go_wp2_with fail;refine fM 17 (fun W'=>Below M.drew.heap.size M.drew W') (fun _=>jK) (by kernel_rfl) (by kernel_rfl) (aH _ _) ?_
  iterate 16 (refine bE ?_; apply Exists.intro)
  refine bJ (fun u W=>∃b,u=.pointer (some ⟨b,0,none⟩)∧M.drew.heap.size≤b∧Blk W b 122 z'3) ?_;refine cC ⟨?_,?_⟩
  rotate_left
  iterate 7
   apply bB (by kernel_rfl) (by intro t w h; cases h; exact trivial) rfl
   .intro W' f j; go_wp2_with fail;exact⟨rfl,_,rfl,f,aH _ _,rfl⟩
   simp only[Act.put,aE,aC,aD]
  apply bB (by kernel_rfl) (by intro t w h; cases h; exact trivial) rfl
  .intro W' f j; have q7:W'.cell? ⟨g,2,none⟩=some (.i p.r.k.view):=(d0.a.below f).blk.cell 2; go_wp2_with fail;exact⟨rfl,_,rfl,f,aH _ _,rfl⟩
  simp only[Act.put,aE,aC,aD];apply bB (by kernel_rfl) (by intro t w h; cases h; exact trivial) rfl
  .intro W' f j; go_wp2_with fail;exact⟨rfl,_,rfl,f,aH _ _,rfl⟩
  simp only[Act.put,aE,aC,aD];apply bB (by kernel_rfl) (by intro t w h; cases h; exact trivial) rfl
  .intro W' f j; have q7:W'.cell? ⟨w.heap.size,1,none⟩=some (.i m.src):=(d0.b.grow f).cell 1; go_wp2_with fail;exact⟨rfl,_,rfl,f,aH _ _,rfl⟩
  simp only[Act.put,aE,aC,aD]
  iterate 2
   apply bB (by kernel_rfl) (by intro t w h; cases h; exact trivial) rfl
   .intro W' f j; go_wp2_with fail;exact⟨rfl,_,rfl,f,aH _ _,rfl⟩
   simp only[Act.put,aE,aC,aD]
  apply bB (by kernel_rfl) (by intro t w h; cases h; exact trivial) rfl
  .intro W' f j; have q7:W'.cell? ⟨w.heap.size,12,none⟩=some (.i m.seq):=(d0.b.grow f).cell 12; go_wp2_with fail;exact⟨rfl,_,rfl,f,aH _ _,rfl⟩
  simp only[Act.put,aE,aC,aD];apply bB (by kernel_rfl) (by intro t w h; cases h; exact trivial) rfl
  .intro W' f j; go_wp2_with fail;exact⟨rfl,_,rfl,f,aH _ _,rfl⟩
  simp only[Act.put,aE,aC,aD];apply bB (by kernel_rfl) (by intro t w h; cases h; exact trivial) rfl
  .intro W' f j; have q7:=(d0.b.grow f).loadOff (P:=prog) 13 7 m.op.cells rfl rfl; go_wp2_with fail;exact⟨rfl,_,rfl,f,aH _ _,rfl⟩
  simp only[Act.put,aE,aC,aD];apply bB (by kernel_rfl) (by intro t w h; cases h; exact trivial) rfl
  .intro W' f j; go_wp2_with fail;exact⟨rfl,_,rfl,f,aH _ _,rfl⟩
  simp only[Act.put,aE,aC,aD];refine⟨fun W' f j=>?_,fun u1=>?_⟩
  .go_wp2_with fail;have hn:=Blk.new W' 122 z'3;have hb:=ba' W' (.cells z'3a 122);exact⟨rfl,_,rfl,f.on hb,hb,_,rfl,f.size,hn⟩
  simp only[Act.put,aE,aC,aD];intro m6 f j;obtain⟨b,rfl,m4,l4⟩:=j 8;clear j;simp only[bS,bU];obtain⟨m5,q6,d7,m3,c13⟩:=l4.put O.cells rfl (kV O);have d6:=m3.load (P:=prog) (k:=11) rfl;have y1:=(d0.C.on f).trans (c13.below (B:=H.heap.size) (fun i hi=>by have:=(d0.C).size; omega) (d0.C.on f).size);have q2:=K.a.below y1;have d3:=aB K.D y1.size;have l5:=kp (Kb p ps O m5 q2 d3 A.a (by have:=J.a; rw[m2.o]at this; exact this) (by rw[←m2.o]; exact Yg A.a A.b Y.a.1));have m1:=k'5 y1 m3 (aB d0.C.size m4) d3 q2;clear f l4 m4 m3 c13 y1 q2 d3 z5;go_wp2_with fail;refine (l5.o).mono ?_;rintro e j2 ⟨rfl,p1,y0,d1⟩;have e5:=y0.blk K.a m1.c m1.b;have z3:=y0.o;have q1:=k'4 (show p1.r.commit=p.r.commit from bA (fun q:Wp=>q.r.commit) d1) (show p1.r.nodes=p.r.nodes from bA (fun q:Wp=>q.r.nodes) d1) (show p1.ms.length=p.ms.length by have:=bA (fun q:Wp=>q.ms.length) d1; simpa [WkV.x,Wp.keep] using this) d1;have o0:=k'4 (z3.below (bL (aH _ _))) (e5.grow (bL (aH _ _))) ((e0.o (y0.pre m1.a)).post (bL (aH _ _))) (aB m1.d (aB y0.size (bL (aH j2.heap.size j2)).size));clear d6 y0 d1 e5 z3;go_wp2_with fail;refine fM 11 (fun W'=>Below j2.drew.heap.size j2.drew W') (fun _=>jK) (by kernel_rfl) (by kernel_rfl) (aH _ _) ?_;refine bE ?_; apply Exists.intro;refine bJ (Yq g) ?_
  iterate 2 (refine bE ?_; apply Exists.intro)
  refine bJ (Yu base O) ?_
  iterate 5 (refine bE ?_; apply Exists.intro)
  refine bJ (Yv base p.r.k.x.last p.r.commit O) ?_;refine cC ⟨?_,?_⟩
  rotate_left
  apply bB (by kernel_rfl) (by intro t w h; cases h; exact trivial) rfl
  .intro W' f j; go_wp2_with fail;exact⟨rfl,_,rfl,f,aH _ _,rfl⟩
  simp only[Act.put,aE,aC,aD];refine⟨fun W' f j=>?_,fun u1=>?_⟩
  .go_wp2_with fail;refine (Xx g W').mono ?_;rintro e w2 ⟨rfl,a2,j4⟩;go_wp2_with fail;exact⟨rfl,_,rfl,f.on j4,j4,⟨_,rfl,a2⟩⟩
  simp only[Act.put,aE,aC,aD];apply bB (by kernel_rfl) (by intro t w h; cases h; exact trivial) rfl
  .intro W' f j; go_wp2_with fail;exact⟨rfl,_,rfl,f,aH _ _,rfl⟩
  simp only[Act.put,aE,aC,aD];apply bB (by kernel_rfl) (by intro t w h; cases h; exact trivial) rfl
  .intro W' f j; have q7:=(o0.b.grow f).load (P:=prog) (k:=11) rfl; go_wp2_with fail;exact⟨rfl,_,rfl,f,aH _ _,rfl⟩
  simp only[Act.put,aE,aC,aD];refine⟨fun W' f j=>?_,fun u4=>?_⟩
  .go_wp2_with fail;have hb:=ba' W' (.cells O.cells.toArray 122);have ho:Ow (W'.alloc (.cells O.cells.toArray 122)) base 122 11 (.slice (some ⟨W'.heap.size,0,none⟩) 1 1) En.cells [O]:=by
    have h9:=World.ownsRow_lit (e:=122) (size:=11) W' O.cells.toArray 1 (aB o0.D f.size) (by unfold maxLen; omega) rfl;unfold Ow;simpa [aO] using h9
   exact⟨rfl,_,rfl,f.on hb,hb,⟨_,rfl,ho⟩⟩
  simp only[Act.put,aE,aC,aD]
  iterate 4
   apply bB (by kernel_rfl) (by intro t w h; cases h; exact trivial) rfl
   .intro W' f j; go_wp2_with fail;exact⟨rfl,_,rfl,f,aH _ _,rfl⟩
   simp only[Act.put,aE,aC,aD]
  apply bB (by kernel_rfl) (by intro t w h; cases h; exact trivial) rfl
  .intro W' f j; have q7:W'.cell? ⟨g,7,none⟩=some (.i p.r.commit):=(by rw[←q1.a]; exact (o0.a.below f).blk.cell 7); go_wp2_with fail;exact⟨rfl,_,rfl,f,aH _ _,rfl⟩
  simp only[Act.put,aE,aC,aD];refine⟨fun W' f j=>?_,fun d2=>?_⟩
  .have f4:=j 124 (bO (by kernel_rfl));obtain⟨b,rfl,ho⟩:=f4;have y6:=Yt p.r.k.x.last p.r.commit O b;go_wp2_with fail;exact⟨rfl,_,rfl,f,aH _ _,⟨_,rfl,ho⟩⟩
  simp only[Act.put,aE,aC,aD];intro o5 f j;obtain⟨gb,rfl,q4⟩:=j 121;obtain⟨b',rfl,ho⟩:=j 130;clear j;simp only[bS,bU];have HT:=kp (Ya p1 ps (Cv p.r.k.x.last p.r.commit O b') o5 (o0.a.below f) q4 ho (by rw[q1.c]; have:=A.E; omega) (aB o0.D f.size) (by rw[q1.b]; exact A.a.nodes) (by show 1≤1000000; decide) (by show (3:Int)≠0; decide));have HB:=kp f;clear f ho q4;go_wp2_with fail;refine (HT.o).mono ?_;rintro e e7 ⟨rfl,p2,a4,a2⟩;have L:=k'2 ((o0.c.post HB.o).trans a4) (show p2.x=q by
   rw[a2,q1.D];have:=J.B;rw[m2.o]at this;exact this)
  clear a4 a2;go_wp2_with fail;go_end0;exact⟨rfl,p2,L.a,L.B⟩;exact⟨pv',pv',pv',pv',pv',pv',pv',pv',pv',pv',pv',pv',pv',pv',pv',pv',fun _ _ _ _ _ ⟨b,e,l,h⟩ hR=>⟨b,e,l,h.grow hR⟩,trivial⟩;exact⟨pv',fun _ _ _ _ _ ⟨b,e,h⟩ hR=>⟨b,e,h.grow hR⟩,pv',pv',fun _ _ _ _ _ ⟨b,e,h⟩ hR=>⟨b,e,h.below hR⟩,pv',pv',pv',pv',pv',fun _ _ _ _ _ ⟨b,e,h⟩ hR=>⟨b,e,h.below hR⟩,trivial⟩
 .exact⟨pv',pv',pv',pv',pv',pv',pv',pv',fun _ _ _ _ _ h _=>h,fun _ _ _ _ _ h _=>h,fun _ _ _ _ _ h _=>h,fun _ _ _ _ _ h _=>h,fun _ _ _ _ _ h _=>h,fun _ _ _ _ _ h _=>h,trivial⟩
end
section
attribute [-go_sem] loadCellsFrom storeCells run_eql_struct run_neq_struct Instr.build
attribute [local go_sem] aX RcV.fold oF Kf
theorem Yx(v:Value)(l:List En)(a:Int)(B:Nat)(w:World)(h:Sl w B v En.cells l)(L:B≤w.heap.size)(Q:l.length≤1000000)(J:∀e∈l,inR e.n)(X:0≤a)(Y:a≤900000000):
  Calls prog 193 #[v,.i a] w fun e U=>e=.returned (.bool (eO a l))∧Bw' w U:=by
 obtain⟨A,c,rfl,K,M,O⟩:=h;obtain⟨n,s⟩:=nm' l.length;rw[s]at Q ⊢;have H:=k'3 K s J;clear K M O s J;go_enter func193,ntmps193;go_wp2_with fail
 go_loopw [9] (fun i wr=>∃k:Nat,k≤n∧i=.i k∧eO a (l.take k)=true∧Bw' w wr) (fun i _=>n-(intOf i).toNat)
 case atStart=>exact⟨0,by omega,rfl,rfl,aH _ _⟩
 case round=>
  obtain⟨k,Z,rfl,G,E⟩:=hrel;have r:=kp G;have f:=kp E;clear G E
  by_cases a0:k<n
  .have W:(k:Int)<(n:Int):=by omega
   have j:k<l.length:=by have:=H.b; omega
   obtain⟨b,e0,rfl,-,F,I⟩:=iS (P:=prog) 11 En.cells eM (by omega) (H.a.below f.o L) k j;have T:=F 0 _ rfl;have S:=I 0;change Sem.run _ _ wr=.ok _ wr at S;simp only[dW]at T;have p:=H.C _ (cU j);have D:=k'2 (Br (a:=a) k j r.o) (Hy (a:=a) k j r.o);clear F I;generalize l[k]'j=x at *;have b0:=p.1;have d0:=p.2;have V:=kp p;clear p
   by_cases g:x.n=a+k+1
   .have N:(wrap64 (wrap64 (x.n-1)-k) != a)=false:=by rw[g]; unfold wrap64; simp; omega
    have q:=kp g;clear g;have d:=Blk.new wr 122 z'3;have R:=d.store (P:=prog) (cs':=x.cells) rfl (kV x);have m:=d.set x.cells;have z:=kp (f.o.trans (((eU (ba' wr (.cells z'3a 122)) (aN _) x.cells.toArray)).mono f.o.size));have y:=m.cell 0;change _=some (Value.i x.n)at y;clear m d;go_wp2_with fail;go_roundw
    case rel=>exact⟨k+1,by omega,by go_num,D.B q.o,z.o⟩
    case measure=>simp[intOf]; omega
   .have N:(wrap64 (wrap64 (x.n-1)-k) != a)=true:=by unfold wrap64; simp; omega
    have q:=kp g;clear g;have d:=Blk.new wr 122 z'3;have R:=d.store (P:=prog) (cs':=x.cells) rfl (kV x);have m:=d.set x.cells;have z:=kp (f.o.trans (((eU (ba' wr (.cells z'3a 122)) (aN _) x.cells.toArray)).mono f.o.size));have y:=m.cell 0;change _=some (Value.i x.n)at y;clear m d;go_wp2_with fail;go_ret;exact⟨by rw[D.a,dR q.o]; rfl,z.o⟩
  .obtain rfl:k=n:=by omega
   go_wp2_with fail;go_ret;have:=r.o;rw[eF (by have:=H.b; omega)]at this;exact⟨by rw[this]; rfl,f.o⟩
theorem Yy(b j n c d:Nat)(w:World)(q:d<n)(p:n≤c):Sem.run prog (Instr.slice 33 (.slice (some ⟨b,j,none⟩) n c) (some (.i (d:Int))) none none) w=.ok (.slice (some ⟨b,j+d*11,none⟩) (n-d) (c-d)) w:=by
 have e:(0:Int)≤(d:Int)∧(d:Int)≤(n:Int)∧(n:Int)≤c:=by omega
 have o:d≤n:=by omega
 have f:¬c=d:=by omega
 have k:((n:Int)-d).toNat=n-d:=by omega
 have l:((c:Int)-d).toNat=c-d:=by omega
 have m:d<c:=by omega
 obtain⟨i,g,-,h,-⟩:=info_parts xB
 by_cases a:d=0
 .subst a;simp[Instr.slice,run_underlying tV,Instr.sliceBounds,Instr.sliceBound,asIntOf,e,sizeOf,typeInfo,g,h,Addr.add,f,p]
 .simp[Instr.slice,run_underlying tV,Instr.sliceBounds,Instr.sliceBound,asIntOf,e,sizeOf,typeInfo,g,h,Addr.add,o,f,k,l,m,a];omega
theorem Sl.drop{α:Type}{enc:α→List Value}{w:World}{B k b m n c:Nat}{l:List α}(g:∀a,(enc a).length=k)(h:Sl w B (.slice (some ⟨b,m,none⟩) n c) enc l)(d:Nat)(r:d≤n):Sl w B (.slice (some ⟨b,m+d*k,none⟩) (n-d) (c-d)) enc (l.drop d):=by
 obtain⟨A,c',e,f,q,s⟩:=h
 cases e;refine⟨_,_,by rw[dM],?_,by rw[dM]; omega,by omega⟩;rcases f with f|⟨p,x,e,o,f⟩
 .left;rw[←sR k g,f,List.drop_nil]
 .cases e;refine .inr ⟨_,_,rfl,o,fun j u i=>?_⟩;rw[←sR k g,lG]at i;rw[lW];exact f _ u i
theorem Sl.take{α:Type}{enc:α→List Value}{w:World}{B n c:Nat}{A:Option Addr}{l:List α}(h:Sl w B (.slice A n c) enc l)(k:Nat)(g:k≤n):Sl w B (.slice A k c) enc (l.take k):=by
 obtain⟨m,c',e,a,p,i⟩:=h
 cases e;refine⟨_,_,by rw[cL,nO g],?_,by rw[cL]; omega,i⟩;have b:aO enc l=aO enc (l.take k)++aO enc (l.drop k):=by rw[←kE,tM]
 rcases a with a|⟨o,q,e,f,a⟩
 .left;rw[a]at b;exact (List.append_eq_nil_iff.1 b.symm).1
 .refine .inr ⟨_,_,e,f,fun j u d=>a j u ?_⟩;rw[b,pP (iZ.1 d).1];exact d
theorem Yz(p:KpV)(B:Nat)(w:World)(h:kJ w B p)(f:B≤w.heap.size)(r:dY p.x=true)(s:KdR p.x)(C:p.image.size≤1000000)(q:0≤p.base∧p.base≤900000000)(D:p.es.length≤4000):
  Calls prog 192 #[.agg p.cells.toArray] w fun e F=>e=.returned (.i p.x.last)∧Bw' w F:=by
 obtain⟨n,I,j,c,H⟩:=par w 35 p.cells;have d:=Sl.below h c f;have g:=aB f c.size;have z:=kp (by have:=pI p B n d g (by omega) s (by unfold maxLen; omega); rw[r]at this; exact this);have y:=kp (fun W(b:Bw' n W)=>xV p W B (Sl.below d b g) q (by omega));have E:=j.load (P:=prog) (k:=5) rfl;have m:=k'2 j c;clear j c H d h f g r s C q D;go_enter func192,ntmps192;go_wp2_with fail;refine mb' (z.o) fun G i=>?_;have l2:=(m.a.grow i).load (P:=prog) (k:=5) rfl;have l:=kp i;clear i E;unfold dG;go_wp2_with fail;refine mb' (y.o G l.o) fun J A=>?_;go_wp2_with fail;go_ret;exact⟨rfl,m.B.on (l.o.on A)⟩
theorem Za(p:KpV)(f i:Int)(B:Nat)(w:World)(h:kJ w B p)(G:B≤w.heap.size)(U:dY p.x=true)(X:KdR p.x)(hi:p.image.size≤1000000)(j:0≤p.base∧p.base≤900000000)(hn:p.es.length≤4000)(h1:p.base≤f)(h2:f<p.x.last)(h3:1≤i):
  Calls prog 108 #[.agg p.cells.toArray,.i f,.i i] w fun e Y=>∃v,e=.returned v∧Ow Y w.heap.size 122 11 v En.cells (kN p.x f i)∧Bw' w Y:=by
 obtain⟨F,a0,K,y,z1⟩:=par w 35 p.cells;have r:=Sl.below h y G;have n:=aB G y.size;have J:p.x.last=p.base+p.es.length:=rfl;obtain⟨d,S⟩:∃d:Nat,(f-p.base).toNat=d:=⟨_,rfl⟩
 obtain⟨k,V⟩:∃k:Nat,min i.toNat (p.es.length-d)=k:=⟨_,rfl⟩
 obtain⟨A,c,I,q,R,hm⟩:=id r;obtain⟨b,g,rfl⟩:∃b g,A=some ⟨b,g,none⟩:=by
  rcases q with q|⟨b,g,e,-⟩
  .cases hes:p.es with
   |nil=>rw[hes]at J; simp at J; omega
   |cons e l=>rw[hes]at q; simp[aO,En.cells]at q
  .exact⟨b,g,e⟩
 have O:kN p.x f i=(p.es.drop d).take k:=by
  unfold kN;rw[aF (by omega),show (f-p.x.base).toNat=d from S,←V,←dM];show (p.es.drop d).take _=_;rw[List.take_eq_take_min]
 rw[O];have T:d<p.es.length:=by omega
 have HR:=kp (by have:=pI p B F r n (by omega) X (by unfold maxLen; omega); rw[U]at this; exact this);have HL:=kp (fun W(b:Bw' F W)=>xV p W B (Sl.below r b n) j (by omega));have Z:=kp (fun W(N:Bw' F W)=>fam'3.2.2.2.2.1 (.slice (some ⟨b,g+d*11,none⟩) k (c-d)) ((p.es.drop d).take k) B W (Sl.take (Sl.drop eM (I▸Sl.below r N n) d (by omega)) k (by omega)) (aB n N.size) (by rw[cL,dM]; omega));have l0:=K.load (P:=prog) (k:=5) rfl;have m:=k'3 K y I;have g1:¬i<1:=by omega
 have g2:¬p.x.last≤f:=by omega
 have j0:wrap64 (f-p.base)=(d:Int):=by unfold wrap64; omega
 have g0:max (0:Int) (d:Int)=d:=by omega
 have e0:min i ((p.es.length-d:Nat):Int)=(k:Int):=by omega
 have d0:=fun w=>Yy b g p.es.length c d w T R;have b0:=fun w=>Iy (some ⟨b,g+d*11,none⟩) (p.es.length-d) (c-d) k w (by omega);clear K y z1 r h G n U X hi j hn J S V q R hm O T h1 h2 h3 I;go_enter func108,ntmps108;go_wp2_with fail;refine mb' (HR.o) fun w2 H=>?_;have l2:=(m.a.grow H).load (P:=prog) (k:=5) rfl;have s:=kp H;clear H l0;unfold dG;go_wp2_with fail;refine mb' (HL.o w2 s.o) fun E z=>?_;have k4:E.cell? ⟨w.heap.size,4,none⟩=some (.slice (some ⟨b,g,none⟩) p.es.length c):=by rw[←m.C]; exact ((m.a.grow s.o).grow z).cell 4
 have k2:E.cell? ⟨w.heap.size,2,none⟩=some (.i p.base):=((m.a.grow s.o).grow z).cell 2;have L:=kp (s.o.on z);clear z l2;go_wp2_with fail;refine (Z.o E L.o).mono ?_;rintro e w4 ⟨v,rfl,D,Q⟩;have D:Ow w4 E.heap.size 122 11 v En.cells ((p.es.drop d).take k):=D;have j:=m.b.on L.o;have M:=k'2 (D.mono j.size) (j.on Q);clear D j Q k2 k4;go_wp2_with fail;go_ret;exact⟨_,rfl,M.a,M.B⟩
theorem Zb{last:Int}{l:List En}{k:Nat}(a:k<l.length):((l.take (k+1)).filter fun e=>decide (last<e.n)).map gQ=((l.take k).filter fun e=>decide (last<e.n)).map gQ++if last<(l[k]).n then [gQ l[k]] else []:=by
 rw[fE a,rJ,fW]
 congr 1
 by_cases h:last<(l[k]).n<;>simp[h]
theorem Zc(p:KpV)(f:Int)(v:Value)(l:List En)(B:Nat)(w:World)(h:kJ w B p)(hv:Sl w B v En.cells l)(J:B≤w.heap.size)(K:dY p.x=true)(X:KdR p.x)(hi:p.image.size≤1000000)(hb:0≤p.base∧p.base≤900000000)(hn:p.es.length≤4000)(ht:p.x.last≤900000000)(hl:l.length≤2000)(hr:∀e∈l,inR e.n):
  Calls prog 144 #[.agg p.cells.toArray,.i f,v] w fun e w'=>∃u,e=.returned (.tuple #[u,.bool (kO p.x f l)])∧Ow w' w.heap.size 124 17 u RcV.cells (if kO p.x f l=true then (l.filter fun e=>decide (p.x.last<e.n)).map gQ else [])∧Bw' w w':=by
 obtain⟨r,a2,x1,D,z1⟩:=par w 35 p.cells;have V:=Sl.below h D J;have U:=Sl.below hv D J;have m:=aB J D.size;have HL:=kp (Yz p B r V m K X hi hb hn);have HR:=kp (fun W(b:Bw' r W)=>by have:=pI p B W (Sl.below V b m) (aB m b.size) (by omega) X (by unfold maxLen; omega); rw[K]at this; exact this);have l0:=x1.load (P:=prog) (k:=5) rfl;obtain⟨g,E⟩:=nm' p.x.last;have Q:=kp (fun W(b:Bw' r W)(h0:0≤f)(h9:f≤900000000)=>Yx v l f B W (Sl.below U b m) (aB m b.size) (by omega) hr h0 h9);have j:=k'6 x1 D U m hl (E▸ht);rw[E]at HL;have hj:kO p.x f l=((decide (0≤f)&&decide (f≤g))&&eO f l):=by unfold kO aG; rw[E]
 rw[hj,E];obtain⟨fo,p0⟩:=nm' (eO f l);rw[p0]at Q ⊢;clear x1 D z1 V U m h hv J K X hi hb hn ht hl hr E hj p0;have g0:(f<0∧(decide (0≤f)&&decide (f≤g))=false)∨(¬f<0∧g<f∧(decide (0≤f)&&decide (f≤g))=false)∨(¬f<0∧¬g<f∧(decide (0≤f)&&decide (f≤g))=true):=by
  by_cases a:0≤f<;>by_cases b:f≤g<;>simp[a,b]<;>omega
 obtain⟨o,y⟩:=nm' (decide (0≤f)&&decide (f≤g));rw[y]at g0 ⊢;have HN:=kp (show o=true→0≤f∧f≤g by rw[←y]; simp);clear y;go_enter func144,ntmps144;go_wp2_with fail;refine mb' (HL.o) fun w2 S=>?_;have l2:=(j.a.grow S).load (P:=prog) (k:=5) rfl;have a0:=kp S;clear S l0;go_wp2_with fail;refine mb' (HR.o w2 a0.o) fun w3 j0=>?_;have G:=kp (a0.o.on j0);clear j0 l2;unfold dG;rcases g0 with⟨g1,rfl⟩|⟨g1,g2,rfl⟩|⟨g1,g2,rfl⟩
 .go_wp2_with fail;go_ret2;exact⟨_,rfl,Ow.nil _ _ _ _ _,j.b.on G.o⟩
 .go_wp2_with fail;go_ret2;exact⟨_,rfl,Ow.nil _ _ _ _ _,j.b.on G.o⟩
 go_wp2_with fail;refine mb' (Q.o w3 G.o (HN.o rfl).1 (by have:=(HN.o rfl).2; have:=j.F; omega)) fun w4 m0=>?_;have b0:=kp (G.o.on m0);clear m0 Q
 cases fo
 .go_wp2_with fail;go_ret2;exact⟨_,rfl,Ow.nil _ _ _ _ _,j.b.on b0.o⟩
 obtain⟨A,c,y1,l1,-,-⟩:=j.c;subst y1;obtain⟨n,L⟩:=nm' l.length;rw[L];have N:=k'2 l1 L;have d2:n≤2000:=L▸j.e;clear l1 L;go_wp2_with fail
 go_loopw [9,34] (fun u i wr=>∃k:Nat,k≤n∧i=.i k∧Ow wr r.heap.size 124 17 u RcV.cells (((l.take k).filter fun e=>decide (g<e.n)).map gQ)∧Bw' r wr) (fun _ i _=>n-(intOf i).toNat)
 case atStart=>exact⟨0,by omega,rfl,Ow.nil _ _ _ _ _,b0.o⟩
 case round=>
  obtain⟨k,K,rfl,y,o0⟩:=hrel;have O:=kp y;have H:=kp o0;clear y o0
  by_cases b2:k<n
  .have g3:(k:Int)<(n:Int):=by omega
   have T:k<l.length:=by have:=N.B; omega
   obtain⟨b,j2,rfl,-,o1,a1⟩:=iS (P:=prog) 11 En.cells eM (by omega) (N.a.below H.o j.d) k T;have q0:=a1 0;change Sem.run _ _ wr=.ok _ wr at q0;have HT:=kp (Zb (last:=g) T);clear o1 a1;generalize l[k]'T=x at *;obtain⟨I,m1,s5,M,s,-⟩:=eJ wr 122 z'3 x.cells rfl (kV x);have k0:I.cell? ⟨wr.heap.size,0,none⟩=some (.i x.n):=M.cell 0;have l5:=M.load (P:=prog) (k:=11) rfl
   by_cases z0:g<x.n
   .obtain⟨W6,e0⟩:=nm' (I.alloc (.cells (gQ x).cells.toArray 124));have Z:=gG (enc:=RcV.cells) I 124 (gQ x);have Y:=(O.o.below s).alloc (.cells (gQ x).cells.toArray 124);have R:=ba' I (.cells (gQ x).cells.toArray 124);rw[e0]at Z Y R;have q:=k'3 Z Y (H.o.on (s.on R));have d1:(((l.take k).filter fun e=>decide (g<e.n)).map gQ).length≤2000:=by
     rw[dD];exact aB (nI _ _) (by rw[cL]; have:=j.e; omega)
    have d0:=kp d1;clear M s Z Y R d1;go_wp2_with (at_builtin; refine jD (enc:=RcV.cells) W6 rfl (.tmp 42) (.tmp 45) 66 rfl r.heap.size 124 Jm underlying66 rfl (by omega) oF q.b rfl q.a rfl (fun a ha=>by rw[bZ.1 ha]; exact Cp rfl) ?_ ?_ q.C.size ?_)
    .have:=d0.o; unfold maxLen; simp only[lH]; omega
    .have:=d0.o; simp only[lH]; omega
    intro v7 w7 j1 q1 y0 p1;have z:=k'2 j1 (q.C.trans (q.b.grew y0 q.C.size));clear j1 q1 y0 p1 m1 e0 s5 l5 k0;go_wp2_with fail;go_roundw
    case rel=>exact⟨k+1,by omega,by go_num,by rw[HT.o,aK z0]; exact z.a,z.B⟩
    case measure=>simp[intOf]; omega
   .have z:=k'2 (O.o.below s) (H.o.on s);clear M s;go_wp2_with fail;go_roundw
    case rel=>exact⟨k+1,by omega,by go_num,by rw[HT.o,aF z0,fG]; exact z.a,z.B⟩
    case measure=>simp[intOf]; omega
  .obtain rfl:k=n:=by omega
   go_wp2_with fail;go_ret2;refine⟨_,rfl,?_,j.b.on H.o⟩;have:=O.o;rw[eF (by have:=N.B; omega)]at this;exact this.mono j.b.size
end
end Go.Proofs.YtoncgpddjmgbfaaGreat
