import Derived.Test.YtoncgpddjmgbfaaGreatZ17
import Derived.Test.YtoncgpddjmgbfaaGreatZ34
import Derived.Test.YtoncgpddjmgbfaaGreatZ35
import Derived.Test.YtoncgpddjmgbfaaGreatZ36
import Derived.OpenShut
namespace Go.Proofs.YtoncgpddjmgbfaaGreat
open Go.RowKit Go.Proofs.Tryz
set_option maxRecDepth 100000
set_option maxHeartbeats 12800000
set_option linter.unusedVariables false
set_option linter.unusedSimpArgs false
section
attribute [-go_sem] loadCellsFrom storeCells run_eql_struct run_neq_struct Instr.build
attribute [local go_sem] aX
theorem cD.fold(p:cD):List.foldl (fun(a:Array Value)(x:Value×Nat)=>a.setIfInBounds x.snd x.fst) #[.i 0,.i 0,.i 0,.i 0,.i 0,.bool false,.i 0,.i 0,.i 0,.i 0,.i 0,.i 0,.i 0] p.cells.zipIdx=p.cells.toArray:=by
 simp[cD.cells,Opn.cells]
attribute [local go_sem] cD.fold Dd
theorem aBL:(prog.info? 54).map (fun i=>(i.zero,i.size,i.bytes))=some (some (.agg eK.toArray),13,104):=by kernel_rfl
theorem aBM(w:World):Calls prog 14 #[.i 4,.i 1,.i 3] w fun e b=>e=.returned (.tuple #[.pointer none,.i 1])∧Bw' w b:=by
 have h:=kp (Jj w);go_enter func14,ntmps14;go_wp2_with fail;refine mb' (h.o) fun i d=>?_;obtain⟨a,k,l,j,c,-⟩:=eJ i 35 z'8 kp3.cells rfl (sV rfl);have g:=kp (show Calls prog 34 #[.i 4] a fun e b=>e=.returned (.bool false)∧b=a from sU 4 a ⟨by decide,by decide⟩);have f:=kp (d.on c);clear j c d;go_wp2_with fail;refine ms' (g.o) ?_;go_wp2_with fail;go_ret2;exact⟨rfl,f.o⟩
def Ls:bC:=⟨nD,nD,nD,.slice none 0 0,.pointer none⟩
theorem aBN(w:World):(Instr.build 80 #[(0,.i 3)]).run prog w=.ok (.agg Ls.cells.toArray) w:=run_build w _ _ _ (by kernel_rfl)
theorem aBO(p:RpV)(k:KpV)(w:World):(Instr.build 65 #[(0,.agg p.cells.toArray),(1,.agg k.cells.toArray),(3,.i (-1))]).run prog w=.ok (.agg (fV.of p k).cells.toArray) w:=run_build w _ _ _ (by kernel_rfl)
theorem aBP{p:RpV}{w:World}{base:Nat}{a:List ObV}(h:RpO w base p a):∀u∈(fV.of p p.k).cells,u.oneCell'=true:=aBq (s:=fV.of p p.k) (lT h.rpAt) (Bt h.rpAt.1)
structure nE(w W:World)(base g bg:Nat)(k:Nat):Prop where
 o:∃(q:bC)(ps:Nat→List ObV),base≤g∧Blk W g 80 q.cells∧q.net=.pointer (some ⟨bg,0,none⟩)∧q.cv=.slice none 0 0∧dI W base bg 200 (.slice none 0 0) []∧∀j,j<k→j<3→RpO W base (q.seat j).r (ps j)∧(q.seat j).r.x=rN ((j:Int)+1)∧(q.seat j).down=false∧(q.seat j).armed= -1
 b:Below base w W
theorem nE.below{w W W':World}{base g c k:Nat}(h:nE w W base g c k)(a:Bw' W W')(i:base≤W.heap.size):nE w W' base g c k:=by
 obtain⟨q,s,l,m,n,p,r,d⟩:=h.o;exact⟨⟨q,s,l,m.grow a,n,p,r.below a,fun j e f=>⟨(d j e f).1.below a,(d j e f).2⟩⟩,h.b.trans (a.mono i)⟩
theorem nE.sit{w W W':World}{base g c k:Nat}{q:bC}{a:Nat→List ObV}{p:RpV}{b:List ObV}(D:k<3)(m:base≤g)(n:Blk W g 80 q.cells)(o:q.net=.pointer (some ⟨c,0,none⟩))(s:q.cv=.slice none 0 0)(y:dI W base c 200 (.slice none 0 0) [])(z:∀j,j<k→j<3→RpO W base (q.seat j).r (a j)∧(q.seat j).r.x=rN ((j:Int)+1)∧(q.seat j).down=false∧(q.seat j).armed= -1)
  (E:RpO W base p b) (F:p.x=rN ((k:Int)+1)) (A:Blk W' g 80 (q.sit k (fV.of p p.k)).cells) (h:Chg (fun i=>i=g) W W') (C:Below base w W) (l:base≤W.heap.size):nE w W' base g c (k+1):=by
 have d:ChT (fun t=>t=80) W W':=ChT.blk n rfl h;refine⟨⟨_,fun j=>if j=k then b else a j,m,A,(bC.sit_cv q k _).2.trans o,(bC.sit_cv q k _).1.trans s,y.tg d (by decide),fun j H e=>?_⟩,C.trans (h.below (B:=base) (fun i G=>by omega) l)⟩
 by_cases f:j=k
 .subst f;rw[bC.sit_self e];show RpO W' base _ (if j=j then b else a j)∧_;rw[aK rfl];exact⟨E.tg d yS,F,rfl,rfl⟩
 .rw[bC.sit_ne D e f];show RpO W' base _ (if j=k then b else a j)∧_;rw[aF f];have:=z j (by omega) e;exact⟨this.1.tg d yS,this.2⟩
def Lt(w W:World)(base g bg k:Nat):Prop:=(k=0∧nE w W base g bg 3)∨(k=1∧∃q ps,ClO W base g q ps bg (.slice none 0 0) [] dZ∧(∀j,j<3→(q.seat j).r.x=rN ((j:Int)+1)∧(q.seat j).down=false∧(q.seat j).armed= -1)∧Below base w W)
def aBQ(v:Value)(W:World):Prop:=∃b,v=.slice (some ⟨b,0,none⟩) 1 1∧b<W.heap.size∧Sl W (b+1) v cD.cells [dZ]
def Lu(B:Nat)(v:Value)(W:World):Prop:=Ow W B 54 13 v cD.cells [dZ]
theorem aBR(w:World):Calls prog 14 #[.i 3,.i 1,.i 3] w fun e w'=>∃g,e=.returned (.tuple #[.pointer (some ⟨g,0,none⟩),.i 0])∧ClS w' w.heap.size g [rN 1,rN 2,rN 3] [] dZ∧Bw' w w':=by
 have HO:=kp (Jj w);go_enter func14,ntmps14;go_wp2_with fail;refine mb' (HO.o) fun w2 l0=>?_;obtain⟨l,d1,s3,x3,b3,z3⟩:=eJ w2 35 z'8 kp3.cells rfl (sV rfl);have HN:=kp (show Calls prog 34 #[.i 3] l fun e w'=>e=.returned (.bool true)∧w'=l from sU 3 l ⟨by decide,by decide⟩);go_wp2_with fail;refine ms' (HN.o) ?_;obtain⟨W4,j1,x4,aQ,z4⟩:=par l 80 Ls.cells;have b1:=kp (aBj 200 W4 (by decide) (by decide));have o1:=aBN l;have I:=k'6 (x3.grow aQ) x4 (l0.on (b3.on aQ)) z4 z3 l0.size;clear x3 b3 z3 x4 aQ z4 l0;go_wp2_with fail;refine (b1.o).mono ?_;rintro e w5 ⟨E,rfl,hB,b0⟩;have y4:=I.b.grow b0;have k5:w5.cell? ⟨l.heap.size,233,none⟩=some (.pointer none):=y4.cell 233;have f5:=y4.frozen 233;have x6:Blk (w5.setCell ⟨l.heap.size,233,none⟩ (.pointer (some ⟨E,0,none⟩))) l.heap.size 80 (bC.cells ⟨nD,nD,nD,.slice none 0 0,.pointer (some ⟨E,0,none⟩)⟩):=y4.setCell 233 _;have c6:=(Chg.refl (fun i=>i=l.heap.size) w5).setCell (.inr rfl) 233 (.pointer (some ⟨E,0,none⟩));obtain⟨W6,l1⟩:=nm' (w5.setCell ⟨l.heap.size,233,none⟩ (.pointer (some ⟨E,0,none⟩)));rw[l1]at x6 c6;have G:=I.c.on b0;have O:=G.trans (c6.below (B:=w.heap.size) (fun i hi=>by have:=I.o; omega) G.size);have g0:=hB.tg (ChT.blk y4 (T:=fun t=>t=80) rfl c6) (by decide);have p0:=((I.a.grow b0).chg c6 (by have:=I.o; omega))
 have H6:=k'3 (show nE w W6 w.heap.size l.heap.size E 0 from⟨⟨_,fun _=>[],aB I.F (dK I.e),x6,rfl,rfl,⟨aB I.c.size g0.b,g0.blk,aM.nil _ _ _ _,fun _ h=>(nomatch h)⟩,fun _ h=>absurd h (Nat.not_lt_zero _)⟩,O⟩) p0 O.size;clear y4 x6 c6 G O g0 p0 hB b0;go_wp2_with fail;clear k5 f5 s3 d1 j1 o1
 go_loopw [48] (fun i wr=>∃k:Nat,k≤3∧i=.i k∧nE w wr w.heap.size l.heap.size E k∧Blk wr w2.heap.size 35 kp3.cells∧w.heap.size≤wr.heap.size) (fun i _=>3-(intOf i).toNat)
 case atStart=>exact⟨0,by decide,rfl,H6.o⟩
 case round=>
  obtain⟨k,hk,rfl,K,hK,y⟩:=hrel
  by_cases d0:k<3
  .have y0:inR ((k:Int)+1):=by unfold inR; omega
   have l3:=hK.load (P:=prog) (k:=5) rfl;have a1:((k:Int)+1)∈[(1:Int),2,3]:=by
    rcases jZ d0 with rfl|rfl|rfl<;>simp
   have HV:=kp (by have:=Xj ((k:Int)+1) 3 kp3 wr.heap.size wr ((Ow.nil wr wr.heap.size 122 11 En.cells).sl eM) (aN _) Dc ⟨y0,⟨by decide,by decide⟩,by decide,by decide⟩; rw[show lZ ((k:Int)+1) 3 kp3.x=some (rN ((k:Int)+1)) from Lh _ a1]at this; exact this);have m:=k'3 K hK y;have g3:(k:Int)<3:=by omega
   have g7:(k:Int)<7:=by omega
   clear K hK y y0 a1;go_wp2_with fail;refine (HV.o).mono ?_;rintro e w4 ⟨p,rs,rfl,e0,o0,a0⟩;have e0:p.x=rN ((k:Int)+1):=e0;obtain⟨M,j0,s5,x5,Q,z5⟩:=eJ w4 50 iE p.cells rfl (lT o0.rpAt);unfold iE at j0 s5;have z:=a0.on Q;have A:=k'4 x5 (o0.below Q) z e0;clear x5 Q z5 o0 a0 z e0 l3;have lx:=fun(r:Blw M)=>(A.a.grow r.h).load (P:=prog) (k:=26) rfl;have ly:=fun(r:Blw M)=>(A.a.grow r.h).loadOff (P:=prog) 2 5 p.k.cells rfl rfl;have b2:=aBO p p.k;go_wp2_with fail;refine mO 9 (by kernel_rfl) (by kernel_rfl) ?_;simp only[lV,kB,bS,bU]
   repeat (go_big_quiet_step (fail))
   refine cI ?_;rintro W6 ⟨⟨_,O⟩,rfl⟩;obtain⟨q,ps,X,R,Y,Z,h5,S⟩:=m.a.o;have J:=A.c.on O;obtain⟨W7,z1,s7,x7,c7⟩:=(R.grow J).off (1+k*33) (fV.of p p.k).cells _ (q.put_seat d0 _) (by rw[bC.len]; have:(fV.of p p.k).cells.length=33:=rfl; omega) (aBP A.b);have hN:nE w W7 w.heap.size l.heap.size E (k+1):=nE.sit d0 X (R.grow J) Y Z (h5.below J) (fun j s z0=>⟨(S j s z0).1.below J,(S j s z0).2⟩) ((A.b.below O).mono m.C) A.D x7 c7 (m.a.b.trans (J.mono m.C)) (aB m.C J.size);have HZ:=k'3 hN ((m.b.grow J).chg c7 (by have:=I.e; omega)) (aB m.C (aB J.size c7.size));clear X R Y Z h5 S J O x7 c7 hN lx ly;go_wp2_with fail;go_roundw
   case rel=>exact⟨k+1,by omega,by go_num,HZ.o⟩
   case measure=>simp[intOf]; omega
  .obtain rfl:k=3:=by omega
   have HP:=k'2 K y;clear K hK y hk d0;go_wp2_with fail
   go_loopw [70] (fun i wr=>∃k:Nat,k≤1∧i=.i k∧Lt w wr w.heap.size l.heap.size E k∧w.heap.size≤wr.heap.size) (fun i _=>1-(intOf i).toNat)
   case atStart=>exact⟨0,by decide,rfl,.inl ⟨rfl,HP.a⟩,HP.B⟩
   case round=>
    obtain⟨k,hk,rfl,hC,y⟩:=hrel;rcases hC with⟨q1,K⟩|⟨rfl,q,ps,hC,hq,G⟩
    .obtain⟨q,ps,X,R,Y,Z,h5,S⟩:=K.o;have m:=k'8 X R Y Z h5 S K.b y;have m0:=aA8 wr;rw[show (1:Int)=(k:Int)+1 by omega]at m0;have HC:=kp m0;have g1:(k:Int)<1:=by omega
     have g2:k<1:=by omega
     clear X R Y Z h5 S K y hk q1 m0;go_wp2_with fail;refine mb' (HC.o) fun w4 a0=>?_;obtain⟨M,j0,s5,x5,Q,z5⟩:=eJ w4 54 eK dZ.cells rfl (kQ dZ);unfold eK at j0 s5;have hD:=bL (aH M.heap.size M);have z:=a0.on (Q.on hD);have A:=k'3 (x5.grow hD) z (m.b.grow z);clear x5 Q z5 a0 z hD;go_wp2_with fail;clear s5;refine fM 10 (fun W'=>Below M.drew.heap.size M.drew W') (fun _=>jK) (by kernel_rfl) (by kernel_rfl) (aH _ _) ?_
     iterate 6 (refine bE ?_; apply Exists.intro)
     refine bJ aBQ ?_;refine bJ (Lu w.heap.size) ?_
     iterate 2 (refine bE ?_; apply Exists.intro)
     refine cC ⟨?_,?_⟩
     rotate_left
     .iterate 6
       apply bB (by kernel_rfl) (by intro t w h; cases h; exact trivial) rfl
       .intro W' n N; have kc:W'.cell? ⟨l.heap.size,232,none⟩=some (.slice none 0 0):=(by have:=(A.C.grow n).cell 232; rw[bC.c_cv,m.d]at this; exact this); have lx:=(A.a.grow n).load (P:=prog) (k:=13) rfl; go_wp2_with fail;exact⟨rfl,_,rfl,n,aH _ _,rfl⟩
       simp only[Act.put,aE,aC,aD]
      refine⟨fun W' n N=>?_,fun u6=>?_⟩
      .go_wp2_with fail;have hs:=gG (enc:=cD.cells) W' 54 dZ;have G:=ba' W' (.cells dZ.cells.toArray 54);have hl:W'.heap.size<(W'.alloc (.cells dZ.cells.toArray 54)).heap.size:=by simp
       generalize W'.alloc (.cells dZ.cells.toArray 54)=W6 at hs G hl ⊢;exact⟨rfl,.slice (some ⟨W'.heap.size,0,none⟩) 1 1,rfl,n.on G,G,⟨W'.heap.size,rfl,hl,hs⟩⟩
      simp only[Act.put,aE,aC,aD];refine⟨fun W' n N=>?_,fun u7=>?_⟩
      .have f6:=N 86 (bO (by kernel_rfl));obtain⟨b,rfl,a2,y1⟩:=f6;have p1:w.heap.size≤W'.heap.size:=aB m.H (aB A.b.size n.size);go_wp2_with (at_builtin; refine jD (enc:=cD.cells) W' rfl (.tmp 84) (.tmp 86) 77 rfl w.heap.size 54 aBL underlying77 rfl (by omega) Dd (Ow.nil _ _ _ _ _) rfl y1 rfl (fun a _=>kQ a) ?_ ?_ p1 ?_)
       .unfold maxLen; decide
       intro v' W8 ho j2 hg d2;have q0:Bw' W' W8:=(Ow.nil W' W'.heap.size 54 13 cD.cells).grew hg (aN _);exact⟨rfl,_,rfl,n.on q0,q0,ho⟩
      simp only[Act.put,aE,aC,aD]
      iterate 2
       apply bB (by kernel_rfl) (by intro t w h; cases h; exact trivial) rfl
       .intro W' n N; go_wp2_with fail;exact⟨rfl,_,rfl,n,aH _ _,rfl⟩
       simp only[Act.put,aE,aC,aD]
      intro W n N;have V:Lu w.heap.size u7 W:=N 87;clear N;obtain⟨L,c8,rfl,_,_⟩:=dO (show Ow W w.heap.size 54 13 u7 cD.cells [dZ] from V);have V:Ow W w.heap.size 54 13 (.slice L 1 c8) cD.cells [dZ]:=V;simp only[bS,bU];have U:=A.C.grow n;have k9:=U.cell 232;have j9:=U.frozen 232;rw[bC.c_cv,m.d]at k9;have x9:Blk (W.setCell ⟨l.heap.size,232,none⟩ (.slice L 1 c8)) l.heap.size 80 (bC.cells ⟨q.a,q.b,q.c,.slice L 1 c8,q.net⟩):=U.setCell 232 _;have c9:=(Chg.refl (fun i=>i=l.heap.size) W).setCell (.inr rfl) 232 (.slice L 1 c8);obtain⟨W9,m1⟩:=nm' (W.setCell ⟨l.heap.size,232,none⟩ (.slice L 1 c8));rw[m1]at x9 c9;have hT:ChT (fun t=>t=80) W W9:=ChT.blk U rfl c9;have z:=A.b.on n;have y:=m.H;have HZ:=kp (show Lt w W9 w.heap.size l.heap.size E (k+1)∧w.heap.size≤W9.heap.size from
       ⟨.inr ⟨by omega,_,ps,⟨m.a,x9,m.c,fun j s=>by
        have:(bC.seat ⟨q.a,q.b,q.c,.slice L 1 c8,q.net⟩ j)=q.seat j:=by rcases jZ s with rfl|rfl|rfl<;>rfl
        rw[this];exact ((m.f j s s).1.below z).tg hT yS,(m.e.below z).tg hT (by decide),OR.of_ow (V.chg_blk U c9 (by decide)) fun _ h _=>h⟩,fun j s=>by
        have:(bC.seat ⟨q.a,q.b,q.c,.slice L 1 c8,q.net⟩ j)=q.seat j:=by rcases jZ s with rfl|rfl|rfl<;>rfl
        rw[this];exact (m.f j s s).2,(m.g.trans (z.mono y)).trans (c9.below (B:=w.heap.size) (fun i hi=>by have:=m.a; omega) (aB y z.size))⟩,aB y (aB z.size c9.size)⟩)
      clear V U x9 c9 hT z y n;go_wp2_with fail;go_roundw
      case rel=>
       iterate 24 apply Exists.intro
       refine⟨⟨k+1,by omega,?_,HZ.o⟩,rfl⟩;go_num
      case measure=>simp[intOf]; omega
     .exact⟨pv',pv',pv',pv',pv',pv',fun _ _ _ _ _ ⟨b,e,h,hs⟩ hR=>⟨b,e,cY h hR.size,Sl.below hs hR h⟩,fun _ _ _ _ _ h hR=>Ow.below h hR,pv',pv',trivial⟩
    .have HF:=kp (show ClS wr w.heap.size l.heap.size [rN 1,rN 2,rN 3] [] dZ∧Bw' w wr from⟨⟨q,ps,E,_,[],hC,rfl,fun j s=>⟨by rw[(hq j s).1]; rcases jZ s with rfl|rfl|rfl<;>rfl,(hq j s).2⟩⟩,G⟩);clear hC hq G y hk;go_wp2_with fail;go_ret2;exact⟨_,rfl,HF.o⟩
end
section
attribute [-go_sem] loadCellsFrom storeCells run_eql_struct run_neq_struct Instr.build
attribute [local go_sem] aX
theorem aBS(w:World):(Instr.build 27 #[(0,.i 2)]).run prog w=.ok (.agg (pO 0).toArray) w:=run_build w _ _ _ (by kernel_rfl)
theorem aBT(w:World):(Instr.build 27 #[(0,.i 2),(2,.i 9)]).run prog w=.ok (.agg (pO 9).toArray) w:=run_build w _ _ _ (by kernel_rfl)
theorem aBU(w:World):(Instr.build 27 #[(0,.i 7),(1,.i 1),(2,.i (-1))]).run prog w=.ok (.agg vS.toArray) w:=run_build w _ _ _ (by kernel_rfl)
theorem aBV(w:World):(Instr.build 27 #[(0,.i 1),(1,.i 1)]).run prog w=.ok (.agg vT.toArray) w:=run_build w _ _ _ (by kernel_rfl)
theorem aBW(w:World):(Instr.build 25 #[(0,.i 1),(3,.i 1)]).run prog w=.ok (.agg opB.cells.toArray) w:=run_build w _ _ _ (by kernel_rfl)
theorem aBX(w:World):(Instr.build 27 #[(0,.i 5),(3,.i 1),(4,.agg opB.cells.toArray)]).run prog w=.ok (.agg tH.toArray) w:=run_build w _ _ _ (by kernel_rfl)
theorem aBY:(prog.info? 85).map (fun i=>(i.zero,i.size,i.bytes))=some (some (.agg (gJ.cells ⟨0,0,dU,0,0⟩).toArray),11,88):=by kernel_rfl
theorem aBZ:∀k,(stN k).length≤2
 |0=>by decide
 |1=>by decide
 |2=>by decide
 |3=>by decide
 |4=>by decide
 |_+5=>by show (1:Nat)≤2; decide
theorem Lv:∀t,fQ t→¬t=85:=fun t a e=>by subst e; revert a; unfold fQ; decide
theorem Lw:∀t,rE t→¬t=85:=fun t a e=>by subst e; revert a; unfold rE; decide
theorem ClS.tg{T:TypeId→Prop}{W W':World}{base g:Nat}{L:List Rp}{N:List Mg}{c:cD}(h:ClS W base g L N c)(f:ChT T W W')(i:∀t,fQ t→¬T t)(d:∀t,rE t→¬T t):ClS W' base g L N c:=by
 obtain⟨q,k,a,bv,j,b,e⟩:=h.o;exact⟨q,k,a,bv,j,b.tg f i d,e⟩
structure yW(w:World)(base g k:Nat)(e:Ending)(w':World):Prop where
 e:∃v l,e=.returned (.tuple #[v,.i 0])∧Sl w' w'.heap.size v gJ.cells l∧l=if k=5 then [mH 0 1] else []
 s:if k=5 then ClS w' base g (stL 5) [] kR else ClS w' base g (stL (k+1)) (stN (k+1)) dC
 g:ClG base w w'
theorem aB0{base g k:Nat}(w:World)(K:k≤5)(h:ClS w base g (stL k) (stN k) dC):Calls prog 4 #[.pointer (some ⟨g,0,none⟩),.agg (pO 0).toArray] w (yW w base g k):=by
 obtain⟨q,L,I,bv,A,p,c,C⟩:=h.o;have F:A.length≤100:=by have f:=bA List.length c; have J:=aBZ k; rw[dD]at f; omega
 refine Lr w (yW w base g k) p (fun _=>C) F (fun W B=>.inl ⟨rfl,?_⟩) (fun e j h=>by obtain⟨v,l,e,-⟩:=h.e; exact⟨_,_,e⟩)
 by_cases n:k=5
 .subst n
  match A,c with
  |m::l,c=>
   have b:m.x=vL:=by injection c
   have y:l.map (·.x)=[]:=by injection c
   refine⟨m,l,rfl,.inr ⟨⟨bA Mg.kind b,bA Mg.src b,bA Mg.dst b,bA Mg.seq b,bA Mg.view b,bA Mg.ok b⟩,rfl,fun e j d=>?_⟩⟩;obtain⟨v,E,D⟩:=d.e;rw[show m.code=0 from bA Mg.code b,show m.value=1 from bA Mg.value b]at D;refine⟨⟨v,_,E,D,by rw[aK rfl]⟩,?_,(ClG.of_below B p.sz).trans d.g⟩;rw[aK rfl,←y];exact d.s
 .obtain⟨i,G,H,r,R,a⟩:=aBh k (by omega);rw[a.net]at c
  match A,c with
  |m::l,c=>
   have b:m.x=G:=by injection c
   have y:l.map (·.x)=H:=by injection c
   have z:(q.seat i).r.x=r:=by have f:=(C i a.lt).1; rw[a.at_]at f; exact (Option.some.inj f).symm
   refine⟨m,l,rfl,.inl ⟨i,R,⟨a.lt,(bA Mg.dst b).trans a.dst,by rw[z]; exact a.right,by rw[z]; exact a.rx,by rw[b]; exact⟨a.mg.1,a.mg.2.1,a.mg.2.2.1⟩,by rw[z,b]; exact a.hear,a.real,a.few⟩,fun e j d=>?_⟩⟩;refine⟨⟨.slice none 0 0,[],d.e,(Ow.nil j j.heap.size 85 11 gJ.cells).sl vQ,by rw[aF n]⟩,?_,(ClG.of_below B p.sz).trans d.g⟩;rw[aF n,a.nxt,a.net2,←y];exact d.s
theorem aB1{base g k:Nat}(w:World)(b:k≤5)(h:ClS w base g (stL k) (stN k) dC):Calls prog 15 #[.pointer (some ⟨g,0,none⟩)] w fun e f=>∃v,e=.returned v∧yW w base g k (.returned (.tuple #[v,.i 0])) f:=by
 have c:=kp (aB0 w b h);have i:=aBS w;clear h b;go_enter func15,ntmps15;go_wp2_with fail;refine (c.o).mono ?_;rintro e j a;obtain⟨v,l,rfl,-⟩:=a.e;have d:=kp a;clear a;go_wp2_with fail;go_ret;exact⟨v,rfl,d.o⟩
theorem aB2{base g:Nat}(w:World)(h:ClD w base g):Calls prog 4 #[.pointer (some ⟨g,0,none⟩),.agg (pO 9).toArray] w (yV w base):=by
 obtain⟨q,l,j,bv,k,c,a,f,-⟩:=h.o;subst f;exact Lr (L:=[]) w (yV w base) a (fun h=>absurd h (by decide)) (by decide) (fun W d=>.inr ⟨rfl,rfl,fun e i b=>⟨b.e,(ClG.of_below d a.sz).trans b.g⟩⟩) (fun e i h=>⟨_,_,h.e⟩)
structure tI(w W:World)(g k:Nat)(l:Value):Prop where
 l:Ow W w.heap.size 85 11 l gJ.cells (if k=6 then [mH 0 1] else [])
 s:if k=6 then ClS W w.heap.size g (stL 5) [] kR else ClS W w.heap.size g (stL k) (stN k) dC
 b:Bw' w W
theorem ClS.sz{W:World}{base g:Nat}{L:List Rp}{N:List Mg}{c:cD}(h:ClS W base g L N c):base≤W.heap.size:=by
 obtain⟨q,f,b,bv,e,a,d⟩:=h.o;exact a.sz
theorem tI.next{w W a d:World}{g k:Nat}{l v l':Value}(y:k≤5)(h:tI w W g k l)(j:yW W w.heap.size g k (.returned (.tuple #[v,.i 0])) a)(m:Ow d w.heap.size 85 11 l' gJ.cells (if k=5 then [mH 0 1] else []))(p:Ow a w.heap.size 85 11 l gJ.cells [])(o:a.grownBy d l.ownBlock):tI w d g (k+1) l':=by
 have n:ChT (fun t=>t=85) a d:=ChT.of (eX o) fun i q _=>by
  obtain⟨c0,x,e⟩:=p.tag q;exact⟨_,_,_,e,rfl⟩
 have r:w.heap.size≤a.heap.size:=aB h.b.size j.g.b.size;refine⟨?_,?_,(h.b.trans j.g.b).trans (p.grew o r)⟩
 .by_cases c:k=5
  .subst c; exact m
  .rw[aF c]at m; rw[aF (by omega)]; exact m
 .have f:=j.s
  by_cases c:k=5
  .subst c; rw[aK rfl]at f ⊢; exact f.tg n Lv Lw
  .rw[aF c]at f; rw[aF (by omega)]; exact f.tg n Lv Lw
theorem aB3(w:World):Calls prog 7 #[] w fun e w'=>e=.returned (.bool true)∧Bw' w w':=by
 have T:=kp (aBR w);go_enter func7,ntmps7;go_wp2_with fail;refine (T.o).mono ?_;rintro e w1 ⟨g,rfl,h,Z⟩;have g0:=kp (aBM w1);have R:=k'2 h Z;clear h Z T;go_wp2_with fail;refine mb' (g0.o) fun P L=>?_;have J:=kp (aBI P (R.a.below L));have H2:=kp (R.B.on L);have aJ:=aBW P;have aL:=aBX P;clear L;go_wp2_with fail;refine (J.o).mono ?_;rintro e w3 ⟨rfl,Y,j⟩;have H3:=kp (show tI w w3 g 0 (.slice none 0 0) from⟨Ow.nil _ _ _ _ _,Y,H2.o.trans j.b⟩);clear Y j aJ aL;go_wp2_with fail
 go_loopw [7,8] (fun l i wr=>∃k:Nat,k≤6∧i=.i k∧tI w wr g k l) (fun _ i _=>8-(intOf i).toNat)
 case atStart=>exact⟨0,by decide,rfl,H3.o⟩
 case round=>
  obtain⟨k,hk,rfl,m⟩:=hrel;have g8:(k:Int)<8:=by omega
  by_cases U:k=6
  .subst U;have f:=m.l;have h:=m.s;rw[aK rfl]at f h;obtain⟨b,c,rfl,-⟩:=f.at_ vQ (by decide) (by show 0<1; decide);have G:=k'3 f h m.b;have J:=kp (aBJ wr h);have aJ:=aBU wr;clear f h m hk;go_wp2_with fail;refine (J.o).mono ?_;rintro e D ⟨rfl,K,j⟩;have HT:=kp (aBK D K);have aL:=aBV D;have H:=k'2 K j;clear K j aJ;go_wp2_with fail;refine mb' (HT.o) fun F M=>?_;have V:ClD F w.heap.size g:=by
    obtain⟨q,ps,bg,bv,ms,c,hC,hq⟩:=H.a.o;exact⟨q,ps,bg,bv,ms,c,hC.below M,hq⟩
   have HX:=kp (aB2 F V);have e3:=aBT F;have H8:=kp (H.B.trans (ClG.of_below M (aB G.C.size H.B.b.size)));clear V M aL;go_wp2_with fail;refine (HX.o).mono ?_;rintro e Q ⟨rfl,W⟩;have j:=H8.o.trans W;have f:=G.a.tg j.t (by unfold rE; decide);obtain⟨b2,c2,y,-,-,-,-,z,-⟩:=f.at_ vQ (by decide) (by show 0<1; decide)
   cases y;have k0:Q.cell? ⟨b,0,none⟩=some (.i 1):=by have:=z 0 (by show 0<1; decide) 0 (.i 1) rfl; simpa using this
   have k1:Q.cell? ⟨b,1,none⟩=some (.i 1):=by have:=z 0 (by show 0<1; decide) 1 (.i 1) rfl; simpa using this
   have o0:Q.cell? ⟨b,10,none⟩=some (.i 1):=by have:=z 0 (by show 0<1; decide) 10 (.i 1) rfl; simpa using this
   have HF:=kp (G.C.trans j.b);clear j f z W e3;go_wp2_with fail;go_ret;exact⟨rfl,HF.o⟩
  .have b0:k≤5:=by omega
   have f:=m.l;have h:=m.s;rw[aF U]at f h;obtain⟨A,c,rfl,-⟩:=dO f;have HD:=kp (aB1 wr b0 h);have I:=k'3 m f h.sz;clear f h m hk;go_wp2_with fail;refine (HD.o).mono ?_;rintro e D ⟨v,rfl,x⟩;obtain⟨v2,l2,p,y,N⟩:=x.e;have m0:v=v2:=by injection p with p; injection p with p; injection p with p; injection p
   subst m0;obtain⟨A2,c2,rfl,-⟩:=id y;obtain⟨n2,d0⟩:∃n,l2.length=n:=⟨_,rfl⟩
   rw[d0]at x y ⊢;have e0:=I.b.tg x.g.t (by unfold rE; decide);have r:=k'5 x e0 y N (aB I.C x.g.b.size);have S:=kp (show l2.length≤1 by rw[N]; split<;>decide);clear x e0 y p N d0;go_wp2_with (at_builtin; refine jD (enc:=gJ.cells) D rfl (.tmp 52) (.tmp 53) 29 rfl w.heap.size 85 aBY underlying29 rfl (by omega) vQ r.b rfl r.c rfl (fun a _=>aBy a) ?_ ?_ r.E ?_)
   .have:=S.o; unfold maxLen; show 0+l2.length≤_; omega
   .have:=S.o; show (0+l2.length)*88≤_; omega
   intro v6 F O l0 a0 j0;have X:=tI.next b0 I.a r.a (by rw[r.d]at O; exact O) r.b a0;have HZ:=kp X;clear X O l0 a0 j0;go_wp2_with fail;go_roundw
   case rel=>exact⟨k+1,by omega,by go_num,HZ.o⟩
   case measure=>simp[intOf]; omega
end
section
open Go.RowKit Go.ChangeShapes Go.WideShapes Go.ChangeAt Go.Deep
theorem aB4{z:Int}(h:(Lit.int .i64 z).wf=true):inR z:=by
 simp[Lit.wf,IntKind.min,IntKind.max,IntKind.signed,IntKind.bits]at h;exact h
section
variable {H:Type}{enc:TypeId×Value→H}{w:World}{base:Nat}{spare:Nat→Bool}{held:Bool}
section
variable {t:TypeId}{fs:Array Field}{r:List Value}{xs:List (DataW H×List MemPlace)}{m:Nat}
def Fd(enc:TypeId×Value→H)(w:World)(base:Nat)(spare:Nat→Bool)(held:Bool)(fs:Array Field)(r:List Value):Prop:=∃m,∀(i:Nat)(f:Field),fs[i]? =some f→∃y,DataW.trod enc prog w base spare held m f.type ((r.drop f.offset).take (prog.cellsOf f.type))=some y
theorem Lx{n:Nat}{y:DataW H×List MemPlace}(c:prog.underlying t=some (.struct fs))(h:DataW.trod enc prog w base spare held n t r=some y):Fd enc w base spare held fs r:=by
 obtain⟨xs,m,_,_,_,d,b⟩:=DataW.trod_struct c h;refine⟨m,fun i f a=>⟨xs[i]'(by have:=(eT.1 a).1; omega),?_⟩⟩;rw[b i f a,jN]
theorem Ly(h:Fd enc w base spare held fs r)(i:Nat)(f:Field)(c:fs[i]? =some f)(k:Nat)(b:prog.cellsOf f.type=k):∃n y,DataW.trod enc prog w base spare held n f.type ((r.drop f.offset).take k)=some y:=by
 obtain⟨m,h⟩:=h;obtain⟨y,a⟩:=h i f c;rw[b]at a;exact⟨m,y,a⟩
theorem mI(h:Fd enc w base spare held fs r)(i:Nat)(f:Field)(b:fs[i]? =some f)(c:prog.underlying f.type=some (.int .i64))(a:prog.cellsOf f.type=1):∃z,(r.drop f.offset).take 1=[.i z]∧inR z:=by
 obtain⟨n,y,g⟩:=Ly h i f b 1 a;obtain⟨z,e,-,d⟩:=DataW.trod_int c g;exact⟨z,e,aB4 d⟩
end
theorem aB5{n:Nat}{r:List Value}{y:DataW H×List MemPlace}(h:DataW.trod enc prog w base spare held n 25 r=some y)(o:r.length=7):∃a b c d e f g:Int,r=[.i a,.i b,.i c,.i d,.i e,.i f,.i g]∧inR a∧inR b∧inR c∧inR d∧inR e∧inR f∧inR g:=by
 have h:=Lx underlying25 h
 match r,o with
 |[C,D,E,F,G,I,J],_=>
  obtain⟨a,i,p⟩:=mI h 0 _ rfl underlying23 (by kernel_rfl);obtain⟨b,e1,q⟩:=mI h 1 _ rfl lI (by kernel_rfl);obtain⟨c,e2,s⟩:=mI h 2 _ rfl lI (by kernel_rfl);obtain⟨d,j,x⟩:=mI h 3 _ rfl lI (by kernel_rfl);obtain⟨e,k,z⟩:=mI h 4 _ rfl lI (by kernel_rfl);obtain⟨f,l,A⟩:=mI h 5 _ rfl lI (by kernel_rfl);obtain⟨g,m,B⟩:=mI h 6 _ rfl lI (by kernel_rfl);simp at i e1 e2 j k l m;subst i e1 e2 j k l m;exact⟨a,b,c,d,e,f,g,rfl,p,q,s,x,z,A,B⟩
end
end
section
open Go.RowKit Go.ChangeShapes Go.WideShapes Go.ChangeAt Go.Deep
structure tJ where
 (kind node n client:Int) (op:Opn)
def tJ.cells(a:tJ):List Value:=[.i a.kind,.i a.node,.i a.n,.i a.client]++a.op.cells
section
variable {H:Type}{enc:TypeId×Value→H}{w:World}{base:Nat}{spare:Nat→Bool}{held:Bool}
theorem aB6{n:Nat}{r:List Value}{y:DataW H×List MemPlace}(h:DataW.trod enc prog w base spare held n 27 r=some y)(e:r.length=11):∃x:tJ,r=x.cells:=by
 have h:=Lx underlying27 h
 match r,e with
 |[z,A,C,D,E,F,G,I,J,K,B],_=>
  obtain⟨f,a,L⟩:=mI h 0 _ rfl underlying22 (by kernel_rfl);obtain⟨g,aJ,M⟩:=mI h 1 _ rfl lI (by kernel_rfl);obtain⟨q,aL,U⟩:=mI h 2 _ rfl lI (by kernel_rfl);obtain⟨s,c,V⟩:=mI h 3 _ rfl lI (by kernel_rfl);obtain⟨_,_,d⟩:=Ly h 4 _ rfl 7 (by kernel_rfl);obtain⟨i,j,k,l,m,o,p,b,N,O,P,Q,R,S,T⟩:=aB5 d rfl;simp at b;obtain⟨rfl,rfl,rfl,rfl,rfl,rfl,rfl⟩:=b;simp at a aJ aL c;subst a aJ aL c;exact⟨⟨f,g,q,s,⟨i,j,k,l,m,o,p⟩⟩,rfl⟩
theorem aB7{v:Value}{d:DataW H}{p:List MemPlace}{a:Array Value}(f:v=.agg a)(b:a.size=prog.cellsOf 27)(h:DataW.Trod enc prog w base spare held 27 v d p):∃x:tJ,v=.agg x.cells.toArray:=by
 subst f;obtain⟨n,h⟩:=h;have e:prog.cellsOf 27=11:=by kernel_rfl
 obtain⟨x,c⟩:=aB6 h (by rw[e]at b; simpa [Value.cells] using b);have:a.toList=x.cells:=c;exact⟨x,by rw[←this]⟩
end
end
section
attribute [-go_sem] loadCellsFrom storeCells run_eql_struct run_neq_struct Instr.build
attribute [local go_sem] aX
theorem aB8(w:World):(Instr.build 50 #[]).run prog w=.ok (.agg jM.cells.toArray) w:=run_build w _ _ _ (by kernel_rfl)
theorem aB9(w:World):(Instr.build 54 #[]).run prog w=.ok (.agg eK.toArray) w:=run_build w _ _ _ (by kernel_rfl)
theorem Lz:∀u∈eK,u.oneCell'=true:=kQ ⟨0,0,0,0,0,false,dU⟩
theorem Ma:∀u∈jM.cells,u.oneCell'=true:=fun u a=>lT (vE default 0).rpAt u a
theorem aCa(a:tJ)(w:World):Calls prog 4 #[.pointer none,.agg a.cells.toArray] w fun e d=>e=.returned (.tuple #[.slice none 0 0,.i 3])∧Bw' w d:=by
 obtain⟨h,i,f,b,g⟩:=par w 27 a.cells;have c:=kp b;clear f b g;go_enter func4,ntmps4;go_wp2_with fail;go_ret2;exact⟨rfl,c.o⟩
theorem aCb(n:Int)(w:World):Calls prog 5 #[.pointer none,.i n] w fun e h=>e=.returned (.tuple #[.agg jM.cells.toArray,.i 3])∧Bw' w h:=by
 obtain⟨f,g,b,a,j⟩:=par w 50 iE;unfold iE at g;obtain⟨l,m,r,c,c2⟩:=b.put jM.cells rfl Ma;have l2:=c.load (P:=prog) (k:=26) rfl;have p:=aB8 f;have d:=kp (a.trans (c2.below (B:=w.heap.size) (fun i q=>by omega) a.size));clear b a j c c2;go_enter func5,ntmps5;go_wp2_with fail;exact bI (v:=.tuple #[.agg jM.cells.toArray,.i 3]) (by simp[results,results5,go_sem,l2]) rfl ⟨rfl,d.o⟩
theorem aCc(n:Int)(w:World):Calls prog 6 #[.pointer none,.i n] w fun e m=>e=.returned (.tuple #[.agg eK.toArray,.i 3])∧Bw' w m:=by
 obtain⟨f,g,b,a,p⟩:=par w 54 eK;obtain⟨q,h,l,c,c2⟩:=b.put eK rfl Lz;have l2:=c.load (P:=prog) (k:=13) rfl;have j:=aB9 f;have d:=kp (a.trans (c2.below (B:=w.heap.size) (fun i r=>by omega) a.size));clear b a p c c2;unfold eK at g j l h l2 ⊢;go_enter func6,ntmps6;go_wp2_with fail;exact bI (v:=.tuple #[.agg eK.toArray,.i 3]) (by simp[results,results6,go_sem,l2,eK]) rfl ⟨rfl,d.o⟩
theorem aCd(w:World):Calls prog 8 #[.pointer none] w fun e a=>e=.returned (.slice none 0 0)∧a=w:=by
 go_enter func8,ntmps8;go_wp2_with fail;go_ret;exact⟨rfl,rfl⟩
end
end Go.Proofs.YtoncgpddjmgbfaaGreat
