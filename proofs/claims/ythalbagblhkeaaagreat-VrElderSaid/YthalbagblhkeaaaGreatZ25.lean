import Derived.Test.YthalbagblhkeaaaGreatZ12
import Derived.Test.YthalbagblhkeaaaGreatZ24
namespace Go.Proofs.YthalbagblhkeaaaGreat
open Go.RowKit Go.Proofs.Tryz
set_option maxRecDepth 100000
set_option maxHeartbeats 12800000
set_option linter.unusedVariables false
set_option linter.unusedSimpArgs false
section
attribute [-go_sem] loadCellsFrom storeCells run_eql_struct run_neq_struct
attribute [local go_sem] bC VoV.fold
def VsK(w:World)(base:Nat)(v:Value)(k:Nat)(vs:List VoV):Prop:=∃l:List VoV,l.map (·.x)=vs.map (·.x)∧Ow w base 103 6 v VoV.cells l∧(∀u∈l.take k,Ow w base 93 11 u.ev En.cells u.es)∧l.drop k=vs.drop k
theorem VsK.below{w c:World}{base k:Nat}{v:Value}{b:List VoV}(h:VsK w base v k b)(a:Bw' w c):VsK c base v k b:=
 h.imp fun _ ⟨d,e,f,g⟩=>⟨d,e.below a,fun u i=>(f u i).below a,g⟩
theorem aAl{α:Type}{l:List α}{k:Nat}{a:α}(h:l[k]? =some a):l.set k a=l:=sR fun i=>by
 rw[sS]
 split
 .rename_i b;subst b
  split
  .exact h.symm
  .rename_i c;exact absurd (iH.1 h).1 c
 .rfl
theorem aAm{α:Type}(l:List α)(k:Nat)(b:k<l.length)(y:α):(l.set k y).take (k+1)=l.take k++[y]∧(l.set k y).drop (k+1)=l.drop (k+1):=by
 rw[List.set_eq_take_append_cons_drop,aE b,show l.take k++y::l.drop (k+1)=(l.take k++[y])++l.drop (k+1) by simp];have a:(l.take k++[y]).length=k+1:=by simp; omega
 exact⟨wD a,wG a⟩
theorem aAn{s:St}(a:stB s=true):(iP s).size≤65536:=by
 unfold iP;rw[aE a];obtain⟨c,d⟩:=kA.1 a;have e1:=Cf c;have e:=(vA s.rows 0 (by omega) d).2;have b:=jU jH 20 Mq s.rows;show (gI s).toArray.size≤65536;unfold gI;simp only[gT,bB,gX,b];omega
theorem aAo{s:St}(a:stB s=true)(b:stR s):dM (iP s).data.toList=some s:=by
 unfold iP;rw[aE a];simpa using Cg a b
theorem Na(p:RpV)(ps:List ObV)(B:Nat)(w:World)(h:eO w B p ps)(hB:B≤w.heap.size)(S:RpS p ps)(hs:stB p.s.x=true):
  Calls prog 48 #[.agg p.cells.toArray] w fun e w'=>∃p' d8,e=.returned (.agg p'.cells.toArray)∧p'.x=p.x∧RpO w' w.heap.size p' d8∧Bw' w w':=by
 obtain⟨W1,j7,y1,b1,z1⟩:=par w 39 p.cells;obtain⟨W2,a4,x2,b2,z2⟩:=par W1 39 dN;unfold dN at a4;have z:=b1.on b2;have HF:=kp (OwF.mk (y1.grow b2) x2 z ⟨aD _,z1⟩);have X:=k'3 (h.below z hB) (aB hB z.size) S;have l0:=kp (fun(W:World)(m:Bw' w W)=>h.below m hB);have Z:=k'2 hB hs;have k6:=HF.o.x.cell 6;rw[RpV.c6]at k6;have e6:=kp (fam'4.2.2.2.2.1 p.k.ev p.k.es B W2 X.a.1 X.b (by have:=S.k.2.1; omega));clear y1 b1 z1 x2 b2 z2 z h hB S hs;go_enter func48,ntmps48;go_wp2_with fail;refine (e6.o).mono ?_;rintro e w3 ⟨kv,rfl,g1,y2⟩;clear j7 a4;have g1:Ow w3 W2.heap.size 93 11 kv En.cells p.k.es:=g1;obtain⟨F,G,rfl,-⟩:=eD g1;have x3:=HF.o.x.grow y2;have k6:=x3.cell 6;have f6:=x3.frozen 6;rw[RpV.c6]at k6;have x4:Blk _ _ _ (p.mk' (.slice F p.k.es.length G) p.s p.sv p.votes p.vv p.av).cells:=x3.setCell 6 (.slice F p.k.es.length G);have c4:=(Chg.refl (fun i=>i=w.heap.size) w3).setCell (.inr rfl) 6 (.slice F p.k.es.length G);have a0:=kp ((HF.o.below y2).chg x4 c4);have g2:=kp ((g1.mono HF.o.b.size).chg_blk x3 c4 (by decide));obtain⟨W4,p2⟩:∃W,w3.setCell ⟨w.heap.size,6,none⟩ (.slice F p.k.es.length G)=W:=⟨_,rfl⟩
 rw[p2]at a0 g2;have l8:=a0.o.x.loadOff (P:=prog) 8 9 p.s.cells rfl rfl;have p6:=kp (Ea p.s ps B W4 (l0.o W4 a0.o.b).2.1 (aB Z.a a0.o.b.size) (by have:=X.C.s.1.obs; omega) (by have:=X.C.s.1.free; omega) (by have:=X.C.s.2.1; omega));clear g1 y2 x3 x4 c4;obtain⟨V,e5⟩:=nm' p.k.es.length;rw[e5]at p2 a0 g2;go_wp2_with fail;refine mb' (p6.o) fun w5 g4=>?_;have j3:=aAn Z.B;obtain⟨t1,p5⟩:∃t,iP p.s.x=t:=⟨_,rfl⟩
 have a3:=aAo Z.B X.C.s.2.2.1;rw[p5]at j3 a3 ⊢;obtain⟨c5,W5,p7,d1,j5,l5,p0,a5⟩:=oT w5 t1 (aB j3 (by decide));have j0:=k'5 (g4.on d1) j5 l5 p0 a5;have m6:=kp a3;clear g4 d1 j5 l5 p0 a5 j3 a3 p5 e5 l8;go_wp2_with fail;clear p7 p2;refine (yT _ _ _ _ t1.data.toList W5 j0.b j0.c (mD _) j0.d j0.E).mono ?_;rintro e w6 ⟨q,qs,rfl,l1,e3,d1⟩;rw[m6.o]at l1 ⊢;have l1:q.x=p.s.x:=l1;have z:=j0.a.on d1;obtain⟨A,m7,s7,x7,c7⟩:=(a0.o.x.grow z).off 8 q.cells (p.mk' (.slice F V G) q p.sv p.votes p.vv p.av).cells rfl (by show 8+9≤26; omega) (StV.one e3.st);have j6:=kp ((a0.o.below z).chg x7 c7);have o6:=kp ((g2.o.below z).chg_blk (a0.o.x.grow z) c7 (by decide));have p3:=k'2 l1 ((e3.ws.mono (aB a0.o.b.size j0.a.size)).chg (a0.o.x.grow z) c7 (by decide) (by decide) (by decide) (by decide));clear l1 e3 d1 z x7 c7;go_wp2_with fail;clear s7 m7;have Q:=kp (j6.o.below (bR (aL _ A)));have d6:=kp (fun(W:World)(m:Below A.drew.heap.size A.drew W)=>fam'4.1 p.sv p.starts B W (l0.o W (Q.o.b.on m)).2.2.1 (aB Z.a (Q.o.b.on m).size) (by have:=X.C.l.1; omega));have a6:=kp (fun(W:World)(m:Below A.drew.heap.size A.drew W)=>fam'4.2.2.2.1 p.av p.acks B W (l0.o W (Q.o.b.on m)).2.2.2.2 (aB Z.a (Q.o.b.on m).size) (by have:=X.C.l.2.2; omega));have g6:=kp (fun(W:World)(m:Below A.drew.heap.size A.drew W)=>fam'4.2.2.2.2.2.2 p.vv p.votes B W (l0.o W (Q.o.b.on m)).2.2.2.1.1 (aB Z.a (Q.o.b.on m).size) (by have:=X.C.l.2.1; omega) (fun x hx=>yK ((l0.o W (Q.o.b.on m)).2.2.2.1.2 x hx)));refine kU 10 (fun W'=>Below A.drew.heap.size A.drew W') (fun _=>rM) (by kernel_rfl) (by kernel_rfl) (aL _ _) ?_
 iterate 2 (refine bO ?_; apply Exists.intro)
 refine bS (fun u W'=>Ow W' A.drew.heap.size 3 1 u i1 p.starts) ?_
 iterate 2 (refine bO ?_; apply Exists.intro)
 refine bS (fun u W'=>Ow W' A.drew.heap.size 109 2 u Ak.cells p.acks) ?_
 iterate 2 (refine bO ?_; apply Exists.intro)
 refine bS (fun u W'=>Ow W' A.drew.heap.size 103 6 u VoV.cells p.votes) ?_;refine bO ?_; apply Exists.intro;refine dR ⟨?pers,?walk⟩
 case walk=>
  iterate 2
   apply Sz (by kernel_rfl) (by intro t w h; cases h; exact trivial) rfl
   .intro W' f I; have q1:W'.cell? ⟨w.heap.size,18,none⟩=some p.sv:=(Q.o.below f).x.cell 18; go_wp2_with fail;exact⟨rfl,_,rfl,f,aL _ _,rfl⟩
   simp only[Act.put,aN,aH,aI]
  refine⟨fun W' f I=>?_,fun u2=>?_⟩
  .go_wp2_with fail;refine (d6.o W' f).mono ?_;rintro e w2 ⟨v2,rfl,g0,Y⟩;go_wp2_with fail;exact⟨rfl,_,rfl,f.on Y,Y,Ow.mono g0 f.size⟩
  simp only[Act.put,aN,aH,aI]
  iterate 2
   apply Sz (by kernel_rfl) (by intro t w h; cases h; exact trivial) rfl
   .intro W' f I; have q1:W'.cell? ⟨w.heap.size,20,none⟩=some p.av:=(Q.o.below f).x.cell 20; go_wp2_with fail;exact⟨rfl,_,rfl,f,aL _ _,rfl⟩
   simp only[Act.put,aN,aH,aI]
  refine⟨fun W' f I=>?_,fun u5=>?_⟩
  .go_wp2_with fail;refine (a6.o W' f).mono ?_;rintro e w2 ⟨v2,rfl,g0,Y⟩;go_wp2_with fail;exact⟨rfl,_,rfl,f.on Y,Y,Ow.mono g0 f.size⟩
  simp only[Act.put,aN,aH,aI]
  iterate 2
   apply Sz (by kernel_rfl) (by intro t w h; cases h; exact trivial) rfl
   .intro W' f I; have q1:W'.cell? ⟨w.heap.size,19,none⟩=some p.vv:=(Q.o.below f).x.cell 19; go_wp2_with fail;exact⟨rfl,_,rfl,f,aL _ _,rfl⟩
   simp only[Act.put,aN,aH,aI]
  refine⟨fun W' f I=>?_,fun u8=>?_⟩
  .go_wp2_with fail;refine (g6.o W' f).mono ?_;rintro e w2 ⟨v2,rfl,g0,Y⟩;go_wp2_with fail;exact⟨rfl,_,rfl,f.on Y,Y,Ow.mono g0 f.size⟩
  simp only[Act.put,aN,aH,aI];apply Sz (by kernel_rfl) (by intro t w h; cases h; exact trivial) rfl
  .intro W' f I; go_wp2_with fail;exact⟨rfl,_,rfl,f,aL _ _,rfl⟩
  simp only[Act.put,aN,aH,aI];intro W8 f I;have f2:Ow W8 A.drew.heap.size 3 1 u2 i1 p.starts:=I 22;have f5:Ow W8 A.drew.heap.size 109 2 u5 Ak.cells p.acks:=I 25;have f8:Ow W8 A.drew.heap.size 103 6 u8 VoV.cells p.votes:=I 28;clear I;simp only[dO,dP];obtain⟨J,c2,rfl,-⟩:=eD f2;obtain⟨N,c5,rfl,-⟩:=eD f5;obtain⟨O,c8,rfl,-⟩:=eD f8;obtain⟨M,d3⟩:∃n,p.starts.length=n:=⟨_,rfl⟩
  obtain⟨T,p0⟩:∃n,p.acks.length=n:=⟨_,rfl⟩
  obtain⟨y,d2⟩:∃n,p.votes.length=n:=⟨_,rfl⟩
  have HN:=k'2 d2 X.C.l.2.1;rw[d3]at f2;rw[p0]at f5;rw[d2]at f8;rw[d3,p0,d2];clear d3 p0 d2;have x8:=(Q.o.below f).x;have y6:W8.cell? ⟨w.heap.size,18,none⟩=some p.sv:=x8.cell 18;have b7:=x8.frozen 18;have x9:Blk _ _ _ (p.mk' (.slice F V G) q (.slice J M c2) p.votes p.vv p.av).cells:=x8.setCell 18 (.slice J M c2);have d9:=(Chg.refl (fun i=>i=w.heap.size) W8).setCell (.inr rfl) 18 (.slice J M c2);obtain⟨W9,d4⟩:∃W,W8.setCell ⟨w.heap.size,18,none⟩ (.slice J M c2)=W:=⟨_,rfl⟩
  rw[d4]at x9 d9;have a7:W9.cell? ⟨w.heap.size,20,none⟩=some p.av:=x9.cell 20;have e7:=x9.frozen 20;have e0:Blk _ _ _ (p.mk' (.slice F V G) q (.slice J M c2) p.votes p.vv (.slice N T c5)).cells:=x9.setCell 20 (.slice N T c5);have o2:=d9.trans ((Chg.refl (fun i=>i=w.heap.size) W9).setCell (.inr rfl) 20 (.slice N T c5)) fun _ _ h=>h;obtain⟨z0,p1⟩:∃W,W9.setCell ⟨w.heap.size,20,none⟩ (.slice N T c5)=W:=⟨_,rfl⟩
  rw[p1]at e0 o2;have m2:z0.cell? ⟨w.heap.size,19,none⟩=some p.vv:=e0.cell 19;have d7:=e0.frozen 19;have e2:Blk _ _ _ (p.mk' (.slice F V G) q (.slice J M c2) p.votes (.slice O y c8) (.slice N T c5)).cells:=e0.setCell 19 (.slice O y c8);have d0:=o2.trans ((Chg.refl (fun i=>i=w.heap.size) z0).setCell (.inr rfl) 19 (.slice O y c8)) fun _ _ h=>h;obtain⟨m0,y3⟩:∃W,z0.setCell ⟨w.heap.size,19,none⟩ (.slice O y c8)=W:=⟨_,rfl⟩
  rw[y3]at e2 d0;have l6:=kp ((Q.o.below f).chg e2 d0);have a2:=Q.o.b.size;have q6:=kp (show Ow m0 w.heap.size 93 11 (.slice F V G) En.cells p.k.es∧Ws m0 w.heap.size q qs∧Ow m0 w.heap.size 3 1 (.slice J M c2) i1 p.starts∧Ow m0 w.heap.size 109 2 (.slice N T c5) Ak.cells p.acks∧VsK m0 w.heap.size (.slice O y c8) 0 p.votes from
   ⟨((o6.o.below (bR (aL _ A))).below f).chg_blk x8 d0 (by decide),((p3.B.below (bR (aL _ A))).below f).chg x8 d0 (by decide) (by decide) (by decide) (by decide),(f2.mono a2).chg_blk x8 d0 (by decide),(f5.mono a2).chg_blk x8 d0 (by decide),⟨p.votes,rfl,(f8.mono a2).chg_blk x8 d0 (by decide),fun _ h=>(by simp at h),rfl⟩⟩)
  clear x8 x9 d9 e0 o2 d0 f2 f5 f8 a2 f;have z6:m0.cell? ⟨w.heap.size,19,none⟩=some (.slice O y c8):=e2.cell 19;clear e2;have b5:y≤1000:=by have:=HN.o; omega
  go_wp2_with fail;clear y6 b7 a7 e7 m2 d7 z6 d4 p1 y3
  go_loopw [35] (fun i wr=>∃k:Nat,k≤y∧i=.i k∧OwF w wr w.heap.size W1.heap.size (p.mk' (.slice F V G) q (.slice J M c2) p.votes (.slice O y c8) (.slice N T c5)).cells∧Ow wr w.heap.size 93 11 (.slice F V G) En.cells p.k.es∧Ws wr w.heap.size q qs∧Ow wr w.heap.size 3 1 (.slice J M c2) i1 p.starts∧Ow wr w.heap.size 109 2 (.slice N T c5) Ak.cells p.acks∧VsK wr w.heap.size (.slice O y c8) k p.votes) (fun i _=>y-(intOf i).toNat)
  case atStart=>exact⟨0,by omega,rfl,l6.o,q6.o⟩
  case round=>
   obtain⟨k,hk,rfl,hf,o4,o5,m5,e4,l,b3,z4,q4,p4⟩:=hrel;have R:=k'8 hf o4 o5 m5 e4 b3 q4 p4;have y4:l.length=y:=by have:=bG List.length b3; simp at this; have:=HN.a; omega
   have j2:=kp z4;clear hf o4 o5 m5 e4 b3 q4 p4 z4
   by_cases j8:k<y
   .have g3:(k:Int)<(y:Int):=by omega
    have b0:k<l.length:=by omega
    have j1:k<p.votes.length:=by have:=HN.a; omega
    obtain⟨b,cb,hv,j4,l4,-,-,m4,y7⟩:=j2.o.at_ iS (by omega) (by omega);obtain⟨hA,-,-⟩:=Value.slice.inj hv;subst hA;have hx:l[k]=p.votes[k]:=by
     have:=R.H;rw[fG b0,fG j1]at this;exact (List.cons.inj this).1
    have q0:=Ie (P:=prog) (w:=wr) (b:=b) (o:=k*6) (VoV.cells l[k]) (fun t u hu=>m4 k b0 t u hu);rw[show (VoV.cells l[k]).length=6 from rfl]at q0;have l3:mS wr B p.votes[k]:=(l0.o wr R.a.b).2.2.2.1.2 _ (bK j1);have q5:=(X.C.v _ (bK j1)).1;have HS:=kp (aAm l k b0);have HG:=k'4 b0 (eK b0) (Nat.zero_lt_of_lt b0) (fun(W:World)(L:Ow W w.heap.size 103 6 (.slice (some ⟨b,0,none⟩) y c8) VoV.cells l)=>show W.cell? ⟨b,k*6+5,none⟩=some (l[k]).ev∧W.frozen? ⟨b,k*6+5,none⟩=false from by
     obtain⟨b',_,z7,-,-,-,-,o7,q7⟩:=L.at_ iS (by omega) (Nat.zero_lt_of_lt b0);obtain⟨g7,-,-⟩:=Value.slice.inj z7
     cases g7;exact⟨o7 k b0 5 _ rfl,q7 _⟩)
    have HP:=kp (fun(u:Value)(W:World)(L:Ow W w.heap.size 103 6 (.slice (some ⟨b,0,none⟩) y c8) VoV.cells l)=>Ow.put L iS k b0 (j:=5) (by omega) u (x':=(l[k]).own u) rfl);rw[hx]at q0 HG HP;clear m4 hv hx;generalize p.votes[k]'j1=x at *;obtain⟨K,l7,e8,z5,o1,-⟩:=fB wr 103 z'6 x.cells rfl (yK l3);have m2:wr.cell? ⟨w.heap.size,19,none⟩=some (.slice (some ⟨b,0,none⟩) y c8):=R.a.x.cell 19;have U:=k'7 z5 (R.a.below o1) (Sl.below l3 o1 (aB Z.a R.a.b.size)) q5 o1 j4 l4;clear z5 o1 l3 q5 b0 j1 j4 l4 y4 b5;go_wp2_with fail;clear q0 e8 l7 m2 y7;have l2:=k'2 (U.a.below (bR (aL K.heap.size K)) U.a.lt) (U.b.below (bR (aL K.heap.size K)));have b6:=kp (fun(W:World)(m:Below K.drew.heap.size K.drew W)=>fam'4.2.2.2.2.1 x.ev x.es B W (Sl.below (Sl.below U.c (bR (aL K.heap.size K)) (aB Z.a U.b.b.size)) m (aB Z.a U.b.b.size)) (aB (aB Z.a U.b.b.size) m.size) U.d);refine kU 6 (fun W'=>Below K.drew.heap.size K.drew W') (fun _=>rM) (by kernel_rfl) (by kernel_rfl) (aL _ _) ?_
    iterate 5 (refine bO ?_; apply Exists.intro)
    refine bS (fun u W'=>Ow W' K.drew.heap.size 93 11 u En.cells x.es) ?_;refine dR ⟨?pers2,?walk2⟩
    case walk2=>
     iterate 5
      apply Sz (by kernel_rfl) (by intro t w h; cases h; exact trivial) rfl
      .intro W' f I; have q1:W'.cell? ⟨w.heap.size,19,none⟩=some (.slice (some ⟨b,0,none⟩) y c8):=(l2.B.below f).x.cell 19; have q2:W'.cell? ⟨wr.heap.size,5,none⟩=some x.ev:=(l2.a.grow f).cell 5; go_wp2_with fail;exact⟨rfl,_,rfl,f,aL _ _,rfl⟩
      simp only[Act.put,aN,aH,aI]
     refine⟨fun W' f I=>?_,fun u5=>?_⟩
     .go_wp2_with fail;refine (b6.o W' f).mono ?_;rintro e w2 ⟨v2,rfl,g0,Y⟩;go_wp2_with fail;exact⟨rfl,_,rfl,f.on Y,Y,Ow.mono g0 f.size⟩
     simp only[Act.put,aN,aH,aI];intro o0 f I;have f5:Ow o0 K.drew.heap.size 93 11 u5 En.cells x.es:=I 45;clear I;simp only[dO,dP];obtain⟨y0,a1,rfl,-⟩:=eD f5;obtain⟨m1,d5⟩:∃n,x.es.length=n:=⟨_,rfl⟩
     rw[d5]at f5 ⊢;clear d5;have z:=(U.e.on (bR (aL K.heap.size K))).on f;have L:=j2.o.below z;obtain⟨q3,g5⟩:=HG.D o0 L;have hc:=(Chg.refl (fun i=>(Value.slice (some ⟨b,0,none⟩) y c8).ownBlock=some i) o0).setCell (g:=b) (.inr rfl) (k*6+5) (.slice y0 m1 a1);have hp:=HP.o (.slice y0 m1 a1) o0 L;have m:=R.o;have o3:=k'6 ((l2.B.below f).row L hc (by decide)) ((m.2.1.below z).chg_row L hc (by decide)) ((m.2.2.1.below z).chg_row L hc (by decide) (by decide) (by decide) (by decide)) ((m.2.2.2.1.below z).chg_row L hc (by decide)) ((m.2.2.2.2.1.below z).chg_row L hc (by decide)) (show VsK (o0.setCell ⟨b,k*6+5,none⟩ (.slice y0 m1 a1)) w.heap.size (.slice (some ⟨b,0,none⟩) y c8) (k+1) p.votes from
       ⟨l.set k (x.own (.slice y0 m1 a1)),by rw[pD,←m.2.2.2.2.2.1]; exact aAl (by rw[wC,HG.b]; rfl),hp,fun u hu=>by
        rw[(HS.o _).1]at hu;rcases dF.1 hu with hu|hu
        .exact ((m.2.2.2.2.2.2.1 u hu).below z).chg_row L hc (by decide)
        .rw[bQ.1 hu];exact (Ow.mono f5 U.b.b.size).chg_row L hc (by decide),by
        rw[(HS.o _).2];have:=bG List.tail m.2.2.2.2.2.2.2;simpa using this⟩)
     obtain⟨g8,z3⟩:∃W,o0.setCell ⟨b,k*6+5,none⟩ (.slice y0 m1 a1)=W:=⟨_,rfl⟩
     rw[z3]at o3;have b5:y≤1000:=by have:=HN.o; omega
     have g3:(k:Int)<(y:Int):=by omega
     clear z L hc hp m f5 f;go_wp2_with fail;clear q3 g5 z3;go_roundw
     case rel=>exact⟨k+1,by omega,by go_num,o3.o⟩
     case measure=>simp[intOf]; omega
    case pers2=>exact⟨pv',pv',pv',pv',pv',fun _ _ _ _ _ h hR=>h.below hR,trivial⟩
   .obtain rfl:y=k:=by omega
    have l9:=R.a.x.load (P:=prog) (k:=26) rfl;have m:=R.o;have o9:RpO wr w.heap.size (p.mk' (.slice F V G) q (.slice J M c2) l (.slice O y c8) (.slice N T c5)) qs:=⟨m.2.1,m.2.2.1,m.2.2.2.1,j2.o,fun u hu=>m.2.2.2.2.2.2.1 u (by rw[cN (by omega)]; exact hu),m.2.2.2.2.1⟩
    obtain⟨z0,p1,y5,e0,e10⟩:=R.a.r.put (p.mk' (.slice F V G) q (.slice J M c2) l (.slice O y c8) (.slice N T c5)).cells rfl (gR o9.rpAt);have y5:Sem.run prog (storeCells ⟨W1.heap.size,0,none⟩ (p.mk' (.slice F V G) q (.slice J M c2) p.votes (.slice O y c8) (.slice N T c5)).cells 0) wr=.ok () z0:=y5;have a8:=e0.load (P:=prog) (k:=26) rfl;have m3:=k'2 (o9.chg R.a.r e10 (by decide)) (R.a.b.trans (e10.below (B:=w.heap.size) (fun i hi=>by have:=R.a.ne; omega) R.a.b.size));have U:=kp (show (p.mk' (.slice F V G) q (.slice J M c2) l (.slice O y c8) (.slice N T c5)).x=p.x by
     show Rp.mk p.id p.nodes p.k.x p.commit q.x p.timer p.starts (l.map (·.x)) p.acks p.part=_;rw[m.2.2.2.2.2.1,p3.a];rfl)
    clear m o9 e0 e10 p1 y4;go_wp2_with fail;exact aU (v:=.agg (p.mk' (.slice F V G) q (.slice J M c2) l (.slice O y c8) (.slice N T c5)).cells.toArray) (by simp[results,results48,go_sem,a8]) rfl ⟨_,qs,rfl,U.o,m3.a,m3.B⟩
 case pers=>exact⟨pv',pv',fun _ _ _ _ _ h hR=>h.below hR,pv',pv',fun _ _ _ _ _ h hR=>h.below hR,pv',pv',fun _ _ _ _ _ h hR=>h.below hR,pv',trivial⟩
end
section
attribute [-go_sem] loadCellsFrom storeCells run_eql_struct run_neq_struct Instr.build
attribute [local go_sem] bC VoV.fold
def kW(id nodes:Int)(k:Kd)(s:St):Rp:=⟨id,nodes,k,k.base,s,0,[],[],[],jL⟩
def zE(id nodes base:Int)(k:KpV)(q:StV):RpV:=⟨id,nodes,k,base,q,0,[],.slice none 0 0,[],.slice none 0 0,[],.slice none 0 0,jL⟩
def jP(id nodes:Int)(k:KpV)(q:StV):RpV:=zE id nodes k.base k q
def jX:RpV:=⟨0,0,⟨0,0,0,⟨#[]⟩,[],.slice none 0 0⟩,0,lP,0,[],.slice none 0 0,[],.slice none 0 0,[],.slice none 0 0,jL⟩
theorem Nb(id nodes:Int)(k:Kd):kC id nodes k=if dI (kW id nodes k ((dM (jK k.image)).getD kF))=true then some (kW id nodes k ((dM (jK k.image)).getD kF)) else none:=by
 unfold kC
 cases h:dM (jK k.image) with
 |some s=>rfl
 |none=>
  rw[aC];intro a;have b:dA k=true:=by
   unfold dI kW at a;simp only[bI]at a;exact a.2.2.1
  obtain⟨s,c⟩:=pZ.1 b;rw[c.img]at h
  cases h
def Nc(w:World)(o:Option Rp)(e:Ending)(w':World):Prop:=
 ∃p ps,e=.returned (.tuple #[.agg p.cells.toArray,.i (if o.isSome then 0 else 1)])∧p.x=o.getD oQ∧RpO w' w.heap.size p ps∧Bw' w w'
theorem oW(w:World)(base:Nat):RpO w base jX []:=⟨Ow.nil _ _ _ _ _,tY _ _,Ow.nil _ _ _ _ _,Ow.nil _ _ _ _ _,fun _ h=>(nomatch h),Ow.nil _ _ _ _ _⟩
theorem Eg{w:World}{B:Nat}{id nodes:Int}{k:KpV}{q:StV}{a:List ObV}(c:fL w B k)(d:fN w B q a)(b:B=w.heap.size):eO w B (jP id nodes k q) a:=by
 subst b;exact⟨c,d,(Ow.nil w w.heap.size 3 1 i1).sl cS,⟨(Ow.nil w w.heap.size 103 6 VoV.cells).sl iS,fun _ h=>(nomatch h)⟩,(Ow.nil w w.heap.size 109 2 Ak.cells).sl nH⟩
theorem Nd{o:Option St}{l:List UInt8}{q:StV}{c:List ObV}{w:World}{B:Nat}(g:dM l=o)(a:q.x=o.getD kF)(h:fN w B q c):SmO q.p c∧q.rows.length≤1000∧stR q.x∧inR q.x.h.next:=by
 cases o with
 |some s=>
  obtain⟨b,d⟩:=tW g;have a:q.x=s:=a;rw[←a]at b d;have H:=eC.1 (kA.1 b).1;have j:=rZ (kA.1 b).2 (by omega);have e:q.x.rows=q.rows:=rfl;rw[e]at j;have m:=H.next;exact⟨SmO.ok h.1 H,by omega,d,⟨by have e:q.x.h=q.p.x:=rfl; omega,by have e:q.x.h=q.p.x:=rfl; omega⟩⟩
 |none=>
  have a:q.x=kF:=a;have f:q.p.x=lI:=bG St.h a;have k:q.rows=[]:=bG St.rows a;have i:c=[]:=by have:=h.1.2.1; rw[f]at this; simpa [lI] using this.symm
  subst i;refine⟨⟨by simp,by rw[f]; simp[lI],fun _ h=>(nomatch h)⟩,by rw[k]; simp,by rw[a]; exact⟨fun _ h=>(nomatch h),fun _ h=>(nomatch h)⟩,by rw[a]; exact⟨by decide,by decide⟩⟩
theorem aAp(id nodes base:Int)(k:KpV)(w:World):(Instr.build 39 #[(0,.i id),(1,.i nodes),(2,.agg k.cells.toArray),(3,.i base)]).run prog w=.ok (.agg (zE id nodes base k lP).cells.toArray) w:=run_build w _ _ _ (by kernel_rfl)
theorem aAq(id nodes base:Int)(k:KpV)(q:StV)(w:World):(Instr.build 39 #[(0,.i id),(1,.i nodes),(2,.agg k.cells.toArray),(3,.i base),(4,.agg q.cells.toArray)]).run prog w=.ok (.agg (zE id nodes base k q).cells.toArray) w:=run_build w _ _ _ (by kernel_rfl)
theorem aAr(w:World):(Instr.build 39 #[]).run prog w=.ok (.agg jX.cells.toArray) w:=run_build w _ _ _ (by kernel_rfl)
attribute [go_sem] aAp aAq aAr
theorem Nf{id nodes:Int}{k:KpV}{q:StV}{c:List ObV}(d:KdR k.x∧k.es.length≤1000000∧k.image.size≤1000000)(a:inR id∧inR nodes∧inR k.base)(b:SmO q.p c∧q.rows.length≤1000∧stR q.x∧inR q.x.h.next):RpS (jP id nodes k q) c:=
 ⟨d,b,⟨cY _,cY _,cY _⟩,fun _ h=>(nomatch h),⟨a.1,a.2.1,a.2.2,(show (-9223372036854775808:Int)≤0 by decide),(show (0:Int)≤9223372036854775807 by decide)⟩,fun u e=>by have:=b.1.rows u e; omega⟩
theorem Ng(id nodes:Int)(k:KpV)(B:Nat)(w:World)(h:fL w B k)(R:B≤w.heap.size)(Y:KdR k.x∧k.es.length≤1000000∧k.image.size≤1000000)(y:inR id∧inR nodes∧inR k.base):
  Calls prog 15 #[.i id,.i nodes,.agg k.cells.toArray] w (Nc w (kC id nodes k.x)):=by
 rw[Nb];obtain⟨o,n⟩:=nm' (dM (jK k.image));rw[show dM (jK k.x.image)=o from n];obtain⟨O,l⟩:∃O,(if dI (kW id nodes k.x (o.getD kF))=true then some (kW id nodes k.x (o.getD kF)) else none)=O:=⟨_,rfl⟩
 rw[l];obtain⟨W1,j1,V,b1,z1⟩:=par w 24 k.cells;obtain⟨p,g0,x2,H,z2⟩:=par W1 39 dN;unfold dN at g0;have l0:=(V.grow H).load (P:=prog) (k:=5) rfl;have k2:=(V.grow H).cell 2;change _=some (Value.i k.base)at k2;have S:=b1.on H;obtain⟨W3,m1,s3,x3,N,z3⟩:=fB p 39 dN (jP id nodes k lP).cells rfl (gR (Eg (w:=p) (Sl.more (Sl.below h S R) (aB R S.size)) (tY p p.heap.size).st rfl));have s3:Sem.run prog (storeCells ⟨p.heap.size,0,none⟩ (zE id nodes k.base k lP).cells 0) (p.alloc (.cells #[.i 0,.i 0,.i 0,.i 0,.i 0,.string ⟨#[]⟩,.slice none 0 0,.i 0,.i 0,.slice none 0 0,.i 0,.i 0,.i 0,.i 0,.i 0,.slice none 0 0,.slice none 0 0,.i 0,.slice none 0 0,.slice none 0 0,.slice none 0 0,.i 0,.i 0,.i 0,.i 0,.string ⟨#[]⟩] 39))=.ok () W3:=s3;have k3:=((V.grow H).grow N).cell 3;change _=some (Value.string k.image)at k3;obtain⟨c5,W5,q1,I,y0,z0,p0,o0⟩:=oT W3 k.image (aB Y.2.2 (by decide));have L:=k'5 I y0 z0 p0 o0;have f:=k'5 (x3.grow I) ((x2.grow N).grow I) ((S.on N).on I) z1 (eA z2 (aD _));have A:=k'4 h R Y y;have HO:=k'2 n l;clear m1 x3 N z3 I y0 z0 p0 o0 S V b1 z1 x2 H z2 h R Y y n l;go_enter func15,ntmps15;go_wp2_with fail;clear q1 j1 g0 l0 k2 s3 k3;refine (yT _ _ _ _ k.image.data.toList W5 L.b L.c (mD _) L.d L.E).mono ?_;rintro e w6 ⟨q,qs,rfl,K,a0,r⟩;have n:dM k.image.data.toList=o:=HO.a;rw[n]at K ⊢;obtain⟨gc,j0⟩:∃gc:Int,(if o.isSome=true then 0 else 60)=gc:=⟨_,rfl⟩
 rw[j0];clear j0;obtain⟨G,o1,s7,x7,c7⟩:=(f.a.grow r).off 8 q.cells (jP id nodes k q).cells rfl (by show 8+9≤26; omega) (StV.one a0.st);have hz:=(f.b.grow r).chg c7 (show ¬W1.heap.size=p.heap.size from fun e=>by have:=f.E; omega);have d0:=(a0.ws.mono f.c.size).chg (f.a.grow r) c7 (by decide) (by decide) (by decide) (by decide);have T:=(f.c.on r).trans (c7.below (B:=w.heap.size) (fun i hi=>by have:=f.d; have:=f.E; omega) (f.c.on r).size);have m0:fL G G.heap.size k:=Sl.more (Sl.below A.a T A.b) (aB A.b T.size);have b0:=Nf (id:=id) (nodes:=nodes) A.c A.D (Nd n K d0.st);have e0:(jP id nodes k q).x=kW id nodes k.x (o.getD kF):=by rw[←K]; rfl
 have X:=Eg (id:=id) (nodes:=nodes) m0 d0.st rfl;have HC:=kp (vX (jP id nodes k q) qs G.heap.size G X (aD _) b0);obtain⟨g,U⟩:=nm' (dI (kW id nodes k.x (o.getD kF)));rw[e0,U]at HC;have W:=HO.B;rw[U]at W;have M:=k'3 W U e0;have m:=k'5 x7 hz T X b0;have HZ:=k'2 n K;have l7:=x7.load (P:=prog) (k:=26) rfl;clear K a0 r c7 hz d0 T m0 b0 X e0 U W n x7 o1;go_wp2_with fail;refine mb' (HC.o) fun w8 j=>?_;clear l7 s7
 cases g
 case false=>
  rw[show eN 1 false=1 from rfl];obtain⟨W9,p1,s9,x9,c9⟩:=(m.b.grow j).put jX.cells rfl (gR (oW w8 w8.heap.size).rpAt);have l9:=x9.load (P:=prog) (k:=26) rfl;have F:=kp ((m.c.on j).trans (c9.below (B:=w.heap.size) (fun i hi=>by have:=f.d; omega) (m.c.on j).size));have l:=M.a;obtain rfl:O=none:=by rw[←l]; rfl
  clear x9 c9 p1 j l;go_wp2_with fail;exact aU (v:=.tuple #[.agg jX.cells.toArray,.i 1]) (by simp[results,results15,go_sem,l9]) rfl ⟨jX,[],rfl,rfl,oW _ _,F.o⟩
 rw[show eN 1 true=0 from rfl];have l:=M.a;obtain rfl:O=some (kW id nodes k.x (o.getD kF)):=by rw[←l]; rfl
 have a1:stB q.x=true:=by
  have y:=M.b;unfold dI kW at y;simp only[bI]at y;obtain⟨s,hs⟩:=pZ.1 y.2.2.1;have h1:dM k.image.data.toList=some s:=hs.img;have Q:=HZ.B;rw[←HZ.a,h1]at Q;have Q:q.x=s:=Q;rw[Q];exact (tW h1).1
 have l8:=(m.a.grow j).load (P:=prog) (k:=26) rfl;have g1:=kp (Na (jP id nodes k q) qs G.heap.size w8 (m.d.below j (aD _)) j.size m.E a1);have z:=k'2 (m.b.grow j) (m.c.on j);clear l a1 j;go_wp2_with fail;refine (g1.o).mono ?_;rintro e w9 ⟨p',d2,rfl,q0,Z,J⟩;obtain⟨e2,l1,g2,d1,c10⟩:=(z.a.grow J).put p'.cells rfl (gR Z.rpAt);have a2:=d1.load (P:=prog) (k:=26) rfl;have F:=k'3 q0 ((Z.mono z.B.size).chg (z.a.grow J) c10 (by decide)) ((z.B.on J).trans (c10.below (B:=w.heap.size) (fun i hi=>by have:=f.d; omega) (z.B.on J).size));clear l8 q0 Z J d1 c10 l1;go_wp2_with fail;exact aU (v:=.tuple #[.agg p'.cells.toArray,.i 0]) (by simp[results,results15,go_sem,a2]) rfl ⟨p',d2,rfl,F.a.trans M.C,F.b,F.C⟩
end
section
attribute [-go_sem] loadCellsFrom storeCells run_eql_struct run_neq_struct Instr.build
attribute [local go_sem] bC VoV.fold
end
section
attribute [-go_sem] loadCellsFrom storeCells run_eql_struct run_neq_struct
attribute [local go_sem] bC VoV.fold
def st3:St:=⟨Uj 3,[]⟩
def kd3:Kd:=⟨0,0,0,iP st3,[]⟩
def kp3:KpV:=⟨0,0,0,iP st3,[],.slice none 0 0⟩
theorem Nj:stB st3=true:=by decide+kernel
theorem aAu(q:HpV)(w:World):(Instr.build 32 #[(0,.agg q.cells.toArray)]).run prog w=.ok (.agg (StV.cells ⟨q,[],.slice none 0 0⟩).toArray) w:=run_build w _ _ _ (by kernel_rfl)
theorem aAv(s:ByteArray)(w:World):(Instr.build 24 #[(3,.string s)]).run prog w=.ok (.agg (KpV.cells ⟨0,0,0,s,[],.slice none 0 0⟩).toArray) w:=run_build w _ _ _ (by kernel_rfl)
attribute [go_sem] aAu aAv
def kJ(v:Value):HpV:=⟨⟨3,1,0,0,0,0,[],[⟨0,3⟩]⟩,.slice none 0 0,v⟩
theorem aAw(w:World):
  Calls prog 161 #[.i 3] w fun e l=>∃v,e=.returned (.tuple #[.agg (kJ v).cells.toArray,.i 0])∧Ow l w.heap.size 150 2 v Bk.cells [⟨0,3⟩]∧Bw' w l:=by
 have n:=kp (fun W=>by have:=Cw 3 W; rw[show cP 3=true from rfl]at this; exact this);go_enter func161,ntmps161;go_wp2_with fail;refine (n.o _).mono ?_;rintro e m ⟨v,rfl,j,g⟩;have h:=(Blk.new w 29 z'1).below g (by simp);have k:=fun r z f=>h.store (P:=prog) (cs':=r) z f;have d:=k'3 j g h;clear j g h;obtain⟨A,c,rfl,B⟩:=d.a.sl bM;have f:=k (HpV.cells ⟨⟨3,1,0,0,0,0,[],[⟨0,3⟩]⟩,.slice none 0 0,.slice A 1 c⟩) rfl (HpV.one rfl rfl);clear k B;unfold HpV.cells at f;go_wp2_with fail;have q:=kp (d.C.set (HpV.cells ⟨⟨3,1,0,0,0,0,[],[⟨0,3⟩]⟩,.slice none 0 0,.slice A 1 c⟩));have p:=kp (cL ((ba' w _).trans (d.b.mono (by simp))) (aD _) (HpV.cells ⟨⟨3,1,0,0,0,0,[],[⟨0,3⟩]⟩,.slice none 0 0,.slice A 1 c⟩).toArray);have s:Ow _ _ 150 2 (.slice A 1 c) Bk.cells [⟨0,3⟩]:=d.a.chg ((Chg.refl (fun i=>i=w.heap.size) m).setRow (.inr rfl) (HpV.cells ⟨⟨3,1,0,0,0,0,[],[⟨0,3⟩]⟩,.slice none 0 0,.slice A 1 c⟩).toArray) fun i y e=>by have:=(d.a.lt y).1; simp at this; omega
 have x:Sem.run prog (loadCellsFrom ⟨w.heap.size,0,none⟩ 0 8 #[]) (m.setRow w.heap.size #[.i 3,.slice none 0 0,.i 1,.i 0,.i 0,.i 0,.i 0,.slice A 1 c])=.ok #[.i 3,.slice none 0 0,.i 1,.i 0,.i 0,.i 0,.i 0,.slice A 1 c] _:=q.o.load (P:=prog) rfl;exact aU (v:=.tuple #[.agg (HpV.cells ⟨⟨3,1,0,0,0,0,[],[⟨0,3⟩]⟩,.slice none 0 0,.slice A 1 c⟩).toArray,.i 0]) (by simp[results,results161,go_sem,x,HpV.cells]) rfl ⟨_,rfl,Ow.mono s (by simp),p.o⟩
attribute [-go_sem] Instr.build
theorem aAx(w:World):
  Calls prog 112 #[.i 3] w fun e p=>∃v,e=.returned (.tuple #[.agg (StV.cells ⟨kJ v,[],.slice none 0 0⟩).toArray,.i 0])∧Ow p w.heap.size 150 2 v Bk.cells [⟨0,3⟩]∧Bw' w p:=by
 obtain⟨y,z,q,m,E⟩:=par w 32 mF;unfold mF at z;have f:=k'2 q m;have x:=kp (aAw y);clear q m E;go_enter func112,ntmps112;go_wp2_with fail;refine (x.o).mono ?_;rintro e D ⟨v,rfl,d,h⟩;obtain⟨F,H,K,r,c,-⟩:=fB D 29 z'1 (kJ v).cells rfl (HpV.one rfl d.one);have J:=r.load (P:=prog) (k:=8) rfl;have n:=d.below c;have j:=(f.a.grow h).grow c;obtain⟨G,A,L,s,c4⟩:=j.put (StV.cells ⟨kJ v,[],.slice none 0 0⟩) rfl (fun u b=>by
  rcases dF.1 b with b|b
  .exact HpV.one rfl d.one u b
  .rw[bQ.1 b]; rfl)
 have C:=s.load (P:=prog) (k:=9) rfl;have g:=f.B.on (h.on c);have l:=k'2 ((n.chg_blk j c4 (by decide)).mono f.B.size) (g.trans (c4.below (B:=w.heap.size) (fun i I=>by omega) g.size));clear d h r c n j s c4 g A;go_wp2_with fail;exact aU (v:=.tuple #[.agg (StV.cells ⟨kJ v,[],.slice none 0 0⟩).toArray,.i 0]) (by simp[results,results112,go_sem,C]) rfl ⟨v,rfl,l.a,l.B⟩
theorem aAy{w:World}{base:Nat}{v:Value}(h:Ow w base 150 2 v Bk.cells [⟨0,3⟩]):Ws w base ⟨kJ v,[],.slice none 0 0⟩ []:=
 ⟨⟨aO.nil _ _ _ _,⟨fun _ h=>(nomatch h),.nil⟩,rfl,OR.of_ow h fun _ h _=>h⟩,aO.nil _ _ _ _⟩
theorem aAz(w:World):
  Calls prog 61 #[.i 3] w fun e R=>e=.returned (.tuple #[.agg kp3.cells.toArray,.i 0])∧Bw' w R:=by
 obtain⟨I,J,A,p,T⟩:=par w 24 z'8;have l:=k'2 A p;have G:=kp (aAx I);clear A p T;go_enter func61,ntmps61;go_wp2_with fail;refine (G.o).mono ?_;rintro e S ⟨v,rfl,r,f⟩;have j:=aAy r;obtain⟨n,K,Q,C,b,-⟩:=fB S 32 z'2 (StV.cells ⟨kJ v,[],.slice none 0 0⟩) rfl (StV.one j.st);have N:=C.load (P:=prog) (k:=9) rfl;have H:=kp (by
  have:=Mr ⟨kJ v,[],.slice none 0 0⟩ [] n.heap.size n (j.below b).st (aD _) (by simp) (by show ([⟨0,3⟩]:List Bk).length≤900000; simp) (by simp);rw[show stB (StV.x ⟨kJ v,[],.slice none 0 0⟩)=true from Nj]at this;exact this)
 have d:=k'2 (l.a.grow (f.on b)) (l.B.on (f.on b));clear r f j C b;go_wp2_with fail;refine (H.o).mono ?_;rintro e z ⟨X,rfl,s,c⟩;rw[show eN 60 true=0 from rfl];obtain⟨E,c4,rfl,h⟩:=s rfl;rw[show StV.x ⟨kJ v,[],.slice none 0 0⟩=st3 from rfl]at h ⊢;have g:=sY (P:=prog) z 95 9 5 aBP sX oG z.heap.size E (gI st3).length c4 (gI st3) h rfl;rw[show (⟨(gI st3).toArray⟩:ByteArray)=iP st3 by unfold iP; rw[aE Nj]]at g;obtain⟨m,q⟩:=nm' ((gI st3).length);rw[q]at g ⊢;obtain⟨U,L,y,D,c5⟩:=(d.a.grow c).put kp3.cells rfl (mW rfl);have O:=D.load (P:=prog) (k:=5) rfl;have F:=kp ((d.B.on c).trans (c5.below (B:=w.heap.size) (fun i V=>by omega) (d.B.on c).size));unfold kp3 at y;clear s h q c D c5 L N Q K J;obtain⟨W,M⟩:=nm' (iP st3);rw[M]at g y;go_wp2_with fail;exact aU (v:=.tuple #[.agg kp3.cells.toArray,.i 0]) (by simp[results,results61,go_sem,O]) rfl ⟨rfl,F.o⟩
end
section
attribute [-go_sem] loadCellsFrom storeCells run_eql_struct run_neq_struct Instr.build
attribute [local go_sem] bC VoV.fold
structure WkV where
 (r:RpV) (rs:List RcV) (rv:Value) (ms:List MgV) (mv:Value)
def WkV.cells(p:WkV)(tl:List Value):List Value:=p.r.cells++([p.rv,p.mv]++tl)
structure WkO(w:World)(base g:Nat)(t:TypeId)(tl:List Value)(p:WkV)(ps:List ObV):Prop where
 blk:Blk w g t (p.cells tl)
 lo:base≤g
 rep:RpO w base p.r ps
 rs:Ow w base 101 17 p.rv RcV.cells p.rs
 rse:∀x∈p.rs,Ow w base 93 11 x.ev En.cells x.es
 ms:Ow w base 48 23 p.mv MgV.cells p.ms
 mse:∀x∈p.ms,Ow w base 93 11 x.ev En.cells x.es
def qG(t:TypeId):Prop:=t=79∨t=77777
section
variable {w w':World}{base g b:Nat}{t t2:TypeId}{tl cs:List Value}{p:WkV}{ps:List ObV}
theorem WkO.below(h:WkO w base g t tl p ps)(a:Bw' w w'):WkO w' base g t tl p ps:=⟨h.blk.grow a,h.lo,h.rep.below a,h.rs.below a,fun x b=>(h.rse x b).below a,h.ms.below a,fun x b=>(h.mse x b).below a⟩
theorem WkO.put{r:RpV}{d:List ObV}(h:WkO w base g t tl p ps)(b:qG t)(e:Blk w' g t (WkV.cells ⟨r,p.rs,p.rv,p.ms,p.mv⟩ tl))(a:Chg (fun i=>i=g) w w')(f:RpO w base r d):WkO w' base g t tl ⟨r,p.rs,p.rv,p.ms,p.mv⟩ d:=by
 refine⟨e,h.lo,f.chg h.blk a (by rcases b with rfl|rfl<;>decide),h.rs.chg_blk h.blk a (by rcases b with rfl|rfl<;>decide),fun x c=>(h.rse x c).chg_blk h.blk a (by rcases b with rfl|rfl<;>decide),h.ms.chg_blk h.blk a (by rcases b with rfl|rfl<;>decide),fun x c=>(h.mse x c).chg_blk h.blk a (by rcases b with rfl|rfl<;>decide)⟩
end
def RpV.settled(r:RpV):RpV:=⟨r.id,r.nodes,r.k,r.commit,r.s,0,[],.slice none 0 0,[],.slice none 0 0,[],.slice none 0 0,jL⟩
theorem RpO.settled{w:World}{base:Nat}{r:RpV}{ps:List ObV}(h:RpO w base r ps):RpO w base r.settled ps:=⟨h.es,h.st,Ow.nil _ _ _ _ _,Ow.nil _ _ _ _ _,fun _ h=>(nomatch h),Ow.nil _ _ _ _ _⟩
theorem WkO.settle{w:World}{base g:Nat}{t:TypeId}{tl:List Value}{p:WkV}{ps:List ObV}(h:WkO w base g t tl p ps)(l:qG t):
  ∃b c k a d,w.setCell ⟨g,18,none⟩ (.slice none 0 0)=b∧b.setCell ⟨g,19,none⟩ (.slice none 0 0)=c∧c.setCell ⟨g,20,none⟩ (.slice none 0 0)=k∧Sem.run prog (storeCells ⟨g,21,none⟩ jL.cells 0) k=.ok () a∧a.setCell ⟨g,17,none⟩ (.i 0)=d∧
   (w.cell? ⟨g,18,none⟩=some p.r.sv∧w.frozen? ⟨g,18,none⟩=false)∧(b.cell? ⟨g,19,none⟩=some p.r.vv∧b.frozen? ⟨g,19,none⟩=false)∧(c.cell? ⟨g,20,none⟩=some p.r.av∧c.frozen? ⟨g,20,none⟩=false)∧(a.cell? ⟨g,17,none⟩=some (.i p.r.timer)∧a.frozen? ⟨g,17,none⟩=false)∧
   WkO d base g t tl ⟨p.r.settled,p.rs,p.rv,p.ms,p.mv⟩ ps∧Chg (fun i=>i=g) w d:=by
 have e:=h.blk.setCell 18 (.slice none 0 0);have f:=e.setCell 19 (.slice none 0 0);have n:=f.setCell 20 (.slice none 0 0);obtain⟨a,q,m,j,c4⟩:=n.off 21 jL.cells _ rfl (by show 21+5≤((((p.cells tl).set 18 _).set 19 _).set 20 _).length; simp[WkV.cells,RpV.cells,KpV.cells,StV.cells,HpV.cells,Pt.cells]) (Dh jL);have o:=j.setCell 17 (.i 0);have c5:=((((Chg.refl (fun i=>i=g) w).setCell (.inr rfl) 18 (.slice none 0 0)).setCell (.inr rfl) 19 (.slice none 0 0)).setCell (.inr rfl) 20 (.slice none 0 0)).trans (c4.setCell (.inr rfl) 17 (.i 0)) fun _ _ h=>h;exact⟨_,_,_,a,_,rfl,rfl,rfl,m,rfl,⟨h.blk.cell 18,h.blk.frozen 18⟩,⟨e.cell 19,e.frozen 19⟩,⟨f.cell 20,f.frozen 20⟩,⟨j.cell 17,j.frozen 17⟩,h.put l o c5 h.rep.settled,c5⟩
theorem aAD{tl:List Value}{g base:Nat}(p:WkV)(ps:List ObV)(w:World)(h:WkO w base g 79 tl p ps)(c:0≤p.r.k.base∧p.r.k.base≤900000000)(f:p.r.k.es.length≤1000000):
  Calls prog 44 #[.pointer (some ⟨g,0,none⟩)] w fun e w'=>e=.returned (.i p.r.k.x.last)∧Bw' w w':=by
 have i:=h.blk.loadOff (P:=prog) 0 26 p.r.cells rfl rfl;have a:=kp (fun W(b:Bw' w W)=>Di p.r W w.heap.size (h.rep.rpAt.1.below b (aD _)) c f);clear h;go_enter func44,ntmps44;go_wp2_with fail;refine mb' (a.o _ (aL _ _)) fun j d=>?_;go_wp2_with fail;go_ret;exact⟨rfl,d⟩
end
section
attribute [-go_sem] loadCellsFrom storeCells run_eql_struct run_neq_struct
attribute [local go_sem] bC
theorem MgV.fold(p:MgV):List.foldl (fun(a:Array Value)(x:Value×Nat)=>a.setIfInBounds x.snd x.fst) z'7a p.cells.zipIdx=p.cells.toArray:=by
 simp[MgV.cells,Opn.cells]
attribute [local go_sem] MgV.fold fF
theorem zF:(prog.info? 48).map (fun i=>(i.zero,i.size,i.bytes))=some (some (.agg zD.cells.toArray),23,208):=by kernel_rfl
section
variable {w w':World}{base g:Nat}{t:TypeId}{tl:List Value}{p:WkV}{ps:List ObV}
theorem RpO.row{r:RpV}{d:List ObV}{α:Type}{enc:α→List Value}{k:Nat}{v:Value}{l:List α}(h:RpO w base r d)(c:Ow w base t k v enc l)(b:Chg (fun i=>v.ownBlock=some i) w w')(a:t≠152∧t≠150∧t≠3∧t≠117∧t≠93∧t≠103∧t≠109):RpO w' base r d:=
 ⟨h.es.chg_row c b a.2.2.2.2.1,h.st.chg_row c b a.1 a.2.1 a.2.2.1 a.2.2.2.1,h.starts.chg_row c b a.2.2.1,h.votes.chg_row c b a.2.2.2.2.2.1,fun v e=>(h.ves v e).chg_row c b a.2.2.2.2.1,h.acks.chg_row c b a.2.2.2.2.2.2⟩
theorem WkO.told{v':Value}{l':List MgV}(h:WkO w base g t tl p ps)(a:qG t)(c:Chg (fun i=>p.mv.ownBlock=some i) w w')(l:Ow w' base 48 23 v' MgV.cells l')(k:∀x∈l',Ow w' base 93 11 x.ev En.cells x.es):
  WkO (w'.setCell ⟨g,27,none⟩ v') base g t tl ⟨p.r,p.rs,p.rv,l',v'⟩ ps∧Chg (fun i=>i=g∨p.mv.ownBlock=some i) w (w'.setCell ⟨g,27,none⟩ v'):=by
 have b:=h.blk.chg c (h.ms.ne_blk h.blk (by rcases a with rfl|rfl<;>decide));have f:Blk (w'.setCell ⟨g,27,none⟩ v') g t (WkV.cells ⟨p.r,p.rs,p.rv,l',v'⟩ tl):=b.setCell 27 v';have m:=h.rep.row h.ms c (by decide);have o:=h.rs.chg_row h.ms c (by decide);have n:=fun x e=>(h.rse x e).chg_row h.ms c (by decide);have d:=(Chg.refl (fun i=>i=g) w').setCell (.inr rfl) 27 v';refine⟨⟨f,h.lo,m.chg b d (by rcases a with rfl|rfl<;>decide),o.chg_blk b d (by rcases a with rfl|rfl<;>decide),fun x e=>(n x e).chg_blk b d (by rcases a with rfl|rfl<;>decide),l.chg_blk b d (by rcases a with rfl|rfl<;>decide),fun x e=>(k x e).chg_blk b d (by rcases a with rfl|rfl<;>decide)⟩,(c.mono fun i _ j=>.inr j).setCell (.inr (.inl rfl)) 27 v'⟩
end
def MgV.frm(p:MgV)(i:Int):MgV:=⟨p.kind,i,p.dst,p.view,p.normal,p.number,p.base,p.commit,p.es,p.ev,p.offset,p.total,p.data,p.seq,p.op,p.code,p.value,p.ok⟩
def MgV.seen(p:MgV)(i:Int):MgV:=⟨p.kind,p.src,p.dst,i,p.normal,p.number,p.base,p.commit,p.es,p.ev,p.offset,p.total,p.data,p.seq,p.op,p.code,p.value,p.ok⟩
theorem zG(p:WkV)(tl:List Value):(p.cells tl)[27]? =some p.mv:=rfl
end
section
attribute [-go_sem] loadCellsFrom storeCells run_eql_struct run_neq_struct
attribute [local go_sem] bC MgV.fold fF
def MgV.to(p:MgV)(d:Int):MgV:=⟨p.kind,p.src,d,p.view,p.normal,p.number,p.base,p.commit,p.es,p.ev,p.offset,p.total,p.data,p.seq,p.op,p.code,p.value,p.ok⟩
def sI(id:Int)(k:Nat):List Int:=((List.range k).map fun n=>((n:Nat):Int)+1).filter fun n=> !decide (n=id)
theorem Nk(id:Int)(k:Nat):sI id (k+1)=if (k:Int)+1=id then sI id k else sI id k++[(k:Int)+1]:=by
 unfold sI;rw[Ac,gC,oZ]
 by_cases h:(k:Int)+1=id<;>simp[h]
def sJ(p:WkV)(m:MgV)(k:Nat):List Mg:=(sI p.r.id k).map fun d=>(((m.to d).seen p.r.k.view).frm p.r.id).x
structure jY(w1 W:World)(base g g1:Nat)(t:TypeId)(tl:List Value)(p:WkV)(ps:List ObV)(m:MgV)(k:Nat)(l:List MgV)(v:Value)(d:Int):Prop where
 x:l.map (·.x)=sJ p m k
 n:l.length≤k
 o:WkO W base g t tl ⟨p.r,p.rs,p.rv,p.ms++l,v⟩ ps
 b:Blk W g1 48 (m.to d).cells
 e:Ow W base 93 11 m.ev En.cells m.es
 c:Chg (fun i=>i=g∨p.mv.ownBlock=some i∨i=g1) w1 W
 f:∀j,v.ownBlock=some j→p.mv.ownBlock=some j∨g1<j
section
variable {w1 W W':World}{base g g1 k:Nat}{t:TypeId}{tl:List Value}{p:WkV}{ps:List ObV}{m:MgV}{l:List MgV}{v:Value}{d:Int}
theorem WkO.box{d:List Value}(h:WkO W base g t tl p ps)(b:Blk W g1 48 d)(a:Chg (fun i=>i=g1) W W')(k:p.mv.ownBlock≠some g1)(f:g≠g1):WkO W' base g t tl p ps:=
 ⟨h.blk.chg a f,h.lo,h.rep.chg b a (by decide),h.rs.chg_blk b a (by decide),fun x c=>(h.rse x c).chg_blk b a (by decide),h.ms.chg a fun i e j=>by rw[show i=g1 from j]at e; exact k e,fun x c=>(h.mse x c).chg_blk b a (by decide)⟩
theorem jY.store(h:jY w1 W base g g1 t tl p ps m k l v d)(q:g<g1)(s:∀j,p.mv.ownBlock=some j→j<g1)(e:Int):
  jY w1 (W.setCell ⟨g1,2,none⟩ (.i e)) base g g1 t tl p ps m k l v e:=by
 have c:=(Chg.refl (fun i=>i=g1) W).setCell (.inr rfl) 2 (.i e);exact⟨h.x,h.n,h.o.box h.b c (fun a=>(h.f _ a).elim (fun a=>absurd (s _ a) (wH _)) fun a=>absurd a (wH _)) (uI q),h.b.setCell 2 _,h.e.chg_blk h.b c (by decide),h.c.trans c fun i _ r=>.inr (.inr r),h.f⟩
theorem jY.skip(h:jY w1 W base g g1 t tl p ps m k l v d)(a:(k:Int)+1=p.r.id):jY w1 W base g g1 t tl p ps m (k+1) l v d:=
 ⟨by rw[h.x,sJ,sJ,Nk,aE a],Nat.le_succ_of_le h.n,h.o,h.b,h.e,h.c,h.f⟩
theorem jY.sent{z:World}{ev v2:Value}(h:jY w1 W base g g1 t tl p ps m k l v ((k:Int)+1))(G:qG t)(H:g<g1)(J:w1.heap.size=g1+1)(F:∀j,p.mv.ownBlock=some j→j<g1)(s:Bw' W W')(B:(k:Int)+1≠p.r.id)
  (E:WkO z base g t tl ⟨p.r,p.rs,p.rv,(p.ms++l)++[(((m.to ((k:Int)+1)).own ev).seen p.r.k.view).frm p.r.id],v2⟩ ps) (A:Chg (fun i=>i=g∨v.ownBlock=some i) W' z) (C:∀j,v2.ownBlock=some j→v.ownBlock=some j∨W'.heap.size≤j):
  jY w1 z base g g1 t tl p ps m (k+1) (l++[(((m.to ((k:Int)+1)).own ev).seen p.r.k.view).frm p.r.id]) v2 ((k:Int)+1):=by
 have I:=h.c.size;have D:¬(g1=g∨v.ownBlock=some g1):=fun d=>by
  rcases d with d|d
  .omega
  .rcases h.f _ d with d|d
   .exact absurd (F _ d) (wH _)
   .omega
 refine⟨?_,?_,?_,(h.b.grow s).chg A D,(h.e.below s).chg A fun i e q=>?_,(h.c.trans (Chg.of_below (S:=fun i=>i=g∨p.mv.ownBlock=some i∨i=g1) s) fun _ _ h=>h).trans A fun i q a=>?_,fun j y=>?_⟩
 .rw[gC,h.x,sJ,sJ,Nk,aC B,gC]; rfl
 .rw[bB]; have:=h.n; simp; omega
 .rw[←cR]; exact E
 .rcases q with q|q
  .exact h.e.ne_blk h.o.blk (by rcases G with rfl|rfl<;>decide) (q▸e)
  .exact h.e.apt h.o.ms (by decide) i e q
 .rcases a with a|a
  .exact .inl a
  .rcases h.f _ a with a|a
   .exact .inr (.inl a)
   .omega
 .rcases C j y with y|y
  .exact h.f j y
  .have:=s.size; omega
end
end
end Go.Proofs.YthalbagblhkeaaaGreat
