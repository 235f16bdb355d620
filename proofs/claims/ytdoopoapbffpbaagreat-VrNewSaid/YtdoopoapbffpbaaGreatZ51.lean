import Derived.Test.YtdoopoapbffpbaaGreatZ49
import Derived.Test.YtdoopoapbffpbaaGreatZ50
import Derived.Defers
import Derived.Recover
namespace Go.Proofs.YtdoopoapbffpbaaGreat
open Go.RowKit Go.Proofs.Tryz
set_option maxRecDepth 100000
set_option maxHeartbeats 12800000
set_option linter.unusedVariables false
set_option linter.unusedSimpArgs false
section
attribute [-go_sem] loadCellsFrom storeCells run_eql_struct run_neq_struct Instr.build
attribute [local go_sem] bC zI qI sL El Ei
theorem aA0{r:Rp}(h:dI r=true):inR r.nodes:=by
 have:=(vZ h).nodes;constructor<;>omega
def aA1(g:Nat)(u:Value)(W:World):Prop:=∃b,u=.func (.func 105) #[] #[.pointer (some ⟨b,0,none⟩)]∧Blk W b 107 [.pointer (some ⟨g,0,none⟩)]
theorem aA2{g base:Nat}(q:RpV)(H:List ObV)(w:World)(h:WkO w base g 109 [] ⟨q,[],.slice none 0 0,[],.slice none 0 0⟩ H)(hb:base≤w.heap.size)(M:dI q.x=true)(hk:KdR q.k.x)(f:q.k.image.size≤1000000):
  Calls prog 57 #[.pointer (some ⟨g,0,none⟩)] w fun e w'=>e=.returned (.tuple #[])∧∃n,WkO w' base g 109 [] n H∧Chg (fun i=>i=g) w w'∧cU q.x=(n.r.x,n.rs.map (·.x),n.ms.map (·.x)):=by
 have T:=vZ M;have e0:=Nv M hk f;have j:=k'4 T e0 M hb;have q0:=T.timer.1;have y0:=T.timer.2;have g0:=h.blk.cell 17;rw[show (WkV.cells ⟨q,[],.slice none 0 0,[],.slice none 0 0⟩ [])[17]? =some (.i q.timer) from rfl]at g0;have o0:=h.blk.frozen 17;obtain⟨U,c7⟩:=h.clock (.inl rfl) (min (q.timer+1) 1000);obtain⟨W7,p0⟩:∃W,w.setCell ⟨g,17,none⟩ (.i (min (q.timer+1) 1000))=W:=⟨_,rfl⟩
 rw[p0]at U c7;have l7:=U.blk.loadOff (P:=prog) 0 26 (q.timed (min (q.timer+1) 1000)).cells rfl rfl;have HP:=kp (Dj (q.timed (min (q.timer+1) 1000)) W7 (aA0 M));change 0≤q.timer at q0;change q.timer≤1000 at y0;have HW:=k'3 U c7 (aB hb c7.size);clear h hb U c7 e0 T M hk f;go_enter func57,ntmps57;go_wp2_with fail;refine mb' (HP.o) fun X R=>?_;have E:=kp (HW.a.below R);have Z:=kp (HW.b.trans (Chg.of_below (S:=fun _=>False) R) fun _ _ h=>h.elim);have b0:=kp (aB HW.C R.size);obtain⟨m,hm⟩:=nm' (min (q.timer+1) 1000);obtain⟨z,hz⟩:=nm' (gM (q.timed m).x);rw[hm]at E ⊢;rw[hz];have V:X.cell? ⟨g,17,none⟩=some (.i m):=E.o.blk.cell 17;have s:=k'3 hm hz (show m≤1000 by omega);clear R hz hm HP g0 o0 l7
 cases z
 case' true=>
  by_cases h3:3≤m
  case' pos=>
   have f8:=E.o.blk.frozen 17;obtain⟨h9,c9⟩:=E.o.clock (.inl rfl) 0;obtain⟨A,d0⟩:∃W,X.setCell ⟨g,17,none⟩ (.i 0)=W:=⟨_,rfl⟩
   rw[d0]at h9 c9;have l0:=kp (Z.o.trans c9 fun _ _ h=>h);have O:=k'2 (h9.below (bR (aL _ _))) (aB b0.o (aB c9.size (bR (aL A.heap.size A)).size));have m0:=kp (fun(W:World)(u:Below A.drew.heap.size A.drew W)=>aAD _ H W (O.a.below u) j.a.base (aB j.a.len (by decide)));clear h9 c9;go_wp2_with fail;clear V f8 d0;refine kU 10 (fun W'=>Below A.drew.heap.size A.drew W') (fun _=>rM) (by kernel_rfl) (by kernel_rfl) (aL _ _) ?_;refine bO ?_; apply Exists.intro;refine bS (aA1 g) ?_
   iterate 8 (refine bO ?_; apply Exists.intro)
   refine dR ⟨?pers,?walk⟩
   case' walk=>
    apply Sz (by kernel_rfl) (by intro t w h; cases h; exact trivial) rfl
    .intro W' d y; go_wp2_with fail;exact⟨rfl,_,rfl,d,aL _ _,rfl⟩
    simp only[Act.put,aN,aH,aI];refine⟨fun W' d y=>?_,fun u1=>?_⟩
    .go_wp2_with fail;refine (Nr g W').mono ?_;rintro e w2 ⟨rfl,z0,K⟩;go_wp2_with fail;exact⟨rfl,_,rfl,d.on K,K,⟨_,rfl,z0⟩⟩
    simp only[Act.put,aN,aH,aI];apply Sz (by kernel_rfl) (by intro t w h; cases h; exact trivial) rfl
    .intro W' d y; go_wp2_with fail;exact⟨rfl,_,rfl,d,aL _ _,rfl⟩
    simp only[Act.put,aN,aH,aI];apply Sz (by kernel_rfl) (by intro t w h; cases h; exact trivial) rfl
    .intro W' d y;go_wp2_with fail;refine mb' (m0.o W' d) fun w2 K=>?_;go_wp2_with fail;exact⟨rfl,_,rfl,d.on K,K,rfl⟩
    simp only[Act.put,aN,aH,aI]
    iterate 4
     apply Sz (by kernel_rfl) (by intro t w h; cases h; exact trivial) rfl
     .intro W' d y; go_wp2_with fail;exact⟨rfl,_,rfl,d,aL _ _,rfl⟩
     simp only[Act.put,aN,aH,aI]
    apply Sz (by kernel_rfl) (by intro t w h; cases h; exact trivial) rfl
    .intro W' d y; have q7:W'.cell? ⟨g,7,none⟩=some (.i q.commit):=(O.a.below d).blk.cell 7; go_wp2_with fail;exact⟨rfl,_,rfl,d,aL _ _,rfl⟩
    simp only[Act.put,aN,aH,aI];apply Sz (by kernel_rfl) (by intro t w h; cases h; exact trivial) rfl
    .intro W' d y; go_wp2_with fail;exact⟨rfl,_,rfl,d,aL _ _,rfl⟩
    simp only[Act.put,aN,aH,aI];intro I d y;have f1:=y 30;obtain⟨b,rfl,hx⟩:=f1;clear y;simp only[dO,dP];have Y:=kp (Ns _ H (Ek q.k.x.last q.commit) I (O.a.below d) hx (Ow.nil _ _ _ _ _) (cY _) (aB O.B d.size) (show q.nodes=((q.nodes.toNat:Nat):Int) by have:=j.a.nodes; change 3≤q.nodes∧q.nodes≤7 at this; omega) (by have:=j.a.nodes; change 3≤q.nodes∧q.nodes≤7 at this; omega) (cY _) (by show (3:Int)≠0; decide));have j0:=kp (((l0.o.trans (Chg.of_below (S:=fun _=>False) (bR (aL A.heap.size A))) fun _ _ h=>h.elim)).trans (Chg.of_below (S:=fun _=>False) d) fun _ _ h=>h.elim);clear d hx;go_wp2_with fail;refine (Y.o).mono ?_;rintro e N ⟨rfl,l,L,hn,a1,D,J,-⟩;have F:=k'3 D (j0.o.trans J fun i _ f=>by
     rcases f with f|f
     .exact f
     .cases f) (show cU q.x=((q.timed 0).x,([]:List RcV).map (·.x),(([]:List MgV)++l).map (·.x)) from by
      rw[Nx j.c s.b (by rw[show min (q.x.timer+1) 1000=m from s.a]; omega),aT,L]; rfl)
    clear L hn D J
   case pers=>exact⟨pv',fun _ _ _ _ _ ⟨b,e,h⟩ hR=>⟨b,e,h.grow hR⟩,pv',pv',pv',pv',pv',pv',pv',pv',trivial⟩
  case' neg=>
   go_wp2_with fail;have F:=k'3 E.o Z.o (show cU q.x=((q.timed m).x,([]:List RcV).map (·.x),([]:List MgV).map (·.x)) from by
     rw[Ny j.c s.b (by rw[show min (q.x.timer+1) 1000=m from s.a]; omega),show min (q.x.timer+1) 1000=m from s.a]; rfl)
   obtain⟨N,a0⟩:=nm' X;clear V;rw[a0]at F ⊢
 case' false=>
  have k9:=aP V;have k0:=aP (show X.cell? ⟨g,0,none⟩=some (.i q.id) from E.o.blk.cell 0);have b1:1≤q.id∧q.id≤7:=by have h1:=j.a.id; have h2:=j.a.nodes; change 1≤q.id∧q.id≤q.nodes at h1; change 3≤q.nodes∧q.nodes≤7 at h2; omega
  have hv:0≤q.k.view∧q.k.view≤800000000:=j.a.view;go_wp2_with fail;refine bJ (by kernel_rfl) (by kernel_rfl) ?_
  repeat (go_big_quiet_step (fail))
  refine bH ?_;rintro I ⟨⟨_,Q⟩,rfl⟩;have G:=k'3 (E.o.below Q) (Z.o.trans (Chg.of_below (S:=fun _=>False) Q) fun _ _ h=>h.elim) (aB b0.o Q.size);have k2:I.cell? ⟨g,2,none⟩=some (.i q.k.view):=G.a.blk.cell 2;clear k9 k0 Q V
  by_cases h3:10+2*q.id≤m
  case' pos=>
   have Y:=kp (aAV _ H (q.k.view+1) I G.a ⟨cY _,by show 0<1000000; decide⟩ G.C j.b (show q.nodes=((q.nodes.toNat:Nat):Int) by have:=j.a.nodes; change 3≤q.nodes∧q.nodes≤7 at this; omega) (by have:=j.a.nodes; change 3≤q.nodes∧q.nodes≤7 at this; omega));go_wp2_with fail;refine (Y.o).mono ?_;rintro e N ⟨rfl,v,sv,d1,l,a1,L,hn,D,J⟩;have F:=k'3 D (G.b.trans J fun i _ f=>by
    rcases f with f|f|f
    .exact f
    .cases f
    .cases f) (show cU q.x=(((q.timed m).turned v sv (q.k.view+1)).x,(([]:List RcV)++[nY (q.k.view+1)]).map (·.x),(([]:List MgV)++l).map (·.x)) from by
     rw[Nz j.c s.b (by rw[show min (q.x.timer+1) 1000=m from s.a]; show 10+2*q.id≤m; omega),aT,aT,L]; rfl)
   clear L hn D J k2
  case' neg=>
   go_wp2_with fail;have F:=k'3 G.a G.b (show cU q.x=((q.timed m).x,([]:List RcV).map (·.x),([]:List MgV).map (·.x)) from by
     rw[Oa j.c s.b (by rw[show min (q.x.timer+1) 1000=m from s.a]; show ¬10+2*q.id≤m; omega),show min (q.x.timer+1) 1000=m from s.a]; rfl)
   obtain⟨N,a0⟩:=nm' I;clear k2;rw[a0]at F ⊢
 all_goals
  obtain⟨n,D⟩:=Exists.intro (p:=fun n:WkV=>WkO N base g 109 [] n H∧Chg (fun i=>i=g) w N∧cU q.x=(n.r.x,n.rs.map (·.x),n.ms.map (·.x))) _ F.o;have HZ:=kp D;clear D F;go_wp2_with fail;go_end0;exact⟨rfl,n,HZ.a,HZ.b,HZ.C⟩
end
section
attribute [-go_sem] loadCellsFrom storeCells run_eql_struct run_neq_struct Instr.build
attribute [local go_sem] bC zI qI sL Ei
theorem aA3(p:RpV)(w:World):(Instr.build 109 #[(0,.agg p.cells.toArray)]).run prog w=.ok (.agg (WkV.cells ⟨p,[],.slice none 0 0,[],.slice none 0 0⟩ []).toArray) w:=run_build w _ _ _ (by kernel_rfl)
attribute [local go_sem] aA3
theorem aA4{p:RpV}(h:dI p.x=true)(b:KdR p.k.x):stB p.s.x=true:=by
 simp only[dI,bI,bP]at h;exact (Dn (k:=p.k.x) (fun e a=>(b e a).2.2.2.2.2.2.2.2.2.1) h.2.2.2.2.2.2.2.2).1
theorem aA5(a b c:Value)(w:World):
  CallsD prog 104 #[a,b,c] .returning w fun e g h=>e=.returned (.tuple #[])∧g=.returning∧h=w:=by
 refine callsD_of_wpS func104 rfl fun d i f=>?_;apply wpS_seq;apply wpS_region;simp[wpOpsS,go_sem,recoverD,f,ntmps104,Exit.thenS];apply wpS_seq;apply wpS_region;simp[wpOpsS,go_sem,Exit.thenS];refine wpS_cond (t:=false) (by simp[Act.eval,Array.replicate]) ?_;simp only[qO,if_false];refine wpS_of_wp (wp_skip ?_)
 cases d
 simp_all [bodyPostS,results,results104]
theorem aA6(p:RpV)(ps:List ObV)(B:Nat)(w:World)(h:eO w B p ps)(hB:B≤w.heap.size)(S:RpS p ps):
  Calls prog 56 #[.agg p.cells.toArray,.func (.func 57) #[] #[]] w fun e w'=>sM w w' (cU p.x) e:=by
 obtain⟨Z,j1,x1,b1,z1⟩:=par w 39 p.cells;obtain⟨M,e1,x2,b2,z2⟩:=par Z 39 dN;obtain⟨N,m1,x3,Q,z3⟩:=par M 64 [.slice none 0 0,.slice none 0 0];unfold dN at e1;have a0:=b1.on (b2.on Q);have h3:=h.below a0 hB;have b0:=aB hB a0.size;have HR:=kp (vX p ps B N h3 b0 S);have HO:=kp (fun(W:World)(b:Bw' N W)=>Na p ps B W (h3.below b b0) (aB b0 b.size) S);have l0:=(x1.grow (b2.on Q)).load (P:=prog) (k:=26) rfl;have hz:Z.heap.size<M.heap.size:=z2;have y0:M.heap.size<N.heap.size:=z3;have g:=k'7 (x1.grow (b2.on Q)) (x2.grow Q) x3 a0 z1 hz y0;have HS:=kp S;clear x1 x2 x3 b1 b2 Q a0 z1 z2 z3 hz y0 h3 b0 h hB S
 go_enter_defers func56,ntmps56
 go_wp2_with fail;refine mb' (HR.o) fun w4 n=>?_;have L:=kp n
 cases hrb:dI p.x
 .obtain⟨W5,p1,s5,x5,c5⟩:=(g.b.grow n).put jX.cells rfl (gR (oW w4 w4.heap.size).rpAt);have y5:=(g.c.grow n).chg c5 (by have:=g.o; omega);obtain⟨O,g1,s6,Y,c6⟩:=y5.put [.slice none 0 0,.slice none 0 0] rfl (fun u hu=>by
   rcases bA.1 hu with rfl|hu
   .rfl
   .rw[bQ.1 hu]; rfl)
  have l5:=(x5.chg c6 (by have:=g.o; omega)).load (P:=prog) (k:=26) rfl;have l6:=Y.load (P:=prog) (k:=2) rfl;have HF:=kp ((g.d.on n).trans ((c5.below (B:=w.heap.size) (fun i hi=>by have:=g.o; omega) (aB g.d.size n.size)).trans (c6.below (B:=w.heap.size) (fun i hi=>by have:=g.o; omega) (aB (aB g.d.size n.size) c5.size))));have y:=kp (show cU p.x=(oQ,[],[]) by unfold cU; rw[aC (by rw[hrb]; decide)]);clear y5 x5 Y c5 c6 n hrb l0;go_wp2_with fail;have I:sM w O (cU p.x) (.returned (.tuple #[.agg jX.cells.toArray,.agg #[.slice none 0 0,.slice none 0 0]])):=⟨⟨⟨jX,[],.slice none 0 0,[],.slice none 0 0⟩,[],rfl,by rw[y.o]; rfl,by rw[y.o]; rfl,by rw[y.o]; rfl,oW _ _,Ow.nil _ _ _ _ _,fun _ h=>(nomatch h),Ow.nil _ _ _ _ _,fun _ h=>(nomatch h)⟩,HF.o⟩
  simp[bodyPostD,Leaves,results,results56,go_sem,l5,l6,I]
 have l1:=(g.a.grow n).load (P:=prog) (k:=26) rfl;clear l0;have p0:=aA4 hrb HS.o.k.1;go_wp2_with fail;refine (HO.o w4 L.o p0).mono ?_;rintro e w5 ⟨q,V,rfl,U,m0,d0⟩;obtain⟨O,g1,Y,b6,z6⟩:=par w5 109 (WkV.cells ⟨q,[],.slice none 0 0,[],.slice none 0 0⟩ []);have e0:=L.o.on (d0.on b6);have j0:RpO O w.heap.size q V:=(m0.below b6).mono (aB g.d.size L.o.size);have q0:WkO O w.heap.size w5.heap.size 109 [] ⟨q,[],.slice none 0 0,[],.slice none 0 0⟩ V:=⟨Y,aB g.d.size (aB L.o.size d0.size),j0,Ow.nil _ _ _ _ _,fun _ h=>(nomatch h),Ow.nil _ _ _ _ _,fun _ h=>(nomatch h)⟩
 have o0:dI q.x=true:=by rw[U]; exact hrb
 have d1:=kp (aA2 q V O q0 (aB g.d.size e0.size) o0 (by rw[show q.k.x=p.k.x from bG (·.k) U]; exact HS.o.k.1) (by rw[show q.k.image=p.k.image from bG (·.k.image) U]; exact HS.o.k.2.2));have K:=k'3 e0 U (show N.heap.size≤w5.heap.size from aB L.o.size d0.size);clear q0 j0 m0 Y b6 d0 e0 n U o0 p0 hrb l1;go_wp2_with fail;refine (d1.o).mono ?_;rintro e D ⟨rfl,j,R,cE,hT⟩;have b7:=K.a.trans (cE.below (B:=N.heap.size) (fun i hi=>by have:=K.o; omega) K.a.size);have bd:=b7.on (bR (aL D.heap.size D));have z:=k'5 (g.b.grow bd) (g.c.grow bd) (g.d.on bd) (R.blk.grow (bR (aL D.heap.size D))) (R.below (bR (aL D.heap.size D)));have y:=k'2 (K.b▸hT) (show M.heap.size<w5.heap.size from eA g.G K.C);have g0:=k'2 (show ∀u∈j.r.cells,u.oneCell'=true from gR R.rep.rpAt) (Nw R);clear R cE hT b7 bd;go_wp2_with fail;refine fR 9 (qH D.drew Z.heap.size j.r.cells) (fun _=>fK) (by kernel_rfl) (by kernel_rfl) ⟨Chg.refl _ _,dN,z.a,rfl,fun _ h=>(nomatch h)⟩ ?_
 iterate 8 (refine bO ?_; apply Exists.intro)
 refine bS eM ?_;refine dR ⟨?_,?_⟩
 rotate_left
 .iterate 8
   apply Ug (by kernel_rfl) (by intro t w h; cases h; exact trivial) rfl
   .intro X W' l hX hw hV m;have b:=z.d.chg l.c (by have:=y.o; have:=g.o; omega);have l1:=b.loadOff (P:=prog) 0 26 j.r.cells rfl rfl;have l2:=b.loadOff (P:=prog) 26 2 [j.rv,j.mv] rfl rfl;go_wp2_with fail;exact⟨rfl,_,rfl,l.other (by decide),aV,rfl⟩
   simp only[Act.put,aN,aH,aI,aT,aW]
  refine⟨fun X W' l hX hw hV m=>?_,fun u8=>?_⟩
  .obtain⟨ds,T,hl,-⟩:=l.b;have s:=T.store (P:=prog) (cs':=j.r.cells) hl.symm g0.a;have hp:=l.put (u:=undef);clear T hl;go_wp2_with fail;exact⟨rfl,undef,rfl,hp,aV,trivial⟩
  simp only[Act.put,aT,aW];intro W9 l m;obtain⟨ds,T,-,hd⟩:=l.b;obtain rfl:=hd u8 rfl;have J:=z.a;have F:=z.b.chg l.c (by have:=g.o; omega);obtain⟨H,o1,s4,x4,c4⟩:=F.put [j.rv,j.mv] rfl g0.B;have l4:=(T.chg c4 (by have:=g.o; omega)).load (P:=prog) (k:=26) rfl;have l5:=x4.load (P:=prog) (k:=2) rfl;have A:=l.c;have HF:=kp (z.c.trans ((A.below (B:=w.heap.size) (fun i hi=>by have:=g.o; omega) z.c.size).trans (c4.below (B:=w.heap.size) (fun i hi=>by have:=g.o; omega) (aB z.c.size A.size))));have m:=z.E;have HQ:=kp (show RpO H w.heap.size j.r V from (m.rep.chg J A (by decide)).chg F c4 (by decide));have z0:=kp (show Ow H w.heap.size 48 17 j.rv RcV.cells j.rs∧(∀x∈j.rs,Ow H w.heap.size 46 11 x.ev En.cells x.es)∧Ow H w.heap.size 55 23 j.mv MgV.cells j.ms∧∀x∈j.ms,Ow H w.heap.size 46 11 x.ev En.cells x.es from
   ⟨(m.rs.chg_blk J A (by decide)).chg_blk F c4 (by decide),fun x hx=>((m.rse x hx).chg_blk J A (by decide)).chg_blk F c4 (by decide),(m.ms.chg_blk J A (by decide)).chg_blk F c4 (by decide),fun x hx=>((m.mse x hx).chg_blk J A (by decide)).chg_blk F c4 (by decide)⟩)
  have I:sM w H (cU p.x) (.returned (.tuple #[.agg j.r.cells.toArray,.agg #[j.rv,j.mv]])):=⟨⟨j,V,rfl,by rw[y.a],by rw[y.a],by rw[y.a],HQ.o,z0.o⟩,HF.o⟩
  have a1:=kp I;clear m l T hd A J F x4 c4 I;go_wp2_with fail;refine leaves_cons (f:=104) (args:=#[.pointer (some ⟨w.heap.size,0,none⟩),.pointer (some ⟨Z.heap.size,0,none⟩),.pointer (some ⟨M.heap.size,0,none⟩)]) (by simp) (by simp[go_sem]) ?_;refine (aA5 _ _ _ _).mono ?_;rintro e u' q1 ⟨rfl,rfl,rfl⟩;have I:=a1.o;simp[Leaves,settle,results,results56,go_sem,l4,l5,I]
 .exact⟨pv',pv',pv',pv',pv',pv',pv',pv',fun _ _ _ _ _ h _=>h,trivial⟩
theorem Oc(p:RpV)(ps:List ObV)(B:Nat)(w:World)(h:eO w B p ps)(A:B≤w.heap.size)(S:RpS p ps):
  Calls prog 21 #[.agg p.cells.toArray] w fun e w'=>sM w w' (cU p.x) e:=by
 obtain⟨H,b0,T,J,Y⟩:=par w 39 p.cells;obtain⟨y,a0,U,z,Z⟩:=par H 39 dN;obtain⟨I,d0,V,n,z3⟩:=par y 64 [.slice none 0 0,.slice none 0 0];unfold dN at a0;have m:=J.on (z.on n);have HO:=kp (aA6 p ps B I (h.below m A) (aB A m.size) S);have l0:=(T.grow (z.on n)).load (P:=prog) (k:=26) rfl;have M:H.heap.size<y.heap.size:=Z;have N:y.heap.size<I.heap.size:=z3;have f:=k'6 (U.grow n) V m Y M N;clear T U V J z n m Y Z z3 M N h A S;go_enter func21,ntmps21;go_wp2_with fail;refine (HO.o).mono ?_;rintro e w4 hT;obtain⟨⟨d,qs,rfl,O,Q,R,D,E,L,C,K⟩,q⟩:=hT;have s:=f.c.on q;have g:=f.a.grow q;have l:=f.c.size;obtain⟨W5,e0,s5,W,c5⟩:=g.put d.r.cells rfl (gR D.rpAt);have j:=(f.b.grow q).chg c5 (by have:=f.o; omega);obtain⟨W6,g0,s6,X,c6⟩:=j.put [d.rv,d.mv] rfl (fun u F=>by
  rcases bA.1 F with rfl|F
  .exact E.one
  .rw[bQ.1 F]; exact C.one)
 have l5:=(W.chg c6 (by have:=f.o; omega)).load (P:=prog) (k:=26) rfl;have l6:=X.load (P:=prog) (k:=2) rfl;have HF:=kp (show sM w W6 (cU p.x) (.returned (.tuple #[.agg d.r.cells.toArray,.agg #[d.rv,d.mv]])) from
  ⟨⟨d,qs,rfl,O,Q,R,((D.chg g c5 (by decide)).chg j c6 (by decide)).mono l,((E.chg_blk g c5 (by decide)).chg_blk j c6 (by decide)).mono l,fun x G=>(((L x G).chg_blk g c5 (by decide)).chg_blk j c6 (by decide)).mono l,((C.chg_blk g c5 (by decide)).chg_blk j c6 (by decide)).mono l,fun x G=>(((K x G).chg_blk g c5 (by decide)).chg_blk j c6 (by decide)).mono l⟩,
   s.trans ((c5.below (B:=w.heap.size) (fun i hi=>by have:=f.o; omega) s.size).trans (c6.below (B:=w.heap.size) (fun i hi=>by have:=f.o; omega) (aB s.size c5.size)))⟩)
 clear O Q R D E L C K s g j l W X c5 c6 q l0;go_wp2_with fail;exact aU (v:=.tuple #[.agg d.r.cells.toArray,.agg #[d.rv,d.mv]]) (by simp[results,results21,go_sem,l5,l6]) rfl HF.o
end
end Go.Proofs.YtdoopoapbffpbaaGreat
