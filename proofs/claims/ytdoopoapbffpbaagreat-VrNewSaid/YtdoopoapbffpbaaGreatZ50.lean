import Derived.Test.YtdoopoapbffpbaaGreatZ48
namespace Go.Proofs.YtdoopoapbffpbaaGreat
open Go.RowKit Go.Proofs.Tryz
set_option maxRecDepth 100000
set_option maxHeartbeats 12800000
set_option linter.unusedVariables false
set_option linter.unusedSimpArgs false
section
attribute [-go_sem] loadCellsFrom storeCells run_eql_struct run_neq_struct
attribute [local go_sem] bC
structure qH(W0:World)(a:Nat)(cs:List Value)(X:Nat→Option Value)(W:World):Prop where
 c:Chg (fun i=>i=a) W0 W
 b:∃ds,Blk W a 39 ds∧ds.length=cs.length∧∀s,X 8=some s→ds=cs
section
variable {W0 W:World}{a:Nat}{cs:List Value}{X:Nat→Option Value}
theorem qH.other{j:Nat}{u:Value}(h:qH W0 a cs X W)(g:8≠j):qH W0 a cs (bD X j u) W:=
 ⟨h.c,h.b.imp fun _ ⟨d,e,f⟩=>⟨d,e,by rw[aR g]; exact f⟩⟩
theorem qH.put{u:Value}(h:qH W0 a cs X W):qH W0 a cs (bD X 8 u) (W.setRow a cs.toArray):=by
 obtain⟨e,d,-,-⟩:=h.b;exact⟨h.c.trans ((Chg.refl (fun i=>i=a) W).setRow (.inr rfl) _) fun _ _ h=>h,cs,d.set cs,rfl,fun _ _=>rfl⟩
end
theorem aAX{g base:Nat}(p:WkV)(ps:List ObV)(r:RpV)(w:World)(h:WkO w base g 117 [.bool false] p ps):
  Calls prog 64 #[.pointer (some ⟨g,0,none⟩),.agg r.cells.toArray] w fun e w'=>e=.returned (.tuple #[.agg p.r.cells.toArray,.agg #[p.rv,p.mv]])∧Bw' w w':=by
 obtain⟨m,b0,x1,F,R⟩:=par w 39 r.cells;obtain⟨E,Y,M,G,T⟩:=par m 39 dN;obtain⟨q,d0,N,y,z3⟩:=par E 64 [.slice none 0 0,.slice none 0 0];unfold dN at Y;have x:=F.on (G.on y);have z:=h.below x;have a0:=z.blk.cell 28;rw[show (p.cells [.bool false])[28]? =some (.bool false) from rfl]at a0;have L:m.heap.size<E.heap.size:=T;have f:=k'7 z (M.grow y) N x R L h.blk.lt;have H:∀u∈p.r.cells,u.oneCell'=true:=gR h.rep.rpAt;have K:∀u∈[p.rv,p.mv],u.oneCell'=true:=fun u C=>by
  rcases bA.1 C with rfl|C
  .exact h.rs.one
  .rw[bQ.1 C]; exact h.ms.one
 have D:=k'2 H K;clear x1 M N F G y x R T z3 L z h H K;go_enter func64,ntmps64;go_wp2_with fail;refine fR 9 (qH q.drew m.heap.size p.r.cells) (fun _=>fK) (by kernel_rfl) (by kernel_rfl) ⟨Chg.refl _ _,dN,f.b.grow (bR (aL _ _)),rfl,fun _ h=>(nomatch h)⟩ ?_
 iterate 8 (refine bO ?_; apply Exists.intro)
 refine bS eM ?_;refine dR ⟨?_,?_⟩
 rotate_left
 .iterate 8
   apply Ug (by kernel_rfl) (by intro t w h; cases h; exact trivial) rfl
   .intro X W' j Z hw W A;have b:=(f.a.blk.grow (bR (aL _ _))).chg j.c (by have:=f.o; omega);have l1:=b.loadOff (P:=prog) 0 26 p.r.cells rfl rfl;have l2:=b.loadOff (P:=prog) 26 2 [p.rv,p.mv] rfl rfl;go_wp2_with fail;exact⟨rfl,_,rfl,j.other (by decide),aV,rfl⟩
   simp only[Act.put,aN,aH,aI,aT,aW]
  refine⟨fun X W' j Z hw W A=>?_,fun u8=>?_⟩
  .obtain⟨V,l,J,-⟩:=j.b;have s:=l.store (P:=prog) (cs':=p.r.cells) J.symm D.a;have hp:=j.put (u:=undef);clear l J;go_wp2_with fail;exact⟨rfl,undef,rfl,hp,aV,trivial⟩
  simp only[Act.put,aT,aW];intro W9 j A;obtain⟨V,l,-,I⟩:=j.b;obtain rfl:=I u8 rfl;have n:=(Chg.of_below (S:=fun i=>i=m.heap.size) (bR (aL q.heap.size q))).trans j.c fun _ _ h=>h;have Q:=f.c.chg n (by have:=f.o; omega);obtain⟨W4,e0,s4,O,c4⟩:=Q.put [p.rv,p.mv] rfl D.B;have l4:=(l.chg c4 (by have:=f.o; omega)).load (P:=prog) (k:=26) rfl;have l5:=O.load (P:=prog) (k:=2) rfl;have U:=kp (f.d.trans ((n.below (B:=w.heap.size) (fun i hi=>by have:=f.o; omega) f.d.size).trans (c4.below (B:=w.heap.size) (fun i hi=>by have:=f.o; omega) (aB f.d.size n.size))));clear A j l I n Q O c4;go_wp2_with fail;exact aU (v:=.tuple #[.agg p.r.cells.toArray,.agg #[p.rv,p.mv]]) (by simp[results,results64,go_sem,l4,l5]) rfl ⟨rfl,U.o⟩
 .exact⟨pv',pv',pv',pv',pv',pv',pv',pv',fun _ _ _ _ _ h _=>h,trivial⟩
end
section
attribute [-go_sem] loadCellsFrom storeCells run_eql_struct run_neq_struct Instr.build
attribute [local go_sem] bC
structure TkV(r:Rp):Prop where
 nodes:3≤r.nodes∧r.nodes≤7
 id:1≤r.id∧r.id≤r.nodes
 kept:dA r.k=true
 view:0≤r.k.view∧r.k.view≤800000000
 base:0≤r.k.base∧r.k.base≤900000000
 len:r.k.es.length≤4000
 timer:0≤r.timer∧r.timer≤1000
theorem vZ{r:Rp}(h:dI r=true):TkV r:=by
 simp only[dI,dA,rG,kB,aF,bI,sV,bP]at h;obtain⟨l,⟨b,c⟩,a,d,m,⟨e,f⟩,-⟩:=h;have g:=a;obtain⟨⟨i,n⟩,⟨o,p⟩,⟨j,k⟩,⟨q,-⟩,-⟩:=a;refine⟨by omega,⟨b,c⟩,?_,⟨i,d⟩,⟨j,k⟩,by omega,⟨e,f⟩⟩;simp only[dA,rG,aF,bI,bP];exact g
theorem aAY{k:Kd}(h:dA k=true)(b:k.view≤800000000):dA ⟨k.view+1,k.normal,k.base,k.image,k.es⟩=true:=by
 simp only[dA,aF,bI,bP]at h ⊢;obtain⟨⟨c,d⟩,⟨a,e⟩,h⟩:=h;exact⟨⟨by omega,by omega⟩,⟨a,by omega⟩,h⟩
theorem Nv{p:RpV}(h:dI p.x=true)(a:KdR p.k.x)(b:p.k.image.size≤1000000):SvV p.k (nY (p.k.view+1)):=by
 have t:=vZ h;exact⟨rfl,by show p.k.view≤p.k.view+1; omega,t.base,t.len,by unfold maxLen; omega,a,a,t.kept,aAY t.kept t.view.2⟩
theorem zI(p:RpV)(w:World):(Instr.build 117 #[(0,.agg p.cells.toArray)]).run prog w=.ok (.agg (WkV.cells ⟨p,[],.slice none 0 0,[],.slice none 0 0⟩ [.bool false]).toArray) w:=run_build w _ _ _ (by kernel_rfl)
theorem qI(w:World):(Instr.build 64 #[]).run prog w=.ok (.agg #[.slice none 0 0,.slice none 0 0]) w:=run_build w _ _ _ (by kernel_rfl)
theorem sL(w:World):(Instr.build 39 #[]).run prog w=.ok (.agg jX.cells.toArray) w:=run_build w _ _ _ (by kernel_rfl)
def Ek(last commit:Int):MgV:=⟨3,0,0,0,0,last,0,commit,[],.slice none 0 0,0,0,⟨#[]⟩,0,pV,0,0,false⟩
theorem El(b a:Int)(w:World):(Instr.build 55 #[(0,.i 3),(5,.i b),(7,.i a)]).run prog w=.ok (.agg (Ek b a).cells.toArray) w:=run_build w _ _ _ (by kernel_rfl)
attribute [local go_sem] zI qI sL El
def RpV.timed(r:RpV)(t:Int):RpV:=⟨r.id,r.nodes,r.k,r.commit,r.s,t,r.starts,r.sv,r.votes,r.vv,r.acks,r.av,r.part⟩
theorem WkO.clock{w:World}{base g:Nat}{t:TypeId}{a:List Value}{p:WkV}{ps:List ObV}(h:WkO w base g t a p ps)(b:qG t)(u:Int):
  WkO (w.setCell ⟨g,17,none⟩ (.i u)) base g t a ⟨p.r.timed u,p.rs,p.rv,p.ms,p.mv⟩ ps∧Chg (fun i=>i=g) w (w.setCell ⟨g,17,none⟩ (.i u)):=by
 have c:=(Chg.refl (fun i=>i=g) w).setCell (.inr rfl) 17 (.i u);exact⟨h.put b (h.blk.setCell 17 _) c ⟨h.rep.es,h.rep.st,h.rep.starts,h.rep.votes,h.rep.ves,h.rep.acks⟩,c⟩
structure sM(w w':World)(R:Rp×List Rc×List Mg)(e:Ending):Prop where
 o:∃(p:WkV)(ps:List ObV),e=.returned (.tuple #[.agg p.r.cells.toArray,.agg #[p.rv,p.mv]])∧p.r.x=R.1∧p.rs.map (·.x)=R.2.1∧p.ms.map (·.x)=R.2.2∧RpO w' w.heap.size p.r ps∧
  Ow w' w.heap.size 48 17 p.rv RcV.cells p.rs∧(∀x∈p.rs,Ow w' w.heap.size 46 11 x.ev En.cells x.es)∧Ow w' w.heap.size 55 23 p.mv MgV.cells p.ms∧∀x∈p.ms,Ow w' w.heap.size 46 11 x.ev En.cells x.es
 bel:Bw' w w'
end
section
attribute [-go_sem] loadCellsFrom storeCells run_eql_struct run_neq_struct Instr.build
attribute [local go_sem] bC zI qI sL El
theorem Nw{w:World}{base g:Nat}{t:TypeId}{b:List Value}{p:WkV}{ps:List ObV}(h:WkO w base g t b p ps):∀u∈[p.rv,p.mv],u.oneCell'=true:=fun u a=>by
 rcases bA.1 a with rfl|a
 .exact h.rs.one
 .rw[bQ.1 a]; exact h.ms.one
theorem Nx{r:Rp}(h:dI r=true)(a:gM r=true)(b:3≤min (r.timer+1) 1000):cU r=({r with timer:=0},[],(tM r.nodes r.id).map (Hz r.id r.k.view r.k.last r.commit)):=by
 unfold cU; rw[aE h,aE a,aE b]
theorem Ny{r:Rp}(h:dI r=true)(a:gM r=true)(b:¬3≤min (r.timer+1) 1000):cU r=({r with timer:=min (r.timer+1) 1000},[],[]):=by
 unfold cU; rw[aE h,aE a,aC b]
theorem Nz{r:Rp}(h:dI r=true)(a:gM r=false)(b:10+2*r.id≤min (r.timer+1) 1000):cU r=(rI r,[vE (r.k.view+1)],(tM r.nodes r.id).map (nL r.id (r.k.view+1))):=by
 unfold cU; rw[aE h,aC (by rw[a]; decide),aE b]
theorem Oa{r:Rp}(h:dI r=true)(a:gM r=false)(b:¬10+2*r.id≤min (r.timer+1) 1000):cU r=({r with timer:=min (r.timer+1) 1000},[],[]):=by
 unfold cU; rw[aE h,aC (by rw[a]; decide),aC b]
theorem aAZ(p:RpV)(ps:List ObV)(B:Nat)(w:World)(h:eO w B p ps)(hB:B≤w.heap.size)(S:RpS p ps):
  Calls prog 22 #[.agg p.cells.toArray] w fun e w'=>sM w w' (cU p.x) e:=by
 obtain⟨W1,e3,x1,b1,z1⟩:=par w 39 p.cells;obtain⟨W2,g2,x2,b2,z2⟩:=par W1 39 dN;obtain⟨E,g3,x3,b3,z3⟩:=par W2 64 [.slice none 0 0,.slice none 0 0];unfold dN at g2;have g0:=b1.on (b2.on b3);have h3:=h.below g0 hB;have j0:=aB hB g0.size;have HR:=kp (zB p ps B E h3 j0 S);have HO:=kp (fun(W:World)(b:Bw' E W)=>Mw p ps B W (h3.below b j0) (aB j0 b.size) S);have l0:=(x1.grow (b2.on b3)).load (P:=prog) (k:=26) rfl;have Y:W1.heap.size<W2.heap.size:=z2;have p1:W2.heap.size<E.heap.size:=z3;have f:=k'7 (x1.grow (b2.on b3)) (x2.grow b3) x3 g0 z1 Y p1;have HS:=kp S;clear x1 x2 x3 b1 b2 b3 g0 z1 z2 z3 Y p1 h3 j0 h hB S;go_enter func22,ntmps22;go_wp2_with fail;refine mb' (HR.o) fun w4 I=>?_;have a0:=kp I
 cases hrb:dI p.x
 .obtain⟨W5,j3,s5,x5,c5⟩:=(f.b.grow I).put jX.cells rfl (gR (oW w4 w4.heap.size).rpAt);have y5:=(f.c.grow I).chg c5 (by have:=f.o; omega);obtain⟨W6,j2,s6,x6,c6⟩:=y5.put [.slice none 0 0,.slice none 0 0] rfl (fun u hu=>by
   rcases bA.1 hu with rfl|hu
   .rfl
   .rw[bQ.1 hu]; rfl)
  have l5:=(x5.chg c6 (by have:=f.o; omega)).load (P:=prog) (k:=26) rfl;have l6:=x6.load (P:=prog) (k:=2) rfl;have HF:=kp ((f.d.on I).trans ((c5.below (B:=w.heap.size) (fun i n=>by have:=f.o; omega) (aB f.d.size I.size)).trans (c6.below (B:=w.heap.size) (fun i n=>by have:=f.o; omega) (aB (aB f.d.size I.size) c5.size))));have g:=kp (show cU p.x=(oQ,[],[]) by unfold cU; rw[aC (by rw[hrb]; decide)]);clear y5 x5 x6 c5 c6 I hrb l0;go_wp2_with fail;exact aU (v:=.tuple #[.agg jX.cells.toArray,.agg #[.slice none 0 0,.slice none 0 0]]) (by simp[results,results22,go_sem,l5,l6]) rfl ⟨⟨⟨jX,[],.slice none 0 0,[],.slice none 0 0⟩,[],rfl,by rw[g.o]; rfl,by rw[g.o]; rfl,by rw[g.o]; rfl,oW _ _,Ow.nil _ _ _ _ _,fun _ h=>(nomatch h),Ow.nil _ _ _ _ _,fun _ h=>(nomatch h)⟩,HF.o⟩
 have l1:=(f.a.grow I).load (P:=prog) (k:=26) rfl;clear l0;go_wp2_with fail;refine (HO.o w4 a0.o).mono ?_;rintro e s ⟨q,J,rfl,p0,m1,m0⟩;obtain⟨W6,j2,x6,b6,z6⟩:=par s 117 (WkV.cells ⟨q,[],.slice none 0 0,[],.slice none 0 0⟩ [.bool false]);have D:=a0.o.on (m0.on b6);have j1:RpO W6 w.heap.size q J:=(m1.below b6).mono (aB f.d.size a0.o.size);have X:WkO W6 w.heap.size s.heap.size 117 [.bool false] ⟨q,[],.slice none 0 0,[],.slice none 0 0⟩ J:=⟨x6,aB f.d.size (aB a0.o.size m0.size),j1,Ow.nil _ _ _ _ _,fun _ h=>(nomatch h),Ow.nil _ _ _ _ _,fun _ h=>(nomatch h)⟩
 have q0:dI q.x=true:=by rw[p0]; exact hrb
 have T:=vZ q0;have o1:=Nv q0 (by rw[show q.k.x=p.k.x from bG (·.k) p0]; exact HS.o.k.1) (by rw[show q.k.image=p.k.image from bG (·.k.image) p0]; exact HS.o.k.2.2);have g:=k'5 T o1 q0 p0 D;have o2:=T.timer.1;have p2:=T.timer.2;have q1:=X.blk.cell 17;rw[show (WkV.cells ⟨q,[],.slice none 0 0,[],.slice none 0 0⟩ [.bool false])[17]? =some (.i q.timer) from rfl]at q1;have e2:=X.blk.frozen 17;obtain⟨y0,c7⟩:=X.clock (.inr rfl) (min (q.timer+1) 1000);obtain⟨W7,l2⟩:∃W,W6.setCell ⟨s.heap.size,17,none⟩ (.i (min (q.timer+1) 1000))=W:=⟨_,rfl⟩
 rw[l2]at y0 c7;have l7:=y0.blk.loadOff (P:=prog) 0 26 (q.timed (min (q.timer+1) 1000)).cells rfl rfl;have HP:=kp (tV (q.timed (min (q.timer+1) 1000)) W7);change 0≤q.timer at o2;change q.timer≤1000 at p2;have HW:=k'3 y0 c7 X.blk.lt;have b0:=k'2 (show E.heap.size≤s.heap.size from aB a0.o.size m0.size) (show s.heap.size<W7.heap.size from eA X.blk.lt c7.size);have y1:=kp (show Bw' E W7 from D.trans (c7.below (B:=E.heap.size) (fun i n=>by have:=b0.o; omega) D.size));clear X y0 c7 j1 m1 x6 b6 m0 D o1 T hrb q0;go_wp2_with fail;refine mb' (HP.o) fun Q o0=>?_;have F:=kp (HW.a.below o0);have e0:=kp (y1.o.on o0);have d3:=kp (eA b0.B o0.size);obtain⟨m,hm⟩:=nm' (min (q.timer+1) 1000);obtain⟨z,Y⟩:=nm' (gM (q.timed m).x);rw[hm]at F ⊢;rw[Y];have k8:Q.cell? ⟨s.heap.size,17,none⟩=some (.i m):=F.o.blk.cell 17;have y:=k'3 hm Y (show m≤1000 by omega);clear o0 Y hm HP q1 e2 l7 l1 I
 cases z
 case' true=>
  by_cases h3:3≤m
  case' pos=>
   have f8:=F.o.blk.frozen 17;obtain⟨h9,c9⟩:=F.o.clock (.inr rfl) 0;obtain⟨W9,g1⟩:∃W,Q.setCell ⟨s.heap.size,17,none⟩ (.i 0)=W:=⟨_,rfl⟩
   rw[g1]at h9 c9;have a2:=kp (fun(u:Blw W9)=>aAC _ J u.w (h9.below u.h) g.a.base (aB g.a.len (by decide)));have k9:=aP (show W9.cell? ⟨s.heap.size,7,none⟩=some (.i q.commit) from h9.blk.cell 7);have H9:=k'2 h9 (e0.o.trans (c9.below (B:=E.heap.size) (fun i n=>by have:=b0.o; omega) e0.o.size));clear h9 c9;go_wp2_with fail;refine uT 9 (by kernel_rfl) (by kernel_rfl) ?_;simp only[qK,mZ,dO,dP]
   repeat (go_big_quiet_step ((go_at_call 62; refine bU (a2.o _))))
   refine bH ?_;rintro d0 ⟨⟨_,A⟩,rfl⟩;have HA:=kp (Nl _ J (Ek q.k.x.last q.commit) d0 (H9.a.below A) (Ow.nil _ _ _ _ _) (cY _) (aB (aB f.d.size H9.B.size) A.size) (show q.nodes=((q.nodes.toNat:Nat):Int) by have:=g.a.nodes; change 3≤q.nodes∧q.nodes≤7 at this; omega) (by have:=g.a.nodes; change 3≤q.nodes∧q.nodes≤7 at this; omega) (cY _));have e1:=kp (H9.B.on A);clear A k9;go_wp2_with fail;refine (HA.o).mono ?_;rintro e Z ⟨rfl,l,hl,hn,a3,L,cE,-⟩;have V:=k'3 L (e1.o.trans (cE.below (B:=E.heap.size) (fun i n=>by
    rcases n with n|n
    .have:=b0.o; omega
    .cases n) e1.o.size)) (show cU p.x=((q.timed 0).x,([]:List RcV).map (·.x),(([]:List MgV)++l).map (·.x)) from by
     rw[←g.d,Nx g.c y.b (by rw[show min (q.x.timer+1) 1000=m from y.a]; omega),aT,hl]; rfl)
   clear hl hn L cE k8 f8 g1
  case' neg=>
   have z0:=kp (fun(u:Blw Q)=>by have:=tV (q.timed m) u.w; rw[y.b]at this; exact this);have l8:∀u:Blw Q,Sem.run prog (loadCellsFrom ⟨s.heap.size,0,none⟩ 0 26 #[]) u.w=.ok (q.timed m).cells.toArray u.w:=fun u=>(F.o.blk.grow u.h).loadOff (P:=prog) 0 26 (q.timed m).cells rfl rfl;go_wp2_with fail;refine bJ (by kernel_rfl) (by kernel_rfl) ?_
   repeat (go_big_quiet_step ((go_at_call 52; refine bU (z0.o _))))
   refine bH ?_;rintro Z ⟨⟨_,A⟩,rfl⟩;have V:=k'3 (F.o.below A) (e0.o.on A) (show cU p.x=((q.timed m).x,([]:List RcV).map (·.x),([]:List MgV).map (·.x)) from by
     rw[←g.d,Ny g.c y.b (by rw[show min (q.x.timer+1) 1000=m from y.a]; omega),show min (q.x.timer+1) 1000=m from y.a]; rfl)
   clear l8 A k8
 case' false=>
  have z0:=kp (fun(u:Blw Q)=>by have:=tV (q.timed m) u.w; rw[y.b]at this; exact this);have l8:∀u:Blw Q,Sem.run prog (loadCellsFrom ⟨s.heap.size,0,none⟩ 0 26 #[]) u.w=.ok (q.timed m).cells.toArray u.w:=fun u=>(F.o.blk.grow u.h).loadOff (P:=prog) 0 26 (q.timed m).cells rfl rfl;have k9:=aP k8;have k0:=aP (show Q.cell? ⟨s.heap.size,0,none⟩=some (.i q.id) from F.o.blk.cell 0);have o3:1≤q.id∧q.id≤7:=by have h1:=g.a.id; have h2:=g.a.nodes; change 1≤q.id∧q.id≤q.nodes at h1; change 3≤q.nodes∧q.nodes≤7 at h2; omega
  have hv:0≤q.k.view∧q.k.view≤800000000:=g.a.view;go_wp2_with fail;refine bJ (by kernel_rfl) (by kernel_rfl) ?_
  repeat (go_big_quiet_step ((go_at_call 52; refine bU (z0.o _))))
  refine bH ?_;rintro d0 ⟨⟨_,A⟩,rfl⟩;have N:=k'2 (F.o.below A) (e0.o.on A);have k2:d0.cell? ⟨s.heap.size,2,none⟩=some (.i q.k.view):=N.a.blk.cell 2;clear k9 k0 l8 A k8
  by_cases h3:10+2*q.id≤m
  case' pos=>
   have HA:=kp (aAW _ J (q.k.view+1) d0 N.a ⟨cY _,by show 0<1000000; decide⟩ (aB f.d.size N.B.size) g.b (show q.nodes=((q.nodes.toNat:Nat):Int) by have:=g.a.nodes; change 3≤q.nodes∧q.nodes≤7 at this; omega) (by have:=g.a.nodes; change 3≤q.nodes∧q.nodes≤7 at this; omega));go_wp2_with fail;refine (HA.o).mono ?_;rintro e Z ⟨rfl,v,sv,p3,l,a3,hl,hn,L,cE⟩;have V:=k'3 L (N.B.trans (cE.below (B:=E.heap.size) (fun i n=>by
    rcases n with n|n|n
    .have:=b0.o; omega
    .cases n
    .cases n) N.B.size)) (show cU p.x=(((q.timed m).turned v sv (q.k.view+1)).x,(([]:List RcV)++[nY (q.k.view+1)]).map (·.x),(([]:List MgV)++l).map (·.x)) from by
     rw[←g.d,Nz g.c y.b (by rw[show min (q.x.timer+1) 1000=m from y.a]; show 10+2*q.id≤m; omega),aT,aT,hl]; rfl)
   clear hl hn L cE k2
  case' neg=>
   have V:=k'3 N.a N.B (show cU p.x=((q.timed m).x,([]:List RcV).map (·.x),([]:List MgV).map (·.x)) from by
     rw[←g.d,Oa g.c y.b (by rw[show min (q.x.timer+1) 1000=m from y.a]; show ¬10+2*q.id≤m; omega),show min (q.x.timer+1) 1000=m from y.a]; rfl)
   obtain⟨Z,q2⟩:=nm' d0;clear k2;rw[q2]at V ⊢
 all_goals
  obtain⟨j,L⟩:=Exists.intro (p:=fun j:WkV=>WkO Z w.heap.size s.heap.size 117 [.bool false] j J∧Bw' E Z∧cU p.x=(j.r.x,j.rs.map (·.x),j.ms.map (·.x))) _ V.o;have O:=kp L;clear L V;have lz:=(f.a.grow O.b).load (P:=prog) (k:=26) rfl;go_wp2_with fail;refine mb' (aAX j J p Z O.a) fun wF a1=>?_;have M:=O.a.below a1;have D:=O.b.on a1;have d1:w.heap.size≤wF.heap.size:=aB f.d.size D.size;have m2:W2.heap.size<wF.heap.size:=eA f.G D.size;have R:=f.b.grow D;obtain⟨WG,l3,sG,xG,H⟩:=R.put j.r.cells rfl (gR M.rep.rpAt);have U:=(f.c.grow D).chg H (by have:=f.o; omega);obtain⟨WH,m3,sH,xH,K⟩:=U.put [j.rv,j.mv] rfl (Nw M);have lG:=(xG.chg K (by have:=f.o; omega)).load (P:=prog) (k:=26) rfl;have lH:=xH.load (P:=prog) (k:=2) rfl;have HF:=kp ((f.d.on D).trans ((H.below (B:=w.heap.size) (fun i n=>by have:=f.o; omega) d1).trans (K.below (B:=w.heap.size) (fun i n=>by have:=f.o; omega) (aB d1 H.size))));have HQ:=kp (show RpO WH w.heap.size j.r J from (M.rep.chg R H (by decide)).chg U K (by decide));have d2:=kp (show Ow WH w.heap.size 48 17 j.rv RcV.cells j.rs∧(∀x∈j.rs,Ow WH w.heap.size 46 11 x.ev En.cells x.es)∧Ow WH w.heap.size 55 23 j.mv MgV.cells j.ms∧∀x∈j.ms,Ow WH w.heap.size 46 11 x.ev En.cells x.es from
   ⟨(M.rs.chg_blk R H (by decide)).chg_blk U K (by decide),fun x hx=>((M.rse x hx).chg_blk R H (by decide)).chg_blk U K (by decide),(M.ms.chg_blk R H (by decide)).chg_blk U K (by decide),fun x hx=>((M.mse x hx).chg_blk R H (by decide)).chg_blk U K (by decide)⟩)
  clear M D d1 m2 R U xG xH H K a1 lz;go_wp2_with fail;exact aU (v:=.tuple #[.agg j.r.cells.toArray,.agg #[j.rv,j.mv]]) (by simp[results,results22,go_sem,lG,lH]) rfl ⟨⟨j,J,rfl,by rw[O.C],by rw[O.C],by rw[O.C],HQ.o,d2.o⟩,HF.o⟩
end
end Go.Proofs.YtdoopoapbffpbaaGreat
