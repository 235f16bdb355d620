import Derived.Test.YtdoopoapbffpbaaGreatZ46
namespace Go.Proofs.YtdoopoapbffpbaaGreat
open Go.RowKit Go.Proofs.Tryz
set_option maxRecDepth 100000
set_option maxHeartbeats 12800000
set_option linter.unusedVariables false
set_option linter.unusedSimpArgs false
section
attribute [-go_sem] loadCellsFrom storeCells run_eql_struct run_neq_struct
attribute [local go_sem] bC
def sK(B:Nat)(p:KpV)(z:Value)(W:World):Prop:=∃v,z=.agg (p.own v).cells.toArray∧Ow W B 46 11 v En.cells p.es
def lQ(B:Nat)(p:KpV)(c:Int)(z:Value)(W:World):Prop:=∃v,z=.tuple #[.agg ((p.own v).at c).cells.toArray,.i 0]∧Ow W B 46 11 v En.cells p.es
theorem sK.stab(B:Nat)(p:KpV):qE 24 (sK B p):=
 ⟨fun _ _ _ ⟨v,e,h⟩ b=>⟨v,e,h.below b⟩,fun _ W a _ cs' ⟨v,e,h⟩ c=>⟨v,e,h.chg_blk c ((Chg.refl (fun i=>i=a) W).setRow (.inr rfl) cs') (by decide)⟩⟩
theorem lQ.stab(B:Nat)(p:KpV)(c:Int):qE 24 (lQ B p c):=
 ⟨fun _ _ _ ⟨v,e,h⟩ b=>⟨v,e,h.below b⟩,fun _ W a _ cs' ⟨v,e,h⟩ d=>⟨v,e,h.chg_blk d ((Chg.refl (fun i=>i=a) W).setRow (.inr rfl) cs') (by decide)⟩⟩
def zH(z:Value)(_:World):Prop:=z=.i 0
def FoV(Wa:World)(p:KpV)(c:Int)(X:Nat→Option Value)(W:World):Prop:=
 CAl Wa 24 mY 53 [] (lQ Wa.heap.size p c) vY 3 4 5 7 1000 8 X W∧∀z,X 1=some z→sK Wa.heap.size p z W
section
variable {Wa W W':World}{p:KpV}{c:Int}{X:Nat→Option Value}
theorem FoV.on{j:Nat}{u:Value}(h:FoV Wa p c X W)(e:1≠j)(b:Bw' W W')(d:CAl Wa 24 mY 53 [] (lQ Wa.heap.size p c) vY 3 4 5 7 1000 8 (bD X j u) W'):FoV Wa p c (bD X j u) W':=
 ⟨d,fun z a=>(sK.stab _ _).grow _ _ _ (h.2 z (by rw[aR e]at a; exact a)) b⟩
theorem FoV.same{j:Nat}{u:Value}(h:FoV Wa p c X W)(b:1≠j)(a:CAl Wa 24 mY 53 [] (lQ Wa.heap.size p c) vY 3 4 5 7 1000 8 (bD X j u) W):FoV Wa p c (bD X j u) W:=h.on b (aL _ _) a
end
theorem aAP(p:KpV)(c:RcV)(w:World)(B:Nat)(h:fL w B p)(hB:B≤w.heap.size)(G:c.kind=1)(hv:p.view≤c.view)(hb:0≤p.base∧p.base≤900000000)(hn:p.es.length≤4000)(V:p.image.size≤maxLen)
  (Z:KdR p.x) (g0:KdR (p.at c.view).x) (g:dA p.x=true) (e0:dA (p.at c.view).x=true):
  Calls prog 162 #[.agg p.cells.toArray,.agg c.cells.toArray] w fun e w'=>∃v,e=.returned (.tuple #[.agg ((p.own v).at c.view).cells.toArray,.i 0])∧Ow w' w.heap.size 46 11 v En.cells p.es∧Bw' w w':=by
 have L:p.es.length≤1000000:=by omega
 obtain⟨W1,a1,x1,S,z1⟩:=par w 24 p.cells;obtain⟨W2,e1,x2,b2,z2⟩:=par W1 48 c.cells;obtain⟨R,o0,x3,b3,z3⟩:=par W2 24 mY;unfold mY at o0;have F:=b2.on b3;have q:=Sl.below h (S.on F) hB;have T:B≤R.heap.size:=aB hB (S.on F).size;have HR:=kp (by have:=yY p B R q T L Z V; rw[g]at this; exact this);have l0:=(x1.grow F).load (P:=prog) (k:=5) rfl;have s:=k'7 (x1.grow F) (x2.grow b3) x3 (S.on F) z1 z2 b2.size;have HS:=kp (fun(W:World)(b:Bw' R W)=>uA.1 p B W (Sl.below q b T) (aB T b.size) L);have HM:=kp (fun(v:Value)(W:World)(b:Nat)(g:Ow W b 46 11 v En.cells p.es)=>aAO (p.own v) c W W.heap.size (g.sl eL) (aD _) G hv hb L);have HK:=kp (fun(v:Value)(W:World)(b:Nat)(g:Ow W b 46 11 v En.cells p.es)=>by have:=yY ((p.own v).at c.view) W.heap.size W (g.sl eL) (aD _) L g0 V; rw[show dA ((p.own v).at c.view).x=true from e0]at this; exact this);have HN:=kp hn;clear x1 x2 x3 S b2 b3 F z1 z2 z3 q h hB T Z g0 g e0 G hv hb hn L V;go_enter func162,ntmps162;go_wp2_with fail;refine mb' (HR.o) fun O b0=>?_;have m0:=kp b0;clear b0 l0;go_wp2_with fail;have H:=kp (show Bw' R O.drew from bR m0.o);refine fR 9 (FoV O.drew p c.view) (fun _=>fK) (by kernel_rfl) (by kernel_rfl) ⟨CAl.start,fun _ h=>(nomatch h)⟩ ?_;refine bO ?_; apply Exists.intro;refine bS eM ?_;refine bO ?_; apply Exists.intro
 iterate 3 (refine bS eM ?_)
 refine bS zH ?_
 iterate 2 (refine bS eM ?_)
 refine dR ⟨?_,?_⟩
 rotate_left
 .apply Ug (by kernel_rfl) (by intro t w h; cases h; exact trivial) rfl
  .intro X W' f m A l n;have l1:=(s.a.grow (H.o.on f.1.bel)).load (P:=prog) (k:=5) rfl;go_wp2_with fail;exact⟨rfl,_,rfl,f.same (by decide) (f.1.other (by decide)),aV,rfl⟩
  simp only[Act.put,aN,aH,aI,aT];refine⟨fun X W' f m A l n=>?_,fun u1=>?_⟩
  .go_wp2_with fail;refine (HS.o W' (H.o.on f.1.bel)).mono ?_;rintro e a0 ⟨v,rfl,g,D⟩;have r:=(f.1.grow (lQ.stab _ _ _) D).other (j:=1) (u:=.agg (p.own v).cells.toArray) (by decide);have h2:∀z,bD X 1 (.agg (p.own v).cells.toArray) 1=some z→sK O.drew.heap.size p z a0:=fun z N=>by rw[qF]at N; cases N; exact⟨v,rfl,g.mono f.1.bel.size⟩
   clear g D;go_wp2_with fail;exact⟨rfl,_,rfl,⟨r,h2⟩,aV,trivial⟩
  simp only[Act.put,aN,aH,aI,aT,aW];apply Ug (by kernel_rfl) (by intro t w h; cases h; exact trivial) rfl
  .intro X W' f m A l n;have l1:=(s.b.grow (H.o.on f.1.bel)).load (P:=prog) (k:=17) rfl;go_wp2_with fail;exact⟨rfl,_,rfl,f.same (by decide) (f.1.other (by decide)),aV,rfl⟩
  simp only[Act.put,aN,aH,aI,aT,aW];refine⟨fun X W' f m A l n=>?_,fun u3=>?_⟩
  .have h1:X 1=some u1:=l 1 14 u1 (by kernel_rfl) (by kernel_rfl) (bT (by kernel_rfl)) rfl;obtain⟨v,rfl,g⟩:=f.2 _ h1;clear h1;go_wp2_with fail;refine (HM.o v W' _ g).mono ?_;rintro e a0 ⟨rfl,D⟩;have r:=f.on (j:=3) (by decide) D (f.1.doCall (lQ.stab _ _ _) m D ⟨v,rfl,g.below D⟩ (by decide));clear g D;go_wp2_with fail;exact⟨rfl,_,rfl,r,aV,trivial⟩
  simp only[Act.put,aN,aH,aI,aT,aW];refine⟨fun X W' f m A l n=>?_,fun u4=>?_⟩
  .have q:X 3=some u3:=l 3 16 u3 (by kernel_rfl) (by kernel_rfl) (bT (by kernel_rfl)) rfl;go_wp2_with fail;exact⟨rfl,_,rfl,f.same (by decide) (f.1.doMv q (by decide)),aV,trivial⟩
  simp only[Act.put,aN,aH,aI,aT,aW];refine⟨fun X W' f m A l n=>?_,fun u5=>?_⟩
  .have I:X 4=some u4:=l 4 12 u4 (by kernel_rfl) (by kernel_rfl) (bT (by kernel_rfl)) rfl;have q:=f.1.mv _ I;obtain⟨v,rfl,-⟩:=f.1.call _ q;have r:=f.same (by decide) (f.1.doExt m q ⟨_,rfl⟩ (by decide));clear q I;go_wp2_with fail;exact⟨rfl,_,rfl,r,aV,trivial⟩
  simp only[Act.put,aN,aH,aI,aT,aW];refine⟨fun X W' f m A l n=>?_,fun u6=>?_⟩
  .have I:X 4=some u4:=l 4 12 u4 (by kernel_rfl) (by kernel_rfl) (bT (by kernel_rfl)) rfl;obtain⟨v,rfl,-⟩:=f.1.call _ (f.1.mv _ I);clear I;go_wp2_with fail;exact⟨rfl,_,rfl,f.same (by decide) (f.1.other (by decide)),aV,rfl⟩
  simp only[Act.put,aN,aH,aI,aT,aW];refine⟨fun X W' f m A l n=>?_,fun u7=>?_⟩
  .have r:=f.on (j:=7) (by decide) (ba' W' (.cells mY.toArray 24)) (f.1.doAlloc (lQ.stab _ _ _) m (by decide));go_wp2_with fail;exact⟨rfl,_,rfl,r,aV,trivial⟩
  simp only[Act.put,aN,aH,aI,aT,aW];refine⟨fun X W' f m A l n=>?_,fun u8=>?_⟩
  .have h7:X 7=some u7:=l 7 6 u7 (by kernel_rfl) (by kernel_rfl) (bT (by kernel_rfl)) rfl;have h5:X 5=some u5:=l 5 17 u5 (by kernel_rfl) (by kernel_rfl) (bT (by kernel_rfl)) rfl;obtain⟨u,M,y,K⟩:=f.1.ext _ h5;obtain⟨v,E,g⟩:=f.1.call _ M;rw[K]at E;obtain⟨rfl,-⟩:u5=.agg ((p.own v).at c.view).cells.toArray∧y=.i 0:=by simpa using E
   obtain⟨a,cs,rfl,-⟩:=f.1.al _ h7;obtain⟨G,r⟩:=f.1.doStore (u:=undef) (lQ.stab _ _ _) (by decide) m h7 h5 (by decide);have h2:∀z,bD X 8 undef 1=some z→sK O.drew.heap.size p z (W'.setRow a ((p.own v).at c.view).cells.toArray):=fun z N=>(sK.stab _ _).put _ _ _ _ _ (f.2 z (by rw[aR (by decide)]at N; exact N)) G;have m1:=G.store (P:=prog) (cs':=((p.own v).at c.view).cells) rfl (mW (p:=(p.own v).at c.view) g.one);clear G K E M h7 h5 g;go_wp2_with fail;exact⟨rfl,undef,rfl,⟨r,h2⟩,aV,trivial⟩
  simp only[Act.put,aT,aW];intro W9 f n;have Z:zH u6 W9:=n 18
  cases Z;clear n;simp only[dO,dP];obtain⟨u,M,y,K⟩:=f.1.ext u5 rfl;obtain⟨v,E,g⟩:=f.1.call _ M;rw[K]at E;obtain⟨rfl,-⟩:u5=.agg ((p.own v).at c.view).cells.toArray∧y=.i 0:=by simpa using E
  obtain⟨a,cs,rfl,p0,Y,-,d0⟩:=f.1.al u7 rfl;obtain rfl:((p.own v).at c.view).cells=cs:=by have:=d0 u8 rfl; simpa using this
  have HQ:=kp (HK.o v W9 _ g);obtain⟨Q,c4,q0,-,-,-⟩:=g.sl eL;subst q0;have HO:=k'3 (H.o.on f.1.bel) g Y;have k4:=Y.cell 4;change _=some (Value.slice Q p.es.length c4)at k4;have l9:=Y.load (P:=prog) (k:=5) rfl;have g3:¬(4000:Int)<(p.es.length:Int):=by have:=HN.o; omega
  clear f K E M p0 Y d0 g;go_wp2_with fail;refine mb' (HQ.o) fun a0 U=>?_;have ka:=HO.C.grow U;have g1:=ka.load (P:=prog) (k:=5) rfl;have g:=HO.b.below U;have J:=HO.a.on U;obtain⟨z0,d1,j1,j0,c11⟩:=(s.c.grow J).put ((p.own (.slice Q p.es.length c4)).at c.view).cells rfl (mW (p:=(p.own (.slice Q p.es.length c4)).at c.view) rfl);have y0:=j0.load (P:=prog) (k:=5) rfl;have hs:w.heap.size≤O.drew.heap.size:=aB s.d.size H.o.size;have hc:=(s.d.on J).trans (c11.below (B:=w.heap.size) (fun i V=>by have:=s.o; omega) (aB s.d.size J.size));have HF:=k'2 ((g.mono hs).chg_blk (s.c.grow J) c11 (by decide)) hc;clear ka g J j0 c11 hs hc U l9;go_wp2_with fail;exact aU (v:=.tuple #[.agg ((p.own (.slice Q p.es.length c4)).at c.view).cells.toArray,.i 0]) (by simp[results,results162,go_sem,y0]) rfl ⟨_,rfl,HF.a,HF.B⟩
 .exact⟨pv',fun _ _ _ _ _ h _=>h,pv',fun _ _ _ _ _ h _=>h,fun _ _ _ _ _ h _=>h,fun _ _ _ _ _ h _=>h,fun _ _ _ _ _ h _=>h,fun _ _ _ _ _ h _=>h,fun _ _ _ _ _ h _=>h,trivial⟩
end
section
attribute [-go_sem] loadCellsFrom storeCells run_eql_struct run_neq_struct
attribute [local go_sem] bC
theorem RcV.fold(p:RcV):List.foldl (fun(a:Array Value)(x:Value×Nat)=>a.setIfInBounds x.snd x.fst) #[.i 0,.i 0,.i 0,.i 0,.string ⟨#[]⟩,.i 0,.i 0,.i 0,.i 0,.i 0,.i 0,.i 0,.i 0,.i 0,.i 0,.i 0,.slice none 0 0] p.cells.zipIdx=p.cells.toArray:=by
 simp[RcV.cells,En.cells]
attribute [local go_sem] RcV.fold nW
theorem Nn:(prog.info? 48).map (fun i=>(i.zero,i.size,i.bytes))=some (some (.agg zC.cells.toArray),17,160):=by kernel_rfl
theorem No{p:RcV}(h:p.ev.oneCell'=true):∀u∈p.cells,u.oneCell'=true:=by
 intro u a;simp only[RcV.cells,En.cells,aW,aT,bA,dW,or_false]at a;rcases a with rfl|rfl|rfl|rfl|rfl|rfl|rfl|rfl|rfl|rfl|rfl|rfl|rfl|rfl|rfl|rfl|rfl<;>first |rfl|exact h
section
variable {w w':World}{base g:Nat}{t:TypeId}{tl:List Value}{p:WkV}{ps:List ObV}
theorem WkO.saved{v':Value}{l':List RcV}(h:WkO w base g t tl p ps)(a:qG t)(c:Chg (fun i=>p.rv.ownBlock=some i) w w')(l:Ow w' base 48 17 v' RcV.cells l')(k:∀x∈l',Ow w' base 46 11 x.ev En.cells x.es):
  WkO (w'.setCell ⟨g,26,none⟩ v') base g t tl ⟨p.r,l',v',p.ms,p.mv⟩ ps∧Chg (fun i=>i=g∨p.rv.ownBlock=some i) w (w'.setCell ⟨g,26,none⟩ v'):=by
 have b:=h.blk.chg c (h.rs.ne_blk h.blk (by rcases a with rfl|rfl<;>decide));have f:Blk (w'.setCell ⟨g,26,none⟩ v') g t (WkV.cells ⟨p.r,l',v',p.ms,p.mv⟩ tl):=b.setCell 26 v';have m:=h.rep.row h.rs c (by decide);have o:=h.ms.chg_row h.rs c (by decide);have n:=fun x e=>(h.mse x e).chg_row h.rs c (by decide);have d:=(Chg.refl (fun i=>i=g) w').setCell (.inr rfl) 26 v';refine⟨⟨f,h.lo,m.chg b d (by rcases a with rfl|rfl<;>decide),l.chg_blk b d (by rcases a with rfl|rfl<;>decide),fun x e=>(k x e).chg_blk b d (by rcases a with rfl|rfl<;>decide),o.chg_blk b d (by rcases a with rfl|rfl<;>decide),fun x e=>(n x e).chg_blk b d (by rcases a with rfl|rfl<;>decide)⟩,(c.mono fun i _ j=>.inr j).setCell (.inr (.inl rfl)) 26 v'⟩
def RpV.kept(r:RpV)(k:KpV):RpV:=⟨r.id,r.nodes,k,r.commit,r.s,r.timer,r.starts,r.sv,r.votes,r.vv,r.acks,r.av,r.part⟩
theorem WkO.keep{k:KpV}(h:WkO w base g t tl p ps)(d:qG t)(a:Ow w base 46 11 k.ev En.cells k.es):
  ∃W,Sem.run prog (storeCells ⟨g,2,none⟩ k.cells 0) w=.ok () W∧WkO W base g t tl ⟨p.r.kept k,p.rs,p.rv,p.ms,p.mv⟩ ps∧Chg (fun i=>i=g) w W:=by
 obtain⟨W,e,s,x,c⟩:=h.blk.off 2 k.cells (WkV.cells ⟨p.r.kept k,p.rs,p.rv,p.ms,p.mv⟩ tl) rfl (by simp[WkV.cells,RpV.cells,KpV.cells,StV.cells,HpV.cells,Pt.cells]) (mW a.one);have b:RpO w base (p.r.kept k) ps:=⟨a,h.rep.st,h.rep.starts,h.rep.votes,h.rep.ves,h.rep.acks⟩
 exact⟨W,s,h.put d x c b,c⟩
end
theorem Np(p:WkV)(tl:List Value):(p.cells tl)[26]? =some p.rv:=rfl
structure SvV(k:KpV)(c:RcV):Prop where
 kind:c.kind=1
 view:k.view≤c.view
 base:0≤k.base∧k.base≤900000000
 len:k.es.length≤4000
 img:k.image.size≤maxLen
 kr:KdR k.x
 kr2:KdR (k.at c.view).x
 ok:dA k.x=true
 ok2:dA (k.at c.view).x=true
end
section
attribute [-go_sem] loadCellsFrom storeCells run_eql_struct run_neq_struct
attribute [local go_sem] bC
theorem aAQ{g:Nat}(p:KpV)(c:RcV)(w:World)(B:Nat)(L:Blk w g 246 p.cells)(h:fL w B p)(z:B≤w.heap.size)(U:B≤g)(m:SvV p c):
  Calls prog 212 #[.pointer (some ⟨g,0,none⟩),.agg c.cells.toArray] w fun e Z=>e=.returned (.i 0)∧Blk Z g 246 (p.at c.view).cells∧Chg (fun i=>i=g) w Z:=by
 have X:p.es.length≤1000000:=aB m.len (by decide);obtain⟨y,g0,F,q,z1⟩:=par w 48 c.cells;have O:=L.grow q;have I:=Sl.below h q z;have J:=aB z q.size;have M:=F.cell 0;rw[show c.cells[0]? =some (.i c.kind) from rfl,m.kind]at M;have k1:=aP (show y.cell? ⟨w.heap.size,1,none⟩=some (.i c.view) from F.cell 1);have k2:=aP (show y.cell? ⟨g,0,none⟩=some (.i p.view) from O.cell 0);have hv:¬c.view<p.view:=by have:=m.view; omega
 have j:=k'7 O F q I J L.lt m;have HL:=kp (fun(W:World)(b:Bw' y W)=>rN.1 p W B (Sl.below I b J) m.base X);have n:=k'4 h z U X;clear F O q z1 I J L h z m U;go_enter func212,ntmps212;go_wp2_with fail;refine bJ (by kernel_rfl) (by kernel_rfl) ?_
 repeat (go_big_quiet_step (fail))
 refine bH ?_;rintro W2 ⟨⟨_,C⟩,rfl⟩;have y2:=j.a.grow C;have l2:=y2.load (P:=prog) (k:=5) rfl;have x2:=j.b.grow C;have s:=kp C;clear k1 k2 M C;go_wp2_with fail;refine mb' (HL.o W2 s.o) fun l E=>?_;have N:=(j.b.grow s.o).grow E;have H:=(j.a.grow s.o).grow E;have M:l.cell? ⟨w.heap.size,0,none⟩=some (.i 1):=(N.cell 0).trans (by rw[show c.cells[0]? =some (.i c.kind) from rfl,j.G.kind]);have j1:l.cell? ⟨w.heap.size,1,none⟩=some (.i c.view):=N.cell 1;have k0:l.cell? ⟨g,0,none⟩=some (.i p.view):=H.cell 0;have f0:=H.frozen 0;have r:Blk (l.setCell ⟨g,0,none⟩ (.i c.view)) g 246 (p.at c.view).cells:=H.setCell 0 _;have c4:=(Chg.refl (fun i=>i=g) l).setCell (.inr rfl) 0 (.i c.view);obtain⟨T,b0⟩:∃W,l.setCell ⟨g,0,none⟩ (.i c.view)=W:=⟨_,rfl⟩
 rw[b0]at r c4;have A:=s.o.on E;have l0:g<y.heap.size:=eA j.f j.c.size;have c14:=(Chg.of_below (S:=fun i=>i=g) (j.c.on A)).trans c4 fun _ _ h=>h;obtain⟨Ae,ce,V,e0,d0⟩:=Sl.below j.d A j.e;have Y:fL l B p:=Sl.below j.d A j.e;have k4:T.cell? ⟨g,4,none⟩=some (.slice Ae p.es.length ce):=(r.cell 4).trans (by rw[show (p.at c.view).cells[4]? =some p.ev from rfl,V]);have l4:=r.load (P:=prog) (k:=5) rfl;have g3:¬(4000:Int)<(p.es.length:Int):=by have:=j.G.len; omega
 have R:=k'4 r c14 c4 Y;have a0:=kp (by
  have:=yU (p.at c.view) B T (Sl.below n.a (c14.below (B:=B) (fun i hi=>by have:=n.c; omega) n.b) (aD _)) (aB n.b c14.size) n.D j.G.kr2 j.G.img;rw[show dA (p.at c.view).x=true from j.G.ok2]at this;exact this)
 clear x2 y2 N H r c4 c14 A E e0 d0 V Y l2;go_wp2_with fail;refine mb' (a0.o) fun w5 K=>?_;have Q:=k'2 (R.a.grow K) (R.b.trans (Chg.of_below (S:=fun i=>i=g) K) fun _ _ h=>h);clear K k4 l4;unfold eN;go_wp2_with fail;go_ret;exact⟨rfl,Q.a,Q.B⟩
end
section
attribute [-go_sem] loadCellsFrom storeCells run_eql_struct run_neq_struct Instr.build
attribute [local go_sem] bC
theorem aAR(p:KpV)(w:World):(Instr.build 246 #[(0,.agg p.cells.toArray)]).run prog w=.ok (.agg p.cells.toArray) w:=run_build w _ _ _ (by kernel_rfl)
attribute [local go_sem] aAR
theorem aAS(p:KpV)(c:RcV)(w:World)(B:Nat)(h:fL w B p)(N:B≤w.heap.size)(x:SvV p c):
  Calls prog 160 #[.agg p.cells.toArray,.agg c.cells.toArray] w fun e w'=>∃v,e=.returned (.tuple #[.agg ((p.own v).at c.view).cells.toArray,.i 0])∧Ow w' w.heap.size 46 11 v En.cells p.es∧Bw' w w':=by
 have Q:p.es.length≤1000000:=aB x.len (by decide);obtain⟨W1,o0,S,D,z1⟩:=par w 24 p.cells;obtain⟨Y,p0,x2,K,z2⟩:=par W1 48 c.cells;obtain⟨I,j0,x3,L,z3⟩:=par Y 24 mY;unfold mY at j0;have s:=K.on L;have M:=Sl.below h (D.on s) N;have E:B≤I.heap.size:=aB N (D.on s).size;have HR:=kp (by have:=yU p B I M E Q x.kr x.img; rw[x.ok]at this; exact this);have l0:=(S.grow s).load (P:=prog) (k:=5) rfl;have f:=k'8 (S.grow s) (x2.grow L) x3 (D.on s) z1 z2 K.size z3;have HS:=kp (fun(W:World)(b:Bw' I W)=>fam'6.2.2.2.2.1 p.ev p.es B W (Sl.below M b E) (aB E b.size) Q);have j:=kp x;clear S x2 x3 D K L s z1 z2 z3 M h N E x Q;go_enter func160,ntmps160;go_wp2_with fail;refine mb' (HR.o) fun G O=>?_;have k4:G.cell? ⟨w.heap.size,4,none⟩=some p.ev:=(f.a.grow O).cell 4;have m:=kp O;clear O l0;unfold eN;go_wp2_with fail;refine (HS.o G m.o).mono ?_;rintro e A ⟨v,rfl,z,r⟩;have z:Ow A G.heap.size 46 11 v En.cells p.es:=z;obtain⟨g,l,rfl,-⟩:=eD z;have C:=(f.a.grow m.o).grow r;have k5:A.cell? ⟨w.heap.size,4,none⟩=some p.ev:=C.cell 4;have f5:=C.frozen 4;have T:Blk (A.setCell ⟨w.heap.size,4,none⟩ (.slice g p.es.length l)) w.heap.size 24 (p.own (.slice g p.es.length l)).cells:=C.setCell 4 _;have c6:=(Chg.refl (fun i=>i=w.heap.size) A).setCell (.inr rfl) 4 (.slice g p.es.length l);obtain⟨J,m0⟩:∃W,A.setCell ⟨w.heap.size,4,none⟩ (.slice g p.es.length l)=W:=⟨_,rfl⟩
 rw[m0]at T c6;have l6:=T.load (P:=prog) (k:=5) rfl;have R:=z.chg_blk C c6 (by decide);obtain⟨W7,q0,U,q,z7⟩:=par J 246 (p.own (.slice g p.es.length l)).cells;have o7:=R.below q;have xr:=(((f.b.grow m.o).grow r).chg c6 (by have:=f.o; omega)).grow q;have l7:=xr.load (P:=prog) (k:=17) rfl;have y7:=(((f.c.grow m.o).grow r).chg c6 (by have:=f.o; omega)).grow q;have F:=f.d.on (m.o.on r);have Z:=F.trans ((c6.below (B:=w.heap.size) (fun i hi=>by omega) F.size).trans (q.mono (aB F.size c6.size)));have d0:Y.heap.size<J.heap.size:=eA f.H (aB (m.o.on r).size c6.size);have a0:w.heap.size≤G.heap.size:=aB f.d.size m.o.size;have n:=k'6 o7 y7 Z d0 a0 (aB f.d.size (aB (m.o.on r).size c6.size));have e0:=kp (aAQ (p.own (.slice g p.es.length l)) c W7 J.heap.size U ((R.sl eL).below q (aD _)) q.size (aD _) ⟨j.o.kind,j.o.view,j.o.base,j.o.len,j.o.img,j.o.kr,j.o.kr2,j.o.ok,j.o.ok2⟩);have g0:=kp U;clear z C T c6 R U q z7 o7 xr y7 F Z d0 a0 r k4;go_wp2_with fail;refine (e0.o).mono ?_;rintro e w8 ⟨rfl,b0,y⟩;have l8:=b0.load (P:=prog) (k:=5) rfl;have V:=n.b.chg y (by have:=n.o; omega);have o8:=n.a.chg_blk g0.o y (by decide);obtain⟨W9,y0,s9,x9,c9⟩:=V.put ((p.own (.slice g p.es.length l)).at c.view).cells rfl (mW (p:=(p.own (.slice g p.es.length l)).at c.view) rfl);have l9:=x9.load (P:=prog) (k:=5) rfl;have X:=k'2 ((o8.chg_blk V c9 (by decide)).mono n.e) (n.c.trans ((y.below (B:=w.heap.size) (fun i hi=>by have:=n.o; omega) n.c.size).trans (c9.below (B:=w.heap.size) (fun i hi=>by have:=f.o; omega) (aB n.c.size y.size))));clear b0 V o8 x9 c9 y;go_wp2_with fail;exact aU (v:=.tuple #[.agg ((p.own (.slice g p.es.length l)).at c.view).cells.toArray,.i 0]) (by simp[results,results160,go_sem,l9]) rfl ⟨_,rfl,X.a,X.B⟩
end
section
attribute [-go_sem] loadCellsFrom storeCells run_eql_struct run_neq_struct
attribute [local go_sem] bC RcV.fold nW
theorem Nq:(∀{Q:List Value}{g base:Nat}(p:WkV)(ps:List ObV)(c:RcV)(w:World)(h:WkO w base g 117 Q p ps)(hm:Ow w base 46 11 c.ev En.cells c.es)(N:p.rs.length<1000000)(j:base≤w.heap.size)(l:SvV p.r.k c),Calls prog 111 #[.pointer (some ⟨g,0,none⟩),.agg c.cells.toArray] w fun e w'=>e=.returned (.tuple #[])∧∃v v',WkO w' base g 117 Q ⟨p.r.kept ((p.r.k.own v).at c.view),p.rs++[c],v',p.ms,p.mv⟩ ps∧Chg (fun i=>i=g∨p.rv.ownBlock=some i) w w'∧(∀k,v'.ownBlock=some k→p.rv.ownBlock=some k∨w.heap.size≤k))∧(∀{Q:List Value}{g base:Nat}(p:WkV)(ps:List ObV)(c:RcV)(w:World)(h:WkO w base g 109 Q p ps)(hm:Ow w base 46 11 c.ev En.cells c.es)(N:p.rs.length<1000000)(j:base≤w.heap.size)(l:SvV p.r.k c),Calls prog 107 #[.pointer (some ⟨g,0,none⟩),.agg c.cells.toArray] w fun e w'=>e=.returned (.tuple #[])∧∃v v',WkO w' base g 109 Q ⟨p.r.kept ((p.r.k.own v).at c.view),p.rs++[c],v',p.ms,p.mv⟩ ps∧Chg (fun i=>i=g∨p.rv.ownBlock=some i) w w'∧(∀k,v'.ownBlock=some k→p.rv.ownBlock=some k∨w.heap.size≤k)):=by
 refine⟨?q0,?q1⟩
 case' q0=>have O:=True.intro
 all_goals
  intro Q g base p ps c w h hm N j l;obtain⟨G,j1,x1,b1,z1⟩:=par w 48 c.cells;have E:=k'4 (h.below b1) b1 x1 (hm.below b1);have M:=k'4 h.blk.lt (fun i Z=>(h.rs.lt (i:=i) Z).2) j N;have HL:=kp (fun(W:World)(j:Bw' G W)=>(E.a.blk.grow j).loadOff (P:=prog) 2 5 p.r.k.cells rfl rfl)
  first
  |(have:=O; have HM:=kp (fun(W:World)(j:Bw' G W)=>aAP p.r.k c W W.heap.size ((E.a.rep.es.below j).sl eL) (aD _) l.kind l.view l.base l.len l.img l.kr l.kr2 l.ok l.ok2))
  |have HM:=kp (fun(W:World)(j:Bw' G W)=>aAS p.r.k c W W.heap.size ((E.a.rep.es.below j).sl eL) (aD _) l)
  clear x1 b1 z1 h hm N j l
  first |go_enter func111,ntmps111|go_enter func107,ntmps107
  go_wp2_with fail;have T:=kp (show Bw' G G.drew from bR (aL _ _));refine fR 12 (CAl G.drew 24 mY 53 [] (lQ G.drew.heap.size p.r.k c.view) vY 6 7 8 10 1000 11) (fun _=>fK) (by kernel_rfl) (by kernel_rfl) CAl.start ?_
  iterate 6 (refine bO ?_; apply Exists.intro)
  iterate 3 (refine bS eM ?_)
  refine bS zH ?_
  iterate 2 (refine bS eM ?_)
  refine dR ⟨?_,?_⟩
  rotate_left
  .iterate 6
    apply Ug (by kernel_rfl) (by intro t w h; cases h; exact trivial) rfl
    .intro X W' d A C n f;have l1:=HL.o W' (T.o.on d.bel);have l2:=(E.c.grow (T.o.on d.bel)).load (P:=prog) (k:=17) rfl;go_wp2_with fail;exact⟨rfl,_,rfl,d.other (by decide),aV,rfl⟩
    simp only[Act.put,aN,aH,aI,aT,aW]
   refine⟨fun X W' d A C n f=>?_,fun u6=>?_⟩
   .go_wp2_with fail;refine (HM.o W' (T.o.on d.bel)).mono ?_;rintro e p1 ⟨v,rfl,s,e0⟩;have L:=d.doCall (lQ.stab _ _ _) A e0 ⟨v,rfl,s.mono d.bel.size⟩ (by decide);clear s e0;go_wp2_with fail;exact⟨rfl,_,rfl,L,aV,trivial⟩
   simp only[Act.put,aN,aH,aI,aT,aW];refine⟨fun X W' d A C n f=>?_,fun u7=>?_⟩
   .have U:X 6=some u6:=n 6 13 u6 (by kernel_rfl) (by kernel_rfl) (bT (by kernel_rfl)) rfl;go_wp2_with fail;exact⟨rfl,_,rfl,d.doMv U (by decide),aV,trivial⟩
   simp only[Act.put,aN,aH,aI,aT,aW];refine⟨fun X W' d A C n f=>?_,fun R=>?_⟩
   .have V:X 7=some u7:=n 7 6 u7 (by kernel_rfl) (by kernel_rfl) (bT (by kernel_rfl)) rfl;have U:=d.mv _ V;obtain⟨v,rfl,-⟩:=d.call _ U;have L:=d.doExt A U ⟨_,rfl⟩ (by decide);clear U V;go_wp2_with fail;exact⟨rfl,_,rfl,L,aV,trivial⟩
   simp only[Act.put,aN,aH,aI,aT,aW];refine⟨fun X W' d A C n f=>?_,fun u9=>?_⟩
   .have V:X 7=some u7:=n 7 6 u7 (by kernel_rfl) (by kernel_rfl) (bT (by kernel_rfl)) rfl;obtain⟨v,rfl,-⟩:=d.call _ (d.mv _ V);clear V;go_wp2_with fail;exact⟨rfl,_,rfl,d.other (by decide),aV,rfl⟩
   simp only[Act.put,aN,aH,aI,aT,aW];refine⟨fun X W' d A C n f=>?_,fun b0=>?_⟩
   .have L:=d.doAlloc (lQ.stab _ _ _) A (by decide);go_wp2_with fail;exact⟨rfl,_,rfl,L,aV,trivial⟩
   simp only[Act.put,aN,aH,aI,aT,aW];refine⟨fun X W' d A C n f=>?_,fun g1=>?_⟩
   .have h7:X 10=some b0:=n 10 4 b0 (by kernel_rfl) (by kernel_rfl) (bT (by kernel_rfl)) rfl;have h5:X 8=some R:=n 8 14 R (by kernel_rfl) (by kernel_rfl) (bT (by kernel_rfl)) rfl;obtain⟨u,hu,y,J⟩:=d.ext _ h5;obtain⟨v,K,s⟩:=d.call _ hu;rw[J]at K;obtain⟨rfl,-⟩:R=.agg ((p.r.k.own v).at c.view).cells.toArray∧y=.i 0:=by simpa using K
    obtain⟨a,cs,rfl,-⟩:=d.al _ h7;obtain⟨hk,L⟩:=d.doStore (u:=undef) (lQ.stab _ _ _) (by decide) A h7 h5 (by decide);have o1:=hk.store (P:=prog) (cs':=((p.r.k.own v).at c.view).cells) rfl (mW (p:=(p.r.k.own v).at c.view) s.one);clear hk J K hu h7 h5 s;go_wp2_with fail;exact⟨rfl,undef,rfl,L,aV,trivial⟩
   simp only[Act.put,aT,aW];intro W9 d f;have F:zH u9 W9:=f 15
   cases F;clear f;simp only[dO,dP];obtain⟨u,hu,y,J⟩:=d.ext R rfl;obtain⟨v,K,s⟩:=d.call _ hu;rw[J]at K;obtain⟨rfl,-⟩:R=.agg ((p.r.k.own v).at c.view).cells.toArray∧y=.i 0:=by simpa using K
   obtain⟨a,cs,rfl,a1,m0,-,j0⟩:=d.al b0 rfl;obtain rfl:((p.r.k.own v).at c.view).cells=cs:=by have:=j0 g1 rfl; simpa using this
   have l9:=m0.load (P:=prog) (k:=5) rfl;have Y:=T.o.on d.bel;have h9:=E.a.below Y;have x9:=E.c.grow Y;have m9:=E.D.below Y;have hd:base≤G.drew.heap.size:=aB M.c (aB E.b.size T.o.size)
   first
   |(have:=O; obtain⟨a0,y0,I,c10⟩:=h9.keep (.inr rfl) (k:=(p.r.k.own v).at c.view) (s.mono hd))
   |obtain⟨a0,y0,I,c10⟩:=h9.keep (.inl rfl) (k:=(p.r.k.own v).at c.view) (s.mono hd)
   have d0:=x9.chg c10 (by have:=M.a; omega);have p0:=m9.chg_blk h9.blk c10 (by decide);obtain⟨k',l0⟩:=nm' ((p.r.k.own v).at c.view);rw[l0]at I y0 l9;have m:=k'4 I d0 p0 ((Chg.of_below (S:=fun i=>i=g) (E.b.on Y)).trans c10 fun _ _ h=>h);have HC:=kp (fun W(d:Chg (fun i=>p.rv.ownBlock=some i) a0 W∧Ow W base 48 17 p.rv RcV.cells p.rs)=>jQ (I.blk.chg d.1 (I.rs.ne_blk I.blk (by decide))) (d0.chg d.1 fun Z=>wH _ (M.b _ Z)));have HE:=kp l0;clear d J K hu a1 m0 j0 s Y h9 x9 m9 hd I c10 d0 p0;go_wp2_with fail;refine kU 12 (fun W=>Chg (fun i=>p.rv.ownBlock=some i) a0 W∧Ow W base 48 17 p.rv RcV.cells p.rs) (kD 8 fun i=>p.rv.ownBlock=some i) (by kernel_rfl) (by kernel_rfl) ⟨(Chg.refl _ _).drew,m.a.rs.below (bR (aL _ _))⟩ ?_
   iterate 7 (refine bO ?_; apply Exists.intro)
   refine bS (fun u W=>∃b,u=.slice (some ⟨b,0,none⟩) 1 1∧(b<W.heap.size∧p.rv.ownBlock≠some b)∧Sl W (b+1) u RcV.cells [c]) ?_;refine bS (fun u W=>Ow W base 48 17 u RcV.cells (p.rs++[c])∧∀k,u.ownBlock=some k→p.rv.ownBlock=some k∨w.heap.size≤k) ?_
   iterate 3 (refine bO ?_; apply Exists.intro)
   refine dR ⟨?pers,?walk⟩
   case walk=>
    iterate 5
     apply Sz (by kernel_rfl) (by intro t w h; cases h; exact trivial) rfl
     .intro W d f; go_wp2_with fail;exact⟨rfl,_,rfl,d,fQ (by decide) (aL _ _),rfl⟩
     simp only[Act.put,aN,aH,aI]
    apply Sz (by kernel_rfl) (by intro t w h; cases h; exact trivial) rfl
    .intro W d f; have q:=(HC.o W d).1.cell 26; rw[Np]at q; go_wp2_with fail;exact⟨rfl,_,rfl,d,fQ (by decide) (aL _ _),rfl⟩
    simp only[Act.put,aN,aH,aI];apply Sz (by kernel_rfl) (by intro t w h; cases h; exact trivial) rfl
    .intro W d f; have q:=(HC.o W d).2.load (P:=prog) (k:=17) rfl; go_wp2_with fail;exact⟨rfl,_,rfl,d,fQ (by decide) (aL _ _),rfl⟩
    simp only[Act.put,aN,aH,aI];refine⟨fun W d f=>?_,fun u7=>?_⟩
    .go_wp2_with fail;have l:=eQ (enc:=RcV.cells) W 48 c;have hc:=jQ (d.1.alloc (.cells c.cells.toArray 48)) (d.2.alloc (.cells c.cells.toArray 48));have F:=fQ (e:=8) (k:=7) (S:=fun i=>p.rv.ownBlock=some i) (by decide) (ba' W (.cells c.cells.toArray 48));have j:W.heap.size<(W.alloc (.cells c.cells.toArray 48)).heap.size:=by simp
     have N:¬p.rv.ownBlock=some W.heap.size:=fun J=>by have:=(d.2.lt J).2; omega
     generalize W.alloc (.cells c.cells.toArray 48)=W' at l hc F j ⊢;exact⟨rfl,_,rfl,hc,F,_,rfl,⟨j,N⟩,l⟩
    simp only[Act.put,aN,aH,aI];refine⟨fun W d f=>?_,fun R=>?_⟩
    .first
     |(have:=O; have f7:=f 33 (bT (by kernel_rfl)))
     |have f7:=f 32 (bT (by kernel_rfl))
     obtain⟨b,rfl,m1,o0⟩:=f7;have g0:base≤W.heap.size:=aB M.c (aB m.D.size d.1.size)
     first
     |(have:=O; go_wp2_with (at_builtin; refine mO (enc:=RcV.cells) W rfl (.tmp 31) (.tmp 33) 61 rfl base 48 Nn underlying61 rfl (by omega) nW d.2 rfl o0 rfl (fun a ha=>by rw[bQ.1 ha]; exact No (Ow.one m.c)) ?_ ?_ g0 ?_))
     |go_wp2_with (at_builtin; refine mO (enc:=RcV.cells) W rfl (.tmp 30) (.tmp 32) 61 rfl base 48 Nn underlying61 rfl (by omega) nW d.2 rfl o0 rfl (fun a ha=>by rw[bQ.1 ha]; exact No (Ow.one m.c)) ?_ ?_ g0 ?_)
     .have:=M.D; unfold maxLen; show p.rs.length+1≤_; omega
     .have:=M.D; show (p.rs.length+1)*160≤_; omega
     intro v' W3 s e1 hg z0;exact⟨rfl,_,rfl,⟨d.1.trans (fZ hg) (fun _ _ h=>h),e1⟩,rK (fZ hg),s,fun k hk=>(z0 k hk).imp id (aB (aB m.D.size d.1.size))⟩
    simp only[Act.put,aN,aH,aI]
    iterate 3
     apply Sz (by kernel_rfl) (by intro t w h; cases h; exact trivial) rfl
     .intro W d f; go_wp2_with fail;exact⟨rfl,_,rfl,d,fQ (by decide) (aL _ _),rfl⟩
     simp only[Act.put,aN,aH,aI]
    intro W d f
    first
    |(have:=O; have H:=f 34)
    |have H:=f 33
    obtain⟨H,f9⟩:=H;have q:=(HC.o W d).1.cell 26;have qf:=(HC.o W d).1.frozen 26;rw[Np]at q
    first
    |
     have:=O;have C:=m.a.saved (.inr rfl) d.1 H (fun x z=>by
      rcases dF.1 z with z|z
      .exact (m.a.rse x z).chg_row m.a.rs d.1 (by decide)
      .rw[bQ.1 z];exact (m.c).chg_row m.a.rs d.1 (by decide))
    |
     have C:=m.a.saved (.inl rfl) d.1 H (fun x z=>by
      rcases dF.1 z with z|z
      .exact (m.a.rse x z).chg_row m.a.rs d.1 (by decide)
      .rw[bQ.1 z];exact (m.c).chg_row m.a.rs d.1 (by decide))
    have HW:=kp C;have H9:=kp f9;obtain⟨A8,c8,rfl,_,_⟩:=eD H;rw[bB,uC]at HW H9;clear f d H f9 C;go_wp2_with fail;go_end0;refine⟨rfl,v,_,?_,?_,H9.o⟩
    .rw[HE.o]; exact HW.a
    .exact (m.D.mono fun i _ Z=>.inl Z).trans HW.B fun _ _ h=>h
   case pers=>
    refine⟨pv',pv',pv',pv',pv',pv',pv',?_,?_,pv',pv',pv',trivial⟩
    .rintro i u W W' _ ⟨b,rfl,j,l⟩ F;exact⟨b,rfl,⟨eA j.1 (nO F).size,j.2⟩,vK l (nO F) j.2 j.1⟩
    .rintro i u W W' d1 ⟨h1,h2⟩ F;exact⟨h1.below (rL F d1),h2⟩
  .exact⟨pv',pv',pv',pv',pv',pv',fun _ _ _ _ _ h _=>h,fun _ _ _ _ _ h _=>h,fun _ _ _ _ _ h _=>h,fun _ _ _ _ _ h _=>h,fun _ _ _ _ _ h _=>h,fun _ _ _ _ _ h _=>h,trivial⟩
end
section
attribute [-go_sem] loadCellsFrom storeCells run_eql_struct run_neq_struct Instr.build
attribute [local go_sem] bC
theorem Ow.fresh1(w:World)(i:Int):Ow (w.alloc (.cells #[.i i] 3)) w.heap.size 3 1 (.slice (some ⟨w.heap.size,0,none⟩) 1 1) i1 [i]:=
 ⟨rfl,.inr ⟨_,1,_,rfl,aD _,Blk.new w 3 [.i i],aD _,by decide,rfl,rfl⟩⟩
def nY(v:Int):RcV:=⟨1,v,0,0,⟨#[]⟩,Cn,[],.slice none 0 0⟩
def Ej(k:Int):MgV:=⟨k,0,0,0,0,0,0,0,[],.slice none 0 0,0,0,⟨#[]⟩,0,pV,0,0,false⟩
theorem Nt(v:Int)(w:World):(Instr.build 48 #[(0,.i 1),(1,.i v)]).run prog w=.ok (.agg (nY v).cells.toArray) w:=run_build w _ _ _ (by kernel_rfl)
theorem Nu(k:Int)(w:World):(Instr.build 55 #[(0,.i k)]).run prog w=.ok (.agg (Ej k).cells.toArray) w:=run_build w _ _ _ (by kernel_rfl)
attribute [local go_sem] Nt Nu
def RpV.started(r:RpV)(sv:Value):RpV:=⟨r.id,r.nodes,r.k,r.commit,r.s,r.timer,[r.id],sv,r.votes,r.vv,r.acks,r.av,r.part⟩
def RpV.turned(r:RpV)(v sv:Value)(view:Int):RpV:=((r.kept ((r.k.own v).at view)).settled).started sv
theorem WkO.start{w:World}{base g:Nat}{t:TypeId}{e:List Value}{p:WkV}{ps:List ObV}(h:WkO w base g t e p ps)(k:qG t)(f:base≤w.heap.size):
  ∃b c,w.alloc (.cells #[.i p.r.id] 3)=b∧b.setCell ⟨g,18,none⟩ (.slice (some ⟨w.heap.size,0,none⟩) 1 1)=c∧b.cell? ⟨g,18,none⟩=some p.r.sv∧b.frozen? ⟨g,18,none⟩=false∧
   WkO c base g t e ⟨p.r.started (.slice (some ⟨w.heap.size,0,none⟩) 1 1),p.rs,p.rv,p.ms,p.mv⟩ ps∧Chg (fun i=>i=g) w c:=by
 have d:=ba' w (.cells #[.i p.r.id] 3);have a:=h.below d;have c1:=(Chg.refl (fun i=>i=g) (w.alloc (.cells #[.i p.r.id] 3))).setCell (.inr rfl) 18 (.slice (some ⟨w.heap.size,0,none⟩) 1 1);have l:=a.blk.setCell 18 (.slice (some ⟨w.heap.size,0,none⟩) 1 1);have j:RpO (w.alloc (.cells #[.i p.r.id] 3)) base (p.r.started (.slice (some ⟨w.heap.size,0,none⟩) 1 1)) ps:=⟨a.rep.es,a.rep.st,(Ow.fresh1 w p.r.id).mono f,a.rep.votes,a.rep.ves,a.rep.acks⟩
 exact⟨_,_,rfl,rfl,a.blk.cell 18,a.blk.frozen 18,a.put k l c1 j,(Chg.of_below d).trans c1 fun _ _ h=>h⟩
theorem aAW{Q:List Value}{g base n:Nat}(p:WkV)(ps:List ObV)(f:Int)(w:World)(h:WkO w base g 117 Q p ps)(d:p.ms.length≤1000∧p.rs.length<1000000)(q:base≤w.heap.size)(O:SvV p.r.k (nY f))(M:p.r.nodes=n)(L:n≤1000):
  Calls prog 63 #[.pointer (some ⟨g,0,none⟩),.i f] w fun e R=>e=.returned (.tuple #[])∧∃v sv C l A,l.map (·.x)=(sI p.r.id n).map (nL p.r.id f)∧l.length≤n∧
   WkO R base g 117 Q ⟨p.r.turned v sv f,p.rs++[nY f],C,p.ms++l,A⟩ ps∧Chg (fun i=>i=g∨p.rv.ownBlock=some i∨p.mv.ownBlock=some i) w R:=by
 have S:=kp (Nq.1 p ps (nY f) w h (Ow.nil _ _ _ _ _) d.2 q O);have m:=k'4 d.1 q M L;clear h d q O M L;go_enter func63,ntmps63;go_wp2_with fail;refine (S.o).mono ?_;rintro e Z ⟨rfl,v,C,N,J,Y⟩;have U:=kp (aAA _ ps Z N);have F:=kp J;clear N J Y;go_wp2_with fail;refine (U.o).mono ?_;rintro e E ⟨rfl,z,y⟩;have s:base≤E.heap.size:=aB m.b (aB F.o.size y.size);obtain⟨W,X,P,s4,q4,f4,H,c4⟩:=z.start (.inr rfl) s;have q0:E.cell? ⟨g,0,none⟩=some (.i p.r.id):=z.blk.cell 0;have P:E.alloc (.cells #[.i p.r.id] 3)=W:=P;have V:=kp (Nl _ ps (Ej 5) X H (Ow.nil _ _ _ _ _) m.a (aB s c4.size) m.c m.D (cY _));have G:=k'2 y c4;clear z y s H c4;go_wp2_with fail;refine (V.o).mono ?_;rintro e w5 ⟨rfl,l,K,d,A,I,c5,-⟩;have j:=k'4 K d I c5;clear K d I c5;go_wp2_with fail;go_end0;refine⟨rfl,v,_,C,l,A,?_,j.b,j.c,?_⟩
 .exact j.a
 .exact (((F.o.mono fun i _ h=>by rcases h with h|h<;>simp[h]).trans (T:=fun i=>i=g) G.a fun i _ h=>.inl h).trans (T:=fun i=>i=g) G.B fun i _ h=>.inl h).trans j.D fun i _ h=>h.imp id .inr
end
end Go.Proofs.YtdoopoapbffpbaaGreat
