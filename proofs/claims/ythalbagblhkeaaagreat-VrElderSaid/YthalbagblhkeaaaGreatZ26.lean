import Derived.Test.YthalbagblhkeaaaGreatZ08
import Derived.Test.YthalbagblhkeaaaGreatZ25
import Derived.StillTailTactics
namespace Go.Proofs.YthalbagblhkeaaaGreat
open Go.RowKit Go.Proofs.Tryz
set_option maxRecDepth 100000
set_option maxHeartbeats 12800000
set_option linter.unusedVariables false
set_option linter.unusedSimpArgs false
section
attribute [-go_sem] loadCellsFrom storeCells run_eql_struct run_neq_struct
attribute [local go_sem] bC
def KpV.at(p:KpV)(v:Int):KpV:=⟨v,p.normal,p.base,p.image,p.es,p.ev⟩
def mY:List Value:=z'8
end
section
attribute [-go_sem] loadCellsFrom storeCells run_eql_struct run_neq_struct
attribute [local go_sem] bC
def sK(B:Nat)(p:KpV)(z:Value)(W:World):Prop:=∃v,z=.agg (p.own v).cells.toArray∧Ow W B 93 11 v En.cells p.es
def lQ(B:Nat)(p:KpV)(c:Int)(z:Value)(W:World):Prop:=∃v,z=.tuple #[.agg ((p.own v).at c).cells.toArray,.i 0]∧Ow W B 93 11 v En.cells p.es
theorem sK.stab(B:Nat)(p:KpV):qE 24 (sK B p):=
 ⟨fun _ _ _ ⟨v,e,h⟩ b=>⟨v,e,h.below b⟩,fun _ W a _ cs' ⟨v,e,h⟩ c=>⟨v,e,h.chg_blk c ((Chg.refl (fun i=>i=a) W).setRow (.inr rfl) cs') (by decide)⟩⟩
theorem lQ.stab(B:Nat)(p:KpV)(c:Int):qE 24 (lQ B p c):=
 ⟨fun _ _ _ ⟨v,e,h⟩ b=>⟨v,e,h.below b⟩,fun _ W a _ cs' ⟨v,e,h⟩ d=>⟨v,e,h.chg_blk d ((Chg.refl (fun i=>i=a) W).setRow (.inr rfl) cs') (by decide)⟩⟩
def zH(z:Value)(_:World):Prop:=z=.i 0
def FoV(Wa:World)(p:KpV)(c:Int)(X:Nat→Option Value)(W:World):Prop:=
 CAl Wa 24 mY 46 [] (lQ Wa.heap.size p c) vY 3 4 5 7 1000 8 X W∧∀z,X 1=some z→sK Wa.heap.size p z W
section
variable {Wa W W':World}{p:KpV}{c:Int}{X:Nat→Option Value}
theorem FoV.on{j:Nat}{u:Value}(h:FoV Wa p c X W)(e:1≠j)(b:Bw' W W')(d:CAl Wa 24 mY 46 [] (lQ Wa.heap.size p c) vY 3 4 5 7 1000 8 (bD X j u) W'):FoV Wa p c (bD X j u) W':=
 ⟨d,fun z a=>(sK.stab _ _).grow _ _ _ (h.2 z (by rw[aR e]at a; exact a)) b⟩
theorem FoV.same{j:Nat}{u:Value}(h:FoV Wa p c X W)(b:1≠j)(a:CAl Wa 24 mY 46 [] (lQ Wa.heap.size p c) vY 3 4 5 7 1000 8 (bD X j u) W):FoV Wa p c (bD X j u) W:=h.on b (aL _ _) a
end
end
section
attribute [-go_sem] loadCellsFrom storeCells run_eql_struct run_neq_struct
attribute [local go_sem] bC
theorem RcV.fold(p:RcV):List.foldl (fun(a:Array Value)(x:Value×Nat)=>a.setIfInBounds x.snd x.fst) #[.i 0,.i 0,.i 0,.i 0,.string ⟨#[]⟩,.i 0,.i 0,.i 0,.i 0,.i 0,.i 0,.i 0,.i 0,.i 0,.i 0,.i 0,.slice none 0 0] p.cells.zipIdx=p.cells.toArray:=by
 simp[RcV.cells,En.cells]
attribute [local go_sem] RcV.fold nW
theorem Nn:(prog.info? 101).map (fun i=>(i.zero,i.size,i.bytes))=some (some (.agg zC.cells.toArray),17,160):=by kernel_rfl
theorem No{p:RcV}(h:p.ev.oneCell'=true):∀u∈p.cells,u.oneCell'=true:=by
 intro u a;simp only[RcV.cells,En.cells,aW,aT,bA,dW,or_false]at a;rcases a with rfl|rfl|rfl|rfl|rfl|rfl|rfl|rfl|rfl|rfl|rfl|rfl|rfl|rfl|rfl|rfl|rfl<;>first |rfl|exact h
section
variable {w w':World}{base g:Nat}{t:TypeId}{tl:List Value}{p:WkV}{ps:List ObV}
theorem WkO.saved{v':Value}{l':List RcV}(h:WkO w base g t tl p ps)(a:qG t)(c:Chg (fun i=>p.rv.ownBlock=some i) w w')(l:Ow w' base 101 17 v' RcV.cells l')(k:∀x∈l',Ow w' base 93 11 x.ev En.cells x.es):
  WkO (w'.setCell ⟨g,26,none⟩ v') base g t tl ⟨p.r,l',v',p.ms,p.mv⟩ ps∧Chg (fun i=>i=g∨p.rv.ownBlock=some i) w (w'.setCell ⟨g,26,none⟩ v'):=by
 have b:=h.blk.chg c (h.rs.ne_blk h.blk (by rcases a with rfl|rfl<;>decide));have f:Blk (w'.setCell ⟨g,26,none⟩ v') g t (WkV.cells ⟨p.r,l',v',p.ms,p.mv⟩ tl):=b.setCell 26 v';have m:=h.rep.row h.rs c (by decide);have o:=h.ms.chg_row h.rs c (by decide);have n:=fun x e=>(h.mse x e).chg_row h.rs c (by decide);have d:=(Chg.refl (fun i=>i=g) w').setCell (.inr rfl) 26 v';refine⟨⟨f,h.lo,m.chg b d (by rcases a with rfl|rfl<;>decide),l.chg_blk b d (by rcases a with rfl|rfl<;>decide),fun x e=>(k x e).chg_blk b d (by rcases a with rfl|rfl<;>decide),o.chg_blk b d (by rcases a with rfl|rfl<;>decide),fun x e=>(n x e).chg_blk b d (by rcases a with rfl|rfl<;>decide)⟩,(c.mono fun i _ j=>.inr j).setCell (.inr (.inl rfl)) 26 v'⟩
def RpV.kept(r:RpV)(k:KpV):RpV:=⟨r.id,r.nodes,k,r.commit,r.s,r.timer,r.starts,r.sv,r.votes,r.vv,r.acks,r.av,r.part⟩
theorem WkO.keep{k:KpV}(h:WkO w base g t tl p ps)(d:qG t)(a:Ow w base 93 11 k.ev En.cells k.es):
  ∃W,Sem.run prog (storeCells ⟨g,2,none⟩ k.cells 0) w=.ok () W∧WkO W base g t tl ⟨p.r.kept k,p.rs,p.rv,p.ms,p.mv⟩ ps∧Chg (fun i=>i=g) w W:=by
 obtain⟨W,e,s,x,c⟩:=h.blk.off 2 k.cells (WkV.cells ⟨p.r.kept k,p.rs,p.rv,p.ms,p.mv⟩ tl) rfl (by simp[WkV.cells,RpV.cells,KpV.cells,StV.cells,HpV.cells,Pt.cells]) (mW a.one);have b:RpO w base (p.r.kept k) ps:=⟨a,h.rep.st,h.rep.starts,h.rep.votes,h.rep.ves,h.rep.acks⟩
 exact⟨W,s,h.put d x c b,c⟩
end
theorem Np(p:WkV)(tl:List Value):(p.cells tl)[26]? =some p.rv:=rfl
end
section
attribute [-go_sem] loadCellsFrom storeCells run_eql_struct run_neq_struct
attribute [local go_sem] bC
end
section
attribute [-go_sem] loadCellsFrom storeCells run_eql_struct run_neq_struct Instr.build
attribute [local go_sem] bC
theorem aAR(p:KpV)(w:World):(Instr.build 225 #[(0,.agg p.cells.toArray)]).run prog w=.ok (.agg p.cells.toArray) w:=run_build w _ _ _ (by kernel_rfl)
attribute [local go_sem] aAR
end
section
attribute [-go_sem] loadCellsFrom storeCells run_eql_struct run_neq_struct
attribute [local go_sem] bC RcV.fold nW
end
section
attribute [-go_sem] loadCellsFrom storeCells run_eql_struct run_neq_struct
attribute [local go_sem] bC
theorem aAG(w:World):
  Calls prog 162 #[.i 1] w fun e a=>e=.returned (.tuple #[.pointer (some ⟨w.heap.size,0,none⟩),.i 0])∧Blk a w.heap.size 273 [.slice none 0 0,.i 1]∧Bw' w a:=by
 go_enter func162,ntmps162;go_wp2_with fail;go_ret2;exact⟨rfl,Blk.new _ _ [.slice none 0 0,.i 1],ba' _ _⟩
theorem aAH(p:MgV)(B:Nat)(w:World)(h:Sl w B p.ev En.cells p.es)(x:B≤w.heap.size)(E:p.es.length≤1000000):
  Calls prog 214 #[.agg p.cells.toArray] w fun e H=>∃v,e=.returned (.agg (p.own v).cells.toArray)∧Ow H w.heap.size 93 11 v En.cells p.es∧Bw' w H:=by
 obtain⟨O,Y,K,n,L⟩:=par w 48 p.cells;obtain⟨D,Z,I,j,M⟩:=par O 48 z'7;have y:=K.grow j;have F:=y.cell 8;change _=some p.ev at F;have N:=kp (fam'4.2.2.2.2.1 p.ev p.es B D (Sl.below h (n.on j) x) (aB x (n.on j).size) E);have g:=k'5 y I (n.on j) L M;clear K y I n j L M h x E;go_enter func214,ntmps214;go_wp2_with fail;refine (N.o).mono ?_;rintro e s ⟨v,rfl,l,q⟩;have l:Ow s D.heap.size 93 11 v En.cells p.es:=l;obtain⟨d,f,rfl,-⟩:=eD l;have m:=g.a.grow q;have S:=m.cell 8;change _=some p.ev at S;have X:=m.frozen 8;have z:Blk (s.setCell ⟨w.heap.size,8,none⟩ (.slice d p.es.length f)) w.heap.size 48 (p.own (.slice d p.es.length f)).cells:=m.setCell 8 _;have c4:=(Chg.refl (fun i=>i=w.heap.size) s).setCell (.inr rfl) 8 (.slice d p.es.length f);obtain⟨U,Q⟩:∃W,s.setCell ⟨w.heap.size,8,none⟩ (.slice d p.es.length f)=W:=⟨_,rfl⟩
 rw[Q]at z c4;have l4:=z.load (P:=prog) (k:=23) rfl;have A:=(g.b.grow q).chg c4 (by have:=g.o; omega);have G:=l.chg_blk m c4 (by decide);obtain⟨V,a0,s5,J,c5⟩:=A.put (p.own (.slice d p.es.length f)).cells rfl (nV (p:=p.own (.slice d p.es.length f)) rfl);have T:=J.load (P:=prog) (k:=23) rfl;have r:=g.c.on q;have C:=k'2 ((G.chg_blk A c5 (by decide)).mono g.c.size) (r.trans ((c4.below (B:=w.heap.size) (fun i R=>by omega) r.size).trans (c5.below (B:=w.heap.size) (fun i R=>by have:=g.o; omega) (aB r.size c4.size))));clear m z c4 A G J c5 r q l F;go_wp2_with fail;exact aU (v:=.agg (p.own (.slice d p.es.length f)).cells.toArray) (by simp[results,results214,go_sem,T]) rfl ⟨_,rfl,C.a,C.B⟩
end
section
attribute [-go_sem] loadCellsFrom storeCells run_eql_struct run_neq_struct
attribute [local go_sem] bC
theorem aAI{g c:Nat}{A:Option Addr}{m:Int}(w:World)(h:Blk w g 273 [.slice A 1 c,.i m]):
  Calls prog 253 #[.pointer (some ⟨g,0,none⟩),.i 0] w fun e a=>e=.returned (.bool true)∧a=w:=by
 have b:w.cell? ⟨g,0,none⟩=some (.slice A 1 c):=h.cell 0;clear h;go_enter func253,ntmps253;go_wp2_with fail;go_ret;exact⟨rfl,rfl⟩
theorem aAJ{g c:Nat}{A:Option Addr}{m:Int}(w:World)(h:Blk w g 273 [.slice A 1 c,.i m]):
  Calls prog 215 #[.pointer (some ⟨g,0,none⟩),.i 0] w fun e b=>e=.returned (.i 0)∧b=w:=by
 have a:=kp (aAI w h);clear h;go_enter func215,ntmps215;go_wp2_with fail;refine (a.o).mono ?_;rintro e d ⟨rfl,rfl⟩;go_wp2_with fail;go_ret;exact⟨rfl,rfl⟩
end
section
attribute [-go_sem] loadCellsFrom storeCells run_eql_struct run_neq_struct
attribute [local go_sem] bC MgV.fold fF
theorem aAK{g a:Nat}(m:MgV)(B:Nat)(w:World)(h:Blk w g 273 [.slice none 0 0,.i 1])(E:Sl w B (.slice (some ⟨a,0,none⟩) 1 1) MgV.cells [m])(G:m.ev.oneCell'=true):
  Calls prog 213 #[.pointer (some ⟨g,0,none⟩),.slice (some ⟨a,0,none⟩) 1 1] w fun e y=>e=.returned (.tuple #[])∧∃v,Blk y g 273 [v,.i 1]∧Ow y w.heap.size 48 23 v MgV.cells [m]∧Chg (fun i=>i=g) w y:=by
 have P:w.cell? ⟨g,0,none⟩=some (.slice none 0 0):=h.cell 0;have n:=k'3 h E G;clear h E G;go_enter func213,ntmps213;go_wp2_with (at_builtin; refine mO (enc:=MgV.cells) w rfl (.tmp 8) (.tmp 9) 53 rfl w.heap.size 48 zF aBW rfl (by omega) fF (Ow.nil _ _ _ _ _) rfl n.b rfl (fun x L=>by rw[bQ.1 L]; exact nV n.C) ?_ ?_ (aD _) ?_)
 .unfold maxLen; show 0+1≤_; decide
 .show (0+1)*208≤_; decide
 intro v z r _ F K;obtain⟨b,c,rfl,-,-,J,-⟩:=r.at_ fF (by decide) (by show 0<1; decide);have q:=(Ow.nil w w.heap.size 48 23 MgV.cells).grew F (aD _);have d:=n.a.grow q;have M:z.cell? ⟨g,0,none⟩=some (.slice none 0 0):=d.cell 0;have I:=d.frozen 0;have f:=d.setCell 0 (.slice (some ⟨b,0,none⟩) 1 c);have c3:=(Chg.refl (fun i=>i=g) z).setCell (.inr rfl) 0 (.slice (some ⟨b,0,none⟩) 1 c);have s:=r.chg_blk d c3 (by decide);obtain⟨A,D⟩:∃W,z.setCell ⟨g,0,none⟩ (.slice (some ⟨b,0,none⟩) 1 c)=W:=⟨_,rfl⟩
 rw[D]at f c3 s;have o:=k'3 f s ((Chg.of_below (S:=fun i=>i=g) q).trans c3 fun _ _ h=>h);have N:=aP (show A.cell? ⟨g,0,none⟩=some (.slice (some ⟨b,0,none⟩) 1 c) from f.cell 0);have O:=aP (show A.cell? ⟨g,1,none⟩=some (.i 1) from f.cell 1);have R:1≤c:=J;clear d f c3 r s q F K;go_wp2_with fail;clear M I P D;refine uT 19 (by kernel_rfl) (by kernel_rfl) ?_;simp only[qK,mZ,dO,dP]
 repeat (go_big_quiet_step (fail))
 refine bH ?_;rintro p ⟨⟨_,k⟩,rfl⟩;have j:=o.a.grow k;have T:p.cell? ⟨g,0,none⟩=some (.slice (some ⟨b,0,none⟩) 1 c):=j.cell 0;have Q:=j.frozen 0;have H:Blk (p.setCell ⟨g,0,none⟩ (.slice (some ⟨b,0,none⟩) 1 c)) g 273 [.slice (some ⟨b,0,none⟩) 1 c,.i 1]:=j.setCell 0 _;have c5:=(Chg.refl (fun i=>i=g) p).setCell (.inr rfl) 0 (.slice (some ⟨b,0,none⟩) 1 c);have l:=k'3 H ((o.b.below k).chg_blk j c5 (by decide)) ((o.C.trans (Chg.of_below (S:=fun i=>i=g) k) fun _ _ h=>h).trans c5 fun _ _ h=>h);clear j H c5 k N O;go_wp2_with fail;go_end0;exact⟨rfl,_,l.a,l.b,l.C⟩
end
section
attribute [-go_sem] loadCellsFrom storeCells run_eql_struct run_neq_struct
attribute [local go_sem] bC MgV.fold fF
def Eh(w:World)(g:Nat)(m:MgV)(W:World):Prop:=∃ev v,Blk W g 273 [v,.i 1]∧Ow W w.heap.size 48 23 v MgV.cells [m.own ev]∧Ow W w.heap.size 93 11 ev En.cells m.es∧Chg (fun i=>i=g) w W
def MgO(B:Nat)(m:MgV)(u:Value)(W:World):Prop:=∃ev,u=.agg (m.own ev).cells.toArray∧Ow W B 93 11 ev En.cells m.es
def MgL(B:Nat)(m:MgV)(u:Value)(W:World):Prop:=∃a ev,u=.slice (some ⟨a,0,none⟩) 1 1∧a<W.heap.size∧Sl W (a+1) u MgV.cells [m.own ev]∧Ow W B 93 11 ev En.cells m.es
theorem aAL{g a:Nat}(m:MgV)(B:Nat)(w:World)(h:Blk w g 273 [.slice none 0 0,.i 1])(O:Sl w B (.slice (some ⟨a,0,none⟩) 1 1) MgV.cells [m])(N:B≤w.heap.size)(R:Sl w B m.ev En.cells m.es)(V:m.es.length≤1000000)(T:m.kind≠0):
  Calls prog 163 #[.pointer (some ⟨g,0,none⟩),.slice (some ⟨a,0,none⟩) 1 1] w fun e w'=>e=.returned (.i 0)∧Eh w g m w':=by
 have l:=k'5 h O N R V;have j0:=T;clear h O N R V;go_enter func163,ntmps163;go_wp2_with fail
 go_loopw [11] (fun i wr=>(i=.i 0∧Bw' w wr)∨(i=.i 1∧Eh w g m wr)) (fun i _=>1-(intOf i).toNat)
 case atStart=>exact .inl ⟨rfl,aL _ _⟩
 case round=>
  rcases hrel with⟨rfl,G⟩|⟨rfl,Z⟩
  .obtain⟨A,cc,K,e0,-,-⟩:=l.b.below G l.c
   cases K;obtain⟨b,o0,K,-,-,U⟩:=dB (P:=prog) 23 MgV.cells fF (by decide) e0 0 (by show 0<1; decide)
   cases K;have l0:Sem.run prog (loadCellsFrom ⟨a,0,none⟩ 0 23 #[]) wr=.ok m.cells.toArray wr:=U 0;obtain⟨j,b0,s2,L,M,-⟩:=fB wr 48 z'7 m.cells rfl (nV l.d.one);have D:=k'2 L (G.on M);have k0:=L.cell 0;change _=some (Value.i m.kind)at k0;clear U L M G;go_wp2_with fail;rw[show (m.kind != 0)=true by simp[T]];clear l0 s2 b0;have p:=k'2 (D.B.on (bR (aL j.heap.size j))) (D.a.below (bR (aL j.heap.size j)) D.a.lt);have HO:=kp (fun(W:World)(b:Below j.drew.heap.size j.drew W)=>aAH m B W (Sl.below l.d (p.a.on b) l.c) (aB l.c (p.a.on b).size) l.E);refine kU 6 (fun W'=>Below j.drew.heap.size j.drew W') (fun _=>rM) (by kernel_rfl) (by kernel_rfl) (aL _ _) ?_
   iterate 4 (refine bO ?_; apply Exists.intro)
   refine bS (MgO j.drew.heap.size m) ?_;refine bS (MgL j.drew.heap.size m) ?_;refine dR ⟨?pers,?walk⟩
   case walk=>
    iterate 4
     apply Sz (by kernel_rfl) (by intro t w h; cases h; exact trivial) rfl
     .intro W' f n; have q1:=(p.B.grow f).load (P:=prog) (k:=23) rfl; go_wp2_with fail;exact⟨rfl,_,rfl,f,aL _ _,rfl⟩
     simp only[Act.put,aN,aH,aI]
    refine⟨fun W' f n=>?_,fun u4=>?_⟩
    .go_wp2_with fail;refine (HO.o W' f).mono ?_;rintro e w2 ⟨v2,rfl,d0,Q⟩;go_wp2_with fail;exact⟨rfl,.agg (m.own v2).cells.toArray,rfl,f.on Q,Q,⟨v2,rfl,Ow.mono d0 f.size⟩⟩
    simp only[Act.put,aN,aH,aI];refine⟨fun W' f n=>?_,fun u5=>?_⟩
    .have f4:=n 22 (bT (by kernel_rfl));obtain⟨ev,rfl,I⟩:=f4;go_wp2_with fail;have z:=eQ (enc:=MgV.cells) W' 48 (m.own ev);have x:=ba' W' (.cells (m.own ev).cells.toArray 48);have r:W'.heap.size<(W'.alloc (.cells (m.own ev).cells.toArray 48)).heap.size:=by simp
     have X:=I.below x;generalize W'.alloc (.cells (m.own ev).cells.toArray 48)=W5 at z x r X ⊢;exact⟨rfl,.slice (some ⟨W'.heap.size,0,none⟩) 1 1,rfl,f.on x,x,⟨W'.heap.size,ev,rfl,r,z,X⟩⟩
    simp only[Act.put,aN,aH,aI];intro W9 f n;have f5:=n 23;obtain⟨F,ev,rfl,m0,a0,J⟩:=f5;clear n;simp only[dO,dP];have y:=p.a.on f;have HA:=kp (aAK (m.own ev) (F+1) W9 (l.a.grow y) a0 J.one);have s:=k'3 J y (l.a.grow y);clear a0 J y f;go_wp2_with fail;refine (HA.o).mono ?_;rintro e g0 ⟨rfl,v,hx,Y,H⟩;have HZ:=kp (show Eh w g m g0 from⟨ev,v,hx,Y.mono s.b.size,(s.a.chg_blk s.C H (by decide)).mono p.a.size,(Chg.of_below (S:=fun i=>i=g) s.b).trans H fun _ _ h=>h⟩);clear hx Y H;go_wp2_with fail;go_roundw
    case rel=>exact .inr ⟨by go_num,HZ.o⟩
    case measure=>simp[intOf]
   case pers=>
    exact⟨pv',pv',pv',pv',fun _ _ _ _ _ ⟨ev,e,h⟩ q=>⟨ev,e,h.below q⟩,fun _ _ _ _ _ ⟨F,ev,e,r,z,I⟩ q=>⟨F,ev,e,eA r q.size,Sl.below z q r,I.below q⟩,trivial⟩
  .have HQ:=kp Z;clear Z;go_wp2_with fail;go_ret;exact⟨rfl,HQ.o⟩
end
section
attribute [-go_sem] loadCellsFrom storeCells
attribute [local go_sem] bC fF
def mX:List Value:=z'7
theorem Nm(w:World)(g b c:Nat)(a:Array Value)(k:TypeId)(h:w.heap[g]? =some (.cells a 48 (0,0)))(f:b+23≤a.size):
  Sem.run prog (Builtin.clear_ #[53] k #[.slice (some ⟨g,b,none⟩) 1 c]) w=.ok (.tuple #[]) (w.setRow g (a.toList.take b++mX++a.toList.drop (b+mX.length)).toArray):=by
 have i:(underlying 53).run prog w=.ok (.slice 48) w:=by simp[run_underlying aBW]
 have j:(zeroValue 48).run prog w=.ok (.agg mX.toArray) w:=by simp[mX]
 have d:=run_storeCells_at prog g b 48 mX 0 a w h (by simpa [mX] using f) (by simp[mX,Value.oneCell']);simp only[cF]at d;have e:(Builtin.zeroCells (Value.agg mX.toArray).cells 1).toList=mX:=by kernel_rfl
 unfold Builtin.clear_;simp only[Sem.run_bind,i,Result.andThen_ok,Ew,aG,j,e,d,Sem.run_pure]
theorem aAM{S:Nat→Prop}{v:Value}{l:List MgV}(i j:Nat)(w:World)(h:OR w S 48 23 v MgV.cells l)(o0:∀u∈aM MgV.cells l,u.oneCell'=true)(W:i<l.length)(L:j=i+1):
  Calls prog 216 #[v,.i i,.i j] w fun e w'=>∃v',e=.returned v'∧OR w' S 48 23 v' MgV.cells (l.eraseIdx i)∧Chg (fun k=>some k=v.ownBlock) w w'∧v'.ownBlock=v.ownBlock:=by
 unfold OR at *;obtain⟨g,m,cap,p,rfl,hs,hg,X,hm,y0,O⟩:=h.form (by omega);obtain⟨n,N⟩:=nm' l.length;rw[N]at W X O h ⊢;have H:=k'7 h hs hg y0 O o0 N;have HJ:=kp L;have Q:=kp (show (l.eraseIdx i).length=n-1 by rw[Oy,N,aE W]);clear h hs hg y0 O o0 N;have a1:((i:Int)==(j:Int))=false:=by simp; omega
 have a2:(j:Int)≤(n:Int):=by omega
 have a3:(n:Int)≤(cap:Int):=by omega
 have a4:(i:Int)≤(cap:Int):=by omega
 have a5:(i:Int)≤(j:Int):=by omega
 obtain⟨i0,l0,e2,z0,g2⟩:=info_parts zF;obtain⟨r,P⟩:=nm' w.drew;have j0:r.heap[g]? =some (.cells p 48 (0,0)):=by rw[←P]; exact H.c
 have a0:Chg (fun k=>some k=(Value.slice (some ⟨g,m,none⟩) n cap).ownBlock) w r:=by rw[←P]; exact (Chg.refl _ _).drew
 have p0:Rd r r.heap.size (some ⟨g,m,none⟩) (aM MgV.cells l):=by rw[←P]; exact H.a.rd
 have B:=k'3 j0 a0 p0; clear j0 a0 p0;have Y:=kp P; clear P;have g0:∀(I F:List Value)(s:World)(q:Array Value),(aM MgV.cells l).drop (j*23)=I→q=(p.toList.take (m+i*23)++I++p.toList.drop (m+i*23+I.length)).toArray→F.length=23→s=(r.setRow g q)→
   m+(n-1)*23+F.length≤q.size∧aO (s.setRow g (q.toList.take (m+(n-1)*23)++F++q.toList.drop (m+(n-1)*23+F.length)).toArray) S 48 23 (.slice (some ⟨g,m,none⟩) (n-1) cap) (n-1) (aM MgV.cells (l.eraseIdx i))∧
    Chg (fun k=>some k=(Value.slice (some ⟨g,m,none⟩) n cap).ownBlock) w (s.setRow g (q.toList.take (m+(n-1)*23)++F++q.toList.drop (m+(n-1)*23+F.length)).toArray):=by
  intro I F s q m0 x j2 y;subst y;have N:I.length=(n-j)*23:=by rw[←m0,dX,eB 23 fF,H.G,iF]
  have d0:cap*23≤p.size-m:=by have:=H.d; omega
  have y1:n*23≤cap*23:=dV _ X;have p1:i*23+23≤n*23:=by have:=dV 23 W; omega
  have q1:j*23=i*23+23:=by rw[L]; omega
  have z1:(n-j)*23=n*23-j*23:=iF ..;have M:(n-1)*23=n*23-23:=by rw[iF]
  have d2:q.size=p.size:=by
   rw[x];simp only[gT,bB,cZ,dX,hP];omega
  have D:=setRow_heap r g p q 48 (0,0) B.a;refine⟨by omega,⟨?_,.inr ⟨g,m,cap,_,rfl,H.b,setRow_heap _ g q _ _ (0,0) D,by omega,hm,?_,?_⟩⟩,?_⟩
  .rw[eB 23 fF,Q.o]
  .simp only[gT,bB,cZ,dX,hP];omega
  .rw[←Cx 23 fF];simp only[cR];rw[nZ (by simp; omega),sQ (by simp; omega),oD,show m+(n-1)*23-m=(n-1)*23 by omega,kN,Nat.min_self];rw[x];simp only[cR];rw[nZ (by simp; omega),qP,oD,show m+i*23-m=i*23 by omega,cZ,dX,hP,
    show min (i*23) (p.size-m)=i*23 by omega,kN,show min ((n-1)*23) (i*23)=i*23 by omega]
   rw[qP,show (n-1)*23-i*23=I.length by omega,Ab,qS,mZ,fS,←m0,L]
   congr 1
   have O:=H.e;rw[←O,kN]
   congr 1
   omega
  .exact (B.b.setRow (.inr (by simp[Value.ownBlock])) _).setRow (.inr (by simp[Value.ownBlock])) _
 have U:=kp g0; clear g0;have b0:∀t u,(aM MgV.cells l)[t]? =some u→r.cell? ⟨g,m+t,none⟩=some u:=by
  intro t u A;rcases B.C with h|⟨b',l2,e,_,hc⟩
  .rw[h]at A; cases A
  .cases e;exact hc t u A
 have d1:=kp b0; clear b0;obtain⟨E,M⟩:=nm' (n-1);rw[M]at U Q;have b1:(E:Int)≤(n:Int):=by omega
 have b2:n-E=1:=by omega
 have b3:¬cap=E:=by omega
 have m1:=kp b2;have V:=kp (show (aM MgV.cells l).length=n*23 by rw[eB 23 fF,H.G]);have o1:=k'2 M b3
 by_cases l1:cap=j
 .subst l1;obtain rfl:n=cap:=by omega
  have Z:i=E:=by omega
  have E0:=kp Z;have T:=kp (show (aM MgV.cells l).drop (n*23)=[] from gS (by rw[V.o]; exact aD _));have R:m+i*23+0≤p.size:=by have:=H.d; omega
  clear L M Z;go_enter func216,ntmps216;go_wp2_with fail
  go_still_tail 6,(by kernel_rfl)
  change wpList _ _ _ _ _ w.drew;rw[Y.o];refine tQ r rfl (.tmp 22) (.tmp 25) _ rfl 48 i0 23 aBW l0 z0 g m i n p B.a rfl ⟨g,m,none⟩ 0 0 [] rfl rfl (by intro j u h; cases h) (by intro u h; cases h) (by omega) R ?_;obtain⟨s,y⟩:=nm' (r.setRow g (p.toList.take (m+i*23)++[]++p.toList.drop (m+i*23+([]:List Value).length)).toArray);rw[y,cF,E0.o];have K:=kp y; clear y;obtain⟨q,x⟩:=nm' ((p.toList.take (m+i*23)++[]++p.toList.drop (m+i*23+([]:List Value).length)).toArray);have z:=U.o [] mX s q T.o x.symm rfl (by rw[←K.o,x]);have D:s.heap[g]? =some (.cells q 48 (0,0)):=by rw[←K.o,x]; exact setRow_heap r g p _ _ _ B.a
  have d0:=fun c=>Nm s g (m+E*23) c q 0 D z.1;simp only[cR]at z;have J:=kp z;clear z D x;go_wp2_with fail;go_ret;refine⟨_,rfl,?_,J.C,rfl⟩;rw[Q.o];exact J.b
 .have j1:=kp (show i+(n-j)=E by omega);have R:m+i*23+((aM MgV.cells l).drop (j*23)).length≤p.size:=by
   rw[dX,V.o];have:=H.d;have h1:n*23≤cap*23:=dV _ X;have h2:i*23≤j*23:=dV _ (by omega);have h3:j*23≤n*23:=dV _ (by omega);omega
  have q0:i+(n-j)≤cap:=by omega
  have T:=kp (show ((aM MgV.cells l).drop (j*23)).length=(n-j)*23 by rw[dX,V.o,iF]);have g1:=kp (show ∀u∈(aM MgV.cells l).drop (j*23),u.oneCell'=true from fun u A=>H.f u (zS A));clear L M;go_enter func216,ntmps216;go_wp2_with fail
  go_still_tail 6,(by kernel_rfl)
  change wpList _ _ _ _ _ w.drew;rw[Y.o];refine tQ r rfl (.tmp 22) (.tmp 25) _ rfl 48 i0 23 aBW l0 z0 g m i cap p B.a rfl ⟨g,m+j*23,none⟩ (n-j) (cap-j) ((aM MgV.cells l).drop (j*23)) rfl T.o ?_ g1.o q0 R ?_
  .intro t u A;rw[Addr.add_lit,oE];exact d1.o _ u (by rw[mG]at A; exact A)
  obtain⟨s,y⟩:=nm' (r.setRow g (p.toList.take (m+i*23)++(aM MgV.cells l).drop (j*23)++p.toList.drop (m+i*23+((aM MgV.cells l).drop (j*23)).length)).toArray);rw[y,j1.o];have K:=kp y; clear y;obtain⟨q,x⟩:=nm' ((p.toList.take (m+i*23)++(aM MgV.cells l).drop (j*23)++p.toList.drop (m+i*23+((aM MgV.cells l).drop (j*23)).length)).toArray);have z:=U.o _ mX s q rfl x.symm rfl (by rw[←K.o,x]);have D:s.heap[g]? =some (.cells q 48 (0,0)):=by rw[←K.o,x]; exact setRow_heap r g p _ _ _ B.a
  have d0:=fun c=>Nm s g (m+E*23) c q 0 D z.1;simp only[cR]at z;have J:=kp z;clear z D x R q0;go_wp2_with fail;go_ret;refine⟨_,rfl,?_,J.C,rfl⟩;rw[Q.o];exact J.b
end
section
attribute [-go_sem] loadCellsFrom storeCells run_eql_struct run_neq_struct
attribute [local go_sem] bC MgV.fold fF
theorem aAN{g B:Nat}{v:Value}(m:MgV)(w:World)(h:Blk w g 273 [v,.i 1])(s:Ow w B 48 23 v MgV.cells [m])(D:m.ev.oneCell'=true):
  Calls prog 164 #[.pointer (some ⟨g,0,none⟩),.i 0] w fun e w'=>e=.returned (.tuple #[.agg m.cells.toArray,.i 0])∧Chg (fun k=>k=g∨v.ownBlock=some k) w w':=by
 obtain⟨b,c,rfl,-,-,Q,-⟩:=s.at_ fF (by decide) (by show 0<1; decide);obtain⟨n,j0,z0,r,Y⟩:=par w 48 z'7;have C:=h.grow r;have G:=s.below r;have a0:=kp (aAJ n C);have q0:n.cell? ⟨g,0,none⟩=some (.slice (some ⟨b,0,none⟩) 1 c):=C.cell 0;obtain⟨A,cc,F,V,-,-⟩:=G.sl fF
 cases F;obtain⟨_,_,F,-,-,T⟩:=dB (P:=prog) 23 MgV.cells fF (by decide) V 0 (by show 0<1; decide)
 cases F;have l0:Sem.run prog (loadCellsFrom ⟨b,0,none⟩ 0 23 #[]) n=.ok m.cells.toArray n:=T 0;obtain⟨O,m0,s1,Z,p,-⟩:=fB n 48 z'7 m.cells rfl (nV D);have K:=C.grow p;have z1:=z0.grow p;have H:=G.below p;have q1:O.cell? ⟨g,0,none⟩=some (.slice (some ⟨b,0,none⟩) 1 c):=K.cell 0;have R:=aAM (S:=fun _=>True) (l:=[m]) 0 1 O (aO.of_own H fun _ _ _=>trivial) (fun u y=>by rw[show aM MgV.cells [m]=m.cells++[] from rfl,fS]at y; exact nV D u y) (by show 0<1; decide) rfl;have HD:=kp R;have HM:=kp (nV D);have j:=k'9 Z K z1 H r p Y h.lt s;have hc:1≤c:=Q;clear C G z0 r V T Z K z1 H p R h s Y Q;go_enter func164,ntmps164;go_wp2_with fail;refine ms' (a0.o) ?_;go_wp2_with fail;refine (HD.o).mono ?_;rintro e z ⟨v2,rfl,x,q,-⟩;have x:OR z (fun _=>True) 48 23 v2 MgV.cells []:=x;obtain⟨N,c2,rfl,-⟩:∃A k,v2=.slice A 0 k∧_:=aO.slice x;have U:(Value.slice (some ⟨b,0,none⟩) 1 c).ownBlock≠some g:=j.d.ne_blk j.b (by decide);have e0:b<w.heap.size:=(j.I.lt rfl).2;have g0:=j.h;have X:=j.g;have E:∀k,w.heap.size≤k→¬some k=(Value.slice (some ⟨b,0,none⟩) 1 c).ownBlock:=fun k hk e=>by
  have e:some k=some b:=e
  cases e;omega
 have L:=j.b.chg q fun e=>U e.symm;have x2:=j.a.chg q (E _ (dY X));have z2:=j.c.chg q (E _ (aD _));have k2:z.cell? ⟨g,0,none⟩=some (.slice (some ⟨b,0,none⟩) 1 c):=L.cell 0;have f2:=L.frozen 0;have c3:=(Chg.refl (fun i=>i=g) z).setCell (.inr rfl) 0 (.slice N 0 c2);have J:=x2.chg c3 (by omega);have M:=z2.chg c3 (by omega);obtain⟨W3,d0⟩:∃W,z.setCell ⟨g,0,none⟩ (.slice N 0 c2)=W:=⟨_,rfl⟩
 rw[d0]at c3 J M;have l3:=J.load (P:=prog) (k:=23) rfl;obtain⟨W4,p0,s4,x4,c4⟩:=M.put m.cells rfl (fun u y=>HM.o u y);have l4:=x4.load (P:=prog) (k:=23) rfl;have HF:=kp (show Chg (fun k=>k=g∨(Value.slice (some ⟨b,0,none⟩) 1 c).ownBlock=some k) w W4 from
  ((((Chg.of_below j.e).trans (Chg.of_below (S:=fun _=>False) j.f) fun _ _ h=>h.elim).trans q fun i _ h=>.inr h.symm).trans c3 fun i _ h=>.inl h).trans c4 fun i hi h=>by omega)
 clear L x2 z2 J M x4 c3 c4 q x E U e0 g0 X q1;go_wp2_with fail;exact aU (v:=.tuple #[.agg m.cells.toArray,.i 0]) (by simp[results,results164,go_sem,l4]) rfl ⟨rfl,HF.o⟩
end
section
attribute [-go_sem] loadCellsFrom storeCells run_eql_struct run_neq_struct
attribute [local go_sem] bC MgV.fold fF
theorem aAT{tl:List Value}{g base:Nat}(p:WkV)(ps:List ObV)(m:MgV)(w:World)(h:WkO w base g 79 tl p ps)(hm:Ow w base 93 11 m.ev En.cells m.es)(T:p.ms.length<1000000)(s:base≤w.heap.size)(R:m.kind≠0)(hl:m.es.length≤1000000):
  Calls prog 113 #[.pointer (some ⟨g,0,none⟩),.agg m.cells.toArray] w fun e w'=>e=.returned (.tuple #[])∧∃ev v',WkO w' base g 79 tl ⟨p.r,p.rs,p.rv,p.ms++[(m.frm p.r.id).own ev],v'⟩ ps∧Chg (fun i=>i=g∨p.mv.ownBlock=some i) w w'∧(∀k,v'.ownBlock=some k→p.mv.ownBlock=some k∨w.heap.size≤k):=by
 obtain⟨Z,m1,V,b1,z1⟩:=par w 48 m.cells;have O:=h.below b1;have q0:=O.blk.cell 0;change _=some (Value.i p.r.id)at q0;have q1:=V.cell 1;have q2:=V.frozen 1;change _=some (Value.i m.src)at q1;have x2:Blk (Z.setCell ⟨w.heap.size,1,none⟩ (.i p.r.id)) w.heap.size 48 (m.frm p.r.id).cells:=V.setCell 1 _;have c2:=(Chg.refl (fun i=>i=w.heap.size) Z).setCell (.inr rfl) 1 (.i p.r.id);have o0:=kp s;obtain⟨J,p0⟩:∃W,Z.setCell ⟨w.heap.size,1,none⟩ (.i p.r.id)=W:=⟨_,rfl⟩
 rw[p0]at x2 c2;have b2:Bw' w J:=b1.trans (c2.below (B:=w.heap.size) (fun i j=>by omega) (by omega));have z:=k'5 x2 b2 h hm (eA z1 c2.size);have HN:=kp T;have HL:=k'2 R hl;have g1:=kp (aAG J);have F:∀ev,((m.frm p.r.id).own ev).es=m.es:=fun _=>rfl;clear h O b1 b2 z1 V x2 c2 hm T s R hl;go_enter func113,ntmps113;go_wp2_with fail;refine (g1.o).mono ?_;rintro e M ⟨rfl,g0,a0⟩;have x3:=z.a.grow a0;have l3:=x3.load (P:=prog) (k:=23) rfl;have aS:=ba' M (.cells (m.frm p.r.id).cells.toArray 48);have s4:=eQ (enc:=MgV.cells) M 48 (m.frm p.r.id);have z4:(M.alloc (.cells (m.frm p.r.id).cells.toArray 48)).heap.size=M.heap.size+1:=by simp
 obtain⟨W4,y0⟩:∃W,M.alloc (.cells (m.frm p.r.id).cells.toArray 48)=W:=⟨_,rfl⟩
 rw[y0]at aS s4 z4;have b0:=z.b.on (a0.on aS);have z0:=(z.d.below b0).sl eL;have j1:=kp (aAL (m.frm p.r.id) W4.heap.size W4 (g0.grow aS) (z4▸s4) (aD _) z0 HL.B HL.a);have I:=k'3 (x3.grow aS) b0 (show J.heap.size<W4.heap.size from eA g0.lt aS.size);clear x3 aS s4 z4 b0 z0 g0 a0;go_wp2_with fail;refine (j1.o).mono ?_;rintro e w5 ⟨rfl,ev,v,j0,m0,e0,d0⟩;have l1:=kp (aAN ((m.frm p.r.id).own ev) w5 j0 m0 e0.one);have l0:J.heap.size≠w.heap.size:=by have:=z.E; omega
 have x5:=I.a.chg d0 (bL l0);have b5:=I.b.trans (d0.below (B:=w.heap.size) (fun i j=>by have:=z.E; omega) I.b.size);have y:=k'5 x5 b5 e0 m0 j0;clear x5 b5 e0 m0 d0 j0 l3 y0;go_wp2_with fail;refine mb' (l1.o) fun w6 Q=>?_;have hv:=fun i j=>(y.d.lt (i:=i) j).1;have e2:=I.b.size;have l0:=z.E;have G:¬(w.heap.size=J.heap.size∨v.ownBlock=some w.heap.size):=fun j=>by
  rcases j with j|j
  .omega
  .have:=hv _ j; have:=I.C; omega
 have x6:=y.a.chg Q G;have b6:=y.b.trans (Q.below (B:=w.heap.size) (fun i j=>by
  rcases j with j|j
  .omega
  .have:=hv _ j; omega) y.b.size)
 have e6:=y.c.chg Q fun i e j=>by
  rcases j with j|j
  .exact y.c.ne_blk y.E (by decide) (j▸e)
  .exact y.c.apt y.d (by decide) i e j
 obtain⟨W7,g2,s7,X,c7⟩:=x6.put ((m.frm p.r.id).own ev).cells rfl (nV (p:=(m.frm p.r.id).own ev) e6.one);have b7:=b6.trans (c7.below (B:=w.heap.size) (fun i j=>by omega) b6.size);have e7:=(e6.chg_blk x6 c7 (by decide)).mono (base2:=base) (aB o0.o I.b.size);have L:=z.c.below b7;have HO:=kp (fun i j=>(z.c.ms.lt (i:=i) j).2);have d1:=kp (show ¬p.mv.ownBlock=some w.heap.size from fun j=>absurd (z.c.ms.lt j).2 (wH _));have F:∃l,(m.frm p.r.id).own ev=l:=⟨_,rfl⟩
 obtain⟨l,F⟩:=F;rw[F]at X s7 ⊢;rw[show ev=l.ev from F▸rfl,show (m.frm p.r.id).es=l.es from F▸rfl]at e7;have n:=k'4 L b7 X e7;have a1:=kp F;have N:=kp (fun W(f:Chg (fun i=>p.mv.ownBlock=some i) W7 W∧Ow W base 48 23 p.mv MgV.cells p.ms)=>jQ (L.blk.chg f.1 (L.ms.ne_blk L.blk (by decide))) (X.chg f.1 d1.o));clear x6 b6 e6 X c7 b7 e7 L G l0 e2 hv Q F q0 q1 q2 m1 p0;go_wp2_with fail;refine kU 12 (fun W=>Chg (fun i=>p.mv.ownBlock=some i) W7 W∧Ow W base 48 23 p.mv MgV.cells p.ms) (kD 8 fun i=>p.mv.ownBlock=some i) (by kernel_rfl) (by kernel_rfl) ⟨(Chg.refl _ _).drew,n.a.ms.below (bR (aL _ _))⟩ ?_
 iterate 7 (refine bO ?_; apply Exists.intro)
 refine bS (fun u W=>∃b,u=.slice (some ⟨b,0,none⟩) 1 1∧(b<W.heap.size∧p.mv.ownBlock≠some b)∧Sl W (b+1) u MgV.cells [l]) ?_;refine bS (fun u W=>Ow W base 48 23 u MgV.cells (p.ms++[l])∧∀k,u.ownBlock=some k→p.mv.ownBlock=some k∨w.heap.size≤k) ?_
 iterate 3 (refine bO ?_; apply Exists.intro)
 refine dR ⟨?pers,?walk⟩
 case walk=>
  iterate 5
   apply Sz (by kernel_rfl) (by intro t w h; cases h; exact trivial) rfl
   .intro W f A; go_wp2_with fail;exact⟨rfl,_,rfl,f,fQ (by decide) (aL _ _),rfl⟩
   simp only[Act.put,aN,aH,aI]
  apply Sz (by kernel_rfl) (by intro t w h; cases h; exact trivial) rfl
  .intro W f A; have q:=(N.o W f).1.cell 27; rw[zG]at q; go_wp2_with fail;exact⟨rfl,_,rfl,f,fQ (by decide) (aL _ _),rfl⟩
  simp only[Act.put,aN,aH,aI];apply Sz (by kernel_rfl) (by intro t w h; cases h; exact trivial) rfl
  .intro W f A; have q:=(N.o W f).2.load (P:=prog) (k:=23) rfl; go_wp2_with fail;exact⟨rfl,_,rfl,f,fQ (by decide) (aL _ _),rfl⟩
  simp only[Act.put,aN,aH,aI];refine⟨fun W f A=>?_,fun u7=>?_⟩
  .go_wp2_with fail;have U:=eQ (enc:=MgV.cells) W 48 (l);have hc:=jQ (f.1.alloc (.cells (l).cells.toArray 48)) (f.2.alloc (.cells (l).cells.toArray 48));have H:=fQ (e:=8) (k:=7) (S:=fun i=>p.mv.ownBlock=some i) (by decide) (ba' W (.cells (l).cells.toArray 48));have s:W.heap.size<(W.alloc (.cells (l).cells.toArray 48)).heap.size:=by simp
   have T:¬p.mv.ownBlock=some W.heap.size:=fun he=>by have:=(f.2.lt he).2; omega
   generalize W.alloc (.cells (l).cells.toArray 48)=W' at U hc H s ⊢;exact⟨rfl,_,rfl,hc,H,_,rfl,⟨s,T⟩,U⟩
  simp only[Act.put,aN,aH,aI];refine⟨fun W f A=>?_,fun u8=>?_⟩
  .have f7:=A 32 (bT (by kernel_rfl));obtain⟨b,rfl,j2,d2⟩:=f7;have o1:base≤W.heap.size:=aB o0.o (aB n.b.size f.1.size);have l2:=(n.a.mse)
   go_wp2_with (at_builtin; refine mO (enc:=MgV.cells) W rfl (.tmp 30) (.tmp 32) 53 rfl base 48 zF aBW rfl (by omega) fF f.2 rfl d2 rfl (fun a ha=>by rw[bQ.1 ha]; exact nV (p:=l) (Ow.one n.D)) ?_ ?_ o1 ?_)
   .have:=HN.o; unfold maxLen; show p.ms.length+1≤_; omega
   .have:=HN.o; show (p.ms.length+1)*208≤_; omega
   intro v' W3 ho a2 hg p1;exact⟨rfl,_,rfl,⟨f.1.trans (fZ hg) (fun _ _ h=>h),a2⟩,rK (fZ hg),ho,fun k R=>(p1 k R).imp id (aB (aB n.b.size f.1.size))⟩
  simp only[Act.put,aN,aH,aI]
  iterate 3
   apply Sz (by kernel_rfl) (by intro t w h; cases h; exact trivial) rfl
   .intro W f A; go_wp2_with fail;exact⟨rfl,_,rfl,f,fQ (by decide) (aL _ _),rfl⟩
   simp only[Act.put,aN,aH,aI]
  intro W f A;have K:=A 33;obtain⟨K,f9⟩:=K;have q:=(N.o W f).1.cell 27;have qf:=(N.o W f).1.frozen 27;rw[zG]at q;have hw:=n.a.told (.inl rfl) f.1 K (fun x G=>by
   rcases dF.1 G with G|G
   .exact (n.a.mse x G).chg_row n.a.ms f.1 (by decide)
   .rw[bQ.1 G];exact (n.D).chg_row n.a.ms f.1 (by decide))
  have Y:=kp hw;have H9:=kp f9;obtain⟨A8,c8,rfl,_,_⟩:=eD K;rw[bB,uC]at Y H9;clear A f K f9 hw;go_wp2_with fail;go_end0;refine⟨rfl,ev,_,a1.o▸Y.a,?_,H9.o⟩;exact (Chg.of_below n.b).trans Y.B fun _ _ h=>h
 case pers=>
  refine⟨pv',pv',pv',pv',pv',pv',pv',?_,?_,pv',pv',pv',trivial⟩
  .rintro i u W W' _ ⟨b,rfl,s,U⟩ H;exact⟨b,rfl,⟨eA s.1 (nO H).size,s.2⟩,vK U (nO H) s.2 s.1⟩
  .rintro i u W W' y1 ⟨O,h2⟩ H;exact⟨O.below (rL H y1),h2⟩
theorem aAU{A:List Value}{g base:Nat}(p:WkV)(ps:List ObV)(m:MgV)(w:World)(h:WkO w base g 79 A p ps)(y:Ow w base 93 11 m.ev En.cells m.es)(z:p.ms.length<1000000)(s:base≤w.heap.size)(b:m.kind≠0)(x:m.es.length≤1000000):
  Calls prog 63 #[.pointer (some ⟨g,0,none⟩),.agg m.cells.toArray] w fun e C=>e=.returned (.tuple #[])∧∃ev v',WkO C base g 79 A ⟨p.r,p.rs,p.rv,p.ms++[((m.seen p.r.k.view).frm p.r.id).own ev],v'⟩ ps∧Chg (fun i=>i=g∨p.mv.ownBlock=some i) w C∧(∀k,v'.ownBlock=some k→p.mv.ownBlock=some k∨w.heap.size≤k):=by
 obtain⟨d,M,c,f,L⟩:=par w 48 m.cells;have q:=h.below f;have I:=q.blk.cell 2;change _=some (Value.i p.r.k.view)at I;have J:=c.cell 3;have O:=c.frozen 3;change _=some (Value.i m.view)at J;have j:Blk (d.setCell ⟨w.heap.size,3,none⟩ (.i p.r.k.view)) w.heap.size 48 (m.seen p.r.k.view).cells:=c.setCell 3 _;have c2:=(Chg.refl (fun i=>i=w.heap.size) d).setCell (.inr rfl) 3 (.i p.r.k.view);obtain⟨n,E⟩:∃W,d.setCell ⟨w.heap.size,3,none⟩ (.i p.r.k.view)=W:=⟨_,rfl⟩
 rw[E]at j c2;have a:Bw' w n:=f.trans (c2.below (B:=w.heap.size) (fun i N=>by omega) (by omega));have l2:=j.load (P:=prog) (k:=23) rfl;have D:=kp (aAT p ps (m.seen p.r.k.view) n (h.below a) (y.below a) z (aB s a.size) b x);have l:=kp a;clear h q f a L c j c2 y z s b x;go_enter func63,ntmps63;go_wp2_with fail;refine (D.o).mono ?_;rintro e Q ⟨rfl,ev,K,H,F,G⟩;go_wp2_with fail;go_end0;exact⟨rfl,ev,K,H,(Chg.of_below l.o).trans F fun _ _ h=>h,fun k b=>(G k b).imp id (aB l.o.size)⟩
end
section
attribute [-go_sem] loadCellsFrom storeCells run_eql_struct run_neq_struct Instr.build
attribute [local go_sem] bC
theorem Ow.fresh1(w:World)(i:Int):Ow (w.alloc (.cells #[.i i] 3)) w.heap.size 3 1 (.slice (some ⟨w.heap.size,0,none⟩) 1 1) i1 [i]:=
 ⟨rfl,.inr ⟨_,1,_,rfl,aD _,Blk.new w 3 [.i i],aD _,by decide,rfl,rfl⟩⟩
def nY(v:Int):RcV:=⟨1,v,0,0,⟨#[]⟩,Cn,[],.slice none 0 0⟩
def Ej(k:Int):MgV:=⟨k,0,0,0,0,0,0,0,[],.slice none 0 0,0,0,⟨#[]⟩,0,pV,0,0,false⟩
theorem Nt(v:Int)(w:World):(Instr.build 101 #[(0,.i 1),(1,.i v)]).run prog w=.ok (.agg (nY v).cells.toArray) w:=run_build w _ _ _ (by kernel_rfl)
theorem Nu(k:Int)(w:World):(Instr.build 48 #[(0,.i k)]).run prog w=.ok (.agg (Ej k).cells.toArray) w:=run_build w _ _ _ (by kernel_rfl)
attribute [local go_sem] Nt Nu
def RpV.started(r:RpV)(sv:Value):RpV:=⟨r.id,r.nodes,r.k,r.commit,r.s,r.timer,[r.id],sv,r.votes,r.vv,r.acks,r.av,r.part⟩
theorem WkO.start{w:World}{base g:Nat}{t:TypeId}{e:List Value}{p:WkV}{ps:List ObV}(h:WkO w base g t e p ps)(k:qG t)(f:base≤w.heap.size):
  ∃b c,w.alloc (.cells #[.i p.r.id] 3)=b∧b.setCell ⟨g,18,none⟩ (.slice (some ⟨w.heap.size,0,none⟩) 1 1)=c∧b.cell? ⟨g,18,none⟩=some p.r.sv∧b.frozen? ⟨g,18,none⟩=false∧
   WkO c base g t e ⟨p.r.started (.slice (some ⟨w.heap.size,0,none⟩) 1 1),p.rs,p.rv,p.ms,p.mv⟩ ps∧Chg (fun i=>i=g) w c:=by
 have d:=ba' w (.cells #[.i p.r.id] 3);have a:=h.below d;have c1:=(Chg.refl (fun i=>i=g) (w.alloc (.cells #[.i p.r.id] 3))).setCell (.inr rfl) 18 (.slice (some ⟨w.heap.size,0,none⟩) 1 1);have l:=a.blk.setCell 18 (.slice (some ⟨w.heap.size,0,none⟩) 1 1);have j:RpO (w.alloc (.cells #[.i p.r.id] 3)) base (p.r.started (.slice (some ⟨w.heap.size,0,none⟩) 1 1)) ps:=⟨a.rep.es,a.rep.st,(Ow.fresh1 w p.r.id).mono f,a.rep.votes,a.rep.ves,a.rep.acks⟩
 exact⟨_,_,rfl,rfl,a.blk.cell 18,a.blk.frozen 18,a.put k l c1 j,(Chg.of_below d).trans c1 fun _ _ h=>h⟩
end
end Go.Proofs.YthalbagblhkeaaaGreat
