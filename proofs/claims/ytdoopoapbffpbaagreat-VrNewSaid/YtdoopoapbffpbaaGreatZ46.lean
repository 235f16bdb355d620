import Derived.Test.YtdoopoapbffpbaaGreatZ43
import Derived.Test.YtdoopoapbffpbaaGreatZ45
namespace Go.Proofs.YtdoopoapbffpbaaGreat
open Go.RowKit Go.Proofs.Tryz
set_option maxRecDepth 100000
set_option maxHeartbeats 12800000
set_option linter.unusedVariables false
set_option linter.unusedSimpArgs false
section
attribute [-go_sem] loadCellsFrom storeCells run_eql_struct run_neq_struct Instr.build
attribute [local go_sem] bC VoV.fold
structure WkV where
 (r:RpV) (rs:List RcV) (rv:Value) (ms:List MgV) (mv:Value)
def WkV.cells(p:WkV)(tl:List Value):List Value:=p.r.cells++([p.rv,p.mv]++tl)
structure WkO(w:World)(base g:Nat)(t:TypeId)(tl:List Value)(p:WkV)(ps:List ObV):Prop where
 blk:Blk w g t (p.cells tl)
 lo:base≤g
 rep:RpO w base p.r ps
 rs:Ow w base 48 17 p.rv RcV.cells p.rs
 rse:∀x∈p.rs,Ow w base 46 11 x.ev En.cells x.es
 ms:Ow w base 55 23 p.mv MgV.cells p.ms
 mse:∀x∈p.ms,Ow w base 46 11 x.ev En.cells x.es
def qG(t:TypeId):Prop:=t=109∨t=117
section
variable {w w':World}{base g b:Nat}{t t2:TypeId}{tl cs:List Value}{p:WkV}{ps:List ObV}
theorem WkO.below(h:WkO w base g t tl p ps)(a:Bw' w w'):WkO w' base g t tl p ps:=⟨h.blk.grow a,h.lo,h.rep.below a,h.rs.below a,fun x b=>(h.rse x b).below a,h.ms.below a,fun x b=>(h.mse x b).below a⟩
theorem WkO.put{r:RpV}{d:List ObV}(h:WkO w base g t tl p ps)(b:qG t)(e:Blk w' g t (WkV.cells ⟨r,p.rs,p.rv,p.ms,p.mv⟩ tl))(a:Chg (fun i=>i=g) w w')(f:RpO w base r d):WkO w' base g t tl ⟨r,p.rs,p.rv,p.ms,p.mv⟩ d:=by
 refine⟨e,h.lo,f.chg h.blk a (by rcases b with rfl|rfl<;>decide),h.rs.chg_blk h.blk a (by rcases b with rfl|rfl<;>decide),fun x c=>(h.rse x c).chg_blk h.blk a (by rcases b with rfl|rfl<;>decide),h.ms.chg_blk h.blk a (by rcases b with rfl|rfl<;>decide),fun x c=>(h.mse x c).chg_blk h.blk a (by rcases b with rfl|rfl<;>decide)⟩
end
def RpV.settled(r:RpV):RpV:=⟨r.id,r.nodes,r.k,r.commit,r.s,0,[],.slice none 0 0,[],.slice none 0 0,[],.slice none 0 0,jL⟩
theorem RpO.settled{w:World}{base:Nat}{r:RpV}{ps:List ObV}(h:RpO w base r ps):RpO w base r.settled ps:=⟨h.es,h.st,Ow.nil _ _ _ _ _,Ow.nil _ _ _ _ _,fun _ h=>(nomatch h),Ow.nil _ _ _ _ _⟩
theorem WkO.settle{w:World}{base g:Nat}{t:TypeId}{tl:List Value}{p:WkV}{ps:List ObV}(h:WkO w base g t tl p ps)(l:qG t):
  ∃b c k a d,w.setCell ⟨g,18,none⟩ (.slice none 0 0)=b∧b.setCell ⟨g,19,none⟩ (.slice none 0 0)=c∧c.setCell ⟨g,20,none⟩ (.slice none 0 0)=k∧Sem.run prog (storeCells ⟨g,21,none⟩ jL.cells 0) k=.ok () a∧a.setCell ⟨g,17,none⟩ (.i 0)=d∧
   (w.cell? ⟨g,18,none⟩=some p.r.sv∧w.frozen? ⟨g,18,none⟩=false)∧(b.cell? ⟨g,19,none⟩=some p.r.vv∧b.frozen? ⟨g,19,none⟩=false)∧(c.cell? ⟨g,20,none⟩=some p.r.av∧c.frozen? ⟨g,20,none⟩=false)∧(a.cell? ⟨g,17,none⟩=some (.i p.r.timer)∧a.frozen? ⟨g,17,none⟩=false)∧
   WkO d base g t tl ⟨p.r.settled,p.rs,p.rv,p.ms,p.mv⟩ ps∧Chg (fun i=>i=g) w d:=by
 have e:=h.blk.setCell 18 (.slice none 0 0);have f:=e.setCell 19 (.slice none 0 0);have n:=f.setCell 20 (.slice none 0 0);obtain⟨a,q,m,j,c4⟩:=n.off 21 jL.cells _ rfl (by show 21+5≤((((p.cells tl).set 18 _).set 19 _).set 20 _).length; simp[WkV.cells,RpV.cells,KpV.cells,StV.cells,HpV.cells,Pt.cells]) (Dh jL);have o:=j.setCell 17 (.i 0);have c5:=((((Chg.refl (fun i=>i=g) w).setCell (.inr rfl) 18 (.slice none 0 0)).setCell (.inr rfl) 19 (.slice none 0 0)).setCell (.inr rfl) 20 (.slice none 0 0)).trans (c4.setCell (.inr rfl) 17 (.i 0)) fun _ _ h=>h;exact⟨_,_,_,a,_,rfl,rfl,rfl,m,rfl,⟨h.blk.cell 18,h.blk.frozen 18⟩,⟨e.cell 19,e.frozen 19⟩,⟨f.cell 20,f.frozen 20⟩,⟨j.cell 17,j.frozen 17⟩,h.put l o c5 h.rep.settled,c5⟩
theorem aAA{tl:List Value}{g base:Nat}(p:WkV)(ps:List ObV)(w:World)(h:WkO w base g 117 tl p ps):
  Calls prog 112 #[.pointer (some ⟨g,0,none⟩)] w fun e w'=>e=.returned (.tuple #[])∧WkO w' base g 117 tl ⟨p.r.settled,p.rs,p.rv,p.ms,p.mv⟩ ps∧Chg (fun i=>i=g) w w':=by
 obtain⟨f,j,k,l,m,x,y,z,A,C,n,o,q,s,d,c⟩:=h.settle (.inr rfl);have b:=k'2 d c;clear d c h;go_enter func112,ntmps112;go_wp2_with fail;go_end0;exact⟨rfl,b.a,b.B⟩
theorem aAB{tl:List Value}{g base:Nat}(p:WkV)(ps:List ObV)(w:World)(h:WkO w base g 109 tl p ps):
  Calls prog 108 #[.pointer (some ⟨g,0,none⟩)] w fun e w'=>e=.returned (.tuple #[])∧WkO w' base g 109 tl ⟨p.r.settled,p.rs,p.rv,p.ms,p.mv⟩ ps∧Chg (fun i=>i=g) w w':=by
 obtain⟨f,j,k,l,m,x,y,z,A,C,n,o,q,s,d,c⟩:=h.settle (.inl rfl);have b:=k'2 d c;clear d c h;go_enter func108,ntmps108;go_wp2_with fail;go_end0;exact⟨rfl,b.a,b.B⟩
theorem aAC{tl:List Value}{g base:Nat}(p:WkV)(ps:List ObV)(w:World)(h:WkO w base g 117 tl p ps)(c:0≤p.r.k.base∧p.r.k.base≤900000000)(f:p.r.k.es.length≤1000000):
  Calls prog 62 #[.pointer (some ⟨g,0,none⟩)] w fun e w'=>e=.returned (.i p.r.k.x.last)∧Bw' w w':=by
 have i:=h.blk.loadOff (P:=prog) 2 5 p.r.k.cells rfl rfl;have a:=kp (fun W(b:Bw' w W)=>rN.2 p.r.k W w.heap.size (h.rep.rpAt.1.below b (aD _)) c f);clear h;go_enter func62,ntmps62;go_wp2_with fail;refine mb' (a.o _ (aL _ _)) fun j d=>?_;go_wp2_with fail;go_ret;exact⟨rfl,d⟩
theorem aAD{tl:List Value}{g base:Nat}(p:WkV)(ps:List ObV)(w:World)(h:WkO w base g 109 tl p ps)(c:0≤p.r.k.base∧p.r.k.base≤900000000)(f:p.r.k.es.length≤1000000):
  Calls prog 59 #[.pointer (some ⟨g,0,none⟩)] w fun e w'=>e=.returned (.i p.r.k.x.last)∧Bw' w w':=by
 have i:=h.blk.loadOff (P:=prog) 0 26 p.r.cells rfl rfl;have a:=kp (fun W(b:Bw' w W)=>Di p.r W w.heap.size (h.rep.rpAt.1.below b (aD _)) c f);clear h;go_enter func59,ntmps59;go_wp2_with fail;refine mb' (a.o _ (aL _ _)) fun j d=>?_;go_wp2_with fail;go_ret;exact⟨rfl,d⟩
end
section
attribute [-go_sem] loadCellsFrom storeCells run_eql_struct run_neq_struct
attribute [local go_sem] bC
theorem MgV.fold(p:MgV):List.foldl (fun(a:Array Value)(x:Value×Nat)=>a.setIfInBounds x.snd x.fst) z'7a p.cells.zipIdx=p.cells.toArray:=by
 simp[MgV.cells,Opn.cells]
attribute [local go_sem] MgV.fold fF
theorem zF:(prog.info? 55).map (fun i=>(i.zero,i.size,i.bytes))=some (some (.agg zD.cells.toArray),23,208):=by kernel_rfl
section
variable {w w':World}{base g:Nat}{t:TypeId}{tl:List Value}{p:WkV}{ps:List ObV}
theorem RpO.row{r:RpV}{d:List ObV}{α:Type}{enc:α→List Value}{k:Nat}{v:Value}{l:List α}(h:RpO w base r d)(c:Ow w base t k v enc l)(b:Chg (fun i=>v.ownBlock=some i) w w')(a:t≠90∧t≠88∧t≠3∧t≠86∧t≠46∧t≠84∧t≠92):RpO w' base r d:=
 ⟨h.es.chg_row c b a.2.2.2.2.1,h.st.chg_row c b a.1 a.2.1 a.2.2.1 a.2.2.2.1,h.starts.chg_row c b a.2.2.1,h.votes.chg_row c b a.2.2.2.2.2.1,fun v e=>(h.ves v e).chg_row c b a.2.2.2.2.1,h.acks.chg_row c b a.2.2.2.2.2.2⟩
theorem WkO.told{v':Value}{l':List MgV}(h:WkO w base g t tl p ps)(a:qG t)(c:Chg (fun i=>p.mv.ownBlock=some i) w w')(l:Ow w' base 55 23 v' MgV.cells l')(k:∀x∈l',Ow w' base 46 11 x.ev En.cells x.es):
  WkO (w'.setCell ⟨g,27,none⟩ v') base g t tl ⟨p.r,p.rs,p.rv,l',v'⟩ ps∧Chg (fun i=>i=g∨p.mv.ownBlock=some i) w (w'.setCell ⟨g,27,none⟩ v'):=by
 have b:=h.blk.chg c (h.ms.ne_blk h.blk (by rcases a with rfl|rfl<;>decide));have f:Blk (w'.setCell ⟨g,27,none⟩ v') g t (WkV.cells ⟨p.r,p.rs,p.rv,l',v'⟩ tl):=b.setCell 27 v';have m:=h.rep.row h.ms c (by decide);have o:=h.rs.chg_row h.ms c (by decide);have n:=fun x e=>(h.rse x e).chg_row h.ms c (by decide);have d:=(Chg.refl (fun i=>i=g) w').setCell (.inr rfl) 27 v';refine⟨⟨f,h.lo,m.chg b d (by rcases a with rfl|rfl<;>decide),o.chg_blk b d (by rcases a with rfl|rfl<;>decide),fun x e=>(n x e).chg_blk b d (by rcases a with rfl|rfl<;>decide),l.chg_blk b d (by rcases a with rfl|rfl<;>decide),fun x e=>(k x e).chg_blk b d (by rcases a with rfl|rfl<;>decide)⟩,(c.mono fun i _ j=>.inr j).setCell (.inr (.inl rfl)) 27 v'⟩
end
def MgV.frm(p:MgV)(i:Int):MgV:=⟨p.kind,i,p.dst,p.view,p.normal,p.number,p.base,p.commit,p.es,p.ev,p.offset,p.total,p.data,p.seq,p.op,p.code,p.value,p.ok⟩
def MgV.seen(p:MgV)(i:Int):MgV:=⟨p.kind,p.src,p.dst,i,p.normal,p.number,p.base,p.commit,p.es,p.ev,p.offset,p.total,p.data,p.seq,p.op,p.code,p.value,p.ok⟩
theorem zG(p:WkV)(tl:List Value):(p.cells tl)[27]? =some p.mv:=rfl
theorem aAE{tl:List Value}{g base:Nat}(p:WkV)(ps:List ObV)(m:MgV)(w:World)(h:WkO w base g 117 tl p ps)(U:Ow w base 46 11 m.ev En.cells m.es)(F:p.ms.length<1000000)(f:base≤w.heap.size):
  Calls prog 161 #[.pointer (some ⟨g,0,none⟩),.agg m.cells.toArray] w fun e w'=>e=.returned (.tuple #[])∧∃v',WkO w' base g 117 tl ⟨p.r,p.rs,p.rv,p.ms++[m.frm p.r.id],v'⟩ ps∧Chg (fun i=>i=g∨p.mv.ownBlock=some i) w w'∧(∀k,v'.ownBlock=some k→p.mv.ownBlock=some k∨w.heap.size≤k):=by
 obtain⟨K,j0,H,M,z1⟩:=par w 55 m.cells;have C:=h.below M;have q0:=C.blk.cell 0;change _=some (Value.i p.r.id)at q0;have q1:=H.cell 1;have q2:=H.frozen 1;change _=some (Value.i m.src)at q1;have I:Blk (K.setCell ⟨w.heap.size,1,none⟩ (.i p.r.id)) w.heap.size 55 (m.frm p.r.id).cells:=H.setCell 1 _;have c2:=(Chg.refl (fun i=>i=w.heap.size) K).setCell (.inr rfl) 1 (.i p.r.id);have X:=kp f;obtain⟨L,Z⟩:∃W,K.setCell ⟨w.heap.size,1,none⟩ (.i p.r.id)=W:=⟨_,rfl⟩
 rw[Z]at I c2;have A:Bw' w L:=M.trans (c2.below (B:=w.heap.size) (fun i E=>by omega) (by omega));have l:=h.below A;have d:=k'4 l A I (U.below A);have HO:=kp (fun i E=>(h.ms.lt (i:=i) E).2);have z:=kp (fun W(c:Chg (fun i=>p.mv.ownBlock=some i) L W∧Ow W base 55 23 p.mv MgV.cells p.ms)=>jQ (l.blk.chg c.1 (l.ms.ne_blk l.blk (by decide))) (I.chg c.1 fun E=>by have:=(h.ms.lt E).2; omega));have O:=kp F;clear h C l M A z1 H I c2 U F f;go_enter func161,ntmps161;go_wp2_with fail;refine kU 12 (fun W=>Chg (fun i=>p.mv.ownBlock=some i) L W∧Ow W base 55 23 p.mv MgV.cells p.ms) (kD 8 fun i=>p.mv.ownBlock=some i) (by kernel_rfl) (by kernel_rfl) ⟨(Chg.refl _ _).drew,d.a.ms.below (bR (aL _ _))⟩ ?_
 iterate 7 (refine bO ?_; apply Exists.intro)
 refine bS (fun u W=>∃b,u=.slice (some ⟨b,0,none⟩) 1 1∧(b<W.heap.size∧p.mv.ownBlock≠some b)∧Sl W (b+1) u MgV.cells [m.frm p.r.id]) ?_;refine bS (fun u W=>Ow W base 55 23 u MgV.cells (p.ms++[m.frm p.r.id])∧∀k,u.ownBlock=some k→p.mv.ownBlock=some k∨w.heap.size≤k) ?_
 iterate 3 (refine bO ?_; apply Exists.intro)
 refine dR ⟨?pers,?walk⟩
 case walk=>
  iterate 5
   apply Sz (by kernel_rfl) (by intro t w h; cases h; exact trivial) rfl
   .intro W c j; go_wp2_with fail;exact⟨rfl,_,rfl,c,fQ (by decide) (aL _ _),rfl⟩
   simp only[Act.put,aN,aH,aI]
  apply Sz (by kernel_rfl) (by intro t w h; cases h; exact trivial) rfl
  .intro W c j; have q:=(z.o W c).1.cell 27; rw[zG]at q; go_wp2_with fail;exact⟨rfl,_,rfl,c,fQ (by decide) (aL _ _),rfl⟩
  simp only[Act.put,aN,aH,aI];apply Sz (by kernel_rfl) (by intro t w h; cases h; exact trivial) rfl
  .intro W c j; have q:=(z.o W c).2.load (P:=prog) (k:=23) rfl; go_wp2_with fail;exact⟨rfl,_,rfl,c,fQ (by decide) (aL _ _),rfl⟩
  simp only[Act.put,aN,aH,aI];refine⟨fun W c j=>?_,fun u7=>?_⟩
  .go_wp2_with fail;have G:=eQ (enc:=MgV.cells) W 55 (m.frm p.r.id);have R:=jQ (c.1.alloc (.cells (m.frm p.r.id).cells.toArray 55)) (c.2.alloc (.cells (m.frm p.r.id).cells.toArray 55));have n:=fQ (e:=8) (k:=7) (S:=fun i=>p.mv.ownBlock=some i) (by decide) (ba' W (.cells (m.frm p.r.id).cells.toArray 55));have f:W.heap.size<(W.alloc (.cells (m.frm p.r.id).cells.toArray 55)).heap.size:=by simp
   have F:¬p.mv.ownBlock=some W.heap.size:=fun he=>by have:=(c.2.lt he).2; omega
   generalize W.alloc (.cells (m.frm p.r.id).cells.toArray 55)=W' at G R n f ⊢;exact⟨rfl,_,rfl,R,n,_,rfl,⟨f,F⟩,G⟩
  simp only[Act.put,aN,aH,aI];refine⟨fun W c j=>?_,fun u8=>?_⟩
  .have Y:=j 17 (bT (by kernel_rfl));obtain⟨b,rfl,l0,g0⟩:=Y;have a0:base≤W.heap.size:=aB X.o (aB d.b.size c.1.size);have m0:=(d.a.mse)
   go_wp2_with (at_builtin; refine mO (enc:=MgV.cells) W rfl (.tmp 15) (.tmp 17) 62 rfl base 55 zF wS rfl (by omega) fF c.2 rfl g0 rfl (fun a ha=>by rw[bQ.1 ha]; exact nV (p:=m.frm p.r.id) (Ow.one d.D)) ?_ ?_ a0 ?_)
   .have:=O.o; unfold maxLen; show p.ms.length+1≤_; omega
   .have:=O.o; show (p.ms.length+1)*208≤_; omega
   intro v' W3 ho e0 T b0;exact⟨rfl,_,rfl,⟨c.1.trans (fZ T) (fun _ _ h=>h),e0⟩,rK (fZ T),ho,fun k hk=>(b0 k hk).imp id (aB (aB d.b.size c.1.size))⟩
  simp only[Act.put,aN,aH,aI]
  iterate 3
   apply Sz (by kernel_rfl) (by intro t w h; cases h; exact trivial) rfl
   .intro W c j; go_wp2_with fail;exact⟨rfl,_,rfl,c,fQ (by decide) (aL _ _),rfl⟩
   simp only[Act.put,aN,aH,aI]
  intro W c j;have s:=j 18;obtain⟨s,Q⟩:=s;have q:=(z.o W c).1.cell 27;have qf:=(z.o W c).1.frozen 27;rw[zG]at q;have V:=d.a.told (.inr rfl) c.1 s (fun x y=>by
   rcases dF.1 y with y|y
   .exact (d.a.mse x y).chg_row d.a.ms c.1 (by decide)
   .rw[bQ.1 y];exact (d.D).chg_row d.a.ms c.1 (by decide))
  have J:=kp V;have N:=kp Q;obtain⟨A8,c8,rfl,_,_⟩:=eD s;rw[bB,uC]at J N;clear j c s Q V;go_wp2_with fail;go_end0;refine⟨rfl,_,J.a,?_,N.o⟩;exact (Chg.of_below d.b).trans J.B fun _ _ h=>h
 case pers=>
  refine⟨pv',pv',pv',pv',pv',pv',pv',?_,?_,pv',pv',pv',trivial⟩
  .rintro i u W W' _ ⟨b,rfl,f,G⟩ n;exact⟨b,rfl,⟨eA f.1 (nO n).size,f.2⟩,vK G (nO n) f.2 f.1⟩
  .rintro i u W W' d0 ⟨C,l⟩ n;exact⟨C.below (rL n d0),l⟩
theorem aAF{tl:List Value}{g base:Nat}(p:WkV)(ps:List ObV)(m:MgV)(w:World)(h:WkO w base g 117 tl p ps)(s:Ow w base 46 11 m.ev En.cells m.es)(x:p.ms.length<1000000)(q:base≤w.heap.size):
  Calls prog 109 #[.pointer (some ⟨g,0,none⟩),.agg m.cells.toArray] w fun e w'=>e=.returned (.tuple #[])∧∃v',WkO w' base g 117 tl ⟨p.r,p.rs,p.rv,p.ms++[(m.seen p.r.k.view).frm p.r.id],v'⟩ ps∧Chg (fun i=>i=g∨p.mv.ownBlock=some i) w w'∧(∀k,v'.ownBlock=some k→p.mv.ownBlock=some k∨w.heap.size≤k):=by
 obtain⟨c,J,b,d,I⟩:=par w 55 m.cells;have n:=h.below d;have F:=n.blk.cell 2;change _=some (Value.i p.r.k.view)at F;have G:=b.cell 3;have L:=b.frozen 3;change _=some (Value.i m.view)at G;have f:Blk (c.setCell ⟨w.heap.size,3,none⟩ (.i p.r.k.view)) w.heap.size 55 (m.seen p.r.k.view).cells:=b.setCell 3 _;have c2:=(Chg.refl (fun i=>i=w.heap.size) c).setCell (.inr rfl) 3 (.i p.r.k.view);obtain⟨l,z⟩:∃W,c.setCell ⟨w.heap.size,3,none⟩ (.i p.r.k.view)=W:=⟨_,rfl⟩
 rw[z]at f c2;have a:Bw' w l:=d.trans (c2.below (B:=w.heap.size) (fun i K=>by omega) (by omega));have l2:=f.load (P:=prog) (k:=23) rfl;have y:=kp (aAE p ps (m.seen p.r.k.view) l (h.below a) (s.below a) x (aB q a.size));have j:=kp a;clear h n d a I b f c2 s x q;go_enter func109,ntmps109;go_wp2_with fail;refine (y.o).mono ?_;rintro e M ⟨rfl,H,E,A,D⟩;go_wp2_with fail;go_end0;exact⟨rfl,H,E,(Chg.of_below j.o).trans A fun _ _ h=>h,fun k C=>(D k C).imp id (aB j.o.size)⟩
end
section
attribute [-go_sem] loadCellsFrom storeCells run_eql_struct run_neq_struct
attribute [local go_sem] bC MgV.fold fF
def MgV.to(p:MgV)(d:Int):MgV:=⟨p.kind,p.src,d,p.view,p.normal,p.number,p.base,p.commit,p.es,p.ev,p.offset,p.total,p.data,p.seq,p.op,p.code,p.value,p.ok⟩
def sI(id:Int)(k:Nat):List Int:=((List.range k).map fun n=>((n:Nat):Int)+1).filter fun n=> !decide (n=id)
theorem Nk(id:Int)(k:Nat):sI id (k+1)=if (k:Int)+1=id then sI id k else sI id k++[(k:Int)+1]:=by
 unfold sI;rw[Ac,gC,oZ]
 by_cases h:(k:Int)+1=id<;>simp[h]
def sJ(p:WkV)(m:MgV)(k:Nat):List Mg:=(sI p.r.id k).map fun d=>(((m.to d).seen p.r.k.view).frm p.r.id).x
structure jY(w1 W:World)(base g g1:Nat)(t:TypeId)(tl:List Value)(p:WkV)(ps:List ObV)(m:MgV)(k:Nat)(l:List MgV)(v:Value)(d:Int):Prop where
 x:l.map (·.x)=sJ p m k
 n:l.length≤k
 o:WkO W base g t tl ⟨p.r,p.rs,p.rv,p.ms++l,v⟩ ps
 b:Blk W g1 55 (m.to d).cells
 e:Ow W base 46 11 m.ev En.cells m.es
 c:Chg (fun i=>i=g∨p.mv.ownBlock=some i∨i=g1) w1 W
 f:∀j,v.ownBlock=some j→p.mv.ownBlock=some j∨g1<j
section
variable {w1 W W':World}{base g g1 k:Nat}{t:TypeId}{tl:List Value}{p:WkV}{ps:List ObV}{m:MgV}{l:List MgV}{v:Value}{d:Int}
theorem WkO.box{d:List Value}(h:WkO W base g t tl p ps)(b:Blk W g1 55 d)(a:Chg (fun i=>i=g1) W W')(k:p.mv.ownBlock≠some g1)(f:g≠g1):WkO W' base g t tl p ps:=
 ⟨h.blk.chg a f,h.lo,h.rep.chg b a (by decide),h.rs.chg_blk b a (by decide),fun x c=>(h.rse x c).chg_blk b a (by decide),h.ms.chg a fun i e j=>by rw[show i=g1 from j]at e; exact k e,fun x c=>(h.mse x c).chg_blk b a (by decide)⟩
theorem jY.store(h:jY w1 W base g g1 t tl p ps m k l v d)(q:g<g1)(s:∀j,p.mv.ownBlock=some j→j<g1)(e:Int):
  jY w1 (W.setCell ⟨g1,2,none⟩ (.i e)) base g g1 t tl p ps m k l v e:=by
 have c:=(Chg.refl (fun i=>i=g1) W).setCell (.inr rfl) 2 (.i e);exact⟨h.x,h.n,h.o.box h.b c (fun a=>(h.f _ a).elim (fun a=>absurd (s _ a) (wH _)) fun a=>absurd a (wH _)) (uI q),h.b.setCell 2 _,h.e.chg_blk h.b c (by decide),h.c.trans c fun i _ r=>.inr (.inr r),h.f⟩
theorem jY.skip(h:jY w1 W base g g1 t tl p ps m k l v d)(a:(k:Int)+1=p.r.id):jY w1 W base g g1 t tl p ps m (k+1) l v d:=
 ⟨by rw[h.x,sJ,sJ,Nk,aE a],Nat.le_succ_of_le h.n,h.o,h.b,h.e,h.c,h.f⟩
theorem jY.sent{z:World}{ev B:Value}(h:jY w1 W base g g1 t tl p ps m k l v ((k:Int)+1))(H:qG t)(I:g<g1)(K:w1.heap.size=g1+1)(G:∀j,p.mv.ownBlock=some j→j<g1)(s:Bw' W W')(C:(k:Int)+1≠p.r.id)
  (F:WkO z base g t tl ⟨p.r,p.rs,p.rv,(p.ms++l)++[(((m.to ((k:Int)+1)).own ev).seen p.r.k.view).frm p.r.id],B⟩ ps) (A:Chg (fun i=>i=g∨v.ownBlock=some i) W' z) (D:∀j,B.ownBlock=some j→v.ownBlock=some j∨W'.heap.size≤j):
  jY w1 z base g g1 t tl p ps m (k+1) (l++[(((m.to ((k:Int)+1)).own ev).seen p.r.k.view).frm p.r.id]) B ((k:Int)+1):=by
 have J:=h.c.size;have E:¬(g1=g∨v.ownBlock=some g1):=fun d=>by
  rcases d with d|d
  .omega
  .rcases h.f _ d with d|d
   .exact absurd (G _ d) (wH _)
   .omega
 refine⟨?_,?_,?_,(h.b.grow s).chg A E,(h.e.below s).chg A fun i e q=>?_,(h.c.trans (Chg.of_below (S:=fun i=>i=g∨p.mv.ownBlock=some i∨i=g1) s) fun _ _ h=>h).trans A fun i q a=>?_,fun j y=>?_⟩
 .rw[gC,h.x,sJ,sJ,Nk,aC C,gC]; rfl
 .rw[bB]; have:=h.n; simp; omega
 .rw[←cR]; exact F
 .rcases q with q|q
  .exact h.e.ne_blk h.o.blk (by rcases H with rfl|rfl<;>decide) (q▸e)
  .exact h.e.apt h.o.ms (by decide) i e q
 .rcases a with a|a
  .exact .inl a
  .rcases h.f _ a with a|a
   .exact .inr (.inl a)
   .omega
 .rcases D j y with y|y
  .exact h.f j y
  .have:=s.size; omega
end
theorem Nl{tl:List Value}{g base n:Nat}(p:WkV)(ps:List ObV)(m:MgV)(w:World)(h:WkO w base g 117 tl p ps)(O:Ow w base 46 11 m.ev En.cells m.es)(R:p.ms.length≤1000)(K:base≤w.heap.size)(d0:p.r.nodes=n)(g0:n≤1000)(Q:m.es.length≤1000000):
  Calls prog 61 #[.pointer (some ⟨g,0,none⟩),.agg m.cells.toArray] w fun e U=>e=.returned (.tuple #[])∧∃l,l.map (·.x)=sJ p m n∧l.length≤n∧∃v',WkO U base g 117 tl ⟨p.r,p.rs,p.rv,p.ms++l,v'⟩ ps∧Chg (fun i=>i=g∨p.mv.ownBlock=some i) w U∧(∀k,v'.ownBlock=some k→p.mv.ownBlock=some k∨w.heap.size≤k):=by
 obtain⟨A,a0,V,C,z1⟩:=par w 55 m.cells;have F:=(show jY A A base g w.heap.size 117 tl p ps m 0 [] p.mv m.dst from⟨rfl,aD _,by rw[fS]; exact h.below C,V,O.below C,Chg.refl _ _,fun _ h=>.inl h⟩)
 have Y:=kp F;have q:=k'5 h.blk.lt (fun j G=>(h.ms.lt (i:=j) G).2) (show A.heap.size=w.heap.size+1 by rw[←a0]; simp) C K;have I:=k'2 R Q;clear h F C z1 V O R Q K;go_enter func61,ntmps61;go_wp2_with fail
 go_loopw [4] (fun i wr=>∃k:Nat,k≤n∧i=.i ((k:Int)+1)∧∃l v d,jY A wr base g w.heap.size 117 tl p ps m k l v d) (fun i _=>n+1-(intOf i).toNat)
 case atStart=>exact⟨0,by omega,rfl,_,_,_,Y.o⟩
 case round=>
  obtain⟨k,hk,rfl,l,v,d,s⟩:=hrel;have q0:=s.o.blk.cell 0;change _=some (Value.i p.r.id)at q0;have q1:=s.o.blk.cell 1;rw[show (WkV.cells ⟨p.r,p.rs,p.rv,p.ms++l,v⟩ tl)[1]? =some (.i p.r.nodes) from rfl,d0]at q1;have H:=kp s
  by_cases e0:k<n
  .have g3:(k:Int)+1≤(n:Int):=by omega
   by_cases N:(k:Int)+1=p.r.id
   .clear s;go_wp2_with fail;go_roundw
    case rel=>exact⟨k+1,by omega,by go_num,_,_,_,H.o.skip N⟩
    case measure=>simp[intOf]; omega
   .have q2:=s.b.cell 2;change _=some (Value.i d)at q2;have f2:=s.b.frozen 2;have z:=s.store q.a q.b ((k:Int)+1);obtain⟨J,b0⟩:∃W,wr.setCell ⟨w.heap.size,2,none⟩ (.i ((k:Int)+1))=W:=⟨_,rfl⟩
    rw[b0]at z;have l2:=z.b.load (P:=prog) (k:=23) rfl;have HO:=kp (uA.2.2 (m.to ((k:Int)+1)) J.heap.size J (z.e.sl eL) (aD _) I.B);have y:=kp z;clear s z;go_wp2_with fail;refine (HO.o).mono ?_;rintro e w3 ⟨ev,rfl,T,D⟩;have HS:=kp (aAF _ ps ((m.to ((k:Int)+1)).own ev) w3 (y.o.o.below D) (T.mono (aB q.E (aB (aB q.d.size y.o.c.size) (aD _)))) (by have:=I.a; have:=y.o.n; simp only[bB]; omega) (aB q.E (aB q.d.size (aB y.o.c.size D.size))));have X:=kp D;clear T D;go_wp2_with fail;refine (HS.o).mono ?_;rintro e w4 ⟨rfl,v4,S,L,M⟩;have Z:=kp (y.o.sent (.inr rfl) q.a q.c q.b X.o N S L M);clear S L M;go_wp2_with fail;go_roundw
    case rel=>exact⟨k+1,by omega,by go_num,_,_,_,Z.o⟩
    case measure=>simp[intOf]; omega
  .obtain rfl:n=k:=by omega
   have g3:¬(n:Int)+1≤(n:Int):=by omega
   clear s;go_wp2_with fail;go_end0;refine⟨rfl,l,H.o.x,H.o.n,v,H.o.o,((Chg.of_below q.d).trans H.o.c fun i _ h=>h).mono fun i F h=>?_,fun j G=>(H.o.f j G).imp id fun h=>dY h⟩;rcases h with h|h|h
   .exact .inl h
   .exact .inr h
   .omega
end
section
attribute [-go_sem] loadCellsFrom storeCells run_eql_struct run_neq_struct
attribute [local go_sem] bC
def KpV.at(p:KpV)(v:Int):KpV:=⟨v,p.normal,p.base,p.image,p.es,p.ev⟩
def mY:List Value:=z'8
theorem aAO(p:KpV)(c:RcV)(w:World)(B:Nat)(h:fL w B p)(C:B≤w.heap.size)(X:c.kind=1)(E:p.view≤c.view)(V:0≤p.base∧p.base≤900000000)(Y:p.es.length≤1000000):
  Calls prog 213 #[.agg p.cells.toArray,.agg c.cells.toArray] w fun e w'=>e=.returned (.tuple #[.agg (p.at c.view).cells.toArray,.i 0])∧Bw' w w':=by
 obtain⟨Q,a0,s,m,L⟩:=par w 24 p.cells;obtain⟨R,b0,F,n,M⟩:=par Q 48 c.cells;obtain⟨S,T,G,q,z3⟩:=par R 24 mY;unfold mY at T;have j:=n.on q;have A:=Sl.below h (m.on j) C;have O:=kp (rN.2 p S B A V Y);have l0:=(s.grow j).load (P:=prog) (k:=5) rfl;have z:=h.one;have f:=k'8 (s.grow j) (F.grow q) G (m.on j) L M n.size z;have HV:=kp E;have e0:¬c.view<p.view:=by omega
 clear s F G m n q j L M z3 A h C E z;go_enter func213,ntmps213;go_wp2_with fail;refine mb' (O.o) fun r g=>?_;have l:=f.a.grow g;have y:=f.b.grow g;have J:=f.c.grow g;have Z:=y.cell 0;rw[show c.cells[0]? =some (.i c.kind) from rfl,X]at Z;have j1:=y.cell 1;change _=some (Value.i c.view)at j1;have k0:=l.cell 0;change _=some (Value.i p.view)at k0;have f0:=l.frozen 0;have x:Blk (r.setCell ⟨w.heap.size,0,none⟩ (.i c.view)) w.heap.size 24 (p.at c.view).cells:=l.setCell 0 _;have c5:=(Chg.refl (fun i=>i=w.heap.size) r).setCell (.inr rfl) 0 (.i c.view);obtain⟨W5,U⟩:∃W,r.setCell ⟨w.heap.size,0,none⟩ (.i c.view)=W:=⟨_,rfl⟩
 rw[U]at x c5;have K:=J.chg c5 (by have:=f.o; omega);have l5:=x.load (P:=prog) (k:=5) rfl;obtain⟨W6,d0,s6,I,c6⟩:=K.put (p.at c.view).cells rfl (mW (p:=p.at c.view) f.H);have l6:=I.load (P:=prog) (k:=5) rfl;have N:=kp ((f.d.on g).trans ((c5.below (B:=w.heap.size) (fun i D=>fU D.symm) (aB f.d.size g.size)).trans (c6.below (B:=w.heap.size) (fun i D=>by have:=f.o; omega) (aB (aB f.d.size g.size) c5.size))));clear l y J K x I c5 c6 g l0;go_wp2_with fail;exact aU (v:=.tuple #[.agg (p.at c.view).cells.toArray,.i 0]) (by simp[results,results213,go_sem,l6]) rfl ⟨rfl,N.o⟩
end
end Go.Proofs.YtdoopoapbffpbaaGreat
