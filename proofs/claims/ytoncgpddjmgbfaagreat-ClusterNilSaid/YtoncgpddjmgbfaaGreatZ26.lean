import Derived.Test.YtoncgpddjmgbfaaGreatZ24
import Derived.Test.YtoncgpddjmgbfaaGreatZ25
namespace Go.Proofs.YtoncgpddjmgbfaaGreat
open Go.RowKit Go.Proofs.Tryz
set_option maxRecDepth 100000
set_option maxHeartbeats 12800000
set_option linter.unusedVariables false
set_option linter.unusedSimpArgs false
section
attribute [-go_sem] loadCellsFrom storeCells run_eql_struct run_neq_struct
attribute [local go_sem] aX MgV.fold dA
theorem Js{tl:List Value}{g base:Nat}(p:WkV)(ps:List ObV)(m:MgV)(w:World)(h:WkO w base g 101 tl p ps)(hm:Ow w base 122 11 m.ev En.cells m.es)(T:p.ms.length<1000000)(s:base≤w.heap.size)(R:m.kind≠0)(hl:m.es.length≤1000000):
  Calls prog 95 #[.pointer (some ⟨g,0,none⟩),.agg m.cells.toArray] w fun e w'=>e=.returned (.tuple #[])∧∃ev v',WkO w' base g 101 tl ⟨p.r,p.rs,p.rv,p.ms++[(m.frm p.r.id).own ev],v'⟩ ps∧Chg (fun i=>i=g∨p.mv.ownBlock=some i) w w'∧(∀k,v'.ownBlock=some k→p.mv.ownBlock=some k∨w.heap.size≤k):=by
 obtain⟨Z,m1,V,b1,z1⟩:=par w 75 m.cells;have O:=h.below b1;have q0:=O.blk.cell 0;change _=some (Value.i p.r.id)at q0;have q1:=V.cell 1;have q2:=V.frozen 1;change _=some (Value.i m.src)at q1;have x2:Blk (Z.setCell ⟨w.heap.size,1,none⟩ (.i p.r.id)) w.heap.size 75 (m.frm p.r.id).cells:=V.setCell 1 _;have c2:=(Chg.refl (fun i=>i=w.heap.size) Z).setCell (.inr rfl) 1 (.i p.r.id);have o0:=kp s;obtain⟨J,p0⟩:∃W,Z.setCell ⟨w.heap.size,1,none⟩ (.i p.r.id)=W:=⟨_,rfl⟩
 rw[p0]at x2 c2;have b2:Bw' w J:=b1.trans (c2.below (B:=w.heap.size) (fun i j=>by omega) (by omega));have z:=k'5 x2 b2 h hm (cY z1 c2.size);have HN:=kp T;have HL:=k'2 R hl;have g1:=kp (Xp J);have F:∀ev,((m.frm p.r.id).own ev).es=m.es:=fun _=>rfl;clear h O b1 b2 z1 V x2 c2 hm T s R hl;go_enter func95,ntmps95;go_wp2_with fail;refine (g1.o).mono ?_;rintro e M ⟨rfl,g0,a0⟩;have x3:=z.a.grow a0;have l3:=x3.load (P:=prog) (k:=23) rfl;have aQ:=ba' M (.cells (m.frm p.r.id).cells.toArray 75);have s4:=gG (enc:=MgV.cells) M 75 (m.frm p.r.id);have z4:(M.alloc (.cells (m.frm p.r.id).cells.toArray 75)).heap.size=M.heap.size+1:=by simp
 obtain⟨W4,y0⟩:∃W,M.alloc (.cells (m.frm p.r.id).cells.toArray 75)=W:=⟨_,rfl⟩
 rw[y0]at aQ s4 z4;have b0:=z.b.on (a0.on aQ);have z0:=(z.d.below b0).sl eM;have j1:=kp (Xt (m.frm p.r.id) W4.heap.size W4 (g0.grow aQ) (z4▸s4) (aN _) z0 HL.B HL.a);have I:=k'3 (x3.grow aQ) b0 (show J.heap.size<W4.heap.size from cY g0.lt aQ.size);clear x3 aQ s4 z4 b0 z0 g0 a0;go_wp2_with fail;refine (j1.o).mono ?_;rintro e w5 ⟨rfl,ev,v,j0,m0,e0,d0⟩;have l1:=kp (Xu ((m.frm p.r.id).own ev) w5 j0 m0 e0.one);have l0:J.heap.size≠w.heap.size:=by have:=z.E; omega
 have x5:=I.a.chg d0 (bM l0);have b5:=I.b.trans (d0.below (B:=w.heap.size) (fun i j=>by have:=z.E; omega) I.b.size);have y:=k'5 x5 b5 e0 m0 j0;clear x5 b5 e0 m0 d0 j0 l3 y0;go_wp2_with fail;refine mb' (l1.o) fun w6 Q=>?_;have hv:=fun i j=>(y.d.lt (i:=i) j).1;have g2:=I.b.size;have l0:=z.E;have G:¬(w.heap.size=J.heap.size∨v.ownBlock=some w.heap.size):=fun j=>by
  rcases j with j|j
  .omega
  .have:=hv _ j; have:=I.C; omega
 have x6:=y.a.chg Q G;have b6:=y.b.trans (Q.below (B:=w.heap.size) (fun i j=>by
  rcases j with j|j
  .omega
  .have:=hv _ j; omega) y.b.size)
 have e6:=y.c.chg Q fun i e j=>by
  rcases j with j|j
  .exact y.c.ne_blk y.E (by decide) (j▸e)
  .exact y.c.apt y.d (by decide) i e j
 obtain⟨W7,j2,s7,X,c7⟩:=x6.put ((m.frm p.r.id).own ev).cells rfl (fD (p:=(m.frm p.r.id).own ev) e6.one);have b7:=b6.trans (c7.below (B:=w.heap.size) (fun i j=>by omega) b6.size);have e7:=(e6.chg_blk x6 c7 (by decide)).mono (base2:=base) (aB o0.o I.b.size);have L:=z.c.below b7;have HO:=kp (fun i j=>(z.c.ms.lt (i:=i) j).2);have d1:=kp (show ¬p.mv.ownBlock=some w.heap.size from fun j=>absurd (z.c.ms.lt j).2 (tP _));have F:∃l,(m.frm p.r.id).own ev=l:=⟨_,rfl⟩
 obtain⟨l,F⟩:=F;rw[F]at X s7 ⊢;rw[show ev=l.ev from F▸rfl,show (m.frm p.r.id).es=l.es from F▸rfl]at e7;have n:=k'4 L b7 X e7;have a1:=kp F;have N:=kp (fun W(f:Chg (fun i=>p.mv.ownBlock=some i) W7 W∧Ow W base 75 23 p.mv MgV.cells p.ms)=>fR (L.blk.chg f.1 (L.ms.ne_blk L.blk (by decide))) (X.chg f.1 d1.o));clear x6 b6 e6 X c7 b7 e7 L G l0 g2 hv Q F q0 q1 q2 m1 p0;go_wp2_with fail;refine fM 12 (fun W=>Chg (fun i=>p.mv.ownBlock=some i) W7 W∧Ow W base 75 23 p.mv MgV.cells p.ms) (jJ 8 fun i=>p.mv.ownBlock=some i) (by kernel_rfl) (by kernel_rfl) ⟨(Chg.refl _ _).drew,n.a.ms.below (bL (aH _ _))⟩ ?_
 iterate 7 (refine bE ?_; apply Exists.intro)
 refine bJ (fun u W=>∃b,u=.slice (some ⟨b,0,none⟩) 1 1∧(b<W.heap.size∧p.mv.ownBlock≠some b)∧Sl W (b+1) u MgV.cells [l]) ?_;refine bJ (fun u W=>Ow W base 75 23 u MgV.cells (p.ms++[l])∧∀k,u.ownBlock=some k→p.mv.ownBlock=some k∨w.heap.size≤k) ?_
 iterate 3 (refine bE ?_; apply Exists.intro)
 refine cC ⟨?pers,?walk⟩
 case walk=>
  iterate 5
   apply bB (by kernel_rfl) (by intro t w h; cases h; exact trivial) rfl
   .intro W f A; go_wp2_with fail;exact⟨rfl,_,rfl,f,cN (by decide) (aH _ _),rfl⟩
   simp only[Act.put,aE,aC,aD]
  apply bB (by kernel_rfl) (by intro t w h; cases h; exact trivial) rfl
  .intro W f A; have q:=(N.o W f).1.cell 27; rw[yJ]at q; go_wp2_with fail;exact⟨rfl,_,rfl,f,cN (by decide) (aH _ _),rfl⟩
  simp only[Act.put,aE,aC,aD];apply bB (by kernel_rfl) (by intro t w h; cases h; exact trivial) rfl
  .intro W f A; have q:=(N.o W f).2.load (P:=prog) (k:=23) rfl; go_wp2_with fail;exact⟨rfl,_,rfl,f,cN (by decide) (aH _ _),rfl⟩
  simp only[Act.put,aE,aC,aD];refine⟨fun W f A=>?_,fun u7=>?_⟩
  .go_wp2_with fail;have U:=gG (enc:=MgV.cells) W 75 (l);have hc:=fR (f.1.alloc (.cells (l).cells.toArray 75)) (f.2.alloc (.cells (l).cells.toArray 75));have H:=cN (e:=8) (k:=7) (S:=fun i=>p.mv.ownBlock=some i) (by decide) (ba' W (.cells (l).cells.toArray 75));have s:W.heap.size<(W.alloc (.cells (l).cells.toArray 75)).heap.size:=by simp
   have T:¬p.mv.ownBlock=some W.heap.size:=fun he=>by have:=(f.2.lt he).2; omega
   generalize W.alloc (.cells (l).cells.toArray 75)=W' at U hc H s ⊢;exact⟨rfl,_,rfl,hc,H,_,rfl,⟨s,T⟩,U⟩
  simp only[Act.put,aE,aC,aD];refine⟨fun W f A=>?_,fun u8=>?_⟩
  .have f7:=A 32 (bO (by kernel_rfl));obtain⟨b,rfl,l2,d2⟩:=f7;have o1:base≤W.heap.size:=aB o0.o (aB n.b.size f.1.size);have m2:=(n.a.mse)
   go_wp2_with (at_builtin; refine jD (enc:=MgV.cells) W rfl (.tmp 30) (.tmp 32) 58 rfl base 75 sW rZ rfl (by omega) dA f.2 rfl d2 rfl (fun a ha=>by rw[bZ.1 ha]; exact fD (p:=l) (Ow.one n.D)) ?_ ?_ o1 ?_)
   .have:=HN.o; unfold maxLen; show p.ms.length+1≤_; omega
   .have:=HN.o; show (p.ms.length+1)*208≤_; omega
   intro v' W3 ho a2 hg p1;exact⟨rfl,_,rfl,⟨f.1.trans (eX hg) (fun _ _ h=>h),a2⟩,pA (eX hg),ho,fun k R=>(p1 k R).imp id (aB (aB n.b.size f.1.size))⟩
  simp only[Act.put,aE,aC,aD]
  iterate 3
   apply bB (by kernel_rfl) (by intro t w h; cases h; exact trivial) rfl
   .intro W f A; go_wp2_with fail;exact⟨rfl,_,rfl,f,cN (by decide) (aH _ _),rfl⟩
   simp only[Act.put,aE,aC,aD]
  intro W f A;have K:=A 33;obtain⟨K,f9⟩:=K;have q:=(N.o W f).1.cell 27;have qf:=(N.o W f).1.frozen 27;rw[yJ]at q;have hw:=n.a.told (.inl rfl) f.1 K (fun x G=>by
   rcases cV.1 G with G|G
   .exact (n.a.mse x G).chg_row n.a.ms f.1 (by decide)
   .rw[bZ.1 G];exact (n.D).chg_row n.a.ms f.1 (by decide))
  have Y:=kp hw;have H9:=kp f9;obtain⟨A8,c8,rfl,_,_⟩:=dO K;rw[bF,lH]at Y H9;clear A f K f9 hw;go_wp2_with fail;go_end0;refine⟨rfl,ev,_,a1.o▸Y.a,?_,H9.o⟩;exact (Chg.of_below n.b).trans Y.B fun _ _ h=>h
 case pers=>
  refine⟨pv',pv',pv',pv',pv',pv',pv',?_,?_,pv',pv',pv',trivial⟩
  .rintro i u W W' _ ⟨b,rfl,s,U⟩ H;exact⟨b,rfl,⟨cY s.1 (lQ H).size,s.2⟩,sP U (lQ H) s.2 s.1⟩
  .rintro i u W W' y1 ⟨O,h2⟩ H;exact⟨O.below (pB H y1),h2⟩
theorem Jt{C:List Value}{g base:Nat}(p:WkV)(j:List ObV)(m:MgV)(w:World)(h:WkO w base g 101 C p j)(z:Ow w base 122 11 m.ev En.cells m.es)(A:p.ms.length<1000000)(x:base≤w.heap.size)(b:m.kind≠0)(y:m.es.length≤1000000):
  Calls prog 57 #[.pointer (some ⟨g,0,none⟩),.agg m.cells.toArray] w fun e D=>e=.returned (.tuple #[])∧∃ev v',WkO D base g 101 C ⟨p.r,p.rs,p.rv,p.ms++[((m.seen p.r.k.view).frm p.r.id).own ev],v'⟩ j∧Chg (fun i=>i=g∨p.mv.ownBlock=some i) w D∧(∀k,v'.ownBlock=some k→p.mv.ownBlock=some k∨w.heap.size≤k):=by
 obtain⟨d,N,c,f,M⟩:=par w 75 m.cells;have s:=h.below f;have J:=s.blk.cell 2;change _=some (Value.i p.r.k.view)at J;have K:=c.cell 3;have Q:=c.frozen 3;change _=some (Value.i m.view)at K;have l:Blk (d.setCell ⟨w.heap.size,3,none⟩ (.i p.r.k.view)) w.heap.size 75 (m.seen p.r.k.view).cells:=c.setCell 3 _;have c2:=(Chg.refl (fun i=>i=w.heap.size) d).setCell (.inr rfl) 3 (.i p.r.k.view);obtain⟨q,F⟩:∃W,d.setCell ⟨w.heap.size,3,none⟩ (.i p.r.k.view)=W:=⟨_,rfl⟩
 rw[F]at l c2;have a:Bw' w q:=f.trans (c2.below (B:=w.heap.size) (fun i O=>by omega) (by omega));have l2:=l.load (P:=prog) (k:=23) rfl;have E:=kp (Js p j (m.seen p.r.k.view) q (h.below a) (z.below a) A (aB x a.size) b y);have n:=kp a;clear h s f a M c l c2 z A x b y;go_enter func57,ntmps57;go_wp2_with fail;refine (E.o).mono ?_;rintro e R ⟨rfl,ev,L,I,G,H⟩;go_wp2_with fail;go_end0;exact⟨rfl,ev,L,I,(Chg.of_below n.o).trans G fun _ _ h=>h,fun k b=>(H k b).imp id (aB n.o.size)⟩
end
section
attribute [-go_sem] loadCellsFrom storeCells run_eql_struct run_neq_struct Instr.build
attribute [local go_sem] aX
theorem Ow.fresh1(w:World)(i:Int):Ow (w.alloc (.cells #[.i i] 3)) w.heap.size 3 1 (.slice (some ⟨w.heap.size,0,none⟩) 1 1) i1 [i]:=
 ⟨rfl,.inr ⟨_,1,_,rfl,aN _,Blk.new w 3 [.i i],aN _,by decide,rfl,rfl⟩⟩
def Xv(v:Int):RcV:=⟨1,v,0,0,⟨#[]⟩,As,[],.slice none 0 0⟩
def Xw(k:Int):MgV:=⟨k,0,0,0,0,0,0,0,[],.slice none 0 0,0,0,⟨#[]⟩,0,dU,0,0,false⟩
theorem Ju(v:Int)(w:World):(Instr.build 124 #[(0,.i 1),(1,.i v)]).run prog w=.ok (.agg (Xv v).cells.toArray) w:=run_build w _ _ _ (by kernel_rfl)
theorem Jv(k:Int)(w:World):(Instr.build 75 #[(0,.i k)]).run prog w=.ok (.agg (Xw k).cells.toArray) w:=run_build w _ _ _ (by kernel_rfl)
attribute [local go_sem] Ju Jv
def RpV.started(r:RpV)(sv:Value):RpV:=⟨r.id,r.nodes,r.k,r.commit,r.s,r.timer,[r.id],sv,r.votes,r.vv,r.acks,r.av,r.part⟩
theorem WkO.start{w:World}{base g:Nat}{t:TypeId}{f:List Value}{p:WkV}{d:List ObV}(h:WkO w base g t f p d)(l:pJ t)(j:base≤w.heap.size):
  ∃b c,w.alloc (.cells #[.i p.r.id] 3)=b∧b.setCell ⟨g,18,none⟩ (.slice (some ⟨w.heap.size,0,none⟩) 1 1)=c∧b.cell? ⟨g,18,none⟩=some p.r.sv∧b.frozen? ⟨g,18,none⟩=false∧
   WkO c base g t f ⟨p.r.started (.slice (some ⟨w.heap.size,0,none⟩) 1 1),p.rs,p.rv,p.ms,p.mv⟩ d∧Chg (fun i=>i=g) w c:=by
 have e:=ba' w (.cells #[.i p.r.id] 3);have a:=h.below e;have c1:=(Chg.refl (fun i=>i=g) (w.alloc (.cells #[.i p.r.id] 3))).setCell (.inr rfl) 18 (.slice (some ⟨w.heap.size,0,none⟩) 1 1);have m:=a.blk.setCell 18 (.slice (some ⟨w.heap.size,0,none⟩) 1 1);have k:RpO (w.alloc (.cells #[.i p.r.id] 3)) base (p.r.started (.slice (some ⟨w.heap.size,0,none⟩) 1 1)) d:=⟨a.rep.es,a.rep.st,(Ow.fresh1 w p.r.id).mono j,a.rep.votes,a.rep.ves,a.rep.acks⟩
 exact⟨_,_,rfl,rfl,a.blk.cell 18,a.blk.frozen 18,a.put l m c1 k,(Chg.of_below e).trans c1 fun _ _ h=>h⟩
end
section
attribute [-go_sem] loadCellsFrom storeCells run_eql_struct run_neq_struct Instr.build
attribute [local go_sem] aX MgV.fold dA Ju Jv
theorem mZ(a:Fn)(first cap:Array Value)(w:World):(Instr.makeFunc a first cap).run prog w=.ok (.func a first cap) w:=rfl
attribute [local go_sem] mZ
theorem kM.below{r W W':World}{base g i k:Nat}{t:TypeId}{q:List Value}{p:WkV}{j:List ObV}{m:MgV}{l:List MgV}{v:Value}{d:Int}(h:kM r W base g i t q p j m k l v d)(a:Bw' W W'):kM r W' base g i t q p j m k l v d:=
 ⟨h.x,h.n,h.o.below a,h.b.grow a,h.e.below a,h.c.trans (Chg.of_below (S:=fun _=>False) a) fun _ _ h=>h.elim,h.f⟩
theorem Xx(g:Nat)(w:World):Calls prog 50 #[.pointer (some ⟨g,0,none⟩)] w fun e d=>e=.returned (.func (.func 85) #[] #[.pointer (some ⟨w.heap.size,0,none⟩)])∧Blk d w.heap.size 99 [.pointer (some ⟨g,0,none⟩)]∧Bw' w d:=by
 have c:=Blk.new w 99 [.pointer (some ⟨g,0,none⟩)];have b:=k'2 c (ba' w (.cells #[.pointer (some ⟨g,0,none⟩)] 99));clear c;go_enter func50,ntmps50;go_wp2_with fail;go_ret;exact⟨rfl,b.a,b.B⟩
theorem Xy{L:List Value}{g B base n:Nat}(p:WkV)(K:List ObV)(m:MgV)(w:World)(h:WkO w base g 101 L p K)(I:Blk w B 99 [.pointer (some ⟨g,0,none⟩)])(hm:Ow w base 122 11 m.ev En.cells m.es)(hn:p.ms.length≤1000)(hb:base≤w.heap.size)(o0:p.r.nodes=n)(q0:n≤1000)(g0:m.es.length≤1000000)(Y:m.kind≠0):
  Calls prog 85 #[.agg m.cells.toArray,.pointer (some ⟨B,0,none⟩)] w fun e w'=>e=.returned (.tuple #[])∧∃l,l.map (·.x)=sX p m n∧l.length≤n∧∃v',WkO w' base g 101 L ⟨p.r,p.rs,p.rv,p.ms++l,v'⟩ K∧Chg (fun i=>i=g∨p.mv.ownBlock=some i) w w'∧(∀k,v'.ownBlock=some k→p.mv.ownBlock=some k∨w.heap.size≤k):=by
 obtain⟨z,l0,x1,A,z1⟩:=par w 75 m.cells;have V:=(show kM z z base g w.heap.size 101 L p K m 0 [] p.mv m.dst from⟨rfl,aN _,by rw[fG]; exact h.below A,x1,hm.below A,Chg.refl _ _,fun _ h=>.inl h⟩)
 have HI:=kp V;have d0:B≠g:=fun e=>by
  have h1:=h.blk;rw[←e]at h1;have h2:=h1.symm.trans I;simp at h2
 have e0:p.mv.ownBlock≠some B:=h.ms.ne_blk I (by decide);have m0:=I.lt;have HB:=kp (fun(W:World)(hc:Chg (fun i=>i=g∨p.mv.ownBlock=some i∨i=w.heap.size) z W)=>(I.grow A).chg hc fun e=>by
  rcases e with e|e|e
  .exact d0 e
  .exact e0 e
  .omega)
 have s:=k'5 h.blk.lt (fun j X=>(h.ms.lt (i:=j) X).2) (show z.heap.size=w.heap.size+1 by rw[←l0]; simp) A hb;have T:=k'3 hn g0 Y;have O:z.cell? ⟨B,0,none⟩=some (.pointer (some ⟨g,0,none⟩)):=(I.grow A).cell 0;have Q:z.cell? ⟨g,1,none⟩=some (.i n):=by
  have q:=(h.below A).blk.cell 1;rw[show (WkV.cells p L)[1]? =some (.i p.r.nodes) from rfl,o0]at q;exact q
 clear h V A z1 x1 hm hn g0 hb Y d0 e0 m0 I;go_enter func85,ntmps85;go_wp2_with fail;clear O Q
 go_loopw [9] (fun i wr=>∃k:Nat,k≤n∧i=.i k∧∃l v d,kM z wr base g w.heap.size 101 L p K m k l v d) (fun i _=>n-(intOf i).toNat)
 case atStart=>exact⟨0,by omega,rfl,_,_,_,HI.o⟩
 case round=>
  obtain⟨k,Y,rfl,l,v,d,D⟩:=hrel;have H:=kp D
  by_cases p0:k<n
  .have g3:(k:Int)<(n:Int):=by omega
   have Z:=D.b.cell 2;change _=some (Value.i d)at Z;have f2:=D.b.frozen 2;have G:=D.store s.a s.b ((k:Int)+1);obtain⟨M,U⟩:∃W,wr.setCell ⟨w.heap.size,2,none⟩ (.i ((k:Int)+1))=W:=⟨_,rfl⟩
   rw[U]at G;have O:=bG (show M.cell? ⟨B,0,none⟩=some (.pointer (some ⟨g,0,none⟩)) from (HB.o M G.c).cell 0);have Q:=bG (show M.cell? ⟨g,0,none⟩=some (.i p.r.id) from G.o.blk.cell 0);have k2:=bG (show M.cell? ⟨w.heap.size,2,none⟩=some (.i ((k:Int)+1)) from G.b.cell 2);have H2:=kp G;clear D G
   by_cases F:(k:Int)+1=p.r.id
   .have g5:(((k:Int)+1) != p.r.id)=false:=by simpa using F
    have S:=kp F;clear F;go_wp2_with fail;refine cX (by kernel_rfl) (by kernel_rfl) ?_
    repeat (go_big_quiet_step (fail))
    refine cI ?_;rintro N ⟨⟨_,J⟩,rfl⟩;have R:=kp ((H2.o.below J).skip S.o);clear J O Q k2 Z f2 U;go_wp2_with fail;go_roundw
    case rel=>exact⟨k+1,by omega,by go_num,_,_,_,R.o⟩
    case measure=>simp[intOf]; omega
   .have g5:(((k:Int)+1) != p.r.id)=true:=by simpa using F
    have S:=kp F;clear F;go_wp2_with fail;refine cX (by kernel_rfl) (by kernel_rfl) ?_
    repeat (go_big_quiet_step (fail))
    refine cI ?_;rintro N ⟨⟨_,J⟩,rfl⟩;have y:=H2.o.below J;have l3:=y.b.load (P:=prog) (k:=23) rfl;have p3:N.cell? ⟨B,0,none⟩=some (.pointer (some ⟨g,0,none⟩)):=(HB.o N y.c).cell 0;have HS:=kp (Jt _ K (m.to ((k:Int)+1)) N y.o y.e (by have:=T.a; have:=y.n; simp only[bF]; omega) (aB s.E (aB s.d.size y.c.size)) T.C T.b);have R:=kp y;clear y J O Q k2 Z f2 U;go_wp2_with fail;refine (HS.o).mono ?_;rintro e w4 ⟨rfl,ev,v4,j0,a0,b0⟩;have HN:=kp (R.o.sent (ev:=ev) (.inl rfl) s.a s.c s.b (aH _ _) S.o j0 a0 b0);clear j0 a0 b0 l3 p3;go_wp2_with fail;go_roundw
    case rel=>exact⟨k+1,by omega,by go_num,_,_,_,HN.o⟩
    case measure=>simp[intOf]; omega
  .obtain rfl:n=k:=by omega
   have g3:¬(n:Int)<(n:Int):=by omega
   clear D;go_wp2_with fail;go_end0;refine⟨rfl,l,H.o.x,H.o.n,v,H.o.o,((Chg.of_below s.d).trans H.o.c fun i _ h=>h).mono fun i V h=>?_,fun j X=>(H.o.f j X).imp id fun h=>dK h⟩;rcases h with h|h|h
   .exact .inl h
   .exact .inr h
   .omega
end
section
structure Wp where
 (r:Rp) (rs:List Rc) (ms:List Mg)
def WkV.x(p:WkV):Wp:=⟨p.r.x,p.rs.map (·.x),p.ms.map (·.x)⟩
structure Gn(w w':World)(base g:Nat)(p p':WkV)(ps:List ObV):Prop where
 o:WkO w' base g 101 [] p' ps
 c:Chg (fun i=>i=g∨p.rv.ownBlock=some i∨p.mv.ownBlock=some i) w w'
 r:∀k,p'.rv.ownBlock=some k→p.rv.ownBlock=some k∨w.heap.size≤k
 m:∀k,p'.mv.ownBlock=some k→p.mv.ownBlock=some k∨w.heap.size≤k
section
variable {w w1 w2:World}{base g b:Nat}{p p1 p2:WkV}{ps ps1 ps2:List ObV}{t:TypeId}{cs:List Value}
theorem Gn.refl(h:WkO w base g 101 [] p ps):Gn w w base g p p ps:=⟨h,Chg.refl _ _,fun _ h=>.inl h,fun _ h=>.inl h⟩
theorem Gn.trans(h:Gn w w1 base g p p1 ps1)(k:Gn w1 w2 base g p1 p2 ps2):Gn w w2 base g p p2 ps2:=
 ⟨k.o,h.c.trans k.c fun i b a=>a.elim .inl fun a=>a.elim (fun a=>(h.r i a).elim (fun h=>.inr (.inl h)) fun h=>absurd b (Nat.not_lt.2 h)) fun a=>(h.m i a).elim (fun h=>.inr (.inr h)) fun h=>absurd b (Nat.not_lt.2 h),
  fun i b=>(k.r i b).elim (h.r i) fun a=>.inr (aB h.c.size a),fun i b=>(k.m i b).elim (h.m i) fun a=>.inr (aB h.c.size a)⟩
theorem Gn.pre(a:Bw' w w1)(k:Gn w1 w2 base g p p2 ps2):Gn w w2 base g p p2 ps2:=
 ⟨k.o,(Chg.of_below a).trans k.c fun _ _ h=>h,fun i b=>(k.r i b).imp id (aB a.size),fun i b=>(k.m i b).imp id (aB a.size)⟩
theorem Gn.post(h:Gn w w1 base g p p1 ps1)(a:Bw' w1 w2):Gn w w2 base g p p1 ps1:=⟨h.o.below a,h.c.then a,h.r,h.m⟩
theorem Gn.blk{f:World}(h:Gn w w1 base g p p1 ps1)(a:WkO f base g 101 [] p ps)(j:f.heap.size≤b)(i:Blk w b t cs):Blk w1 b t cs:=
 i.chg h.c fun d=>d.elim (fun e=>by have:=a.blk.lt; omega) fun d=>d.elim (fun e=>by have:=(a.rs.lt e).2; omega) fun e=>by have:=(a.ms.lt e).2; omega
theorem Gn.sl{α:Type}{enc:α→List Value}{l:List α}{B:Nat}{v:Value}(h:Gn w w1 base g p p1 ps1)(a:WkO w base g 101 [] p ps)(d:B≤base)(f:base≤w.heap.size)(j:Sl w B v enc l):Sl w1 B v enc l:=
 Sl.below j (h.c.below (B:=B) (fun i b=>b.elim (fun e=>by have:=a.lo; omega) fun b=>b.elim (fun e=>by have:=(a.rs.lt e).1; omega) fun e=>by have:=(a.ms.lt e).1; omega) (aB d f)) (aN _)
theorem Gn.size(h:Gn w w1 base g p p1 ps1):w.heap.size≤w1.heap.size:=h.c.size
theorem Gn.row{α:Type}{enc:α→List Value}{l:List α}{B k:Nat}{v:Value}(h:Gn w w1 base g p p1 ps1)(b:WkO w base g 101 [] p ps)(a:Ow w B t k v enc l)(f:t≠101∧124≠t∧75≠t):Ow w1 B t k v enc l:=
 a.chg h.c fun i e d=>d.elim (fun e2=>a.ne_blk b.blk f.1 (e2▸e)) fun d=>d.elim (fun e2=>b.rs.apt a f.2.1 i e2 e) fun e2=>b.ms.apt a f.2.2 i e2 e
end
def Wp.of(q:Wp)(m:Mg):Wp:=⟨q.r,q.rs,q.ms++[{m with src:=q.r.id}]⟩
def Wp.send(q:Wp)(m:Mg):Wp:=q.of {m with view:=q.r.k.view}
def Wp.tell(q:Wp)(m:Mg):Wp:=⟨q.r,q.rs,q.ms++(At q.r.nodes q.r.id).map fun d=>{m with dst:=d,view:=q.r.k.view,src:=q.r.id}⟩
section
variable {tl:List Value}{g base B:Nat}
theorem Xz(p:WkV)(ps:List ObV)(m:MgV)(w:World)(h:WkO w base g 101 [] p ps)(n:Ow w base 122 11 m.ev En.cells m.es)(o:p.ms.length<1000000)(c:base≤w.heap.size)(a:m.kind≠0)(l:m.es.length≤1000000):
  Calls prog 95 #[.pointer (some ⟨g,0,none⟩),.agg m.cells.toArray] w fun e b=>e=.returned (.tuple #[])∧∃p',Gn w b base g p p' ps∧p'.x=p.x.of m.x:=by
 refine (Js p ps m w h n o c a l).mono ?_;rintro e b ⟨rfl,ev,v,q,d,f⟩;exact⟨rfl,_,⟨q,d.mono fun i _ j=>j.imp id .inr,fun k a=>.inl a,f⟩,by simp[WkV.x,Wp.of]; rfl⟩
theorem yL(p:WkV)(ps:List ObV)(m:MgV)(w:World)(h:WkO w base g 101 [] p ps)(n:Ow w base 122 11 m.ev En.cells m.es)(o:p.ms.length<1000000)(c:base≤w.heap.size)(a:m.kind≠0)(l:m.es.length≤1000000):
  Calls prog 57 #[.pointer (some ⟨g,0,none⟩),.agg m.cells.toArray] w fun e b=>e=.returned (.tuple #[])∧∃p',Gn w b base g p p' ps∧p'.x=p.x.send m.x:=by
 refine (Jt p ps m w h n o c a l).mono ?_;rintro e b ⟨rfl,ev,v,q,d,f⟩;exact⟨rfl,_,⟨q,d.mono fun i _ j=>j.imp id .inr,fun k a=>.inl a,f⟩,by simp[WkV.x,Wp.send,Wp.of]; rfl⟩
theorem Ya{b:Nat}(p:WkV)(ps:List ObV)(m:MgV)(w:World)(h:WkO w base g 101 [] p ps)(B:Blk w b 99 [.pointer (some ⟨g,0,none⟩)])(s:Ow w base 122 11 m.ev En.cells m.es)(z:p.ms.length≤1000)(d:base≤w.heap.size)(C:3≤p.r.nodes∧p.r.nodes≤7)(y:m.es.length≤1000000)(a:m.kind≠0):
  Calls prog 85 #[.agg m.cells.toArray,.pointer (some ⟨b,0,none⟩)] w fun e c=>e=.returned (.tuple #[])∧∃p',Gn w c base g p p' ps∧p'.x=p.x.tell m.x:=by
 refine (Xy (n:=p.r.nodes.toNat) p ps m w h B s z d (by omega) (by omega) y a).mono ?_;rintro e c ⟨rfl,l,q,-,v,A,f,j⟩;refine⟨rfl,_,⟨A,f.mono fun i _ o=>o.imp id .inr,fun k a=>.inl a,j⟩,?_⟩;unfold WkV.x Wp.tell;simp only[fW,q];rfl
end
end
section
def rT(t:Int):Rp:=⟨2,3,kd3,0,st3,t,[],[],[],iR⟩
theorem Jw:dX (kZ kd3.image)=some st3:=by decide+kernel
theorem Cr:∀n∈List.range 14,cS (rT ((n:Nat):Int))=true:=by decide+kernel
theorem Jy(t:Int):gO (rT t)=false:=rfl
theorem Yb:lZ 2 3 kd3=some (rT 0):=by
 unfold lZ;rw[Jw];show (if cS (rT 0)=true then some (rT 0) else none)=some (rT 0);rw[aK (show cS (rT 0)=true from Cr 0 (by decide))]
theorem Yc(n:Nat)(h:n<13):mS (rT n)=(rT (n+1:Nat),[],[]):=by
 unfold mS;rw[aK (Cr n (List.mem_range.2 (by omega))),aF (by rw[Jy]; decide),aF (by show ¬(10+2*(2:Int)≤min ((n:Int)+1) 1000); omega)];show ((⟨2,3,kd3,0,st3,min ((n:Int)+1) 1000,[],[],[],iR⟩:Rp),([]:List Rc),([]:List Mg))=_;rw[show min ((n:Int)+1) 1000=((n+1:Nat):Int) by omega];rfl
theorem Yd:mS (rT 13)=(sN (rT 13),[xI 1],[qJ 2 1 1,qJ 2 1 3]):=by
 unfold mS;rw[aK (show cS (rT 13)=true from Cr 13 (by decide)),aF (by rw[Jy]; decide),aK (by decide)];rfl
def qW:Nat→Rp×List Rc×List Mg
 |0=>(rT 0,[],[])
 |k+1=>mS (qW k).1
theorem Jz:∀n,n<14→(qW n).1=rT n
 |0,_=>rfl
 |n+1,h=>by
  show (mS (qW n).1).1=_;rw[Jz n (by omega),Yc n (by omega)]
theorem Ye:qW 14=(sN (rT 13),[xI 1],[qJ 2 1 1,qJ 2 1 3]):=by
 show mS (qW 13).1=_;rw[Jz 13 (by omega)];exact Yd
end
section
def sZ:Mg:=⟨0,0,0,0,0,0,0,0,[],0,0,ByteArray.empty,0,dU,0,0,false⟩
def qX(d0 seq code value:Int)(ok:Bool):Mg:={sZ with kind:=2,dst:=d0,seq:=seq,code:=code,value:=value,ok:=ok}
def yM(k:Kd)(commit c s:Int):Bool:=k.es.any fun e=>decide (commit<e.n)&&(decide (e.c=c)&&decide (s≤e.s))
def tA(e:En):Rc:=⟨2,0,0,0,ByteArray.empty,e,[]⟩
def Kd.add(k:Kd)(e:En):Kd:={k with es:=k.es++[e]}
def Wp.keep(q:Wp)(e:En):Wp:=⟨{q.r with k:=q.r.k.add e},q.rs++[tA e],q.ms⟩
def oH(r:Rp)(m:Mg):En:=⟨r.k.last+1,r.k.view,-m.src,m.seq,m.op.k,m.op.h,m.op.i,m.op.n,m.op.m,m.op.v,m.op.t⟩
def Cs(last commit:Int)(e:En):Mg:={sZ with kind:=3,number:=last,commit:=commit,es:=[e]}
def nA(k:Kd)(e:En):Bool:=decide (e.n=k.last+1)&&(decide (k.es.length<4000)&&dY (k.add e))
def Wp.req(q:Wp)(m:Mg):Option Wp:=
 if aG (-m.src) 1 4=true∧aG m.seq 1 1000000=true then
  if gO q.r=true then
   if m.seq<(cJ (-m.src) q.r.st.rows).s then some (q.send (qX m.src m.seq 130 0 true))
   else if (cJ (-m.src) q.r.st.rows).s=m.seq then some (q.send (qX m.src m.seq (cJ (-m.src) q.r.st.rows).k (cJ (-m.src) q.r.st.rows).v true))
   else if q.r.k.es.length<3000∧yM q.r.k q.r.commit (-m.src) m.seq=false then
    if nA q.r.k (oH q.r m)=true then some ((q.keep (oH q.r m)).tell (Cs q.r.k.last q.r.commit (oH q.r m))) else none
   else some q
  else some (q.send (qX m.src m.seq 0 0 false))
 else some q
def nB(r:Rp)(m:Mg):Bool:=
 ((aG m.src 1 r.nodes&&(!decide (m.src=r.id)&&(aG m.total 0 65536&&decide (m.es.length≤2000))))&&(aG m.view 0 800000000&&(aG m.number 0 800000000&&(aG m.base 0 800000000&&(aG m.commit 0 800000000&&(aG m.normal 0 800000000&&aG m.offset 0 800000000))))))&&
  (decide (r.k.view≤m.view)&& !(m.es.any fun e=> !dQ e))
def vH(m:Mg)(number offset:Int):Mg:={sZ with kind:=8,dst:=m.src,view:=m.view,number:=number,offset:=offset}
def okM(d0 number:Int):Mg:={sZ with kind:=4,dst:=d0,number:=number}
def gI(id view:Int):St→List En→St×List Mg
 |s,[]=>(s,[])
 |s,e::l=>((gI id view (eE s e).1 l).1,(if e.c=0 then [] else [{sZ with kind:=2,src:=id,dst:= -e.c,view:=view,seq:=e.s,code:=(eE s e).2.1,value:=(eE s e).2.2,ok:=true}])++(gI id view (eE s e).1 l).2)
def kN(k:Kd)(number most:Int):List En:=if most<1∨k.last≤number then [] else (k.es.drop (number-k.base).toNat).take most.toNat
def Wp.reach(q:Wp)(n:Int):Option Wp:=
 if n≤q.r.commit∨q.r.k.last<n then some q else if 8≤n-q.r.k.base then none else
  some ⟨{q.r with st:=(gI q.r.id q.r.k.view q.r.st (kN q.r.k q.r.commit (n-q.r.commit))).1,commit:=n},q.rs,q.ms++if gO q.r=true then (gI q.r.id q.r.k.view q.r.st (kN q.r.k q.r.commit (n-q.r.commit))).2 else []⟩
def Wp.agree(q:Wp)(m:Mg):Option Wp:=(q.reach (min m.commit q.r.k.last)).map fun q=>q.send (okM m.src q.r.k.last)
def Wp.keeps(q:Wp):List En→Option Wp
 |[]=>some q
 |e::l=>if nA q.r.k e=true then (q.keep e).keeps l else none
def kO(k:Kd)(number:Int)(l:List En):Bool:=aG number 0 k.last&&eO number l
def Wp.timed(q:Wp)(t:Int):Wp:=⟨{q.r with timer:=t},q.rs,q.ms⟩
def Wp.prep(q:Wp)(m:Mg):Option Wp:=
 if m.view=q.r.k.view∧gN q.r=true then
  if iQ q.r=true then some q else
   if kO q.r.k m.number m.es=true then ((q.timed 0).keeps (m.es.filter fun e=>decide (q.r.k.last<e.n))).bind fun q=>q.agree m
   else some ((q.timed 0).of (vH m q.r.k.last 0))
 else some ((q.timed 0).of (vH m q.r.commit 0))
def qY(l:List Ak)(n:Int):Option (List Ak):=if l=[]∧n=2 then some [⟨2,1⟩] else if l=[⟨2,1⟩]∧n=3 then some [⟨2,1⟩,⟨3,1⟩] else none
def Wp.okay(q:Wp)(m:Mg):Option Wp:=
 if m.view=q.r.k.view∧gN q.r=true∧iQ q.r=true∧m.number≤q.r.k.last then
  if q.r.nodes=3∧q.r.k.last=1∧m.number=1 then (qY q.r.acks m.src).bind fun l=>Wp.reach ⟨{q.r with acks:=l},q.rs,q.ms⟩ 1 else none
 else some q
def Wp.heard(q:Wp)(m:Mg):Option Wp:=
 if m.dst≠q.r.id then some q else if m.kind=1 then q.req m else if 3≤m.kind∧m.kind≤10∧nB q.r m=true then if m.kind=3 then q.prep m else if m.kind=4 then q.okay m else none else some q
def nC(r:Rp)(m:Mg):Option (Rp×List Rc×List Mg):=(Wp.heard ⟨r,[],[]⟩ m).map fun q=>(q.r,q.rs,q.ms)
structure WpS(q:Wp):Prop where
 nodes:3≤q.r.nodes∧q.r.nodes≤7
 kept:dY q.r.k=true
 kr:KdR q.r.k
 img:q.r.k.image.size≤1000000
 top:q.r.k.last≤900000000
 st:stB q.r.st=true
 rs:q.rs.length≤4000
 ms:q.ms.length≤1000
theorem WpS.log{q:Wp}(S:WpS q):(0≤q.r.k.base∧q.r.k.base≤900000000)∧q.r.k.es.length≤4000∧0≤q.r.k.last∧(0≤q.r.k.view∧q.r.k.view≤900000000):=by
 obtain⟨s,h⟩:=mW.1 S.kept;have a:=h.base;have b:=h.len;refine⟨a,by omega,?_,h.view⟩;unfold Kd.last;omega
theorem Yf{x:En}(h:dQ x=true):1≤x.n∧x.n≤900000000:=by
 unfold dQ aG at h;simp only[bH,bR]at h;exact h.1
theorem Kd.add_last(k:Kd)(e:En):(k.add e).last=k.last+1:=by
 unfold Kd.add Kd.last;simp only[bF,lH];omega
theorem WpS.keep{q:Wp}{e:En}(S:WpS q)(d:enR e)(b:nA q.r.k e=true)(j:q.rs.length<4000):WpS (q.keep e):=by
 unfold nA at b;simp only[bH,bR]at b;obtain⟨g,h,c⟩:=b;obtain⟨s,f⟩:=mW.1 c;have i:=Yf (f.may e (by unfold Kd.add; simp));refine⟨S.nodes,c,fun x a=>?_,S.img,?_,S.st,?_,S.ms⟩
 .rcases cV.1 a with a|a
  .exact S.kr x a
  .rw[bZ.1 a]; exact d
 .show (q.r.k.add e).last≤_;rw[Kd.add_last]; omega
 .show (q.rs++[tA e]).length≤_;simp; omega
structure MgR(m:Mg):Prop where
 src:inR m.src
 seq:inR m.seq
 op:inR m.op.k∧inR m.op.h∧inR m.op.i∧inR m.op.n∧inR m.op.m∧inR m.op.v∧inR m.op.t
section
variable {q r:Wp}{m:Mg}
theorem Wp.req_out(h:q.req m=some r)(a:¬(aG (-m.src) 1 4=true∧aG m.seq 1 1000000=true)):q=r:=by
 unfold Wp.req at h; rw[aF a]at h; exact Option.some.inj h
theorem Wp.req_far(h:q.req m=some r)(b:aG (-m.src) 1 4=true∧aG m.seq 1 1000000=true)(a:gO q.r=false):q.send (qX m.src m.seq 0 0 false)=r:=by
 unfold Wp.req at h; rw[aK b,a]at h; exact Option.some.inj h
theorem Wp.req_old(h:q.req m=some r)(c:aG (-m.src) 1 4=true∧aG m.seq 1 1000000=true)(b:gO q.r=true)(a:m.seq<(cJ (-m.src) q.r.st.rows).s):q.send (qX m.src m.seq 130 0 true)=r:=by
 unfold Wp.req at h; rw[aK c,aK b,aK a]at h; exact Option.some.inj h
theorem Wp.req_same(h:q.req m=some r)(d:aG (-m.src) 1 4=true∧aG m.seq 1 1000000=true)(c:gO q.r=true)(a:¬m.seq<(cJ (-m.src) q.r.st.rows).s)(b:(cJ (-m.src) q.r.st.rows).s=m.seq):
  q.send (qX m.src m.seq (cJ (-m.src) q.r.st.rows).k (cJ (-m.src) q.r.st.rows).v true)=r:=by
 unfold Wp.req at h; rw[aK d,aK c,aF a,aK b]at h; exact Option.some.inj h
theorem Wp.req_new(h:q.req m=some r)(f:aG (-m.src) 1 4=true∧aG m.seq 1 1000000=true)(e:gO q.r=true)(b:¬m.seq<(cJ (-m.src) q.r.st.rows).s)(c:¬(cJ (-m.src) q.r.st.rows).s=m.seq)
  (d:q.r.k.es.length<3000∧yM q.r.k q.r.commit (-m.src) m.seq=false):nA q.r.k (oH q.r m)=true∧(q.keep (oH q.r m)).tell (Cs q.r.k.last q.r.commit (oH q.r m))=r:=by
 unfold Wp.req at h; rw[aK f,aK e,aF b,aF c,aK d]at h
 by_cases a:nA q.r.k (oH q.r m)=true
 .rw[aK a]at h; exact⟨a,Option.some.inj h⟩
 .rw[aF a]at h; cases h
theorem Wp.req_no(h:q.req m=some r)(e:aG (-m.src) 1 4=true∧aG m.seq 1 1000000=true)(d:gO q.r=true)(a:¬m.seq<(cJ (-m.src) q.r.st.rows).s)(b:¬(cJ (-m.src) q.r.st.rows).s=m.seq)
  (c:¬(q.r.k.es.length<3000∧yM q.r.k q.r.commit (-m.src) m.seq=false)):q=r:=by
 unfold Wp.req at h; rw[aK e,aK d,aF a,aF b,aF c]at h; exact Option.some.inj h
end
theorem Yg{q:Wp}{m:Mg}(S:WpS q)(R:MgR m)(a:aG (-m.src) 1 4=true):enR (oH q.r m):=by
 have h:=S.log;have b:=S.top;unfold aG at a;simp only[bH,bR]at a;exact⟨⟨by show _≤q.r.k.last+1; omega,by show q.r.k.last+1≤_; omega⟩,⟨by show _≤q.r.k.view; omega,by show q.r.k.view≤_; omega⟩,⟨by show _≤ -m.src; omega,by show -m.src≤_; omega⟩,R.seq,R.op⟩
def rN(id:Int):Rp:=⟨id,3,kd3,0,st3,0,[],[],[],iR⟩
def aJ:En:=⟨1,0,1,1,1,0,0,0,0,0,0⟩
end
end Go.Proofs.YtoncgpddjmgbfaaGreat
