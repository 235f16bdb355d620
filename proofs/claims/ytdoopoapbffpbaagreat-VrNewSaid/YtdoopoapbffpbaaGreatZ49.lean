import Derived.Test.YtdoopoapbffpbaaGreatZ47
import Derived.Test.YtdoopoapbffpbaaGreatZ48
namespace Go.Proofs.YtdoopoapbffpbaaGreat
open Go.RowKit Go.Proofs.Tryz
set_option maxRecDepth 100000
set_option maxHeartbeats 12800000
set_option linter.unusedVariables false
set_option linter.unusedSimpArgs false
section
attribute [-go_sem] loadCellsFrom storeCells run_eql_struct run_neq_struct
attribute [local go_sem] bC MgV.fold fF
theorem aAT{tl:List Value}{g base:Nat}(p:WkV)(ps:List ObV)(m:MgV)(w:World)(h:WkO w base g 109 tl p ps)(hm:Ow w base 46 11 m.ev En.cells m.es)(T:p.ms.length<1000000)(s:base≤w.heap.size)(R:m.kind≠0)(hl:m.es.length≤1000000):
  Calls prog 159 #[.pointer (some ⟨g,0,none⟩),.agg m.cells.toArray] w fun e w'=>e=.returned (.tuple #[])∧∃ev v',WkO w' base g 109 tl ⟨p.r,p.rs,p.rv,p.ms++[(m.frm p.r.id).own ev],v'⟩ ps∧Chg (fun i=>i=g∨p.mv.ownBlock=some i) w w'∧(∀k,v'.ownBlock=some k→p.mv.ownBlock=some k∨w.heap.size≤k):=by
 obtain⟨Z,l1,V,b1,z1⟩:=par w 55 m.cells;have O:=h.below b1;have q0:=O.blk.cell 0;change _=some (Value.i p.r.id)at q0;have q1:=V.cell 1;have q2:=V.frozen 1;change _=some (Value.i m.src)at q1;have x2:Blk (Z.setCell ⟨w.heap.size,1,none⟩ (.i p.r.id)) w.heap.size 55 (m.frm p.r.id).cells:=V.setCell 1 _;have c2:=(Chg.refl (fun i=>i=w.heap.size) Z).setCell (.inr rfl) 1 (.i p.r.id);have o0:=kp s;obtain⟨J,p0⟩:∃W,Z.setCell ⟨w.heap.size,1,none⟩ (.i p.r.id)=W:=⟨_,rfl⟩
 rw[p0]at x2 c2;have b2:Bw' w J:=b1.trans (c2.below (B:=w.heap.size) (fun i j=>by omega) (by omega));have z:=k'5 x2 b2 h hm (eA z1 c2.size);have HN:=kp T;have HL:=k'2 R hl;have e1:=kp (aAG J);have F:∀ev,((m.frm p.r.id).own ev).es=m.es:=fun _=>rfl;clear h O b1 b2 z1 V x2 c2 hm T s R hl;go_enter func159,ntmps159;go_wp2_with fail;refine (e1.o).mono ?_;rintro e M ⟨rfl,g0,a0⟩;have x3:=z.a.grow a0;have l3:=x3.load (P:=prog) (k:=23) rfl;have aS:=ba' M (.cells (m.frm p.r.id).cells.toArray 55);have s4:=eQ (enc:=MgV.cells) M 55 (m.frm p.r.id);have z4:(M.alloc (.cells (m.frm p.r.id).cells.toArray 55)).heap.size=M.heap.size+1:=by simp
 obtain⟨W4,y0⟩:∃W,M.alloc (.cells (m.frm p.r.id).cells.toArray 55)=W:=⟨_,rfl⟩
 rw[y0]at aS s4 z4;have b0:=z.b.on (a0.on aS);have z0:=(z.d.below b0).sl eL;have g1:=kp (aAL (m.frm p.r.id) W4.heap.size W4 (g0.grow aS) (z4▸s4) (aD _) z0 HL.B HL.a);have I:=k'3 (x3.grow aS) b0 (show J.heap.size<W4.heap.size from eA g0.lt aS.size);clear x3 aS s4 z4 b0 z0 g0 a0;go_wp2_with fail;refine (g1.o).mono ?_;rintro e w5 ⟨rfl,ev,v,j0,m0,e0,d0⟩;have j1:=kp (aAN ((m.frm p.r.id).own ev) w5 j0 m0 e0.one);have l0:J.heap.size≠w.heap.size:=by have:=z.E; omega
 have x5:=I.a.chg d0 (bL l0);have b5:=I.b.trans (d0.below (B:=w.heap.size) (fun i j=>by have:=z.E; omega) I.b.size);have y:=k'5 x5 b5 e0 m0 j0;clear x5 b5 e0 m0 d0 j0 l3 y0;go_wp2_with fail;refine mb' (j1.o) fun w6 Q=>?_;have hv:=fun i j=>(y.d.lt (i:=i) j).1;have d2:=I.b.size;have l0:=z.E;have G:¬(w.heap.size=J.heap.size∨v.ownBlock=some w.heap.size):=fun j=>by
  rcases j with j|j
  .omega
  .have:=hv _ j; have:=I.C; omega
 have x6:=y.a.chg Q G;have b6:=y.b.trans (Q.below (B:=w.heap.size) (fun i j=>by
  rcases j with j|j
  .omega
  .have:=hv _ j; omega) y.b.size)
 have e6:=y.c.chg Q fun i e j=>by
  rcases j with j|j
  .exact y.c.ne_blk y.E (by decide) (j▸e)
  .exact y.c.apt y.d (by decide) i e j
 obtain⟨W7,e2,s7,X,c7⟩:=x6.put ((m.frm p.r.id).own ev).cells rfl (nV (p:=(m.frm p.r.id).own ev) e6.one);have b7:=b6.trans (c7.below (B:=w.heap.size) (fun i j=>by omega) b6.size);have e7:=(e6.chg_blk x6 c7 (by decide)).mono (base2:=base) (aB o0.o I.b.size);have L:=z.c.below b7;have HO:=kp (fun i j=>(z.c.ms.lt (i:=i) j).2);have d1:=kp (show ¬p.mv.ownBlock=some w.heap.size from fun j=>absurd (z.c.ms.lt j).2 (wH _));have F:∃l,(m.frm p.r.id).own ev=l:=⟨_,rfl⟩
 obtain⟨l,F⟩:=F;rw[F]at X s7 ⊢;rw[show ev=l.ev from F▸rfl,show (m.frm p.r.id).es=l.es from F▸rfl]at e7;have n:=k'4 L b7 X e7;have a1:=kp F;have N:=kp (fun W(f:Chg (fun i=>p.mv.ownBlock=some i) W7 W∧Ow W base 55 23 p.mv MgV.cells p.ms)=>jQ (L.blk.chg f.1 (L.ms.ne_blk L.blk (by decide))) (X.chg f.1 d1.o));clear x6 b6 e6 X c7 b7 e7 L G l0 d2 hv Q F q0 q1 q2 l1 p0;go_wp2_with fail;refine kU 12 (fun W=>Chg (fun i=>p.mv.ownBlock=some i) W7 W∧Ow W base 55 23 p.mv MgV.cells p.ms) (kD 8 fun i=>p.mv.ownBlock=some i) (by kernel_rfl) (by kernel_rfl) ⟨(Chg.refl _ _).drew,n.a.ms.below (bR (aL _ _))⟩ ?_
 iterate 7 (refine bO ?_; apply Exists.intro)
 refine bS (fun u W=>∃b,u=.slice (some ⟨b,0,none⟩) 1 1∧(b<W.heap.size∧p.mv.ownBlock≠some b)∧Sl W (b+1) u MgV.cells [l]) ?_;refine bS (fun u W=>Ow W base 55 23 u MgV.cells (p.ms++[l])∧∀k,u.ownBlock=some k→p.mv.ownBlock=some k∨w.heap.size≤k) ?_
 iterate 3 (refine bO ?_; apply Exists.intro)
 refine dR ⟨?pers,?walk⟩
 case walk=>
  iterate 5
   apply Sz (by kernel_rfl) (by intro t w h; cases h; exact trivial) rfl
   .intro W f A; go_wp2_with fail;exact⟨rfl,_,rfl,f,fQ (by decide) (aL _ _),rfl⟩
   simp only[Act.put,aN,aH,aI]
  apply Sz (by kernel_rfl) (by intro t w h; cases h; exact trivial) rfl
  .intro W f A; have q:=(N.o W f).1.cell 27; rw[zG]at q; go_wp2_with fail;exact⟨rfl,_,rfl,f,fQ (by decide) (aL _ _),rfl⟩
  simp only[Act.put,aN,aH,aI];apply Sz (by kernel_rfl) (by intro t w h; cases h; exact trivial) rfl
  .intro W f A; have q:=(N.o W f).2.load (P:=prog) (k:=23) rfl; go_wp2_with fail;exact⟨rfl,_,rfl,f,fQ (by decide) (aL _ _),rfl⟩
  simp only[Act.put,aN,aH,aI];refine⟨fun W f A=>?_,fun u7=>?_⟩
  .go_wp2_with fail;have U:=eQ (enc:=MgV.cells) W 55 (l);have hc:=jQ (f.1.alloc (.cells (l).cells.toArray 55)) (f.2.alloc (.cells (l).cells.toArray 55));have H:=fQ (e:=8) (k:=7) (S:=fun i=>p.mv.ownBlock=some i) (by decide) (ba' W (.cells (l).cells.toArray 55));have s:W.heap.size<(W.alloc (.cells (l).cells.toArray 55)).heap.size:=by simp
   have T:¬p.mv.ownBlock=some W.heap.size:=fun he=>by have:=(f.2.lt he).2; omega
   generalize W.alloc (.cells (l).cells.toArray 55)=W' at U hc H s ⊢;exact⟨rfl,_,rfl,hc,H,_,rfl,⟨s,T⟩,U⟩
  simp only[Act.put,aN,aH,aI];refine⟨fun W f A=>?_,fun u8=>?_⟩
  .have f7:=A 32 (bT (by kernel_rfl));obtain⟨b,rfl,g2,a2⟩:=f7;have m1:base≤W.heap.size:=aB o0.o (aB n.b.size f.1.size);have j2:=(n.a.mse)
   go_wp2_with (at_builtin; refine mO (enc:=MgV.cells) W rfl (.tmp 30) (.tmp 32) 62 rfl base 55 zF wS rfl (by omega) fF f.2 rfl a2 rfl (fun a ha=>by rw[bQ.1 ha]; exact nV (p:=l) (Ow.one n.D)) ?_ ?_ m1 ?_)
   .have:=HN.o; unfold maxLen; show p.ms.length+1≤_; omega
   .have:=HN.o; show (p.ms.length+1)*208≤_; omega
   intro v' W3 ho y1 hg o1;exact⟨rfl,_,rfl,⟨f.1.trans (fZ hg) (fun _ _ h=>h),y1⟩,rK (fZ hg),ho,fun k R=>(o1 k R).imp id (aB (aB n.b.size f.1.size))⟩
  simp only[Act.put,aN,aH,aI]
  iterate 3
   apply Sz (by kernel_rfl) (by intro t w h; cases h; exact trivial) rfl
   .intro W f A; go_wp2_with fail;exact⟨rfl,_,rfl,f,fQ (by decide) (aL _ _),rfl⟩
   simp only[Act.put,aN,aH,aI]
  intro W f A;have K:=A 33;obtain⟨K,f9⟩:=K;have q:=(N.o W f).1.cell 27;have qf:=(N.o W f).1.frozen 27;rw[zG]at q;have hw:=n.a.told (.inl rfl) f.1 K (fun x G=>by
   rcases dF.1 G with G|G
   .exact (n.a.mse x G).chg_row n.a.ms f.1 (by decide)
   .rw[bQ.1 G];exact (n.D).chg_row n.a.ms f.1 (by decide))
  have Y:=kp hw;have H9:=kp f9;obtain⟨A8,c8,rfl,_,_⟩:=eD K;rw[bB,uC]at Y H9;clear A f K f9 hw;go_wp2_with fail;go_end0;refine⟨rfl,ev,_,a1.o▸Y.a,?_,H9.o⟩;exact (Chg.of_below n.b).trans Y.B fun _ _ h=>h
 case pers=>
  refine⟨pv',pv',pv',pv',pv',pv',pv',?_,?_,pv',pv',pv',trivial⟩
  .rintro i u W W' _ ⟨b,rfl,s,U⟩ H;exact⟨b,rfl,⟨eA s.1 (nO H).size,s.2⟩,vK U (nO H) s.2 s.1⟩
  .rintro i u W W' p1 ⟨O,h2⟩ H;exact⟨O.below (rL H p1),h2⟩
theorem aAU{A:List Value}{g base:Nat}(p:WkV)(ps:List ObV)(m:MgV)(w:World)(h:WkO w base g 109 A p ps)(y:Ow w base 46 11 m.ev En.cells m.es)(z:p.ms.length<1000000)(s:base≤w.heap.size)(b:m.kind≠0)(x:m.es.length≤1000000):
  Calls prog 106 #[.pointer (some ⟨g,0,none⟩),.agg m.cells.toArray] w fun e C=>e=.returned (.tuple #[])∧∃ev v',WkO C base g 109 A ⟨p.r,p.rs,p.rv,p.ms++[((m.seen p.r.k.view).frm p.r.id).own ev],v'⟩ ps∧Chg (fun i=>i=g∨p.mv.ownBlock=some i) w C∧(∀k,v'.ownBlock=some k→p.mv.ownBlock=some k∨w.heap.size≤k):=by
 obtain⟨d,M,c,f,L⟩:=par w 55 m.cells;have q:=h.below f;have I:=q.blk.cell 2;change _=some (Value.i p.r.k.view)at I;have J:=c.cell 3;have O:=c.frozen 3;change _=some (Value.i m.view)at J;have j:Blk (d.setCell ⟨w.heap.size,3,none⟩ (.i p.r.k.view)) w.heap.size 55 (m.seen p.r.k.view).cells:=c.setCell 3 _;have c2:=(Chg.refl (fun i=>i=w.heap.size) d).setCell (.inr rfl) 3 (.i p.r.k.view);obtain⟨n,E⟩:∃W,d.setCell ⟨w.heap.size,3,none⟩ (.i p.r.k.view)=W:=⟨_,rfl⟩
 rw[E]at j c2;have a:Bw' w n:=f.trans (c2.below (B:=w.heap.size) (fun i N=>by omega) (by omega));have l2:=j.load (P:=prog) (k:=23) rfl;have D:=kp (aAT p ps (m.seen p.r.k.view) n (h.below a) (y.below a) z (aB s a.size) b x);have l:=kp a;clear h q f a L c j c2 y z s b x;go_enter func106,ntmps106;go_wp2_with fail;refine (D.o).mono ?_;rintro e Q ⟨rfl,ev,K,H,F,G⟩;go_wp2_with fail;go_end0;exact⟨rfl,ev,K,H,(Chg.of_below l.o).trans F fun _ _ h=>h,fun k b=>(G k b).imp id (aB l.o.size)⟩
end
section
attribute [-go_sem] loadCellsFrom storeCells run_eql_struct run_neq_struct Instr.build
attribute [local go_sem] bC MgV.fold fF Nt Nu
theorem Ei(a:Fn)(first cap:Array Value)(w:World):(Instr.makeFunc a first cap).run prog w=.ok (.func a first cap) w:=rfl
attribute [local go_sem] Ei
theorem jY.below{q W W':World}{base g i k:Nat}{t:TypeId}{j:List Value}{p:WkV}{ps:List ObV}{m:MgV}{l:List MgV}{v:Value}{d:Int}(h:jY q W base g i t j p ps m k l v d)(a:Bw' W W'):jY q W' base g i t j p ps m k l v d:=
 ⟨h.x,h.n,h.o.below a,h.b.grow a,h.e.below a,h.c.trans (Chg.of_below (S:=fun _=>False) a) fun _ _ h=>h.elim,h.f⟩
theorem Nr(g:Nat)(w:World):Calls prog 58 #[.pointer (some ⟨g,0,none⟩)] w fun e d=>e=.returned (.func (.func 105) #[] #[.pointer (some ⟨w.heap.size,0,none⟩)])∧Blk d w.heap.size 107 [.pointer (some ⟨g,0,none⟩)]∧Bw' w d:=by
 have c:=Blk.new w 107 [.pointer (some ⟨g,0,none⟩)];have b:=k'2 c (ba' w (.cells #[.pointer (some ⟨g,0,none⟩)] 107));clear c;go_enter func58,ntmps58;go_wp2_with fail;go_ret;exact⟨rfl,b.a,b.B⟩
theorem Ns{K:List Value}{g B base n:Nat}(p:WkV)(ps:List ObV)(m:MgV)(w:World)(h:WkO w base g 109 K p ps)(I:Blk w B 107 [.pointer (some ⟨g,0,none⟩)])(hm:Ow w base 46 11 m.ev En.cells m.es)(hn:p.ms.length≤1000)(hb:base≤w.heap.size)(o0:p.r.nodes=n)(q0:n≤1000)(g0:m.es.length≤1000000)(X:m.kind≠0):
  Calls prog 105 #[.agg m.cells.toArray,.pointer (some ⟨B,0,none⟩)] w fun e w'=>e=.returned (.tuple #[])∧∃l,l.map (·.x)=sJ p m n∧l.length≤n∧∃v',WkO w' base g 109 K ⟨p.r,p.rs,p.rv,p.ms++l,v'⟩ ps∧Chg (fun i=>i=g∨p.mv.ownBlock=some i) w w'∧(∀k,v'.ownBlock=some k→p.mv.ownBlock=some k∨w.heap.size≤k):=by
 obtain⟨z,l0,x1,A,z1⟩:=par w 55 m.cells;have U:=(show jY z z base g w.heap.size 109 K p ps m 0 [] p.mv m.dst from⟨rfl,aD _,by rw[fS]; exact h.below A,x1,hm.below A,Chg.refl _ _,fun _ h=>.inl h⟩)
 have HI:=kp U;have d0:B≠g:=fun e=>by
  have h1:=h.blk;rw[←e]at h1;have h2:=h1.symm.trans I;simp at h2
 have e0:p.mv.ownBlock≠some B:=h.ms.ne_blk I (by decide);have m0:=I.lt;have HB:=kp (fun(W:World)(hc:Chg (fun i=>i=g∨p.mv.ownBlock=some i∨i=w.heap.size) z W)=>(I.grow A).chg hc fun e=>by
  rcases e with e|e|e
  .exact d0 e
  .exact e0 e
  .omega)
 have s:=k'5 h.blk.lt (fun j V=>(h.ms.lt (i:=j) V).2) (show z.heap.size=w.heap.size+1 by rw[←l0]; simp) A hb;have S:=k'3 hn g0 X;have N:z.cell? ⟨B,0,none⟩=some (.pointer (some ⟨g,0,none⟩)):=(I.grow A).cell 0;have O:z.cell? ⟨g,1,none⟩=some (.i n):=by
  have q:=(h.below A).blk.cell 1;rw[show (WkV.cells p K)[1]? =some (.i p.r.nodes) from rfl,o0]at q;exact q
 clear h U A z1 x1 hm hn g0 hb X d0 e0 m0 I;go_enter func105,ntmps105;go_wp2_with fail;clear N O
 go_loopw [9] (fun i wr=>∃k:Nat,k≤n∧i=.i k∧∃l v d,jY z wr base g w.heap.size 109 K p ps m k l v d) (fun i _=>n-(intOf i).toNat)
 case atStart=>exact⟨0,by omega,rfl,_,_,_,HI.o⟩
 case round=>
  obtain⟨k,X,rfl,l,v,d,D⟩:=hrel;have H:=kp D
  by_cases p0:k<n
  .have g3:(k:Int)<(n:Int):=by omega
   have Y:=D.b.cell 2;change _=some (Value.i d)at Y;have f2:=D.b.frozen 2;have G:=D.store s.a s.b ((k:Int)+1);obtain⟨L,T⟩:∃W,wr.setCell ⟨w.heap.size,2,none⟩ (.i ((k:Int)+1))=W:=⟨_,rfl⟩
   rw[T]at G;have N:=aP (show L.cell? ⟨B,0,none⟩=some (.pointer (some ⟨g,0,none⟩)) from (HB.o L G.c).cell 0);have O:=aP (show L.cell? ⟨g,0,none⟩=some (.i p.r.id) from G.o.blk.cell 0);have k2:=aP (show L.cell? ⟨w.heap.size,2,none⟩=some (.i ((k:Int)+1)) from G.b.cell 2);have Z:=kp G;clear D G
   by_cases F:(k:Int)+1=p.r.id
   .have g5:(((k:Int)+1) != p.r.id)=false:=by simpa using F
    have R:=kp F;clear F;go_wp2_with fail;refine bJ (by kernel_rfl) (by kernel_rfl) ?_
    repeat (go_big_quiet_step (fail))
    refine bH ?_;rintro M ⟨⟨_,J⟩,rfl⟩;have Q:=kp ((Z.o.below J).skip R.o);clear J N O k2 Y f2 T;go_wp2_with fail;go_roundw
    case rel=>exact⟨k+1,by omega,by go_num,_,_,_,Q.o⟩
    case measure=>simp[intOf]; omega
   .have g5:(((k:Int)+1) != p.r.id)=true:=by simpa using F
    have R:=kp F;clear F;go_wp2_with fail;refine bJ (by kernel_rfl) (by kernel_rfl) ?_
    repeat (go_big_quiet_step (fail))
    refine bH ?_;rintro M ⟨⟨_,J⟩,rfl⟩;have y:=Z.o.below J;have l3:=y.b.load (P:=prog) (k:=23) rfl;have p3:M.cell? ⟨B,0,none⟩=some (.pointer (some ⟨g,0,none⟩)):=(HB.o M y.c).cell 0;have HS:=kp (aAU _ ps (m.to ((k:Int)+1)) M y.o y.e (by have:=S.a; have:=y.n; simp only[bB]; omega) (aB s.E (aB s.d.size y.c.size)) S.C S.b);have Q:=kp y;clear y J N O k2 Y f2 T;go_wp2_with fail;refine (HS.o).mono ?_;rintro e w4 ⟨rfl,ev,v4,j0,a0,b0⟩;have HN:=kp (Q.o.sent (ev:=ev) (.inl rfl) s.a s.c s.b (aL _ _) R.o j0 a0 b0);clear j0 a0 b0 l3 p3;go_wp2_with fail;go_roundw
    case rel=>exact⟨k+1,by omega,by go_num,_,_,_,HN.o⟩
    case measure=>simp[intOf]; omega
  .obtain rfl:n=k:=by omega
   have g3:¬(n:Int)<(n:Int):=by omega
   clear D;go_wp2_with fail;go_end0;refine⟨rfl,l,H.o.x,H.o.n,v,H.o.o,((Chg.of_below s.d).trans H.o.c fun i _ h=>h).mono fun i U h=>?_,fun j V=>(H.o.f j V).imp id fun h=>dY h⟩;rcases h with h|h|h
   .exact .inl h
   .exact .inr h
   .omega
theorem aAV{U:List Value}{g base n:Nat}(p:WkV)(ps:List ObV)(f:Int)(w:World)(h:WkO w base g 109 U p ps)(d:p.ms.length≤1000∧p.rs.length<1000000)(s:base≤w.heap.size)(Q:SvV p.r.k (nY f))(O:p.r.nodes=n)(N:n≤1000):
  Calls prog 60 #[.pointer (some ⟨g,0,none⟩),.i f] w fun e V=>e=.returned (.tuple #[])∧∃v sv E l C,l.map (·.x)=(sI p.r.id n).map (nL p.r.id f)∧l.length≤n∧
   WkO V base g 109 U ⟨p.r.turned v sv f,p.rs++[nY f],E,p.ms++l,C⟩ ps∧Chg (fun i=>i=g∨p.rv.ownBlock=some i∨p.mv.ownBlock=some i) w V:=by
 have X:=kp (Nq.2 p ps (nY f) w h (Ow.nil _ _ _ _ _) d.2 s Q);have m:=k'4 d.1 s O N;clear h d s Q O N;go_enter func60,ntmps60;go_wp2_with fail;refine (X.o).mono ?_;rintro e w1 ⟨rfl,v,E,P,L,b0⟩;have Y:=kp (aAB _ ps w1 P);have G:=kp L;clear P L b0;go_wp2_with fail;refine (Y.o).mono ?_;rintro e F ⟨rfl,A,z⟩;have y:base≤F.heap.size:=aB m.b (aB G.o.size z.size);obtain⟨W3,W4,S,s4,q4,f4,J,c4⟩:=A.start (.inl rfl) y;have q0:F.cell? ⟨g,0,none⟩=some (.i p.r.id):=A.blk.cell 0;have S:F.alloc (.cells #[.i p.r.id] 3)=W3:=S;have a0:=kp (Nr g W4);have H:=k'2 J (aB y c4.size);have I:=k'2 z c4;clear A z y J c4;go_wp2_with fail;refine (a0.o).mono ?_;rintro e w5 ⟨rfl,R,q⟩;have Z:=kp (Ns _ ps (Ej 5) w5 (H.a.below q) R (Ow.nil _ _ _ _ _) m.a (aB H.B q.size) m.c m.D (cY _) (by show (5:Int)≠0; decide));have W:=kp q;clear R q;go_wp2_with fail;refine (Z.o).mono ?_;rintro e w6 ⟨rfl,l,M,d,C,K,c6,-⟩;have j:=k'4 M d K c6;clear M d K c6;go_wp2_with fail;go_end0;refine⟨rfl,v,_,E,l,C,?_,j.b,j.c,?_⟩
 .exact j.a
 .exact ((((G.o.mono fun i _ h=>by rcases h with h|h<;>simp[h]).trans (T:=fun i=>i=g) I.a fun i _ h=>.inl h).trans (T:=fun i=>i=g) I.B fun i _ h=>.inl h).trans (T:=fun _=>False) (Chg.of_below W.o) fun i _ h=>h.elim).trans j.D fun i _ h=>h.imp id .inr
end
end Go.Proofs.YtdoopoapbffpbaaGreat
