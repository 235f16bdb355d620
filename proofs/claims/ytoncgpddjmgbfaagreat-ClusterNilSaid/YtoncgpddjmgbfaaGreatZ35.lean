import Derived.Test.YtoncgpddjmgbfaaGreatZ33
import Derived.Test.YtoncgpddjmgbfaaGreatZ34
namespace Go.Proofs.YtoncgpddjmgbfaaGreat
open Go.RowKit Go.Proofs.Tryz
set_option maxRecDepth 100000
set_option maxHeartbeats 12800000
set_option linter.unusedVariables false
set_option linter.unusedSimpArgs false
section
attribute [-go_sem] loadCellsFrom storeCells run_eql_struct run_neq_struct Instr.build
attribute [local go_sem] aX MgV.fold dA
structure gJ where
 (client seq:Int) (op:Opn) (code value:Int)
def gJ.cells(p:gJ):List Value:=[.i p.client,.i p.seq]++p.op.cells++[.i p.code,.i p.value]
theorem vQ(p:gJ):p.cells.length=11:=rfl
theorem aBy(p:gJ):∀u∈p.cells,u.oneCell'=true:=by
 intro u a;simp only[gJ.cells,Opn.cells,aT,aS,bD,dF,or_false]at a;rcases a with rfl|rfl|rfl|rfl|rfl|rfl|rfl|rfl|rfl|rfl|rfl<;>rfl
theorem gJ.fold(p:gJ):List.foldl (fun(a:Array Value)(x:Value×Nat)=>a.setIfInBounds x.snd x.fst) z'3a p.cells.zipIdx=p.cells.toArray:=by
 simp[gJ.cells,Opn.cells]
attribute [local go_sem] gJ.fold vQ
def mH(c v:Int):gJ:=⟨1,1,opB,c,v⟩
theorem aBz(c v:Int)(w:World):(Instr.build 85 #[(0,.i 1),(1,.i 1),(2,.agg opB.cells.toArray),(3,.agg #[.i c,.i v])]).run prog w=.ok (.agg (mH c v).cells.toArray) w:=run_build w _ _ _ (by kernel_rfl)
def Lk(B:Nat)(m:MgV)(v:Value)(W:World):Prop:=∃a,v=.slice (some ⟨a,0,none⟩) 1 1∧Ow W B 75 23 v MgV.cells [m]
theorem Ll(W:World)(m:MgV):Ow (W.alloc (.cells m.cells.toArray 75)) W.heap.size 75 23 (.slice (some ⟨W.heap.size,0,none⟩) 1 1) MgV.cells [m]:=by
 have:=World.ownsRow_lit (e:=75) (size:=23) W m.cells.toArray 1 (aN _) (by decide) rfl;unfold Ow;rw[show aO MgV.cells [m]=m.cells by simp[aO]];exact this
theorem ClO.cv{W:World}{base g d:Nat}{q:bC}{m:Nat→List ObV}{bv:Value}{k:List MgV}{c:cD}(h:ClO W base g q m d bv k c):∃a o cap,q.cv=.slice (some ⟨a,o,none⟩) 1 cap∧a<W.heap.size∧∀W',Bw' W W'→Sem.run prog (loadCellsFrom ⟨a,o,none⟩ 0 13 #[]) W'=.ok c.cells.toArray W':=by
 obtain⟨a,o,cap,n,e,-,-,-,-,-⟩:=aM.form h.cl (by show 0<1; decide);have e:q.cv=.slice (some ⟨a,o,none⟩) 1 cap:=e;refine⟨a,o,cap,e,(aM.lt h.cl a (by rw[e]; rfl)).2,fun W' f=>?_⟩;have b:=h.cl.below f;rw[e]at b;obtain⟨_,_,j,-,-,i⟩:=iS (P:=prog) (l:=[c]) 13 cD.cells Dd (by decide) (aM.rd b) 0 (by show 0<1; decide)
 cases j;have:=i 0;rw[nQ,dW]at this;exact this
theorem ClO.cset{W:World}{base g d a o cap:Nat}{q:bC}{l:Nat→List ObV}{bv:Value}{k:List MgV}{c:cD}(h:ClO W base g q l d bv k c)(b:q.cv=.slice (some ⟨a,o,none⟩) 1 cap)(c':cD):∃W',Sem.run prog (storeCells ⟨a,o,none⟩ c'.cells 0) W=.ok () W'∧ClO W' base g q l d bv k c'∧ClG base W W'∧Chg (fun i=>i=a) W W':=by
 have f:=h.cl;rw[b]at f;obtain⟨X,e,p⟩:=aM.put (P:=prog) f 0 (by decide) c'.cells rfl (kQ c');rw[nQ,dW]at e;have j:Chg (fun i=>i=a) W (W.setRow a X):=(Chg.refl (fun i=>i=a) W).setRow (.inr rfl) X;obtain⟨m,n⟩:=h.cli (c':=c') (W':=W.setRow a X) (by rw[b]; exact p) (j.mono fun i _ r=>by rw[b,r]; rfl);exact⟨_,e,m,n,j⟩
theorem aBA{base g bg cb o cap:Nat}{q:bC}{ps:Nat→List ObV}{bv:Value}{ms:List MgV}(m:MgV)(w:World)(h:ClO w base g q ps bg bv ms dC)(hv:q.cv=.slice (some ⟨cb,o,none⟩) 1 cap)(hm:yT m)(hl:ms.length+1≤200):
  Calls prog 20 #[.pointer (some ⟨g,0,none⟩),.pointer (some ⟨cb,o,none⟩),.agg m.cells.toArray] w fun e Q=>∃v a1,e=.returned (.tuple #[v,.i 0])∧Sl Q Q.heap.size v gJ.cells [mH m.code m.value]∧ClO Q base g q ps bg a1 ms kR∧ClG base w Q∧∀i j,Blk w i 75 j→some i≠bv.ownBlock→Blk Q i 75 j:=by
 obtain⟨o1,o',m1,z0,o0,p0⟩:=h.cv;rw[hv]at z0
 cases z0;obtain⟨S,p1,x1,Z,z1⟩:=par w 75 m.cells;obtain⟨W2,d0,s2,x2,b2,z2⟩:=eJ S 54 eK dC.cells rfl (kQ dC);unfold eK at d0 s2;have l0:=p0 S Z;have y1:=x1.grow b2;have l1:=x2.load (P:=prog) (k:=13) rfl;have l2:=y1.load (P:=prog) (k:=23) rfl;have HH:=kp (aBx m W2 hm);have r:=k'8 h hl y1 x2 (Z.on b2) z1 z2 o0;have HV:=kp hv;clear h hl x1 x2 y1 Z b2 p0 o0 hv;go_enter func20,ntmps20;go_wp2_with fail;refine mb' (HH.o) fun w5 O=>?_;clear l0 l1 l2;obtain⟨W6,e0,x6,N,Y⟩:=par w5 54 eK;obtain⟨W7,g0,x7,K,z7⟩:=par W6 75 jE;unfold eK at e0;unfold jE at g0;have Y:w5.heap.size<W6.heap.size:=Y;obtain⟨W8,d1,s8,x8,c8⟩:=(x6.grow K).put kR.cells rfl (kQ kR);obtain⟨T,g1,s9,x9,c9⟩:=(x7.chg c8 (by omega)).put jV.cells rfl (fD rfl);have l8:=(x8.chg c9 (by omega)).load (P:=prog) (k:=13) rfl;have I:=r.e.on O;have V:Bw' w T:=(I.on (N.on K)).trans ((c8.below (B:=w.heap.size) (fun i hi=>by have:=I.size; omega) (I.on (N.on K)).size).trans (c9.below (B:=w.heap.size) (fun i hi=>by have:=I.size; omega) (aB (I.on (N.on K)).size c8.size)));have h9:=r.a.below V;have hq:∀{i:Nat}{t:TypeId}{j:List Value},Blk W2 i t j→Blk T i t j:=fun{i}{t}{j} l=>(((l.grow O).grow (N.on K)).chg c8 (by have:=l.lt; have:=O.size; omega)).chg c9 (by have:=l.lt; have:=O.size; omega);have q0:=hq r.c;have j0:=hq r.d;obtain⟨F,sA,hA,gA,cA⟩:=h9.cset HV.o kR;have X:∀{i:Nat}{t:TypeId}{j:List Value},Blk T i t j→w.heap.size≤i→Blk F i t j:=fun{i}{t}{j} l hi=>l.chg cA (by have:=r.H; omega);have m0:∀{i:Nat}{j:List Value},Blk T i 75 j→Blk F i 75 j:=fun{i}{j} l=>l.chg cA (fun e=>by
  subst e;obtain⟨c0,e⟩:=aM.tag h9.cl (i:=i) (by rw[HV.o]; rfl);have:=l.symm.trans e;injection this with this
  injection this with _ this
  exact absurd this (by decide))
 have b0:=kp (fun i j(l:Blk w i 75 j)=>m0 (l.grow V));have J:=k'5 hA ((ClG.of_below V r.a.sz).trans gA) (X q0 (aN _)) (X j0 (dK r.f)) (X x9 (aB I.size (dK Y)));clear m0 x6 N Y x7 K z7 x8 c8 x9 c9 V h9 hq q0 j0 hA gA cA X I O;go_wp2_with fail;clear s2 d0 s8 d1 s9 g1 sA l8 e0 g0;have L:=bL (aH F.heap.size F);have s:=k'5 L (J.a.below L) (J.c.grow L) (J.d.grow L) (J.E.grow L);clear L;refine fM 6 (fun W'=>Below F.drew.heap.size F.drew W') (fun _=>jK) (by kernel_rfl) (by kernel_rfl) (aH _ _) ?_
 iterate 5 (refine bE ?_; apply Exists.intro)
 refine bJ (Lk F.drew.heap.size jV) ?_;refine cC ⟨?pers,?walk⟩
 case walk=>
  iterate 5
   apply bB (by kernel_rfl) (by intro t w h; cases h; exact trivial) rfl
   .intro W' n U; have k3:W'.cell? ⟨g,233,none⟩=some (.pointer (some ⟨bg,0,none⟩)):=(by have:=(s.b.below n).b.cell 233; rw[bC.c_net,(s.b.below n).net]at this; exact this); have l3:=(s.E.grow n).load (P:=prog) (k:=23) rfl; go_wp2_with fail;exact⟨rfl,_,rfl,n,aH _ _,rfl⟩
   simp only[Act.put,aE,aC,aD]
  refine⟨fun W' n U=>?_,fun u5=>?_⟩
  .go_wp2_with fail;have M:=Ll W' jV;have z:=ba' W' (.cells jV.cells.toArray 75);generalize W'.alloc (.cells jV.cells.toArray 75)=W5 at M z ⊢;exact⟨rfl,.slice (some ⟨W'.heap.size,0,none⟩) 1 1,rfl,n.on z,z,⟨W'.heap.size,rfl,M.mono n.size⟩⟩
  simp only[Act.put,aE,aC,aD];intro WB n U;have f5:=U 35;obtain⟨a5,rfl,a0⟩:=f5;clear U;simp only[bS,bU];have y:=s.b.below n;have HP:=kp (Dg WB y.bag a0 (fun x hx=>by rw[bZ.1 hx]; exact⟨Ow.nil _ _ _ _ _,dJ _⟩) (fun k l e=>by have h1:=(a0.lt l).1; have h2:=(aM.lt s.b.bag.row k e).2; omega) y.sz rfl r.b (aN _));have A:=k'4 y (s.c.grow n) (s.d.grow n) (J.b.trans (ClG.of_below (s.a.on n) J.a.sz));have HW:=kp n;clear y a0 n;go_wp2_with fail;refine (HP.o).mono ?_;rintro e p ⟨rfl,v',l',G⟩;obtain⟨y,hG⟩:=A.a.put G.b G.c;have j1:l'=[]:=List.map_eq_nil_iff.1 (G.x.trans rfl);subst j1;rw[fG]at y;have tC:∀{i:Nat}{j:List Value},Blk WB i 54 j→Blk p i 54 j:=fun l=>l.tg (A.a.bag.cht G.c) (by unfold kT; decide);have y0:Blk p w.heap.size 75 m.cells:=A.b.chg G.c (fun e=>by
   rcases e with e|e
   .have:=r.a.bag.blk.lt; omega
   .have h2:=A.a.bag.row;exact absurd (aM.lt r.a.bag.row _ e).2 (tP _))
  have W:=tC A.c;have k0:p.cell? ⟨S.heap.size,0,none⟩=some (.i 1):=W.cell 0;have k2:p.cell? ⟨S.heap.size,2,none⟩=some (.i 1):=W.cell 2;have l6:=W.loadOff (P:=prog) 6 7 opB.cells rfl rfl;have a2:=y0.loadOff (P:=prog) 20 2 [.i m.code,.i m.value] rfl rfl;have q1:=aBz m.code m.value p;have R:=k'3 y (A.D.trans hG) (fun i j(l:Blk w i 75 j)(hn:some i≠bv.ownBlock)=>show Blk p i 75 j from (((b0.o i j l).grow s.a).grow HW.o).chg G.c (fun e=>e.elim (fun e=>(((b0.o i j l).grow s.a).grow HW.o).ne A.a.bag.blk (by decide) e) hn));clear y hG G tC y0 W;go_wp2_with fail;go_ret2;have M:=gG (enc:=gJ.cells) p 85 (mH m.code m.value);have z:=ba' p (.cells (mH m.code m.value).cells.toArray 85);have hz:(p.alloc (.cells (mH m.code m.value).cells.toArray 85)).heap.size=p.heap.size+1:=by simp
  rw[←hz]at M;generalize p.alloc (.cells (mH m.code m.value).cells.toArray 85)=WE at M z ⊢;exact⟨_,v',rfl,M,R.a.below z,R.b.trans (ClG.of_below z R.a.sz),fun i j l hn=>(R.C i j l hn).grow z⟩
 case pers=>exact⟨pv',pv',pv',pv',pv',fun _ _ _ _ _ ⟨a,e,h⟩ hR=>⟨a,e,h.below hR⟩,trivial⟩
def tH:List Value:=[.i 5,.i 0,.i 0,.i 1]++opB.cells
theorem aBB{a:Nat}(w:World)(h:Blk w a 27 tH):
  Calls prog 22 #[.agg dZ.cells.toArray,.pointer (some ⟨a,0,none⟩)] w fun e N=>e=.returned (.tuple #[.agg dC.cells.toArray,.agg fP.cells.toArray,.i 0])∧Bw' w N:=by
 obtain⟨n,S,s,r,C⟩:=par w 54 dZ.cells;obtain⟨q,G,x,m,l⟩:=par n 54 eK;obtain⟨F,H,y,g,O⟩:=par q 75 jE;unfold eK at G;unfold jE at H;have l:n.heap.size<q.heap.size:=l;have d:=r.on (m.on g);have J:=(s.grow (m.on g)).load (P:=prog) (k:=13) rfl;have K:=(h.grow d).loadOff (P:=prog) 4 7 opB.cells rfl rfl;have D:=kp (aBw F);have f:=k'5 (x.grow g) y d C l;clear h s x y r m g d C l O;go_enter func22,ntmps22;go_wp2_with fail;refine mb' (D.o) fun X j=>?_;obtain⟨Q,T,V,z,c5⟩:=(f.a.grow j).put dC.cells rfl (kQ dC);obtain⟨R,U,W,A,c6⟩:=((f.b.grow j).chg c5 (by have:=f.o; omega)).put fP.cells rfl (fD (p:=fP) rfl);have L:=(z.chg c6 (by have:=f.o; omega)).load (P:=prog) (k:=13) rfl;have M:=A.load (P:=prog) (k:=23) rfl;have d:=f.c.on j;have E:=kp (d.trans ((c5.below (B:=w.heap.size) (fun i I=>by have:=f.o; omega) d.size).trans (c6.below (B:=w.heap.size) (fun i I=>by have:=f.o; omega) (aB d.size c5.size))));clear z c5 A c6 d j J K;go_wp2_with fail;exact bI (v:=.tuple #[.agg dC.cells.toArray,.agg fP.cells.toArray,.i 0]) (by simp[results,results22,go_sem,L,M]) rfl ⟨rfl,E.o⟩
structure TwA(Wa:World)(t1 t2:TypeId)(c1 c2:List Value)(ka kb ks kt:Nat)(X:Nat→Option Value)(W:World):Prop where
 b:Bw' Wa W
 a1:∀z,X ka=some z→∃a cs,z=.pointer (some ⟨a,0,none⟩)∧Wa.heap.size≤a∧Blk W a t1 cs∧cs.length=c1.length∧∀s,X ks=some s→cs=c1
 a2:∀z,X kb=some z→∃a cs,z=.pointer (some ⟨a,0,none⟩)∧Wa.heap.size≤a∧Blk W a t2 cs∧cs.length=c2.length∧∀s,X kt=some s→cs=c2
 s1:∀s,X ks=some s→(X ka).isSome=true
 s2:∀s,X kt=some s→(X kb).isSome=true
section
variable {Wa W W':World}{t1 t2:TypeId}{c1 c2:List Value}{ka kb ks kt j a:Nat}{X:Nat→Option Value}{u:Value}{zs:List Value}
theorem TwA.start:TwA Wa t1 t2 c1 c2 ka kb ks kt (fun _=>none) Wa:=⟨aH _ _,fun _ h=>(nomatch h),fun _ h=>(nomatch h),fun _ h=>(nomatch h),fun _ h=>(nomatch h)⟩
theorem TwA.other(h:TwA Wa t1 t2 c1 c2 ka kb ks kt X W)(i:ka≠j∧kb≠j∧ks≠j∧kt≠j):TwA Wa t1 t2 c1 c2 ka kb ks kt (aY X j u) W:=by
 obtain⟨d,e,f,g⟩:=i;have aJ:=aI (X:=X) (v:=u) d;have aL:=aI (X:=X) (v:=u) e;have a:=aI (X:=X) (v:=u) f;have c:=aI (X:=X) (v:=u) g;exact⟨h.b,by rw[aJ,a]; exact h.a1,by rw[aL,c]; exact h.a2,by rw[a,aJ]; exact h.s1,by rw[c,aL]; exact h.s2⟩
theorem TwA.grow(h:TwA Wa t1 t2 c1 c2 ka kb ks kt X W)(i:Bw' W W'):TwA Wa t1 t2 c1 c2 ka kb ks kt X W':=
 ⟨h.b.on i,fun z j=>let ⟨a,c,e,d,f,g⟩:=h.a1 z j; ⟨a,c,e,d,f.grow i,g⟩,fun z j=>let ⟨a,c,e,d,f,g⟩:=h.a2 z j; ⟨a,c,e,d,f.grow i,g⟩,h.s1,h.s2⟩
theorem TwA.mk1(h:TwA Wa t1 t2 c1 c2 ka kb ks kt X W)(l:X ka=none)(n:zs.length=c1.length)(m:kb≠ka∧ks≠ka∧kt≠ka):TwA Wa t1 t2 c1 c2 ka kb ks kt (aY X ka (.pointer (some ⟨W.heap.size,0,none⟩))) (W.alloc (.cells zs.toArray t1)):=by
 have g:=h.grow (ba' W (.cells zs.toArray t1));obtain⟨i,j,k⟩:=m;have aL:=aI (X:=X) (v:=.pointer (some ⟨W.heap.size,0,none⟩)) i;have d:=aI (X:=X) (v:=.pointer (some ⟨W.heap.size,0,none⟩)) j;have e:=aI (X:=X) (v:=.pointer (some ⟨W.heap.size,0,none⟩)) k;have c:∀s,X ks≠some s:=fun s c=>by have:=h.s1 s c; rw[l]at this; cases this
 refine⟨g.b,fun z f=>?_,by rw[aL,e]; exact g.a2,fun s a=>?_,by rw[e,aL]; exact g.s2⟩
 .rw[fC]at f; cases f;exact⟨_,zs,rfl,h.b.size,Blk.new W t1 zs,n,fun s a=>by rw[d]at a; exact absurd a (c s)⟩
 .rw[d]at a; exact absurd a (c s)
theorem TwA.mk2(h:TwA Wa t1 t2 c1 c2 ka kb ks kt X W)(l:X kb=none)(n:zs.length=c2.length)(m:ka≠kb∧ks≠kb∧kt≠kb):TwA Wa t1 t2 c1 c2 ka kb ks kt (aY X kb (.pointer (some ⟨W.heap.size,0,none⟩))) (W.alloc (.cells zs.toArray t2)):=by
 have g:=h.grow (ba' W (.cells zs.toArray t2));obtain⟨i,j,k⟩:=m;have aL:=aI (X:=X) (v:=.pointer (some ⟨W.heap.size,0,none⟩)) i;have d:=aI (X:=X) (v:=.pointer (some ⟨W.heap.size,0,none⟩)) j;have e:=aI (X:=X) (v:=.pointer (some ⟨W.heap.size,0,none⟩)) k;have c:∀s,X kt≠some s:=fun s c=>by have:=h.s2 s c; rw[l]at this; cases this
 refine⟨g.b,by rw[aL,d]; exact g.a1,fun z f=>?_,by rw[d,aL]; exact g.s1,fun s a=>?_⟩
 .rw[fC]at f; cases f;exact⟨_,zs,rfl,h.b.size,Blk.new W t2 zs,n,fun s a=>by rw[e]at a; exact absurd a (c s)⟩
 .rw[e]at a; exact absurd a (c s)
theorem TwA.put1(h:TwA Wa t1 t2 c1 c2 ka kb ks kt X W)(j:X ka=some (.pointer (some ⟨a,0,none⟩)))(A:t1≠t2)(y:∀u∈c1,u.oneCell'=true)(p:ka≠ks∧kb≠ks∧kt≠ks):
  ∃W',Sem.run prog (storeCells ⟨a,0,none⟩ c1 0) W=.ok () W'∧TwA Wa t1 t2 c1 c2 ka kb ks kt (aY X ks undef) W':=by
 obtain⟨C,k,e,q,m,r,-⟩:=h.a1 _ j
 cases e;obtain⟨W',-,s,x,c⟩:=m.put c1 r.symm y;obtain⟨g,f,o⟩:=p;have aJ:=aI (X:=X) (v:=undef) g;have aL:=aI (X:=X) (v:=undef) f;have l:=aI (X:=X) (v:=undef) o;refine⟨W',s,h.b.trans (c.below (B:=Wa.heap.size) (fun i D=>by omega) h.b.size),fun z d=>?_,fun z d=>?_,fun s _=>by rw[aJ,j]; rfl,by rw[l,aL]; exact h.s2⟩
 .rw[aJ,j]at d; cases d;exact⟨a,c1,rfl,q,x,rfl,fun _ _=>rfl⟩
 .rw[aL]at d;obtain⟨b,k,e,g,f,n⟩:=h.a2 z d;rw[l];exact⟨b,k,e,g,f.chg c (f.ne m (bM A)),n⟩
theorem TwA.put2(h:TwA Wa t1 t2 c1 c2 ka kb ks kt X W)(j:X kb=some (.pointer (some ⟨a,0,none⟩)))(A:t1≠t2)(y:∀u∈c2,u.oneCell'=true)(p:ka≠kt∧kb≠kt∧ks≠kt):
  ∃W',Sem.run prog (storeCells ⟨a,0,none⟩ c2 0) W=.ok () W'∧TwA Wa t1 t2 c1 c2 ka kb ks kt (aY X kt undef) W':=by
 obtain⟨C,k,e,q,m,r,-⟩:=h.a2 _ j
 cases e;obtain⟨W',-,s,x,c⟩:=m.put c2 r.symm y;obtain⟨g,f,o⟩:=p;have aJ:=aI (X:=X) (v:=undef) g;have aL:=aI (X:=X) (v:=undef) f;have l:=aI (X:=X) (v:=undef) o;refine⟨W',s,h.b.trans (c.below (B:=Wa.heap.size) (fun i D=>by omega) h.b.size),fun z d=>?_,fun z d=>?_,by rw[l,aJ]; exact h.s1,fun s _=>by rw[aL,j]; rfl⟩
 .rw[aJ]at d;obtain⟨b,k,e,g,f,n⟩:=h.a1 z d;rw[l];exact⟨b,k,e,g,f.chg c (f.ne m A),n⟩
 .rw[aL,j]at d; cases d;exact⟨a,c2,rfl,q,x,rfl,fun _ _=>rfl⟩
end
def IsV(v z:Value)(_:World):Prop:=z=v
def vR:Value:=.tuple #[.agg dC.cells.toArray,.agg fP.cells.toArray,.i 0]
theorem aBC{base g U:Nat}{q:bC}{ps:Nat→List ObV}{bv:Value}{ms:List MgV}(w:World)(h:ClO w base g q ps U bv ms dZ)(hl:ms.length+1≤200):
  Calls prog 10 #[.pointer (some ⟨g,0,none⟩),.agg tH.toArray] w fun e w'=>e=.returned (.i 0)∧∃q0 ms',ClO w' base g q ps U q0 (ms++ms') dC∧ms'.map (·.x)=[oK]∧ClG base w w':=by
 obtain⟨W,o,cap,hv,p1,e0⟩:=h.cv;obtain⟨W1,o1,x1,T,z1⟩:=par w 27 tH;have O:=h.below T;have ka:=bG (show W1.cell? ⟨w.heap.size,3,none⟩=some (.i 1) from x1.cell 3);have S:=bG (show W1.cell? ⟨g,232,none⟩=some (.slice (some ⟨W,o,none⟩) 1 cap) by have:=O.b.cell 232; rw[bC.c_cv,hv]at this; exact this);have n:=k'7 O x1 T h.sz hl hv e0;clear h hl x1 T z1 O e0 hv;go_enter func10,ntmps10;go_wp2_with fail;refine cX (by kernel_rfl) (by kernel_rfl) ?_
 repeat (go_big_quiet_step (fail))
 refine cI ?_;rintro N ⟨⟨_,I⟩,rfl⟩;have x2:=n.b.grow I;have k0:N.cell? ⟨w.heap.size,0,none⟩=some (.i 5):=x2.cell 0;have y:=bL (aH N.heap.size N);have s:=k'3 (n.a.below (I.on y)) (x2.grow y) (n.c.on (I.on y));clear ka S I x2 y;go_wp2_with fail;clear k0;obtain⟨V,m⟩:=nm' N.drew;rw[m]at s;refine eY 19 (TwA V 54 75 dC.cells fP.cells 15 16 17 18) (fun _=>eQ) (by kernel_rfl) (by kernel_rfl) (by rw[m]; exact TwA.start) ?_
 iterate 10 (refine bE ?_; apply Exists.intro)
 refine bJ (IsV vR) ?_
 iterate 4 (refine bE ?_; apply Exists.intro)
 iterate 4 (refine bJ dV ?_)
 refine cC ⟨?_,?_⟩
 rotate_left
 .iterate 10
   apply bQ (by kernel_rfl) (by intro t w h; cases h; exact trivial) rfl
   .intro X W' i z J m l;have ka:W'.cell? ⟨w.heap.size,3,none⟩=some (.i 1):=(s.b.grow i.b).cell 3;have S:W'.cell? ⟨g,232,none⟩=some (.slice (some ⟨W,o,none⟩) 1 cap):=(by have:=(s.a.below i.b).b.cell 232; rw[bC.c_cv,n.f]at this; exact this)
    have l3:=n.G W' (s.C.on i.b);go_wp2_with fail;exact⟨rfl,_,rfl,i.other (by decide),aV,rfl⟩
   simp only[Act.put,aE,aC,aD,aS,aT]
  refine⟨fun X W' i z J m l=>?_,fun p0=>?_⟩
  .have M:=kp (aBB W' (s.b.grow i.b));go_wp2_with fail;refine mb' (M.o) fun w2 I=>?_;have A:=(i.grow I).other (j:=10) (u:=vR) (by decide);clear I;go_wp2_with fail;exact⟨rfl,_,rfl,A,aV,rfl⟩
  simp only[Act.put,aE,aC,aD,aS,aT];apply bQ (by kernel_rfl) (by intro t w h; cases h; exact trivial) rfl
  .intro X W' i z J m l;have f:IsV vR p0 W':=l 37 (bO (by kernel_rfl));have f:p0=vR:=f;unfold vR at f;subst f;go_wp2_with fail;exact⟨rfl,_,rfl,i.other (by decide),aV,rfl⟩
  simp only[Act.put,aE,aC,aD,aS,aT]
  iterate 3
   apply bQ (by kernel_rfl) (by intro t w h; cases h; exact trivial) rfl
   .intro X W' i z J m l;go_wp2_with fail;exact⟨rfl,_,rfl,i.other (by decide),aV,rfl⟩
   simp only[Act.put,aE,aC,aD,aS,aT]
  refine⟨fun X W' i z J m l=>?_,fun b0=>?_⟩
  .have A:=i.mk1 (zs:=eK) z rfl (by decide);go_wp2_with fail;exact⟨rfl,_,rfl,A,aV,trivial⟩
  simp only[Act.put,aE,aC,aD,aS,aT];refine⟨fun X W' i z J m l=>?_,fun d0=>?_⟩
  .have A:=i.mk2 (zs:=jE) z rfl (by decide);go_wp2_with fail;exact⟨rfl,_,rfl,A,aV,trivial⟩
  simp only[Act.put,aE,aC,aD,aS,aT];refine⟨fun X W' i z J m l=>?_,fun d1=>?_⟩
  .have h6:X 15=some b0:=m 15 6 b0 (by kernel_rfl) (by kernel_rfl) (bO (by kernel_rfl)) rfl;obtain⟨a,cs,rfl,-⟩:=i.a1 _ h6;obtain⟨F,s5,A⟩:=i.put1 h6 (by decide) (kQ dC) (by decide);clear h6;go_wp2_with fail;exact⟨rfl,undef,rfl,A,aV,trivial⟩
  simp only[Act.put,aS,aT];refine⟨fun X W' i z J m l=>?_,fun g1=>?_⟩
  .have h7:X 16=some d0:=m 16 7 d0 (by kernel_rfl) (by kernel_rfl) (bO (by kernel_rfl)) rfl;obtain⟨a,cs,rfl,-⟩:=i.a2 _ h7;obtain⟨F,s5,A⟩:=i.put2 h7 (by decide) (fD (p:=fP) rfl) (by decide);clear h7;go_wp2_with fail;exact⟨rfl,undef,rfl,A,aV,trivial⟩
  simp only[Act.put,aS,aT];intro K i l;clear l;simp only[bS,bU];obtain⟨a1,j1,rfl,q1,g0,-,m0⟩:=i.a1 b0 rfl;obtain⟨a2,m1,rfl,z0,j0,-,o0⟩:=i.a2 d0 rfl;obtain rfl:=m0 d1 rfl;obtain rfl:=o0 g1 rfl;have x3:=s.b.grow i.b;have Y:=s.a.below i.b;have y0:Bw' K K.drew:=bL (aH _ _);have ka:=bG (show K.cell? ⟨w.heap.size,3,none⟩=some (.i 1) from x3.cell 3);have S:=bG (show K.cell? ⟨g,232,none⟩=some (.slice (some ⟨W,o,none⟩) 1 cap) by have:=Y.b.cell 232; rw[bC.c_cv,n.f]at this; exact this);have l1:∀r:Blw K,Sem.run prog (loadCellsFrom ⟨a1,0,none⟩ 0 13 #[]) r.w=.ok dC.cells.toArray r.w:=fun r=>(g0.grow r.h).load (P:=prog) (k:=13) rfl;have L:=k'4 Y j0 (s.C.on i.b) z0;clear m0 o0 g0 j0 x3 Y y0 i;go_wp2_with fail;refine mO 9 (by kernel_rfl) (by kernel_rfl) ?_;simp only[lV,kB,bS,bU]
  repeat (go_big_quiet_step (fail))
  refine cI ?_;rintro W4 ⟨⟨_,R⟩,rfl⟩;obtain⟨F,s5,Z,g5,c5⟩:=(L.a.below R).cset n.f dC;have l0:=(L.b.grow R).chg c5 (fun e=>by have:=s.C.size; have:=L.D; omega);have y:=bL (aH F.heap.size F);have E:=k'3 (Z.below y) (l0.grow y) ((ClG.of_below (L.c.on R) n.d).trans (g5.trans (ClG.of_below y Z.sz)));clear Z g5 c5 l0 R y ka S l1;go_wp2_with fail;clear s5;refine fM 6 (fun W'=>Below F.drew.heap.size F.drew W') (fun _=>jK) (by kernel_rfl) (by kernel_rfl) (aH _ _) ?_
  iterate 5 (refine bE ?_; apply Exists.intro)
  refine bJ (Lk F.drew.heap.size fP) ?_;refine cC ⟨?_,?_⟩
  rotate_left
  .iterate 5
    apply bB (by kernel_rfl) (by intro t w h; cases h; exact trivial) rfl
    .intro W' i l; have k3:W'.cell? ⟨g,233,none⟩=some (.pointer (some ⟨U,0,none⟩)):=(by have:=(E.a.below i).b.cell 233; rw[bC.c_net,(E.a.below i).net]at this; exact this); have l3:=(E.b.grow i).load (P:=prog) (k:=23) rfl; go_wp2_with fail;exact⟨rfl,_,rfl,i,aH _ _,rfl⟩
    simp only[Act.put,aE,aC,aD]
   refine⟨fun W' i l=>?_,fun u5=>?_⟩
   .go_wp2_with fail;have hs:=Ll W' fP;have hb:=ba' W' (.cells fP.cells.toArray 75);generalize W'.alloc (.cells fP.cells.toArray 75)=W6 at hs hb ⊢;exact⟨rfl,.slice (some ⟨W'.heap.size,0,none⟩) 1 1,rfl,i.on hb,hb,⟨W'.heap.size,rfl,hs.mono i.size⟩⟩
   simp only[Act.put,aE,aC,aD];intro WB i l;have f5:=l 57;obtain⟨a5,rfl,a0⟩:=f5;clear l;simp only[bS,bU];have H:=E.a.below i;have HP:=kp (Dg WB H.bag a0 (fun x hx=>by rw[bZ.1 hx]; exact⟨Ow.nil _ _ _ _ _,dJ _⟩) (fun k hk e=>by have O:=(a0.lt hk).1; have h2:=(aM.lt E.a.bag.row k e).2; omega) H.sz rfl n.e (aN _));have M:=k'2 H (E.C.trans (ClG.of_below i E.a.sz));clear H a0 i;go_wp2_with fail;refine (HP.o).mono ?_;rintro e wC ⟨rfl,v',l',Q⟩;obtain⟨H,hG⟩:=M.a.put Q.b Q.c;have HE:=k'3 H (Q.x.trans (rfl:gR [fP]=[oK])) (M.B.trans hG);clear H hG Q;go_wp2_with fail;go_ret;exact⟨rfl,v',l',HE.o⟩
  .exact⟨pv',pv',pv',pv',pv',fun _ _ _ _ _ ⟨a,e,h⟩ hR=>⟨a,e,h.below hR⟩,trivial⟩
 .exact⟨pv',pv',pv',pv',pv',pv',pv',pv',pv',pv',fun _ _ _ _ _ h _=>h,pv',pv',pv',pv',fun _ _ _ _ _ h _=>h,fun _ _ _ _ _ h _=>h,fun _ _ _ _ _ h _=>h,fun _ _ _ _ _ h _=>h,trivial⟩
end
end Go.Proofs.YtoncgpddjmgbfaaGreat
