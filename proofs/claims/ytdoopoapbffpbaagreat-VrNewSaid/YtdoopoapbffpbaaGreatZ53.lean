import Derived.Test.YtdoopoapbffpbaaGreatZ29
import Derived.Test.YtdoopoapbffpbaaGreatZ41
import Derived.Test.YtdoopoapbffpbaaGreatZ44
import Derived.Test.YtdoopoapbffpbaaGreatZ45
import Derived.Test.YtdoopoapbffpbaaGreatZ51
import Derived.Test.YtdoopoapbffpbaaGreatZ52
namespace Go.Proofs.YtdoopoapbffpbaaGreat
open Go.RowKit Go.Proofs.Tryz
set_option maxRecDepth 100000
set_option maxHeartbeats 12800000
set_option linter.unusedVariables false
set_option linter.unusedSimpArgs false
section
attribute [-go_sem] loadCellsFrom storeCells run_eql_struct run_neq_struct Instr.build
attribute [local go_sem] bC qI
theorem Og:KdR kd3∧kd3.es.length≤1000000∧kd3.image.size≤1000000:=⟨fun _ h=>(nomatch h),cY _,by decide+kernel⟩
theorem aBd(id:Int)(h:inR id):RxS ((kC id 3 kd3).getD oQ):=Od Og ⟨h,⟨by decide,by decide⟩,by decide,by decide⟩
theorem Ep:∀n,RxS (sN n).1
 |0=>by have:=aBd 2 ⟨by decide,by decide⟩; rw[Oe]at this; exact this
 |n+1=>(Ep n).tick
theorem aBe(id:Int)(z:inR id)(w:World):
  Calls prog 48 #[.i id] w fun e C=>∃p ps,e=.returned (.tuple #[.agg p.cells.toArray,.bool (kC id 3 kd3).isSome])∧p.x=(kC id 3 kd3).getD oQ∧RpO C w.heap.size p ps∧Bw' w C:=by
 obtain⟨o,l⟩:=nm' (kC id 3 kd3);rw[l];obtain⟨L,M,D,y,U⟩:=par w 39 dN;unfold dN at M;have I:=kp (aAz L);have s:=k'2 D y;have H:=kp z;clear D y U z;go_enter func48,ntmps48;go_wp2_with fail;refine mb' (I.o) fun S h=>?_;obtain⟨b,X,s3,E,f,-⟩:=fB S 24 z'8 kp3.cells rfl (mW rfl);have O:=E.load (P:=prog) (k:=5) rfl;have r:=kp (Ng id 3 kp3 b.heap.size b ((Ow.nil b b.heap.size 46 11 En.cells).sl eL) (aD _) Og ⟨H.o,⟨by decide,by decide⟩,by decide,by decide⟩);rw[show kC id 3 kp3.x=o from l]at r;have n:=kp (s.B.on (h.on f));have K:=kp (s.a.grow (h.on f));clear h f E;go_wp2_with fail;refine (r.o).mono ?_;rintro e T ⟨p,ps,rfl,A,d,j⟩;obtain⟨V,N,R,F,c,-⟩:=fB T 39 dN p.cells rfl (gR d.rpAt);unfold dN at N R;have l5:=F.load (P:=prog) (k:=26) rfl;have m:=K.o.grow (j.on c);obtain⟨W,Y,s6,G,c6⟩:=m.put p.cells rfl (gR d.rpAt);have Q:=G.load (P:=prog) (k:=26) rfl;have g:=n.o.on (j.on c);have q:=k'2 (((d.below c).chg m c6 (by decide)).mono n.o.size) (g.trans (c6.below (B:=w.heap.size) (fun i Z=>by omega) g.size));have J:=kp A;clear j c d F m G c6 g A l O
 cases o
 all_goals
  go_wp2_with fail;exact aU (v:=.tuple #[.agg p.cells.toArray,.bool _]) (by simp[results,results48,go_sem,Q]) rfl ⟨p,ps,rfl,J.o,q.a,q.B⟩
structure qJ(k:Nat)(R:Rp×List Rc×List Mg):Prop where
 h:sN k=R
theorem qJ.rx{k:Nat}{R:Rp×List Rc×List Mg}(h:qJ k R):RxS R.1:=h.h▸Ep k
theorem qJ.next{k:Nat}{R:Rp×List Rc×List Mg}(h:qJ k R):qJ (k+1) (cU R.1):=⟨by rw[←h.h]; rfl⟩
theorem qJ.last{R:Rp×List Rc×List Mg}(h:qJ 14 R):R=(rI (rT 13),[vE 1],[nL 2 1 1,nL 2 1 3]):=h.h.symm.trans aBc
structure wA(w W:World)(g1 g3 k:Nat)(q:WkV)(ps:List ObV):Prop where
 a:Blk W g1 39 q.r.cells
 t:Blk W g3 64 [q.rv,q.mv]
 o:RpO W w.heap.size q.r ps
 rs:Ow W w.heap.size 48 17 q.rv RcV.cells q.rs
 ms:Ow W w.heap.size 55 23 q.mv MgV.cells q.ms
 x:∃R,qJ k R∧q.r.x=R.1∧q.rs.map (·.x)=R.2.1∧q.ms.map (·.x)=R.2.2
 b:Bw' w W
 g:w.heap.size≤g1∧g1<g3
theorem aBf:(rI (rT 13)).k.view=1:=rfl
theorem aBg:gY (rI (rT 13))=false:=rfl
theorem aBh{α:Type}:∀{l:List α},l.length=2→∃a b,l=[a,b]
 |[a,b],_=>⟨a,b,rfl⟩
theorem wA.fin{w W:World}{y m:Nat}{q:WkV}{K:List ObV}(h:wA w W y m 14 q K):∃j c1 b c,W.cell? ⟨y,2,none⟩=some (.i 1)∧W.cell? ⟨m,0,none⟩=some (.slice j 1 c1)∧W.cell? ⟨m,1,none⟩=some (.slice (some ⟨b,0,none⟩) 2 c)∧
  W.cell? ⟨b,0,none⟩=some (.i 5)∧W.cell? ⟨b,3,none⟩=some (.i 1)∧W.cell? ⟨b,25,none⟩=some (.i 3)∧gY q.r.x=false:=by
 obtain⟨R,z,e,n,d⟩:=h.x;rw[z.last]at e n d;clear z;have I:q.r.x.k.view=1:=by rw[e]; exact aBf
 have G:gY q.r.x=false:=by rw[e]; exact aBg
 have J:q.rs.length=1:=by have:=bG List.length n; rw[cW]at this; exact this
 have i:q.ms.length=2:=by have:=bG List.length d; rw[cW]at this; exact this
 clear e n;obtain⟨j,c1,H,-⟩:=eD h.rs;obtain⟨b,c,F,-,-,-,-,f,-⟩:=h.ms.at_ fF (by decide) (by rw[i]; decide);have A:=h.a.cell 2;rw[show q.r.cells[2]? =some (.i q.r.x.k.view) from rfl,I]at A;have B:=h.t.cell 0;have C:=h.t.cell 1;rw[show ([q.rv,q.mv]:List Value)[0]? =some q.rv from rfl,H,J]at B;rw[show ([q.rv,q.mv]:List Value)[1]? =some q.mv from rfl,F,i]at C;obtain⟨l,E⟩:=nm' q.ms;rw[E]at f d i;obtain⟨g,D,rfl⟩:=aBh i;simp only[kM,wM,List.cons.injEq,and_true]at d;have o:=f 0 (by simp) 0 (.i g.kind) rfl;have s:=f 0 (by simp) 3 (.i g.view) rfl;have p:=f 1 (by simp) 2 (.i D.dst) rfl;rw[show g.kind=5 from bG Mg.kind d.1]at o;rw[show g.view=1 from bG Mg.view d.1]at s;rw[show D.dst=3 from bG Mg.dst d.2]at p;simp only[qR,hY,Nat.one_mul,Nat.reduceAdd]at o s p;refine⟨j,c1,b,c,?_,?_,?_,?_,?_,?_,G⟩
 .exact A
 .exact B
 .exact C
 .exact o
 .exact s
 .exact p
theorem Oh(w:World):Calls prog 14 #[] w fun e w'=>e=.returned (.bool true)∧Bw' w w':=by
 have HS:=kp (aBe 2 ⟨by decide,by decide⟩ w);rw[Oe]at HS;go_enter func14,ntmps14;go_wp2_with fail;refine (HS.o).mono ?_;rintro e N ⟨p,ps,rfl,n,e0,Z⟩;have n:p.x=rT 0:=n;obtain⟨K,m0,s2,x2,U,-⟩:=fB N 39 dN p.cells rfl (gR e0.rpAt);unfold dN at m0 s2;have l2:=x2.load (P:=prog) (k:=26) rfl;have z:=e0.below U;have T:=RxS.p (p:=p) (ps:=ps) (by rw[n]; exact Ep 0) z.rpAt.2.1.1.2.1;have j0:=kp (sB.1 p ps K.heap.size K z.rpAt (aD _) T);rw[n,show dI (rT 0)=true from zJ 0 (by decide),show gY (rT 0)=true from rfl,Bool.and_true]at j0;have l0:=kp (fun(W:World)(b:Bw' K W)=>sB.2.1 p ps K.heap.size W (z.rpAt.below b (aD _)) b.size T);rw[n,Eo,wI]at l0;have m:=k'5 x2 z (Z.on U) n Z.size;clear z T Z U e0 x2 n;go_wp2_with fail;refine mb' (j0.o) fun w3 a0=>?_;have l3:=(m.a.grow a0).load (P:=prog) (k:=26) rfl;have Q:=kp a0;clear a0 l2;go_wp2_with fail;refine mb' (l0.o w3 Q.o) fun O b0=>?_;obtain⟨W5,z0,s5,x5,b5,-⟩:=fB O 64 [.slice none 0 0,.slice none 0 0] [.slice none 0 0,.slice none 0 0] rfl (fun u s=>by
  rcases bA.1 s with rfl|s
  .rfl
  .rw[bQ.1 s]; rfl)
 have f:=Q.o.on (b0.on b5);have HI:=kp (show wA w W5 N.heap.size O.heap.size 0 ⟨p,[],.slice none 0 0,[],.slice none 0 0⟩ ps from⟨m.a.grow f,x5,m.b.below f,Ow.nil _ _ _ _ _,Ow.nil _ _ _ _ _,⟨(rT 0,[],[]),⟨rfl⟩,m.d,rfl,rfl⟩,m.c.on f,m.E,by have:=m.a.lt; have:=Q.o.size; have:=b0.size; omega⟩);clear f b0 b5 x5 l3;go_wp2_with fail;clear s5 z0 s2 m0
 go_loopw [4] (fun i wr=>∃k:Nat,k≤14∧i=.i k∧∃q A,wA w wr N.heap.size O.heap.size k q A) (fun i _=>14-(intOf i).toNat)
 case atStart=>exact⟨0,by omega,rfl,_,_,HI.o⟩
 case round=>
  obtain⟨k,hk,rfl,q,A,h⟩:=hrel;obtain⟨R,X,Y,-⟩:=h.x;have S:=RxS.p (p:=q.r) (ps:=A) (by rw[Y]; exact X.rx) h.o.rpAt.2.1.1.2.1;have J:=k'2 X Y;clear X Y
  by_cases y1:k<14
  .have g3:(k:Int)<14:=by omega
   have l1:=h.a.load (P:=prog) (k:=26) rfl;have HT:=kp (Oc q.r A wr.heap.size wr h.o.rpAt (aD _) S);have H:=kp h;clear h S;go_wp2_with fail;refine (HT.o).mono ?_;rintro e w6 hT;obtain⟨⟨j,es,rfl,t1,t2,t3,L,g0,-,d0,-⟩,l⟩:=hT;obtain⟨W7,a1,x7,b7,z7⟩:=par w6 39 dN;obtain⟨W8,p1,x8,cD,z8⟩:=par W7 64 [.slice none 0 0,.slice none 0 0];unfold dN at a1;have f:=b7.on cD;have hz:w6.heap.size<W7.heap.size:=z7;have V:∀u∈[j.rv,j.mv],u.oneCell'=true:=fun u s=>by
    rcases bA.1 s with rfl|s
    .exact g0.one
    .rw[bQ.1 s]; exact d0.one
   have C:=x7.grow cD;obtain⟨W9,q1,s9,x9,c9⟩:=C.put j.r.cells rfl (gR L.rpAt);have D:=x8.chg c9 (by omega);obtain⟨e1,j1,e2,o0,c10⟩:=D.put [j.rv,j.mv] rfl V;have l9:=(x9.chg c10 (by omega)).load (P:=prog) (k:=26) rfl;have ha:=H.o.a.lt;have ht:=H.o.t.lt;have hg:=H.o.g;have b1:=l.size;have d1:=f.size;have F:=(((H.o.a.grow l).grow f).chg c9 (by omega)).chg c10 (by omega);have yt:=(((H.o.t.grow l).grow f).chg c9 (by omega)).chg c10 (by omega);obtain⟨g1,m1,g2,p0,c11⟩:=F.put j.r.cells rfl (gR L.rpAt);have d2:=(o0.chg c11 (by omega)).load (P:=prog) (k:=2) rfl;have G:=yt.chg c11 (by omega);obtain⟨y0,o1,j2,q0,c12⟩:=G.put [j.rv,j.mv] rfl V;have M:w.heap.size≤wr.heap.size:=H.o.b.size;have y:=H.o.b.on (l.on f);have I:=kp (show wA w y0 N.heap.size O.heap.size (k+1) j es from
    ⟨p0.chg c12 (by omega),q0,(((((L.below f).chg C c9 (by decide)).chg D c10 (by decide)).chg F c11 (by decide)).chg G c12 (by decide)).mono M,
     (((((g0.below f).chg_blk C c9 (by decide)).chg_blk D c10 (by decide)).chg_blk F c11 (by decide)).chg_blk G c12 (by decide)).mono M,
     (((((d0.below f).chg_blk C c9 (by decide)).chg_blk D c10 (by decide)).chg_blk F c11 (by decide)).chg_blk G c12 (by decide)).mono M,
     ⟨cU R.1,J.a.next,by rw[t1,J.B],by rw[t2,J.B],by rw[t3,J.B]⟩,
     (((y.trans (c9.below (B:=w.heap.size) (fun i hi=>by omega) y.size)).trans (c10.below (B:=w.heap.size) (fun i hi=>by omega) (by have:=c9.size; have:=y.size; omega))).trans (c11.below (B:=w.heap.size) (fun i hi=>by omega) (by have:=c9.size; have:=c10.size; have:=y.size; omega))).trans (c12.below (B:=w.heap.size) (fun i hi=>by omega) (by have:=c9.size; have:=c10.size; have:=c11.size; have:=y.size; omega)),H.o.g⟩)
   clear t1 t2 t3 L g0 d0 l x7 b7 x8 cD z7 z8 f hz V C x9 c9 D o0 c10 ha ht hg b1 d1 F yt p0 c11 G q0 c12 M y l1;go_wp2_with fail;go_roundw
   case rel=>exact⟨k+1,by omega,by go_num,_,_,I.o⟩
   case measure=>simp[intOf]; omega
  .obtain rfl:k=14:=by omega
   obtain⟨A1,c1,b,c,k2,z1,a2,v0,v3,m2,hn⟩:=h.fin;have l1:=h.a.load (P:=prog) (k:=26) rfl;have I:=kp (sB.1 q.r A wr.heap.size wr h.o.rpAt (aD _) S);rw[hn,wI]at I;have HB:=kp h.b;clear h S hn hk;go_wp2_with fail;refine mb' (I.o) fun w6 l=>?_;have HF:=kp (HB.o.on l);clear l;go_wp2_with fail;go_ret;exact⟨rfl,HF.o⟩
end
section
attribute [-go_sem] loadCellsFrom storeCells run_eql_struct run_neq_struct Instr.build
attribute [local go_sem] bC qI sL
structure kX(w:World)(b:Nat)(p:WkV)(ps:List ObV):Prop where
 o:RpO w b p.r ps
 rs:Ow w b 48 17 p.rv RcV.cells p.rs
 ms:Ow w b 55 23 p.mv MgV.cells p.ms
 re:∀x∈p.rs,x.es=[]∧∃A c,x.ev=.slice A 0 c∧c≤maxLen
 me:∀x∈p.ms,x.es=[]∧∃A c,x.ev=.slice A 0 c∧c≤maxLen
 n:p.rs.length≤1000000∧p.ms.length≤1000000
section
variable {w W:World}{b:Nat}{p:WkV}{ps:List ObV}
theorem kX.below(h:kX w b p ps)(a:Bw' w W):kX W b p ps:=⟨h.o.below a,h.rs.below a,h.ms.below a,h.re,h.me,h.n⟩
theorem kX.mono{c:Nat}(h:kX w b p ps)(a:c≤b):kX w c p ps:=⟨h.o.mono a,h.rs.mono a,h.ms.mono a,h.re,h.me,h.n⟩
theorem aBi{A:Option Addr}{c:Nat}(w:World)(B:Nat)(a:c≤maxLen):Sl w B (.slice A 0 c) En.cells ([]:List En):=⟨A,c,rfl,.inl rfl,cY _,a⟩
theorem zK{v:Value}{l:List En}(w:World)(B:Nat)(h:l=[]∧∃A c,v=.slice A 0 c∧c≤maxLen):Sl w B v En.cells l:=by
 obtain⟨rfl,A,c,rfl,a⟩:=h;exact aBi w B a
theorem kX.told(h:kX w b p ps):sC w w.heap.size p.rv p.rs∧sD w w.heap.size p.mv p.ms:=⟨⟨h.rs.sl nW,fun x a=>zK _ _ (h.re x a)⟩,⟨h.ms.sl fF,fun x a=>zK _ _ (h.me x a)⟩⟩
theorem Ow.ovs{α:Type}{enc:α→List Value}{t:TypeId}{k base:Nat}{v:Value}{l:List α}(h:Ow w base t k v enc l)(e:Chg (OvS w b) w W)(g:¬OvT t):Ow W base t k v enc l:=h.chg e fun i f ⟨_,c,n,a,j⟩=>by
 obtain⟨c2,m,d⟩:=Lib.ownsRow_kind h i f;rw[d]at a;injection a with a;injection a with _ a;exact g (a▸j)
theorem Blk.ovs{g:Nat}{t:TypeId}{d:List Value}(h:Blk w g t d)(e:Chg (OvS w b) w W)(f:¬OvT t):Blk W g t d:=h.chg e fun⟨_,c,j,a,i⟩=>by
 rw[show w.heap[g]? =_ from h]at a;injection a with a
 injection a with _ a
 exact f (a▸i)
end
theorem aBj:¬OvT 48:=by unfold OvT; decide
structure uB(w:World)(b:Nat)(p:WkV):Prop where
 rs:Ow w b 48 17 p.rv RcV.cells p.rs
 ms:Ow w b 55 23 p.mv MgV.cells p.ms
 re:∀x∈p.rs,x.es=[]∧∃A c,x.ev=.slice A 0 c∧c≤maxLen
 me:∀x∈p.ms,x.es=[]∧∃A c,x.ev=.slice A 0 c∧c≤maxLen
theorem kX.ovs{w W:World}{b c:Nat}{p:WkV}{ps:List ObV}(h:kX w b p ps)(a:Chg (OvS w c) w W):uB W b p:=⟨h.rs.ovs a aBj,h.ms.ovs a nX.2.2,h.re,h.me⟩
theorem uB.below{w W:World}{b:Nat}{p:WkV}(h:uB w b p)(a:Bw' w W):uB W b p:=⟨h.rs.below a,h.ms.below a,h.re,h.me⟩
theorem uB.told{w:World}{b:Nat}{p:WkV}(h:uB w b p):sC w w.heap.size p.rv p.rs∧sD w w.heap.size p.mv p.ms:=⟨⟨h.rs.sl nW,fun x a=>zK _ _ (h.re x a)⟩,⟨h.ms.sl fF,fun x a=>zK _ _ (h.me x a)⟩⟩
structure sO(W:World)(g0 g1 g2 g3 g4 g5:Nat)(p q:WkV)(r o:RpV):Prop where
 h0:Blk W g0 39 p.r.cells
 h1:Blk W g1 64 [p.rv,p.mv]
 h2:Blk W g2 39 q.r.cells
 h3:Blk W g3 64 [q.rv,q.mv]
 h4:Blk W g4 39 r.cells
 h5:Blk W g5 39 o.cells
section
variable {W W':World}{b g0 g1 g2 g3 g4 g5:Nat}{p q:WkV}{r o:RpV}
theorem sO.grow(h:sO W g0 g1 g2 g3 g4 g5 p q r o)(a:Bw' W W'):sO W' g0 g1 g2 g3 g4 g5 p q r o:=⟨h.h0.grow a,h.h1.grow a,h.h2.grow a,h.h3.grow a,h.h4.grow a,h.h5.grow a⟩
theorem sO.ovs(h:sO W g0 g1 g2 g3 g4 g5 p q r o)(a:Chg (OvS W b) W W'):sO W' g0 g1 g2 g3 g4 g5 p q r o:=⟨h.h0.ovs a nX.1,h.h1.ovs a nX.2.1,h.h2.ovs a nX.1,h.h3.ovs a nX.2.1,h.h4.ovs a nX.1,h.h5.ovs a nX.1⟩
end
theorem aBk(p q:WkV)(ps qs:List ObV)(r o:RpV)(rs os:List ObV)(b B:Nat)(w:World)(hp:kX w b p ps)(hq:kX w b q qs)(M:p.r.x=q.r.x)(h1:p.rs.map (·.x)=q.rs.map (·.x))(h2:p.ms.map (·.x)=q.ms.map (·.x))
  (hr:eO w B r rs) (ho:eO w B o os) (y0:r.x=o.x) (N:B≤b) (K:b≤w.heap.size) (X:RpS p.r ps) (Sr:RpS r rs):
  Calls prog 23 #[.agg p.r.cells.toArray,.agg #[p.rv,p.mv],.agg q.r.cells.toArray,.agg #[q.rv,q.mv],.agg r.cells.toArray,.agg o.cells.toArray] w fun e w'=>e=.returned (.bool true)∧Below b w w':=by
 obtain⟨W0,j1,x0,b0,z0⟩:=par w 39 p.r.cells;obtain⟨W1,m1,x1,b1,z1⟩:=par W0 64 [p.rv,p.mv];obtain⟨W2,o1,x2,b2,z2⟩:=par W1 39 q.r.cells;obtain⟨W3,p1,x3,b3,z3⟩:=par W2 64 [q.rv,q.mv];obtain⟨W4,q1,x4,aS,z4⟩:=par W3 39 r.cells;obtain⟨W5,y1,x5,b5,z5⟩:=par W4 39 o.cells;have d0:=aS.on b5;have a0:=b3.on d0;have Z:=b2.on a0;have Y:=b1.on Z;have m:=b0.on Y;have R:=sO.mk (p:=p) (q:=q) (r:=r) (o:=o) (x0.grow Y) (x1.grow Z) (x2.grow a0) (x3.grow d0) (x4.grow b5) x5;have B5:=aB K m.size;have d1:=kp K;have H:=k'3 R m B5;have G:=k'6 (hp.below m) (hq.below m) M h1 h2 y0;have g:=k'5 (hr.below m (aB N K)) (ho.below m (aB N K)) N X Sr;have l0:=R.h0.load (P:=prog) (k:=26) rfl;have l2:=R.h2.load (P:=prog) (k:=26) rfl;have HS:=kp (Ec p.r q.r ps qs W5.heap.size W5 (hp.below m).o.rpAt (hq.below m).o.rpAt (aD _) X);rw[bY M]at HS;clear x0 x1 x2 x3 x4 x5 b0 b1 b2 b3 aS b5 z0 z1 z2 z3 z4 z5 d0 a0 Z Y m B5 hp hq hr ho y0 N K X Sr M h1 h2 R;go_enter func23,ntmps23;go_wp2_with fail;refine mb' (HS.o) fun T z=>?_;have f:=k'5 (H.a.grow z) (H.b.on z) (G.a.below z) (G.b.below z) (aB H.C z.size);have A6:=k'2 (g.a.below z (aB g.c H.C)) (g.b.below z (aB g.c H.C));have S:=f.a.h1.load (P:=prog) (k:=2) rfl;have l3:=f.a.h3.load (P:=prog) (k:=2) rfl;have HT:=kp (My p.rv p.mv q.rv q.mv p.rs q.rs p.ms q.ms T.heap.size T f.c.told.1 f.c.told.2 f.d.told.1 f.d.told.2 (aD _) f.c.n.1 f.c.n.2 (fun v y=>by rw[(f.c.re v y).1]; exact cY _) (fun v y=>by rw[(f.c.me v y).1]; exact cY _));rw[bY G.d,bY G.e,Bool.and_self]at HT;clear z l0 l2;go_wp2_with fail;refine mb' (HT.o) fun w7 O=>?_;have l0:=(f.a.grow O).h0.load (P:=prog) (k:=26) rfl;have HO:=kp (Ef p.r ps (.slice none 0 0) (.slice none 0 0) [] b w7 (f.c.below O).o (Ow.nil _ _ _ _ _) (fun _ h=>(nomatch h)) ⟨g.d.k.2.1,⟨by have:=g.d.l.2.1; omega,fun v y=>(g.d.v v y).1⟩,⟨by have:=g.d.s.2.1; omega,by have:=g.d.s.1.obs; omega⟩,⟨by have:=g.d.l.1; omega,by have:=g.d.l.2.2; omega⟩,cY _⟩);have I:=kp O;clear O S l3;go_wp2_with fail;refine mb' (HO.o) fun U L=>?_;have p0:Below b T U:=(I.o.mono f.E).trans (L.below (B:=b) (fun i hi=>hi.1) (aB f.E I.o.size));have j:=k'4 ((f.a.grow I.o).ovs L) ((f.c.below I.o).ovs L) ((f.d.below I.o).ovs L) p0;have S:=j.a.h1.load (P:=prog) (k:=2) rfl;have l3:=j.a.h3.load (P:=prog) (k:=2) rfl;have m0:=kp (My p.rv p.mv q.rv q.mv p.rs q.rs p.ms q.ms U.heap.size U j.b.told.1 j.b.told.2 j.c.told.1 j.c.told.2 (aD _) f.c.n.1 f.c.n.2 (fun v y=>by rw[(f.c.re v y).1]; exact cY _) (fun v y=>by rw[(f.c.me v y).1]; exact cY _));rw[bY G.d,bY G.e,Bool.and_self]at m0;clear L p0 l0;go_wp2_with fail;refine mb' (m0.o) fun w9 Q=>?_;have S:=(j.a.grow Q).h1.load (P:=prog) (k:=2) rfl;have e1:=kp (Ef jX [] p.rv p.mv p.ms b w9 (oW _ _) (j.b.below Q).ms (fun x M=>by
  obtain⟨h0,A,c,e,-⟩:=j.b.me x M;exact⟨A,0,c,e,cY _,fun h=>absurd h (wH _)⟩) ⟨cY _,⟨cY _,fun _ h=>(nomatch h)⟩,⟨cY _,cY _⟩,⟨cY _,cY _⟩,f.c.n.2⟩)
 have W:=kp Q;clear Q l3;go_wp2_with fail;refine mb' (e1.o) fun a1 g0=>?_;have V:b≤U.heap.size:=aB f.E j.D.size;have J:Below b T a1:=j.D.trans ((W.o.mono V).trans (g0.below (B:=b) (fun i hi=>hi.1) (aB V W.o.size)));have e0:=(j.a.grow W.o).ovs g0;have l4:=e0.h4.load (P:=prog) (k:=26) rfl;have l5:=e0.h5.load (P:=prog) (k:=26) rfl;have j0:=kp (Ec r o rs os B a1 (A6.a.below J g.c) (A6.B.below J g.c) (aB g.c (aB f.E J.size)) g.E);rw[bY G.F]at j0;have o0:=kp J;clear g0 V J e0 S;go_wp2_with fail;refine mb' (j0.o) fun g1 q0=>?_;have HF:=kp (show Below b w g1 from (f.b.mono d1.o).trans (o0.o.trans (q0.mono (aB f.E o0.o.size))));clear q0 l4 l5;go_wp2_with fail;go_ret;exact⟨rfl,HF.o⟩
end
section
theorem RpS.of{w:World}{B:Nat}{p:RpV}{ps:List ObV}(h:eO w B p ps)(s:SmR p)(r:RpR p):RpS p ps:=by
 have a:=SmO.of h.2.1.1 s.s.1;exact⟨⟨r.k.1,by have:=s.v.k.es; omega,by have:=s.v.k.image; omega⟩,⟨a,s.s.2,r.s.1,r.s.2⟩,⟨by have:=s.starts; omega,by have:=s.v.len; omega,by have:=s.acks; omega⟩,fun v b=>⟨by have:=s.v.es v b; omega,r.v v b⟩,r.r,fun u c=>by have:=a.rows u c; omega⟩
theorem On(w:World):(Instr.build 55 #[]).run prog w=.ok (.agg zD.cells.toArray) w:=run_build w _ _ _ (by kernel_rfl)
theorem Oo{w i:World}{x:Rp}{e:Ending}(h:sM w i (cU x) e):∃p ps,e=.returned (.tuple #[.agg p.r.cells.toArray,.agg #[p.rv,p.mv]])∧p.r.x=(cU x).1∧p.rs.map (·.x)=(cU x).2.1∧p.ms.map (·.x)=(cU x).2.2∧kX i w.heap.size p ps∧Bw' w i:=by
 obtain⟨⟨p,ps,l,j,d,f,o,s,q,n,m⟩,k⟩:=h;obtain⟨y,z,B,C⟩:=aA8 x;refine⟨p,ps,l,j,d,f,⟨o,s,n,fun v b=>?_,fun v b=>?_,?_,?_⟩,k⟩
 .have a:v.es=[]:=y v.x (d▸Ez b);obtain⟨A,c,e,-,-,g⟩:=(q v b).sl eL;rw[a]at e;exact⟨a,A,c,e,g⟩
 .have a:v.es=[]:=z v.x (f▸Ez b);obtain⟨A,c,e,-,-,g⟩:=(m v b).sl eL;rw[a]at e;exact⟨a,A,c,e,g⟩
 .have:=bG List.length d; rw[cW]at this; omega
 .have:=bG List.length f; rw[cW]at this; omega
theorem Oq{w:World}{base:Nat}{p:WkV}{ps:List ObV}(f:kX w base p ps):
  ∃a c d b,w.alloc (.cells dN.toArray 39)=a∧a.alloc (.cells #[.slice none 0 0,.slice none 0 0] 64)=c∧Sem.run prog (storeCells ⟨w.heap.size,0,none⟩ p.r.cells 0) c=.ok () d∧Sem.run prog (storeCells ⟨a.heap.size,0,none⟩ [p.rv,p.mv] 0) d=.ok () b∧
   Blk b w.heap.size 39 p.r.cells∧Blk b a.heap.size 64 [p.rv,p.mv]∧Bw' w b:=by
 obtain⟨a,k,s,j,F⟩:=par w 39 dN;obtain⟨c,l,x,h,G⟩:=par a 64 [.slice none 0 0,.slice none 0 0];have A:=s.grow h;obtain⟨d,D,n,y,c3⟩:=A.put p.r.cells rfl (gR f.o.rpAt);have C:=x.chg c3 (by omega);obtain⟨b,E,q,z,c4⟩:=C.put [p.rv,p.mv] rfl (fun u g=>by
  rcases bA.1 g with rfl|g
  .exact f.rs.one
  .rw[bQ.1 g]; exact f.ms.one)
 have e:=j.on h;exact⟨a,c,d,b,k,l,n,q,y.chg c4 (by omega),z,e.trans ((c3.below (B:=w.heap.size) (fun i m=>by omega) e.size).trans (c4.below (B:=w.heap.size) (fun i m=>by omega) (aB e.size c3.size)))⟩
end
end Go.Proofs.YtdoopoapbffpbaaGreat
