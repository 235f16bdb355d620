import Derived.Test.YthalbagblhkeaaaGreatZ27
import Derived.Test.YthalbagblhkeaaaGreatZ33
namespace Go.Proofs.YthalbagblhkeaaaGreat
open Go.RowKit Go.Proofs.Tryz
set_option maxRecDepth 100000
set_option maxHeartbeats 12800000
set_option linter.unusedVariables false
set_option linter.unusedSimpArgs false
section
attribute [-go_sem] loadCellsFrom storeCells run_eql_struct run_neq_struct Instr.build
attribute [local go_sem] bC qI
theorem Og:KdR kd3∧kd3.es.length≤1000000∧kd3.image.size≤1000000:=⟨fun _ h=>(nomatch h),cY _,by decide+kernel⟩
theorem aBd(id:Int)(h:inR id):RxS ((kC id 3 kd3).getD oQ):=Od Og ⟨h,⟨by decide,by decide⟩,by decide,by decide⟩
theorem aBe(id:Int)(z:inR id)(w:World):
  Calls prog 29 #[.i id] w fun e C=>∃p ps,e=.returned (.tuple #[.agg p.cells.toArray,.bool (kC id 3 kd3).isSome])∧p.x=(kC id 3 kd3).getD oQ∧RpO C w.heap.size p ps∧Bw' w C:=by
 obtain⟨o,l⟩:=nm' (kC id 3 kd3);rw[l];obtain⟨L,M,D,y,U⟩:=par w 39 dN;unfold dN at M;have I:=kp (aAz L);have s:=k'2 D y;have H:=kp z;clear D y U z;go_enter func29,ntmps29;go_wp2_with fail;refine mb' (I.o) fun S h=>?_;obtain⟨b,X,s3,E,f,-⟩:=fB S 24 z'8 kp3.cells rfl (mW rfl);have O:=E.load (P:=prog) (k:=5) rfl;have r:=kp (Ng id 3 kp3 b.heap.size b ((Ow.nil b b.heap.size 93 11 En.cells).sl eL) (aD _) Og ⟨H.o,⟨by decide,by decide⟩,by decide,by decide⟩);rw[show kC id 3 kp3.x=o from l]at r;have n:=kp (s.B.on (h.on f));have K:=kp (s.a.grow (h.on f));clear h f E;go_wp2_with fail;refine (r.o).mono ?_;rintro e T ⟨p,ps,rfl,A,d,j⟩;obtain⟨V,N,R,F,c,-⟩:=fB T 39 dN p.cells rfl (gR d.rpAt);unfold dN at N R;have l5:=F.load (P:=prog) (k:=26) rfl;have m:=K.o.grow (j.on c);obtain⟨W,Y,s6,G,c6⟩:=m.put p.cells rfl (gR d.rpAt);have Q:=G.load (P:=prog) (k:=26) rfl;have g:=n.o.on (j.on c);have q:=k'2 (((d.below c).chg m c6 (by decide)).mono n.o.size) (g.trans (c6.below (B:=w.heap.size) (fun i Z=>by omega) g.size));have J:=kp A;clear j c d F m G c6 g A l O
 cases o
 all_goals
  go_wp2_with fail;exact aU (v:=.tuple #[.agg p.cells.toArray,.bool _]) (by simp[results,results29,go_sem,Q]) rfl ⟨p,ps,rfl,J.o,q.a,q.B⟩
structure qJ(k:Nat)(R:Rp×List Rc×List Mg):Prop where
 h:sN k=R
theorem qJ.next{k:Nat}{R:Rp×List Rc×List Mg}(h:qJ k R):qJ (k+1) (cU R.1):=⟨by rw[←h.h]; rfl⟩
theorem qJ.last{R:Rp×List Rc×List Mg}(h:qJ 14 R):R=(rI (rT 13),[vE 1],[nL 2 1 1,nL 2 1 3]):=h.h.symm.trans aBc
structure wA(w W:World)(g1 g3 k:Nat)(q:WkV)(ps:List ObV):Prop where
 a:Blk W g1 39 q.r.cells
 t:Blk W g3 55 [q.rv,q.mv]
 o:RpO W w.heap.size q.r ps
 rs:Ow W w.heap.size 101 17 q.rv RcV.cells q.rs
 ms:Ow W w.heap.size 48 23 q.mv MgV.cells q.ms
 x:∃R,qJ k R∧q.r.x=R.1∧q.rs.map (·.x)=R.2.1∧q.ms.map (·.x)=R.2.2
 b:Bw' w W
 g:w.heap.size≤g1∧g1<g3
theorem aBf:(rI (rT 13)).k.view=1:=rfl
theorem aBg:gY (rI (rT 13))=false:=rfl
theorem aBh{α:Type}:∀{l:List α},l.length=2→∃a b,l=[a,b]
 |[a,b],_=>⟨a,b,rfl⟩
theorem wA.fin{w W:World}{y m:Nat}{q:WkV}{K:List ObV}(h:wA w W y m 14 q K):∃j c1 b c,W.cell? ⟨y,2,none⟩=some (.i 1)∧W.cell? ⟨m,0,none⟩=some (.slice j 1 c1)∧W.cell? ⟨m,1,none⟩=some (.slice (some ⟨b,0,none⟩) 2 c)∧
  W.cell? ⟨b,0,none⟩=some (.i 5)∧W.cell? ⟨b,3,none⟩=some (.i 1)∧W.cell? ⟨b,25,none⟩=some (.i 3)∧gY q.r.x=false:=by
 obtain⟨R,z,e,n,d⟩:=h.x;rw[z.last]at e n d;clear z;have I:q.r.x.k.view=1:=by rw[e]; exact aBf
 have G:gY q.r.x=false:=by rw[e]; exact aBg
 have J:q.rs.length=1:=by have:=bG List.length n; rw[cW]at this; exact this
 have i:q.ms.length=2:=by have:=bG List.length d; rw[cW]at this; exact this
 clear e n;obtain⟨j,c1,H,-⟩:=eD h.rs;obtain⟨b,c,F,-,-,-,-,f,-⟩:=h.ms.at_ fF (by decide) (by rw[i]; decide);have A:=h.a.cell 2;rw[show q.r.cells[2]? =some (.i q.r.x.k.view) from rfl,I]at A;have B:=h.t.cell 0;have C:=h.t.cell 1;rw[show ([q.rv,q.mv]:List Value)[0]? =some q.rv from rfl,H,J]at B;rw[show ([q.rv,q.mv]:List Value)[1]? =some q.mv from rfl,F,i]at C;obtain⟨l,E⟩:=nm' q.ms;rw[E]at f d i;obtain⟨g,D,rfl⟩:=aBh i;simp only[kM,wM,List.cons.injEq,and_true]at d;have o:=f 0 (by simp) 0 (.i g.kind) rfl;have s:=f 0 (by simp) 3 (.i g.view) rfl;have p:=f 1 (by simp) 2 (.i D.dst) rfl;rw[show g.kind=5 from bG Mg.kind d.1]at o;rw[show g.view=1 from bG Mg.view d.1]at s;rw[show D.dst=3 from bG Mg.dst d.2]at p;simp only[qR,hY,Nat.one_mul,Nat.reduceAdd]at o s p;refine⟨j,c1,b,c,?_,?_,?_,?_,?_,?_,G⟩
 .exact A
 .exact B
 .exact C
 .exact o
 .exact s
 .exact p
end
section
attribute [-go_sem] loadCellsFrom storeCells run_eql_struct run_neq_struct Instr.build
attribute [local go_sem] bC
def opA:Opn:=⟨1,0,0,0,0,0,0⟩
def Rt(d:Int):MgV:=⟨1,-1,d,0,0,0,0,0,[],.slice none 0 0,0,0,⟨#[]⟩,1,opA,0,0,false⟩
theorem aEy(w:World):(Instr.build 43 #[(0,.i 1)]).run prog w=.ok (.agg opA.cells.toArray) w:=run_build w _ _ _ (by kernel_rfl)
theorem aEz(d:Int)(w:World):(Instr.build 48 #[(0,.i 1),(1,.i (-1)),(2,.i d),(12,.i 1),(13,.agg opA.cells.toArray)]).run prog w=.ok (.agg (Rt d).cells.toArray) w:=run_build w _ _ _ (by kernel_rfl)
theorem aCW(d:Int):(Rt d).x=aBL d:=rfl
theorem aCX(d:Int)(w:World):Calls prog 30 #[.i d] w fun e h=>e=.returned (.agg (Rt d).cells.toArray)∧Bw' w h:=by
 obtain⟨l,g,b,a,j⟩:=par w 48 aCc;unfold aCc at g;obtain⟨m,r,x,c,c2⟩:=b.put (Rt d).cells rfl (nV (p:=Rt d) rfl);have l2:=c.load (P:=prog) (k:=23) rfl;have n:=aEy;have q:=aEz d;have f:=kp (a.trans (c2.below (B:=w.heap.size) (fun i s=>by omega) a.size));clear a c2 b c j;go_enter func30,ntmps30;go_wp2_with fail;exact aU (v:=.agg (Rt d).cells.toArray) (by simp[results,results30,go_sem,l2]) rfl ⟨rfl,f.o⟩
def aCh(d:Int)(z:Value)(_:World):Prop:=z=.agg (Rt d).cells.toArray
structure Ar(W:World)(base a:Nat)(q:RpV)(qs:List ObV):Prop where
 b:Blk W a 39 q.cells
 o:RpO W base q qs
structure ToV(W:World)(base b:Nat)(rv mv:Value)(rs:List RcV)(ms:List MgV):Prop where
 b:Blk W b 55 [rv,mv]
 r:Ow W base 101 17 rv RcV.cells rs
 m:Ow W base 48 23 mv MgV.cells ms
 e:∀x∈ms,Ow W base 93 11 x.ev En.cells x.es
section
variable {W W':World}{base base2 a a' b b' b2 n c2:Nat}{q:RpV}{qs:List ObV}{rv mv:Value}{rs:List RcV}{ms l:List MgV}{cs:List Value}{m:MgV}
theorem Ar.grow(h:Ar W base a q qs)(c:Bw' W W'):Ar W' base a q qs:=⟨h.b.grow c,h.o.below c⟩
theorem Ar.rep(h:Ar W base a q qs)(d:Blk W a' 39 cs)(c:Chg (fun i=>i=a') W W')(e:a≠a'):Ar W' base a q qs:=⟨h.b.chg c e,h.o.chg d c (by decide)⟩
theorem Ar.told(h:Ar W base a q qs)(d:Blk W b 55 cs)(c:Chg (fun i=>i=b) W W'):Ar W' base a q qs:=⟨h.b.chg c (h.b.ne d (by decide)),h.o.chg d c (by decide)⟩
theorem ToV.grow(h:ToV W base b rv mv rs ms)(a:Bw' W W'):ToV W' base b rv mv rs ms:=⟨h.b.grow a,h.r.below a,h.m.below a,fun x c=>(h.e x c).below a⟩
theorem ToV.rep(h:ToV W base b rv mv rs ms)(c:Blk W a' 39 cs)(a:Chg (fun i=>i=a') W W'):ToV W' base b rv mv rs ms:=
 ⟨h.b.chg a (h.b.ne c (by decide)),h.r.chg_blk c a (by decide),h.m.chg_blk c a (by decide),fun x d=>(h.e x d).chg_blk c a (by decide)⟩
theorem ToV.told(h:ToV W base b rv mv rs ms)(c:Blk W b' 55 cs)(a:Chg (fun i=>i=b') W W')(d:b≠b'):ToV W' base b rv mv rs ms:=
 ⟨h.b.chg a d,h.r.chg_blk c a (by decide),h.m.chg_blk c a (by decide),fun x f=>(h.e x f).chg_blk c a (by decide)⟩
theorem ToV.open_{x:Mg}{xs:List Mg}{r:Nat}(h:ToV W base b rv mv rs ms)(k:rs.length=r)(a:ms.map (·.x)=x::xs)(j:xs.length+1=n):
  ∃A c b2 c2 m l,ToV W base b (.slice A r c) (.slice (some ⟨b2,0,none⟩) n c2) rs (m::l)∧m.x=x:=by
 obtain⟨A,c,f,-⟩:=eD h.r
 match ms,a with
 |m::l,a=>
  injection a with g i
  have d:(m::l).length=n:=by rw[←j,←i,cW]; rfl
  obtain⟨b2,c2,e,-⟩:=h.m.at_ fF (by decide) (by rw[d]; omega);rw[d]at e;rw[k]at f;subst f e;exact⟨A,c,b2,c2,m,l,h,g⟩
theorem ToV.at_(h:ToV W base b rv (.slice (some ⟨b2,0,none⟩) n c2) rs (m::l))(t:Nat)(u:Value)(c:m.cells[t]? =some u):W.cell? ⟨b2,t,none⟩=some u:=by
 obtain⟨f,c3,d,-,-,-,-,a,-⟩:=h.m.at_ fF (by decide) (by simp);injection d with e;injection e with e;injection e with e;subst e;have:=a 0 (by simp) t u c;simpa using this
theorem ToV.load(h:ToV W base b rv (.slice (some ⟨b2,0,none⟩) n c2) rs (m::l)):Sem.run prog (loadCellsFrom ⟨b2,0,none⟩ 0 23 #[]) W=.ok m.cells.toArray W:=by
 have:=Ie (P:=prog) (w:=W) (b:=b2) (o:=0) m.cells (fun t u a=>by rw[hY]; exact h.at_ t u a)
 rwa [fF]at this
end
theorem HvI.end_{Wa W:World}{a d:Nat}{q:List Value}{R:Rp×List Rc×List Mg}{X:Nat→Option Value}{m n o Q:Value}(h:HvI Wa a q R d X W)(H:X (4+d)=some m)(I:X (5+d)=some n)(J:X (6+d)=some o)(K:X (7+d)=some Q):
  ∃(p:WkV)(ps:List ObV)(b:Nat)(W':World),m=.agg p.r.cells.toArray∧n=.agg #[p.rv,p.mv]∧o=.pointer (some ⟨b,0,none⟩)∧Sem.run prog (storeCells ⟨b,0,none⟩ [p.rv,p.mv] 0) W=.ok () W'∧
   Ar W' Wa.heap.size a p.r ps∧ToV W' Wa.heap.size b p.rv p.mv p.rs p.ms∧Chg (fun i=>i=a) Wa W'∧Wa.heap.size≤b∧p.r.x=R.1∧p.rs.map (·.x)=R.2.1∧p.ms.map (·.x)=R.2.2:=by
 obtain⟨p,ps,b,z,A,B,M,f,L,C,D,E,F,j,k,G,e⟩:=h.fin H I J K;obtain⟨W',S,s,x,c⟩:=f.put [p.rv,p.mv] rfl (fun u g=>by
  rcases bA.1 g with rfl|g
  .exact j.one
  .rw[bQ.1 g]; exact k.one)
 have O:Ar W Wa.heap.size a p.r ps:=⟨L,F⟩
 exact⟨p,ps,b,W',z,A,B,s,O.told f c,⟨x,j.chg_blk f c (by decide),k.chg_blk f c (by decide),fun y P=>(G y P).chg_blk f c (by decide)⟩,
  ⟨c.os.trans e.os,c.tape.trans e.tape,c.output.trans e.output,aB e.size c.size,fun i l N=>(c.block i (eA l e.size) (by omega)).trans (e.block i l N)⟩,M,C,D,E⟩
theorem aB3:RxS (aEJ 1)∧RxS (aEJ 2):=by
 have a:=aBd 1 ⟨by decide,by decide⟩;have b:=aBd 2 ⟨by decide,by decide⟩;rw[aCb 1 (by decide)]at a;rw[aCb 2 (by decide)]at b;exact⟨a,b⟩
theorem aCY:∀e∈[cG],enR e:=fun e a=>by
 rw[bQ.1 a];unfold enR inR;decide+kernel
theorem RxS.put1{x:Rp}(h:RxS x)(a:KdR (kd3.add cG)∧(kd3.add cG).es.length≤1000000∧(kd3.add cG).image.size≤1000000):RxS {x with k:=kd3.add cG}:=⟨a,h.s,h.l,h.v,h.r⟩
theorem aCZ:RxS (aEI 1)∧RxS (aEI 2):=by
 have a:KdR (kd3.add cG)∧(kd3.add cG).es.length≤1000000∧(kd3.add cG).image.size≤1000000:=⟨aCY,by decide,Og.2.2⟩
 exact⟨aB3.1.put1 a,aB3.2.put1 a⟩
theorem aC0{r:Rp}(R:Rp×List Rc×List Mg)(h:dI r=true):fsp r R=R:=by unfold fsp; rw[aE h]
theorem aCi{W Wa:World}{base:Nat}{q:RpV}{qs:List ObV}{m:MgV}{r:Rp}{x:Mg}{R:Rp×List Rc×List Mg}(h:RpO W base q qs)(n:Wa.heap.size≤W.heap.size)(k:q.x=r)(l:dI r=true)(o:RxS r)(i:Sl W W.heap.size m.ev En.cells m.es)(j:m.x=x)(d:MgR x)(c:∀e∈x.es,enR e)(g:x.es.length≤1000000)(f:Xw r x=some R):
  Calls prog 9 #[.agg q.cells.toArray,.agg m.cells.toArray] W fun e a=>∃z,e=.returned z∧HvQ Wa R z a∧Bw' W a:=by
 subst k j;refine (aCV q qs m W.heap.size W R h.rpAt i (aD _) (RxS.p o h.rpAt.2.1.1.2.1) c d g (fun _=>f)).mono ?_;intro e a b;rw[aC0 R l]at b;exact b.hv n
end
section
attribute [-go_sem] loadCellsFrom storeCells run_eql_struct run_neq_struct Instr.build
attribute [local go_sem] bC
theorem aEA:gM (aEJ 1)=true:=by decide+kernel
theorem aCj:MgR (aBL 1)∧MgR (aBM 2)∧MgR aBY∧MgR (aBL 2):=by
 have g:∀m∈[aBL 1,aBM 2,aBY,aBL 2],inR m.src∧inR m.seq∧inR m.op.k∧inR m.op.h∧inR m.op.i∧inR m.op.n∧inR m.op.m∧inR m.op.v∧inR m.op.t:=by
  unfold inR;decide+kernel
 exact⟨let h:=g _ (by simp); ⟨h.1,h.2.1,h.2.2⟩,let h:=g _ (by simp); ⟨h.1,h.2.1,h.2.2⟩,let h:=g _ (by simp); ⟨h.1,h.2.1,h.2.2⟩,let h:=g _ (by simp); ⟨h.1,h.2.1,h.2.2⟩⟩
theorem aCv{m:Mg}(h:m.es=[]):∀e∈m.es,enR e:=fun e a=>by rw[h]at a; cases a
structure HvT(Wa:World)(R:Rp×List Rc×List Mg)(X:Nat→Option Value)(W:World):Prop where
 c:CAl Wa 39 dN 55 [.slice none 0 0,.slice none 0 0] (HvQ Wa R) vY 2 3 4 6 7 8 X W
 e:∀z,X 5=some z→∃u y,X 2=some u∧u=.tuple #[y,z]
theorem HvT.step{Wa W W':World}{R:Rp×List Rc×List Mg}{X:Nat→Option Value}{j:Nat}{u:Value}(h:HvT Wa R X W)(g:CAl Wa 39 dN 55 [.slice none 0 0,.slice none 0 0] (HvQ Wa R) vY 2 3 4 6 7 8 (bD X j u) W')(d:5≠j)(f:2=j→X 2=none):HvT Wa R (bD X j u) W':=by
 refine⟨g,fun z c=>?_⟩;rw[aR d]at c;obtain⟨k,y,a,i⟩:=h.e z c;refine⟨k,y,?_,i⟩
 by_cases b:2=j
 .rw[f b]at a; cases a
 .rw[aR b]; exact a
theorem aBU(w:World):Calls prog 8 #[] w fun e w'=>e=.returned (.bool true)∧Bw' w w':=by
 have HS:=kp (aBe 1 ⟨by decide,by decide⟩ w);rw[aCb 1 (by decide)]at HS;go_enter func8,ntmps8;go_wp2_with fail;refine (HS.o).mono ?_;rintro e w1 ⟨p,ps,rfl,q1,j2,e2⟩;have q1:p.x=aEJ 1:=q1;have z3:=e2.size;obtain⟨W2,g3,s2,x2,b2,-⟩:=fB w1 39 dN p.cells rfl (gR j2.rpAt);unfold dN at g3 s2;have H1:=k'3 (show Ar W2 w.heap.size w1.heap.size p ps from⟨x2,j2.below b2⟩) q1 (e2.on b2);have a2:=kp (aBe 2 ⟨by decide,by decide⟩ W2);rw[aCb 2 (by decide)]at a2;clear x2 b2 j2 e2 q1 HS;go_wp2_with fail;refine (a2.o).mono ?_;rintro e w3 ⟨p2,p4,rfl,y1,l2,m1⟩;have y1:p2.x=aEJ 2:=y1;obtain⟨W4,j3,s4,x4,aS,-⟩:=fB w3 39 dN p2.cells rfl (gR l2.rpAt);unfold dN at j3 s4;have r1:=H1.a.grow (m1.on aS);have l1:=r1.b.load (P:=prog) (k:=26) rfl;have S1:=RxS.p (p:=p) (ps:=ps) (by rw[H1.b]; exact aB3.1) r1.o.rpAt.2.1.1.2.1;have HP:=kp (by have:=aC4 p ps W4.heap.size W4 r1.o.rpAt (aD _) S1; rw[H1.b,aBZ.1,aEA]at this; exact this);have a0:=H1.C.size;have H2:=k'5 r1 (show Ar W4 w.heap.size w3.heap.size p2 p4 from⟨x4,(l2.below aS).mono a0⟩) y1 (H1.C.on (m1.on aS)) (show w1.heap.size<w3.heap.size from eA H1.a.b.lt m1.size);clear r1 S1 a0 l2 x4 aS m1 y1 a2;go_wp2_with fail;refine mb' (HP.o) fun w5 l3=>?_;have HA:=kp l3;clear l3 l1;go_wp2_with fail;clear s2 g3 s4 j3;obtain⟨V0,d3⟩:∃V,w5.drew=V:=⟨_,rfl⟩
 have z1:Bw' W4 V0:=d3▸bR HA.o;have H:=k'6 (H2.a.grow z1) (H2.b.grow z1) (H2.d.on z1) H2.E H1.b H2.c;have HW:=kp z3;clear z1 HA z3;have g1:=kp (show Blk V0 w1.heap.size 39 p.cells from H.a.b);refine fR 8 (HvI V0 w1.heap.size p.cells (aEI 1,[aBK cG],[aBM 2,aBM 3]) 0) (fun _=>fK) (by kernel_rfl) (by kernel_rfl) (by rw[d3]; exact HvI.start g1.o rfl) ?_;refine bO ?_; apply Exists.intro;refine bS (aCh 1) ?_
 iterate 6 (refine bS eM ?_)
 refine dR ⟨?_,?_⟩
 rotate_left
 .apply Ug (by kernel_rfl) (by intro t w h; cases h; exact trivial) rfl
  .intro X W' g s I q A;have l1:=(g.old s).load (P:=prog) (k:=26) rfl;go_wp2_with fail;exact⟨rfl,_,rfl,g.other (by decide),aV,rfl⟩
  simp only[Act.put,aN,aH,aI,aT];refine⟨fun X W' g s I q A=>?_,fun u1=>?_⟩
  .go_wp2_with fail;refine (aCX 1 W').mono ?_;rintro e d1 ⟨rfl,Q⟩;have l:=(g.grow Q).other (j:=1) (u:=.agg (Rt 1).cells.toArray) (by decide);clear Q;go_wp2_with fail;exact⟨rfl,_,rfl,l,aV,rfl⟩
  simp only[Act.put,aN,aH,aI,aT,aW];refine⟨fun X W' g s I q A=>?_,fun u2=>?_⟩
  .have h0:(X 0).isSome=true:=by rw[q 0 30 _ (by kernel_rfl) (by kernel_rfl) (bT (by kernel_rfl)) rfl]; rfl
   have d2:aCh 1 u1 W':=A 31 (bT (by kernel_rfl))
   cases d2;go_wp2_with fail;refine (aCi (Wa:=V0) (m:=Rt 1) (H.a.o.chg g1.o g.c (by decide)) g.c.size H.e aBZ.1 aB3.1 ((Ow.nil W' 0 93 11 En.cells).sl eL) (aCW 1) aCj.1 (aCv rfl) (by decide) aDa).mono ?_;rintro e d1 ⟨z,rfl,U,Q⟩;have l:=g.doCall s h0 Q U;clear U Q h0;go_wp2_with fail;exact⟨rfl,_,rfl,l,aV,trivial⟩
  simp only[Act.put,aN,aH,aI,aT,aW];refine⟨fun X W' g s I q A=>?_,fun u3=>?_⟩
  .have Y:X 2=some u2:=q 2 32 u2 (by kernel_rfl) (by kernel_rfl) (bT (by kernel_rfl)) rfl;have l:=g.doMv Y;clear Y;go_wp2_with fail;exact⟨rfl,_,rfl,l,aV,trivial⟩
  simp only[Act.put,aN,aH,aI,aT,aW];refine⟨fun X W' g s I q A=>?_,fun R=>?_⟩
  .have J:=g.mv _ (q 3 29 u3 (by kernel_rfl) (by kernel_rfl) (bT (by kernel_rfl)) rfl);obtain⟨D,W,rfl,-⟩:=g.call _ J;have l:=g.doE1 s J rfl;clear J;go_wp2_with fail;exact⟨rfl,_,rfl,l,aV,trivial⟩
  simp only[Act.put,aN,aH,aI,aT,aW];refine⟨fun X W' g s I q A=>?_,fun u5=>?_⟩
  .have J:=g.mv _ (q 3 29 u3 (by kernel_rfl) (by kernel_rfl) (bT (by kernel_rfl)) rfl);obtain⟨D,W,rfl,-⟩:=g.call _ J;have l:=g.doE2 J rfl;clear J;go_wp2_with fail;exact⟨rfl,_,rfl,l,aV,trivial⟩
  simp only[Act.put,aN,aH,aI,aT,aW];refine⟨fun X W' g s I q A=>?_,fun u6=>?_⟩
  .have l:=g.doAlloc;go_wp2_with fail;exact⟨rfl,_,rfl,l,aV,trivial⟩
  simp only[Act.put,aN,aH,aI,aT,aW];refine⟨fun X W' g s I q A=>?_,fun u7=>?_⟩
  .have S:X 4=some R:=q 4 33 R (by kernel_rfl) (by kernel_rfl) (bT (by kernel_rfl)) rfl;obtain⟨u,y,M,O⟩:=g.e1 _ S;obtain⟨D,W,L,-,-,-,ho,-⟩:=g.call _ M;rw[O]at L;obtain⟨rfl,-⟩:R=.agg D.r.cells.toArray∧y=.agg #[D.rv,D.mv]:=by simpa using L
   obtain⟨⟨ds,Z,hl⟩,l⟩:=g.doStore (u:=undef) S rfl g1.o.lt;have o2:=Z.store (P:=prog) (cs':=D.r.cells) (by rw[hl]; rfl) (gR ho.rpAt);clear Z hl O L M S ho;go_wp2_with fail;exact⟨rfl,undef,rfl,l,aV,trivial⟩
  simp only[Act.put,aT,aW];intro W9 g A;clear A;simp only[dO,dP];obtain⟨q5,e5,b5,V5,rfl,rfl,rfl,s9,hr,K,hc,b0,hx,o0,l0⟩:=g.end_ rfl rfl rfl rfl;have d0:=k'7 hr K hc b0 hx o0 l0;clear g hr K hc b0 hx o0 l0;obtain⟨A5,c5,g5,d5,m5,l5,K,o1⟩:=d0.b.open_ (r:=1) (n:=2) (by have:=bG List.length d0.f; rw[cW]at this; exact this) d0.G rfl;have k0:V5.cell? ⟨b5,0,none⟩=some (.slice A5 1 c5):=K.b.cell 0;have k1:V5.cell? ⟨b5,1,none⟩=some (.slice (some ⟨g5,0,none⟩) 2 d5):=K.b.cell 1;have m0:V5.cell? ⟨g5,0,none⟩=some (.i 3):=by have:=K.at_ 0 (.i m5.kind) rfl; rwa [show m5.kind=3 from bG Mg.kind o1]at this
  have O:=K.e m5 (List.mem_cons_self ..);obtain⟨E5,f5,g2,-⟩:=eD O;rw[show m5.es.length=1 by rw[show m5.es=[cG] from bG Mg.es o1]; rfl]at g2;have m8:V5.cell? ⟨g5,8,none⟩=some (.slice E5 1 f5):=K.at_ 8 _ (by rw[←g2]; rfl);clear O g2;have q2:=k'2 K o1;clear K o1;have a0:=H.c.size;have r2:=H.b.rep g1.o d0.c (by have:=H.d; omega);have j0:=H.c.trans (d0.c.below (B:=w.heap.size) (fun i hi=>by have:=HW.o; omega) a0);go_wp2_with fail;clear s9 k0 k1 m0 m8;obtain⟨V6,e3⟩:∃V,V5.drew=V:=⟨_,rfl⟩
  have N:Bw' V5 V6:=e3▸bR (aL _ _);have H8:=k'6 (d0.a.grow N) (r2.grow N) (q2.a.grow N) (j0.on N) d0.e (show V0.heap.size≤V6.heap.size from aB d0.c.size N.size);clear N r2 j0 a0;have z0:=kp (show Blk V6 w3.heap.size 39 p2.cells from H8.b.b);refine fR 11 (HvI V6 w3.heap.size p2.cells (aEI 2,[aBK cG],[aBY]) 3) (fun _=>fK) (by kernel_rfl) (by kernel_rfl) (by rw[e3]; exact HvI.start z0.o rfl) ?_
  iterate 5 (refine bO ?_; apply Exists.intro)
  iterate 6 (refine bS eM ?_)
  refine dR ⟨?_,?_⟩
  rotate_left
  .apply Ug (by kernel_rfl) (by intro t w h; cases h; exact trivial) rfl
   .intro X W' g s I q A;have l1:=(g.old s).load (P:=prog) (k:=26) rfl;go_wp2_with fail;exact⟨rfl,_,rfl,g.other (by decide),aV,rfl⟩
   simp only[Act.put,aN,aH,aI,aT]
   iterate 4
    apply Ug (by kernel_rfl) (by intro t w h; cases h; exact trivial) rfl
    .intro X W' g s I q A;have t9:=H8.c.rep z0.o g.c;have k1:=t9.b.cell 1;have l1:=t9.load;clear t9;go_wp2_with fail;exact⟨rfl,_,rfl,g.other (by decide),aV,rfl⟩
    simp only[Act.put,aN,aH,aI,aT,aW]
   refine⟨fun X W' g s I q A=>?_,fun u2=>?_⟩
   .have h0:(X 0).isSome=true:=by rw[q 0 63 _ (by kernel_rfl) (by kernel_rfl) (bT (by kernel_rfl)) rfl]; rfl
    go_wp2_with fail;refine (aCi (Wa:=V6) (m:=m5) (H8.b.o.chg z0.o g.c (by decide)) g.c.size H.F aBZ.2.1 aB3.2 (((H8.c.rep z0.o g.c).e m5 (List.mem_cons_self ..)).sl eL) q2.B aCj.2.1 aCY (by decide) aDb).mono ?_;rintro e d1 ⟨z,rfl,U,Q⟩;have l:=g.doCall s h0 Q U;clear U Q h0;go_wp2_with fail;exact⟨rfl,_,rfl,l,aV,trivial⟩
   simp only[Act.put,aN,aH,aI,aT,aW];refine⟨fun X W' g s I q A=>?_,fun u3=>?_⟩
   .have Y:X 5=some u2:=q 5 68 u2 (by kernel_rfl) (by kernel_rfl) (bT (by kernel_rfl)) rfl;have l:=g.doMv Y;clear Y;go_wp2_with fail;exact⟨rfl,_,rfl,l,aV,trivial⟩
   simp only[Act.put,aN,aH,aI,aT,aW];refine⟨fun X W' g s I q A=>?_,fun R=>?_⟩
   .have J:=g.mv _ (q 6 62 u3 (by kernel_rfl) (by kernel_rfl) (bT (by kernel_rfl)) rfl);obtain⟨D,W,rfl,-⟩:=g.call _ J;have l:=g.doE1 s J rfl;clear J;go_wp2_with fail;exact⟨rfl,_,rfl,l,aV,trivial⟩
   simp only[Act.put,aN,aH,aI,aT,aW];refine⟨fun X W' g s I q A=>?_,fun u5=>?_⟩
   .have J:=g.mv _ (q 6 62 u3 (by kernel_rfl) (by kernel_rfl) (bT (by kernel_rfl)) rfl);obtain⟨D,W,rfl,-⟩:=g.call _ J;have l:=g.doE2 J rfl;clear J;go_wp2_with fail;exact⟨rfl,_,rfl,l,aV,trivial⟩
   simp only[Act.put,aN,aH,aI,aT,aW];refine⟨fun X W' g s I q A=>?_,fun u6=>?_⟩
   .have l:=g.doAlloc;go_wp2_with fail;exact⟨rfl,_,rfl,l,aV,trivial⟩
   simp only[Act.put,aN,aH,aI,aT,aW];refine⟨fun X W' g s I q A=>?_,fun u7=>?_⟩
   .have S:X 7=some R:=q 7 69 R (by kernel_rfl) (by kernel_rfl) (bT (by kernel_rfl)) rfl;obtain⟨u,y,M,O⟩:=g.e1 _ S;obtain⟨D,W,L,-,-,-,ho,-⟩:=g.call _ M;rw[O]at L;obtain⟨rfl,-⟩:R=.agg D.r.cells.toArray∧y=.agg #[D.rv,D.mv]:=by simpa using L
    obtain⟨⟨ds,Z,hl⟩,l⟩:=g.doStore (u:=undef) S rfl z0.o.lt;have o2:=Z.store (P:=prog) (cs':=D.r.cells) (by rw[hl]; rfl) (gR ho.rpAt);clear Z hl O L M S ho;go_wp2_with fail;exact⟨rfl,undef,rfl,l,aV,trivial⟩
   simp only[Act.put,aT,aW];intro W9 g A;clear A;simp only[dO,dP];obtain⟨q8,j5,cD,V8,rfl,rfl,rfl,s9,hr,K,hc,b0,hx,o0,l0⟩:=g.end_ rfl rfl rfl rfl;have g0:=k'7 hr K hc b0 hx o0 l0;clear g hr K hc b0 hx o0 l0;obtain⟨A8,c8,g8,d8,m8,l8,K,p1⟩:=g0.b.open_ (r:=1) (n:=1) (by have:=bG List.length g0.f; rw[cW]at this; exact this) g0.G rfl;have k0:V8.cell? ⟨cD,0,none⟩=some (.slice A8 1 c8):=K.b.cell 0;have k1:V8.cell? ⟨cD,1,none⟩=some (.slice (some ⟨g8,0,none⟩) 1 d8):=K.b.cell 1;have m0:V8.cell? ⟨g8,0,none⟩=some (.i 4):=by have:=K.at_ 0 (.i m8.kind) rfl; rwa [show m8.kind=4 from bG Mg.kind p1]at this
   have o4:V8.cell? ⟨g8,5,none⟩=some (.i 1):=by have:=K.at_ 5 (.i m8.number) rfl; rwa [show m8.number=1 from bG Mg.number p1]at this
   have y2:=k'2 K p1;clear K p1;have a0:=H8.d.size;have r1:=H8.a.rep z0.o g0.c (by have:=H.d; omega);have j0:=H8.d.trans (g0.c.below (B:=w.heap.size) (fun i hi=>by have:=HW.o; have:=H.d; omega) a0);go_wp2_with fail;clear s9 k0 k1 m0 o4;obtain⟨V9,a3⟩:∃V,V8.drew=V:=⟨_,rfl⟩
   have N:Bw' V8 V9:=a3▸bR (aL _ _);have e0:=k'6 (g0.a.grow N) (r1.grow N) (y2.a.grow N) (j0.on N) g0.e (show V6.heap.size≤V9.heap.size from aB g0.c.size N.size);clear N r1 j0 a0;have y0:=kp (show Blk V9 w1.heap.size 39 q5.r.cells from e0.b.b);refine fR 11 (HvI V9 w1.heap.size q5.r.cells (aEK,[],[{Av (-1) 1 0 1 true with src:=1}]) 3) (fun _=>fK) (by kernel_rfl) (by kernel_rfl) (by rw[a3]; exact HvI.start y0.o rfl) ?_
   iterate 5 (refine bO ?_; apply Exists.intro)
   iterate 6 (refine bS eM ?_)
   refine dR ⟨?_,?_⟩
   rotate_left
   .apply Ug (by kernel_rfl) (by intro t w h; cases h; exact trivial) rfl
    .intro X W' g s I q A;have l1:=(g.old s).load (P:=prog) (k:=26) rfl;go_wp2_with fail;exact⟨rfl,_,rfl,g.other (by decide),aV,rfl⟩
    simp only[Act.put,aN,aH,aI,aT]
    iterate 4
     apply Ug (by kernel_rfl) (by intro t w h; cases h; exact trivial) rfl
     .intro X W' g s I q A;have t9:=e0.c.rep y0.o g.c;have k1:=t9.b.cell 1;have l1:=t9.load;clear t9;go_wp2_with fail;exact⟨rfl,_,rfl,g.other (by decide),aV,rfl⟩
     simp only[Act.put,aN,aH,aI,aT,aW]
    refine⟨fun X W' g s I q A=>?_,fun u2=>?_⟩
    .have h0:(X 0).isSome=true:=by rw[q 0 98 _ (by kernel_rfl) (by kernel_rfl) (bT (by kernel_rfl)) rfl]; rfl
     go_wp2_with fail;refine (aCi (Wa:=V9) (m:=m8) (e0.b.o.chg y0.o g.c (by decide)) g.c.size d0.e aBZ.2.2.1 aCZ.1 (((e0.c.rep y0.o g.c).e m8 (List.mem_cons_self ..)).sl eL) y2.B aCj.2.2.1 (aCv rfl) (by decide) aDc).mono ?_;rintro e d1 ⟨z,rfl,U,Q⟩;have l:=g.doCall s h0 Q U;clear U Q h0;go_wp2_with fail;exact⟨rfl,_,rfl,l,aV,trivial⟩
    simp only[Act.put,aN,aH,aI,aT,aW];refine⟨fun X W' g s I q A=>?_,fun u3=>?_⟩
    .have Y:X 5=some u2:=q 5 103 u2 (by kernel_rfl) (by kernel_rfl) (bT (by kernel_rfl)) rfl;have l:=g.doMv Y;clear Y;go_wp2_with fail;exact⟨rfl,_,rfl,l,aV,trivial⟩
    simp only[Act.put,aN,aH,aI,aT,aW];refine⟨fun X W' g s I q A=>?_,fun R=>?_⟩
    .have J:=g.mv _ (q 6 97 u3 (by kernel_rfl) (by kernel_rfl) (bT (by kernel_rfl)) rfl);obtain⟨D,W,rfl,-⟩:=g.call _ J;have l:=g.doE1 s J rfl;clear J;go_wp2_with fail;exact⟨rfl,_,rfl,l,aV,trivial⟩
    simp only[Act.put,aN,aH,aI,aT,aW];refine⟨fun X W' g s I q A=>?_,fun u5=>?_⟩
    .have J:=g.mv _ (q 6 97 u3 (by kernel_rfl) (by kernel_rfl) (bT (by kernel_rfl)) rfl);obtain⟨D,W,rfl,-⟩:=g.call _ J;have l:=g.doE2 J rfl;clear J;go_wp2_with fail;exact⟨rfl,_,rfl,l,aV,trivial⟩
    simp only[Act.put,aN,aH,aI,aT,aW];refine⟨fun X W' g s I q A=>?_,fun u6=>?_⟩
    .have l:=g.doAlloc;go_wp2_with fail;exact⟨rfl,_,rfl,l,aV,trivial⟩
    simp only[Act.put,aN,aH,aI,aT,aW];refine⟨fun X W' g s I q A=>?_,fun u7=>?_⟩
    .have S:X 7=some R:=q 7 104 R (by kernel_rfl) (by kernel_rfl) (bT (by kernel_rfl)) rfl;obtain⟨u,y,M,O⟩:=g.e1 _ S;obtain⟨D,W,L,-,-,-,ho,-⟩:=g.call _ M;rw[O]at L;obtain⟨rfl,-⟩:R=.agg D.r.cells.toArray∧y=.agg #[D.rv,D.mv]:=by simpa using L
     obtain⟨⟨ds,Z,hl⟩,l⟩:=g.doStore (u:=undef) S rfl y0.o.lt;have o2:=Z.store (P:=prog) (cs':=D.r.cells) (by rw[hl]; rfl) (gR ho.rpAt);clear Z hl O L M S ho;go_wp2_with fail;exact⟨rfl,undef,rfl,l,aV,trivial⟩
    simp only[Act.put,aT,aW];intro W9 g A;clear A;simp only[dO,dP];obtain⟨q4,a5,a4,z2,rfl,rfl,rfl,s9,hr,K,hc,b0,hx,o0,l0⟩:=g.end_ rfl rfl rfl rfl;have p0:=k'7 hr K hc b0 hx o0 l0;clear g hr K hc b0 hx o0 l0;obtain⟨y4,c11,j1,e4,a1,z4,K,o3⟩:=p0.b.open_ (r:=0) (n:=1) (by have:=bG List.length p0.f; rw[cW]at this; exact this) p0.G rfl;have a0:=e0.d.size;have r3:=e0.a.rep y0.o p0.c (by have:=H.d; omega);have j0:=e0.d.trans (p0.c.below (B:=w.heap.size) (fun i hi=>by have:=HW.o; omega) a0);obtain⟨b1,b3⟩:∃V,z2.drew=V:=⟨_,rfl⟩
    have N:Bw' z2 b1:=b3▸bR (aL _ _);have T:=k'7 (p0.a.grow N) (r3.grow N) (K.grow N) (j0.on N) p0.e o3 e0.e;clear N r3 j0 a0 K o3;go_wp2_with fail;clear s9;refine fR 9 (HvT b1 (aEI 2,[],[{Av (-1) 1 0 0 false with src:=2}])) (fun _=>fK) (by kernel_rfl) (by kernel_rfl) (by rw[b3]; exact⟨CAl.start,fun _ h=>(nomatch h)⟩) ?_;refine bO ?_; apply Exists.intro;refine bS (aCh 2) ?_
    iterate 7 (refine bS eM ?_)
    refine dR ⟨?_,?_⟩
    rotate_left
    .apply Ug (by kernel_rfl) (by intro t w h; cases h; exact trivial) rfl
     .intro X W' g s I q A;have l1:=(T.b.b.grow g.c.bel).load (P:=prog) (k:=26) rfl;go_wp2_with fail;exact⟨rfl,_,rfl,g.step (g.c.other (by decide)) (by decide) (fun h=>absurd h (by decide)),aV,rfl⟩
     simp only[Act.put,aN,aH,aI,aT];refine⟨fun X W' g s I q A=>?_,fun u1=>?_⟩
     .go_wp2_with fail;refine (aCX 2 W').mono ?_;rintro e d1 ⟨rfl,Q⟩;have l:=g.step (j:=1) (u:=.agg (Rt 2).cells.toArray) ((g.c.grow (HvQ.stab _ _) Q).other (by decide)) (by decide) (fun h=>absurd h (by decide));clear Q;go_wp2_with fail;exact⟨rfl,_,rfl,l,aV,rfl⟩
     simp only[Act.put,aN,aH,aI,aT,aW];refine⟨fun X W' g s I q A=>?_,fun u2=>?_⟩
     .have d2:aCh 2 u1 W':=A 108 (bT (by kernel_rfl))
      cases d2;go_wp2_with fail;refine (aCi (Wa:=b1) (m:=Rt 2) (T.b.o.below g.c.bel) g.c.bel.size T.G aBZ.2.2.2 aCZ.2 ((Ow.nil W' 0 93 11 En.cells).sl eL) (aCW 2) aCj.2.2.2 (aCv rfl) (by decide) aDd).mono ?_;rintro e d1 ⟨z,rfl,U,Q⟩;have l:=g.step (g.c.doCall (HvQ.stab _ _) s Q U (by decide)) (by decide) (fun _=>s);clear U Q;go_wp2_with fail;exact⟨rfl,_,rfl,l,aV,trivial⟩
     simp only[Act.put,aN,aH,aI,aT,aW];refine⟨fun X W' g s I q A=>?_,fun u3=>?_⟩
     .have Y:X 2=some u2:=q 2 109 u2 (by kernel_rfl) (by kernel_rfl) (bT (by kernel_rfl)) rfl;have l:=g.step (g.c.doMv Y (by decide)) (by decide) (fun h=>absurd h (by decide));clear Y;go_wp2_with fail;exact⟨rfl,_,rfl,l,aV,trivial⟩
     simp only[Act.put,aN,aH,aI,aT,aW];refine⟨fun X W' g s I q A=>?_,fun R=>?_⟩
     .have J:=g.c.mv _ (q 3 106 u3 (by kernel_rfl) (by kernel_rfl) (bT (by kernel_rfl)) rfl);obtain⟨D,W,rfl,-⟩:=g.c.call _ J;have l:=g.step (g.c.doExt s J ⟨_,rfl⟩ (by decide)) (by decide) (fun h=>absurd h (by decide));clear J;go_wp2_with fail;exact⟨rfl,_,rfl,l,aV,trivial⟩
     simp only[Act.put,aN,aH,aI,aT,aW];refine⟨fun X W' g s I q A=>?_,fun u5=>?_⟩
     .have J:=g.c.mv _ (q 3 106 u3 (by kernel_rfl) (by kernel_rfl) (bT (by kernel_rfl)) rfl);obtain⟨D,W,rfl,-⟩:=g.c.call _ J;have l:HvT b1 (aEI 2,[],[{Av (-1) 1 0 0 false with src:=2}]) (bD X 5 (.agg #[D.rv,D.mv])) W':=⟨g.c.other (by decide),fun z U=>by rw[qF]at U; cases U; rw[aR (by decide)]; exact⟨_,_,J,rfl⟩⟩
      clear J;go_wp2_with fail;exact⟨rfl,_,rfl,l,aV,trivial⟩
     simp only[Act.put,aN,aH,aI,aT,aW];refine⟨fun X W' g s I q A=>?_,fun u6=>?_⟩
     .have l:=g.step (g.c.doAlloc (HvQ.stab _ _) s (by decide)) (by decide) (fun h=>absurd h (by decide));go_wp2_with fail;exact⟨rfl,_,rfl,l,aV,trivial⟩
     simp only[Act.put,aN,aH,aI,aT,aW];refine⟨fun X W' g s I q A=>?_,fun u7=>?_⟩
     .have l:=g.step (g.c.doAlloc2 (HvQ.stab _ _) (by decide)) (by decide) (fun h=>absurd h (by decide));go_wp2_with fail;exact⟨rfl,_,rfl,l,aV,trivial⟩
     simp only[Act.put,aN,aH,aI,aT,aW];refine⟨fun X W' g s I q A=>?_,fun u8=>?_⟩
     .have S:X 4=some R:=q 4 110 R (by kernel_rfl) (by kernel_rfl) (bT (by kernel_rfl)) rfl;have h6:X 6=some u6:=q 6 8 u6 (by kernel_rfl) (by kernel_rfl) (bT (by kernel_rfl)) rfl;obtain⟨u,M,y,O⟩:=g.c.ext _ S;obtain⟨D,W,L,-,-,-,ho,-⟩:=g.c.call _ M;rw[O]at L;obtain⟨rfl,-⟩:R=.agg D.r.cells.toArray∧y=.agg #[D.rv,D.mv]:=by simpa using L
      obtain⟨a,cs,rfl,-⟩:=g.c.al _ h6;obtain⟨Z,y3⟩:=g.c.doStore (u:=undef) (HvQ.stab _ _) (by decide) s h6 S (by decide);have l:=g.step y3 (by decide) (fun h=>absurd h (by decide));have o2:=Z.store (P:=prog) (cs':=D.r.cells) rfl (gR ho.rpAt);clear Z O L M S h6 ho y3;go_wp2_with fail;exact⟨rfl,undef,rfl,l,aV,trivial⟩
     simp only[Act.put,aT,aW];intro W9 g A;clear A;simp only[dO,dP];obtain⟨u,M,y,O⟩:=g.c.ext R rfl;obtain⟨u',y',m2,L⟩:=g.e u5 rfl;obtain rfl:u=u':=by rw[M]at m2; exact Option.some.inj m2
     obtain⟨D,W,m3,-,-,f3,-,f5,f6,f7⟩:=g.c.call _ M;rw[m3]at O L;obtain⟨rfl,-⟩:R=.agg D.r.cells.toArray∧y=.agg #[D.rv,D.mv]:=by simpa [eq_comm] using O
     obtain⟨-,rfl⟩:y'=.agg D.r.cells.toArray∧u5=.agg #[D.rv,D.mv]:=by simpa [eq_comm] using L
     obtain⟨bT,rfl,b0,q0⟩:=g.c.al2 u7 rfl;obtain⟨VE,j4,s9,x9,c9⟩:=q0.put [D.rv,D.mv] rfl (fun u M=>by
      rcases bA.1 M with rfl|M
      .exact f5.one
      .rw[bQ.1 M]; exact f6.one)
     have t4:ToV VE b1.heap.size bT D.rv D.mv D.rs D.ms:=⟨x9,f5.chg_blk q0 c9 (by decide),f6.chg_blk q0 c9 (by decide),fun y hy=>(f7 y hy).chg_blk q0 c9 (by decide)⟩
     obtain⟨n1,q3⟩:∃n,D.rs.length=n:=⟨_,rfl⟩
     obtain⟨A4,c4,g4,d4,m4,l4,t4,p3⟩:=t4.open_ (n:=1) q3 f3 rfl;have t3:=(T.c.grow g.c.bel).told q0 c9 (by have:=T.c.b.lt; omega);have r1:=(T.a.grow g.c.bel).told q0 c9;have k1:VE.cell? ⟨w1.heap.size,7,none⟩=some (.i 1):=by have:VE.cell? ⟨w1.heap.size,7,none⟩=some (.i q4.r.x.commit):=r1.b.cell 7; rwa [T.e]at this
     have k2:VE.cell? ⟨a4,1,none⟩=some (.slice (some ⟨j1,0,none⟩) 1 e4):=t3.b.cell 1;have k3:VE.cell? ⟨bT,1,none⟩=some (.slice (some ⟨g4,0,none⟩) 1 d4):=t4.b.cell 1;have k4:VE.cell? ⟨j1,2,none⟩=some (.i (-1)):=by have:=t3.at_ 2 (.i a1.dst) rfl; rwa [show a1.dst= -1 from bG Mg.dst T.f]at this
     have k5:VE.cell? ⟨j1,21,none⟩=some (.i 1):=by have:=t3.at_ 21 (.i a1.value) rfl; rwa [show a1.value=1 from bG Mg.value T.f]at this
     have k6:VE.cell? ⟨j1,22,none⟩=some (.bool true):=by have:=t3.at_ 22 (.bool a1.ok) rfl; rwa [show a1.ok=true from bG Mg.ok T.f]at this
     have k7:VE.cell? ⟨g4,22,none⟩=some (.bool false):=by have:=t4.at_ 22 (.bool m4.ok) rfl; rwa [show m4.ok=false from bG Mg.ok p3]at this
     have A:=kp (T.d.trans (((g.c.bel.mono T.d.size)).trans (c9.below (B:=w.heap.size) (fun i hi=>by have:=T.d.size; omega) (aB T.d.size g.c.bel.size))));clear M m2 O L m3 f3 f5 f6 f7 b0 q0 x9 c9 t4 t3 r1 q3 p3 g j4;go_wp2_with fail;go_ret;exact⟨rfl,A.o⟩
    .exact⟨pv',fun _ _ _ _ _ h _=>h,fun _ _ _ _ _ h _=>h,fun _ _ _ _ _ h _=>h,fun _ _ _ _ _ h _=>h,fun _ _ _ _ _ h _=>h,fun _ _ _ _ _ h _=>h,fun _ _ _ _ _ h _=>h,fun _ _ _ _ _ h _=>h,trivial⟩
   .exact⟨pv',pv',pv',pv',pv',fun _ _ _ _ _ h _=>h,fun _ _ _ _ _ h _=>h,fun _ _ _ _ _ h _=>h,fun _ _ _ _ _ h _=>h,fun _ _ _ _ _ h _=>h,fun _ _ _ _ _ h _=>h,trivial⟩
  .exact⟨pv',pv',pv',pv',pv',fun _ _ _ _ _ h _=>h,fun _ _ _ _ _ h _=>h,fun _ _ _ _ _ h _=>h,fun _ _ _ _ _ h _=>h,fun _ _ _ _ _ h _=>h,fun _ _ _ _ _ h _=>h,trivial⟩
 .exact⟨pv',fun _ _ _ _ _ h _=>h,fun _ _ _ _ _ h _=>h,fun _ _ _ _ _ h _=>h,fun _ _ _ _ _ h _=>h,fun _ _ _ _ _ h _=>h,fun _ _ _ _ _ h _=>h,fun _ _ _ _ _ h _=>h,trivial⟩
end
end Go.Proofs.YthalbagblhkeaaaGreat
