import Derived.Test.YtoncgpddjmgbfaaGreatZ26
import Derived.Test.YtoncgpddjmgbfaaGreatZ27
import Derived.Test.YtoncgpddjmgbfaaGreatZ30
import Derived.Test.YtoncgpddjmgbfaaGreatZ31
import Derived.Defers
import Derived.Recover
namespace Go.Proofs.YtoncgpddjmgbfaaGreat
open Go.RowKit Go.Proofs.Tryz
set_option maxRecDepth 100000
set_option maxHeartbeats 12800000
set_option linter.unusedVariables false
set_option linter.unusedSimpArgs false
section
attribute [-go_sem] loadCellsFrom storeCells run_eql_struct run_neq_struct Instr.build
attribute [local go_sem] aX
theorem Wp.okay_no{q r:Wp}{m:Mg}(h:q.okay m=some r)(a:¬(m.view=q.r.k.view∧gN q.r=true∧iQ q.r=true∧m.number≤q.r.k.last)):q=r:=by
 unfold Wp.okay at h; rw[aF a]at h; exact Option.some.inj h
theorem Wp.okay_go{q r:Wp}{m:Mg}(h:q.okay m=some r)(b:m.view=q.r.k.view∧gN q.r=true∧iQ q.r=true∧m.number≤q.r.k.last):(q.r.nodes=3∧q.r.k.last=1∧m.number=1)∧∃l,qY q.r.acks m.src=some l∧Wp.reach ⟨{q.r with acks:=l},q.rs,q.ms⟩ 1=some r:=by
 unfold Wp.okay at h; rw[aK b]at h
 by_cases a:q.r.nodes=3∧q.r.k.last=1∧m.number=1
 .rw[aK a]at h
  cases ha:qY q.r.acks m.src with
  |none=>rw[ha]at h; cases h
  |some l=>rw[ha]at h; exact⟨a,l,rfl,h⟩
 .rw[aF a]at h; cases h
theorem aAJ{l f:List Ak}{n:Int}(v:Value)(B:Nat)(w:World)(a:qY l n=some f)(h:Sl w B v Ak.cells l)(d:B≤w.heap.size):
  Calls prog 67 #[v,.i n,.i 1] w fun e g=>∃v',e=.returned v'∧Ow g w.heap.size 172 2 v' Ak.cells f∧Bw' w g:=by
 unfold qY at a
 by_cases b:l=[]∧n=2
 .rw[aK b]at a;obtain⟨rfl,rfl⟩:=b
  cases a;exact Zx v 2 1 B w h d
 .rw[aF b]at a
  by_cases c:l=[⟨2,1⟩]∧n=3
  .rw[aK c]at a;obtain⟨rfl,rfl⟩:=c
   cases a;exact aAb v 3 1 ⟨2,1⟩ B w h d (by decide)
  .rw[aF c]at a; cases a
theorem aAK{l f:List Ak}{n:Int}(v:Value)(B:Nat)(w:World)(a:qY l n=some f)(h:Sl w B v Ak.cells f)(d:B≤w.heap.size):Calls prog 69 #[.i 3,.i 1,v] w fun e g=>e=.returned (.i 1)∧Bw' w g:=by
 unfold qY at a
 by_cases b:l=[]∧n=2
 .rw[aK b]at a; cases a;exact aAH v B w h d
 .rw[aF b]at a
  by_cases c:l=[⟨2,1⟩]∧n=3
  .rw[aK c]at a; cases a;exact aAI v B w h d
  .rw[aF c]at a; cases a
def RpV.acked(r:RpV)(v:Value)(l:List Ak):RpV:=⟨r.id,r.nodes,r.k,r.commit,r.s,r.timer,r.starts,r.sv,r.votes,r.vv,l,v,r.part⟩
def aAL(base:Nat)(l:List Ak)(u:Value)(W:World):Prop:=Ow W base 172 2 u Ak.cells l
theorem Kx(p:WkV)(a:List Value):(p.cells a)[20]? =some p.r.av:=rfl
theorem aAM{g base B:Nat}(p:WkV)(Z:List ObV)(m:MgV)(w:World)(q:Wp)(h:WkO w base g 101 [] p Z)(hm:Sl w B m.ev En.cells m.es)(j0:B≤base)(hb:base≤w.heap.size)(S:HrS p m)(U:(m.kind=3∧p.x.prep m.x=some q)∨(m.kind=4∧p.x.okay m.x=some q)):
  Calls prog 32 #[.pointer (some ⟨g,0,none⟩),.agg m.cells.toArray] w fun e w'=>e=.returned (.tuple #[])∧pM w w' base g p q:=by
 obtain⟨W1,b3,x1,b1,z1⟩:=par w 75 m.cells;have J:=h.below b1;have j3:=bG (show W1.cell? ⟨w.heap.size,3,none⟩=some (.i m.view) from x1.cell 3);have i2:=bG (show W1.cell? ⟨g,2,none⟩=some (.i p.r.k.view) from J.blk.cell 2);have jl:∀r:Blw W1,Sem.run prog (loadCellsFrom ⟨g,0,none⟩ 0 26 #[]) r.w=.ok p.r.cells.toArray r.w:=fun r=>(J.blk.grow r.h).loadOff 0 26 p.r.cells rfl rfl;obtain⟨n,hn⟩:=nm' (gN p.r.x);have d2:=kp (fun r:Blw W1=>by have:=By p.r r.w; rw[hn]at this; exact this);obtain⟨a,ha⟩:=nm' (m.view==p.r.k.view);have HX:=k'4 J x1 b1 (aB hb b1.size);have L:=k'6 h hm j0 hb S (aB j0 hb);have HA:=k'2 (show a=true↔m.view=p.r.k.view by rw[←ha]; simp) hn;have HQ:=kp U;clear x1 b1 z1 J hn h hm j0 hb S U;have a1:(a=false∧(a&&n)=false)∨(a=true∧n=false∧(a&&n)=false)∨(a=true∧n=true∧(a&&n)=true):=by
  cases a<;>cases n<;>decide
 obtain⟨i,hi⟩:=nm' (a&&n);have HI:=kp (show i=true↔m.x.view=p.x.r.k.view∧gN p.x.r=true by
  have N:gN p.x.r=n:=HA.B;have J:=HA.a;rw[←hi,N,bH];exact and_congr_left fun _=>J)
 rw[hi]at a1;clear hi;go_enter func32,ntmps32;go_wp2_with fail;rcases a1 with⟨rfl,rfl⟩|⟨rfl,rfl,rfl⟩|⟨rfl,rfl,rfl⟩
 all_goals
  refine cX (by kernel_rfl) (by kernel_rfl) ?_
  repeat (go_big_quiet_step ((go_at_call 64; with_reducible refine gV (d2.o _))))
  refine cI ?_;rintro W2 ⟨⟨_,H⟩,rfl⟩;have N:=HX.a.below H;have x2:=HX.b.grow H;have m2:=Sl.below L.b (HX.c.on H) L.F;have l:=k'5 N x2 m2 (HX.c.on H) (aB HX.D H.size);have l2:=x2.load (P:=prog) (k:=23) rfl;have k0:W2.cell? ⟨w.heap.size,0,none⟩=some (.i m.kind):=x2.cell 0;clear N x2 m2 H j3 i2 jl ha;rcases HQ.o with⟨hk,U⟩|⟨hk,U⟩
  .rw[hk]at k0;have HP:=kp (Zs p Z m _ W2 q l.a l.c L.c l.E L.e HI.o U);clear hk U;go_wp2_with fail;refine (HP.o).mono ?_;rintro e w3 ⟨rfl,p1,d3,q0,o1⟩;have M:=k'2 (q0.pre l.d) o1;clear q0 o1;go_wp2_with fail;go_end0;exact⟨rfl,.of M.a M.B⟩
  rw[hk]at k0;have HO:=kp U;clear hk U
 iterate 2
  .have HE:=kp (Wp.okay_no HO.o (fun hy=>by have:=HI.o.2 ⟨hy.1,hy.2.1⟩; cases this));go_wp2_with fail;refine cX (by kernel_rfl) (by kernel_rfl) ?_
   repeat (go_big_quiet_step (fail))
   refine cI ?_;rintro R ⟨⟨_,A⟩,rfl⟩;have M:=kp ((Gn.refl (l.a.below A)).pre (l.d.on A));clear A;go_wp2_with fail;go_end0;exact⟨rfl,.of M.o HE.o⟩
 have m1:=HI.o.1 rfl;have jl:∀r:Blw W2,Sem.run prog (loadCellsFrom ⟨g,0,none⟩ 0 26 #[]) r.w=.ok p.r.cells.toArray r.w:=fun r=>(l.a.blk.grow r.h).loadOff 0 26 p.r.cells rfl rfl;have j5:=bG (show W2.cell? ⟨w.heap.size,5,none⟩=some (.i m.number) from l.b.cell 5);obtain⟨z,hz⟩:=nm' (iQ p.r.x);have e0:=kp (fun r:Blw W2=>by have:=xW p.r r.w L.e.s.inN; rw[hz]at this; exact this);obtain⟨la,l0⟩:=nm' p.r.k.x.last;have a0:=kp (fun r:Blw W2=>by have:=qU p Z r.w (l.a.below r.h) L.e.s.log.1 (aB L.e.s.log.2.1 (by decide)); rw[l0]at this; exact this);obtain⟨y,hy⟩:=nm' (decide (m.number≤la));have Q:=k'4 m1 hz l0 hy;clear m1 hz l0;have q2:(z=false)∨(z=true∧y=false)∨(z=true∧y=true):=by cases z<;>cases y<;>simp
 rcases q2 with rfl|⟨rfl,rfl⟩|⟨rfl,rfl⟩
 iterate 2
  .have HE:=kp (Wp.okay_no HO.o (fun hc=>by
    first
     |(have J:=Q.b; have N:=hc.2.2.1; rw[show iQ p.x.r=iQ p.r.x from rfl,J]at N; contradiction)
     |(have J:=Q.D; have N:=hc.2.2.2; rw[show p.x.r.k.last=la from Q.c]at N; rw[fA (show m.number≤la from N)]at J; contradiction)))
   go_wp2_with fail;refine cX (by kernel_rfl) (by kernel_rfl) ?_
   repeat (go_big_quiet_step ((first |(go_at_call 66; with_reducible refine gV (e0.o _))|(go_at_call 51; with_reducible refine gV (a0.o _)))))
   refine cI ?_;rintro R ⟨⟨_,A⟩,rfl⟩;have M:=kp ((Gn.refl (l.a.below A)).pre (l.d.on A));clear A;go_wp2_with fail;go_end0;exact⟨rfl,.of M.o HE.o⟩
 have HG:=kp (Wp.okay_go HO.o ⟨Q.a.1,Q.a.2,Q.b,by show m.number≤p.r.k.x.last; rw[Q.c]; exact bO Q.D⟩);go_wp2_with fail;refine cX (by kernel_rfl) (by kernel_rfl) ?_
 repeat (go_big_quiet_step ((first |(go_at_call 66; with_reducible refine gV (e0.o _))|(go_at_call 51; with_reducible refine gV (a0.o _)))))
 refine cI ?_;rintro R ⟨⟨_,A⟩,rfl⟩;have HD:=kp (show Bw' R R.drew from bL (aH _ _));have O:=k'4 ((l.a.below A).below HD.o) ((l.b.grow A).grow HD.o) ((l.d.on A).on HD.o) (aB l.E (aB A.size HD.o.size));obtain⟨V,b0,j1⟩:=HG.B;obtain⟨z2,m0⟩:∃z,m.src=z:=⟨_,rfl⟩
 rw[show m.x.src=m.src from rfl,m0]at b0;have o0:=k'2 b0 j1;have a2:=kp (fun(W:World)(u:Below R.drew.heap.size R.drew W)=>aAJ p.r.av W.heap.size W b0 ((O.a.below u).rep.acks.sl lK) (aN _));have p0:=k'2 m0 (show m.number=1 from HG.a.2.2);clear b0 j1 m0;clear A jl j5 hy l2 k0 e0 a0;go_wp2_with fail;refine fM 14 (fun W'=>Below R.drew.heap.size R.drew W') (fun _=>jK) (by kernel_rfl) (by kernel_rfl) (aH _ _) ?_
 iterate 10 (refine bE ?_; apply Exists.intro)
 refine bJ (aAL base V) ?_
 iterate 3 (refine bE ?_; apply Exists.intro)
 refine cC ⟨?_,?_⟩
 rotate_left
 iterate 5
  apply bB (by kernel_rfl) (by intro t w h; cases h; exact trivial) rfl
  .intro W' f j; go_wp2_with fail;exact⟨rfl,_,rfl,f,aH _ _,rfl⟩
  simp only[Act.put,aE,aC,aD]
 apply bB (by kernel_rfl) (by intro t w h; cases h; exact trivial) rfl
 .intro W' f j; have q7:=(O.a.below f).blk.cell 20; rw[Kx]at q7; go_wp2_with fail;exact⟨rfl,_,rfl,f,aH _ _,rfl⟩
 simp only[Act.put,aE,aC,aD];apply bB (by kernel_rfl) (by intro t w h; cases h; exact trivial) rfl
 .intro W' f j; go_wp2_with fail;exact⟨rfl,_,rfl,f,aH _ _,rfl⟩
 simp only[Act.put,aE,aC,aD];apply bB (by kernel_rfl) (by intro t w h; cases h; exact trivial) rfl
 .intro W' f j; have q7:W'.cell? ⟨w.heap.size,1,none⟩=some (.i z2):=(by rw[←p0.a]; exact (O.b.grow f).cell 1); go_wp2_with fail;exact⟨rfl,_,rfl,f,aH _ _,rfl⟩
 simp only[Act.put,aE,aC,aD];apply bB (by kernel_rfl) (by intro t w h; cases h; exact trivial) rfl
 .intro W' f j; go_wp2_with fail;exact⟨rfl,_,rfl,f,aH _ _,rfl⟩
 simp only[Act.put,aE,aC,aD];apply bB (by kernel_rfl) (by intro t w h; cases h; exact trivial) rfl
 .intro W' f j; have q7:W'.cell? ⟨w.heap.size,5,none⟩=some (.i 1):=(by rw[←p0.B]; exact (O.b.grow f).cell 5); go_wp2_with fail;exact⟨rfl,_,rfl,f,aH _ _,rfl⟩
 simp only[Act.put,aE,aC,aD];refine⟨fun W' f j=>?_,fun a3=>?_⟩
 .go_wp2_with fail;refine (a2.o W' f).mono ?_;rintro e w4 ⟨v4,rfl,y2,d1⟩;go_wp2_with fail;exact⟨rfl,_,rfl,f.on d1,d1,y2.mono (aB O.D f.size)⟩
 simp only[Act.put,aE,aC,aD]
 iterate 3
  apply bB (by kernel_rfl) (by intro t w h; cases h; exact trivial) rfl
  .intro W' f j; go_wp2_with fail;exact⟨rfl,_,rfl,f,aH _ _,rfl⟩
  simp only[Act.put,aE,aC,aD]
 intro Y f j;have ho:Ow Y base 172 2 a3 Ak.cells V:=j 56;clear j;simp only[bS,bU];obtain⟨I,g1⟩:∃n,V.length=n:=⟨_,rfl⟩
 obtain⟨G,c5,rfl,-⟩:=dO ho;rw[g1]at ho ⊢;clear g1;have K:=O.a.below f;have y1:=K.blk.cell 20;have o2:=K.blk.frozen 20;rw[Kx]at y1;have x5:Blk (Y.setCell ⟨g,20,none⟩ (.slice G I c5)) g 101 (WkV.cells ⟨p.r.acked (.slice G I c5) V,p.rs,p.rv,p.ms,p.mv⟩ []):=K.blk.setCell 20 _;have g0:=(Chg.refl (fun i=>i=g) Y).setCell (.inr rfl) 20 (.slice G I c5);have o5:WkO (Y.setCell ⟨g,20,none⟩ (.slice G I c5)) base g 101 [] ⟨p.r.acked (.slice G I c5) V,p.rs,p.rv,p.ms,p.mv⟩ Z:=K.put (.inl rfl) x5 g0 ⟨K.rep.es,K.rep.st,K.rep.starts,K.rep.votes,K.rep.ves,ho⟩;have G5:Gn Y (Y.setCell ⟨g,20,none⟩ (.slice G I c5)) base g p ⟨p.r.acked (.slice G I c5) V,p.rs,p.rv,p.ms,p.mv⟩ Z:=⟨o5,g0.mono fun _ _ h=>.inl h,fun _ h=>.inl h,fun _ h=>.inl h⟩
 obtain⟨T,z0⟩:∃W,Y.setCell ⟨g,20,none⟩ (.slice G I c5)=W:=⟨_,rfl⟩
 rw[z0]at G5;have d0:=kp (show Bw' T T.drew from bL (aH _ _));have X:=k'3 (G5.o.below d0.o) ((G5.pre (O.c.on f)).post d0.o) (aB O.D (aB f.size (aB G5.size d0.o.size)));have S:=L.e;have a0:=kp (fun(W:World)(u:Below T.drew.heap.size T.drew W)=>qU _ Z W (X.a.below u) S.s.log.1 (aB S.s.log.2.1 (by decide)));have j2:=kp (fun(W:World)(u:Below T.drew.heap.size T.drew W)=>by
  have:=aAK (.slice G I c5) W.heap.size W o0.a ((X.a.below u).rep.acks.sl lK) (aN _);rw[←show p.r.nodes=3 from HG.a.1]at this;exact this)
 have b2:=kp (show p.r.k.x.last=1 from HG.a.2.1);clear ho K x5 g0 o5 G5 f S;go_wp2_with fail;clear y1 o2 z0;refine fM 14 (fun W'=>Below T.drew.heap.size T.drew W') (fun _=>jK) (by kernel_rfl) (by kernel_rfl) (aH _ _) ?_
 iterate 14 (refine bE ?_; apply Exists.intro)
 refine cC ⟨?_,?_⟩
 rotate_left
 iterate 5
  apply bB (by kernel_rfl) (by intro t w h; cases h; exact trivial) rfl
  .intro W' f j; go_wp2_with fail;exact⟨rfl,_,rfl,f,aH _ _,rfl⟩
  simp only[Act.put,aE,aC,aD]
 apply bB (by kernel_rfl) (by intro t w h; cases h; exact trivial) rfl
 .intro W' f j; have q7:W'.cell? ⟨g,1,none⟩=some (.i p.r.nodes):=(X.a.below f).blk.cell 1; go_wp2_with fail;exact⟨rfl,_,rfl,f,aH _ _,rfl⟩
 simp only[Act.put,aE,aC,aD];apply bB (by kernel_rfl) (by intro t w h; cases h; exact trivial) rfl
 .intro W' f j; go_wp2_with fail;exact⟨rfl,_,rfl,f,aH _ _,rfl⟩
 simp only[Act.put,aE,aC,aD];apply bB (by kernel_rfl) (by intro t w h; cases h; exact trivial) rfl
 .intro W' f j;go_wp2_with fail;refine mb' (a0.o W' f) fun w2 H=>?_;go_wp2_with fail;exact⟨rfl,_,rfl,f.on H,H,rfl⟩
 simp only[Act.put,aE,aC,aD]
 iterate 4
  apply bB (by kernel_rfl) (by intro t w h; cases h; exact trivial) rfl
  .intro W' f j; go_wp2_with fail;exact⟨rfl,_,rfl,f,aH _ _,rfl⟩
  simp only[Act.put,aE,aC,aD]
 apply bB (by kernel_rfl) (by intro t w h; cases h; exact trivial) rfl
 .intro W' f j; have q7:W'.cell? ⟨g,20,none⟩=some (.slice G I c5):=(X.a.below f).blk.cell 20; go_wp2_with fail;exact⟨rfl,_,rfl,f,aH _ _,rfl⟩
 simp only[Act.put,aE,aC,aD];apply bB (by kernel_rfl) (by intro t w h; cases h; exact trivial) rfl
 .intro W' f j;rw[show (p.r.acked (.slice G I c5) V).k.x.last=1 from b2.o];go_wp2_with fail;refine mb' (j2.o W' f) fun w2 H=>?_;go_wp2_with fail;exact⟨rfl,_,rfl,f.on H,H,rfl⟩
 simp only[Act.put,aE,aC,aD];intro W6 f j;clear j;simp only[bS,bU];have S:=L.e;have g2:=kp (Ki (q:=q) ⟨p.r.acked (.slice G I c5) V,p.rs,p.rv,p.ms,p.mv⟩ Z 1 W6 (X.a.below f) (aB X.C f.size) ⟨S.s.nodes,S.s.kept,S.s.kr,S.s.img,S.s.top,S.s.st,S.s.rs,S.s.ms⟩ S.c S.r ⟨by decide,by decide⟩ o0.B S.ms);have HB:=kp f;clear f S;go_wp2_with fail;refine (g2.o).mono ?_;rintro e w7 ⟨rfl,p2,e3,y0,q1⟩;have M:=k'2 ((X.b.post HB.o).trans y0) q1;clear y0 q1;go_wp2_with fail;go_end0;exact⟨rfl,.of M.a M.B⟩;exact⟨pv',pv',pv',pv',pv',pv',pv',pv',pv',pv',fun _ _ _ _ _ h hR=>Ow.below h hR,pv',pv',pv',trivial⟩;exact⟨pv',pv',pv',pv',pv',pv',pv',pv',pv',pv',pv',pv',pv',pv',trivial⟩
end
section
attribute [-go_sem] loadCellsFrom storeCells run_eql_struct run_neq_struct Instr.build
attribute [local go_sem] aX mZ
def six(m:MgV):List Int:=[m.view,m.number,m.base,m.commit,m.normal,m.offset]
theorem aAN(a b c d e f:Int)(w:World):(Instr.build 146 #[(0,.i a),(1,.i b),(2,.i c),(3,.i d),(4,.i e),(5,.i f)]).run prog w=.ok (.agg #[.i a,.i b,.i c,.i d,.i e,.i f]) w:=run_build w _ _ _ (by kernel_rfl)
theorem Ky(a b c d e f:Int)(w:World)(k:Nat)(x:Int)(g:([a,b,c,d,e,f]:List Int)[k]? =some x):(Instr.index 146 (.agg #[.i a,.i b,.i c,.i d,.i e,.i f]) (.i (k:Int))).run prog w=.ok (.i x) w:=by
 have h:k<6:=by
  have:=(iZ.1 g).1;simpa using this
 have:k=0∨k=1∨k=2∨k=3∨k=4∨k=5:=by omega
 rcases this with rfl|rfl|rfl|rfl|rfl|rfl
 all_goals
  simp at g;subst g;simp[Instr.index,run_underlying underlying146,asIntOf,go_sem]
attribute [local go_sem] aAN
theorem aAO(p:RpV)(m:MgV):nB p.x m.x=((aG m.src 1 p.nodes&&(!decide (m.src=p.id)&&(aG m.total 0 65536&&decide ((m.es.length:Int)≤2000))))&&((six m).all (fun n=>aG n 0 800000000)&&(decide (p.k.view≤m.view)&& !(m.es.any fun e=> !dQ e)))):=by
 have e:decide (m.es.length≤2000)=decide ((m.es.length:Int)≤2000):=decide_eq_decide.2 (by omega);unfold nB six;simp only[List.all_cons,List.all_nil,Bool.and_true];rw[show m.x.es=m.es from rfl,e,Bool.and_assoc];rfl
theorem aAP{g base B:Nat}(p:WkV)(ps:List ObV)(m:MgV)(w:World)(h:WkO w base g 101 [] p ps)(hm:Sl w B m.ev En.cells m.es)(O:B≤w.heap.size)(hn:m.es.length≤1000000):
  Calls prog 31 #[.pointer (some ⟨g,0,none⟩),.agg m.cells.toArray] w fun e w'=>e=.returned (.bool (nB p.r.x m.x))∧Bw' w w':=by
 rw[aAO];obtain⟨D,m0,I,G,z1⟩:=par w 75 m.cells;have J:=h.blk.grow G;have m1:=Sl.below hm G O;have P:=aB O G.size;obtain⟨X,c8,L,-⟩:=hm;have z:=k'3 J I G;have N:=kp (fun r:Blw D=>Ct m.ev m.es (fun e=> !dQ e) 62 #[] B r.w (Sl.below m1 r.h P) (aB P r.h.size) hn (enters_of func62 (by kernel_rfl) rfl) fun W' x _ _=>Kc.1 x W');have j1:=bG (show D.cell? ⟨w.heap.size,1,none⟩=some (.i m.src) from I.cell 1);have e0:=bG (show D.cell? ⟨w.heap.size,10,none⟩=some (.i m.total) from I.cell 10);have j8:=bG (show D.cell? ⟨w.heap.size,8,none⟩=some (.slice X m.es.length c8) by rw[←L]; exact I.cell 8);have i0:=bG (show D.cell? ⟨g,0,none⟩=some (.i p.r.id) from J.cell 0);have i1:=bG (show D.cell? ⟨g,1,none⟩=some (.i p.r.nodes) from J.cell 1);have j0:=kp L;rw[L]at N;obtain⟨a,Q⟩:=nm' (aG m.src 1 p.r.nodes);obtain⟨b,R⟩:=nm' (!decide (m.src=p.r.id));obtain⟨c,S⟩:=nm' (aG m.total 0 65536);obtain⟨d,hd⟩:=nm' (decide ((m.es.length:Int)≤2000));obtain⟨u,hu⟩:=nm' (decide (p.r.k.view≤m.view));obtain⟨t,T⟩:=nm' (m.es.any fun e=> !dQ e);have aJ:(m.src != p.r.id)=b:=by rw[←R]; rfl
 have Z:=kp (fun w=>by have:=cK.1 m.src 1 p.r.nodes w; rw[Q]at this; exact this);have a0:=kp (fun w=>by have:=cK.1 m.total 0 65536 w; rw[S]at this; exact this);rw[T]at N;rw[Q,R,S,hd,hu,T];have K:((a&&(b&&(c&&d)))=false∧(a=false∨(a=true∧b=false)∨(a=true∧b=true∧c=false)∨(a=true∧b=true∧c=true∧d=false)))∨((a&&(b&&(c&&d)))=true∧a=true∧b=true∧c=true∧d=true):=by
  cases a<;>cases b<;>cases c<;>cases d<;>decide
 obtain⟨o,ho⟩:=nm' (a&&(b&&(c&&d)));rw[ho]at K ⊢;clear I G z1 J m1 h O hn Q R S T L P ho;rcases K with⟨rfl,K⟩|⟨rfl,rfl,rfl,rfl,rfl⟩
 .have hf:∀r:Bool,(false&&r)=false:=fun _=>rfl;rw[hf];clear hf;rcases K with rfl|⟨rfl,rfl⟩|⟨rfl,rfl,rfl⟩|⟨rfl,rfl,rfl,rfl⟩
  all_goals
   go_enter func31,ntmps31;go_wp2_with fail;refine cX (by kernel_rfl) (by kernel_rfl) ?_
   repeat (go_big_quiet_step ((go_at_call 56; first |with_reducible refine dP (Z.o _)|with_reducible refine dP (a0.o _))))
   refine cI ?_;rintro f ⟨⟨_,A⟩,rfl⟩;have j:=z.b.grow A;have W:f.cell? ⟨w.heap.size,3,none⟩=some (.i m.view):=j.cell 3;have k4:f.cell? ⟨w.heap.size,4,none⟩=some (.i m.normal):=j.cell 4;have k5:f.cell? ⟨w.heap.size,5,none⟩=some (.i m.number):=j.cell 5;have k6:f.cell? ⟨w.heap.size,6,none⟩=some (.i m.base):=j.cell 6;have k7:f.cell? ⟨w.heap.size,7,none⟩=some (.i m.commit):=j.cell 7;have k9:f.cell? ⟨w.heap.size,9,none⟩=some (.i m.offset):=j.cell 9;have s:=kp (z.C.on A);clear A j1 e0 j8 i0 i1 j;go_wp2_with fail
   go_loopw [5,50] (fun v i wr=>∃k:Nat,k≤6∧i=.i k∧v=.bool false∧wr=f) (fun _ i _=>6-(intOf i).toNat)
   case atStart=>exact⟨0,by omega,rfl,rfl,rfl⟩
   case round=>
    obtain⟨k,hk,rfl,rfl,rfl⟩:=hrel
    by_cases l:k<6
    .have g3:(k:Int)<6:=by omega
     have U:=Ky m.view m.number m.base m.commit m.normal m.offset wr k _ (jN l);generalize ([m.view,m.number,m.base,m.commit,m.normal,m.offset]:List Int)[k]'l=x at U;go_wp2_with fail;go_roundw
     case rel=>exact⟨k+1,by omega,by go_num,by first |rfl|trivial,by first |rfl|trivial⟩
     case measure=>simp[intOf]; omega
    .obtain rfl:k=6:=by omega
     go_wp2_with fail;refine cX (by kernel_rfl) (by kernel_rfl) ?_
     repeat (go_big_quiet_step (fail))
     refine cI ?_;rintro W3 ⟨⟨_,q⟩,rfl⟩;have E:=kp (s.o.on q);clear q;go_wp2_with fail;go_ret;exact⟨rfl,E.o⟩
 have b0:∀r:Bool,(true&&r)=r:=fun _=>rfl;rw[b0];clear b0;go_enter func31,ntmps31;go_wp2_with fail;refine cX (by kernel_rfl) (by kernel_rfl) ?_
 repeat (go_big_quiet_step ((go_at_call 56; first |with_reducible refine dP (Z.o _)|with_reducible refine dP (a0.o _))))
 refine cI ?_;rintro f ⟨⟨_,A⟩,rfl⟩;have j:=z.b.grow A;have W:f.cell? ⟨w.heap.size,3,none⟩=some (.i m.view):=j.cell 3;have k4:f.cell? ⟨w.heap.size,4,none⟩=some (.i m.normal):=j.cell 4;have k5:f.cell? ⟨w.heap.size,5,none⟩=some (.i m.number):=j.cell 5;have k6:f.cell? ⟨w.heap.size,6,none⟩=some (.i m.base):=j.cell 6;have k7:f.cell? ⟨w.heap.size,7,none⟩=some (.i m.commit):=j.cell 7;have k9:f.cell? ⟨w.heap.size,9,none⟩=some (.i m.offset):=j.cell 9;have s:=kp A;have g0:=kp (fun r:Blw f=>N.o ⟨r.w,s.o.on r.h⟩);clear A j1 e0 i0 i1 j aJ;go_wp2_with fail
 go_loopw [5,50] (fun v i wr=>∃k:Nat,k≤6∧i=.i k∧v=.bool (((six m).take k).all fun n=>aG n 0 800000000)∧wr=f) (fun _ i _=>6-(intOf i).toNat)
 case atStart=>exact⟨0,by omega,rfl,rfl,rfl⟩
 case round=>
  obtain⟨k,hk,rfl,rfl,rfl⟩:=hrel;obtain⟨v,H⟩:=nm' (((six m).take k).all fun n=>aG n 0 800000000);rw[H]
  by_cases l:k<6
  .have g3:(k:Int)<6:=by omega
   have U:=Ky m.view m.number m.base m.commit m.normal m.offset wr k _ (jN l);have M:(six m).take (k+1)=(six m).take k++[(six m)[k]'l]:=fE l;change ([m.view,m.number,m.base,m.commit,m.normal,m.offset]:List Int).take (k+1)=_++[([m.view,m.number,m.base,m.commit,m.normal,m.offset]:List Int)[k]'l]at M;generalize ([m.view,m.number,m.base,m.commit,m.normal,m.offset]:List Int)[k]'l=x at U M;have F:=kp (show (((six m).take (k+1)).all fun n=>aG n 0 800000000)=(v&&aG x 0 800000000) by
    rw[show (six m).take (k+1)=_ from M,List.all_append,H];simp)
   clear M H;obtain⟨y,V⟩:=nm' (aG x 0 800000000);have l0:=kp (fun w=>by have:=cK.1 x 0 800000000 w; rw[V]at this; exact this);rw[V]at F;clear V
   cases v
   .go_wp2_with fail;go_roundw
    case rel=>exact⟨k+1,by omega,by go_num,by first |(rw[F.o]; rfl)|(rw[F.o]; simp),by first |rfl|trivial⟩
    case measure=>simp[intOf]; omega
   .go_wp2_with fail;refine ms' (l0.o _) ?_;go_wp2_with fail;go_roundw
    case rel=>exact⟨k+1,by omega,by go_num,by first |(rw[F.o]; rfl)|(rw[F.o]; simp),by first |rfl|trivial⟩
    case measure=>simp[intOf]; omega
  .obtain rfl:k=6:=by omega
   have d0:((six m).all fun n=>aG n 0 800000000)=v:=H;have Y:=kp d0;clear d0 H l;have j3:=bG W;have o0:∀r:Blw wr,r.w.cell? ⟨w.heap.size,8,none⟩=some (.slice X m.es.length c8):=fun r=>by have:=((z.b.grow s.o).grow r.h).cell 8; exact this.trans (by rw[←j0.o]; rfl)
   have i2:=bG (show wr.cell? ⟨g,2,none⟩=some (.i p.r.k.view) from (z.a.grow s.o).cell 2);clear W k4 k5 k6 k7 k9 j8
   cases v
   .clear hu;go_wp2_with fail;refine cX (by kernel_rfl) (by kernel_rfl) ?_
    repeat (go_big_quiet_step (fail))
    refine cI ?_;rintro W3 ⟨⟨_,q⟩,rfl⟩;have E:=kp (z.C.on (s.o.on q));clear q;go_wp2_with fail;go_ret;exact⟨jO (bA Value.bool (by rw[Y.o]; rfl)),E.o⟩
   cases u
   all_goals
    go_wp2_with fail;refine cX (by kernel_rfl) (by kernel_rfl) ?_
    repeat (go_big_quiet_step ((go_at_call 61; with_reducible refine gV (g0.o _))))
    refine cI ?_;rintro W3 ⟨⟨_,q⟩,rfl⟩;have E:=kp (z.C.on (s.o.on q));clear q;go_wp2_with fail;go_ret;exact⟨jO (bA Value.bool (by rw[Y.o]; cases t<;>rfl)),E.o⟩
end
section
attribute [-go_sem] loadCellsFrom storeCells run_eql_struct run_neq_struct Instr.build
attribute [local go_sem] aX rA tD mZ
theorem Kz(p:RpV)(w:World):(Instr.build 101 #[(0,.agg p.cells.toArray)]).run prog w=.ok (.agg (WkV.cells ⟨p,[],.slice none 0 0,[],.slice none 0 0⟩ []).toArray) w:=run_build w _ _ _ (by kernel_rfl)
attribute [local go_sem] Kz
theorem aAQ{p:RpV}(h:cS p.x=true)(b:KdR p.k.x):stB p.s.x=true:=by
 simp only[cS,bH,bR]at h;exact (Cb (k:=p.k.x) (fun e a=>(b e a).2.2.2.2.2.2.2.2.2.1) h.2.2.2.2.2.2.2.2).1
theorem aAR(a b c:Value)(w:World):
  CallsD prog 54 #[a,b,c] .returning w fun e g h=>e=.returned (.tuple #[])∧g=.returning∧h=w:=by
 refine callsD_of_wpS func54 rfl fun d i f=>?_;apply wpS_seq;apply wpS_region;simp[wpOpsS,go_sem,recoverD,f,ntmps54,Exit.thenS];apply wpS_seq;apply wpS_region;simp[wpOpsS,go_sem,Exit.thenS];refine wpS_cond (t:=false) (by simp[Act.eval,Array.replicate]) ?_;simp only[tL,if_false];refine wpS_of_wp (wp_skip ?_)
 cases d
 simp_all [bodyPostS,results,results54]
end
section
attribute [-go_sem] loadCellsFrom storeCells run_eql_struct run_neq_struct Instr.build
attribute [local go_sem] aX rA tD mZ Kz
def mF(r:Rp)(R:Rp×List Rc×List Mg):Rp×List Rc×List Mg:=if cS r=true then R else (qK,[],[])
structure aAS(fn:Nat)(c:Value)(R:Rp×List Rc×List Mg)(p:RpV)(w:World):Prop where
 e:∀args w,(callFunc fn args).run prog w=.ok (.enter fn args) w
 f:∀(q:RpV)(qs:List ObV)(W:World)(base g:Nat),q.x=p.x→cS q.x=true→Bw' w W→base≤W.heap.size→w.heap.size≤base→WkO W base g 101 [] ⟨q,[],.slice none 0 0,[],.slice none 0 0⟩ qs→
  Calls prog fn #[.pointer (some ⟨g,0,none⟩),c] W fun e w'=>e=.returned (.tuple #[])∧∃pE psE,Gn W w' base g ⟨q,[],.slice none 0 0,[],.slice none 0 0⟩ pE psE∧R=(pE.r.x,pE.rs.map (·.x),pE.ms.map (·.x))
theorem aAT(fn:Nat)(c:Value)(R:Rp×List Rc×List Mg)(p:RpV)(ps:List ObV)(B:Nat)(w:World)(h:kK w B p ps)(hB:B≤w.heap.size)(S:RpS p ps)(hf:aAS fn c R p w):
  Calls prog 28 #[.agg p.cells.toArray,.func (.func fn) #[] #[c]] w fun e w'=>rB w w' (mF p.x R) e:=by
 obtain⟨W1,y1,x1,b1,z1⟩:=par w 50 p.cells;obtain⟨O,p1,x2,b2,z2⟩:=par W1 50 iE;obtain⟨Q,a2,x3,T,z3⟩:=par O 68 [.slice none 0 0,.slice none 0 0];unfold iE at p1;have a0:=b1.on (b2.on T);have h3:=h.below a0 hB;have b0:=aB hB a0.size;have HR:=kp (Jd p ps B Q h3 b0 S);have HO:=kp (fun(W:World)(b:Bw' Q W)=>Jg p ps B W (h3.below b b0) (aB b0 b.size) S);have l0:=(x1.grow (b2.on T)).load (P:=prog) (k:=26) rfl;have hz:W1.heap.size<O.heap.size:=z2;have a1:O.heap.size<Q.heap.size:=z3;have g:=k'7 (x1.grow (b2.on T)) (x2.grow T) x3 a0 z1 hz a1;have HS:=kp S;have j0:=kp hf;clear x1 x2 x3 b1 b2 T a0 z1 z2 z3 hz a1 h3 b0 h hB S hf
 go_enter_defers func28,ntmps28
 go_wp2_with fail;refine mb' (HR.o) fun w4 n=>?_;have N:=kp n
 cases hrb:cS p.x
 .obtain⟨W5,g2,s5,x5,c5⟩:=(g.b.grow n).put jM.cells rfl (lT (vE w4 w4.heap.size).rpAt);have y5:=(g.c.grow n).chg c5 (by have:=g.o; omega);obtain⟨I,q1,s6,Y,c6⟩:=y5.put [.slice none 0 0,.slice none 0 0] rfl (fun u hu=>by
   rcases bD.1 hu with rfl|hu
   .rfl
   .rw[bZ.1 hu]; rfl)
  have l5:=(x5.chg c6 (by have:=g.o; omega)).load (P:=prog) (k:=26) rfl;have l6:=Y.load (P:=prog) (k:=2) rfl;have HF:=kp ((g.d.on n).trans ((c5.below (B:=w.heap.size) (fun i K=>by have:=g.o; omega) (aB g.d.size n.size)).trans (c6.below (B:=w.heap.size) (fun i K=>by have:=g.o; omega) (aB (aB g.d.size n.size) c5.size))));have y:=kp (show mF p.x R=(qK,[],[]) by unfold mF; rw[aF (by rw[hrb]; decide)]);clear y5 x5 Y c5 c6 n hrb l0;go_wp2_with fail;have J:rB w I (mF p.x R) (.returned (.tuple #[.agg jM.cells.toArray,.agg #[.slice none 0 0,.slice none 0 0]])):=⟨⟨⟨jM,[],.slice none 0 0,[],.slice none 0 0⟩,[],rfl,by rw[y.o]; rfl,by rw[y.o]; rfl,by rw[y.o]; rfl,vE _ _,Ow.nil _ _ _ _ _,fun _ h=>(nomatch h),Ow.nil _ _ _ _ _,fun _ h=>(nomatch h)⟩,HF.o⟩
  simp[bodyPostD,Leaves,results,results28,go_sem,l5,l6,J]
 have l1:=(g.a.grow n).load (P:=prog) (k:=26) rfl;clear l0;have y0:=aAQ hrb HS.o.k.1;go_wp2_with fail;refine (HO.o w4 N.o y0).mono ?_;rintro e L ⟨q,qs,rfl,g0,p0,d0⟩;obtain⟨I,q1,Y,b6,z6⟩:=par L 101 (WkV.cells ⟨q,[],.slice none 0 0,[],.slice none 0 0⟩ []);have e0:=N.o.on (d0.on b6);have o0:RpO I w.heap.size q qs:=(p0.below b6).mono (aB g.d.size N.o.size);have z0:WkO I w.heap.size L.heap.size 101 [] ⟨q,[],.slice none 0 0,[],.slice none 0 0⟩ qs:=⟨Y,aB g.d.size (aB N.o.size d0.size),o0,Ow.nil _ _ _ _ _,fun _ h=>(nomatch h),Ow.nil _ _ _ _ _,fun _ h=>(nomatch h)⟩
 have q0:cS q.x=true:=by rw[g0]; exact hrb
 have o1:=kp (j0.o.f q qs I w.heap.size L.heap.size g0 q0 (g.d.on e0) (aB g.d.size e0.size) (aN _) z0);have m1:=kp hrb;have Z:=k'3 e0 g0 (show Q.heap.size≤L.heap.size from aB N.o.size d0.size);clear z0 o0 p0 Y b6 d0 e0 n g0 q0 y0 hrb l1;have eg:=j0.o.e;go_wp2_with fail
 go_at_fn fn
 refine o1.o.mono ?_;rintro e D ⟨rfl,j,d1,hG,hT⟩;clear eg;have U:=hG.o;have cE:Chg (fun i=>i=L.heap.size) I D:=hG.c.mono fun i _ K=>K.elim id fun h=>h.elim (fun h=>(nomatch h)) fun h=>(nomatch h)
 have b7:=Z.a.trans (cE.below (B:=Q.heap.size) (fun i K=>by have:=Z.o; omega) Z.a.size);have bd:=b7.on (bL (aH D.heap.size D));have z:=k'5 (g.b.grow bd) (g.c.grow bd) (g.d.on bd) (U.blk.grow (bL (aH D.heap.size D))) (U.below (bL (aH D.heap.size D)));have y:=k'2 (show mF p.x R=(j.r.x,j.rs.map (·.x),j.ms.map (·.x)) by unfold mF; rw[aK m1.o]; exact hT) (show O.heap.size<L.heap.size from cY g.G Z.C);have m0:=k'2 (show ∀u∈j.r.cells,u.oneCell'=true from lT U.rep.rpAt) (Yp U);clear U cE hG hT b7 bd;go_wp2_with fail;refine eY 9 (qZ D.drew W1.heap.size j.r.cells) (fun _=>eQ) (by kernel_rfl) (by kernel_rfl) ⟨Chg.refl _ _,iE,z.a,rfl,fun _ h=>(nomatch h)⟩ ?_
 iterate 8 (refine bE ?_; apply Exists.intro)
 refine bJ dV ?_;refine cC ⟨?_,?_⟩
 rotate_left
 .iterate 8
   apply bQ (by kernel_rfl) (by intro t w h; cases h; exact trivial) rfl
   .intro X W' l hX hw hV m;have b:=z.d.chg l.c (by have:=y.o; have:=g.o; omega);have l1:=b.loadOff (P:=prog) 0 26 j.r.cells rfl rfl;have l2:=b.loadOff (P:=prog) 26 2 [j.rv,j.mv] rfl rfl;go_wp2_with fail;exact⟨rfl,_,rfl,l.other (by decide),aV,rfl⟩
   simp only[Act.put,aE,aC,aD,aS,aT]
  refine⟨fun X W' l hX hw hV m=>?_,fun u8=>?_⟩
  .obtain⟨ds,V,hl,-⟩:=l.b;have s:=V.store (P:=prog) (cs':=j.r.cells) hl.symm m0.a;have hp:=l.put (u:=undef);clear V hl;go_wp2_with fail;exact⟨rfl,undef,rfl,hp,aV,trivial⟩
  simp only[Act.put,aS,aT];intro W9 l m;obtain⟨ds,V,-,hd⟩:=l.b;obtain rfl:=hd u8 rfl;have M:=z.a;have F:=z.b.chg l.c (by have:=g.o; omega);obtain⟨H,d2,s4,x4,c4⟩:=F.put [j.rv,j.mv] rfl m0.B;have l4:=(V.chg c4 (by have:=g.o; omega)).load (P:=prog) (k:=26) rfl;have l5:=x4.load (P:=prog) (k:=2) rfl;have A:=l.c;have HF:=kp (z.c.trans ((A.below (B:=w.heap.size) (fun i K=>by have:=g.o; omega) z.c.size).trans (c4.below (B:=w.heap.size) (fun i K=>by have:=g.o; omega) (aB z.c.size A.size))));have m:=z.E;have HQ:=kp (show RpO H w.heap.size j.r d1 from (m.rep.chg M A (by decide)).chg F c4 (by decide));have g1:=kp (show Ow H w.heap.size 124 17 j.rv RcV.cells j.rs∧(∀x∈j.rs,Ow H w.heap.size 122 11 x.ev En.cells x.es)∧Ow H w.heap.size 75 23 j.mv MgV.cells j.ms∧∀x∈j.ms,Ow H w.heap.size 122 11 x.ev En.cells x.es from
   ⟨(m.rs.chg_blk M A (by decide)).chg_blk F c4 (by decide),fun x hx=>((m.rse x hx).chg_blk M A (by decide)).chg_blk F c4 (by decide),(m.ms.chg_blk M A (by decide)).chg_blk F c4 (by decide),fun x hx=>((m.mse x hx).chg_blk M A (by decide)).chg_blk F c4 (by decide)⟩)
  have J:rB w H (mF p.x R) (.returned (.tuple #[.agg j.r.cells.toArray,.agg #[j.rv,j.mv]])):=⟨⟨j,d1,rfl,by rw[y.a],by rw[y.a],by rw[y.a],HQ.o,g1.o⟩,HF.o⟩
  have j1:=kp J;clear m l V hd A M F x4 c4 J;go_wp2_with fail;refine leaves_cons (f:=54) (args:=#[.pointer (some ⟨w.heap.size,0,none⟩),.pointer (some ⟨W1.heap.size,0,none⟩),.pointer (some ⟨O.heap.size,0,none⟩)]) (by simp) (by simp[go_sem]) ?_;refine (aAR _ _ _ _).mono ?_;rintro e u' j2 ⟨rfl,rfl,rfl⟩;have J:=j1.o;simp[Leaves,settle,results,results28,go_sem,l4,l5,J]
 .exact⟨pv',pv',pv',pv',pv',pv',pv',pv',fun _ _ _ _ _ h _=>h,trivial⟩
end
section
attribute [-go_sem] loadCellsFrom storeCells run_eql_struct run_neq_struct Instr.build
attribute [local go_sem] aX mZ rA tD
theorem aAU{r:Rp}{m:Mg}(h:nB r m=true):m.es.length≤2000∧inR m.commit:=by
 unfold nB aG at h;simp only[bH,bR]at h;refine⟨h.1.1.2.2.2,?_⟩;have:=h.1.2.2.2.2.1;constructor<;>omega
theorem aAV{g K base B:Nat}(p:WkV)(L:List ObV)(m:MgV)(w:World)(q:Wp)(h:WkO w base g 101 [] p L)(X:Blk w K 75 m.cells)(hm:Sl w B m.ev En.cells m.es)(a0:B≤base)(hb:base≤w.heap.size)(S:WpS p.x)(hc:p.r.k.base≤p.r.commit)(hr:stR p.r.s.x)(hE:∀e∈m.es,enR e)(R:MgR m.x)(hl:m.es.length≤1000000)(d0:p.rs.length≤900)(b0:p.ms.length≤900)(hq:p.x.heard m.x=some q):
  Calls prog 29 #[.pointer (some ⟨g,0,none⟩),.pointer (some ⟨K,0,none⟩)] w fun e w'=>e=.returned (.tuple #[])∧pM w w' base g p q:=by
 have j2:=bG (show w.cell? ⟨K,2,none⟩=some (.i m.dst) from X.cell 2);have i0:=bG (show w.cell? ⟨g,0,none⟩=some (.i p.r.id) from h.blk.cell 0);have i:=k'd h X hm a0 hb S hc hr hE R hl d0 b0;have N:=kp hq;clear h X hm a0 hb S hc hr hE R hl d0 b0 hq
 by_cases D:m.dst=p.r.id
 case' neg=>
  have aJ:(m.dst != p.r.id)=true:=by simp[D]
  have y:=kp (show p.x=q by have:=N.o; unfold Wp.heard at this; rw[aK (show m.x.dst≠p.x.r.id from D)]at this; exact Option.some.inj this);clear D;go_enter func29,ntmps29;go_wp2_with fail;refine cX (by kernel_rfl) (by kernel_rfl) ?_
  repeat (go_big_quiet_step (fail))
  refine cI ?_;rintro J ⟨⟨_,l⟩,rfl⟩;have j:=kp ((Gn.refl i.a).post l);clear l j2 i0;go_wp2_with fail;go_end0;exact⟨rfl,.of j.o y.o⟩
 have aJ:(m.dst != p.r.id)=false:=by simp[D]
 have Z:=kp (show (if m.x.kind=1 then p.x.req m.x else if 3≤m.x.kind∧m.x.kind≤10∧nB p.x.r m.x=true then if m.x.kind=3 then p.x.prep m.x else if m.x.kind=4 then p.x.okay m.x else none else some p.x)=some q by
  have:=N.o;unfold Wp.heard at this;rw[aF (fun A=>A D)]at this;exact this)
 clear D N;go_enter func29,ntmps29;go_wp2_with fail;refine cX (by kernel_rfl) (by kernel_rfl) ?_
 repeat (go_big_quiet_step (fail))
 refine cI ?_;rintro J ⟨⟨_,l⟩,rfl⟩;have h2:=i.a.below l;have M:=i.b.grow l;have m2:=Sl.below i.c l (aB i.d i.e);have k0:J.cell? ⟨K,0,none⟩=some (.i m.kind):=M.cell 0;have l2:=M.load (P:=prog) (k:=23) rfl;have f:=k'5 h2 M m2 l (aB i.e l.size);clear h2 M m2 l j2 i0 aJ;have S:=i.F
 by_cases C:m.kind=1
 .have HR:=kp (Yw p L m J q f.a f.E S.1 S.2.2.2.2.1 (by have:=Z.o; rw[aK (show m.x.kind=1 from C)]at this; exact this) (by have:=S.2.2.2.2.2.2.1; omega) S.2.2.2.2.2.2.2);have e2:(m.kind==1)=true:=by simp[C]
  clear C S;go_wp2_with fail;refine (HR.o).mono ?_;rintro e w3 ⟨rfl,p1,G,H⟩;have j:=k'2 (G.pre f.d) H;clear G H;go_wp2_with fail;go_end0;exact⟨rfl,.of j.a j.B⟩
 have e2:(m.kind==1)=false:=by simp[C]
 have I:=kp (show (if 3≤m.x.kind∧m.x.kind≤10∧nB p.x.r m.x=true then if m.x.kind=3 then p.x.prep m.x else if m.x.kind=4 then p.x.okay m.x else none else some p.x)=some q by
  have:=Z.o;rw[aF (show ¬m.x.kind=1 from C)]at this;exact this)
 clear C
 by_cases T:3≤m.kind
 case' neg=>
  have y:=kp (show p.x=q by have:=I.o; rw[aF (fun A=>T A.1)]at this; exact Option.some.inj this);clear S;go_wp2_with fail;go_end0;exact⟨rfl,.of ((Gn.refl f.a).pre f.d) y.o⟩
 by_cases Q:m.kind≤10
 case' neg=>
  have y:=kp (show p.x=q by have:=I.o; rw[aF (fun A=>Q A.2.1)]at this; exact Option.some.inj this);clear S;go_wp2_with fail;go_end0;exact⟨rfl,.of ((Gn.refl f.a).pre f.d) y.o⟩
 obtain⟨z,Y⟩:=nm' (nB p.r.x m.x);have e0:=kp (by have:=aAP p L m J f.a f.c (aB i.d f.E) S.2.2.2.2.2.1; rw[Y]at this; exact this);have O:=kp Y;clear Y S;go_wp2_with fail;refine mb' (e0.o) fun w3 n=>?_
 cases z
 .have y:=kp (show p.x=q by have:=I.o; rw[aF (fun A=>by have:=A.2.2; rw[show nB p.x.r m.x=false from O.o]at this; cases this)]at this; exact Option.some.inj this);have j:=kp (((Gn.refl f.a).post n).pre f.d);clear n;go_wp2_with fail;go_end0;exact⟨rfl,.of j.o y.o⟩
 have g0:=kp (show (m.kind=3∧p.x.prep m.x=some q)∨(m.kind=4∧p.x.okay m.x=some q) by
  have:=I.o;rw[aK ⟨T,Q,O.o⟩]at this
  by_cases U:m.x.kind=3
  .rw[aK U]at this; exact .inl ⟨U,this⟩
  .rw[aF U]at this
   by_cases V:m.x.kind=4
   .rw[aK V]at this; exact .inr ⟨V,this⟩
   .rw[aF V]at this; cases this)
 have S:=i.F;have W:=aAU O.o;have HM:=kp (aAM p L m w3 q (f.a.below n) (Sl.below f.c n (aB i.d f.E)) i.d (aB f.E n.size) ⟨S.1,S.2.1,S.2.2.1,S.2.2.2.1,W.2,W.1,by have:=S.2.2.2.2.2.2.1; omega,by have:=S.2.2.2.2.2.2.2; omega⟩ g0.o);have l3:=(f.b.grow n).load (P:=prog) (k:=23) rfl;have HB:=kp (f.d.on n);clear n S W T Q;go_wp2_with fail;refine (HM.o).mono ?_;rintro e w4 ⟨rfl,p1,j0,G,H⟩;have j:=k'2 (G.pre HB.o) H;clear G H;go_wp2_with fail;go_end0;exact⟨rfl,.of j.a j.B⟩
theorem aAW{r:Rp}(h:cS r=true)(c:KdR r.k)(f:r.k.image.size≤1000000):WpS ⟨r,[],[]⟩∧r.k.base≤r.commit:=by
 have t:=Yn h;simp only[cS,bH,bR]at h;obtain⟨i,g⟩:=mW.1 t.kept;have b:=h.2.2.2.2.2.2.2.2;refine⟨⟨t.nodes,t.kept,c,f,by have:=h.2.2.2.2.1; show r.k.last≤_; omega,(Cb (k:=r.k) (fun e d=>(c e d).2.2.2.2.2.2.2.2.2.1) b).1,dJ _,dJ _⟩,?_⟩
 by_cases a:aG r.commit r.k.base r.k.last=true
 .unfold aG at a;simp only[bH,bR]at a;exact a.1
 .rw[xY (by simpa using a)]at b
  cases b
theorem aAX(p:RpV)(O:List ObV)(m:MgV)(B:Nat)(w:World)(R:Rp×List Rc×List Mg)(h:kK w B p O)(hm:Sl w B m.ev En.cells m.es)(y:B≤w.heap.size)(S:RpS p O)(Y:∀e∈m.es,enR e)(Z:MgR m.x)(hl:m.es.length≤1000000)(hq:cS p.x=true→nC p.x m.x=some R):
  Calls prog 13 #[.agg p.cells.toArray,.agg m.cells.toArray] w fun e w'=>rB w w' (mF p.x R) e:=by
 obtain⟨T,a1,x1,X,z1⟩:=par w 50 p.cells;obtain⟨U,d1,x2,E,z2⟩:=par T 75 m.cells;obtain⟨J,o0,x3,F,z3⟩:=par U 50 iE;obtain⟨V,g1,x4,aQ,z4⟩:=par J 68 [.slice none 0 0,.slice none 0 0];unfold iE at o0;have j:=X.on (E.on (F.on aQ));have xm:=x2.grow (F.on aQ);have b0:=Sl.below hm j y;have HO:=kp (aAT 29 (.pointer (some ⟨T.heap.size,0,none⟩)) R p O B V (h.below j y) (aB y j.size) S ⟨enters_of func29 (by kernel_rfl) rfl,fun q Q W base g C e0 a0 p0 q0 y0=>by
  have ha:=aAW e0 (by rw[C]; exact S.k.1) (by rw[C]; exact S.k.2.2);have z:=hq (C▸e0);rw[←C]at z;unfold nC at z
  cases hy:Wp.heard ⟨q.x,[],[]⟩ m.x with
  |none=>rw[hy]at z; cases z
  |some I=>
   rw[hy]at z;have m0:(I.r,I.rs,I.ms)=R:=Option.some.inj z;refine (aAV (B:=B) ⟨q,[],.slice none 0 0,[],.slice none 0 0⟩ Q m W I y0 (xm.grow a0) (Sl.below b0 a0 (aB y j.size)) (aB (aB y j.size) q0) p0 ha.1 ha.2 (by have:=S.s.2.2.1; rw[show p.s.x=q.s.x from (bA (·.st) C).symm]at this; exact this) Y Z hl (dJ _) (dJ _) hy).mono ?_;rintro e w' ⟨rfl,d,z0,hG,D⟩;exact⟨rfl,d,z0,hG,by rw[←m0,←D]; rfl⟩⟩)
 have l0:=(x1.grow (E.on (F.on aQ))).load (P:=prog) (k:=26) rfl;have hz:U.heap.size<J.heap.size:=z3;have j0:J.heap.size<V.heap.size:=z4;have f:=k'6 (x3.grow aQ) x4 j (cY z1 E.size) hz j0;clear x1 x2 x3 x4 X E F aQ j z1 z2 z3 z4 hz j0 h y S hm Y Z hl hq xm b0;go_enter func13,ntmps13;go_wp2_with fail;refine (HO.o).mono ?_;rintro e w4 hT;obtain⟨⟨d,Q,rfl,t1,t2,t3,L,M,g0,K,d0⟩,G⟩:=hT;have H:=f.c.on G;have l:=f.a.grow G;have A:=f.c.size;obtain⟨W5,j1,s5,x5,c5⟩:=l.put d.r.cells rfl (lT L.rpAt);have n:=(f.b.grow G).chg c5 (by have:=f.o; omega);obtain⟨W6,l1,s6,x6,c6⟩:=n.put [d.rv,d.mv] rfl (fun u N=>by
  rcases bD.1 N with rfl|N
  .exact M.one
  .rw[bZ.1 N]; exact K.one)
 have l5:=(x5.chg c6 (by have:=f.o; omega)).load (P:=prog) (k:=26) rfl;have l6:=x6.load (P:=prog) (k:=2) rfl;have HF:=kp (show rB w W6 (mF p.x R) (.returned (.tuple #[.agg d.r.cells.toArray,.agg #[d.rv,d.mv]])) from
  ⟨⟨d,Q,rfl,t1,t2,t3,((L.chg l c5 (by decide)).chg n c6 (by decide)).mono A,((M.chg_blk l c5 (by decide)).chg_blk n c6 (by decide)).mono A,fun x D=>(((g0 x D).chg_blk l c5 (by decide)).chg_blk n c6 (by decide)).mono A,((K.chg_blk l c5 (by decide)).chg_blk n c6 (by decide)).mono A,fun x D=>(((d0 x D).chg_blk l c5 (by decide)).chg_blk n c6 (by decide)).mono A⟩,
   H.trans ((c5.below (B:=w.heap.size) (fun i hi=>by have:=f.o; omega) H.size).trans (c6.below (B:=w.heap.size) (fun i hi=>by have:=f.o; omega) (aB H.size c5.size)))⟩)
 clear t1 t2 t3 L M g0 K d0 H l n A x5 x6 c5 c6 G l0;go_wp2_with fail;exact bI (v:=.tuple #[.agg d.r.cells.toArray,.agg #[d.rv,d.mv]]) (by simp[results,results13,go_sem,l5,l6]) rfl HF.o
end
end Go.Proofs.YtoncgpddjmgbfaaGreat
