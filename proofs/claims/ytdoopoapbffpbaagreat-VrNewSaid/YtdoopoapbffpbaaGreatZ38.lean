import Derived.Test.YtdoopoapbffpbaaGreatZ19
import Derived.Test.YtdoopoapbffpbaaGreatZ29
import Derived.Test.YtdoopoapbffpbaaGreatZ30
import Derived.Test.YtdoopoapbffpbaaGreatZ33
import Derived.Test.YtdoopoapbffpbaaGreatZ34
import Derived.Test.YtdoopoapbffpbaaGreatZ36
import Derived.Test.YtdoopoapbffpbaaGreatZ37
namespace Go.Proofs.YtdoopoapbffpbaaGreat
open Go.RowKit Go.Proofs.Tryz
set_option maxRecDepth 100000
set_option maxHeartbeats 12800000
set_option linter.unusedVariables false
set_option linter.unusedSimpArgs false
section
attribute [-go_sem] loadCellsFrom storeCells Instr.build
attribute [local go_sem] bC
theorem Zk(A:Option Addr)(n c m:Nat)(w:World)(e:m≤c):Sem.run prog (Instr.slice 22 (.slice A n c) none (some (.i (m:Int))) none) w=.ok (.slice A m c) w:=by
 have b:(0:Int)≤(m:Int)∧(m:Int)≤(c:Int):=by omega
 obtain⟨i,d,-,-,-⟩:=info_parts Ch
 cases A with
 |none=>simp[Instr.slice,run_underlying wO,Instr.sliceBounds,Instr.sliceBound,asIntOf,b,sizeOf,typeInfo,d,e]
 |some a=>simp[Instr.slice,run_underlying wO,Instr.sliceBounds,Instr.sliceBound,asIntOf,b,sizeOf,typeInfo,d,e,Addr.add]
def oU(w:World)(o:Option St)(e:Ending)(w':World):Prop:=
 ∃q qs c,e=.returned (.tuple #[.agg q.cells.toArray,.i c])∧(∀s,o=some s→c=0∧q.x=s)∧(o=none→c≠0)∧Ws w' w.heap.size q qs∧Bw' w w'
def lP:StV:=⟨⟨lI,.slice none 0 0,.slice none 0 0⟩,[],.slice none 0 0⟩
theorem tY(w:World)(base:Nat):Ws w base lP []:=(Sv.no w base).ws
theorem oU.fin{w W:World}{a:Nat}{q:StV}{g:List ObV}(f:Blk W a 32 mF)(h:Bw' w W)(i:w.heap.size≤a)(d:Ws W w.heap.size q g):
  ∃W',Sem.run prog (storeCells ⟨a,0,none⟩ q.cells 0) W=.ok () W'∧Sem.run prog (loadCellsFrom ⟨a,0,none⟩ 0 9 #[]) W'=.ok q.cells.toArray W'∧Ws W' w.heap.size q g∧Bw' w W':=by
 obtain⟨W',e,s,b,c⟩:=f.put q.cells rfl (StV.one d.st);exact⟨W',s,b.load rfl,d.chg f c (by decide) (by decide) (by decide) (by decide),e▸cL h i _⟩
def Mn(w wr:World)(g:Nat)(s:St):Prop:=∃q qs,Blk wr g 32 q.cells∧q.x=s∧Ws wr w.heap.size q qs
theorem Zl(p:KpV)(n:Int)(B:Nat)(w:World)(h:fL w B p)(hB:B≤w.heap.size)(hn:p.es.length≤1000000)(hr:KdR p.x)(hi:p.image.size≤maxLen)(hN:inR n):
  Calls prog 39 #[.agg p.cells.toArray,.i n] w (oU w (iB p.x n)):=by
 obtain⟨R,hR⟩:=nm' (iB p.x n);rw[hR];obtain⟨W1,j3,x1,b1,z1⟩:=par w 24 p.cells;obtain⟨T,m3,x2,V,z2⟩:=par W1 32 z'2;have hb:=b1.on V;have f:=k'4 (x1.grow V) x2 hb (dY z1);have r:=k'2 (Sl.below h hb hB) (aB hB hb.size);have HC:=kp (yU p B T r.a r.B hn hr hi);have HL:=kp (fun W b1 V=>rN.1 p W B b1 V hn);have l0:=f.a.load (P:=prog) (k:=5) rfl;have z:=k'5 hR hr hi hn hN;go_enter func39,ntmps39;go_wp2_with fail;refine mb' (HC.o) fun w3 g0=>?_;have H:=kp g0
 cases Z:dA p.x
 .have hZ:=(f.b.below g0 f.b.lt)
  obtain⟨U,s4,N,O,aS⟩:=oU.fin hZ (f.c.on g0) f.D (tY _ _);have b3:Sem.run prog (storeCells ⟨W1.heap.size,0,none⟩ mF 0) w3=.ok () U:=s4;have g:=k'4 O aS Z (Dk (n:=n) Z);rw[show eN 1 false=1 from rfl];go_wp2_with fail;exact aU (v:=.tuple #[.agg lP.cells.toArray,.i 1]) (by simp[results,results39,go_sem,N]) rfl ⟨lP,[],1,rfl,(fun s l=>by rw[←z.a,g.D]at l; cases l),(fun _=>by decide),g.a,g.b⟩
 obtain⟨G,HOk⟩:=pZ.1 Z;have J:=kp HOk;rw[show eN 1 true=0 from rfl];have k2:=(f.a.grow H.o).cell 2;change _=some (Value.i p.base)at k2;have l0:=(f.a.grow H.o).load (P:=prog) (k:=5) rfl;obtain⟨L,m0⟩:=nm' p.x.last;have e0:=k'2 m0 (show L=p.base+p.es.length from m0.symm);have p0:=kp (by have:=HL.o w3 (Sl.below r.a H.o r.B) J.o.base; rw[m0]at this; exact this);have o1:n<p.base∨(¬n<p.base∧L<n)∨(¬n<p.base∧¬L<n):=by omega
 rcases o1 with K|⟨K,Y⟩|⟨K,Y⟩
 case' inl=>
  have c1:decide (n<p.base)=true:=by simp[K]
  have j:=kp (show R=none by rw[←z.a]; exact vO (by show aF n p.base p.x.last=false; unfold aF; rw[aX (by omega)]; rfl));obtain⟨w4,a1⟩:=nm' w3;have I:=kp (show Bw' T w4 from a1▸H.o);subst a1
 case' inr.inl=>
  have c1:decide (n<p.base)=false:=by simp[K]
  have c2:decide (L<n)=true:=by simp[Y]
  have j:=kp (show R=none by rw[←z.a]; exact vO (by show aF n p.base p.x.last=false; unfold aF; rw[e0.a,aX (show ¬n≤L by omega),wI]));go_wp2_with fail;refine mb' (p0.o) fun w4 j0=>?_;have I:=kp (H.o.on j0)
 case' inr.inr=>
  have c1:decide (n<p.base)=false:=by simp[K]
  have c2:decide (L<n)=false:=by simp[Y]
  have j:=k'2 K Y;go_wp2_with fail;refine mb' (p0.o) fun w4 j0=>?_;have I:=kp (H.o.on j0)
 rotate_left
 iterate 2
  .obtain⟨U,s4,N,O,aS⟩:=oU.fin (f.b.below I.o f.b.lt) (f.c.on I.o) f.D (tY _ _);have b3:Sem.run prog (storeCells ⟨W1.heap.size,0,none⟩ mF 0) _=.ok () U:=s4;have g:=k'2 O aS;go_wp2_with fail;exact aU (v:=.tuple #[.agg lP.cells.toArray,.i 140]) (by simp[results,results39,go_sem,N]) rfl ⟨lP,[],140,rfl,(fun s l=>by rw[j.o]at l; cases l),(fun _=>by decide),g.a,g.B⟩
 obtain⟨m,hm⟩:∃m:Nat,n-p.base=m:=⟨(n-p.base).toNat,by have:=j.a; omega⟩
 have d2:m≤p.es.length:=by have:=j.B; have:=e0.B; omega
 have y0:=kp (show R=some (jD G (p.es.take m)) by
  rw[←z.a,Dl J.o (by show aF n p.base p.x.last=true; unfold aF; rw[e0.a]; have:=j.o; simp; omega)];show some (jD G (p.es.take (n-p.base).toNat))=_;rw[hm]; rfl)
 have M:=k'2 hm d2;have k3:=(f.a.below I.o f.a.lt).cell 3;change _=some (Value.string p.image)at k3;obtain⟨c5,W5,z3,l1,l2,o2,e2,a2⟩:=oT w4 p.image z.c;have y:=k'5 (I.o.on l1) l2 o2 e2 a2;go_wp2_with fail;refine (yT _ _ _ _ p.image.data.toList W5 y.b y.c (mD _) y.d y.E).mono ?_;rintro e w6 ⟨q,qs,rfl,o0,hv,z0⟩;have q1:dM p.image.data.toList=some G:=J.o.img;rw[q1]at o0 ⊢;change q.x=G at o0;obtain⟨W7,o3,s7,x7,b7,z7⟩:=fB w6 32 z'2 q.cells rfl (StV.one hv.st);have b0:=kp (y.a.on (z0.on b7));have S:=k'4 x7 o0 ((hv.ws.mono (aB f.c.size y.a.size)).below b7) (aB y.a.size z0.size);have k4:=(f.a.below b0.o f.a.lt).cell 4;change _=some p.ev at k4;have k2:=(f.a.below b0.o f.a.lt).cell 2;change _=some (Value.i p.base)at k2;have HS:=kp r.a;obtain⟨A,c,p1,m2,q3,y3⟩:=r.a;rw[p1]at k4;have p2:=Zk A p.es.length c m W7 (by have:=M.B; omega);have e4:wrap64 (n-p.base)=(m:Int):=by rw[M.a]; have:=M.B; have:=z.d; unfold wrap64; omega
 have j1:=kp m2;obtain⟨nl,g2⟩:=nm' p.es.length;rw[g2]at k4 p2;go_wp2_with fail;have d4:m≤1000000:=by have:=M.B; have:=z.d; omega
 go_loopw [42] (fun i wr=>∃k:Nat,k≤m∧i=.i k∧Bw' T wr∧Mn w wr w6.heap.size (jD G (p.es.take k))) (fun i _=>m-(intOf i).toNat)
 case atStart=>exact⟨0,by omega,rfl,b0.o,⟨q,qs,S.a,S.b,S.c⟩⟩
 case round=>
  obtain⟨k,Z,rfl,m1,⟨q,qs,x6,j2,q2⟩⟩:=hrel;have Q:=kp m1;have F:=k'3 x6 j2 q2
  by_cases a4:k<m
  .have g3:(k:Int)<(m:Int):=by omega
   have a0:k<p.es.length:=by have:=M.B; omega
   obtain⟨b,g4,rfl,-,-,y1⟩:=dB (P:=prog) 11 En.cells eL (by omega) (j1.o.below Q.o r.B) k a0;have q0:=y1 0;change Sem.run _ _ wr=.ok _ wr at q0;have HT:=k'2 (Kw G p.es k a0) (J.o.may _ (bK a0));generalize p.es[k]'a0=x at *;obtain⟨W8,p3,s8,x8,cD,z8⟩:=fB wr 46 z'3 x.cells rfl (nI x);have d0:=kp (Q.o.on cD);have y6:=F.a.grow cD;have l6:=y6.load (P:=prog) (k:=9) rfl;have l8:=x8.load (P:=prog) (k:=11) rfl;have e1:=kp (Zj q qs x W8.heap.size W8 (F.C.below cD).st (aD _) (by rw[F.b]; exact Dm (tW J.o.img).1 fun e he=>J.o.may e (qN he)) HT.B);have HY:=kp y6;go_wp2_with fail;refine (e1.o).mono ?_;rintro e w9 ⟨q',a3,rfl,y2,d1,X⟩;obtain⟨e3,l3,j4,d3,c10⟩:=(HY.o.grow X).put q'.cells rfl (StV.one d1.st);have j:=k'3 d3 (show q'.x=jD G (p.es.take (k+1)) by rw[HT.a,y2,F.b]) ((d1.mono (aB f.c.size d0.o.size)).chg (HY.o.grow X) c10 (by decide) (by decide) (by decide) (by decide));have g1:=kp ((d0.o.on X).trans (c10.below (B:=T.heap.size) (fun i hi=>by have:=S.D; omega) (d0.o.on X).size));go_wp2_with fail;go_roundw
   case rel=>exact⟨k+1,by omega,by go_num,g1.o,⟨q',a3,j.o⟩⟩
   case measure=>simp[intOf]; omega
  .obtain rfl:m=k:=by omega
   have l6:=F.a.load (P:=prog) (k:=9) rfl;obtain⟨U,s4,N,O,aS⟩:=oU.fin (f.b.below Q.o f.b.lt) (f.c.on Q.o) f.D F.C;have g:=k'2 O aS;go_wp2_with fail;exact aU (v:=.tuple #[.agg q.cells.toArray,.i 0]) (by simp[results,results39,go_sem,N]) rfl ⟨q,qs,0,rfl,(fun s l=>by rw[y0.o]at l; cases l; exact⟨rfl,F.b⟩),(fun h=>by rw[y0.o]at h; cases h),g.a,g.B⟩
end
section
attribute [-go_sem] loadCellsFrom storeCells
attribute [local go_sem] bC
theorem Zr{s t:St}(c:stB s=true)(d:stR s)(e:stR t):decide (iP s=iP t)=decide (s=t):=by
 rw[←Vy c d e];refine decide_eq_decide.2 ?_;unfold iP;rw[aE c,aE c];constructor
 .intro h
  split<;>rename_i a
  .rw[aE a]at h;have:=bG (fun b:ByteArray=>b.data.toList) h;simpa using this
  .rw[aC a]at h;have:=bG (fun b:ByteArray=>b.data.toList) h;simpa using this
 .intro h
  split<;>rename_i a
  .rw[aE a]at h; rw[h]
  .rw[aC a]at h; rw[h]
theorem yZ(s t:ByteArray):(s.toList==t.toList)=decide (s=t):=by
 have e:s.toList=t.toList↔s=t:=⟨fun h=>by rw[ByteArray.toList_eq,ByteArray.toList_eq]at h; exact ByteArray.ext (Array.ext' h),fun h=>h▸rfl⟩
 by_cases h:s=t
 .rw[bY h]; simpa using e.2 h
 .rw[aX h]; simpa using fun a=>h (e.1 a)
theorem vX(p:RpV)(ps:List ObV)(B:Nat)(w:World)(h:eO w B p ps)(X:B≤w.heap.size)(S:RpS p ps):
  Calls prog 12 #[.agg p.cells.toArray] w fun e w'=>e=.returned (.i (eN 1 (dI p.x)))∧Bw' w w':=by
 obtain⟨K,b2,A,H,z1⟩:=par w 39 p.cells;have i:=kp A;have d:=k'3 (h.below H X) (aB X H.size) S;have g:=kp H;have f:=kp (aL K.heap.size K);obtain⟨a1,N⟩:∃a,kB p.nodes=a:=⟨_,rfl⟩
 obtain⟨a2,O⟩:∃a,aF p.id 1 p.nodes=a:=⟨_,rfl⟩
 obtain⟨G,I⟩:∃a,dA p.x.k=a:=⟨_,rfl⟩
 obtain⟨a4,u4⟩:∃a,decide (p.k.view≤800000000)=a:=⟨_,rfl⟩
 obtain⟨L,Q⟩:∃a,decide (p.x.k.last≤800000000)=a:=⟨_,rfl⟩
 obtain⟨a6,R⟩:∃a,aF p.timer 0 1000=a:=⟨_,rfl⟩
 obtain⟨a7,T⟩:∃a,rH p.x=a:=⟨_,rfl⟩
 obtain⟨a8,U⟩:∃a,tL p.x=a:=⟨_,rfl⟩
 obtain⟨M,V⟩:∃a,decide (iB p.x.k p.commit=some p.s.x)=a:=⟨_,rfl⟩
 have hR:dI p.x=(a1&&(a2&&(G&&(a4&&(L&&(a6&&(a7&&(a8&&M)))))))):=by rw[←N,←O,←I,←u4,←Q,←R,←T,←U,←V]; rfl
 rw[hR];have d1:=kp (fun W=>N▸Jx p.nodes W S.r.2.1);have g1:=kp (fun W=>O▸cJ.1 p.id 1 p.nodes W);have j1:=kp (by have:=yU p.k B K d.a.1 d.b S.k.2.1 S.k.1 (aB S.k.2.2 (by decide)); rw[show dA p.k.x=G from I]at this; exact this);have l1:=kp (fun W=>R▸cJ.1 p.timer 0 1000 W);have hk:G=true→∃s,KOk p.x.k s:=fun h=>pZ.1 (I.trans h);have u5:decide (800000000<p.x.k.last)= !L:=by rw[←Q]; exact (by rw[←decide_not]; exact decide_eq_decide.2 (by omega))
 have m:=k'4 T U V hk;have k0:=A.cell 0;have k1:=A.cell 1;rw[RpV.c0]at k0;rw[RpV.c1]at k1;have l2:=A.loadOff (P:=prog) 2 5 p.k.cells rfl rfl;clear hR N O I Q R T U V hk A H h X S;go_enter func12,ntmps12;go_wp2_with fail;refine ms' (d1.o _) ?_;clear b2
 cases a1
 case' true=>
  go_wp2_with fail;refine ms' (g1.o _) ?_
  cases a2
  case' true=>
   go_wp2_with fail;refine mb' (j1.o) fun w3 Y=>?_;have g:=kp (g.o.on Y);have f:=kp Y;have k2:=(i.o.grow f.o).cell 2;rw[RpV.c2]at k2;clear k0 k1 l2 Y
   cases G
   case' true=>
    cases a4
    case' true=>
     have z:=(i.o.grow f.o).load (P:=prog) (k:=26) rfl;have HL:=kp (by obtain⟨s,hs⟩:=m.D rfl; exact Di p w3 B (Sl.below d.a.1 f.o d.b) hs.base d.C.k.2.1);go_wp2_with fail;refine mb' (HL.o) fun w4 Z=>?_;have g:=kp (g.o.on Z);have f:=kp (f.o.on Z);clear z k2 Z
     cases L
     case' true=>
      have z0:=(i.o.grow f.o).cell 17;rw[RpV.c17]at z0;go_wp2_with fail;refine ms' (l1.o _) ?_
      cases a6
      case' true=>
       have z:=(i.o.grow f.o).load (P:=prog) (k:=26) rfl;have y1:=kp (by obtain⟨s,hs⟩:=m.D rfl; have:=Yq p ps B w4 (d.a.below f.o d.b) (aB d.b f.o.size) d.C hs.base; rw[m.a]at this; exact this);go_wp2_with fail;refine mb' (y1.o) fun w5 a0=>?_;have g:=kp (g.o.on a0);have f:=kp (f.o.on a0);clear z z0 a0
       cases a7
       case' true=>
        have z:=(i.o.grow f.o).load (P:=prog) (k:=26) rfl;have m1:=kp (by have:=Lb.1 p w5 d.C.r.2.1; rw[m.b]at this; exact this);go_wp2_with fail;refine mb' (m1.o) fun w6 b0=>?_;have g:=kp (g.o.on b0);have f:=kp (f.o.on b0);clear z b0
        cases a8
        case' true=>
         have y6:=i.o.grow f.o;have l2:=y6.loadOff (P:=prog) 2 5 p.k.cells rfl rfl;have k7:=y6.cell 7;rw[RpV.c7]at k7;have q1:=kp (Zl p.k p.commit B w6 (Sl.below d.a.1 f.o d.b) (aB d.b f.o.size) d.C.k.2.1 d.C.k.1 (aB d.C.k.2.2 (by decide)) d.C.r.2.2.1);clear y6;go_wp2_with fail;refine (q1.o).mono ?_;rintro e w7 ⟨q,qs,c,rfl,y0,q0,o0,d0⟩;obtain⟨F,d2,s8,x8,cD,-⟩:=fB w7 32 z'2 q.cells rfl (StV.one o0.st);have g:=kp (g.o.on (d0.on cD));have f:=kp (f.o.on (d0.on cD));have E:=k'3 y0 q0 (o0.below cD);have HX:=kp x8;clear l2 k7 d0 cD y0 q0 o0 x8;go_wp2_with fail;clear s8 d2;have j:=m.c
         cases ho:iB p.k.x p.commit with
         |none=>
          rw[show iB p.x.k p.commit=none from ho]at j;obtain rfl:M=false:=by rw[←j]; rfl
          have u9:(c != 0)=true:=by simpa using E.b ho
          clear j ho;refine bJ (by kernel_rfl) (by kernel_rfl) ?_
          repeat (go_big_quiet_step (fail))
          refine bH ?_;rintro W9 ⟨⟨_,n⟩,rfl⟩;have g:=kp (g.o.on n);clear n;go_wp2_with fail;go_ret;exact⟨rfl,g.o⟩
         |some s=>
          rw[show iB p.x.k p.commit=some s from ho]at j;obtain⟨rfl,y⟩:=E.a s ho;have J:=Dn (k:=p.k.x) (fun e he=>(d.C.k.1 e he).2.2.2.2.2.2.2.2.2.1) ho;have l:decide (iP q.x=iP p.s.x)=M:=by rw[←j,Zr (y▸J.1) (y▸J.2) d.C.s.2.2.1,y]; exact decide_eq_decide.2 (by simp)
          obtain⟨t1,j0⟩:∃t,iP q.x=t:=⟨_,rfl⟩
          obtain⟨t2,m0⟩:∃t,iP p.s.x=t:=⟨_,rfl⟩
          rw[j0,m0,←yZ]at l;have HC:=kp l;clear j;have l8:=mC (P:=prog) HX.o (k:=9) rfl;have l4:∀r:Blw F,Sem.run prog (loadCellsFrom ⟨w.heap.size,8,none⟩ 0 9 #[]) r.w=.ok p.s.cells.toArray r.w:=fun r=>(i.o.grow (f.o.on r.h)).loadOff 8 9 p.s.cells rfl rfl;have e0:stB q.x=true:=y▸J.1;have g0:=SmO.ok E.C.st.1 (eC.1 (kA.1 e0).1);have g2:q.rows.length≤4:=by have:=rZ (kA.1 e0).2 (by omega); have e:q.x.rows=q.rows:=rfl; rw[e]at this; omega
          have o1:=kp (fun(r:Blw F)=>j0▸Ea q qs F.heap.size r.w (E.C.st.below r.h (aD _)) r.h.size (by have:=g0.obs; omega) (by have:=g0.free; omega) (by omega));have p1:=kp (fun(r:Blw F)=>m0▸Ea p.s ps B r.w (d.a.2.1.below (f.o.on r.h) d.b) (aB d.b (f.o.on r.h).size) (by have:=d.C.s.1.obs; omega) (by have:=d.C.s.1.free; omega) (by have:=d.C.s.2.1; omega));have u8:((0:Int) != 0)=false:=rfl;clear e0 g0 g2 J y j0 m0 ho l;refine bJ (by kernel_rfl) (by kernel_rfl) ?_
          repeat (go_big_quiet_step (first |(go_at_call 40; first |with_reducible refine bU (o1.o _)|with_reducible refine bU (p1.o _))))
          refine bH ?_;rintro W9 ⟨⟨_,n⟩,rfl⟩;have g:=kp (g.o.on n);clear n l8 l4;go_wp2_with fail
          all_goals
           rename_i p0;have l:=HC.o
           cases hbb:(t1.toList==t2.toList)
           all_goals
            rw[hbb]at p0 l
            first
            |exact absurd p0 (by decide)
            |subst l
             go_ret;exact⟨rfl,g.o⟩
 all_goals
  go_wp2_with fail;go_ret;exact⟨rfl,g.o⟩
end
section
attribute [-go_sem] loadCellsFrom storeCells Instr.build
attribute [local go_sem] bC
def zA(Wa:World)(s:St)(z:Value)(W:World):Prop:=∃q qs c d,z=.tuple #[.agg q.cells.toArray,.agg #[.i c,.i d]]∧q.x=s∧Ws W Wa.heap.size q qs
theorem zA.stab(g:World)(s:St):qE 32 (zA g s):=
 ⟨fun _ _ _ ⟨q,f,c,d,e,b,h⟩ j=>⟨q,f,c,d,e,b,h.below j⟩,fun _ W a _ cs' ⟨q,f,c,d,e,b,h⟩ k=>⟨q,f,c,d,e,b,h.chg k ((Chg.refl (fun i=>i=a) W).setRow (.inr rfl) cs') (by decide) (by decide) (by decide) (by decide)⟩⟩
def vY(u z:Value):Prop:=∃y,u=.tuple #[z,y]
def Ms(v:Value)(_:World):Prop:=∃c d,v=.agg #[.i c,.i d]
theorem Zy(p:KpV)(n:Int)(B:Nat)(w:World)(h:fL w B p)(O:B≤w.heap.size)(hn:p.es.length≤1000000)(hr:KdR p.x)(hi:p.image.size≤maxLen)(hN:inR n):
  Calls prog 47 #[.agg p.cells.toArray,.i n] w (oU w (iB p.x n)):=by
 obtain⟨R,hR⟩:=nm' (iB p.x n);rw[hR];obtain⟨W1,z5,x1,b1,z1⟩:=par w 24 p.cells;obtain⟨W2,a6,x2,b2,z2⟩:=par W1 32 z'2;have Q:=b1.on b2;have g:=k'4 (x1.grow b2) x2 Q (dY z1);have J:=k'2 (Sl.below h Q O) (aB O Q.size);have HC:=kp (yY p B W2 J.a J.B hn hr hi);have HL:=kp (fun W b1 b2=>rN.2 p W B b1 b2 hn);have l0:=g.a.load (P:=prog) (k:=5) rfl;have HR:=k'5 hR hr hi hn hN;clear x1 x2 b1 b2 z1 z2 Q h O hn hr hi hN hR;go_enter func47,ntmps47;go_wp2_with fail;refine mb' (HC.o) fun w3 y0=>?_;have b0:=kp y0
 cases H:dA p.x
 .have hZ:=(g.b.below y0 g.b.lt)
  obtain⟨W4,s4,T,U,aS⟩:=oU.fin hZ (g.c.on y0) g.D (tY _ _);have l5:Sem.run prog (storeCells ⟨W1.heap.size,0,none⟩ mF 0) w3=.ok () W4:=s4;have r:=k'4 U aS H (Dk (n:=n) H);clear hZ s4 U aS H y0 l0;go_wp2_with fail;exact aU (v:=.tuple #[.agg lP.cells.toArray,.i 1]) (by simp[results,results47,go_sem,T]) rfl ⟨lP,[],1,rfl,(fun s F=>by rw[←HR.a,r.D]at F; cases F),(fun _=>by decide),r.a,r.b⟩
 obtain⟨s0,HOk⟩:=pZ.1 H;have Y:=kp HOk;clear H HOk l0 y0;have k2:=(g.a.grow b0.o).cell 2;change _=some (Value.i p.base)at k2;have l0:=(g.a.grow b0.o).load (P:=prog) (k:=5) rfl;obtain⟨la,j0⟩:=nm' p.x.last;have y1:=k'2 j0 (show la=p.base+p.es.length from j0.symm);have p2:=kp (by have:=HL.o w3 (Sl.below J.a b0.o J.B) Y.o.base; rw[j0]at this; exact this);clear j0;have j1:n<p.base∨(¬n<p.base∧la<n)∨(¬n<p.base∧¬la<n):=by omega
 rcases j1 with S|⟨S,g0⟩|⟨S,g0⟩
 case' inl=>
  have c1:decide (n<p.base)=true:=by simp[S]
  have M:=kp (show R=none by rw[←HR.a]; exact vO (by show aF n p.base p.x.last=false; unfold aF; rw[aX (by omega)]; rfl));obtain⟨w4,d4⟩:=nm' w3;have d0:=kp (show Bw' W2 w4 from d4▸b0.o);subst d4
 case' inr.inl=>
  have c1:decide (n<p.base)=false:=by simp[S]
  have c2:decide (la<n)=true:=by simp[g0]
  have M:=kp (show R=none by rw[←HR.a]; exact vO (by show aF n p.base p.x.last=false; unfold aF; rw[y1.a,aX (show ¬n≤la by omega),wI]));clear S g0;go_wp2_with fail;refine mb' (p2.o) fun w4 z0=>?_;have d0:=kp (b0.o.on z0);clear z0 l0 k2
 case' inr.inr=>
  have c1:decide (n<p.base)=false:=by simp[S]
  have c2:decide (la<n)=false:=by simp[g0]
  have M:=k'2 S g0;clear S g0;go_wp2_with fail;refine mb' (p2.o) fun w4 z0=>?_;have d0:=kp (b0.o.on z0);clear z0 l0 k2
 rotate_left
 iterate 2
  .obtain⟨W4,s4,T,U,aS⟩:=oU.fin (g.b.below d0.o g.b.lt) (g.c.on d0.o) g.D (tY _ _);have l5:Sem.run prog (storeCells ⟨W1.heap.size,0,none⟩ mF 0) _=.ok () W4:=s4;have r:=k'2 U aS;clear s4 U aS;go_wp2_with fail;exact aU (v:=.tuple #[.agg lP.cells.toArray,.i 140]) (by simp[results,results47,go_sem,T]) rfl ⟨lP,[],140,rfl,(fun s F=>by rw[M.o]at F; cases F),(fun _=>by decide),r.a,r.B⟩
 obtain⟨m,hm⟩:∃m:Nat,n-p.base=m:=⟨(n-p.base).toNat,by have:=M.a; omega⟩
 have o3:m≤p.es.length:=by have:=M.B; have:=y1.B; omega
 have d1:=kp (show R=some (jD s0 (p.es.take m)) by
  rw[←HR.a,Dl Y.o (by show aF n p.base p.x.last=true; unfold aF; rw[y1.a]; have:=M.o; simp; omega)];show some (jD s0 (p.es.take (n-p.base).toNat))=_;rw[hm]; rfl)
 have HM:=k'2 hm o3;have k3:=(g.a.below d0.o g.a.lt).cell 3;change _=some (Value.string p.image)at k3;obtain⟨c5,W5,e5,b3,y3,a4,p3,m3⟩:=oT w4 p.image HR.c;have V:=k'5 (d0.o.on b3) y3 a4 p3 m3;clear b3 y3 a4 p3 m3 hm o3;go_wp2_with fail;clear k3 e5;refine (Dy _ _ _ _ p.image.data.toList W5 V.b V.c (mD _) V.d V.E).mono ?_;rintro e w6 ⟨q,qs,rfl,m1,hv,d2⟩;have e3:dM p.image.data.toList=some s0:=Y.o.img;rw[e3]at m1 ⊢;change q.x=s0 at m1;obtain⟨W7,z4,s7,x7,b7,z7⟩:=fB w6 32 z'2 q.cells rfl (StV.one hv.st);have o4:=kp (V.a.on (d2.on b7));have HI:=k'4 x7 m1 ((hv.ws.mono (aB g.c.size V.a.size)).below b7) (aB V.a.size d2.size);have p5:=kp J.a;have y2:=kp (show ∀k(H:k<p.es.length),(p.es[k]).n=p.base+k+1 from Ku Y.o.fol);obtain⟨A,c,g2,z3,b5,d5⟩:=J.a;obtain⟨nl,l2⟩:=nm' p.es.length;rw[l2]at g2;have L:=k'3 g2 l2 z3;have d6:nl≤1000000:=by have:=HR.d; omega
 clear e3 m1 hv d2 x7 b7 g2 z3 b5 d5 l2 z7;go_wp2_with fail;clear s7 z4
 go_loopw [8] (fun i wr=>∃k:Nat,k≤m∧i=.i k∧Bw' W2 wr∧Mn w wr w6.heap.size (jD s0 (p.es.take k))) (fun i _=>m-(intOf i).toNat)
 case atStart=>exact⟨0,by omega,rfl,o4.o,⟨q,qs,HI.a,HI.b,HI.c⟩⟩
 case round=>
  obtain⟨k,H,rfl,e2,⟨q,qs,x6,q3,e4⟩⟩:=hrel;have p0:=kp e2;have N:=k'3 x6 q3 e4;have k4:=(g.a.below e2 g.a.lt).cell 4;rw[show p.cells[4]? =some p.ev from rfl,L.a]at k4;clear e2 x6 q3 e4;have e6:m≤nl:=by have:=HM.B; have:=L.b; omega
  by_cases b6:k<m
  .have g3:(k:Int)<(nl:Int):=by omega
   have I:k<p.es.length:=by have:=L.b; omega
   obtain⟨b,g4,rfl,-,a1,g5⟩:=dB (P:=prog) 11 En.cells eL (by omega) (L.C.below p0.o J.B) k I;have q0:=a1 0 _ rfl;have p1:=y2.o k I;have HT:=k'2 (Kw s0 p.es k I) (Y.o.may _ (bK I));have q2:=kp (fun(W:World)(Q:Bw' W2 W)=>show Sem.run prog (loadCellsFrom ⟨b,g4+k*11,none⟩ 0 11 #[]) W=.ok (En.cells (p.es[k])).toArray W from by
    obtain⟨b',j6,e',-,-,hl⟩:=dB (P:=prog) 11 En.cells eL (by omega) (L.C.below Q J.B) k I
    cases e';exact hl 0)
   clear a1 g5;obtain⟨x,hx⟩:=nm' (p.es[k]'I);rw[hx]at q0 p1 HT q2;simp only[cF]at q0;have c5:decide (x.n≤n)=true:=by have:=HM.a; simp; omega
   clear hx p1;go_wp2_with fail;clear q0 c5 k4;have g1:=k'2 (N.a.grow (bR (aL _ _))) (N.C.below (bR (aL _ _)));have p4:=kp (fun(W:World)(Q:Below wr.drew.heap.size wr.drew W)=>Ze q qs x W.heap.size W ((g1.B.below Q).st) (aD _) (by rw[N.b]; exact Dm (tW Y.o.img).1 fun e Z=>Y.o.may e (qN Z)) HT.B);have e1:=kp (zA.stab wr.drew (jC q.x x).1);have HD:=kp (show Bw' W2 wr.drew from bR p0.o);refine fR 13 (CAl wr.drew 32 mF 53 [.i 0,.i 0] (zA wr.drew (jC q.x x).1) vY 6 7 8 10 11 12) (fun _=>fK) (by kernel_rfl) (by kernel_rfl) CAl.start ?_
   iterate 6 (refine bO ?_; apply Exists.intro)
   iterate 3 (refine bS eM ?_)
   refine bS Ms ?_
   iterate 3 (refine bS eM ?_)
   refine dR ⟨?_,?_⟩
   rotate_left
   .iterate 6
     apply Ug (by kernel_rfl) (by intro t w h; cases h; exact trivial) rfl
     .intro X W' f z hw j G;have O:=f.bel;have l6:=(g1.a.grow O).load (P:=prog) (k:=9) rfl;have T:=(g.a.below (HD.o.on O) g.a.lt).cell 4;rw[show p.cells[4]? =some p.ev from rfl,L.a]at T;have lx:=q2.o W' (HD.o.on O);clear O;go_wp2_with fail;exact⟨rfl,_,rfl,f.other (by decide),aV,rfl⟩
     simp only[Act.put,aN,aH,aI,aT,aW]
    refine⟨fun X W' f z hw j G=>?_,fun u6=>?_⟩
    .go_wp2_with fail;refine (p4.o W' f.bel).mono ?_;rintro e p6 ⟨l,o0,rfl,o1,m0,a5⟩;have K:=f.doCall e1.o z a5 ⟨l,o0,(jC q.x x).2.1,(jC q.x x).2.2,rfl,o1,m0.mono f.bel.size⟩ (by decide);go_wp2_with fail;exact⟨rfl,_,rfl,K,aV,trivial⟩
    simp only[Act.put,aN,aH,aI,aT,aW];refine⟨fun X W' f z hw j G=>?_,fun u7=>?_⟩
    .have h6:X 6=some u6:=j 6 57 u6 (by kernel_rfl) (by kernel_rfl) (bT (by kernel_rfl)) rfl;go_wp2_with fail;exact⟨rfl,_,rfl,f.doMv h6 (by decide),aV,trivial⟩
    simp only[Act.put,aN,aH,aI,aT,aW];refine⟨fun X W' f z hw j G=>?_,fun u8=>?_⟩
    .have h7:X 7=some u7:=j 7 50 u7 (by kernel_rfl) (by kernel_rfl) (bT (by kernel_rfl)) rfl;have h6:=f.mv _ h7;obtain⟨l,o0,c,d,rfl,-⟩:=f.call _ h6;have K:=f.doExt z h6 ⟨_,rfl⟩ (by decide);clear h6 h7;go_wp2_with fail;exact⟨rfl,_,rfl,K,aV,trivial⟩
    simp only[Act.put,aN,aH,aI,aT,aW];refine⟨fun X W' f z hw j G=>?_,fun u9=>?_⟩
    .have h7:X 7=some u7:=j 7 50 u7 (by kernel_rfl) (by kernel_rfl) (bT (by kernel_rfl)) rfl;obtain⟨l,o0,c,d,rfl,-⟩:=f.call _ (f.mv _ h7);clear h7;go_wp2_with fail;exact⟨rfl,_,rfl,f.other (by decide),aV,⟨c,d,rfl⟩⟩
    simp only[Act.put,aN,aH,aI,aT,aW];refine⟨fun X W' f z hw j G=>?_,fun o2=>?_⟩
    .have K:=f.doAlloc e1.o z (by decide);go_wp2_with fail;exact⟨rfl,_,rfl,K,aV,trivial⟩
    simp only[Act.put,aN,aH,aI,aT,aW];refine⟨fun X W' f z hw j G=>?_,fun m5=>?_⟩
    .have K:=f.doAlloc2 e1.o (by decide);go_wp2_with fail;exact⟨rfl,_,rfl,K,aV,trivial⟩
    simp only[Act.put,aN,aH,aI,aT,aW];refine⟨fun X W' f z hw j G=>?_,fun o5=>?_⟩
    .have a2:X 10=some o2:=j 10 9 o2 (by kernel_rfl) (by kernel_rfl) (bT (by kernel_rfl)) rfl;have h8:X 8=some u8:=j 8 58 u8 (by kernel_rfl) (by kernel_rfl) (bT (by kernel_rfl)) rfl;obtain⟨u,hu,y,Z⟩:=f.ext _ h8;obtain⟨l,o0,c,d,a0,-,m0⟩:=f.call _ hu;rw[Z]at a0;obtain⟨rfl,-⟩:u8=.agg l.cells.toArray∧y=.agg #[.i c,.i d]:=by simpa using a0
     obtain⟨a,cs,rfl,-⟩:=f.al _ a2;obtain⟨H,K⟩:=f.doStore (u:=undef) e1.o (by decide) z a2 h8 (by decide);have m6:=H.store (P:=prog) (cs':=l.cells) rfl (StV.one m0.st);clear H Z a0 hu h8 a2;go_wp2_with fail;exact⟨rfl,undef,rfl,K,aV,trivial⟩
    simp only[Act.put,aT,aW];intro W9 f G;have hr:Ms u9 W9:=G 59;clear G;simp only[dO,dP];obtain⟨c,d,rfl⟩:=hr;obtain⟨u,hu,y,Z⟩:=f.ext u8 rfl;obtain⟨l,o0,c',d',a0,o1,m0⟩:=f.call _ hu;rw[Z]at a0;obtain⟨rfl,-⟩:u8=.agg l.cells.toArray∧y=.agg #[.i c',.i d']:=by simpa using a0
    obtain⟨a,cs,rfl,j0,j2,-,j1⟩:=f.al o2 rfl;obtain rfl:l.cells=cs:=by have:=j1 o5 rfl; simpa using this
    obtain⟨b',rfl,j3,l1⟩:=f.al2 m5 rfl;have d3:=f.bel;have j5:=bZ.store l1 c d;have c13:=(Chg.refl (fun i=>i=b') W9).setRow (.inr rfl) #[.i c,.i d];have m2:=j2.chg c13 (j2.ne l1 (by decide));have q1:=m0.chg l1 c13 (by decide) (by decide) (by decide) (by decide);have e0:=cL d3 j3 #[.i c,.i d];obtain⟨q5,a3⟩:∃W,W9.setRow b' #[.i c,.i d]=W:=⟨_,rfl⟩
    rw[a3]at j5 c13 m2 q1 e0;have g6:=m2.load (P:=prog) (k:=9) rfl;obtain⟨y5,y4,o6,j4,c14⟩:=(g1.a.grow e0).put l.cells rfl (StV.one q1.st);have M:=k'3 j4 (show l.x=jD s0 (p.es.take (k+1)) by rw[HT.a,o1,N.b]) ((q1.mono (aB g.c.size HD.o.size)).chg (g1.a.grow e0) c14 (by decide) (by decide) (by decide) (by decide));have m4:=kp ((HD.o.on e0).trans (c14.below (B:=W2.heap.size) (fun i hi=>by have:=HI.D; omega) (HD.o.on e0).size));clear d3 Z a0 hu o1 m0 j0 j2 j1 j3 l1 c13 m2 q1 e0 a3 y4 j4 c14 f;go_wp2_with fail;go_roundw
    case rel=>exact⟨k+1,by omega,by go_num,m4.o,⟨l,o0,M.o⟩⟩
    case measure=>simp[intOf]; omega
   .exact⟨pv',pv',pv',pv',pv',pv',fun _ _ _ _ _ h _=>h,fun _ _ _ _ _ h _=>h,fun _ _ _ _ _ h _=>h,fun _ _ _ _ _ h _=>h,fun _ _ _ _ _ h _=>h,fun _ _ _ _ _ h _=>h,fun _ _ _ _ _ h _=>h,trivial⟩
  .obtain rfl:m=k:=by omega
   obtain⟨W4,s4,T,U,aS⟩:=oU.fin (g.b.below p0.o g.b.lt) (g.c.on p0.o) g.D N.C;have r:=k'2 U aS;have l6:=N.a.load (P:=prog) (k:=9) rfl;clear U aS
   by_cases l3:m<nl
   .have g3:(m:Int)<(nl:Int):=by omega
    have I:m<p.es.length:=by have:=L.b; omega
    obtain⟨b,g4,rfl,-,a1,-⟩:=dB (P:=prog) 11 En.cells eL (by omega) (L.C.below p0.o J.B) m I;have q0:=a1 0 _ rfl;have p1:=y2.o m I;clear a1;generalize p.es[m]'I=x at *;simp only[cF]at q0;have c5:decide (x.n≤n)=false:=by have:=HM.a; simp; omega
    clear p1 l3;go_wp2_with fail;exact aU (v:=.tuple #[.agg q.cells.toArray,.i 0]) (by simp[results,results47,go_sem,T]) rfl ⟨q,qs,0,rfl,(fun s F=>by rw[d1.o]at F; cases F; exact⟨rfl,N.b⟩),(fun h=>by rw[d1.o]at h; cases h),r.a,r.B⟩
   .obtain rfl:nl=m:=by omega
    clear l3;go_wp2_with fail;exact aU (v:=.tuple #[.agg q.cells.toArray,.i 0]) (by simp[results,results47,go_sem,T]) rfl ⟨q,qs,0,rfl,(fun s F=>by rw[d1.o]at F; cases F; exact⟨rfl,N.b⟩),(fun h=>by rw[d1.o]at h; cases h),r.a,r.B⟩
end
end Go.Proofs.YtdoopoapbffpbaaGreat
