import Derived.Test.YtdoopoapbffpbaaGreatZ38
import Derived.Test.YtdoopoapbffpbaaGreatZ40
namespace Go.Proofs.YtdoopoapbffpbaaGreat
open Go.RowKit Go.Proofs.Tryz
set_option maxRecDepth 100000
set_option maxHeartbeats 12800000
set_option linter.unusedVariables false
set_option linter.unusedSimpArgs false
section
attribute [-go_sem] loadCellsFrom storeCells
attribute [local go_sem] bC
theorem zB(p:RpV)(ps:List ObV)(B:Nat)(w:World)(h:eO w B p ps)(U:B≤w.heap.size)(S:RpS p ps):
  Calls prog 13 #[.agg p.cells.toArray] w fun e w'=>e=.returned (.bool (dI p.x))∧Bw' w w':=by
 obtain⟨H,o1,n,E,z1⟩:=par w 39 p.cells;have i:=kp n;have f:=k'3 (h.below E U) (aB U E.size) S;have g:=kp E;have d:=kp (aL H.heap.size H);obtain⟨a1,L⟩:∃a,kB p.nodes=a:=⟨_,rfl⟩
 obtain⟨a2,M⟩:∃a,aF p.id 1 p.nodes=a:=⟨_,rfl⟩
 obtain⟨A,F⟩:∃a,dA p.x.k=a:=⟨_,rfl⟩
 obtain⟨I,u4⟩:∃a,decide (p.k.view≤800000000)=a:=⟨_,rfl⟩
 obtain⟨J,N⟩:∃a,decide (p.x.k.last≤800000000)=a:=⟨_,rfl⟩
 obtain⟨a6,O⟩:∃a,aF p.timer 0 1000=a:=⟨_,rfl⟩
 obtain⟨a7,Q⟩:∃a,rH p.x=a:=⟨_,rfl⟩
 obtain⟨a8,R⟩:∃a,tL p.x=a:=⟨_,rfl⟩
 obtain⟨K,T⟩:∃a,decide (iB p.x.k p.commit=some p.s.x)=a:=⟨_,rfl⟩
 have hR:dI p.x=(a1&&(a2&&(A&&(I&&(J&&(a6&&(a7&&(a8&&K)))))))):=by rw[←L,←M,←F,←u4,←N,←O,←Q,←R,←T]; rfl
 rw[hR];have q0:=kp (fun W=>L▸Jy p.nodes W);have y0:=kp (fun W=>M▸cJ.2.1 p.id 1 p.nodes W);have z0:=kp (by have:=yY p.k B H f.a.1 f.b S.k.2.1 S.k.1 (aB S.k.2.2 (by decide)); rw[show dA p.k.x=A from F]at this; exact this);have d1:=kp (fun W=>O▸cJ.2.1 p.timer 0 1000 W);have hk:A=true→∃s,KOk p.x.k s:=fun h=>pZ.1 (F.trans h);have y1:decide (800000000<p.k.view)= !I:=by rw[←u4,←decide_not]; exact decide_eq_decide.2 (by omega)
 have u5:decide (800000000<p.k.x.last)= !J:=by rw[←N,←decide_not]; exact decide_eq_decide.2 Int.not_le.symm
 have l:=k'4 Q R T hk;have k0:=n.cell 0;have k1:=n.cell 1;rw[RpV.c0]at k0;rw[RpV.c1]at k1;have l2:=n.loadOff (P:=prog) 2 5 p.k.cells rfl rfl;clear hR L M F N O Q R T hk n E h U S;go_enter func13,ntmps13;go_wp2_with fail;refine ms' (q0.o _) ?_;clear o1
 cases a1
 case' true=>
  go_wp2_with fail;refine ms' (y0.o _) ?_
  cases a2
  case' true=>
   go_wp2_with fail;refine mb' (z0.o) fun w3 V=>?_;have g:=kp (g.o.on V);have d:=kp V;have k2:=(i.o.grow d.o).cell 2;rw[RpV.c2]at k2;clear k0 k1 l2 V
   cases A
   case' true=>
    cases I
    case' true=>
     have m:=(i.o.grow d.o).loadOff (P:=prog) 2 5 p.k.cells rfl rfl;have HL:=kp (by obtain⟨s,hs⟩:=l.D rfl; exact rN.2 p.k w3 B (Sl.below f.a.1 d.o f.b) hs.base f.C.k.2.1);go_wp2_with fail;refine mb' (HL.o) fun w4 X=>?_;have g:=kp (g.o.on X);have d:=kp (d.o.on X);clear m k2 X
     cases J
     case' true=>
      have p0:=(i.o.grow d.o).cell 17;rw[RpV.c17]at p0;go_wp2_with fail;refine ms' (d1.o _) ?_
      cases a6
      case' true=>
       have m:=(i.o.grow d.o).load (P:=prog) (k:=26) rfl;have m1:=kp (by obtain⟨s,hs⟩:=l.D rfl; have:=Zx p ps B w4 (f.a.below d.o f.b) (aB f.b d.o.size) f.C hs.base; rw[Vr,l.a]at this; exact this);go_wp2_with fail;refine mb' (m1.o) fun w5 Y=>?_;have g:=kp (g.o.on Y);have d:=kp (d.o.on Y);clear m p0 Y
       cases a7
       case' true=>
        have m:=(i.o.grow d.o).load (P:=prog) (k:=26) rfl;have g1:=kp (by have:=Lb.2 p w5; rw[l.b]at this; exact this);go_wp2_with fail;refine mb' (g1.o) fun w6 Z=>?_;have g:=kp (g.o.on Z);have d:=kp (d.o.on Z);clear m Z
        cases a8
        case' true=>
         have y6:=i.o.grow d.o;have l2:=y6.loadOff (P:=prog) 2 5 p.k.cells rfl rfl;have k7:=y6.cell 7;rw[RpV.c7]at k7;have l1:=kp (Zy p.k p.commit B w6 (Sl.below f.a.1 d.o f.b) (aB f.b d.o.size) f.C.k.2.1 f.C.k.1 (aB f.C.k.2.2 (by decide)) f.C.r.2.2.1);clear y6;go_wp2_with fail;refine (l1.o).mono ?_;rintro e w7 ⟨q,qs,c,rfl,o0,j0,e0,a0⟩;obtain⟨W8,p1,s8,x8,cD,-⟩:=fB w7 32 z'2 q.cells rfl (StV.one e0.st);have g:=kp (g.o.on (a0.on cD));have d:=kp (d.o.on (a0.on cD));have y:=k'3 o0 j0 (e0.below cD);have HX:=kp x8;clear l2 k7 a0 cD o0 j0 e0 x8;have l8:=HX.o.load (P:=prog) (k:=9) rfl;have l4:=(i.o.grow d.o).loadOff (P:=prog) 8 9 p.s.cells rfl rfl;have j:=l.c
         cases ho:iB p.k.x p.commit with
         |none=>
          rw[show iB p.x.k p.commit=none from ho]at j;obtain rfl:K=false:=by rw[←j]; rfl
          have u9:(c==0)=false:=by simpa using y.b ho
          clear j ho;go_wp2_with fail;go_ret;exact⟨rfl,g.o⟩
         |some s=>
          rw[show iB p.x.k p.commit=some s from ho]at j;obtain⟨rfl,b0⟩:=y.a s ho;have m0:=Dn (k:=p.k.x) (fun e he=>(f.C.k.1 e he).2.2.2.2.2.2.2.2.2.1) ho;have d0:stB q.x=true:=b0▸m0.1;have G:=SmO.ok y.C.st.1 (eC.1 (kA.1 d0).1);have q1:q.rows.length≤4:=by have:=rZ (kA.1 d0).2 (by omega); have e:q.x.rows=q.rows:=rfl; rw[e]at this; omega
          have j1:=kp (by
           have:=Kq q p.s qs ps W8.heap.size W8 y.C.st ((f.a.2.1.below d.o f.b).more (aB f.b d.o.size)) (aD _) (by have:=G.obs; omega) (by have:=G.free; omega) (fun z hz=>by have:=G.rows z hz; omega) (by omega);rw[show decide (q.x=p.s.x)=K by rw[←j,b0]; exact decide_eq_decide.2 (by simp)]at this;exact this)
          clear d0 G q1 m0 b0 ho j;go_wp2_with fail;refine mb' (j1.o) fun w9 g0=>?_;have g:=kp (g.o.on g0);clear g0 l8 l4 s8 p1;go_wp2_with fail;go_ret;exact⟨rfl,g.o⟩
 all_goals
  go_wp2_with fail;go_ret;exact⟨rfl,g.o⟩
end
section
attribute [-go_sem] loadCellsFrom storeCells
attribute [local go_sem] bC
theorem sB:(∀(p:RpV)(ps:List ObV)(B:Nat)(w:World)(h:eO w B p ps)(b:B≤w.heap.size)(S:RpS p ps),Calls prog 15 #[.agg p.cells.toArray] w fun e f=>e=.returned (.bool (dI p.x&&gY p.x))∧Bw' w f)∧(∀(p:RpV)(ps:List ObV)(B:Nat)(w:World)(h:eO w B p ps)(b:B≤w.heap.size)(S:RpS p ps),Calls prog 17 #[.agg p.cells.toArray] w fun e f=>e=.returned (.bool (dI p.x&&gM p.x))∧Bw' w f)∧(∀(p:RpV)(ps:List ObV)(B:Nat)(w:World)(h:eO w B p ps)(b:B≤w.heap.size)(S:RpS p ps),Calls prog 16 #[.agg p.cells.toArray] w fun e f=>e=.returned (.bool (dI p.x&&gY p.x))∧Bw' w f)∧(∀(p:RpV)(ps:List ObV)(B:Nat)(w:World)(h:eO w B p ps)(b:B≤w.heap.size)(S:RpS p ps),Calls prog 18 #[.agg p.cells.toArray] w fun e f=>e=.returned (.bool (dI p.x&&gM p.x))∧Bw' w f):=by
 refine⟨?q0,?q1,?q2,?q3⟩
 case' q0=>have q:=True.intro
 case' q1=>have A:=True.intro
 case' q2=>have C:=True.intro
 all_goals
  intro p ps B w h b S;obtain⟨m,F,s,c,K⟩:=par w 39 p.cells;have g:=kp c;have D:=kp s;obtain⟨E,i⟩:∃a,dI p.x=a:=⟨_,rfl⟩
  first
  |(have:=q; obtain⟨y,d⟩:∃a,gY p.x=a:=⟨_,rfl⟩)
  |(have:=C; obtain⟨y,d⟩:∃a,gY p.x=a:=⟨_,rfl⟩)
  |obtain⟨y,d⟩:∃a,gM p.x=a:=⟨_,rfl⟩
  first
  |(have:=q; have l:=kp (by have:=vX p ps B m (h.below c b) (aB b c.size) S; rw[i]at this; exact this))
  |(have:=A; have l:=kp (by have:=vX p ps B m (h.below c b) (aB b c.size) S; rw[i]at this; exact this))
  |have l:=kp (by have:=zB p ps B m (h.below c b) (aB b c.size) S; rw[i]at this; exact this)
  first
  |(have:=q; have j:=kp (fun W=>by have:=tU.1 p W; rw[d]at this; exact this))
  |(have:=A; have j:=kp (fun W=>by have:=Dj p W S.r.2.1; rw[d]at this; exact this))
  |(have:=C; have j:=kp (fun W=>by have:=tU.2 p W; rw[d]at this; exact this))
  |have j:=kp (fun W=>by have:=tV p W; rw[d]at this; exact this)
  have G:=s.load (P:=prog) (k:=26) rfl;rw[i,d];clear i d s c h b S
  first |go_enter func15,ntmps15|go_enter func17,ntmps17|go_enter func16,ntmps16|go_enter func18,ntmps18
  go_wp2_with fail;refine mb' (l.o) fun I n=>?_;have g:=kp (g.o.on n);have H:=(D.o.grow n).load (P:=prog) (k:=26) rfl;clear G F n
  cases E
  case' true=>
   go_wp2_with fail;refine mb' (j.o _) fun J z=>?_;have g:=kp (g.o.on z);clear H z
  all_goals
   go_wp2_with fail;go_ret;exact⟨rfl,g.o⟩
theorem Mt(p q:KpV)(B:Nat)(w:World)(h:fL w B p)(y:fL w B q)(k:B≤w.heap.size)(A:p.es.length≤1000000):
  Calls prog 19 #[.agg p.cells.toArray,.agg q.cells.toArray] w fun e T=>e=.returned (.bool (decide (p.x=q.x)))∧Bw' w T:=by
 obtain⟨E,G,C,s,U⟩:=par w 24 p.cells;obtain⟨F,H,d,i,V⟩:=par E 24 q.cells;have c:=C.grow i;have f:=s.on i;have g:=kp f;obtain⟨l,u0⟩:∃a,(p.view==q.view)=a:=⟨_,rfl⟩
 obtain⟨m,u1⟩:∃a,(p.normal==q.normal)=a:=⟨_,rfl⟩
 obtain⟨n,u2⟩:∃a,(p.base==q.base)=a:=⟨_,rfl⟩
 obtain⟨r,u3⟩:∃a,(p.image.toList==q.image.toList)=a:=⟨_,rfl⟩
 obtain⟨b,j⟩:=nm' (decide (p.es=q.es));have z:decide (p.x=q.x)=((l&&(m&&(n&&(r&&b))))):=by
  rw[←u0,←u1,←u2,←u3,←j,yZ];unfold KpV.x;simp only[Kd.mk.injEq,Ad];rfl
 rw[z];have D:=kp (by have:=tS.2.2 p.ev q.ev p.es q.es B F (Sl.below h f k) (Sl.below y f k) A; rw[j]at this; exact this);have N:=c.cell 0;change _=some (Value.i p.view)at N;have I:=d.cell 0;change _=some (Value.i q.view)at I;have O:=c.cell 1;change _=some (Value.i p.normal)at O;have J:=d.cell 1;change _=some (Value.i q.normal)at J;have P:=c.cell 2;change _=some (Value.i p.base)at P;have K:=d.cell 2;change _=some (Value.i q.base)at K;have Q:=c.cell 3;change _=some (Value.string p.image)at Q;have L:=d.cell 3;change _=some (Value.string q.image)at L;have R:=c.cell 4;have M:=d.cell 4;change _=some p.ev at R;change _=some q.ev at M;clear z j c d C s i f h y k A U V;go_enter func19,ntmps19
 cases l
 case' true=>
  cases m
  case' true=>
   cases n
   case' true=>
    cases r
    case' true=>
     go_wp2_with fail;refine D.o.mono ?_;rintro e W ⟨rfl,S,rfl⟩;have g:=kp (gG g.o S);clear G H
 all_goals
  go_wp2_with fail;go_ret;exact⟨rfl,g.o⟩
theorem Zz(p q:VoV)(B:Nat)(w:World)(h:mS w B p)(z:mS w B q)(k:B≤w.heap.size)(C:p.es.length≤1000000):
  Calls prog 88 #[.agg p.cells.toArray,.agg q.cells.toArray] w fun e W=>e=.returned (.bool (decide (p.x=q.x)))∧Bw' w W:=by
 obtain⟨F,H,D,y,X⟩:=par w 84 p.cells;obtain⟨G,I,d,i,Y⟩:=par F 84 q.cells;have c:=D.grow i;have f:=y.on i;have g:=kp f;obtain⟨l,u0⟩:∃a,(p.node==q.node)=a:=⟨_,rfl⟩
 obtain⟨m,u1⟩:∃a,(p.normal==q.normal)=a:=⟨_,rfl⟩
 obtain⟨n,u2⟩:∃a,(p.base==q.base)=a:=⟨_,rfl⟩
 obtain⟨r,u3⟩:∃a,(p.number==q.number)=a:=⟨_,rfl⟩
 obtain⟨s,u4⟩:∃a,(p.commit==q.commit)=a:=⟨_,rfl⟩
 obtain⟨b,j⟩:=nm' (decide (p.es=q.es));have A:decide (p.x=q.x)=((l&&(m&&(n&&(r&&(s&&b)))))):=by
  rw[←u0,←u1,←u2,←u3,←u4,←j];unfold VoV.x;simp only[Vo.mk.injEq,Ad];rfl
 rw[A];have E:=kp (by have:=tS.2.2 p.ev q.ev p.es q.es B G (Sl.below h f k) (Sl.below z f k) C; rw[j]at this; exact this);have P:=c.cell 0;change _=some (Value.i p.node)at P;have J:=d.cell 0;change _=some (Value.i q.node)at J;have Q:=c.cell 1;change _=some (Value.i p.normal)at Q;have K:=d.cell 1;change _=some (Value.i q.normal)at K;have R:=c.cell 2;change _=some (Value.i p.base)at R;have L:=d.cell 2;change _=some (Value.i q.base)at L;have S:=c.cell 3;change _=some (Value.i p.number)at S;have M:=d.cell 3;change _=some (Value.i q.number)at M;have T:=c.cell 4;change _=some (Value.i p.commit)at T;have N:=d.cell 4;change _=some (Value.i q.commit)at N;have U:=c.cell 5;have O:=d.cell 5;change _=some p.ev at U;change _=some q.ev at O;clear A j c d D y i f h z k C X Y;go_enter func88,ntmps88
 cases l
 case' true=>
  cases m
  case' true=>
   cases n
   case' true=>
    cases r
    case' true=>
     cases s
     case' true=>
      go_wp2_with fail;refine E.o.mono ?_;rintro e Z ⟨rfl,V,rfl⟩;have g:=kp (gG g.o V);clear H I
 all_goals
  go_wp2_with fail;go_ret;exact⟨rfl,g.o⟩
end
section
attribute [-go_sem] loadCellsFrom storeCells
attribute [local go_sem] bC
theorem aAa(va vb:Value)(f g:List VoV)(B:Nat)(w:World)(N:nQ w B va f)(O:nQ w B vb g)(U:B≤w.heap.size)(hn:f.length≤1000000)(X:∀v∈f,v.es.length≤1000000):
  Calls prog 31 #[va,vb] w fun e w'=>e=.returned (.bool (decide (f.map (·.x)=g.map (·.x))))∧Bw' w w':=by
 obtain⟨R,M⟩:∃R,decide (f.map (·.x)=g.map (·.x))=R:=⟨_,rfl⟩
 rw[M];have J:=k'3 N.2 O.2 X;obtain⟨A,c,rfl,H,-,-⟩:=N.1;obtain⟨A',c',rfl,g0,-,-⟩:=O.1;obtain⟨n,F⟩:=nm' f.length;obtain⟨m,Q⟩:=nm' g.length;rw[F]at hn ⊢;rw[Q];have s:=k'3 M F Q;have p:=k'3 H g0 U;clear M F Q H g0 U N O X
 by_cases I:n=m
 .have c1:((n:Int) != (m:Int))=false:=by simp[I]
  have K:=kp I;clear I;go_enter func31,ntmps31;go_wp2_with fail;clear c1
  go_loopw [5] (fun i wr=>∃k:Nat,k≤n∧i=.i k∧(f.take k).map (·.x)=(g.take k).map (·.x)∧Bw' w wr) (fun i _=>n-(intOf i).toNat)
  case atStart=>exact⟨0,by omega,rfl,by simp,.refl _ _⟩
  case round=>
   obtain⟨k,hk,rfl,Y,W⟩:=hrel;have S:=kp Y;have j:=kp W;clear Y W
   by_cases q0:k<n
   .have g3:(k:Int)<(n:Int):=by omega
    have g4:(k:Int)<(m:Int):=by have:=K.o; omega
    have z:k<f.length:=by have:=s.b; omega
    have D:k<g.length:=by have:=s.C; have:=K.o; omega
    obtain⟨b,o0,rfl,-,-,-⟩:=dB (P:=prog) 6 VoV.cells iS (by omega) p.a k z;obtain⟨b2,p0,rfl,-,-,-⟩:=dB (P:=prog) 6 VoV.cells iS (by omega) p.b k D;have lx:∀r:Blw wr,Sem.run prog (loadCellsFrom ⟨b,o0+k*6,none⟩ 0 6 #[]) r.w=.ok (VoV.cells f[k]).toArray r.w:=fun r=>by
     obtain⟨_,_,L,-,-,F⟩:=dB (P:=prog) 6 VoV.cells iS (by omega) (p.a.below (j.o.on r.h) p.C) k z
     cases L;exact F 0
    have ly:∀r:Blw wr,Sem.run prog (loadCellsFrom ⟨b2,p0+k*6,none⟩ 0 6 #[]) r.w=.ok (VoV.cells g[k]).toArray r.w:=fun r=>by
     obtain⟨_,_,L,-,-,F⟩:=dB (P:=prog) 6 VoV.cells iS (by omega) (p.b.below (j.o.on r.h) p.C) k D
     cases L;exact F 0
    have j0:f.take (k+1)=f.take k++[f[k]'z]:=cV z;have l0:g.take (k+1)=g.take k++[g[k]'D]:=cV D;have b0:=J.a _ (bK z);have d0:=J.b _ (bK D);have e0:=J.C _ (bK z);have Z:=eK z;have a0:=eK D;generalize f[k]'z=x at *;generalize g[k]'D=y at *;obtain⟨r,H⟩:=nm' (decide (x.x=y.x));have HS:=kp (fun(q:Blw wr)=>H▸Zz x y w.heap.size q.w (Sl.more (Sl.below b0 (j.o.on q.h) p.C) p.C) (Sl.more (Sl.below d0 (j.o.on q.h) p.C) p.C) (j.o.on q.h).size e0);have G:=k'5 H j0 l0 Z a0;clear j0 l0 b0 d0 e0 Z a0 H z D;go_wp2_with fail;refine bJ (by kernel_rfl) (by kernel_rfl) ?_
    repeat (go_big_quiet_step ((go_at_call 88; refine bU (HS.o _))))
    refine bH ?_;rintro W5 ⟨⟨_,V⟩,rfl⟩;have j:=kp (j.o.on V);clear V lx ly
    cases r
    case false=>
     obtain rfl:R=false:=by
      rw[←s.a];exact aX fun h=>by
       have T:=bG (fun l=>l[k]?) h;simp only[wC,G.d,G.E,kL,Option.some.injEq]at T;exact of_decide_eq_false G.a T
     go_wp2_with fail;go_ret;exact⟨rfl,j.o⟩
    have m0:=bT G.a;have HX:=kp m0;clear m0;go_wp2_with fail;go_roundw
    case rel=>exact⟨k+1,by omega,by go_num,by rw[G.b,G.c,gC,gC,S.o,kM,kM,HX.o],j.o⟩
    case measure=>simp[intOf]; omega
   .obtain rfl:n=k:=by omega
    obtain rfl:R=true:=by
     rw[←s.a];have:=S.o;rw[cN (by have:=s.b; omega),cN (by have:=s.C; have:=K.o; omega)]at this;exact bY this
    go_wp2_with fail;go_ret;exact⟨rfl,j.o⟩
 .have c1:((n:Int) != (m:Int))=true:=by simp; omega
  obtain rfl:R=false:=by
   rw[←s.a];exact aX fun h=>I (by have:=bG List.length h; simp at this; have:=s.b; have:=s.C; omega)
  clear I;go_enter func31,ntmps31;go_wp2_with fail;go_ret;exact⟨rfl,.refl _ _⟩
structure RcV where
 (kind view src number:Int) (image:ByteArray) (entry:En) (es:List En) (ev:Value)
def RcV.cells(p:RcV):List Value:=[.i p.kind,.i p.view,.i p.src,.i p.number,.string p.image]++p.entry.cells++[p.ev]
def RcV.x(p:RcV):Rc:=⟨p.kind,p.view,p.src,p.number,p.image,p.entry,p.es⟩
def zC:RcV:=⟨0,0,0,0,⟨#[]⟩,Cn,[],.slice none 0 0⟩
structure SmK(p:KpV):Prop where
 es:p.es.length≤300
 image:p.image.size≤100000
theorem Mu(p:KpV)(B:Nat)(w:World)(h:fL w B p):
  Calls prog 5 #[.agg p.cells.toArray,.agg zC.cells.toArray] w (NoR w (SmK p)):=by
 obtain⟨q,H,l,j,E⟩:=par w 24 p.cells;obtain⟨G,I,f,b,F⟩:=par q 48 zC.cells;have e:=l.grow b;have a:=kp (j.on b);obtain⟨A,c,k,-,-,-⟩:=h;obtain⟨n,d⟩:=nm' p.es.length;obtain⟨m,x⟩:=nm' p.image.size;have D:=e.cell 4;have C:=e.cell 3;rw[show p.cells[4]? =some p.ev from rfl,k,d]at D;change _=some (Value.string p.image)at C;have y:=f.cell 16;have z:=f.cell 4;change _=some (Value.slice none 0 0)at y;change _=some (Value.string ⟨#[]⟩)at z;have i:=k'2 d x;clear e f l j b E F k d;go_enter func5,ntmps5
 by_cases c1:300<n
 .have r:decide (300<(n:Int))=true:=by simp; omega
  clear c1;go_wp2_with fail;go_ret;exact NoR.of (fun h=>by cases h) a.o
 have r:decide (300<(n:Int))=false:=by simp; omega
 by_cases c2:100000<m
 .have s:decide (100000<(m:Int))=true:=by simp; omega
  clear c2;go_wp2_with fail;go_ret;exact NoR.of (fun h=>by cases h) a.o
 have s:decide (100000<(m:Int))=false:=by simp; omega
 have g:=k'2 c1 c2;clear c1 c2;go_wp2_with fail;go_ret;exact NoR.of (fun _=>⟨by have:=g.o; have:=i.o; omega,by have:=g.o; have:=i.o; omega⟩) a.o
structure SmV(vs:List VoV)(p:KpV):Prop where
 k:SmK p
 len:vs.length≤50
 es:∀v∈vs,v.es.length≤200
theorem aAb(w:World):(Instr.build 48 #[]).run prog w=.ok (.agg zC.cells.toArray) w:=run_build w _ _ _ (by kernel_rfl)
attribute [-go_sem] Instr.build
attribute [go_sem] aAb
theorem aAc(v:Value)(f:List VoV)(p:KpV)(B:Nat)(w:World)(d:nQ w B v f)(h:fL w B p)(z:B≤w.heap.size):
  Calls prog 24 #[v,.agg p.cells.toArray] w (NoR w (SmV f p)):=by
 obtain⟨K,W,T,l,z1⟩:=par w 24 p.cells;have s:=kp l;have H:=d.below l z;obtain⟨A,c,rfl,q,-,-⟩:=H.1;obtain⟨n,G⟩:=nm' f.length;have g:=k'4 q G (aB z l.size) H.2;have Y:=T.load (P:=prog) (k:=5) rfl;have U:=kp (Mu p B K (Sl.below h l z));rw[G];clear q G d H h T l z1 z;go_enter func24,ntmps24
 by_cases c1:50<n
 .have L:decide (50<(n:Int))=true:=by simp; omega
  clear c1;go_wp2_with fail;go_ret;exact NoR.of (fun h=>by cases h) s.o
 have L:decide (50<(n:Int))=false:=by simp; omega
 go_wp2_with fail;refine (U.o).mono ?_;rintro e w2 ⟨r,rfl,q,M⟩;have E:=k'2 q M;clear q M Y W
 cases r
 case true=>
  go_wp2_with fail;go_ret;exact NoR.of (fun h=>by cases h) (s.o.on E.B)
 go_wp2_with fail;clear L
 go_loopw [5] (fun i wr=>∃k:Nat,k≤n∧i=.i k∧(∀v∈f.take k,v.es.length≤200)∧Bw' K wr) (fun i _=>n-(intOf i).toNat)
 case atStart=>exact⟨0,by omega,rfl,by simp,E.B⟩
 case round=>
  obtain⟨k,hk,rfl,R,N⟩:=hrel;have I:=kp R;have y:=kp N;clear R N
  by_cases a0:k<n
  .have g3:(k:Int)<(n:Int):=by omega
   have j:k<f.length:=by have:=g.b; omega
   obtain⟨b,b0,rfl,-,O,-⟩:=dB (P:=prog) 6 VoV.cells iS (by omega) (g.a.below y.o g.c) k j;have Z:=O 5 _ rfl;have S:f.take (k+1)=f.take k++[f[k]'j]:=cV j;have X:=g.D _ (bK j);clear O;generalize f[k]'j=x at *;obtain⟨A2,c2,Q,-,-,-⟩:=X;obtain⟨m,F⟩:=nm' x.es.length;rw[Q,F]at Z;have J:=k'2 S F;clear S F Q j
   by_cases c2:200<m
   .have V:decide (200<(m:Int))=true:=by simp; omega
    clear c2;go_wp2_with fail;go_ret;exact NoR.of (fun h=>by cases h) (s.o.on y.o)
   have V:decide (200<(m:Int))=false:=by simp; omega
   have C:=kp c2;clear c2;go_wp2_with fail;go_roundw
   case rel=>
    refine⟨k+1,by omega,by go_num,fun v d=>?_,y.o⟩;rw[J.a]at d;rcases dF.1 d with d|d
    .exact I.o v d
    .rw[bQ.1 d,J.B]; have:=C.o; omega
   case measure=>simp[intOf]; omega
  .obtain rfl:n=k:=by omega
   have C:=kp c1;clear c1;go_wp2_with fail;go_ret;exact NoR.of (fun _=>⟨E.a rfl,by have:=C.o; have:=g.b; omega,fun v d=>I.o v (by rw[cN (by have:=g.b; omega)]; exact d)⟩) (s.o.on y.o)
structure MgV where
 (kind src dst view normal number base commit:Int) (es:List En) (ev:Value) (offset total:Int) (data:ByteArray) (seq:Int) (op:Opn) (code value:Int) (ok:Bool)
def MgV.cells(p:MgV):List Value:=[.i p.kind,.i p.src,.i p.dst,.i p.view,.i p.normal,.i p.number,.i p.base,.i p.commit,p.ev,.i p.offset,.i p.total,.string p.data,.i p.seq]++p.op.cells++[.i p.code,.i p.value,.bool p.ok]
def MgV.x(p:MgV):Mg:=⟨p.kind,p.src,p.dst,p.view,p.normal,p.number,p.base,p.commit,p.es,p.offset,p.total,p.data,p.seq,p.op,p.code,p.value,p.ok⟩
def zD:MgV:=⟨0,0,0,0,0,0,0,0,[],.slice none 0 0,0,0,⟨#[]⟩,0,pV,0,0,false⟩
structure SmR(p:RpV):Prop where
 v:SmV p.votes p.k
 s:SmH p.s.p.x∧p.s.rows.length≤1000
 starts:p.starts.length≤100
 acks:p.acks.length≤100
 data:p.part.data.size≤100000
theorem Mv(p:RpV)(ps:List ObV)(B:Nat)(w:World)(h:eO w B p ps)(q:B≤w.heap.size):
  Calls prog 6 #[.agg p.cells.toArray,.agg zD.cells.toArray] w (NoR w (SmR p)):=by
 obtain⟨W1,d0,f,Q,z1⟩:=par w 39 p.cells;obtain⟨O,e0,Z,G,z2⟩:=par W1 55 zD.cells;have D:=f.grow G;have j:=Q.on G;have r:=kp j;have i:=h.below j q;have b0:=kp (aAc p.vv p.votes p.k B O i.2.2.2.1 i.1 (aB q j.size));have a0:=kp (fun(W:World)(R:Bw' O W)=>Vj p.s ps B W (i.2.1.below R (aB q j.size)) (aB (aB q j.size) R.size));have Y:=D.cell 19;rw[RpV.c19]at Y;have l2:=D.loadOff (P:=prog) 2 5 p.k.cells rfl rfl;have F:=k'2 D Z;obtain⟨A1,c1,L,-,-,-⟩:=i.2.2.1;obtain⟨A3,c3,M,-,-,-⟩:=i.2.2.2.2;obtain⟨z,J⟩:∃n,p.starts.length=n:=⟨_,rfl⟩
 obtain⟨A,K⟩:∃n,p.acks.length=n:=⟨_,rfl⟩
 obtain⟨m,U⟩:=nm' p.part.data.size;rw[J]at L;rw[K]at M;have x:=k'5 L M J K U;clear D Z f Q G z1 z2 j i h q L M J K;go_enter func6,ntmps6;go_wp2_with fail;refine (b0.o).mono ?_;rintro e w3 ⟨r3,rfl,V,S⟩;have l:=k'2 V S;clear V S l2 Y d0 e0
 cases r3
 case true=>
  go_wp2_with fail;go_ret;exact NoR.of (fun h=>by cases h) (r.o.on l.B)
 have l8:=(F.a.grow l.B).loadOff (P:=prog) 8 9 p.s.cells rfl rfl;go_wp2_with fail;refine (a0.o w3 l.B).mono ?_;rintro e w4 ⟨r4,rfl,X,T⟩;have g:=k'2 X (l.B.on T);clear X T l8
 cases r4
 case true=>
  go_wp2_with fail;go_ret;exact NoR.of (fun h=>by cases h) (r.o.on g.B)
 have f:=F.a.grow g.B;have N:=F.B.grow g.B;have j0:=f.cell 18;rw[RpV.c18,x.a]at j0;have l0:=f.cell 20;rw[RpV.c20,x.b]at l0;have m0:=f.cell 25;change _=some (Value.string p.part.data)at m0;have j8:=N.cell 8;change _=some (Value.slice none 0 0)at j8;have g0:=N.cell 11;change _=some (Value.string ⟨#[]⟩)at g0;clear f N;rcases mJ 100 z with c1|c1
 case' inr=>
  rcases mJ 100 A with c3|c3
  case' inr=>
   rcases mJ 100000 m with c5|c5
 case inr.inr.inr=>
  have H:decide (100<(z:Int))=false:=by simp; omega
  have y:decide (100<(A:Int))=false:=by simp; omega
  have I:decide (100000<(m:Int))=false:=by simp; omega
  have E:=k'4 c1 c3 c5 U;clear c1 c3 c5;go_wp2_with fail;go_ret;exact NoR.of (fun _=>⟨l.a rfl,g.a rfl,by have:=E.a; have:=x.c; omega,by have:=E.b; have:=x.d; omega,by have:=E.C; omega⟩) (r.o.on g.B)
 all_goals
  have H:decide (100<(z:Int))=decide (100<z):=by exact decide_eq_decide.2 (by omega)
  first
  |rw[bY c1]at H
  |rw[aX (Nat.not_lt.2 c1)]at H
  have y:decide (100<(A:Int))=decide (100<A):=by exact decide_eq_decide.2 (by omega)
  first
  |rw[bY c3]at y
  |rw[aX (Nat.not_lt.2 c3)]at y
  |clear y
  have I:decide (100000<(m:Int))=decide (100000<m):=by exact decide_eq_decide.2 (by omega)
  first
  |rw[bY c5]at I
  |clear I
  go_wp2_with fail;go_ret;exact NoR.of (fun h=>by cases h) (r.o.on g.B)
end
section
attribute [-go_sem] loadCellsFrom storeCells run_eql_struct run_neq_struct
attribute [local go_sem] bC
theorem aAd(p q:RpV):decide (p.x=q.x)=(decide (p.id=q.id)&&(decide (p.nodes=q.nodes)&&(decide (p.commit=q.commit)&&(decide (p.timer=q.timer)&&(decide (p.part=q.part)&&(decide (p.starts=q.starts)&&
  (decide (p.k.x=q.k.x)&&(decide (p.s.x=q.s.x)&&(decide (p.votes.map (·.x)=q.votes.map (·.x))&&decide (p.acks=q.acks)))))))))):=by
 simp only[←Ad];refine decide_eq_decide.2 ?_;simp only[RpV.x,Rp.mk.injEq];exact⟨fun⟨a,b,c,d,e,f,g,h,i,j⟩=>⟨a,b,d,f,j,g,c,e,h,i⟩,fun⟨a,b,d,f,j,g,c,e,h,i⟩=>⟨a,b,c,d,e,f,g,h,i,j⟩⟩
theorem Ec(p q:RpV)(ps qs:List ObV)(B:Nat)(w:World)(h:eO w B p ps)(U:eO w B q qs)(C:B≤w.heap.size)(S:RpS p ps):
  Calls prog 10 #[.agg p.cells.toArray,.agg q.cells.toArray] w fun e w'=>e=.returned (.bool (decide (p.x=q.x)))∧Bw' w w':=by
 obtain⟨W1,e1,y1,R,z1⟩:=par w 39 p.cells;obtain⟨m,m1,n,D,z2⟩:=par W1 39 q.cells;have y:=R.on D;have i:=kp y;have j:=k'2 (y1.grow D) n;have d:=k'4 (h.below y C) (U.below y C) (aB C y.size) S;obtain⟨M,u0⟩:∃a,decide (p.id=q.id)=a:=⟨_,rfl⟩
 obtain⟨N,u1⟩:∃a,decide (p.nodes=q.nodes)=a:=⟨_,rfl⟩
 obtain⟨O,u2⟩:∃a,decide (p.commit=q.commit)=a:=⟨_,rfl⟩
 obtain⟨Q,u3⟩:∃a,decide (p.timer=q.timer)=a:=⟨_,rfl⟩
 obtain⟨a4,u4⟩:∃a,decide (p.part=q.part)=a:=⟨_,rfl⟩
 obtain⟨a5,u5⟩:∃a,decide (p.starts=q.starts)=a:=⟨_,rfl⟩
 obtain⟨d1,I⟩:∃a,decide (p.k.x=q.k.x)=a:=⟨_,rfl⟩
 obtain⟨d2,J⟩:∃a,decide (p.s.x=q.s.x)=a:=⟨_,rfl⟩
 obtain⟨d3,K⟩:∃a,decide (p.votes.map (·.x)=q.votes.map (·.x))=a:=⟨_,rfl⟩
 obtain⟨d4,L⟩:∃a,decide (p.acks=q.acks)=a:=⟨_,rfl⟩
 have E:=aAd p q;rw[u0,u1,u2,u3,u4,u5,I,J,K,L]at E;rw[E];have HI:=kp (u5▸De.2 p.sv q.sv p.starts q.starts B m d.a.2.2.1 d.b.2.2.1 (by have:=S.l.1; omega));have q0:=kp (fun(W:World)(g:Bw' m W)=>I▸Mt p.k q.k B W (Sl.below d.a.1 g d.c) (Sl.below d.b.1 g d.c) (aB d.c g.size) S.k.2.1);have y0:=kp (fun(W:World)(g:Bw' m W)=>J▸Kq p.s q.s ps qs B W (d.a.2.1.below g d.c) (d.b.2.1.below g d.c) (aB d.c g.size) (by have:=S.s.1.obs; omega) (by have:=S.s.1.free; omega) S.z (by have:=S.s.2.1; omega));have z0:=kp (fun(W:World)(g:Bw' m W)=>K▸aAa p.vv q.vv p.votes q.votes B W (d.a.2.2.2.1.below g d.c) (d.b.2.2.2.1.below g d.c) (aB d.c g.size) (by have:=S.l.2.1; omega) (fun v hv=>(S.v v hv).1));have p0:=kp (fun(W:World)(g:Bw' m W)=>L▸tS.2.1 p.av q.av p.acks q.acks B W (d.a.2.2.2.2.below g d.c) (d.b.2.2.2.2.below g d.c) (by have:=S.l.2.2; omega));have g0:(p.id != q.id)= !M:=by rw[←u0]; rfl
 have g1:(p.nodes != q.nodes)= !N:=by rw[←u1]; rfl
 have g2:(p.commit != q.commit)= !O:=by rw[←u2]; rfl
 have g3:(p.timer != q.timer)= !Q:=by rw[←u3]; rfl
 have T:=Wc p.part q.part m;rw[u4]at T;have r:=j.a;have k0:=r.cell 0;have k1:=r.cell 1;have k7:=r.cell 7;have e0:=r.cell 17;have l0:=r.cell 18;rw[RpV.c0]at k0;rw[RpV.c1]at k1;rw[RpV.c7]at k7;rw[RpV.c17]at e0;rw[RpV.c18]at l0;have V:=n.cell 0;have X:=n.cell 1;have j7:=n.cell 7;have Y:=n.cell 17;have Z:=n.cell 18;rw[RpV.c0]at V;rw[RpV.c1]at X;rw[RpV.c7]at j7;rw[RpV.c17]at Y;rw[RpV.c18]at Z;have A:=r.loadOff (P:=prog) 21 5 p.part.cells rfl rfl;have l2:=n.loadOff (P:=prog) 21 5 q.part.cells rfl rfl;clear E u0 u1 u2 u3 u4 u5 I J K L r n y1 R D y h U C S z1 z2;go_enter func10,ntmps10
 cases M
 case' true=>
  cases N
  case' true=>
   cases O
   case' true=>
    cases Q
    case' true=>
     cases a4
     case' true=>
      go_wp2_with fail;refine HI.o.mono ?_;rintro e w3 ⟨rfl,nd,rfl⟩;have i:=kp (gG i.o nd);have f:=kp (gG (aL m.heap.size m) nd);clear e1 m1 k0 k1 k7 e0 l0 V X j7 Y Z A l2 g0 g1 g2 g3 T
      cases a5
      case' true=>
       have A:=(j.a.grow f.o).loadOff (P:=prog) 2 5 p.k.cells rfl rfl;have l2:=(j.B.grow f.o).loadOff (P:=prog) 2 5 q.k.cells rfl rfl;go_wp2_with fail;refine mb' (q0.o _ f.o) fun w4 F=>?_;have i:=kp (i.o.on F);have f:=kp (f.o.on F);clear F A l2
       cases d1
       case' true=>
        have A:=(j.a.grow f.o).loadOff (P:=prog) 8 9 p.s.cells rfl rfl;have l2:=(j.B.grow f.o).loadOff (P:=prog) 8 9 q.s.cells rfl rfl;go_wp2_with fail;refine mb' (y0.o _ f.o) fun w5 G=>?_;have i:=kp (i.o.on G);have f:=kp (f.o.on G);clear G A l2
        cases d2
        case' true=>
         have m0:=(j.a.grow f.o).cell 19;have b0:=(j.B.grow f.o).cell 19;rw[RpV.c19]at m0;rw[RpV.c19]at b0;go_wp2_with fail;refine mb' (z0.o _ f.o) fun w6 H=>?_;have i:=kp (i.o.on H);have f:=kp (f.o.on H);clear H m0 b0
         cases d3
         case' true=>
          have o0:=(j.a.grow f.o).cell 20;have d0:=(j.B.grow f.o).cell 20;rw[RpV.c20]at o0;rw[RpV.c20]at d0;go_wp2_with fail;refine (p0.o _ f.o).mono ?_;rintro e w7 ⟨rfl,o1,rfl⟩;have i:=kp (gG i.o o1);clear o0 d0
 all_goals
  go_wp2_with fail;go_ret;exact⟨rfl,i.o⟩
end
section
attribute [-go_sem] loadCellsFrom storeCells run_eql_struct run_neq_struct
attribute [local go_sem] bC
def KpV.own(p:KpV)(v:Value):KpV:=⟨p.view,p.normal,p.base,p.image,p.es,v⟩
def VoV.own(p:VoV)(v:Value):VoV:=⟨p.node,p.normal,p.base,p.number,p.commit,p.es,v⟩
def MgV.own(p:MgV)(v:Value):MgV:=⟨p.kind,p.src,p.dst,p.view,p.normal,p.number,p.base,p.commit,p.es,v,p.offset,p.total,p.data,p.seq,p.op,p.code,p.value,p.ok⟩
theorem nV{p:MgV}(h:p.ev.oneCell'=true):∀u∈p.cells,u.oneCell'=true:=by
 intro u a;simp only[MgV.cells,Opn.cells,aW,aT,bA,dW,or_false]at a;rcases a with rfl|rfl|rfl|rfl|rfl|rfl|rfl|rfl|rfl|rfl|rfl|rfl|rfl|rfl|rfl|rfl|rfl|rfl|rfl|rfl|rfl|rfl|rfl<;>first |rfl|exact h
theorem mW{p:KpV}(h:p.ev.oneCell'=true):∀u∈p.cells,u.oneCell'=true:=by
 intro u a;simp only[KpV.cells,bA,dW,or_false]at a;rcases a with rfl|rfl|rfl|rfl|rfl<;>first |rfl|exact h
theorem Ed{p:VoV}(h:p.ev.oneCell'=true):∀u∈p.cells,u.oneCell'=true:=by
 intro u a;simp only[VoV.cells,bA,dW,or_false]at a;rcases a with rfl|rfl|rfl|rfl|rfl|rfl<;>first |rfl|exact h
theorem uA:(∀(p:KpV)(B:Nat)(w:World)(h:Sl w B p.ev En.cells p.es)(K:B≤w.heap.size)(M:p.es.length≤1000000),Calls prog 7 #[.agg p.cells.toArray] w fun e o=>∃v,e=.returned (.agg (p.own v).cells.toArray)∧Ow o w.heap.size 46 11 v En.cells p.es∧Bw' w o)∧(∀(p:VoV)(B:Nat)(w:World)(h:Sl w B p.ev En.cells p.es)(K:B≤w.heap.size)(M:p.es.length≤1000000),Calls prog 55 #[.agg p.cells.toArray] w fun e o=>∃v,e=.returned (.agg (p.own v).cells.toArray)∧Ow o w.heap.size 46 11 v En.cells p.es∧Bw' w o)∧(∀(p:MgV)(B:Nat)(w:World)(h:Sl w B p.ev En.cells p.es)(K:B≤w.heap.size)(M:p.es.length≤1000000),Calls prog 110 #[.agg p.cells.toArray] w fun e o=>∃v,e=.returned (.agg (p.own v).cells.toArray)∧Ow o w.heap.size 46 11 v En.cells p.es∧Bw' w o):=by
 refine⟨?q0,?q1,?q2⟩
 case' q0=>have f:=True.intro
 case' q1=>have g:=True.intro
 all_goals
  intro p B w h K M
  first
  |(have:=f; obtain⟨H,a0,U,Q,V⟩:=par w 24 p.cells)
  |(have:=g; obtain⟨H,a0,U,Q,V⟩:=par w 84 p.cells)
  |obtain⟨H,a0,U,Q,V⟩:=par w 55 p.cells
  first
  |(have:=f; obtain⟨q,b0,T,I,z2⟩:=par H 24 z'8)
  |(have:=g; obtain⟨q,b0,T,I,z2⟩:=par H 84 z'6)
  |obtain⟨q,b0,T,I,z2⟩:=par H 55 z'7
  have O:=U.grow I;have R:=Q.on I;have Z:=Sl.below h R K;have n:=k'4 O T R V;obtain⟨A,c,E,-,-,-⟩:=h;obtain⟨m,Y⟩:=nm' p.es.length;rw[Y]at E M;rw[E]at Z
  first
  |(have:=f; have l:=O.cell 4)
  |(have:=g; have l:=O.cell 5)
  |have l:=O.cell 8
  first
  |(have:=f; rw[show p.cells[4]? =some p.ev from rfl,E]at l)
  |(have:=g; rw[show p.cells[5]? =some p.ev from rfl,E]at l)
  |rw[show p.cells[8]? =some p.ev from rfl,E]at l
  have z:=k'4 Z Y M (aB K R.size);clear O T U Q I z2 R Z E Y
  first |go_enter func7,ntmps7|go_enter func55,ntmps55|go_enter func110,ntmps110
  go_wp2_with (at_builtin; refine eU (enc:=En.cells) q rfl (.tmp 4) (.tmp 6) 22 rfl q.heap.size 46 Ch wO rfl (by omega) eL (Ow.nil _ _ _ _ _) rfl z.a rfl (fun a _=>nI a) ?_ ?_ (aD _) ?_)
  .have:=z.b; have:=z.c; unfold maxLen; simp; omega
  .have:=z.b; have:=z.c; simp; omega
  intro v s r hg;have C:Bw' q s:=Ow.grew (Ow.nil q q.heap.size 46 11 En.cells) hg (aD _);obtain⟨d,c5,hv,-⟩:=r.sl eL;rw[z.b]at hv;subst hv;have j:=n.a.grow C
  first
  |(have:=f; have l:=j.cell 4)
  |(have:=g; have l:=j.cell 5)
  |have l:=j.cell 8
  first
  |(have:=f; have f4:=j.frozen 4)
  |(have:=g; have f4:=j.frozen 5)
  |have f4:=j.frozen 8
  change _=some p.ev at l
  first
  |(have:=f; have x:Blk _ _ _ (p.own (.slice d m c5)).cells:=j.setCell 4 (.slice d m c5))
  |(have:=g; have x:Blk _ _ _ (p.own (.slice d m c5)).cells:=j.setCell 5 (.slice d m c5))
  |have x:Blk _ _ _ (p.own (.slice d m c5)).cells:=j.setCell 8 (.slice d m c5)
  first
  |(have:=f; have c4:=(Chg.refl (fun i=>i=w.heap.size) s).setCell (.inr rfl) 4 (.slice d m c5))
  |(have:=g; have c4:=(Chg.refl (fun i=>i=w.heap.size) s).setCell (.inr rfl) 5 (.slice d m c5))
  |have c4:=(Chg.refl (fun i=>i=w.heap.size) s).setCell (.inr rfl) 8 (.slice d m c5)
  have S:=r.chg c4 fun i L e=>r.ne_blk j (by decide) (e▸L);have F:=(n.b.grow C).chg c4 (by have:=n.D; omega)
  first
  |(have:=f; obtain⟨W4,W⟩:=nm' (s.setCell ⟨w.heap.size,4,none⟩ (.slice d m c5)))
  |(have:=g; obtain⟨W4,W⟩:=nm' (s.setCell ⟨w.heap.size,5,none⟩ (.slice d m c5)))
  |obtain⟨W4,W⟩:=nm' (s.setCell ⟨w.heap.size,8,none⟩ (.slice d m c5))
  rw[W]at x c4 S F
  first
  |(have:=f; have l4:=x.load (P:=prog) (k:=5) rfl)
  |(have:=g; have l4:=x.load (P:=prog) (k:=6) rfl)
  |have l4:=x.load (P:=prog) (k:=23) rfl
  first
  |(have:=f; obtain⟨W5,X,s5,G,J⟩:=F.put (p.own (.slice d m c5)).cells rfl (mW r.one))
  |(have:=g; obtain⟨W5,X,s5,G,J⟩:=F.put (p.own (.slice d m c5)).cells rfl (Ed r.one))
  |obtain⟨W5,X,s5,G,J⟩:=F.put (p.own (.slice d m c5)).cells rfl (nV r.one)
  first
  |(have:=f; have N:=G.load (P:=prog) (k:=5) rfl)
  |(have:=g; have N:=G.load (P:=prog) (k:=6) rfl)
  |have N:=G.load (P:=prog) (k:=23) rfl
  have aS:=c4.below (B:=w.heap.size) (fun i L=>by omega) (n.c.on C).size;have y:=k'2 ((S.chg J fun i L e=>S.ne_blk F (by decide) (e▸L)).mono n.c.size) (((n.c.on C).trans aS).trans (J.below (B:=w.heap.size) (fun i L=>by have:=n.D; omega) ((n.c.on C).trans aS).size));clear C r hg j x c4 S F X G J aS V;go_wp2_with fail
  first
  |(have:=f; exact aU (v:=.agg (p.own (.slice d m c5)).cells.toArray) (by simp[results,results7,go_sem,N]) rfl ⟨.slice d m c5,rfl,y.a,y.B⟩)
  |(have:=g; exact aU (v:=.agg (p.own (.slice d m c5)).cells.toArray) (by simp[results,results55,go_sem,N]) rfl ⟨.slice d m c5,rfl,y.a,y.B⟩)
  |exact aU (v:=.agg (p.own (.slice d m c5)).cells.toArray) (by simp[results,results110,go_sem,N]) rfl ⟨.slice d m c5,rfl,y.a,y.B⟩
end
end Go.Proofs.YtdoopoapbffpbaaGreat
