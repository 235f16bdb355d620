import Derived.Test.YtdoopoapbffpbaaGreatZ41
namespace Go.Proofs.YtdoopoapbffpbaaGreat
open Go.RowKit Go.Proofs.Tryz
set_option maxRecDepth 100000
set_option maxHeartbeats 12800000
set_option linter.unusedVariables false
set_option linter.unusedSimpArgs false
section
attribute [-go_sem] run_eql_struct run_neq_struct
theorem aAf(a b c d:Int)(w:World):Sem.run prog (binOp .eql 53 (.agg #[.i a,.i b]) (.agg #[.i c,.i d])) w=.ok (.bool (decide (a=c)&&decide (b=d))) w:=by
 have f:prog.underlying 53=some (.struct (prog.fieldsOf 53)):=by kernel_rfl
 have g:prog.stoodInHeld 53=false:=by kernel_rfl
 rw[run_eql_struct,show (10000:Nat)=9999+1 from rfl,run_equalIn_agg w 9999 _ _ _ f g];simp only[Program.fieldsOf,underlying53];clear f g
 go_simp
 by_cases e:a=c
 case neg=>simp[e]
 by_cases h:b=d<;>simp[e,h]
theorem aAg(a b:En)(w:World):Sem.run prog (binOp .eql 46 (.agg a.cells.toArray) (.agg b.cells.toArray)) w=.ok (.bool (decide (a=b))) w:=by
 have h:=Dd a b w;simp only[binOp,Sem.run_bind]at h ⊢
 revert h
 cases (Op.equal 46 (.agg a.cells.toArray) (.agg b.cells.toArray)).run prog w with
 |ok x c=>intro h; simp[Result.andThen]at h ⊢; simp[h]
 |halt x c=>intro h; simp[Result.andThen]at h
attribute [-go_sem] loadCellsFrom storeCells
attribute [local go_sem] bC
theorem aAh(p q:RcV):decide (p.x=q.x)=(decide (p.kind=q.kind)&&(decide (p.view=q.view)&&(decide (p.src=q.src)&&(decide (p.number=q.number)&&(decide (p.image=q.image)&&(decide (p.entry=q.entry)&&decide (p.es=q.es))))))):=by
 simp only[←Ad];refine decide_eq_decide.2 ?_;simp only[RcV.x,Rc.mk.injEq]
theorem aAi(p q:RcV)(B:Nat)(w:World)(h:Sl w B p.ev En.cells p.es)(C:Sl w B q.ev En.cells q.es)(k:B≤w.heap.size)(D:p.es.length≤1000000):
  Calls prog 163 #[.agg p.cells.toArray,.agg q.cells.toArray] w fun e Z=>e=.returned (.bool (decide (p.x=q.x)))∧Bw' w Z:=by
 obtain⟨G,J,E,A,z1⟩:=par w 48 p.cells;obtain⟨m,K,d,i,z2⟩:=par G 48 q.cells;have c:=E.grow i;have f:=A.on i;have g:=kp f;obtain⟨n,u0⟩:∃a,decide (p.kind=q.kind)=a:=⟨_,rfl⟩
 obtain⟨r,u1⟩:∃a,decide (p.view=q.view)=a:=⟨_,rfl⟩
 obtain⟨s,u2⟩:∃a,decide (p.src=q.src)=a:=⟨_,rfl⟩
 obtain⟨y,u3⟩:∃a,decide (p.number=q.number)=a:=⟨_,rfl⟩
 obtain⟨z,u4⟩:∃a,decide (p.image=q.image)=a:=⟨_,rfl⟩
 obtain⟨H,u5⟩:∃a,decide (p.entry=q.entry)=a:=⟨_,rfl⟩
 obtain⟨b,j⟩:=nm' (decide (p.es=q.es));have l:=aAh p q;rw[u0,u1,u2,u3,u4,u5,j]at l;rw[l];have F:=kp (by have:=tS.2.2 p.ev q.ev p.es q.es B m (Sl.below h f k) (Sl.below C f k) D; rw[j]at this; exact this);have g0:(p.kind==q.kind)=n:=u0;have S:=c.cell 0;change _=some (Value.i p.kind)at S;have L:=d.cell 0;change _=some (Value.i q.kind)at L;have g1:(p.view==q.view)=r:=u1;have T:=c.cell 1;change _=some (Value.i p.view)at T;have M:=d.cell 1;change _=some (Value.i q.view)at M;have g2:(p.src==q.src)=s:=u2;have U:=c.cell 2;change _=some (Value.i p.src)at U;have N:=d.cell 2;change _=some (Value.i q.src)at N;have g3:(p.number==q.number)=y:=u3;have V:=c.cell 3;change _=some (Value.i p.number)at V;have O:=d.cell 3;change _=some (Value.i q.number)at O;have g4:(p.image.toList==q.image.toList)=z:=by rw[yZ]; exact u4
 have W:=c.cell 4;change _=some (Value.string p.image)at W;have Q:=d.cell 4;change _=some (Value.string q.image)at Q;have I:=aAg p.entry q.entry m;rw[u5]at I;have k5:=c.loadOff (P:=prog) 5 11 p.entry.cells rfl rfl;have j5:=d.loadOff (P:=prog) 5 11 q.entry.cells rfl rfl;have X:=c.cell 16;have R:=d.cell 16;change _=some p.ev at X;change _=some q.ev at R;clear l j c d E A i f h C k D z1 z2 u0 u1 u2 u3 u4 u5;go_enter func163,ntmps163
 cases n
 case' true=>
  cases r
  case' true=>
   cases s
   case' true=>
    cases y
    case' true=>
     cases z
     case' true=>
      cases H
      case' true=>
       go_wp2_with fail;refine F.o.mono ?_;rintro e w3 ⟨rfl,Y,rfl⟩;have g:=kp (gG g.o Y);clear J K
 all_goals
  go_wp2_with fail;go_ret;exact⟨rfl,g.o⟩
theorem aAj(p q:MgV):decide (p.x=q.x)=(decide (p.kind=q.kind)&&(decide (p.src=q.src)&&(decide (p.dst=q.dst)&&(decide (p.view=q.view)&&(decide (p.normal=q.normal)&&(decide (p.number=q.number)&&(decide (p.base=q.base)&&(decide (p.commit=q.commit)&&(decide (p.offset=q.offset)&&(decide (p.total=q.total)&&(decide (p.data=q.data)&&(decide (p.seq=q.seq)&&(decide (p.op=q.op)&&((decide (p.code=q.code)&&decide (p.value=q.value))&&(decide (p.ok=q.ok)&&decide (p.es=q.es)))))))))))))))):=by
 simp only[←Ad];refine decide_eq_decide.2 ?_;simp only[MgV.x,Mg.mk.injEq];exact⟨fun⟨a,b,i,j,k,l,m,n,s,o,r,c,d,e,f,g,h⟩=>⟨a,b,i,j,k,l,m,n,o,r,c,d,e,⟨f,g⟩,h,s⟩,fun⟨a,b,i,j,k,l,m,n,o,r,c,d,e,⟨f,g⟩,h,s⟩=>⟨a,b,i,j,k,l,m,n,s,o,r,c,d,e,f,g,h⟩⟩
theorem aAk(p q:MgV)(B:Nat)(w:World)(h:Sl w B p.ev En.cells p.es)(S:Sl w B q.ev En.cells q.es)(l:B≤w.heap.size)(T:p.es.length≤1000000):
  Calls prog 164 #[.agg p.cells.toArray,.agg q.cells.toArray] w fun e w'=>e=.returned (.bool (decide (p.x=q.x)))∧Bw' w w':=by
 obtain⟨W,d0,U,R,z1⟩:=par w 55 p.cells;obtain⟨i,e0,d,j,z2⟩:=par W 55 q.cells;have c:=U.grow j;have f:=R.on j;have g:=kp f;obtain⟨D,u0⟩:∃a,decide (p.kind=q.kind)=a:=⟨_,rfl⟩
 obtain⟨E,u1⟩:∃a,decide (p.src=q.src)=a:=⟨_,rfl⟩
 obtain⟨I,u2⟩:∃a,decide (p.dst=q.dst)=a:=⟨_,rfl⟩
 obtain⟨J,u3⟩:∃a,decide (p.view=q.view)=a:=⟨_,rfl⟩
 obtain⟨K,u4⟩:∃a,decide (p.normal=q.normal)=a:=⟨_,rfl⟩
 obtain⟨L,u5⟩:∃a,decide (p.number=q.number)=a:=⟨_,rfl⟩
 obtain⟨M,u6⟩:∃a,decide (p.base=q.base)=a:=⟨_,rfl⟩
 obtain⟨N,u7⟩:∃a,decide (p.commit=q.commit)=a:=⟨_,rfl⟩
 obtain⟨O,A⟩:∃a,decide (p.offset=q.offset)=a:=⟨_,rfl⟩
 obtain⟨Q,C⟩:∃a,decide (p.total=q.total)=a:=⟨_,rfl⟩
 obtain⟨F,n⟩:∃a,decide (p.data=q.data)=a:=⟨_,rfl⟩
 obtain⟨G,r⟩:∃a,decide (p.seq=q.seq)=a:=⟨_,rfl⟩
 obtain⟨X,s⟩:∃a,decide (p.op=q.op)=a:=⟨_,rfl⟩
 obtain⟨Y,y⟩:∃a,(decide (p.code=q.code)&&decide (p.value=q.value))=a:=⟨_,rfl⟩
 obtain⟨H,z⟩:∃a,decide (p.ok=q.ok)=a:=⟨_,rfl⟩
 obtain⟨b,k⟩:=nm' (decide (p.es=q.es));have m:=aAj p q;rw[u0,u1,u2,u3,u4,u5,u6,u7,A,C,n,r,s,y,z,k]at m;rw[m];have V:=kp (by have:=tS.2.2 p.ev q.ev p.es q.es B i (Sl.below h f l) (Sl.below S f l) T; rw[k]at this; exact this);have g0:(p.kind==q.kind)=D:=u0;have k0:=c.cell 0;change _=some (Value.i p.kind)at k0;have j0:=d.cell 0;change _=some (Value.i q.kind)at j0;have g1:(p.src==q.src)=E:=u1;have k1:=c.cell 1;change _=some (Value.i p.src)at k1;have j1:=d.cell 1;change _=some (Value.i q.src)at j1;have g2:(p.dst==q.dst)=I:=u2;have k2:=c.cell 2;change _=some (Value.i p.dst)at k2;have j2:=d.cell 2;change _=some (Value.i q.dst)at j2;have g3:(p.view==q.view)=J:=u3;have k3:=c.cell 3;change _=some (Value.i p.view)at k3;have j3:=d.cell 3;change _=some (Value.i q.view)at j3;have g4:(p.normal==q.normal)=K:=u4;have k4:=c.cell 4;change _=some (Value.i p.normal)at k4;have j4:=d.cell 4;change _=some (Value.i q.normal)at j4;have g5:(p.number==q.number)=L:=u5;have k5:=c.cell 5;change _=some (Value.i p.number)at k5;have j5:=d.cell 5;change _=some (Value.i q.number)at j5;have g6:(p.base==q.base)=M:=u6;have k6:=c.cell 6;change _=some (Value.i p.base)at k6;have j6:=d.cell 6;change _=some (Value.i q.base)at j6;have g7:(p.commit==q.commit)=N:=u7;have k7:=c.cell 7;change _=some (Value.i p.commit)at k7;have j7:=d.cell 7;change _=some (Value.i q.commit)at j7;have g8:(p.offset==q.offset)=O:=A;have k8:=c.cell 9;change _=some (Value.i p.offset)at k8;have j8:=d.cell 9;change _=some (Value.i q.offset)at j8;have g9:(p.total==q.total)=Q:=C;have k9:=c.cell 10;change _=some (Value.i p.total)at k9;have j9:=d.cell 10;change _=some (Value.i q.total)at j9;have z0:(p.data.toList==q.data.toList)=F:=by rw[yZ]; exact n
 have p0:=c.cell 11;change _=some (Value.string p.data)at p0;have l0:=d.cell 11;change _=some (Value.string q.data)at l0;have d1:(p.seq==q.seq)=G:=r;have q0:=c.cell 12;change _=some (Value.i p.seq)at q0;have m0:=d.cell 12;change _=some (Value.i q.seq)at m0;have Z:=Jw p.op q.op i;rw[s]at Z;have o1:=c.loadOff (P:=prog) 13 7 p.op.cells rfl rfl;have l1:=d.loadOff (P:=prog) 13 7 q.op.cells rfl rfl;have b0:=aAf p.code p.value q.code q.value i;rw[y]at b0;have p1:=c.loadOff (P:=prog) 20 2 [.i p.code,.i p.value] rfl rfl;have m1:=d.loadOff (P:=prog) 20 2 [.i q.code,.i q.value] rfl rfl;have e1:(p.ok==q.ok)=H:=by rw[←z]; cases p.ok<;>cases q.ok<;>rfl
 have y0:=c.cell 22;change _=some (Value.bool p.ok)at y0;have o0:=d.cell 22;change _=some (Value.bool q.ok)at o0;have kv:=c.cell 8;have jv:=d.cell 8;change _=some p.ev at kv;change _=some q.ev at jv;clear m k c d U R j f h S l T z1 z2 u0 u1 u2 u3 u4 u5 u6 u7 A C n r s y z;go_enter func164,ntmps164
 cases D
 case' true=>
  cases E
  case' true=>
   cases I
   case' true=>
    cases J
    case' true=>
     cases K
     case' true=>
      cases L
      case' true=>
       cases M
       case' true=>
        cases N
        case' true=>
         cases O
         case' true=>
          cases Q
          case' true=>
           cases F
           case' true=>
            cases G
            case' true=>
             cases X
             case' true=>
              cases Y
              case' true=>
               cases H
               case' true=>
                go_wp2_with fail;refine V.o.mono ?_;rintro e w3 ⟨rfl,nd,rfl⟩;have g:=kp (gG g.o nd);clear d0 e0
 all_goals
  go_wp2_with fail;go_ret;exact⟨rfl,g.o⟩
theorem nW(p:RcV):p.cells.length=17:=rfl
theorem fF(p:MgV):p.cells.length=23:=rfl
theorem Mx:(∀(L M:Value)(f j:List RcV)(B:Nat)(w:World)(N:(Sl w B L RcV.cells f∧∀p∈f,Sl w B p.ev En.cells p.es))(O:(Sl w B M RcV.cells j∧∀p∈j,Sl w B p.ev En.cells p.es))(S:B≤w.heap.size)(hn:f.length≤1000000)(T:∀v∈f,v.es.length≤1000000),Calls prog 113 #[L,M] w fun e w'=>e=.returned (.bool (decide (f.map (·.x)=j.map (·.x))))∧Bw' w w')∧(∀(L M:Value)(f j:List MgV)(B:Nat)(w:World)(N:(Sl w B L MgV.cells f∧∀p∈f,Sl w B p.ev En.cells p.es))(O:(Sl w B M MgV.cells j∧∀p∈j,Sl w B p.ev En.cells p.es))(S:B≤w.heap.size)(hn:f.length≤1000000)(T:∀v∈f,v.es.length≤1000000),Calls prog 114 #[L,M] w fun e w'=>e=.returned (.bool (decide (f.map (·.x)=j.map (·.x))))∧Bw' w w'):=by
 refine⟨?q0,?q1⟩
 case' q0=>have K:=True.intro
 all_goals
  intro L M f j B w N O S hn T;obtain⟨R,Y⟩:∃R,decide (f.map (·.x)=j.map (·.x))=R:=⟨_,rfl⟩
  rw[Y];have U:=k'3 N.2 O.2 T;obtain⟨A,c,rfl,I,-,-⟩:=N.1;obtain⟨A',c',rfl,p0,-,-⟩:=O.1;obtain⟨n,D⟩:=nm' f.length;obtain⟨m,Z⟩:=nm' j.length;rw[D]at hn ⊢;rw[Z];have G:=k'3 Y D Z;have g:=k'3 I p0 S;clear Y D Z I p0 S N O T
  by_cases Q:n=m
  .have c1:((n:Int) != (m:Int))=false:=by simp[Q]
   have V:=kp Q;clear Q
   first |go_enter func113,ntmps113|go_enter func114,ntmps114
   go_wp2_with fail;clear c1
   go_loopw [5] (fun i wr=>∃k:Nat,k≤n∧i=.i k∧(f.take k).map (·.x)=(j.take k).map (·.x)∧Bw' w wr) (fun i _=>n-(intOf i).toNat)
   case atStart=>exact⟨0,by omega,rfl,by simp,.refl _ _⟩
   case round=>
    obtain⟨k,hk,rfl,hf,l0⟩:=hrel;have HF:=kp hf;have s:=kp l0;clear hf l0
    by_cases b1:k<n
    .have g3:(k:Int)<(n:Int):=by omega
     have g4:(k:Int)<(m:Int):=by have:=V.o; omega
     have z:k<f.length:=by have:=G.b; omega
     have F:k<j.length:=by have:=G.C; have:=V.o; omega
     first
     |(have:=K; obtain⟨b,e0,rfl,-,-,-⟩:=dB (P:=prog) 17 RcV.cells nW (by omega) g.a k z)
     |obtain⟨b,e0,rfl,-,-,-⟩:=dB (P:=prog) 23 MgV.cells fF (by omega) g.a k z
     first
     |(have:=K; obtain⟨X,g0,rfl,-,-,-⟩:=dB (P:=prog) 17 RcV.cells nW (by omega) g.b k F)
     |obtain⟨X,g0,rfl,-,-,-⟩:=dB (P:=prog) 23 MgV.cells fF (by omega) g.b k F
     first
     |
      have:=K;have lx:∀r:Blw wr,Sem.run prog (loadCellsFrom ⟨b,e0+k*17,none⟩ 0 17 #[]) r.w=.ok (RcV.cells f[k]).toArray r.w:=fun r=>by
       obtain⟨_,_,H,-,-,D⟩:=dB (P:=prog) 17 RcV.cells nW (by omega) (g.a.below (s.o.on r.h) g.C) k z
       cases H;exact D 0
     |
      have lx:∀r:Blw wr,Sem.run prog (loadCellsFrom ⟨b,e0+k*23,none⟩ 0 23 #[]) r.w=.ok (MgV.cells f[k]).toArray r.w:=fun r=>by
       obtain⟨_,_,H,-,-,D⟩:=dB (P:=prog) 23 MgV.cells fF (by omega) (g.a.below (s.o.on r.h) g.C) k z
       cases H;exact D 0
     first
     |
      have:=K;have ly:∀r:Blw wr,Sem.run prog (loadCellsFrom ⟨X,g0+k*17,none⟩ 0 17 #[]) r.w=.ok (RcV.cells j[k]).toArray r.w:=fun r=>by
       obtain⟨_,_,H,-,-,D⟩:=dB (P:=prog) 17 RcV.cells nW (by omega) (g.b.below (s.o.on r.h) g.C) k F
       cases H;exact D 0
     |
      have ly:∀r:Blw wr,Sem.run prog (loadCellsFrom ⟨X,g0+k*23,none⟩ 0 23 #[]) r.w=.ok (MgV.cells j[k]).toArray r.w:=fun r=>by
       obtain⟨_,_,H,-,-,D⟩:=dB (P:=prog) 23 MgV.cells fF (by omega) (g.b.below (s.o.on r.h) g.C) k F
       cases H;exact D 0
     have y0:f.take (k+1)=f.take k++[f[k]'z]:=cV z;have z0:j.take (k+1)=j.take k++[j[k]'F]:=cV F;have a0:=U.a _ (bK z);have b0:=U.b _ (bK F);have d0:=U.C _ (bK z);have m0:=eK z;have o0:=eK F;generalize f[k]'z=x at *;generalize j[k]'F=y at *;obtain⟨r,I⟩:=nm' (decide (x.x=y.x))
     first
     |(have:=K; have W:=kp (fun(q:Blw wr)=>I▸aAi x y w.heap.size q.w (Sl.more (Sl.below a0 (s.o.on q.h) g.C) g.C) (Sl.more (Sl.below b0 (s.o.on q.h) g.C) g.C) (s.o.on q.h).size d0))
     |have W:=kp (fun(q:Blw wr)=>I▸aAk x y w.heap.size q.w (Sl.more (Sl.below a0 (s.o.on q.h) g.C) g.C) (Sl.more (Sl.below b0 (s.o.on q.h) g.C) g.C) (s.o.on q.h).size d0)
     have J:=k'5 I y0 z0 m0 o0;clear y0 z0 a0 b0 d0 m0 o0 I z F;go_wp2_with fail;refine bJ (by kernel_rfl) (by kernel_rfl) ?_
     first
     |(have:=K; repeat (go_big_quiet_step ((go_at_call 163; refine bU (W.o _)))))
     |repeat (go_big_quiet_step ((go_at_call 164; refine bU (W.o _))))
     refine bH ?_;rintro W5 ⟨⟨_,j0⟩,rfl⟩;have s:=kp (s.o.on j0);clear j0 lx ly
     cases r
     case false=>
      obtain rfl:R=false:=by
       rw[←G.a];exact aX fun h=>by
        have h1:=bG (fun l=>l[k]?) h;simp only[wC,J.d,J.E,kL,Option.some.injEq]at h1;exact of_decide_eq_false J.a h1
      go_wp2_with fail;go_ret;exact⟨rfl,s.o⟩
     have a1:=bT J.a;have HX:=kp a1;clear a1;go_wp2_with fail;go_roundw
     case rel=>exact⟨k+1,by omega,by go_num,by rw[J.b,J.c,gC,gC,HF.o,kM,kM,HX.o],s.o⟩
     case measure=>simp[intOf]; omega
    .obtain rfl:n=k:=by omega
     obtain rfl:R=true:=by
      rw[←G.a];have:=HF.o;rw[cN (by have:=G.b; omega),cN (by have:=G.C; have:=V.o; omega)]at this;exact bY this
     go_wp2_with fail;go_ret;exact⟨rfl,s.o⟩
  .have c1:((n:Int) != (m:Int))=true:=by simp; omega
   obtain rfl:R=false:=by
    rw[←G.a];exact aX fun h=>Q (by have:=bG List.length h; simp at this; have:=G.b; have:=G.C; omega)
   clear Q
   first |go_enter func113,ntmps113|go_enter func114,ntmps114
   go_wp2_with fail;go_ret;exact⟨rfl,.refl _ _⟩
def sC(w:World)(B:Nat)(v:Value)(l:List RcV):Prop:=Sl w B v RcV.cells l∧∀p∈l,Sl w B p.ev En.cells p.es
def sD(w:World)(B:Nat)(v:Value)(l:List MgV):Prop:=Sl w B v MgV.cells l∧∀p∈l,Sl w B p.ev En.cells p.es
theorem sC.below{w c:World}{B C:Nat}{v:Value}{l:List RcV}(h:sC w B v l)(b:Below C w c)(a:B≤C):sC c B v l:=⟨h.1.below b a,fun p d=>(h.2 p d).below b a⟩
theorem sD.below{w c:World}{B C:Nat}{v:Value}{l:List MgV}(h:sD w B v l)(b:Below C w c)(a:B≤C):sD c B v l:=⟨h.1.below b a,fun p d=>(h.2 p d).below b a⟩
theorem My(r p s q:Value)(j n:List RcV)(i m:List MgV)(B:Nat)(w:World)(I:sC w B r j)(J:sD w B p i)(K:sC w B s n)(L:sD w B q m)(h:B≤w.heap.size)(P:j.length≤1000000)(Q:i.length≤1000000)(N:∀v∈j,v.es.length≤1000000)(O:∀v∈i,v.es.length≤1000000):
  Calls prog 65 #[.agg #[r,p],.agg #[s,q]] w fun e w'=>e=.returned (.bool (decide (j.map (·.x)=n.map (·.x))&&decide (i.map (·.x)=m.map (·.x))))∧Bw' w w':=by
 obtain⟨W1,a0,V,H,z1⟩:=par w 64 [r,p];obtain⟨G,b0,F,y,z2⟩:=par W1 64 [s,q];have D:=V.grow y;have f:=H.on y;have k:=kp f;have g:=k'5 D F (J.below f h) (L.below f h) (aB h f.size);obtain⟨a,z⟩:∃a,decide (j.map (·.x)=n.map (·.x))=a:=⟨_,rfl⟩
 obtain⟨b,A⟩:∃b,decide (i.map (·.x)=m.map (·.x))=b:=⟨_,rfl⟩
 rw[z,A];have X:=kp (z▸Mx.1 r s j n B G (I.below f h) (K.below f h) (aB h f.size) P N);have Y:=kp (fun(W:World)(C:Bw' G W)=>A▸Mx.2 p q i m B W (g.c.below C g.E) (g.d.below C g.E) (aB g.E C.size) Q O);have T:=D.cell 0;have R:=F.cell 0;simp only[aG]at T R;clear D F V H y f I J K L h P Q N O z1 z2 z A;go_enter func65,ntmps65;go_wp2_with fail;refine mb' (X.o) fun w3 l=>?_;have k:=kp (k.o.on l);have U:=(g.a.grow l).cell 1;have S:=(g.b.grow l).cell 1;simp only[aG,aK]at U S;have Z:=kp (Y.o w3 l);clear T R l a0 b0
 cases a
 case' true=>
  go_wp2_with fail;refine mb' (Z.o) fun w4 M=>?_;have k:=kp (k.o.on M);clear M U S
 all_goals
  go_wp2_with fail;go_ret;exact⟨rfl,k.o⟩
end
end Go.Proofs.YtdoopoapbffpbaaGreat
