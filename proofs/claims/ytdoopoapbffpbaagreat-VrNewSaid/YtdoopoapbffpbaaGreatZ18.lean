import Derived.Test.YtdoopoapbffpbaaGreatZ06
import Derived.Test.YtdoopoapbffpbaaGreatZ09
import Derived.Test.YtdoopoapbffpbaaGreatZ12
import Derived.Test.YtdoopoapbffpbaaGreatZ15
import Derived.Laws.StructEq
namespace Go.Proofs.YtdoopoapbffpbaaGreat
open Go.RowKit Go.Proofs.Tryz
set_option maxRecDepth 100000
set_option maxHeartbeats 12800000
set_option linter.unusedVariables false
set_option linter.unusedSimpArgs false
section
attribute [-go_sem] loadCellsFrom storeCells run_eql_struct run_neq_struct
attribute [local go_sem] bC
theorem dB{α:Type}{P:Program}{w:World}{B:Nat}{A:Option Addr}(k:Nat)(enc:α→List Value)(e:∀a,(enc a).length=k)(f:0<k){l:List α}(o:Rd w B A (aM enc l))(i:Nat)(m:i<l.length):
  ∃b c,A=some ⟨b,c,none⟩∧b<B∧(∀t u,(enc (l[i]))[t]? =some u→w.cell? ⟨b,c+i*k+t,none⟩=some u)∧
   ∀n,Sem.run P (loadCellsFrom ⟨b,c+i*k,none⟩ 0 k #[]) (w.drewN n)=.ok (enc (l[i])).toArray (w.drewN n):=by
 obtain⟨b,c,g,h,d,-⟩:=bV (P:=P) k e f o i m;refine⟨b,c,g,h,d,fun n=>?_⟩;have:=run_loadCells_list (P:=P) (w:=w.drewN n) ⟨b,c+i*k,none⟩ (enc (l[i])) (fun j v p=>by
  rw[Addr.add_lit];exact d j v p)
 rw[e]at this;simpa [loadCells] using this
theorem yF{α:Type}{P:Program}{w:World}{B:Nat}{A o:Option Addr}(k:Nat)(enc:α→List Value)(s:∀a,(enc a).length=k)(p:0<k){f g:List α}(D:Rd w B A (aM enc f))(E:Rd w B o (aM enc g))(i:Nat)(q:i<f.length)(r:i<g.length):
  ∃b j d m x y,A=some ⟨b,j,none⟩∧o=some ⟨d,m,none⟩∧(∀t u,(enc x)[t]? =some u→w.cell? ⟨b,j+i*k+t,none⟩=some u)∧(∀t u,(enc y)[t]? =some u→w.cell? ⟨d,m+i*k+t,none⟩=some u)∧
   (∀n,Sem.run P (loadCellsFrom ⟨b,j+i*k,none⟩ 0 k #[]) (w.drewN n)=.ok (enc x).toArray (w.drewN n))∧(∀n,Sem.run P (loadCellsFrom ⟨d,m+i*k,none⟩ 0 k #[]) (w.drewN n)=.ok (enc y).toArray (w.drewN n))∧
   (f.take (i+1)=f.take i++[x]∧g.take (i+1)=g.take i++[y]∧(x≠y→f≠g)):=by
 obtain⟨b,j,e,-,c,l⟩:=dB (P:=P) k enc s p D i q;obtain⟨d,m,C,-,z,l'⟩:=dB (P:=P) k enc s p E i r;exact⟨b,j,d,m,_,_,e,C,c,z,l,l',cV q,cV r,fun h e=>by subst e; exact h rfl⟩
theorem Dd(a b:En)(w:World):Sem.run prog (binOp .neq 46 (.agg a.cells.toArray) (.agg b.cells.toArray)) w=.ok (.bool (!decide (a=b))) w:=by
 obtain⟨p,q,s,x,y,z,A,B,C,D,r⟩:=a;obtain⟨E,F,H,I,J,K,L,M,N,O,G⟩:=b;simp only[En.cells,En.mk.injEq];have n:prog.underlying 46=some (.struct (prog.fieldsOf 46)):=by kernel_rfl
 have o:prog.stoodInHeld 46=false:=by kernel_rfl
 rw[run_neq_struct,show (10000:Nat)=9999+1 from rfl,run_equalIn_agg w 9999 _ _ _ n o];simp only[Program.fieldsOf,underlying46];clear n o
 go_simp
 by_cases c:¬p=E
 .simp[c]
 replace c:=dQ.1 c
 subst c
 by_cases d:¬q=F
 .simp[d]
 replace d:=dQ.1 d
 subst d
 by_cases f:¬s=H
 .simp[f]
 replace f:=dQ.1 f
 subst f
 by_cases g:¬x=I
 .simp[g]
 replace g:=dQ.1 g
 subst g
 by_cases h:¬y=J
 .simp[h]
 replace h:=dQ.1 h
 subst h
 by_cases i:¬z=K
 .simp[i]
 replace i:=dQ.1 i
 subst i
 by_cases j:¬A=L
 .simp[j]
 replace j:=dQ.1 j
 subst j
 by_cases k:¬B=M
 .simp[k]
 replace k:=dQ.1 k
 subst k
 by_cases l:¬C=N
 .simp[l]
 replace l:=dQ.1 l
 subst l
 by_cases m:¬D=O
 .simp[m]
 replace m:=dQ.1 m
 subst m
 by_cases e:¬r=G
 .simp[e]
 replace e:=dQ.1 e
 subst e;simp
theorem Kc(a b:Ak)(w:World):Sem.run prog (binOp .neq 92 (.agg a.cells.toArray) (.agg b.cells.toArray)) w=.ok (.bool (!decide (a=b))) w:=by
 obtain⟨g,h⟩:=a;obtain⟨i,j⟩:=b;simp only[Ak.cells,Ak.mk.injEq];have e:prog.underlying 92=some (.struct (prog.fieldsOf 92)):=by kernel_rfl
 have f:prog.stoodInHeld 92=false:=by kernel_rfl
 rw[run_neq_struct,show (10000:Nat)=9999+1 from rfl,run_equalIn_agg w 9999 _ _ _ e f];simp only[Program.fieldsOf,underlying92];clear e f
 go_simp
 by_cases c:¬g=i
 .simp[c]
 replace c:=dQ.1 c
 subst c
 by_cases d:¬h=j
 .simp[d]
 replace d:=dQ.1 d
 subst d;simp
theorem De:(∀(g j:Value)(d f:List Int)(B:Nat)(w:World)(G:Sl w B g i1 d)(I:Sl w B j i1 f)(J:d.length≤1000000),Calls prog 134 #[g,j] w fun e O=>e=.returned (.bool (decide (d=f)))∧∃q,O=w.drewN q)∧(∀(g j:Value)(d f:List Int)(B:Nat)(w:World)(G:Sl w B g i1 d)(I:Sl w B j i1 f)(J:d.length≤1000000),Calls prog 29 #[g,j] w fun e O=>e=.returned (.bool (decide (d=f)))∧∃q,O=w.drewN q):=by
 refine⟨?q0,?q1⟩
 all_goals
  intro g j d f B w G I J;obtain⟨A,c,rfl,L,-,-⟩:=G;obtain⟨Z,c',rfl,M,-,-⟩:=I;obtain⟨n,l⟩:=nm' d.length;obtain⟨Y,m⟩:=nm' f.length;rw[l]at J ⊢;rw[m];obtain⟨r,s⟩:=nm' (decide (d=f));rw[s];have Q:=kp s
  by_cases p:¬n=Y
  .have m0:((n:Int) != (Y:Int))=true:=by simp; omega
   have N:r=false:=by rw[←s]; exact aX fun h=>by rw[←l,←m,h]at p; exact p rfl
   subst N;clear l m L M s
   first |go_enter func134,ntmps134|go_enter func29,ntmps29
   go_wp2_with fail;go_ret;exact⟨rfl,0,rfl⟩
  replace p:=dQ.1 p
  subst p;have H:=k'4 L l M m;clear l m L M s
  first |go_enter func134,ntmps134|go_enter func29,ntmps29
  go_wp2_with fail
  go_loopw [5] (fun i wr=>∃k:Nat,k≤n∧i=.i k∧d.take k=f.take k∧∃q,wr=w.drewN q) (fun i _=>n-(intOf i).toNat)
  case atStart=>exact⟨0,by omega,rfl,by simp,0,rfl⟩
  case round=>
   obtain⟨k,hk,rfl,X,q,K⟩:=hrel;have E:=kp K;have R:=kp (show Rd wr B A (aM i1 d)∧Rd wr B Z (aM i1 f) from by rw[K]; exact⟨H.a.drewN q,H.c.drewN q⟩);have S:=kp X;clear K X
   by_cases l0:k<n
   .have g3:(k:Int)<(n:Int):=by omega
    have a0:k<d.length:=by have:=H.b; omega
    have b0:k<f.length:=by have:=H.D; omega
    obtain⟨b,o0,b',p0,x,y,rfl,rfl,V,W,d0,e0,U⟩:=yF (P:=prog) 1 i1 cS (by omega) R.a R.B k a0 b0;have F:=kp U;clear U;have x0:=V 0 _ rfl;have y0:=W 0 _ rfl;simp only[cF,oF]at x0 y0;clear V W d0 e0
    by_cases z:x=y
    .subst z;go_wp2_with fail
     go_quiet (fail)
     go_wp2_with fail;go_roundw
     case rel=>exact⟨k+1,by omega,by go_num,by rw[F.a,F.b,S.o],_,by rw[E.o,World.drewN_drewN]⟩
     case measure=>simp[intOf]; omega
    .have N:r=false:=by rw[←Q.o]; exact aX (F.C z)
     subst N;have j0:(x != y)=true:=by simp[z]
     clear z;go_wp2_with fail
     go_quiet (fail)
     go_wp2_with fail;go_ret;exact⟨rfl,_,by rw[E.o,World.drewN_drewN]⟩
   .obtain rfl:k=n:=by omega
    have g0:r=true:=by
     rw[←Q.o];have T:=S.o;rw[cN (by have:=H.b; omega),cN (by have:=H.D; omega)]at T;exact bY T
    subst g0;go_wp2_with fail;go_ret;exact⟨rfl,_,E.o⟩
theorem tS:(∀(g j:Value)(d f:List Bk)(B:Nat)(w:World)(K:Sl w B g Bk.cells d)(L:Sl w B j Bk.cells f)(M:d.length≤1000000),Calls prog 133 #[g,j] w fun e I=>e=.returned (.bool (decide (d=f)))∧∃q,I=w.drewN q)∧(∀(g j:Value)(d f:List Ak)(B:Nat)(w:World)(K:Sl w B g Ak.cells d)(L:Sl w B j Ak.cells f)(M:d.length≤1000000),Calls prog 32 #[g,j] w fun e I=>e=.returned (.bool (decide (d=f)))∧∃q,I=w.drewN q)∧(∀(g j:Value)(d f:List En)(B:Nat)(w:World)(K:Sl w B g En.cells d)(L:Sl w B j En.cells f)(M:d.length≤1000000),Calls prog 53 #[g,j] w fun e I=>e=.returned (.bool (decide (d=f)))∧∃q,I=w.drewN q):=by
 refine⟨?q0,?q1,?q2⟩
 case' q0=>have N:=True.intro
 case' q1=>have O:=True.intro
 all_goals
  intro g j d f B w K L M;obtain⟨A,c,rfl,X,-,-⟩:=K;obtain⟨Q,c',rfl,Y,-,-⟩:=L;obtain⟨n,s⟩:=nm' d.length;obtain⟨n',z⟩:=nm' f.length;rw[s]at M ⊢;rw[z];obtain⟨r,G⟩:=nm' (decide (d=f));rw[G];have HR:=kp G
  by_cases E:¬n=n'
  .have m0:((n:Int) != (n':Int))=true:=by simp; omega
   have Z:r=false:=by rw[←G]; exact aX fun h=>by rw[←s,←z,h]at E; exact E rfl
   subst Z;clear s z X Y G
   first |go_enter func133,ntmps133|go_enter func32,ntmps32|go_enter func53,ntmps53
   go_wp2_with fail;go_ret;exact⟨rfl,0,rfl⟩
  replace E:=dQ.1 E
  subst E;have H:=k'4 X s Y z;clear s z X Y G
  first |go_enter func133,ntmps133|go_enter func32,ntmps32|go_enter func53,ntmps53
  go_wp2_with fail
  go_loopw [5] (fun i wr=>∃k:Nat,k≤n∧i=.i k∧d.take k=f.take k∧∃q,wr=w.drewN q) (fun i _=>n-(intOf i).toNat)
  case atStart=>exact⟨0,by omega,rfl,by simp,0,rfl⟩
  case round=>
   obtain⟨k,hk,rfl,d0,q,F⟩:=hrel;have R:=kp F
   first
   |(have:=N; have l:=kp (show Rd wr B A (aM Bk.cells d)∧Rd wr B Q (aM Bk.cells f) from by rw[F]; exact⟨H.a.drewN q,H.c.drewN q⟩))
   |(have:=O; have l:=kp (show Rd wr B A (aM Ak.cells d)∧Rd wr B Q (aM Ak.cells f) from by rw[F]; exact⟨H.a.drewN q,H.c.drewN q⟩))
   |have l:=kp (show Rd wr B A (aM En.cells d)∧Rd wr B Q (aM En.cells f) from by rw[F]; exact⟨H.a.drewN q,H.c.drewN q⟩)
   have HT:=kp d0;clear F d0
   by_cases l0:k<n
   .have g3:(k:Int)<(n:Int):=by omega
    have V:k<d.length:=by have:=H.b; omega
    have W:k<f.length:=by have:=H.D; omega
    first
    |(have:=N; obtain⟨b,e0,b',g0,x,y,rfl,rfl,T,U,a0,b0,J⟩:=yF (P:=prog) 2 Bk.cells bM (by omega) l.a l.B k V W)
    |(have:=O; obtain⟨b,e0,b',g0,x,y,rfl,rfl,T,U,a0,b0,J⟩:=yF (P:=prog) 2 Ak.cells nH (by omega) l.a l.B k V W)
    |obtain⟨b,e0,b',g0,x,y,rfl,rfl,T,U,a0,b0,J⟩:=yF (P:=prog) 11 En.cells eL (by omega) l.a l.B k V W
    have S:=kp J;clear J;clear T U
    by_cases m:x=y
    .subst m
     first
     |(have:=N; have p:∀w:World,Sem.run prog (binOp .neq 88 (.agg x.cells.toArray) (.agg x.cells.toArray)) w=.ok (.bool false) w:=fun w=>by rw[pM.1 x x w]; simp)
     |(have:=O; have p:∀w:World,Sem.run prog (binOp .neq 92 (.agg x.cells.toArray) (.agg x.cells.toArray)) w=.ok (.bool false) w:=fun w=>by rw[Kc x x w]; simp)
     |have p:∀w:World,Sem.run prog (binOp .neq 46 (.agg x.cells.toArray) (.agg x.cells.toArray)) w=.ok (.bool false) w:=fun w=>by rw[Dd x x w]; simp
     go_wp2_with fail
     go_quiet (fail)
     go_wp2_with fail;go_roundw
     case rel=>exact⟨k+1,by omega,by go_num,by rw[S.a,S.b,HT.o],_,by rw[R.o,World.drewN_drewN]⟩
     case measure=>simp[intOf]; omega
    .have Z:r=false:=by rw[←HR.o]; exact aX (S.C m)
     subst Z
     first
     |(have:=N; have p:∀w:World,Sem.run prog (binOp .neq 88 (.agg x.cells.toArray) (.agg y.cells.toArray)) w=.ok (.bool true) w:=fun w=>by rw[pM.1 x y w,aX m]; rfl)
     |(have:=O; have p:∀w:World,Sem.run prog (binOp .neq 92 (.agg x.cells.toArray) (.agg y.cells.toArray)) w=.ok (.bool true) w:=fun w=>by rw[Kc x y w,aX m]; rfl)
     |have p:∀w:World,Sem.run prog (binOp .neq 46 (.agg x.cells.toArray) (.agg y.cells.toArray)) w=.ok (.bool true) w:=fun w=>by rw[Dd x y w,aX m]; rfl
     clear m;go_wp2_with fail
     go_quiet (fail)
     go_wp2_with fail;go_ret;exact⟨rfl,_,by rw[R.o,World.drewN_drewN]⟩
   .obtain rfl:k=n:=by omega
    have j0:r=true:=by
     rw[←HR.o];have h1:=HT.o;rw[cN (by have:=H.b; omega),cN (by have:=H.D; omega)]at h1;exact bY h1
    subst j0;go_wp2_with fail;go_ret;exact⟨rfl,_,R.o⟩
end
section
attribute [-go_sem] run_eql_struct run_neq_struct
theorem Kf(v:Value)(l:List Bk)(y:Bk)(B:Nat)(w:World)(h:Sl w B v Bk.cells l)(N:B≤w.heap.size)(hn:l.length≤1000000):
  Calls prog 257 #[v,.agg y.cells.toArray] w fun e d=>∃v',e=.returned v'∧Ow d w.heap.size 88 2 v' Bk.cells (eJ l y)∧Bw' w d:=by
 obtain⟨A,c,rfl,hr,hc,hm⟩:=h;obtain⟨n,T⟩:=nm' l.length;rw[T]at hc hn ⊢;have p:=ba' w (.cells #[.i y.a,.i y.o] 88);have F:=kp (Blk.new w 88 [.i y.a,.i y.o]);have b0:=kp (hr.below p N);have C:=kp p;have Z:=kp (aB N p.size);have G:=kp T;show Calls _ _ #[_,.agg #[.i y.a,.i y.o]] _ _;go_enter func257,ntmps257;go_wp2_with fail;generalize w.alloc (.cells #[.i y.a,.i y.o] 88)=W at *
 go_loopw [5,6] (fun v i wr=>∃k:Nat,k≤n∧i=.i k∧Ow wr W.heap.size 88 2 v Bk.cells (eJ (l.take k) y)∧Bw' W wr) (fun _ i _=>n-(intOf i).toNat)
 case atStart=>exact⟨0,by omega,rfl,Ow.nil _ _ _ _ _,aL _ _⟩
 case round=>
  obtain⟨k,hk,rfl,j0,Q⟩:=hrel;have I:=kp j0;have m:=kp Q;have S:=F.o.below Q F.o.lt;have y0:=aP (S.cell 0);have y1:=aP (S.cell 1)
  by_cases m0:k<n
  .have g3:(k:Int)<(n:Int):=by omega
   have s:k<l.length:=by have:=G.o; omega
   obtain⟨b,V,hA,_,R,_⟩:=bV (P:=prog) 2 bM (by omega) (b0.o.below m.o Z.o) k s;subst hA;have z:=aP (R 0 _ rfl);have X:=aP (R 1 _ rfl);simp only[cF]at z;have J:=kp (cV s);have H:=kp (show (eJ (l.take k) y).length≤1000000 from aB (nB _ _) (by rw[cZ]; omega));generalize l[k]'s=x at *;have e0:∀w,Sem.run prog (binOp .neq 88 (.agg #[.i x.a,.i x.o]) (.agg #[.i y.a,.i y.o])) w=.ok (.bool (!decide (x=y))) w:=fun w=>pM.1 x y w;have HC:=kp (fun d(h:Bw' wr d)=>(show d.cell? ⟨b,V+k*2,none⟩=some (.i x.a)∧d.cell? ⟨b,V+k*2+1,none⟩=some (.i x.o) from⟨z ⟨d,h⟩,X ⟨d,h⟩⟩))
   cases hyx:decide (x=y)
   all_goals
    rw[hyx]at e0;have L:=kp hyx;go_wp2_with fail;refine bJ (by kernel_rfl) (by kernel_rfl) ?_
    repeat (go_big_quiet_step (fail))
    refine bH ?_;rintro f ⟨⟨_,q⟩,rfl⟩;have K:=kp (I.o.below q);have j:=kp (m.o.on q);have E:=kp (HC.o f q)
   .have z:=E.a;have X:=E.B;have U:Sl (f.alloc (.cells #[.i x.a,.i x.o] 88)) (f.heap.size+1) (.slice (some ⟨f.heap.size,0,none⟩) 1 1) Bk.cells [x]:=eQ (enc:=Bk.cells) f 88 x;have O:=K.o.alloc (.cells #[.i x.a,.i x.o] 88);have r:=ba' f (.cells #[.i x.a,.i x.o] 88);obtain⟨M,d0⟩:=nm' (f.alloc (.cells #[.i x.a,.i x.o] 88));rw[d0]at U O r;have g:=k'4 U O r (show W.heap.size≤M.heap.size from aB (j.o.size) r.size);go_wp2_with (at_builtin; refine eU (enc:=Bk.cells) M rfl (.tmp 19) (.tmp 24) 27 rfl (W.heap.size) 88 jA fC rfl (by omega) bM g.b rfl g.a rfl (fun a _=>gU a) ?_ ?_ g.D ?_)
    .have:=H.o; unfold maxLen; (try simp); omega
    .have:=H.o; (try simp); omega
    intro v3 w3 l0 g0;have Y:=kp ((g.c.mono (j.o.size)).trans (g.b.grew g0 g.D));have a0:=kp l0;go_wp2_with fail;go_roundw
    case rel=>
     refine⟨k+1,by omega,by go_num,a0.o.eqv ?_,j.o.trans Y.o⟩;rw[J.o];unfold eJ;rw[oZ]
     congr 1
     rw[oA (by rw[L.o]; rfl)]; rfl
    case measure=>simp[intOf]; omega
   .go_wp2_with fail;go_roundw
    case rel=>
     refine⟨k+1,by omega,by go_num,K.o.eqv ?_,j.o⟩;rw[J.o];unfold eJ;rw[oZ,nA (by rw[L.o]; decide)];simp
    case measure=>simp[intOf]; omega
  .obtain rfl:k=n:=by omega
   go_wp2_with fail;go_ret;refine⟨_,rfl,(I.o.eqv (by rw[cN (by have:=G.o; omega)])).mono C.o.size,C.o.on m.o⟩
theorem Ur(v:Value)(l:List Bk)(y:Bk)(B:Nat)(w:World)(h:Sl w B v Bk.cells l)(G:B≤w.heap.size)(U:l.length≤1000000):
  Calls prog 275 #[v,.agg y.cells.toArray] w fun e X=>e=.returned (.bool (l.any fun x=>decide (x=y)))∧Bw' w X:=by
 obtain⟨A,c,rfl,V,R,hm⟩:=h;obtain⟨n,K⟩:=nm' l.length;obtain⟨r,L⟩:=nm' (l.any fun x=>decide (x=y));rw[K]at R U ⊢;rw[L];have D:=kp L;have j:=ba' w (.cells #[.i y.a,.i y.o] 88);have s:=kp (Blk.new w 88 [.i y.a,.i y.o]);have N:=kp (V.below j G);have m:=kp j;have M:=kp (aB G j.size);have C:=kp K;show Calls _ _ #[_,.agg #[.i y.a,.i y.o]] _ _;go_enter func275,ntmps275;go_wp2_with fail;generalize w.alloc (.cells #[.i y.a,.i y.o] 88)=W at *
 go_loopw [5] (fun i wr=>∃k:Nat,k≤n∧i=.i k∧(∀x∈l.take k,decide (x=y)=false)∧Bw' W wr) (fun i _=>n-(intOf i).toNat)
 case atStart=>exact⟨0,by omega,rfl,by simp,aL _ _⟩
 case round=>
  obtain⟨k,hk,rfl,T,H⟩:=hrel;have q:=kp T;have g:=kp H;have J:=s.o.below H s.o.lt;have y0:=aP (J.cell 0);have y1:=aP (J.cell 1)
  by_cases a0:k<n
  .have g3:(k:Int)<(n:Int):=by omega
   have f:k<l.length:=by have:=C.o; omega
   obtain⟨b,b0,O,_,I,_⟩:=bV (P:=prog) 2 bM (by omega) (N.o.below g.o M.o) k f;subst O;have Y:=aP (I 0 _ rfl);have x1:=aP (I 1 _ rfl);simp only[cF]at Y;have E:=k'2 (cV f) (bK f);generalize l[k]'f=x at *;have S:∀w,Sem.run prog (binOp .eql 88 (.agg #[.i x.a,.i x.o]) (.agg #[.i y.a,.i y.o])) w=.ok (.bool (decide (x=y))) w:=fun w=>pM.2 x y w
   cases hyx:decide (x=y)
   all_goals
    rw[hyx]at S;have F:=kp hyx;go_wp2_with fail;refine bJ (by kernel_rfl) (by kernel_rfl) ?_
    repeat (go_big_quiet_step (fail))
    refine bH ?_;rintro Z ⟨⟨_,Q⟩,rfl⟩;have p:=kp (g.o.on Q);go_wp2_with fail
   .go_roundw
    case rel=>
     refine⟨k+1,by omega,by go_num,fun z d=>?_,p.o⟩;rw[E.a]at d;rcases dF.1 d with d|d
     .exact q.o z d
     .rw[bQ.1 d]; exact F.o
    case measure=>simp[intOf]; omega
   .obtain rfl:r=true:=by rw[←D.o]; exact kZ.2 ⟨x,E.B,F.o⟩
    go_ret;exact⟨rfl,m.o.on p.o⟩
  .obtain rfl:k=n:=by omega
   obtain rfl:r=false:=by rw[←D.o]; exact pF.2 fun z d=>by rw[q.o z (by rw[cN (by have:=C.o; omega)]; exact d)]; decide
   go_wp2_with fail;go_ret;exact⟨rfl,m.o.on g.o⟩
theorem Dg(v:Value)(l:List Bk)(y:Bk)(B:Nat)(w:World)(h:Sl w B v Bk.cells l)(hB:B≤w.heap.size)(hn:l.length≤1000000):
  Calls prog 258 #[v,.agg y.cells.toArray] w fun e H=>∃v',e=.returned v'∧Ow H w.heap.size 88 2 v' Bk.cells (dL l y)∧Bw' w H:=by
 obtain⟨A,c,rfl,hr,hc,hm⟩:=h;obtain⟨n,hl⟩:=nm' l.length;rw[hl]at hc hn ⊢;have hb:=ba' w (.cells #[.i y.a,.i y.o] 88);have T:=kp (Blk.new w 88 [.i y.a,.i y.o]);have a1:=kp (hr.below hb hB);have O:=kp hb;have a0:=kp (aB hB hb.size);have HL:=kp hl;show Calls _ _ #[_,.agg #[.i y.a,.i y.o]] _ _;go_enter func258,ntmps258;go_wp2_with fail;generalize w.alloc (.cells #[.i y.a,.i y.o] 88)=W at *
 go_loopw [5,6,7] (fun v d i wr=>∃(k:Nat)(C:Bool)(s:List Bk),d=.bool C∧k≤n∧i=.i k∧Ow wr W.heap.size 88 2 v Bk.cells s∧Bw' W wr∧s.length≤k+1∧
  (C=false∧s=l.take k∧l.take k++dL (l.drop k) y=dL l y∨C=true∧s++l.drop k=dL l y)) (fun _ _ i _=>n-(intOf i).toNat)
 case atStart=>exact⟨0,false,[],rfl,by omega,rfl,Ow.nil _ _ _ _ _,aL _ _,by simp,.inl ⟨rfl,rfl,rfl⟩⟩
 case round=>
  obtain⟨k,C,s,rfl,hk,rfl,d1,j0,g1,e1⟩:=hrel;have b0:=kp d1;have g:=kp j0;have Q:=kp e1;have p0:=T.o.below j0 T.o.lt;have Y:=aP (p0.cell 0);have Z:=aP (p0.cell 1)
  by_cases j1:k<n
  .have g3:(k:Int)<(n:Int):=by omega
   have V:k<l.length:=by have:=HL.o; omega
   obtain⟨b,q0,hA,g0,m0,_⟩:=bV (P:=prog) 2 bM (by omega) (a1.o.below g.o a0.o) k V;subst hA;have X:=aP (m0 0 _ rfl);have x1:=aP (m0 1 _ rfl);simp only[cF]at X;have R:=k'2 (cV V) (fG V);generalize l[k]'V=x at *;have HC:=kp (fun H(h:Below W.heap.size wr H)=>(show H.cell? ⟨b,q0+k*2,none⟩=some (.i x.a)∧H.cell? ⟨b,q0+k*2+1,none⟩=some (.i x.o)∧H.cell? ⟨w.heap.size,0,none⟩=some (.i y.a)∧H.cell? ⟨w.heap.size,1,none⟩=some (.i y.o) from
    ⟨(h.cell (eA g0 a0.o)).trans (X ⟨wr,aL _ _⟩),(h.cell (eA g0 a0.o)).trans (x1 ⟨wr,aL _ _⟩),(h.cell T.o.lt).trans (Y ⟨wr,aL _ _⟩),(h.cell T.o.lt).trans (Z ⟨wr,aL _ _⟩)⟩))
   have b1:C=true∨C=false∧decide (y.a<x.a)=false∨C=false∧decide (y.a<x.a)=true:=by
    cases C<;>cases decide (y.a<x.a)<;>simp
   rcases b1 with rfl|⟨rfl,hd⟩|⟨rfl,hd⟩
   case' inl=>have L:=kp (show s++[x]++l.drop (k+1)=dL l y by
    rcases Q.o with⟨h,_⟩|⟨_,h⟩
    .cases h
    .rw[←h,R.B]; simp)
   case' inr.inl=>have L:=kp (show s++[x]=l.take (k+1)∧l.take (k+1)++dL (l.drop (k+1)) y=dL l y by
    rcases Q.o with⟨_,M,N⟩|⟨h,_⟩
    .refine⟨by rw[R.a,M],?_⟩;rw[←N,R.a,R.B];show _=l.take k++(if y.a<x.a then y::x::l.drop (k+1) else x::dL (l.drop (k+1)) y);rw[aC (of_decide_eq_false hd)];simp
    .cases h)
   case' inr.inr=>have L:=kp (show s.length≤k∧s++[y,x]++l.drop (k+1)=dL l y by
    rcases Q.o with⟨_,M,N⟩|⟨h,_⟩
    .refine⟨by rw[M,cZ]; omega,?_⟩;rw[←N,M,R.B];show _=l.take k++(if y.a<x.a then y::x::l.drop (k+1) else x::dL (l.drop (k+1)) y);rw[aE (bT hd)];simp
    .cases h)
   all_goals
    go_wp2_with fail;refine bJ (by kernel_rfl) (by kernel_rfl) ?_
    repeat (go_big_quiet_step (fail))
    refine bH ?_;rintro m ⟨⟨_,e0⟩,rfl⟩;have d0:=kp (b0.o.below e0);have E:=kp (e0.mono g.o.size);have U:=HC.o m E.o
   .have Y:=U.2.2.1;have Z:=U.2.2.2;have r:Sl (m.alloc (.cells #[.i y.a,.i y.o] 88)) (m.heap.size+1) (.slice (some ⟨m.heap.size,0,none⟩) 1 1) Bk.cells [y]:=eQ (enc:=Bk.cells) m 88 y;have q:=d0.o.alloc (.cells #[.i y.a,.i y.o] 88);have j:=ba' m (.cells #[.i y.a,.i y.o] 88);obtain⟨p,I⟩:=nm' (m.alloc (.cells #[.i y.a,.i y.o] 88));rw[I]at r q j;have f:=k'4 r q j (show W.heap.size≤p.heap.size from aB ((aB g.o.size E.o.size)) j.size);go_wp2_with (at_builtin; refine eU (enc:=Bk.cells) p rfl (.tmp 26) (.tmp 28) 27 rfl (W.heap.size) 88 jA fC rfl (by omega) bM f.b rfl f.a rfl (fun a _=>gU a) ?_ ?_ f.D ?_)
    .skip; unfold maxLen; (try simp); omega
    .skip; (try simp); omega
    intro v3 z K J;have F:=kp ((f.c.mono ((aB g.o.size E.o.size))).trans (f.b.grew J f.D));have G:=kp K;have z0:=G;have S:=kp (E.o.trans F.o);have l0:=HC.o z S.o;have X:=l0.1;have x1:=l0.2.1;have r:Sl (z.alloc (.cells #[.i x.a,.i x.o] 88)) (z.heap.size+1) (.slice (some ⟨z.heap.size,0,none⟩) 1 1) Bk.cells [x]:=eQ (enc:=Bk.cells) z 88 x;have q:=z0.o.alloc (.cells #[.i x.a,.i x.o] 88);have j:=ba' z (.cells #[.i x.a,.i x.o] 88);obtain⟨p,I⟩:=nm' (z.alloc (.cells #[.i x.a,.i x.o] 88));rw[I]at r q j;have f:=k'4 r q j (show W.heap.size≤p.heap.size from aB ((aB g.o.size S.o.size)) j.size);go_wp2_with (at_builtin; refine eU (enc:=Bk.cells) p rfl (.tmp 30) (.tmp 35) 27 rfl (W.heap.size) 88 jA fC rfl (by omega) bM f.b rfl f.a rfl (fun a _=>gU a) ?_ ?_ f.D ?_)
    .skip; unfold maxLen; (try simp); omega
    .skip; (try simp); omega
    intro v3 z K J;have F:=kp ((f.c.mono ((aB g.o.size S.o.size))).trans (f.b.grew J f.D));have G:=kp K;go_wp2_with fail;go_roundw
    case rel=>exact⟨k+1,true,_,rfl,by omega,by go_num,G.o,g.o.trans (S.o.trans F.o),by have:=L.a; simp; omega,.inr ⟨rfl,by simpa using L.B⟩⟩
    case measure=>simp[intOf]; omega
   all_goals
    have X:=U.1;have x1:=U.2.1;have r:Sl (m.alloc (.cells #[.i x.a,.i x.o] 88)) (m.heap.size+1) (.slice (some ⟨m.heap.size,0,none⟩) 1 1) Bk.cells [x]:=eQ (enc:=Bk.cells) m 88 x;have q:=d0.o.alloc (.cells #[.i x.a,.i x.o] 88);have j:=ba' m (.cells #[.i x.a,.i x.o] 88);obtain⟨p,I⟩:=nm' (m.alloc (.cells #[.i x.a,.i x.o] 88));rw[I]at r q j;have f:=k'4 r q j (show W.heap.size≤p.heap.size from aB ((aB g.o.size E.o.size)) j.size);go_wp2_with (at_builtin; refine eU (enc:=Bk.cells) p rfl (.tmp 30) (.tmp 35) 27 rfl (W.heap.size) 88 jA fC rfl (by omega) bM f.b rfl f.a rfl (fun a _=>gU a) ?_ ?_ f.D ?_)
    .skip; unfold maxLen; (try simp); omega
    .skip; (try simp); omega
    intro v3 z K J;have F:=kp ((f.c.mono ((aB g.o.size E.o.size))).trans (f.b.grew J f.D));have G:=kp K;go_wp2_with fail;go_roundw
    case rel=>
     first
      |exact⟨k+1,true,_,rfl,by omega,by go_num,G.o,g.o.trans (E.o.trans F.o),by simp; omega,.inr ⟨rfl,L.o⟩⟩
      |exact⟨k+1,false,_,rfl,by omega,by go_num,G.o,g.o.trans (E.o.trans F.o),by simp; omega,.inl ⟨rfl,L.o⟩⟩
    case measure=>simp[intOf]; omega
  .obtain rfl:k=n:=by omega
   have o0:l.drop k=[]:=gS (by have:=HL.o; omega)
   cases C
   .have HF:=kp (show s++[y]=dL l y by
     rcases Q.o with⟨_,M,N⟩|⟨h,_⟩
     .rw[o0]at N; rw[←N,M]; rfl
     .cases h)
    have Y:=Y ⟨wr,aL _ _⟩;have Z:=Z ⟨wr,aL _ _⟩;have r:Sl (wr.alloc (.cells #[.i y.a,.i y.o] 88)) (wr.heap.size+1) (.slice (some ⟨wr.heap.size,0,none⟩) 1 1) Bk.cells [y]:=eQ (enc:=Bk.cells) wr 88 y;have q:=b0.o.alloc (.cells #[.i y.a,.i y.o] 88);have j:=ba' wr (.cells #[.i y.a,.i y.o] 88);obtain⟨p,I⟩:=nm' (wr.alloc (.cells #[.i y.a,.i y.o] 88));rw[I]at r q j;have f:=k'4 r q j (show W.heap.size≤p.heap.size from aB (g.o.size) j.size);go_wp2_with (at_builtin; refine eU (enc:=Bk.cells) p rfl (.tmp 39) (.tmp 41) 27 rfl (W.heap.size) 88 jA fC rfl (by omega) bM f.b rfl f.a rfl (fun a _=>gU a) ?_ ?_ f.D ?_)
    .skip; unfold maxLen; (try simp); omega
    .skip; (try simp); omega
    intro v3 z K J;have F:=kp ((f.c.mono (g.o.size)).trans (f.b.grew J f.D));have G:=kp K;go_wp2_with fail;go_ret;refine⟨_,rfl,(G.o.eqv HF.o).mono O.o.size,O.o.trans ((g.o.trans F.o).mono O.o.size)⟩
   .have HF:=kp (show s=dL l y by
     rcases Q.o with⟨h,_⟩|⟨_,h⟩
     .cases h
     .rw[o0,fS]at h; exact h)
    go_wp2_with fail;go_ret;refine⟨_,rfl,(b0.o.eqv HF.o).mono O.o.size,O.o.on g.o⟩
end
section
attribute [-go_sem] run_eql_struct run_neq_struct
def tT(want:Int)(l:List Bk)(i:Int)(k:Nat):Prop:=(eX want (l.take k)=none∧i= -1)∨∃(j:Nat)(b:Bk),i=j∧j<k∧l[j]? =some b∧eX want (l.take k)=some b
theorem Us(v:Value)(l:List Bk)(d:Int)(B:Nat)(w:World)(h:Sl w B v Bk.cells l)(X:B≤w.heap.size)(hn:l.length≤1000000):
  Calls prog 256 #[v,.i d] w fun e w'=>∃i,e=.returned (.i i)∧tT d l i l.length∧Bw' w w':=by
 obtain⟨A,c,rfl,hr,Z,hm⟩:=h;obtain⟨n,K⟩:=nm' l.length;rw[K]at Z hn ⊢;have Q:=kp hr;have O:=kp K;have N:=kp X;go_enter func256,ntmps256;go_wp2_with fail
 go_loopw [5,6] (fun a i wr=>∃(k:Nat)(s:Int),a=.i s∧k≤n∧i=.i k∧tT d l s k∧Bw' w wr) (fun _ i _=>n-(intOf i).toNat)
 case atStart=>exact⟨0,-1,rfl,by omega,rfl,.inl ⟨rfl,rfl⟩,aL _ _⟩
 case round=>
  obtain⟨k,s,rfl,hk,rfl,I,Y⟩:=hrel;have q:=kp Y;have R:=kp I
  by_cases j0:k<n
  .have g3:(k:Int)<(n:Int):=by omega
   have E:k<l.length:=by have:=O.o; omega
   have M:=Q.o.below q.o N.o;obtain⟨b,e0,V,_,a0,_⟩:=bV (P:=prog) 2 bM (by omega) M k E;subst V;have x1:=aP (a0 1 _ rfl);have G:=k'2 (cV E) (eK E);generalize l[k]'E=x at *;have r:=Hf d x (l.take k);rw[←G.a]at r
   by_cases F:d≤x.o
   rotate_left
   .have T:decide (d≤x.o)=false:=by simp; omega
    have g:=kp (show tT d l s (k+1) by
     rcases I with⟨m,z⟩|⟨j,y,m,z,C,D⟩
     .refine .inl ⟨?_,z⟩;rw[r,m];exact aC F
     .refine .inr ⟨j,y,m,by omega,C,?_⟩;rw[r,D];exact aC fun h=>F h.1)
    go_wp2_with fail;refine bJ (by kernel_rfl) (by kernel_rfl) ?_
    repeat (go_big_quiet_step (fail))
    refine bH ?_;rintro H ⟨⟨_,p⟩,rfl⟩;have f:=kp (q.o.on p);go_wp2_with fail;go_roundw
    case rel=>exact⟨k+1,s,rfl,by omega,by go_num,g.o,f.o⟩
    case measure=>simp[intOf]; omega
   have T:decide (d≤x.o)=true:=by simp; omega
   rcases I with⟨m,z⟩|⟨j,y,m,z,C,D⟩
   .subst z;have g:=kp (show tT d l k (k+1) from .inr ⟨k,x,rfl,by omega,G.B,by rw[r,m]; exact aE F⟩);go_wp2_with fail;refine bJ (by kernel_rfl) (by kernel_rfl) ?_
    repeat (go_big_quiet_step (fail))
    refine bH ?_;rintro H ⟨⟨_,p⟩,rfl⟩;have f:=kp (q.o.on p);go_wp2_with fail;go_roundw
    case rel=>exact⟨k+1,k,rfl,by omega,by go_num,g.o,f.o⟩
    case measure=>simp[intOf]; omega
   .subst m;obtain⟨d0,b0⟩:=iH.1 C;obtain⟨S,g0,W,-,J,-⟩:=bV (P:=prog) 2 bM (by omega) M j d0;obtain⟨rfl,rfl⟩:b=S∧e0=g0:=by cases W; exact⟨rfl,rfl⟩
    rw[b0]at J;have y1:=aP (J 1 _ rfl);have g5:(j:Int)<n:=by omega
    have g7:decide ((j:Int)<0)=false:=by simp
    by_cases L:x.o<y.o
    .have U:decide (x.o<y.o)=true:=by simp; omega
     have g:=kp (show tT d l k (k+1) from .inr ⟨k,x,rfl,by omega,G.B,by rw[r,D]; exact aE ⟨F,L⟩⟩);go_wp2_with fail;refine bJ (by kernel_rfl) (by kernel_rfl) ?_
     repeat (go_big_quiet_step (fail))
     refine bH ?_;rintro H ⟨⟨_,p⟩,rfl⟩;have f:=kp (q.o.on p);go_wp2_with fail;go_roundw
     case rel=>exact⟨k+1,k,rfl,by omega,by go_num,g.o,f.o⟩
     case measure=>simp[intOf]; omega
    .have U:decide (x.o<y.o)=false:=by simp; omega
     have g:=kp (show tT d l j (k+1) from .inr ⟨j,y,rfl,by omega,C,by rw[r,D]; exact aC fun h=>L h.2⟩);go_wp2_with fail;refine bJ (by kernel_rfl) (by kernel_rfl) ?_
     repeat (go_big_quiet_step (fail))
     refine bH ?_;rintro H ⟨⟨_,p⟩,rfl⟩;have f:=kp (q.o.on p);go_wp2_with fail;go_roundw
     case rel=>exact⟨k+1,j,rfl,by omega,by go_num,g.o,f.o⟩
     case measure=>simp[intOf]; omega
  .obtain rfl:k=n:=by omega
   go_wp2_with fail;go_ret;exact⟨_,rfl,R.o,q.o⟩
theorem Ut(o d:Int)(v:Value)(B:Nat)(l:List Bk)(w:World)(hv:Sl w B v Bk.cells l)(hB:B≤w.heap.size)(K:gL o l=true)(h0:0≤d)(h1:d≤o):
  Calls prog 231 #[.i o,v,.i d] w fun e w'=>∃v',e=.returned (.tuple #[.agg (gZ o d l).2.1.cells.toArray,v',.i (gZ o d l).1])∧Ow w' w.heap.size 88 2 v' Bk.cells (gZ o d l).2.2∧Bw' w w':=by
 have hO:=((iJ _ _).1 K).1;have z3:=(lE hO).1 K;have hn:l.length≤256:=by
  have h8:=eF hO;have g1:=Bx o hO l ((iJ _ _).1 K).2.1 ((iJ _ _).1 K).2.2;have g2:=nJ (o:=o) (by omega);omega
 have hr:gZ o d l=match iY d l with |none=>(40,⟨0,0⟩,[])|some (b,g)=>(0,b,g):=by unfold gZ; rw[K,bY h0,bY h1]; rfl
 obtain⟨R,hR⟩:=nm' (gZ o d l);rw[hR]at hr ⊢;have hz:=Blk.new w 88 [.i 0,.i 0];have hb:=ba' w (.cells #[.i 0,.i 0] 88);obtain⟨W1,j1⟩:=nm' (w.alloc (.cells #[.i 0,.i 0] 88));rw[show ([.i 0,.i 0]:List Value).toArray=#[.i 0,.i 0] from rfl,j1]at hz;rw[j1]at hb;have I:=kp hz;have HB:=kp hb;have G:=kp (aB hB hb.size);have M:=kp (hv.below hb hB);have d3:=kp (by have:=Bt o v B l W1 M.o G.o (by omega); rw[xC,K]at this; exact this);have o0:=kp (fun(W:World)(h:Bw' W1 W)=>Us v l d B W (M.o.below h G.o) (aB G.o h.size) (by omega));have s:=k'4 hO z3 hn hr;have g0:¬d<0:=by omega
 have g1:¬o<d:=by omega
 go_enter func231,ntmps231;go_wp2_with fail;refine mb' (d3.o) fun w2 e4=>?_;have V:=kp e4;go_wp2_with fail;refine (o0.o w2 V.o).mono ?_;rintro e r ⟨i,rfl,d4,m1⟩;have F:=kp (V.o.on m1);have y:=kp ((I.o.below V.o I.o.lt).below m1 (I.o.below V.o I.o.lt).lt);dsimp only;rcases d4 with⟨h1,rfl⟩|⟨j,b,rfl,hj,hg,l0⟩
 .obtain rfl:R=(40,⟨0,0⟩,[]):=by
   rw[s.D];unfold iY;rw[Ab]at h1;rw[h1]; rfl
  have z0:=y.o.cell 0;have z1:=y.o.cell 1;have y0:=y.o.frozen 0;have y1:=y.o.frozen 1;simp only[aG,aK]at z0 z1;have L:=kp ((y.o.setCell 0 (.i 0)).setCell 1 (.i 0));have Y:=kp (((HB.o.on F.o).setCell (p:=⟨w.heap.size,0,none⟩) (aD _) (.i 0)).setCell (p:=⟨w.heap.size,1,none⟩) (aD _) (.i 0));go_wp2_with fail;have S:=L.o.cell 0;have T:=L.o.cell 1;simp only[aH,aI,aG,aK]at S T;exact aU (v:=.tuple #[.agg #[.i 0,.i 0],.slice none 0 0,.i 40]) (by simp[results,results231,go_sem,S,T]) rfl ⟨_,rfl,Ow.nil _ _ _ _ _,Y.o⟩
 .rw[Ab]at l0;have HR:=kp (show R=(0,(fW d 9 b (eJ l b)).1,(fW d 9 b (eJ l b)).2) by rw[s.D]; unfold iY; rw[l0]; rfl);have q1:=rA d l b l0;have d0:=kp (fI s.a (s.b.may b q1.1));have p2:=kp q1.2.1;have b5:=kp (eF s.a);obtain⟨A,c,rfl,hr,hc,-⟩:=M.o.below F.o G.o;obtain⟨n,hl⟩:=nm' l.length;obtain⟨b',z4,rfl,j5,m0,-⟩:=bV (P:=prog) 2 bM (by omega) hr j hj;rw[(iH.1 hg).2]at m0;have x0:=m0 0 _ rfl;have x1:=m0 1 _ rfl;simp only[cF]at x0;have HL:=kp hl;rw[hl]at hc hj M o0 ⊢;have g5:(j:Int)<n:=by omega
  have g7:decide ((j:Int)<0)=false:=by simp
  have j0:=ba' r (.cells #[.i b.a,.i b.o] 88);have b0:=Blk.new r 88 [.i b.a,.i b.o];have e2:=y.o.below j0 y.o.lt;obtain⟨N,l1⟩:=nm' (r.alloc (.cells #[.i b.a,.i b.o] 88));rw[show ([.i b.a,.i b.o]:List Value).toArray=#[.i b.a,.i b.o] from rfl,l1]at b0;rw[l1]at j0 e2;have Z:=kp b0;have d1:=kp e2;have X:=kp (F.o.on j0);have C:=b0.cell 0;have E:=b0.cell 1;simp only[aG,aK]at C E;have z2:=kp (show w.heap.size≠r.heap.size from uI (eA I.o.lt F.o.size));have p3:=kp (by have:=Kf (.slice (some ⟨b',z4,none⟩) n c) l b B N (by have:=M.o.below X.o G.o; exact this) (aB G.o X.o.size) (by have:=s.c; omega); exact this);go_wp2_with fail;refine (p3.o).mono ?_;rintro e w5 ⟨v5,rfl,m4,a0⟩;have a3:=kp m4;have l2:=kp (X.o.on a0);have y2:=kp (Z.o.below a0 Z.o.lt);have q3:=kp (d1.o.below a0 d1.o.lt);have e3:=kp a0.size;go_wp2_with fail
  go_loopw [11] (fun U wr=>∃(u:Value)(q:Int)(g:List Bk)(m:Nat),u=U∧Ow wr N.heap.size 88 2 u Bk.cells g∧Blk wr r.heap.size 88 [.i b.a,.i q]∧Blk wr w.heap.size 88 [.i 0,.i 0]∧Bw' W1 wr∧N.heap.size≤wr.heap.size∧
   (d≤q∧q≤8∧q-d≤m∧g.length+m≤300)∧fW d m ⟨b.a,q⟩ g=fW d 9 b (eJ l b)) (fun _ wr=>match wr.cell? ⟨r.heap.size,1,none⟩ with |some (.int _ z)=>(z-d).toNat|_=>0)
  case atStart=>exact⟨_,b.o,eJ l b,9,rfl,a3.o,y2.o,q3.o,l2.o,e3.o,⟨p2.o,by have:=d0.o; omega,by have:=d0.o; omega,by have:=s.c; have:=nB (fun x=> !decide (x=b)) l; unfold eJ; omega⟩,rfl⟩
  case round=>
   obtain⟨U,q,g,m,rfl,ho,k,hz,g4,y4,hq,q4⟩:=hrel;have l3:=kp y4;have HO:=kp ho;have HK:=kp k;have J:=kp hz;have e0:=kp g4;have HQ:=kp hq;have b1:=kp q4;have C:=k.cell 0;have E:=k.cell 1;have f1:=k.frozen 1;simp only[aG,aK]at C E
   by_cases b2:d<q
   .obtain⟨m',rfl⟩:∃m',m=m'+1:=⟨m-1,by omega⟩
    have m5:=eG (q-1);have o5:=nJ (o:=q-1) (by omega);have l5:=d0.o;have g8: -9223372036854775808≤q-1:=by omega
    have g9:q-1≤9223372036854775807:=by omega
    have d5: -9223372036854775808≤b.a+aJ (q-1):=by omega
    have e5:b.a+aJ (q-1)≤9223372036854775807:=by omega
    have j3:=kp (show fW d m' ⟨b.a,q-1⟩ (dL g ⟨b.a+aJ (q-1),q-1⟩)=fW d 9 b (eJ l b) by
     rw[←b1.o]; symm; exact aE b2)
    have Q:=(Chg.refl (fun i=>i=r.heap.size) wr).setCell (.inr rfl) 1 (.i (q-1));have a2:=HK.o.setCell 1 (.i (q-1));have l4:∀i,U.ownBlock=some i→¬i=r.heap.size:=fun i hi e=>by have:=(HO.o.lt hi).1; have:=Z.o.lt; omega
    have d2:=HO.o.chg Q l4;have j2:=J.o.chg Q z2.o;obtain⟨W6,a4⟩:=nm' (wr.setCell ⟨r.heap.size,1,none⟩ (.i (q-1)));rw[a4]at Q a2 d2 j2;have H:=kp (show Blk W6 r.heap.size 88 [.i b.a,.i (q-1)] from a2);have b3:=kp d2;have e1:=kp j2;have a1:=kp (aB l3.o Q.size);have m2:=kp (e0.o.trans (Q.below (fun i e=>e▸F.o.size) e0.o.size));have o3:=kp (fun(W':World)(h:Bw' W6 W')=>Dg U g ⟨b.a+aJ (q-1),q-1⟩ W6.heap.size W' ((b3.o.sl bM).below h (aD _)) h.size (by have:=HQ.o; omega));have m3:=kp (fun(W':World)=>kQ (q-1) W' (by have:=HQ.o; omega));go_wp2_with fail;refine kU 11 (fun W'=>Bw' W6 W') (fun _=>rM) (by kernel_rfl) (by kernel_rfl) (bR (aL _ _)) ?_
    iterate 10 (refine bO ?_; apply Exists.intro)
    refine bS (fun u W'=>Ow W' N.heap.size 88 2 u Bk.cells (dL g ⟨b.a+aJ (q-1),q-1⟩)) ?_;refine dR ⟨?pers,?walk⟩
    case walk=>
     iterate 5
      apply Sz (by kernel_rfl) (by intro t w h; cases h; exact trivial) rfl
      .intro W' f O; have k:=H.o.below f H.o.lt; have C:=k.cell 0; have E:=k.cell 1; simp only[aG,aK]at C E; clear k; go_wp2_with fail;exact⟨rfl,_,rfl,f,aL _ _,rfl⟩
      simp only[Act.put,aN,aH,aI]
     apply Sz (by kernel_rfl) (by intro t w h; cases h; exact trivial) rfl
     .intro W' f O;go_wp2_with fail;refine mb' (m3.o W') fun w' p4=>?_;obtain rfl:=p4.symm;go_wp2_with fail;exact⟨rfl,_,rfl,f,aL _ _,rfl⟩
     simp only[Act.put,aN,aH,aI]
     iterate 4
      apply Sz (by kernel_rfl) (by intro t w h; cases h; exact trivial) rfl
      .intro W' f O; have k:=H.o.below f H.o.lt; have C:=k.cell 0; have E:=k.cell 1; simp only[aG,aK]at C E; clear k; go_wp2_with fail;exact⟨rfl,_,rfl,f,aL _ _,rfl⟩
      simp only[Act.put,aN,aH,aI]
     refine⟨fun W' f O=>?_,fun a5=>?_⟩
     .go_wp2_with fail;refine (o3.o W' f).mono ?_;rintro e w7 ⟨v7,rfl,o4,o1⟩;go_wp2_with fail;exact⟨rfl,_,rfl,f.on o1,o1,o4.mono (aB a1.o f.size)⟩
     simp only[Act.put,aN,aH,aI];intro W7 f O;have f7:Ow W7 N.heap.size 88 2 a5 Bk.cells (dL g ⟨b.a+aJ (q-1),q-1⟩):=O 57;simp only[dO,dP];have q2:=kp f7;have q0:=kp (H.o.below f H.o.lt);have y3:=kp (e1.o.below f e1.o.lt);have g3:=kp (aB a1.o f.size);have o2:=kp (m2.o.on f);go_wp2_with fail;go_roundw
     case rel=>exact⟨_,q-1,_,m',rfl,q2.o,q0.o,y3.o,o2.o,g3.o,⟨by omega,by omega,by have:=HQ.o; omega,by have:=HQ.o; have:=(pN g ⟨b.a+aJ (q-1),q-1⟩).length_eq; rw[this,eV]; omega⟩,j3.o⟩
     case measure=>
      rw[show W7.cell? ⟨r.heap.size,1,none⟩=_ from q0.o.cell 1,show wr.cell? ⟨r.heap.size,1,none⟩=_ from HK.o.cell 1];show (q-1-d).toNat<(q-d).toNat;omega
    case pers=>exact⟨pv',pv',pv',pv',pv',pv',pv',pv',pv',pv',fun _ _ _ _ _ h hR=>h.below hR,trivial⟩
   .have HE:=kp (show R=(0,⟨b.a,q⟩,g) by
     rw[HR.o,←b1.o]
     cases m with
     |zero=>rfl
     |succ m=>rw[show fW d (m+1) ⟨b.a,q⟩ g=(⟨b.a,q⟩,g) from aC b2])
    have z0:=J.o.cell 0;have z1:=J.o.cell 1;have y0:=J.o.frozen 0;have y1:=J.o.frozen 1;simp only[aG,aK]at z0 z1;have L:=kp ((J.o.setCell 0 (.i b.a)).setCell 1 (.i q));have j4:=((Chg.refl (fun i=>i=w.heap.size) wr).setCell (.inr rfl) 0 (.i b.a)).setCell (.inr rfl) 1 (.i q);have Y:=k'2 (HO.o.chg j4 fun i hi e=>by have:=(HO.o.lt hi).1; have:=Z.o.lt; have:=F.o.size; have:=I.o.lt; omega) (((HB.o.on e0.o).setCell (p:=⟨w.heap.size,0,none⟩) (aD _) (.i b.a)).setCell (p:=⟨w.heap.size,1,none⟩) (aD _) (.i q));have hE:=HE.o;subst hE;go_wp2_with fail;have S:=L.o.cell 0;have T:=L.o.cell 1;simp only[aH,aI,aG,aK]at S T;exact aU (v:=.tuple #[.agg #[.i b.a,.i q],U,.i 0]) (by simp[results,results231,go_sem,S,T]) rfl ⟨_,rfl,Y.a.mono (aB HB.o.size X.o.size),Y.B⟩
theorem Uu(o:Int)(v:Value)(B:Nat)(l:List Bk)(b:Bk)(w:World)(hv:Sl w B v Bk.cells l)(hB:B≤w.heap.size)(R:gL o l=true)(G:bN o b=true)(a1:(b::l).Pairwise bE):
  Calls prog 259 #[.i o,v,.agg b.cells.toArray] w fun e w'=>∃v',e=.returned (.tuple #[v',.i 0])∧Ow w' w.heap.size 88 2 v' Bk.cells (dH o 9 b l)∧Bw' w w':=by
 have p:=((iJ _ _).1 R).1;have l2:=(lE p).1 R;have hn:l.length≤256:=by
  have h8:=eF p;have g1:=Bx o p l ((iJ _ _).1 R).2.1 ((iJ _ _).1 R).2.2;have g2:=nJ (o:=o) (by omega);omega
 have g:=Blk.new w 88 [.i b.a,.i b.o];have Y:=ba' w (.cells #[.i b.a,.i b.o] 88);obtain⟨X,m2⟩:=nm' (w.alloc (.cells #[.i b.a,.i b.o] 88));rw[show ([.i b.a,.i b.o]:List Value).toArray=#[.i b.a,.i b.o] from rfl,m2]at g;rw[m2]at Y;have HZ:=kp g;have HB:=kp Y;have U:=kp (aB hB Y.size);have HS:=kp (hv.below Y hB);have d4:=kp (by have:=Bt o v B l X HS.o U.o (by omega); rw[xC,R]at this; exact this);have q3:=kp (fun(W:World)=>by have:=tD o b W p; rw[G]at this; exact this);have I:=k'3 p l2 hn;have M:=k'2 G (fI p G);have z3:=kp (fun x hx=>fI p (l2.may x hx));have l1:=kp a1;have j0:=kp (eF p);show Calls _ _ #[_,_,.agg #[.i b.a,.i b.o]] _ _;obtain⟨n,hl⟩:=nm' l.length;have L:=kp hl;rw[hl]at hn;go_enter func259,ntmps259;go_wp2_with fail;refine mb' (d4.o) fun w2 p2=>?_;have e3:=kp p2;have j1:=HZ.o.below p2 HZ.o.lt;have s:=j1.cell 0;have y:=j1.cell 1;simp only[aG,aK]at s y;have e2:=kp j1;go_wp2_with fail;refine mb' (q3.o w2) fun w3 q2=>?_;have j3:=kp (e3.o.on q2);have m4:=kp (e2.o.below q2 e2.o.lt);go_wp2_with fail
 go_loopw [8] (fun i wr=>∃k:Nat,i=.i k∧k≤n∧Blk wr w.heap.size 88 [.i b.a,.i b.o]∧Bw' X wr) (fun i _=>n-(intOf i).toNat)
 case atStart=>exact⟨0,rfl,by omega,m4.o,j3.o⟩
 case round=>
  obtain⟨k,rfl,hk,g,Q⟩:=hrel;have y0:=kp g;have e0:=kp Q;obtain⟨A,c,rfl,hr,-,-⟩:=HS.o.below Q U.o;have g4:=kp (HS.o.below Q U.o)
  by_cases S:k<n
  .have b0:k<l.length:=by have:=L.o; omega
   have g3:(k:Int)<n:=by omega
   obtain⟨b',p5,rfl,-,b3,-⟩:=bV (P:=prog) 2 bM (by omega) hr k b0;have x0:=aP (b3 0 _ rfl);have x1:=aP (b3 1 _ rfl);simp only[cF]at x0;have s:=aP (g.cell 0);have y:=aP (g.cell 1);have m5:=z3.o _ (bK b0);have p4:=(eE.1 l1.o).1 _ (bK b0);generalize l[k]'b0=x at *;have d5:eW x b=false:=qW.2 p4.symm;have y3:=kp (fun(W:World)=>by have:=uW x b W (by have:=j0.o; omega) (by have:=M.B; have:=j0.o; omega) (by omega) (by omega) (by have:=M.B; omega) (by have:=M.B; omega); rw[d5]at this; exact this);rw[L.o];go_wp2_with fail;refine bJ (by kernel_rfl) (by kernel_rfl) ?_
   repeat (go_big_quiet_step ((go_at_call 189; with_reducible refine bU (y3.o _))))
   refine bH ?_;rintro W4 ⟨⟨_,y2⟩,rfl⟩;have o4:=kp (y0.o.below y2 y0.o.lt);have l3:=kp (e0.o.on y2);go_wp2_with fail;go_roundw
   case rel=>exact⟨k+1,by go_num,by omega,o4.o,l3.o⟩
   case measure=>simp[intOf]; omega
  .obtain rfl:k=n:=by omega
   rw[L.o];go_wp2_with fail;have o3:=kp (HB.o.on e0.o)
   go_loopw [9] (fun H wr=>∃(u:Value)(c:Bk)(f:List Bk)(m:Nat),u=H∧(Sl wr B u Bk.cells f∨Ow wr X.heap.size 88 2 u Bk.cells f)∧Blk wr w.heap.size 88 [.i c.a,.i c.o]∧Bw' w wr∧X.heap.size≤wr.heap.size∧
    bN o c=true∧gW o f∧(c::f).Pairwise bE∧dH o m c f=dH o 9 b l∧o-c.o≤m∧f.length≤256) (fun _ wr=>match wr.cell? ⟨w.heap.size,1,none⟩ with |some (.int _ z)=>(o-z).toNat|_=>0)
   case atStart=>exact⟨_,b,l,9,rfl,.inl (by have:=g4.o; rw[L.o]at this; exact this),y0.o,o3.o,e0.o.size,M.a,I.b,l1.o,rfl,by have:=M.B; have:=j0.o; omega,L.o▸I.C⟩
   case round=>
    obtain⟨H,q,f,m,rfl,ho,g,Q,d3,G,y4,a1,a5,b5,z4⟩:=hrel;have HO:=kp ho;have m0:=kp (show Sl wr wr.heap.size H Bk.cells f from ho.elim (fun h=>h.more (aB U.o d3)) fun h=>h.sl bM);have q0:=kp g;have F:=kp Q;have b2:=kp d3;have j:=k'5 G y4 a1 a5 b5;have a4:=kp (fI I.a G);have d2:=kp (fun(W:World)=>(show Calls prog 225 #[.agg #[.i q.a,.i q.o]] W fun e w'=>e=.returned (.agg #[.i (aY q).a,.i (aY q).o])∧Bw' W w' from Gm o q W I.a G));have o1:=kp (fun(W:World)(h:Bw' wr W)=>Ur H f (aY q) wr.heap.size W (m0.o.below h (aD _)) h.size (by omega));have s:=g.cell 0;have y:=g.cell 1;simp only[aG,aK]at s y
    by_cases S:q.o<o
    .have g5:decide (q.o<o)=true:=by simp[S]
     obtain⟨r,hr⟩:=nm' (f.any fun x=>decide (x=aY q));rw[hr]at o1;have l0:=kp hr;go_wp2_with fail;refine mb' (d2.o _) fun w5 z2=>?_;have p3:=kp (o1.o w5 z2);have m3:=kp z2;go_wp2_with fail;refine mb' (p3.o) fun w6 q4=>?_;have D:=kp (m3.o.on q4);have V:=kp (q0.o.below D.o q0.o.lt);have a2:=kp (m0.o.below D.o (aD _));dsimp only;have s:=V.o.cell 0;have y:=V.o.cell 1;simp only[aG,aK]at s y
     cases r
     .have g0:=kp (show dL f q=dH o 9 b l by
       rw[←j.d]
       cases m with
       |zero=>rfl
       |succ m=>
        symm
        show (if (decide (q.o<o)&&f.any fun x=>decide (x=aY q))=true then _ else dL f q)=dL f q;rw[l0.o]; simp)
      have p0:=kp (Dg H f q wr.heap.size w6 a2.o D.o.size (by omega));go_wp2_with fail;refine (p0.o).mono ?_;rintro e T ⟨v7,rfl,d1,O⟩;have K:=k'2 (d1.eqv g0.o) (F.o.trans ((D.o.on O).mono F.o.size));have j4:=kp (aB F.o.size D.o.size);go_wp2_with fail;go_ret2;exact⟨_,rfl,K.a.mono j4.o,K.B⟩
     .obtain⟨x,hx,e1⟩:=kZ.1 l0.o;have e1:=bT e1;subst e1;have o0:=kp (Jc I.a j.a j.b j.c S hx);have l5:=kp ((rB I.a j.a S).2.1);go_wp2_with fail;refine mb' (d2.o _) fun T O=>?_;have a3:=ba' T (.cells #[.i (aY q).a,.i (aY q).o] 88);have a0:=Blk.new T 88 [.i (aY q).a,.i (aY q).o];have N:=O.on a3;obtain⟨W8,o2⟩:=nm' (T.alloc (.cells #[.i (aY q).a,.i (aY q).o] 88));rw[show ([.i (aY q).a,.i (aY q).o]:List Value).toArray=#[.i (aY q).a,.i (aY q).o] from rfl,o2]at a0;rw[o2]at a3 N;have d0:=kp (D.o.on N);have p1:=kp a0;have j5:=V.o.below N V.o.lt;have j2:=kp j5;have l4:=kp (Kf H f (aY q) w6.heap.size W8 ((a2.o.more D.o.size).below N (aD _)) N.size (by omega));have t0:=a0.cell 0;have t1:=a0.cell 1;simp only[aG,aK]at t0 t1;go_wp2_with fail;refine (l4.o).mono ?_;rintro e w9 ⟨v9,rfl,e5,Z⟩;have m1:=kp (F.o.trans ((d0.o.on Z).mono F.o.size));have y1:=kp (e5.mono (aB b2.o d0.o.size));have J:=kp (j2.o.below Z j2.o.lt);have q1:=kp (p1.o.below Z p1.o.lt);have e4:=kp (aB b2.o (aB d0.o.size Z.size));have t0:=q1.o.cell 0;have t1:=q1.o.cell 1;have s:=J.o.cell 0;have y:=J.o.cell 1;have f0:=J.o.frozen 0;have f1:=J.o.frozen 1;simp only[aG,aK]at t0 t1 s y;have o5:=a4.o;have g8: -9223372036854775808≤q.o+1:=by omega
      have g9:q.o+1≤9223372036854775807:=by omega
      go_wp2_with fail;go_roundw
      case rel=>
       have b1:=((Chg.refl (fun i=>i=w.heap.size) w9).setCell (.inr rfl) 0 (.i (min q.a (aY q).a))).setCell (.inr rfl) 1 (.i (q.o+1));refine⟨v9,⟨min q.a (aY q).a,q.o+1⟩,eJ f (aY q),m-1,rfl,.inr (y1.o.chg b1 fun i hi e=>by have:=(y1.o.lt hi).1; have:=HZ.o.lt; omega),(J.o.setCell 0 _).setCell 1 _,m1.o.trans (b1.below (fun i e=>fU e.symm) m1.o.size),aB e4.o b1.size,o0.a,o0.b,o0.C,?_,?_,?_⟩
       .obtain⟨m',rfl⟩:∃m',m=m'+1:=⟨m-1,by have:=j.E; omega⟩
        rw[←j.d]
        symm
        show (if (decide (q.o<o)&&f.any fun x=>decide (x=aY q))=true then dH o m' ⟨min q.a (aY q).a,q.o+1⟩ (eJ f (aY q)) else dL f q)=_;rw[l0.o,bY S]; rfl
       .have:=j.E;show o-(q.o+1)≤((m-1:Nat):Int);omega
       .exact aB (nB _ _) z4
      case measure=>
       rw[show ((w9.setCell ⟨w.heap.size,0,none⟩ (.i (min q.a (aY q).a))).setCell ⟨w.heap.size,1,none⟩ (.i (q.o+1))).cell? ⟨w.heap.size,1,none⟩=_ from ((J.o.setCell 0 (.i (min q.a (aY q).a))).setCell 1 (.i (q.o+1))).cell 1,show wr.cell? ⟨w.heap.size,1,none⟩=_ from q0.o.cell 1];show (o-(q.o+1)).toNat<(o-q.o).toNat;omega
    .have g5:decide (q.o<o)=false:=by simp; omega
     have g0:=kp (show dL f q=dH o 9 b l by
      rw[←j.d]
      cases m with
      |zero=>rfl
      |succ m=>
       symm
       show (if (decide (q.o<o)&&f.any fun x=>decide (x=aY q))=true then _ else dL f q)=dL f q;rw[g5]; simp)
     have p0:=kp (Dg H f q wr.heap.size wr m0.o (aD _) (by omega));go_wp2_with fail;refine (p0.o).mono ?_;rintro e T ⟨v7,rfl,d1,O⟩;have K:=k'2 (d1.eqv g0.o) (F.o.on O);go_wp2_with fail;go_ret2;exact⟨_,rfl,K.a.mono F.o.size,K.B⟩
end
end Go.Proofs.YtdoopoapbffpbaaGreat
