import Derived.Test.YtdoopoapbffpbaaGreatZ01
import Derived.Test.YtdoopoapbffpbaaGreatZ12
import Derived.Test.YtdoopoapbffpbaaGreatZ13
import Derived.Test.YtdoopoapbffpbaaGreatZ14
namespace Go.Proofs.YtdoopoapbffpbaaGreat
open Go.RowKit Go.Proofs.Tryz
set_option maxRecDepth 100000
set_option maxHeartbeats 12800000
set_option linter.unusedVariables false
set_option linter.unusedSimpArgs false
section
attribute [-go_sem] run_eql_struct run_neq_struct
theorem Jc{o:Int}(f:cP o=true){b:Bk}{c:List Bk}(e:bN o b=true)(d:gW o c)(p:(b::c).Pairwise bE)(l:b.o<o)(r:aY b∈c):
  bN o ⟨min b.a (aY b).a,b.o+1⟩=true∧gW o (eJ c (aY b))∧((⟨min b.a (aY b).a,b.o+1⟩:Bk)::eJ c (aY b)).Pairwise bE:=by
 obtain⟨s,B,x,C,_⟩:=rB f e l;have n:=gV f e;have k:aJ (b.o+1)=2*aJ b.o:=qZ n.1;have A:=eG b.o;have m:=uY c _ d.sort r;have q:(b::aY b::eJ c (aY b)).Pairwise bE:=(oL (m.cons b)).1 p;have g:=eE.1 q;have h:=eE.1 g.2;refine⟨s,d.drop _,.cons (fun y i=>?_) h.2⟩;have z:=g.1 y (by simp only[bA]; exact .inr i);have j:=h.1 y i;have:=eG y.o;unfold bE at *;rw[x]at j;simp only[k];omega
theorem Tt(y:Bk)(l:List Bk):eI (fun x=>decide (y=x)) l<0→y∉l:=fun h a=>by
 have:=tI (fun x=>decide (y=x)) l;rw[aX (by omega),eq_comm,pF]at this;exact this y a (by simp)
theorem Jd(y:Bk):∀(l:List Bk),l.Pairwise (fun x y=>x.a<y.a)→0≤eI (fun x=>decide (y=x)) l→∃i:Nat,eI (fun x=>decide (y=x)) l=i∧l[i]? =some y∧l.eraseIdx i=eJ l y
 |[],_,h=>by simp[eI]at h
 |x::l,r,h=>by
  have g:=eE.1 r
  by_cases d:y=x
  .subst d;refine⟨0,?_,rfl,?_⟩
   .exact rF _ (y::l) 0 (by simp) (by simp) (by simp)
   .unfold eJ;rw[nA (by simp),List.eraseIdx_cons_zero,List.filter_eq_self.2];intro z b;have:=g.1 z b;have c:z≠y:=fun e=>by rw[e]at this; omega
    simp[c]
  .have q:y∈l:=by
    have:=tI (fun x=>decide (y=x)) (x::l);rw[bY h,eq_comm,kZ]at this;obtain⟨z,b,s⟩:=this;have:=bT s;subst this;exact (bA.1 b).resolve_left d
   have m:0≤eI (fun x=>decide (y=x)) l:=by
    have:=tI (fun x=>decide (y=x)) l;rw[kZ.2 ⟨y,q,by simp⟩]at this;exact bT this
   obtain⟨i,A,f,n⟩:=Jd y l g.2 m;refine⟨i+1,?_,by simpa using f,?_⟩
   .have o:i<l.length:=(iH.1 f).1;have k:l[i]=y:=(iH.1 f).2;refine rF _ (x::l) (i+1) (by simp; omega) (by simp[k]) fun z b=>?_;rw[qK]at b;rcases bA.1 b with rfl|b
    .simp[d]
    .obtain⟨j,p,rfl⟩:=List.mem_iff_getElem.1 b;rw[Fb];rw[cZ]at p;have:=List.pairwise_iff_getElem.1 g.2 j i (by omega) o (by omega);rw[k]at this;have c:y≠l[j]:=fun e=>by rw[←e]at this; omega
     simp[c]
   .unfold eJ at *;have c:x≠y:=fun e=>d e.symm;rw[oA (by simp[c]),List.eraseIdx_cons_succ,n]
theorem Je(b:Bk):∀l:List Bk,(∀x∈l,b.a≠x.a)→l.take (eT (·.a) b.a l)++[b]++l.drop (eT (·.a) b.a l)=dL l b
 |[],_=>rfl
 |x::l,h=>by
  have:=h x (by simp);unfold eT dL
  by_cases c:x.a<b.a
  .rw[aE c,aC (by omega),←Je b l fun y d=>h y (by simp[d])]; rfl
  .rw[aC c,aE (by omega)]; rfl
theorem Jf:∀l:List Bk,l.Pairwise (fun x y=>x.a<y.a)→iL (·.a) l
 |[],_=>trivial
 |_::l,h=>⟨fun y b=>(eE.1 h).1 y b,Jf l (eE.1 h).2⟩
theorem Tu{b:Bk}{l:List Bk}(h:(b::l).Pairwise bE):∀x∈l,b.a≠x.a:=fun x c e=>by
 have:=(eE.1 h).1 x c;have:=eG b.o;have:=eG x.o;unfold bE at *;omega
theorem Tv(x y:Bk)(w:World)(f:0≤x.o∧x.o≤8)(g:0≤y.o∧y.o≤8)(c: -1000000000000000000≤x.a)(j:x.a≤1000000000000000000)(p: -1000000000000000000≤y.a)(q:y.a≤1000000000000000000):
  Calls prog 285 #[.agg #[.i x.a,.i x.o],.agg #[.i y.a,.i y.o]] w fun e m=>e=.returned (.bool (eW x y))∧Bw' w m:=by
 obtain⟨W,d,r,s,z,A,k⟩:=xB w x y 88;have n:=kp d;have l:=kp k;have B:=gF x.o;have C:=gF y.o;have h:=fD f.1 f.2;have i:=fD g.1 g.2;unfold eW;rw[←h,←i];clear k f g h i;rcases tB (decide (x.a<y.a+aQ y.o)) (decide (y.a<x.a+aQ x.o)) with⟨c,b⟩|⟨c,j,b⟩|⟨c,j,b⟩
 all_goals
  rw[b];clear b;go_enter func285,ntmps285;go_wp2_with fail;simp only[←d];clear d
  go_quiet (first |(go_at_call 174; refine Calls.quiet_of_same (iT _ _)))
  go_wp2_with fail;go_ret;exact⟨rfl,gG l.o _⟩
theorem Tx(b x:Bk)(s:Nat)(W:World)(c0:W.cell? ⟨s,0,none⟩=some (.i b.a))(c1:W.cell? ⟨s,1,none⟩=some (.i b.o))(j:0≤x.o∧x.o≤8∧0≤x.a∧x.a≤256)(g:0≤b.o∧b.o≤8∧0≤b.a∧b.a≤256):
  Calls prog 284 (#[.agg x.cells.toArray]++#[.pointer (some ⟨s,0,none⟩)]) W fun e m=>e=.returned (.bool (eW x b))∧Bw' W m:=by
 show Calls _ _ #[.agg #[.i x.a,.i x.o],.pointer (some ⟨s,0,none⟩)] _ _;obtain⟨r,y⟩:=tC W x 88;have c:=ba' W (.cells #[.i x.a,.i x.o] 88);have k:=kp c;have i:=World.block_lt_of_cell? W _ c0;have n:=(c.cell (p:=⟨s,0,none⟩) i).trans c0;have q:=(c.cell (p:=⟨s,1,none⟩) i).trans c1;have d:=kp j;have f:=kp g;clear c0 c1 c j g;go_enter func284,ntmps284;go_wp2_with fail;refine mb' (Tv x b _ (by have:=d.o; omega) (by have:=f.o; omega) (by have:=d.o; omega) (by have:=d.o; omega) (by have:=f.o; omega) (by have:=f.o; omega)) fun z h=>?_;have l:=kp h;clear h;go_wp2_with fail;go_ret;exact⟨rfl,k.o.on l.o⟩
theorem Ty(x:Bk)(t:Int)(W:World):
  Calls prog 289 (#[.agg x.cells.toArray,.i t]++#[]) W fun e c=>e=.returned (.i (fX x.a t))∧Bw' W c:=by
 show Calls _ _ #[.agg #[.i x.a,.i x.o],.i t] _ _;obtain⟨d,f⟩:=tC W x 88;have b:=kp (ba' W (.cells #[.i x.a,.i x.o] 88));go_enter func289,ntmps289;go_wp2_with fail;refine ms' (tJ _ _ _) ?_;go_wp2_with fail;go_ret;exact⟨rfl,b.o⟩
def nP(o:Int)(l:List Bk)(b:Bk):Int×List Bk:=
 if gL o l=true then if (bN o b&& !(l.any fun x=>eW x b))=true then (0,dH o 9 b l) else (41,[]) else (1,[])
theorem Tz(o:Int)(v:Value)(B:Nat)(l:List Bk)(b:Bk)(w:World)(hv:Sl w B v Bk.cells l)(hB:B≤w.heap.size)(hn:l.length≤400000):
  Calls prog 273 #[.i o,v,.agg b.cells.toArray] w fun e w'=>∃v',e=.returned (.tuple #[v',.i (nP o l b).1])∧OR w' (fun i=>w.heap.size≤i) 88 2 v' Bk.cells (nP o l b).2∧Bw' w w':=by
 have hb:=ba' w (.cells #[.i b.a,.i b.o] 88);have R:=Blk.new w 88 [.i b.a,.i b.o];have HS:=kp (hv.below hb hB);have HB:=kp hb;have HZ:=kp R;have d2:=kp (aB hB hb.size);have HC:=kp (qU o v B l _ HS.o d2.o (by omega));show Calls _ _ #[_,_,.agg #[.i b.a,.i b.o]] _ _;clear hv hb R hB
 cases hf:gL o l
 .have G:nP o l b=(1,[]):=by unfold nP; rw[hf]; rfl
  rw[G];rw[hf]at HC;clear hf G;go_enter func273,ntmps273;go_wp2_with fail;refine mb' (HC.o) fun w2 q=>?_;have Z:=kp (HB.o.on q);clear q;go_wp2_with fail;go_ret2;exact⟨_,rfl,aO.nil _ _ _ _,Z.o⟩
 rw[hf]at HC;have d1:=kp hf;have y:=kp ((iJ _ _).1 hf).1;have HM:=kp (fun(w':World)=>Gj o b w' y.o);clear hf
 cases p:bN o b
 .have G:nP o l b=(41,[]):=by unfold nP; rw[d1.o,p]; rfl
  rw[G];rw[p]at HM;clear p G;go_enter func273,ntmps273;go_wp2_with fail;refine mb' (HC.o) fun w2 q=>?_;have Z:=kp (HB.o.on q);have e3:=HZ.o.below q HZ.o.lt;have g:=e3.cell 0;have m:=e3.cell 1;simp only[aG,aK]at g m;clear q e3;go_wp2_with fail;refine mb' (HM.o _) fun w3 H=>?_;have q0:=kp (Z.o.on H);clear H g m;go_wp2_with fail;go_ret2;exact⟨_,rfl,aO.nil _ _ _ _,q0.o⟩
 have j2:=k'2 p (fI y.o p);have m2:=k'2 ((lE y.o).1 d1.o) (fun x Q=>fI y.o (((lE y.o).1 d1.o).may x Q));obtain⟨r,G⟩:=nm' (nP o l b);rw[G];have S:=kp (show r=if (!(l.any fun x=>eW x b))=true then (0,dH o 9 b l) else (41,[]) by rw[←G]; unfold nP; rw[d1.o,p]; rfl);have e1:=kp (eF y.o);rw[p]at HM;clear p G;go_enter func273,ntmps273;go_wp2_with fail;refine mb' (HC.o) fun w2 q=>?_;have Z:=kp (HB.o.on q);have l1:=kp (HZ.o.below q HZ.o.lt);have z5:=kp (HS.o.below q d2.o);have m3:=kp (aB d2.o q.size);have g:=l1.o.cell 0;have m:=l1.o.cell 1;simp only[aG,aK]at g m;clear q;go_wp2_with fail;refine mb' (HM.o _) fun w3 H=>?_;have q0:=kp (Z.o.on H);have T:=kp (l1.o.below H l1.o.lt);have y3:=kp (z5.o.below H m3.o);have e2:=kp (aB m3.o H.size);have b1:=kp (vC.2.2 v l (fun x=>eW x b) 284 #[.pointer (some ⟨w.heap.size,0,none⟩)] B w3 y3.o e2.o (by omega) (enters_of func284 (by kernel_rfl) rfl)
  (fun W' x Q j4=>Tx b x w.heap.size W' ((T.o.below j4 T.o.lt).cell 0) ((T.o.below j4 T.o.lt).cell 1) (by have:=m2.B x Q; have:=e1.o; omega) (by have:=j2.B; have:=e1.o; omega)))
 clear H g m
 cases O:l.any fun x=>eW x b
 rotate_left
 .rw[O]at S b1;have q5:=kp (show r=(41,[]) from S.o);clear O S;go_wp2_with fail;refine mb' (b1.o) fun w4 I=>?_;have a2:=kp (q0.o.on I);clear I;go_wp2_with fail;go_ret2;rw[q5.o];exact⟨_,rfl,aO.nil _ _ _ _,a2.o⟩
 have d5:=kp (show (b::l).Pairwise bE from eE.2 ⟨fun x Q=>by
  have O:=O;have:=pF.1 O x Q;rw[zY,qW]at this;exact this.symm,m2.a.side.imp fun h=>h.1⟩)
 rw[O]at S b1;have y5:=kp (show r=(0,dH o 9 b l) from S.o);clear O S;go_wp2_with fail;refine mb' (b1.o) fun w4 I=>?_;have a2:=kp (q0.o.on I);have y2:=kp (T.o.below I T.o.lt);have l5:=kp (fam'6.2.1 v l B w4 (y3.o.below I e2.o) (aB e2.o I.size) (by omega));clear I;go_wp2_with fail;refine (l5.o).mono ?_;rintro e w5 ⟨v5,rfl,a5,a3⟩;have e5:=kp (a2.o.on a3);have b6:=kp (y2.o.below a3 y2.o.lt);have p5:=kp (show OR w5 (fun i=>w.heap.size<i) 88 2 v5 Bk.cells l from aO.of_own a5 fun i h _=>by have:=y2.o.lt; omega);clear a5 a3;go_wp2_with fail
 go_loopw [8] (fun vl wr=>∃(u:Value)(c:Bk)(f:List Bk)(k:Nat),u=vl∧OR wr (fun i=>w.heap.size<i) 88 2 u Bk.cells f∧Blk wr w.heap.size 88 [.i c.a,.i c.o]∧Bw' w wr∧bN o c=true∧gW o f∧(c::f).Pairwise bE∧dH o k c f=dH o 9 b l∧o-c.o≤k∧f.length≤400000) (fun _ wr=>match wr.cell? ⟨w.heap.size,1,none⟩ with |some (.int _ z)=>(o-z).toNat|_=>0)
 case atStart=>exact⟨_,b,l,9,rfl,p5.o,b6.o,e5.o,j2.a,m2.a,d5.o,rfl,by have:=j2.B; have:=e1.o; omega,hn⟩
 case round=>
  obtain⟨vl,c,f,k,rfl,ho,R,l4,p,d3,e4,y4,hk,m6⟩:=hrel;have L:=kp ho;have N:=kp R;have b0:=kp l4;have s:=k'5 p d3 e4 y4 hk;have m5:=kp (fI y.o p);have g:=R.cell 0;have m:=R.cell 1;simp only[aG,aK]at g m;have l0:=kp (fun(W:World)=>Gk o c W y.o p);have K:=kp (fun(W:World)(h:Bw' wr W)=>Tr vl f (aY c) wr.heap.size W (ho.sl.below h (aD _)) h.size (by omega));have g0:=kp (fun h:eI (fun x=>decide (aY c=x)) f<0=>Tt _ f h);have d0:=kp (Jd (aY c) f d3.sort);clear ho R l4 p d3 e4 y4 hk;have m4:(¬c.o<o)∨(c.o<o∧eI (fun x=>decide (aY c=x)) f<0)∨(c.o<o∧0≤eI (fun x=>decide (aY c=x)) f):=by omega
  obtain⟨z,q1⟩:=nm' (eI (fun x=>decide (aY c=x)) f);rw[q1]at K g0 d0 m4;clear q1;rcases m4 with J|⟨J,p6⟩|⟨J,q6⟩
  case' inl=>
   have g1:decide (c.o<o)=false:=by simp; omega
   have q3:=kp (show dL f c=dH o 9 b l by rw[←s.d]; cases k<;>simp[dH,J]);clear J l0 K g0 d0;have HT:=L;have U:=N;have b2:=b0;obtain⟨wT,z6⟩:∃wT,wT=wr:=⟨_,rfl⟩
   subst z6
  case' inr.inl=>
   have q3:=kp (show dL f c=dH o 9 b l by
    rw[←s.d];have:=g0.o p6
    cases k with
    |zero=>rfl
    |succ k=>
     unfold dH;rw[aC];simp only[bI,bP,kZ,not_and,not_exists];rintro _ x Q rfl;exact this Q)
   clear g0 d0;go_wp2_with fail;refine mb' (l0.o _) fun w6 D=>?_;have e0:=kp (K.o w6 D);have j0:=kp (L.o.below D);have M:=kp (N.o.below D N.o.lt);have a0:=kp (b0.o.on D);clear D g m l0 K;go_wp2_with fail;refine mb' (e0.o) fun wT F=>?_;have HT:=kp (j0.o.below F);have U:=kp (M.o.below F M.o.lt);have b2:=kp (a0.o.on F);clear F e0 j0 M a0 L N b0;have g:=U.o.cell 0;have m:=U.o.cell 1;simp only[aG,aK]at g m
  rotate_right
  .obtain⟨i,q1,p1,p4⟩:=d0.o q6;subst q1;have l6:i<f.length:=(iH.1 p1).1;have q4:f[i]=aY c:=(iH.1 p1).2;have HE:=k'2 p4 (oY p1);have q2:=kp (Jc y.o s.a s.b s.c J HE.B);obtain⟨A,cp,rfl,-,j6,-⟩:=L.o.sl;obtain⟨n,z4⟩:=nm' f.length;have HL:=kp z4;rw[z4]at L K l6 j6 m6;clear p4 g0 d0 p1;go_wp2_with fail;refine mb' (l0.o _) fun w6 D=>?_;have e0:=kp (K.o w6 D);have j0:=kp (L.o.below D);have M:=kp (N.o.below D N.o.lt);have a0:=kp (b0.o.on D);clear D g m l0 K;go_wp2_with fail;refine mb' (e0.o) fun w7 F=>?_;dsimp only;have o2:=kp (j0.o.below F);have m0:=kp (M.o.below F M.o.lt);have j3:=kp (a0.o.on F);clear F e0 j0 M a0 L b0;have g:=m0.o.cell 0;have m:=m0.o.cell 1;have y0:=m0.o.frozen 0;have y1:=m0.o.frozen 1;simp only[aG,aK]at g m;obtain⟨A7,d7,o4,b5,-,-⟩:=o2.o.sl;obtain⟨rfl,-,rfl⟩:=Value.slice.inj o4;obtain⟨b7,e7,hA,-,b3,-⟩:=bV (P:=prog) 2 bM (by omega) b5 i (by have:=HL.o; omega);subst hA;have x0:=b3 0 _ rfl;have x1:=b3 1 _ rfl;simp only[cF,q4]at x0;clear b3 x1 o4 b5 q4;have a7:=kp (fI y.o ((rB y.o s.a J).2.1));have g1:(c.o:Int)<o:=J;have g2:(i:Int)<(n:Int):=by omega
   go_wp2_with fail;have g6:=m5.o;have e6:=e1.o;have g3: -9223372036854775808≤c.o+1:=by omega
   have g4:c.o+1≤9223372036854775807:=by omega
   clear g6 e6
   go_region
   have o1:=(((Chg.refl (fun i=>i=w.heap.size) w7).setCell (.inr rfl) 0 (.i (min c.a (aY c).a))).setCell (.inr rfl) 1 (.i (c.o+1))).drew;have X:=(m0.o.setCell 0 (.i (min c.a (aY c).a))).setCell 1 (.i (c.o+1));obtain⟨Y,z2⟩:=nm' (((w7.setCell ⟨w.heap.size,0,none⟩ (.i (min c.a (aY c).a))).setCell ⟨w.heap.size,1,none⟩ (.i (c.o+1))).drew);rw[z2]at o1 ⊢;have d6:=kp (show Blk Y w.heap.size 88 [.i (min c.a (aY c).a),.i (c.o+1)] by rw[←z2]; exact X);have p2:=kp (aO.chg o2.o o1 fun j hj hs=>by have:=(o2.o.lt j hj).1; omega);have a1:=kp (j3.o.trans (o1.below (fun j hs=>by have:=HZ.o.lt; omega) j3.o.size));have HD:=Tp i (i+1) Y p2.o (nG gU f) (by have:=HL.o; omega) rfl;rw[show ((i+1:Nat):Int)=(i:Int)+1 from rfl]at HD;have o5:=kp HD;have g5:(i:Int)+1≤9223372036854775807:=by omega
   clear o1 X z2 HD g m y0 y1 x0;go_wp2_with fail;refine (o5.o).mono ?_;rintro e w9 ⟨v9,rfl,p0,V,y6⟩;have j1:=kp p0;have d4:=kp (d6.o.chg V fun hs=>by have:=(p2.o.lt _ hs).1; omega);have j5:=kp (a1.o.trans (V.below (fun j hj=>by have:=(p2.o.lt j hj).1; omega) a1.o.size));clear p0 V y6;go_wp2_with fail;go_roundw
   case rel=>
    refine⟨v9,⟨min c.a (aY c).a,c.o+1⟩,eJ f (aY c),k-1,rfl,?_,d4.o,j5.o,q2.a,q2.b,q2.C,?_,?_,?_⟩
    .rw[←HE.a]; exact j1.o
    .obtain⟨k',rfl⟩:∃k',k=k'+1:=⟨k-1,by have:=s.E; omega⟩
     rw[←s.d]
     conv=>rhs; unfold dH
     rw[aE]
     .rfl
     .simp only[bI,bP,kZ];exact⟨J,_,HE.B,rfl⟩
    .have:=s.E;show o-(c.o+1)≤((k-1:Nat):Int);omega
    .have:=HL.o;exact aB (nB _ _) (by omega)
   case measure=>
    rw[show w9.cell? ⟨w.heap.size,1,none⟩=_ from d4.o.cell 1,show wr.cell? ⟨w.heap.size,1,none⟩=_ from N.o.cell 1];show (o-(c.o+1)).toNat<(o-c.o).toNat;omega
  all_goals
   have o3:=kp (Cj.2.2 vl f (·.a) c.a 289 #[] wT.heap.size wT HT.o.sl (aD _) (by omega) (Jf f s.b.sort) (enters_of func289 (by kernel_rfl) rfl) (fun W x _ _=>Ty x c.a W));go_wp2_with fail;refine mb' (o3.o) fun Y o0=>?_;have z3:=kp (HT.o.below o0);have X:=U.o.below o0 U.o.lt;have a6:=k'3 b2.o.size U.o.lt o0.size;have a1:=kp (b2.o.on o0);clear g m;have g:=X.cell 0;have m:=X.cell 1;simp only[aG,aK]at g m;have m1:=ba' Y (.cells #[.i c.a,.i c.o] 88);have l3:=kp (a1.o.on m1);have a4:=kp (z3.o.below m1);have p3:=kp (Jb (l2:=[c]) (eT (·.a) c.a f) Y.heap.size _ a4.o (Blk.new Y 88 [.i c.a,.i c.o]) (fun e=>by have:=(z3.o.lt _ e).2; omega) (Ci _ _ _) (by simp) (fun i hi=>by have:=a6.o; have:=m1.size; omega) (by simp; omega));clear o0 X m1 o3;go_wp2_with fail;refine (p3.o).mono ?_;rintro e w9 ⟨v9,rfl,p0,V,o6⟩;have j1:=k'2 p0 V;clear p0 V o6 g m p3;go_wp2_with fail;go_ret2;rw[y5.o];refine⟨_,rfl,?_,?_⟩
   .rw[←q3.o,←Je c f (Tu s.c)];exact j1.a.mono fun i _ h=>by omega
   .exact l3.o.trans ((j1.B.below (fun i hi=>by have:=(a4.o.lt i hi).1; omega) l3.o.size).mono (aD _))
end
section
section
variable {α:Type}{enc:α→List Value}{w w':World}{base k:Nat}{t:TypeId}{v:Value}{l:List α}
theorem Jk(b:∀a,(enc a).length=k){j:Nat}(f:j<k){u:Value}{x':α}:∀(l:List α)(i:Nat)(e:i<l.length),enc x'=(enc l[i]).set j u→(aM enc l).set (i*k+j) u=aM enc (l.set i x')
 |x::l,0,_,h=>by
  have c:aM enc (x::l)=enc x++aM enc l:=rfl;have d:aM enc (x'::l)=enc x'++aM enc l:=rfl;rw[aH,c,d,show 0*k+j=j by omega,zT _ _ (by rw[b]; exact f),h]; rfl
 |x::l,i+1,e,h=>by
  have c:aM enc (x::l)=enc x++aM enc l:=rfl;have d:aM enc (x::l.set i x')=enc x++aM enc (l.set i x'):=rfl;have g:(i+1)*k=i*k+k:=Nat.succ_mul i k;rw[aI,c,d,qM _ _ (by rw[b]; omega),b,show (i+1)*k+j-k=i*k+j by omega,Jk b f l i (by simpa using e) h]
theorem Ow.put{b n c:Nat}(h:Ow w base t k (.slice (some ⟨b,0,none⟩) n c) enc l)(m:∀a,(enc a).length=k)(i:Nat)(f:i<l.length){j:Nat}(g:j<k)(u:Value){x':α}(d:enc x'=(enc l[i]).set j u):
  Ow (w.setCell ⟨b,i*k+j,none⟩ u) base t k (.slice (some ⟨b,0,none⟩) n c) enc (l.set i x'):=by
 have o:n=l.length:=by
  rcases h.2 with⟨e,_⟩|⟨_,_,_,e,_⟩
  .cases e
  .injection e
 subst o;have:=Cs h (i*k+j) u;rw[Jk m g l i f d]at this;unfold Ow;rw[mI];exact this
theorem Ow.at_(h:Ow w base t k v enc l)(g:∀a,(enc a).length=k)(q:0<k)(G:0<l.length):∃b c,v=.slice (some ⟨b,0,none⟩) l.length c∧base≤b∧b<w.heap.size∧l.length≤c∧c≤maxLen∧
  (∀i(f:i<l.length) t u,(enc l[i])[t]? =some u→w.cell? ⟨b,i*k+t,none⟩=some u)∧∀j,w.frozen? ⟨b,j,none⟩=false:=by
 rcases h.2 with⟨_,e⟩|⟨b,c,F,m,s,d,z,y,_⟩
 .omega
 .refine⟨b,c,m,s,(fH.1 d).1,z,y,fun i f t u C=>?_,fun j=>?_⟩
  .obtain⟨A,E,n,B,_⟩:=h.sl g;obtain⟨D,H,r,_,x,_⟩:=bV (P:=prog) k g q B i f;rw[m]at n;injection n with e;rw[r]at e;injection e with e;injection e with o p;subst o p;have:=x t u C
   rwa [hY]at this
  .simp[World.frozen?,d]
end
def Apt(u v:Value):Prop:=∀i,u.ownBlock=some i→v.ownBlock≠some i
theorem Apt.symm{u v:Value}(h:Apt u v):Apt v u:=fun i b a=>h i a b
structure Rws(w:World)(base:Nat)(ps:List ObV):Prop where
 row:∀p∈ps,Ow w base 3 1 p.wv i1 p.x.ws∧Ow w base 3 1 p.lv i1 p.x.ls
 sep:(ps.flatMap fun p=>[p.wv,p.lv]).Pairwise Apt
section
variable {w w':World}{base g:Nat}{p:HpV}{ps:List ObV}
theorem Rws.below(h:Rws w base ps)(a:Bw' w w'):Rws w' base ps:=⟨fun p b=>⟨(h.row p b).1.below a,(h.row p b).2.below a⟩,h.sep⟩
theorem Rws.chg{S:Nat→Prop}(h:Rws w base ps)(e:Chg S w w')(d:∀p∈ps,∀i,S i→p.wv.ownBlock≠some i∧p.lv.ownBlock≠some i):Rws w' base ps:=
 ⟨fun p a=>⟨(h.row p a).1.chg e fun i b c=>(d p a i c).1 b,(h.row p a).2.chg e fun i b c=>(d p a i c).2 b⟩,h.sep⟩
theorem Rws.snoc{q:ObV}(h:Rws w base ps)(d:Ow w base 3 1 q.wv i1 q.x.ws)(e:Ow w base 3 1 q.lv i1 q.x.ls)(f:Apt q.wv q.lv)(g:∀p∈ps,Apt p.wv q.wv∧Apt p.wv q.lv∧Apt p.lv q.wv∧Apt p.lv q.lv):Rws w base (ps++[q]):=by
 refine⟨fun p a=>?_,?_⟩
 .rcases dF.1 a with a|a
  .exact h.row p a
  .rw[bQ.1 a]; exact⟨d,e⟩
 .rw[zV,pB];refine⟨h.sep,by simp[f],fun u b z c=>?_⟩;obtain⟨p,a,b⟩:=List.mem_flatMap.1 b;have:=g p a;simp only[nC,zZ,fS,bA,dW,or_false]at c b;rcases b with rfl|rfl<;>rcases c with rfl|rfl
  .exact this.1
  .exact this.2.1
  .exact this.2.2.1
  .exact this.2.2.2
structure Wk(w:World)(base g:Nat)(t:TypeId)(p:HpV)(ps:List ObV):Prop where
 blk:Blk w g t p.cells
 lo:base≤g
 obs:Ow w base 90 5 p.ov ObV.cells ps
 rws:Rws w base ps
 eq:p.x.obs=ps.map (·.x)
 free:OR w (fun i=>base≤i) 88 2 p.fv Bk.cells p.x.free
theorem Wk.below{t:TypeId}(h:Wk w base g t p ps)(a:Bw' w w'):Wk w' base g t p ps:=⟨h.blk.below a h.blk.lt,h.lo,h.obs.below a,h.rws.below a,h.eq,h.free.below a⟩
theorem Wk.hpAt{t:TypeId}(h:Wk w base g t p ps):gH w w.heap.size p ps:=
 ⟨⟨h.obs.sl cM,fun p a=>⟨(h.rws.row p a).1.sl cS,(h.rws.row p a).2.sl cS⟩⟩,h.eq,h.free.sl⟩
end
def Db(c v:Int):Value:=.agg #[.i c,.i v]
theorem Uh(c:Int)(w:World):Calls prog 195 #[.i c] w fun e w'=>e=.returned (Db c 0)∧Bw' w w':=by
 have d:=kp (ba' w (.cells #[.i c,.i 0] 53));have f:=kp ((Blk.new w 53 [.i c,.i 0]).cell 0);have g:=kp ((Blk.new w 53 [.i c,.i 0]).cell 1);go_enter func195,ntmps195;go_wp2_with fail;have a:=f.o;have b:=g.o;simp only[aG,aK]at a b;exact aU (v:=Db c 0) (by simp[results,results195,go_sem,a,b,Db]) rfl ⟨rfl,d.o⟩
theorem Ow.tag{α:Type}{enc:α→List Value}{w:World}{base k:Nat}{t:TypeId}{v:Value}{l:List α}(h:Ow w base t k v enc l){i:Nat}(a:v.ownBlock=some i):∃c f,w.heap[i]? =some (.cells c t f):=Lib.ownsRow_kind h i a
theorem Ow.apt{α β:Type}{enc:α→List Value}{g:β→List Value}{w:World}{base k base2 p:Nat}{t b:TypeId}{v d:Value}{l:List α}{l2:List β}(h:Ow w base t k v enc l)(j:Ow w base2 b p d g l2)(o:t≠b):Apt v d:=fun i m n=>by
 obtain⟨c,f,e⟩:=h.tag m;obtain⟨c2,q,a⟩:=j.tag n;rw[e]at a
 cases a;exact o rfl
theorem Ow.apt_or{α β:Type}{enc:α→List Value}{g:β→List Value}{w:World}{base k p:Nat}{S:Nat→Prop}{t b:TypeId}{v d:Value}{l:List α}{l2:List β}(h:Ow w base t k v enc l)(j:OR w S b p d g l2)(o:t≠b):Apt v d:=fun i m n=>by
 obtain⟨c,f,e⟩:=h.tag m;obtain⟨c2,a⟩:=aO.tag j n.symm;rw[e]at a
 cases a;exact o rfl
structure CB(W:World)(base b n c:Nat)(L:List ObV)(k:Nat)(y:ObV)(X:Nat→Option Value)(W':World):Prop where
 chg:Chg (fun i=>i=b) W W'
 two:∀u',X 11=some u'→∃u,X 8=some u∧Apt u u'∧Ow W' W.heap.size 3 1 u' i1 y.x.ls
 one:∀u,X 8=some u→Ow W' W.heap.size 3 1 u i1 y.x.ws
 row:∃L',Ow W' base 90 5 (.slice (some ⟨b,0,none⟩) n c) ObV.cells L'∧(X 14=none→L'=L)∧∀z,X 14=some z→∃u,X 8=some u∧L'=L.set k ⟨y.x,u,y.lv⟩
section
variable {W W' W2:World}{base b n c k:Nat}{L:List ObV}{y:ObV}{X:Nat→Option Value}{v:Value}
theorem CB.other(h:CB W base b n c L k y X W')(j:Nat)(v:Value)(a:j≠8)(d:j≠11)(f:j≠14):CB W base b n c L k y (bD X j v) W':=by
 have e:∀i,i≠j→bD X j v i=X i:=fun i g=>aC g;refine⟨h.chg,?_,?_,?_⟩
 .rw[e 11 (bL d),e 8 (bL a)]; exact h.two
 .rw[e 8 (bL a)]; exact h.one
 .rw[e 8 (bL a),e 14 (bL f)]; exact h.row
theorem CB.first(h:CB W base b n c L k y X W')(d:X 8=none)(q:Ow W2 W'.heap.size 3 1 v i1 y.x.ws)(f:Bw' W' W2):CB W base b n c L k y (bD X 8 v) W2:=by
 have e:∀i,i≠8→bD X 8 v i=X i:=fun i p=>aC p;refine⟨h.chg.then f,fun r a=>?_,fun u a=>?_,?_⟩
 .rw[e 11 (by decide)]at a;obtain⟨u,a,_⟩:=h.two r a;rw[d]at a
  cases a
 .cases a;exact Ow.mono q h.chg.size
 .obtain⟨j,l,m,o⟩:=h.row;refine⟨j,l.below f,by rw[e 14 (by decide)]; exact m,fun z g=>?_⟩;rw[e 14 (by decide)]at g;obtain⟨u,a,_⟩:=o z g;rw[d]at a
  cases a
theorem CB.second(h:CB W base b n c L k y X W')(p:(X 8).isSome=true)(g:Ow W2 W'.heap.size 3 1 v i1 y.x.ls)(d:Bw' W' W2):CB W base b n c L k y (bD X 11 v) W2:=by
 have e:∀i,i≠11→bD X 11 v i=X i:=fun i f=>aC f;refine⟨h.chg.then d,fun r a=>?_,?_,?_⟩
 .cases a;obtain⟨u,a⟩:=Option.isSome_iff_exists.1 p;refine⟨u,by rw[e 8 (by decide)]; exact a,fun i f q=>?_,Ow.mono g h.chg.size⟩;have:=((h.one u a).lt f).2;have:=(g.lt q).1;omega
 .rw[e 8 (by decide)]; exact fun u a=>(h.one u a).below d
 .obtain⟨j,l,m,o⟩:=h.row;exact⟨j,l.below d,by rw[e 14 (by decide)]; exact m,by rw[e 14 (by decide),e 8 (by decide)]; exact o⟩
theorem CB.third(h:CB W base b n c L k y X W'){u z:Value}(r:X 14=none)(q:X 8=some u)(A:k<L.length)(C:L[k]=y):CB W base b n c L k y (bD X 14 z) (W'.setCell ⟨b,k*5+3,none⟩ u):=by
 have e:∀i,i≠14→bD X 14 z i=X i:=fun i d=>aC d;obtain⟨o,g,p,_⟩:=h.row;obtain rfl:=p r;have l:Chg (fun i=>i=b) W' (W'.setCell ⟨b,k*5+3,none⟩ u):=(Chg.refl (fun i=>i=b) W').setCell (.inr rfl) _ _;refine⟨h.chg.setCell (.inr rfl) _ _,fun f a=>?_,fun f a=>?_,o.set k ⟨y.x,u,y.lv⟩,g.put cM k A (by decide:3<5) u (x':=⟨y.x,u,y.lv⟩) (by rw[C]; rfl),fun D=>?_,fun _ _=>⟨u,?_,rfl⟩⟩
 .rw[e 11 (by decide)]at a;obtain⟨u2,B,s,m⟩:=h.two f a;exact⟨u2,by rw[e 8 (by decide)]; exact B,s,m.chg l fun i d j=>g.apt m (by decide) i (by rw[j]; rfl) d⟩
 .rw[e 8 (by decide)]at a;exact (h.one f a).chg l fun i d j=>g.apt (h.one f a) (by decide) i (by rw[j]; rfl) d
 .cases D
 .rw[e 8 (by decide)]; exact q
end
def fK(_ _:World):Prop:=True
theorem aV{w w':World}:fK w w':=trivial
def eM(_:Value)(_:World):Prop:=True
def rM(w w':World):Prop:=Bw' w w'
theorem Ui(p:HpV)(ps:List ObV)(B:Nat)(w:World)(h:gH w B p ps)(hB:B≤w.heap.size)(hn:ps.length≤1000)(o6:p.x.free.length≤1000)(hr:∀q∈ps,q.x.ws.length≤1000∧q.x.ls.length≤1000):
  Calls prog 196 #[.agg p.cells.toArray] w fun e w'=>∃g p' p5,e=.returned (.pointer (some ⟨g,0,none⟩))∧p'.x=p.x∧Wk w' w.heap.size g 228 p' p5∧Bw' w w':=by
 have hH:=cI.of (Blk.new w 29 p.cells);have q1:=hH.c1;have q7:=hH.c7;have b1:=ba' w (.cells p.cells.toArray 29);have HS:=kp (h.below b1 hB);have HB:=kp b1;have N:=kp hH;have a1:=kp (aB hB b1.size);have j2:=kp hr;have H0:=kp h;clear h hH b1 hr;obtain⟨n,hl⟩:=nm' ps.length;rw[hl]at hn;have V:=kp hl; clear hl;go_enter func196,ntmps196;go_wp2_with fail;generalize w.alloc (.cells p.cells.toArray 29)=W at *;have j4:=kp (fun(W':World)(F:Bw' W W')=>fam'6.2.2.2.2.2.1 p.ov ps B W' (HS.a.1.below F a1.o) (aB a1.o F.size) (by have:=V.o; omega) (fun x hx u hu=>by
  have:=(HS.a.2 x hx)
  unfold ObV.cells at hu;simp only[bA,dW,or_false]at hu;rcases hu with rfl|rfl|rfl|rfl|rfl
  .rfl
  .rfl
  .rfl
  .exact this.1.one
  .exact this.2.one))
 have a4:=kp (fun(W':World)(F:Bw' W W')=>fam'6.2.1 p.fv p.x.free B W' (HS.C.below F a1.o) (aB a1.o F.size) (by omega));clear q1 q7;refine kU 7 (fun W'=>Bw' W W') (fun _=>rM) (by kernel_rfl) (by kernel_rfl) (bR (aL _ _)) ?_
 iterate 2 (refine bO ?_; apply Exists.intro)
 refine bS (fun u W'=>Ow W' W.heap.size 90 5 u ObV.cells ps) ?_
 iterate 2 (refine bO ?_; apply Exists.intro)
 refine bS (fun u W'=>Ow W' W.heap.size 88 2 u Bk.cells p.x.free) ?_;refine bO ?_; apply Exists.intro;refine dR ⟨?pers,?walk⟩
 case walk=>
  iterate 2
   apply Sz (by kernel_rfl) (by intro t w h; cases h; exact trivial) rfl
   .intro W' d j; have q1:=(N.o.below d).c1; go_wp2_with fail;exact⟨rfl,_,rfl,d,aL _ _,rfl⟩
   simp only[Act.put,aN,aH,aI]
  refine⟨fun W' d j=>?_,fun u=>?_⟩
  .go_wp2_with fail;refine (j4.o W' d).mono ?_;rintro e w2 ⟨v2,rfl,T,l⟩;go_wp2_with fail;exact⟨rfl,_,rfl,d.on l,l,Ow.mono T d.size⟩
  simp only[Act.put,aN,aH,aI]
  iterate 2
   apply Sz (by kernel_rfl) (by intro t w h; cases h; exact trivial) rfl
   .intro W' d j; have q7:=(N.o.below d).c7; go_wp2_with fail;exact⟨rfl,_,rfl,d,aL _ _,rfl⟩
   simp only[Act.put,aN,aH,aI]
  refine⟨fun W' d j=>?_,fun u5=>?_⟩
  .go_wp2_with fail;refine (a4.o W' d).mono ?_;rintro e w2 ⟨v2,rfl,T,l⟩;go_wp2_with fail;exact⟨rfl,_,rfl,d.on l,l,Ow.mono T d.size⟩
  simp only[Act.put,aN,aH,aI];apply Sz (by kernel_rfl) (by intro t w h; cases h; exact trivial) rfl
  .intro W' d j; go_wp2_with fail;exact⟨rfl,_,rfl,d,aL _ _,rfl⟩
  simp only[Act.put,aN,aH,aI];intro W3 d j;have f2:Ow W3 W.heap.size 90 5 u ObV.cells ps:=j 7;have f5:Ow W3 W.heap.size 88 2 u5 Bk.cells p.x.free:=j 10;clear j;simp only[dO,dP];obtain⟨A,c,rfl,-,l5,e6⟩:=f2.sl cM;rw[V.o]at f2 l5 ⊢;obtain⟨E,c5,rfl,-,-,-⟩:=f5.sl bM;have O:=N.o.below d;have g1:=((Chg.refl (fun i=>i=w.heap.size) W3).setCell (.inr rfl) 1 (.slice A n c)).setCell (.inr rfl) 7 (.slice E p.x.free.length c5);have b3:cI ((W3.setCell ⟨w.heap.size,1,none⟩ (.slice A n c)).setCell ⟨w.heap.size,7,none⟩ (.slice E p.x.free.length c5)) w.heap.size 29 ⟨p.x,.slice A n c,.slice E p.x.free.length c5⟩:=.of ((O.blk.setCell 1 (.slice A n c)).setCell 7 (.slice E p.x.free.length c5));have y1:=O.blk.frozen 1;have y7:=O.blk.frozen 7;have q1:=O.c1;have q7:=O.c7;have y3:w.heap.size<W.heap.size:=N.o.blk.lt;have b5:=kp y3;have z3:=kp ((HB.o.on d).trans (g1.below (fun i f=>fU f.symm) (by have:=O.blk.lt; omega)));have F2:=kp (f2.chg g1 fun i f e=>by have:=(f2.lt f).1; omega);have F5:=kp (show OR _ (fun i=>w.heap.size≤i) 88 2 _ Bk.cells p.x.free from OR.of_ow (f5.chg g1 fun i f e=>by have:=(f5.lt f).1; omega) fun i h _=>by omega);have q4:=kp b3;clear f2 f5 g1 b3 d O y3;go_wp2_with fail
  go_loopw [16] (fun i wr=>∃(k:Nat)(m:List ObV),i=.i k∧(k≤n∧m.length=k∧m.map (·.x)=(ps.take k).map (·.x))∧cI wr w.heap.size 29 ⟨p.x,.slice A n c,.slice E p.x.free.length c5⟩∧Ow wr W.heap.size 90 5 (.slice A n c) ObV.cells (m++ps.drop k)∧Rws wr W.heap.size m∧
   OR wr (fun i=>w.heap.size≤i) 88 2 (.slice E p.x.free.length c5) Bk.cells p.x.free∧Bw' w wr) (fun i _=>n-(intOf i).toNat)
  case atStart=>exact⟨0,[],rfl,⟨by omega,rfl,rfl⟩,q4.o,F2.o,⟨by simp,by simp⟩,F5.o,z3.o⟩
  case round=>
   obtain⟨k,m,rfl,hk,hI,ho,o3,hf,z2⟩:=hrel;have H:=kp hk;have r:=kp hI;have Y:=kp ho;have I:=kp o3;have HF:=kp hf;have M:=kp z2;have j6:=hk.1;clear hk hI ho o3 hf z2
   by_cases o5:k<n
   .have z1:(m++ps.drop k).length=n:=by have:=H.o; have:=V.o; simp; omega
    have m0:k<ps.length:=by have:=V.o; omega
    obtain⟨b,cb,hA,a6,b6,-,-,a3,g6⟩:=Y.o.at_ cM (by omega) (by omega);have s:k<(m++ps.drop k).length:=by rw[z1]; exact o5
    rw[z1]at hA;obtain⟨rfl,-,rfl⟩:=Value.slice.inj hA;have o1:(m++ps.drop k)[k]'s=ps[k]:=by
     rw[List.getElem_append_right (by rw[H.b]; exact aD _)];simp[H.b]
    have Q:=a3 k s;rw[o1]at Q;obtain⟨Aw,cw,Al,cl,z0,o0,-,j3,l3⟩:=vH HS.a k m0;have x0:wr.cell? ⟨b,k*5+0,none⟩=some (.i ps[k].x.h):=Q 0 _ rfl;have x1:wr.cell? ⟨b,k*5+1,none⟩=some (.i ps[k].x.b.a):=Q 1 _ rfl;have x2:wr.cell? ⟨b,k*5+2,none⟩=some (.i ps[k].x.b.o):=Q 2 _ rfl;have x3:wr.cell? ⟨b,k*5+3,none⟩=some ps[k].wv:=Q 3 _ rfl;have x4:wr.cell? ⟨b,k*5+4,none⟩=some ps[k].lv:=Q 4 _ rfl;simp only[cF]at x0;have m4:=kp (show ps.drop k=ps[k]::ps.drop (k+1) from fG m0);have a5:=kp (show ps.take (k+1)=ps.take k++[ps[k]] from cV m0);have HM:=kp (show ps[k]∈ps from bK m0);have g2:=kp (show ∃h:k<(m++ps.drop k).length,(m++ps.drop k)[k]=ps[k] from⟨s,o1⟩);clear Q a3 hA o1 z1 s;generalize ps[k]'m0=y at *;have g3:(k:Int)<(n:Int):=by omega
    rw[z0]at x3;rw[o0]at x4;have y5:=k'2 z0 o0;have m6:y.x.ws.length≤9223372036854775807:=by unfold maxLen at j3; omega
    have l6:y.x.ls.length≤9223372036854775807:=by unfold maxLen at l3; omega
    have b2:gJ (wr.alloc (.cells #[.i y.x.h,.i y.x.b.a,.i y.x.b.o,.slice Aw y.x.ws.length cw,.slice Al y.x.ls.length cl] 90)) wr.heap.size 90 y:=.of (by
     have:=Blk.new wr 90 y.cells;unfold ObV.cells at this;rw[z0,o0]at this;unfold ObV.cells;rw[z0,o0];exact this)
    have l:=ba' wr (.cells #[.i y.x.h,.i y.x.b.a,.i y.x.b.o,.slice Aw y.x.ws.length cw,.slice Al y.x.ls.length cl] 90);obtain⟨W2,q2⟩:=nm' (wr.alloc (.cells #[.i y.x.h,.i y.x.b.a,.i y.x.b.o,.slice Aw y.x.ws.length cw,.slice Al y.x.ls.length cl] 90));rw[q2]at b2 l;have e5:=kp b2;have G:=kp l;have m1:B≤wr.heap.size:=aB hB M.o.size;have e1:B≤W2.heap.size:=aB m1 G.o.size;have m2:=k'2 (((H0.a.2 y HM.o).1.below M.o hB).below G.o m1) (((H0.a.2 y HM.o).2.below M.o hB).below G.o m1);have l4:=kp (fun(W':World)(F:Below B W2 W')(U:W2.heap.size≤W'.heap.size)=>fam'6.1 y.wv y.x.ws B W' (m2.a.below F (aD _)) (aB e1 U) (by have:=j2.o y HM.o; omega));have g4:=kp (fun(W':World)(F:Below B W2 W')(U:W2.heap.size≤W'.heap.size)=>fam'6.1 y.lv y.x.ls B W' (m2.B.below F (aD _)) (aB e1 U) (by have:=j2.o y HM.o; omega));clear b2 l z0 o0 j3 l3;go_wp2_with fail;clear q2 x0 x1 x2 x3 x4;have o4:=kp (r.o.below G.o);have y4:=kp (Y.o.below G.o);have y2:w.heap.size≠b:=by have:=N.o.blk.lt; omega
    have j5:wr.heap.size≠b:=by omega
    have o2:B≤b:=by have:=N.o.blk.lt; omega
    have p4:=kp (fun(W':World)(h:Chg (fun i=>i=b) W2 W')=>(show cI W' w.heap.size 29 ⟨p.x,.slice (some ⟨b,0,none⟩) n c,.slice E p.x.free.length c5⟩ from .of (o4.o.blk.chg h y2)).c1);have l2:=kp (fun(W':World)(h:Chg (fun i=>i=b) W2 W')=>(show gJ W' wr.heap.size 90 y from .of (e5.o.blk.chg h j5)));refine fR 15 (CB W2 W.heap.size b n c (m++ps.drop k) k y) (fun _=>fK) (by kernel_rfl) (by kernel_rfl) ⟨(Chg.refl _ _).drew,(fun _ h=>by cases h),(fun _ h=>by cases h),_,y4.o.below (bR (aL _ _)),fun _=>rfl,fun _ h=>by cases h⟩ ?_
    iterate 8 (refine bO ?_; apply Exists.intro)
    refine bS eM ?_
    iterate 2 (refine bO ?_; apply Exists.intro)
    refine bS eM ?_
    iterate 2 (refine bO ?_; apply Exists.intro)
    refine bS eM ?_;refine dR ⟨?pers2,?walk2⟩
    case walk2=>
     iterate 8
      apply Ug (by kernel_rfl) (by intro t w h; cases h; exact trivial) rfl
      .intro X W' d J D P j; have q1:W'.cell? ⟨w.heap.size,1,none⟩=some (.slice (some ⟨b,0,none⟩) n c):=p4.o W' d.chg; have x3:=(l2.o W' d.chg).c3; go_wp2_with fail;exact⟨rfl,_,rfl,d.other _ _ (by decide) (by decide) (by decide),aV,rfl⟩
      simp only[Act.put,aN,aH,aI,aT,aW]
     refine⟨fun X W' d J D P j=>?_,fun L=>?_⟩
     .go_wp2_with fail;refine (l4.o W' (d.chg.below (fun i f=>by rw[f]; exact o2) e1) d.chg.size).mono ?_;rintro e w2 ⟨v2,rfl,T,l⟩;go_wp2_with fail;exact⟨rfl,_,rfl,d.first J T l,aV,trivial⟩
     simp only[Act.put,aN,aH,aI,aT,aW]
     iterate 2
      apply Ug (by kernel_rfl) (by intro t w h; cases h; exact trivial) rfl
      .intro X W' d J D P j; have x4:=(l2.o W' d.chg).c4; go_wp2_with fail;exact⟨rfl,_,rfl,d.other _ _ (by decide) (by decide) (by decide),aV,rfl⟩
      simp only[Act.put,aN,aH,aI,aT,aW]
     refine⟨fun X W' d J D P j=>?_,fun a0=>?_⟩
     .go_wp2_with fail;refine (g4.o W' (d.chg.below (fun i f=>by rw[f]; exact o2) e1) d.chg.size).mono ?_;rintro e w2 ⟨v2,rfl,T,l⟩;go_wp2_with fail;exact⟨rfl,_,rfl,d.second (D 8 (by kernel_rfl)) T l,aV,trivial⟩
     simp only[Act.put,aN,aH,aI,aT,aW]
     iterate 2
      apply Ug (by kernel_rfl) (by intro t w h; cases h; exact trivial) rfl
      .intro X W' d J D P j; go_wp2_with fail;exact⟨rfl,_,rfl,d.other _ _ (by decide) (by decide) (by decide),aV,rfl⟩
      simp only[Act.put,aN,aH,aI,aT,aW]
     refine⟨fun X W' d J D P j=>?_,fun q5=>?_⟩
     .have h8:X 8=some L:=P 8 29 L (by kernel_rfl) (by kernel_rfl) (bT (by kernel_rfl)) rfl;obtain⟨A8,c8,rfl,-,-,-⟩:=Ow.sl (d.one L h8) cS;obtain⟨L',m3,p2,-⟩:=d.row;obtain rfl:=p2 J;obtain⟨s,p1⟩:=g2.o;obtain⟨b',g5,b0,-,-,-,-,j0,l0⟩:=m3.at_ cM (by omega) (by omega);have l1:=(Value.slice.inj b0).1;clear b0
      cases l1;have f3:=l0 (k*5+3);have e3:=j0 k s 3 y.wv (by rw[p1]; rfl);have z4:=kp (d.third (z:=undef) J h8 s p1);clear d m3 p2 l0 j0 P j D;go_wp2_with fail;exact⟨rfl,undef,rfl,z4.o,aV,trivial⟩
     simp only[Act.put,aT,aW];intro W5 d j;clear j;simp only[dO,dP];obtain⟨u,e8,e0,p0⟩:=d.two a0 rfl;obtain rfl:L=u:=by cases e8; rfl
     have a2:=d.one L rfl;obtain⟨L',q0,-,hL⟩:=d.row;obtain⟨u,e8,rfl⟩:=hL q5 rfl;obtain rfl:L=u:=by cases e8; rfl
     obtain⟨s,p1⟩:=g2.o;obtain⟨b',g5,b0,-,-,-,-,j0,l0⟩:=q0.at_ cM (by omega) (by rw[mI]; omega);have l1:=(Value.slice.inj b0).1;clear b0
     cases l1;have f4:=l0 (k*5+4);have e4:=j0 k (by rw[mI]; exact s) 4 y.lv (by rw[Ox]; rfl);obtain⟨e2,c11,rfl,-,-,-⟩:=Ow.sl p0 cS;obtain⟨a0,q3⟩:=nm' (Value.slice e2 y.x.ls.length c11);have y0:=q0.put cM k (by rw[mI]; exact s) (by decide:4<5) a0 (x':=⟨y.x,L,a0⟩) (by rw[Ox]; rfl);rw[List.set_set]at y0;have j1:Chg (fun i=>i=b) W5 (W5.setCell ⟨b,k*5+4,none⟩ a0):=(Chg.refl (fun i=>i=b) W5).setCell (.inr rfl) _ _;rw[q3]at e0 p0;have Z:=a2.chg j1 fun i f U=>q0.apt a2 (by decide) i (by rw[U]; rfl) f;have h2:=p0.chg j1 fun i f U=>q0.apt p0 (by decide) i (by rw[U]; rfl) f;have R:Chg (fun i=>i=b) wr (W5.setCell ⟨b,k*5+4,none⟩ a0):=((Chg.of_below G.o).trans d.chg fun _ _ h=>h).trans j1 fun _ _ h=>h;have HN:=k'5 y0 Z h2 e0 R;subst q3;clear y0 Z h2 e0 R j1 p0 a2 q0 hL d l0 j0 e8;go_wp2_with fail;go_roundw
     case rel=>
      obtain⟨y0,Z,h2,e0,R⟩:=HN.o;have p3:W.heap.size≤W2.heap.size:=by have:=G.o.size; omega
      refine⟨k+1,m++[⟨y.x,L,.slice e2 y.x.ls.length c11⟩],by go_num,⟨by omega,by rw[bB,H.b]; rfl,?_⟩,.of (r.o.blk.chg R y2),?_,?_,aO.chg HF.o R (fun i f e=>Y.o.apt_or HF.o (by decide) i (by rw[e]; rfl) f.symm),M.o.trans (R.below (fun i f=>by have:=N.o.blk.lt; omega) M.o.size)⟩
      .rw[a5.o,gC,gC,H.C]; rfl
      .refine y0.eqv ?_;rw[m4.o,qM _ _ (by rw[H.b]; exact aD _),H.b,qS,aH,cR]; rfl
      .refine (I.o.chg R fun q K i f=>⟨Y.o.apt (I.o.row q K).1 (by decide) i (by rw[f]; rfl),Y.o.apt (I.o.row q K).2 (by decide) i (by rw[f]; rfl)⟩).snoc (Z.mono p3) (h2.mono p3) e0 fun q K=>?_;have D:=(I.o.row q K).1;have hl:=(I.o.row q K).2;have:=G.o.size;refine⟨fun i f S=>?_,fun i f S=>?_,fun i f S=>?_,fun i f S=>?_⟩
       .have:=(D.lt f).2; have:=(Z.lt S).1; omega
       .have:=(D.lt f).2; have:=(h2.lt S).1; omega
       .have:=(hl.lt f).2; have:=(Z.lt S).1; omega
       .have:=(hl.lt f).2; have:=(h2.lt S).1; omega
     case measure=>simp[intOf]; omega
    case pers2=>exact⟨pv',pv',pv',pv',pv',pv',pv',pv',fun _ _ _ _ _ h _=>h,pv',pv',fun _ _ _ _ _ h _=>h,pv',pv',fun _ _ _ _ _ h _=>h,trivial⟩
   .obtain rfl:k=n:=by omega
    have d0:=r.o.c0;have d1:=r.o.c1;have d2:=r.o.c2;have d3:=r.o.c3;have d4:=r.o.c4;have d5:=r.o.c5;have d6:=r.o.c6;have d7:=r.o.c7;go_wp2_with fail;go_ret;have g0:=ba' wr (.cells (HpV.cells ⟨p.x,.slice A k c,.slice E p.x.free.length c5⟩).toArray 228);have m5:ps.drop k=[]:=gS (by have:=V.o; omega);have z5:=b5.o;refine⟨wr.heap.size,rfl,⟨p.x,.slice A k c,.slice E p.x.free.length c5⟩,rfl,⟨m,Blk.new _ _ _,M.o.size,?_,?_,?_,HF.o.below g0⟩,M.o.on g0⟩
    .exact ((Y.o.below g0).mono (by omega)).eqv (by rw[m5,fS])
    .exact⟨fun q K=>⟨((I.o.row q K).1.below g0).mono (by omega),((I.o.row q K).2.below g0).mono (by omega)⟩,I.o.sep⟩
    .rw[H.C,cN (by have:=V.o; omega)]; exact HS.b
 case pers=>
  refine⟨pv',pv',fun _ _ _ _ _ h hR=>h.below hR,pv',pv',fun _ _ _ _ _ h hR=>h.below hR,pv',trivial⟩
end
section
attribute [-go_sem] loadCellsFrom storeCells
attribute [local go_sem] bC
theorem HpV.one{p:HpV}(b:p.ov.oneCell'=true)(c:p.fv.oneCell'=true):∀u∈p.cells,u.oneCell'=true:=fun u a=>by
 unfold HpV.cells at a;simp only[bA,dW,or_false]at a;rcases a with rfl|rfl|rfl|rfl|rfl|rfl|rfl|rfl
 all_goals first |rfl|exact b|exact c
def Uj(o:Int):Hp:=if cP o=true then ⟨o,1,0,0,0,0,[],[⟨0,o⟩]⟩ else ⟨0,0,0,0,0,0,[],[]⟩
end
section
attribute [-go_sem] loadCellsFrom storeCells
attribute [local go_sem] bC
def bZ(w:World)(r:Nat)(a b:Int):Prop:=Blk w r 53 [.i a,.i b]
section
variable {w w':World}{r:Nat}{a b:Int}
theorem bZ.new(w:World):bZ (w.alloc (.cells #[.i 0,.i 0] 53)) w.heap.size 0 0:=Blk.new w _ [.i 0,.i 0]
theorem bZ.store(h:bZ w r a b)(c d:Int):Sem.run prog (storeCells ⟨r,0,none⟩ [.i c,.i d] 0) w=.ok () (w.setRow r #[.i c,.i d]):=Blk.store (P:=prog) (cs':=[.i c,.i d]) h rfl (by
 intro u e;simp only[bA,dW,or_false]at e;rcases e with rfl|rfl<;>rfl)
theorem bZ.set(h:bZ w r a b)(c d:Int):bZ (w.setRow r #[.i c,.i d]) r c d:=Blk.set h [.i c,.i d]
theorem bZ.load(h:bZ w r a b):Sem.run prog (loadCellsFrom ⟨r,0,none⟩ 0 2 #[]) w=.ok #[.i a,.i b] w:=Blk.load (P:=prog) h rfl
theorem bZ.below(h:bZ w r a b)(c:Bw' w w'):bZ w' r a b:=Blk.below h c (Blk.lt h)
end
theorem mR(c:Int)(w:World):Calls prog 195 #[.i c] w fun e w'=>e=.returned (.agg #[.i c,.i 0])∧Bw' w w':=Uh c w
theorem Jl{p:HpV}{ps:List ObV}{g b j:Nat}{D:TypeId}{m:List Value}(t:Int)(w:World)(I:cI w g 228 p)(K:Sl w w.heap.size p.ov ObV.cells ps)(R:ps.length≤1000)(M:iL (fun p:ObV=>p.x.h) ps)(z:Blk w b D m)(L:j<m.length):
  Calls prog 229 #[.pointer (some ⟨g,0,none⟩),.pointer (some ⟨b,j,none⟩),.i t] w fun e w'=>e=.returned (.agg #[.i (if dS (ps.map (·.x)) t=true then 0 else 51),.i 0])∧Chg (fun i=>i=b) w w'∧Blk w' b D (if dS (ps.map (·.x)) t=true then m.set j (.i t) else m):=by
 have N:=bZ.new w;have f:=ba' w (.cells #[.i 0,.i 0] 53);have J:=I.below f;have T:=J.c1;have l:=kp (Id p.ov ps t w.heap.size _ (K.below f (aD _)) f.size (by omega) M);have k:=kp (z.below f z.lt);have q:=kp z.lt;have F:=kp L;have B:=kp f;have C:=kp N
 cases hr:dS (ps.map (·.x)) t
 .rw[hr]at l;go_enter func229,ntmps229;go_wp2_with fail;refine mb' (l.o) fun P a=>?_;have s:=kp (C.o.below a);have c:=kp (k.o.below a k.o.lt);have n:=kp (B.o.on a);go_wp2_with fail;refine mb' (mR 51 _) fun U A=>?_;have d:=kp (s.o.below A);have G:=kp (c.o.below A c.o.lt);have E:=kp (n.o.on A);have H:=d.o.store 51 0;go_wp2_with fail;have r:=d.o.set 51 0;have y:=r.load;exact aU (v:=.agg #[.i 51,.i 0]) (by simp[results,results229,go_sem,y]) rfl ⟨by simp,(Chg.of_below E.o).setRow (.inl (aD _)) _,G.o.other (by have:=q.o; omega) _⟩
 .rw[hr]at l;go_enter func229,ntmps229;go_wp2_with fail;refine mb' (l.o) fun P a=>?_;have s:=kp (C.o.below a);have c:=kp (k.o.below a k.o.lt);have n:=kp (B.o.on a);have O:=c.o.cell j;have Q:=c.o.frozen j;rw[eK F.o]at O;have d:=kp (Blk.otherCell s.o (g':=b) (by have:=q.o; omega) j (.i t));have H:=bZ.store d.o 0 0;go_wp2_with fail;have r:=bZ.set d.o 0 0;have y:=r.load;exact aU (v:=.agg #[.i 0,.i 0]) (by simp[results,results229,go_sem,y]) rfl ⟨by simp,((Chg.of_below (S:=fun i=>i=b) n.o).setCell (.inr rfl) _ _).setRow (.inl (aD _)) _,(c.o.setCell j _).other (by have:=q.o; omega) _⟩
theorem Dc(t:Int)(l:List Int)(k:Nat)(a:k<l.length):eH t (l.take (k+1))=eH t (l.take k)++[if l[k]=t then 0 else l[k]]:=by
 unfold eH;rw[cV a,gC]; rfl
theorem Jm{y:ObV}{s b a c:Nat}{r:TypeId}{pre post:List Value}{xs:List Int}(w:World)(P:gJ w s 90 y)(I:Blk w b r (pre++iv xs++post))(O:pre.length=a)(N:s≠b)(K:xs.length≤c)(M:xs.length≤1000000):
  Calls prog 274 (#[.slice (some ⟨b,a,none⟩) xs.length c]++#[.pointer (some ⟨s,0,none⟩)]) w fun e w'=>e=.returned (.tuple #[])∧Chg (fun i=>i=b) w w'∧Blk w' b r (pre++iv (eH y.x.h xs)++post):=by
 show Calls _ _ #[.slice (some ⟨b,a,none⟩) xs.length c,.pointer (some ⟨s,0,none⟩)] _ _;obtain⟨n,E⟩:=nm' xs.length;rw[E]at K M ⊢;have m:=kp E;have F:=kp I;have G:=kp P;have f:=kp O;go_enter func274,ntmps274;go_wp2_with fail
 go_loopw [7] (fun i wr=>∃k:Nat,i=.i k∧k≤n∧Blk wr b r (pre++iv (eH y.x.h (xs.take k)++xs.drop k)++post)∧Chg (fun i=>i=b) w wr) (fun i _=>n-(intOf i).toNat)
 case atStart=>exact⟨0,rfl,by omega,F.o,Chg.refl _ _⟩
 case round=>
  obtain⟨k,rfl,U,J,D⟩:=hrel;have d:=kp J;have l:=kp D;have Q:=gJ.of (G.o.blk.chg D N);have W:=Q.c0
  by_cases V:k<n
  .have q:k<xs.length:=by have:=m.o; omega
   have T:(k:Int)<n:=by omega
   have g:(eH y.x.h (xs.take k)).length=k:=by unfold eH; rw[cW,cZ]; omega
   have L:(pre++iv (eH y.x.h (xs.take k)++xs.drop k)++post)[a+k]? =some (.i xs[k]):=by
    rw[cR,Er (by have:=f.o; omega),f.o,lS (by rw[fM,bB,dX,g]; omega),Es,lU _ _ (by rw[bB,dX,g]; omega)];simp[g]
   have R:=d.o.cell (a+k);have S:=d.o.frozen (a+k);rw[L]at R;have C:=kp (Dc y.x.h xs k q);have A:=kp (show xs.drop k=xs[k]::xs.drop (k+1) from fG q);have B:=kp g;generalize xs[k]'q=z at *
   by_cases j:z=y.x.h
   .have H:(z==y.x.h)=true:=by simp[j]
    have p:=kp j;go_wp2_with fail;go_roundw
    case rel=>
     refine⟨k+1,by go_num,by omega,?_,l.o.setCell (.inr rfl) _ _⟩;have:=d.o.setCell (a+k) (.i 0);rw[cR,qM _ _ (by have:=f.o; omega),f.o,Es,A.o,oI,cR,qM _ _ (by rw[fM,B.o]; exact aD _),fM,B.o,qS]at this;rw[C.o,aE p.o,oI,oI];simpa [iv] using this
    case measure=>simp[intOf]; omega
   .have H:(z==y.x.h)=false:=by simp[j]
    have p:=kp j;go_wp2_with fail;go_roundw
    case rel=>
     refine⟨k+1,by go_num,by omega,?_,l.o⟩;have:=d.o;rw[A.o]at this;rw[C.o,aC p.o];simpa [iv] using this
    case measure=>simp[intOf]; omega
  .obtain rfl:k=n:=by omega
   go_wp2_with fail;go_end0;refine⟨rfl,l.o,?_⟩;have:=d.o;rw[cN (by have:=m.o; omega),gS (by have:=m.o; omega),fS]at this;exact this
end
section
theorem Blk.ne{w:World}{b c:Nat}{t d:TypeId}{f cs':List Value}(h:Blk w b t f)(a:Blk w c d cs')(g:t≠d):b≠c:=fun e=>by
 subst e;unfold Blk at h a;rw[h]at a;injection a with a
 injection a with _ a
 exact g a
theorem Uk{α β:Type}(f:α→List β){l m:List α}(h:l.Sublist m):(l.flatMap f).Sublist (m.flatMap f):=by
 induction h with
 |slnil=>exact List.Sublist.refl _
 |cons a _ b=>rw[nC]; exact List.sublist_append_of_sublist_right b
 |cons_cons a _ b=>rw[nC,nC]; exact List.Sublist.append (List.Sublist.refl _) b
section
variable {w w':World}{base g:Nat}{t:TypeId}{p:HpV}{ps:List ObV}{v:Value}{l:List Int}
theorem Ow.blk(h:Ow w base t 1 v i1 l)(p:0<l.length):∃b c post,v=.slice (some ⟨b,0,none⟩) l.length c∧l.length≤c∧base≤b∧Blk w b t (iv l++post)∧∀w' l',l'.length=l.length→Blk w' b t (iv l'++post)→Ow w' base t 1 v i1 l':=by
 rcases h.2 with⟨_,e⟩|⟨b,c,a,i,d,k,o,n,q,g⟩
 .omega
 .rw[pK,oF]at g;have f:a.toList=iv l++a.toList.drop l.length:=by rw[←g]; exact (wB _ _).symm
  refine⟨b,c,a.toList.drop l.length,i,o,d,?_,fun w' l' m j=>?_⟩
  .unfold Blk;rw[←f];simpa using k
  .refine⟨by rw[pK,fM]; omega,.inr ⟨b,c,(iv l'++a.toList.drop l.length).toArray,by rw[m]; exact i,d,j,by omega,n,?_,?_⟩⟩
   .have:=bG List.length f;simp only[bB,fM,gT,hP]at this ⊢;omega
   .rw[pK,oF,←fM l'];exact List.take_left
theorem Rws.at_(h:Rws w base ps){i k:Nat}(a:i<ps.length)(b:k<ps.length)(f:i≠k):Apt ps[i].wv ps[k].wv∧Apt ps[i].wv ps[k].lv∧Apt ps[i].lv ps[k].wv∧Apt ps[i].lv ps[k].lv:=by
 have c:=(List.pairwise_flatMap.1 h.sep).2;rcases mJ i k with d|e
 .have:=List.pairwise_iff_getElem.1 c i k a b d;simp only[bA,dW,or_false,forall_eq_or_imp,forall_eq]at this;exact⟨this.1.1,this.1.2,this.2.1,this.2.2⟩
 .have:=List.pairwise_iff_getElem.1 c k i b a (by omega);simp only[bA,dW,or_false,forall_eq_or_imp,forall_eq]at this;exact⟨this.1.1.symm,this.2.1.symm,this.1.2.symm,this.2.2.symm⟩
theorem Rws.self(h:Rws w base ps){k:Nat}(a:k<ps.length):Apt ps[k].wv ps[k].lv:=by
 have b:=(List.pairwise_flatMap.1 h.sep).1 _ (bK a);simpa using b
theorem Rws.upd(h:Rws w base ps){k:Nat}(g:k<ps.length){v:Value}(m:v=ps[k].wv∨v=ps[k].lv)(f:Chg (fun i=>some i=v.ownBlock) w w'){ws ls:List Int}(n:Ow w' base 3 1 ps[k].wv i1 ws)(o:Ow w' base 3 1 ps[k].lv i1 ls):
  Rws w' base (ps.set k ⟨{ps[k].x with ws:=ws,ls:=ls},ps[k].wv,ps[k].lv⟩):=by
 refine⟨fun p q=>?_,?_⟩
 .obtain⟨i,d,rfl⟩:=List.mem_iff_getElem.1 q;rw[mI]at d
  by_cases a:k=i
  .subst a;rw[Ox];exact⟨n,o⟩
  .rw[List.getElem_set_ne a];have l:=h.row _ (bK d);have c:=h.at_ d g (fun e=>a e.symm);refine⟨l.1.chg f fun j b e=>?_,l.2.chg f fun j b e=>?_⟩
   .rcases m with rfl|rfl
    .exact c.1 j b e.symm
    .exact c.2.1 j b e.symm
   .rcases m with rfl|rfl
    .exact c.2.2.1 j b e.symm
    .exact c.2.2.2 j b e.symm
 .have e:(ps.set k ⟨{ps[k].x with ws:=ws,ls:=ls},ps[k].wv,ps[k].lv⟩).flatMap (fun p=>[p.wv,p.lv])=ps.flatMap fun p=>[p.wv,p.lv]:=by
   rw[List.flatMap_def,List.flatMap_def,pD]
   congr 1
   apply sR;intro i;rw[sS]
   split
   .rename_i a;subst a;simp[g]
   .rfl
  rw[e];exact h.sep
theorem Rws.sub{b:List ObV}(h:Rws w base ps)(a:b.Sublist ps):Rws w base b:=⟨fun p c=>h.row p (a.mem c),h.sep.sublist (Uk _ a)⟩
end
theorem Jn(t:Int):∀(ps:List ObV),iL (fun p:ObV=>p.x.h) ps→pP (ps.map (·.x)) t=if (ps.any fun p=>decide (p.x.h=t))=true then some (eT (fun p:ObV=>p.x.h) t ps) else none
 |[],_=>rfl
 |x::l,a=>by
  have g:=Jn t l a.2;have e:eT (fun p:ObV=>p.x.h) t (x::l)=if x.x.h<t then eT (fun p:ObV=>p.x.h) t l+1 else 0:=rfl
  unfold pP at *;rw[kM,List.findIdx?_cons,g,wK,e]
  by_cases b:x.x.h=t
  .rw[bY b,aC (show ¬x.x.h<t by omega)]; simp
  .rw[aX b]
   by_cases c:x.x.h<t
   .rw[aE c]
    cases l.any fun p=>decide (p.x.h=t)<;>simp
   .have d:(l.any fun p=>decide (p.x.h=t))=false:=pF.2 fun y f=>by
     have:x.x.h<y.x.h:=a.1 y f;simp; omega
    rw[d]; simp
theorem Jo(t:Int):∀(ps:List ObV),iL (fun p:ObV=>p.x.h) ps→(ps.any fun p=>decide (p.x.h=t))=true→∃b:eT (fun p:ObV=>p.x.h) t ps<ps.length,ps[eT (fun p:ObV=>p.x.h) t ps].x.h=t
 |[],_,h=>by simp at h
 |x::l,d,h=>by
  by_cases c:x.x.h<t
  .have e:eT (fun p:ObV=>p.x.h) t (x::l)=eT (fun p:ObV=>p.x.h) t l+1:=aE c;rw[wK,aX (by omega),Bool.false_or]at h;obtain⟨b,a⟩:=Jo t l d.2 h;refine⟨by rw[e]; simpa using b,?_⟩;simp only[e,Et];exact a
  .have e:eT (fun p:ObV=>p.x.h) t (x::l)=0:=aC c;refine⟨by rw[e]; simp,?_⟩;simp only[e,Ot]
   by_cases f:x.x.h=t
   .exact f
   .rw[wK,aX f,Bool.false_or]at h;obtain⟨y,g,a⟩:=kZ.1 h;have:x.x.h<y.x.h:=d.1 y g;simp at a;omega
theorem Jp{ps:List ObV}(h:(ps.map (·.x)).Pairwise (fun x y=>x.h<y.h)):iL (fun p:ObV=>p.x.h) ps:=by
 induction ps with
 |nil=>trivial
 |cons x l b=>
  rw[kM,eE]at h;exact⟨fun y a=>h.1 _ (cX.2 ⟨y,a,rfl⟩),b h.2⟩
theorem HOk.len{h:Hp}(H:HOk h):h.obs.length≤256∧h.free.length≤256:=by
 have f:=eF H.reg;have a:=rD (h.obs.map (·.b));have c:=rD h.free;have d:=nJ (o:=h.order) (by omega);have e:=H.sum;rw[cW]at a;omega
theorem HOk.give{h:Hp}(H:HOk h){q:Nat}{y:Ob}(d:h.obs[q]? =some y):nP h.order h.free y.b=(0,dH h.order 9 y.b h.free):=by
 have a:=oY d;unfold nP;have c:(h.free.any fun x=>eW x y.b)=false:=pF.2 fun x e=>by
  have:=(pB.1 H.apart).2.2 x e y.b (cX.2 ⟨y,a,rfl⟩);rw[zY,qW];exact this
 rw[(lE H.reg).2 H.free,(H.each y a).2,c]; rfl
theorem HOk.lens{h:Hp}(H:HOk h){x:Ob}(b:x∈h.obs):x.ws.length≤32∧x.ls.length≤16:=by
 have a:=H.each x b;have c:=gV H.reg a.2;have d:=oP (n:=x.ws.length) (k:=x.ls.length) (by omega);omega
theorem Ul(A:Option Addr)(c s:Nat)(w:World):Calls prog 274 (#[.slice A 0 c]++#[.pointer (some ⟨s,0,none⟩)]) w fun e w'=>e=.returned (.tuple #[])∧w'=w:=by
 show Calls _ _ #[.slice A 0 c,.pointer (some ⟨s,0,none⟩)] _ _;go_enter func274,ntmps274;go_wp2_with fail
 go_loopw [7] (fun i wr=>i=.i 0∧wr=w) (fun _ _=>0)
 case atStart=>exact⟨rfl,rfl⟩
 case round=>
  obtain⟨rfl,rfl⟩:=hrel;go_wp2_with fail;go_end0;exact⟨rfl,rfl⟩
theorem Um{base s:Nat}{v:Value}{xs:List Int}{y:ObV}(w:World)(h:Ow w base 3 1 v i1 xs)(d:gJ w s 90 y)(o:xs.length≤1000):
  Calls prog 274 (#[v]++#[.pointer (some ⟨s,0,none⟩)]) w fun e w'=>e=.returned (.tuple #[])∧Chg (fun i=>some i=v.ownBlock) w w'∧Ow w' base 3 1 v i1 (eH y.x.h xs):=by
 by_cases f:0<xs.length
 .obtain⟨b,c,post,rfl,l,n,a,k⟩:=h.blk f;have m:s≠b:=d.blk.ne a (by decide);refine (Jm (pre:=[]) w d a rfl m l (by omega)).mono ?_;rintro e w' ⟨rfl,g,j⟩;refine⟨rfl,g.mono fun i _ e=>by rw[e]; rfl,k w' _ (by simp[eH]) j⟩
 .obtain rfl:xs=[]:=hJ (by omega);obtain⟨A,c,rfl,-⟩:=eD h;refine (Ul A c s w).mono ?_;rintro e w' ⟨rfl,rfl⟩;exact⟨rfl,Chg.refl _ _,h⟩
end
end Go.Proofs.YtdoopoapbffpbaaGreat
