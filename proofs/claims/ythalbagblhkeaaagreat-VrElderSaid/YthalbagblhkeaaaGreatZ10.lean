import Derived.Test.YthalbagblhkeaaaGreatZ07
import Derived.Test.YthalbagblhkeaaaGreatZ08
import Derived.Test.YthalbagblhkeaaaGreatZ09
namespace Go.Proofs.YthalbagblhkeaaaGreat
open Go.RowKit Go.Proofs.Tryz
set_option maxRecDepth 100000
set_option maxHeartbeats 12800000
set_option linter.unusedVariables false
set_option linter.unusedSimpArgs false
section
attribute [-go_sem] run_eql_struct run_neq_struct
theorem Jc{o:Int}(f:cP o=true){b:Bk}{c:List Bk}(e:bN o b=true)(d:gW o c)(p:(b::c).Pairwise bE)(l:b.o<o)(r:aY b∈c):
  bN o ⟨min b.a (aY b).a,b.o+1⟩=true∧gW o (eJ c (aY b))∧((⟨min b.a (aY b).a,b.o+1⟩:Bk)::eJ c (aY b)).Pairwise bE:=by
 obtain⟨s,A,x,B,_⟩:=rB f e l;have n:=gV f e;have k:aJ (b.o+1)=2*aJ b.o:=qZ n.1;have z:=eG b.o;have m:=uY c _ d.sort r;have q:(b::aY b::eJ c (aY b)).Pairwise bE:=(oL (m.cons b)).1 p;have g:=eE.1 q;have h:=eE.1 g.2;refine⟨s,d.drop _,.cons (fun y i=>?_) h.2⟩;have e1:=g.1 y (by simp only[bA]; exact .inr i);have j:=h.1 y i;have:=eG y.o;unfold bE at *;rw[x]at j;simp only[k];omega
theorem Tt(y:Bk)(l:List Bk):eI (fun x=>decide (y=x)) l<0→y∉l:=fun h a=>by
 have:=tI (fun x=>decide (y=x)) l;rw[aX (by omega),eq_comm,pF]at this;exact this y a (by simp)
theorem Jd(y:Bk):∀(l:List Bk),l.Pairwise (fun x y=>x.a<y.a)→0≤eI (fun x=>decide (y=x)) l→∃i:Nat,eI (fun x=>decide (y=x)) l=i∧l[i]? =some y∧l.eraseIdx i=eJ l y
 |[],_,h=>by simp[eI]at h
 |x::l,r,h=>by
  have g:=eE.1 r
  by_cases d:y=x
  .subst d;refine⟨0,?_,rfl,?_⟩
   .exact rF _ (y::l) 0 (by simp) (by simp) (by simp)
   .unfold eJ;rw[nA (by simp),List.eraseIdx_cons_zero,List.filter_eq_self.2];intro z b;have:=g.1 z b;have c:z≠y:=fun e=>by rw[e]at this; omega
    simp[c]
  .have q:y∈l:=by
    have:=tI (fun x=>decide (y=x)) (x::l);rw[bY h,eq_comm,kZ]at this;obtain⟨z,b,s⟩:=this;have:=bT s;subst this;exact (bA.1 b).resolve_left d
   have m:0≤eI (fun x=>decide (y=x)) l:=by
    have:=tI (fun x=>decide (y=x)) l;rw[kZ.2 ⟨y,q,by simp⟩]at this;exact bT this
   obtain⟨i,A,f,n⟩:=Jd y l g.2 m;refine⟨i+1,?_,by simpa using f,?_⟩
   .have o:i<l.length:=(iH.1 f).1;have k:l[i]=y:=(iH.1 f).2;refine rF _ (x::l) (i+1) (by simp; omega) (by simp[k]) fun z b=>?_;rw[qK]at b;rcases bA.1 b with rfl|b
    .simp[d]
    .obtain⟨j,p,rfl⟩:=List.mem_iff_getElem.1 b;rw[Fb];rw[cZ]at p;have:=List.pairwise_iff_getElem.1 g.2 j i (by omega) o (by omega);rw[k]at this;have c:y≠l[j]:=fun e=>by rw[←e]at this; omega
     simp[c]
   .unfold eJ at *;have c:x≠y:=fun e=>d e.symm;rw[oA (by simp[c]),List.eraseIdx_cons_succ,n]
theorem Je(b:Bk):∀l:List Bk,(∀x∈l,b.a≠x.a)→l.take (eT (·.a) b.a l)++[b]++l.drop (eT (·.a) b.a l)=dL l b
 |[],_=>rfl
 |x::l,h=>by
  have:=h x (by simp);unfold eT dL
  by_cases c:x.a<b.a
  .rw[aE c,aC (by omega),←Je b l fun y d=>h y (by simp[d])]; rfl
  .rw[aC c,aE (by omega)]; rfl
theorem Jf:∀l:List Bk,l.Pairwise (fun x y=>x.a<y.a)→iL (·.a) l
 |[],_=>trivial
 |_::l,h=>⟨fun y b=>(eE.1 h).1 y b,Jf l (eE.1 h).2⟩
theorem Tu{b:Bk}{l:List Bk}(h:(b::l).Pairwise bE):∀x∈l,b.a≠x.a:=fun x c e=>by
 have:=(eE.1 h).1 x c;have:=eG b.o;have:=eG x.o;unfold bE at *;omega
theorem Tv(x y:Bk)(w:World)(f:0≤x.o∧x.o≤8)(g:0≤y.o∧y.o≤8)(c: -1000000000000000000≤x.a)(i:x.a≤1000000000000000000)(n: -1000000000000000000≤y.a)(p:y.a≤1000000000000000000):
  Calls prog 300 #[.agg #[.i x.a,.i x.o],.agg #[.i y.a,.i y.o]] w fun e l=>e=.returned (.bool (eW x y))∧Bw' w l:=by
 obtain⟨W,d,q,r,s,z,j⟩:=xB w x y 150;have m:=kp d;have k:=kp j;have A:=gF x.o;have B:=gF y.o;have e1:=fD f.1 f.2;have h:=fD g.1 g.2;unfold eW;rw[←e1,←h];clear j f g e1 h;rcases tB (decide (x.a<y.a+aQ y.o)) (decide (y.a<x.a+aQ x.o)) with⟨c,b⟩|⟨c,i,b⟩|⟨c,i,b⟩
 all_goals
  rw[b];clear b;go_enter func300,ntmps300;go_wp2_with fail;simp only[←d];clear d
  go_quiet (first |(go_at_call 200; refine Calls.quiet_of_same (iT _ _)))
  go_wp2_with fail;go_ret;exact⟨rfl,gG k.o _⟩
theorem Tx(b x:Bk)(s:Nat)(W:World)(c0:W.cell? ⟨s,0,none⟩=some (.i b.a))(c1:W.cell? ⟨s,1,none⟩=some (.i b.o))(j:0≤x.o∧x.o≤8∧0≤x.a∧x.a≤256)(g:0≤b.o∧b.o≤8∧0≤b.a∧b.a≤256):
  Calls prog 299 (#[.agg x.cells.toArray]++#[.pointer (some ⟨s,0,none⟩)]) W fun e m=>e=.returned (.bool (eW x b))∧Bw' W m:=by
 show Calls _ _ #[.agg #[.i x.a,.i x.o],.pointer (some ⟨s,0,none⟩)] _ _;obtain⟨r,y⟩:=tC W x 150;have c:=ba' W (.cells #[.i x.a,.i x.o] 150);have k:=kp c;have i:=World.block_lt_of_cell? W _ c0;have n:=(c.cell (p:=⟨s,0,none⟩) i).trans c0;have q:=(c.cell (p:=⟨s,1,none⟩) i).trans c1;have d:=kp j;have f:=kp g;clear c0 c1 c j g;go_enter func299,ntmps299;go_wp2_with fail;refine mb' (Tv x b _ (by have:=d.o; omega) (by have:=f.o; omega) (by have:=d.o; omega) (by have:=d.o; omega) (by have:=f.o; omega) (by have:=f.o; omega)) fun z h=>?_;have l:=kp h;clear h;go_wp2_with fail;go_ret;exact⟨rfl,k.o.on l.o⟩
theorem Ty(x:Bk)(t:Int)(W:World):
  Calls prog 304 (#[.agg x.cells.toArray,.i t]++#[]) W fun e c=>e=.returned (.i (fX x.a t))∧Bw' W c:=by
 show Calls _ _ #[.agg #[.i x.a,.i x.o],.i t] _ _;obtain⟨d,f⟩:=tC W x 150;have b:=kp (ba' W (.cells #[.i x.a,.i x.o] 150));go_enter func304,ntmps304;go_wp2_with fail;refine ms' (tJ _ _ _) ?_;go_wp2_with fail;go_ret;exact⟨rfl,b.o⟩
def nP(o:Int)(l:List Bk)(b:Bk):Int×List Bk:=
 if gL o l=true then if (bN o b&& !(l.any fun x=>eW x b))=true then (0,dH o 9 b l) else (41,[]) else (1,[])
theorem Tz(o:Int)(v:Value)(B:Nat)(l:List Bk)(b:Bk)(w:World)(hv:Sl w B v Bk.cells l)(hB:B≤w.heap.size)(hn:l.length≤400000):
  Calls prog 285 #[.i o,v,.agg b.cells.toArray] w fun e w'=>∃v',e=.returned (.tuple #[v',.i (nP o l b).1])∧OR w' (fun i=>w.heap.size≤i) 150 2 v' Bk.cells (nP o l b).2∧Bw' w w':=by
 have hb:=ba' w (.cells #[.i b.a,.i b.o] 150);have R:=Blk.new w 150 [.i b.a,.i b.o];have HS:=kp (hv.below hb hB);have HB:=kp hb;have HZ:=kp R;have e2:=kp (aB hB hb.size);have HC:=kp (qU o v B l _ HS.o e2.o (by omega));show Calls _ _ #[_,_,.agg #[.i b.a,.i b.o]] _ _;clear hv hb R hB
 cases hf:gL o l
 .have G:nP o l b=(1,[]):=by unfold nP; rw[hf]; rfl
  rw[G];rw[hf]at HC;clear hf G;go_enter func285,ntmps285;go_wp2_with fail;refine mb' (HC.o) fun w2 q=>?_;have Z:=kp (HB.o.on q);clear q;go_wp2_with fail;go_ret2;exact⟨_,rfl,aO.nil _ _ _ _,Z.o⟩
 rw[hf]at HC;have d1:=kp hf;have y:=kp ((iJ _ _).1 hf).1;have HM:=kp (fun(w':World)=>Gj o b w' y.o);clear hf
 cases p:bN o b
 .have G:nP o l b=(41,[]):=by unfold nP; rw[d1.o,p]; rfl
  rw[G];rw[p]at HM;clear p G;go_enter func285,ntmps285;go_wp2_with fail;refine mb' (HC.o) fun w2 q=>?_;have Z:=kp (HB.o.on q);have j3:=HZ.o.below q HZ.o.lt;have g:=j3.cell 0;have m:=j3.cell 1;simp only[aG,aK]at g m;clear q j3;go_wp2_with fail;refine mb' (HM.o _) fun w3 H=>?_;have q0:=kp (Z.o.on H);clear H g m;go_wp2_with fail;go_ret2;exact⟨_,rfl,aO.nil _ _ _ _,q0.o⟩
 have m2:=k'2 p (fI y.o p);have o2:=k'2 ((lE y.o).1 d1.o) (fun x Q=>fI y.o (((lE y.o).1 d1.o).may x Q));obtain⟨r,G⟩:=nm' (nP o l b);rw[G];have S:=kp (show r=if (!(l.any fun x=>eW x b))=true then (0,dH o 9 b l) else (41,[]) by rw[←G]; unfold nP; rw[d1.o,p]; rfl);have j1:=kp (eF y.o);rw[p]at HM;clear p G;go_enter func285,ntmps285;go_wp2_with fail;refine mb' (HC.o) fun w2 q=>?_;have Z:=kp (HB.o.on q);have m1:=kp (HZ.o.below q HZ.o.lt);have a6:=kp (HS.o.below q e2.o);have o3:=kp (aB e2.o q.size);have g:=m1.o.cell 0;have m:=m1.o.cell 1;simp only[aG,aK]at g m;clear q;go_wp2_with fail;refine mb' (HM.o _) fun w3 H=>?_;have q0:=kp (Z.o.on H);have T:=kp (m1.o.below H m1.o.lt);have z3:=kp (a6.o.below H o3.o);have j2:=kp (aB o3.o H.size);have b1:=kp (tU.2.2 v l (fun x=>eW x b) 299 #[.pointer (some ⟨w.heap.size,0,none⟩)] B w3 z3.o j2.o (by omega) (enters_of func299 (by kernel_rfl) rfl)
  (fun W' x Q l4=>Tx b x w.heap.size W' ((T.o.below l4 T.o.lt).cell 0) ((T.o.below l4 T.o.lt).cell 1) (by have:=o2.B x Q; have:=j1.o; omega) (by have:=m2.B; have:=j1.o; omega)))
 clear H g m
 cases O:l.any fun x=>eW x b
 rotate_left
 .rw[O]at S b1;have y5:=kp (show r=(41,[]) from S.o);clear O S;go_wp2_with fail;refine mb' (b1.o) fun w4 I=>?_;have b2:=kp (q0.o.on I);clear I;go_wp2_with fail;go_ret2;rw[y5.o];exact⟨_,rfl,aO.nil _ _ _ _,b2.o⟩
 have e5:=kp (show (b::l).Pairwise bE from eE.2 ⟨fun x Q=>by
  have O:=O;have:=pF.1 O x Q;rw[zY,qW]at this;exact this.symm,o2.a.side.imp fun h=>h.1⟩)
 rw[O]at S b1;have z5:=kp (show r=(0,dH o 9 b l) from S.o);clear O S;go_wp2_with fail;refine mb' (b1.o) fun w4 I=>?_;have b2:=kp (q0.o.on I);have z2:=kp (T.o.below I T.o.lt);have m5:=kp (fam'4.2.1 v l B w4 (z3.o.below I j2.o) (aB j2.o I.size) (by omega));clear I;go_wp2_with fail;refine (m5.o).mono ?_;rintro e w5 ⟨v5,rfl,b5,b3⟩;have j5:=kp (b2.o.on b3);have d6:=kp (z2.o.below b3 z2.o.lt);have q5:=kp (show OR w5 (fun i=>w.heap.size<i) 150 2 v5 Bk.cells l from aO.of_own b5 fun i h _=>by have:=z2.o.lt; omega);clear b5 b3;go_wp2_with fail
 go_loopw [8] (fun vl wr=>∃(u:Value)(c:Bk)(f:List Bk)(k:Nat),u=vl∧OR wr (fun i=>w.heap.size<i) 150 2 u Bk.cells f∧Blk wr w.heap.size 150 [.i c.a,.i c.o]∧Bw' w wr∧bN o c=true∧gW o f∧(c::f).Pairwise bE∧dH o k c f=dH o 9 b l∧o-c.o≤k∧f.length≤400000) (fun _ wr=>match wr.cell? ⟨w.heap.size,1,none⟩ with |some (.int _ z)=>(o-z).toNat|_=>0)
 case atStart=>exact⟨_,b,l,9,rfl,q5.o,d6.o,j5.o,m2.a,o2.a,e5.o,rfl,by have:=m2.B; have:=j1.o; omega,hn⟩
 case round=>
  obtain⟨vl,c,f,k,rfl,ho,R,m4,p,e3,j4,z4,hk,o6⟩:=hrel;have L:=kp ho;have N:=kp R;have b0:=kp m4;have s:=k'5 p e3 j4 z4 hk;have o5:=kp (fI y.o p);have g:=R.cell 0;have m:=R.cell 1;simp only[aG,aK]at g m;have l0:=kp (fun(W:World)=>Gk o c W y.o p);have K:=kp (fun(W:World)(h:Bw' wr W)=>Tr vl f (aY c) wr.heap.size W (ho.sl.below h (aD _)) h.size (by omega));have g0:=kp (fun h:eI (fun x=>decide (aY c=x)) f<0=>Tt _ f h);have d0:=kp (Jd (aY c) f e3.sort);clear ho R m4 p e3 j4 z4 hk;have o4:(¬c.o<o)∨(c.o<o∧eI (fun x=>decide (aY c=x)) f<0)∨(c.o<o∧0≤eI (fun x=>decide (aY c=x)) f):=by omega
  obtain⟨z,a2⟩:=nm' (eI (fun x=>decide (aY c=x)) f);rw[a2]at K g0 d0 o4;clear a2;rcases o4 with J|⟨J,q6⟩|⟨J,y6⟩
  case' inl=>
   have g1:decide (c.o<o)=false:=by simp; omega
   have y3:=kp (show dL f c=dH o 9 b l by rw[←s.d]; cases k<;>simp[dH,J]);clear J l0 K g0 d0;have HT:=L;have U:=N;have d2:=b0;obtain⟨wT,a7⟩:∃wT,wT=wr:=⟨_,rfl⟩
   subst a7
  case' inr.inl=>
   have y3:=kp (show dL f c=dH o 9 b l by
    rw[←s.d];have:=g0.o q6
    cases k with
    |zero=>rfl
    |succ k=>
     unfold dH;rw[aC];simp only[bI,bP,kZ,not_and,not_exists];rintro _ x Q rfl;exact this Q)
   clear g0 d0;go_wp2_with fail;refine mb' (l0.o _) fun w6 D=>?_;have e0:=kp (K.o w6 D);have j0:=kp (L.o.below D);have M:=kp (N.o.below D N.o.lt);have a0:=kp (b0.o.on D);clear D g m l0 K;go_wp2_with fail;refine mb' (e0.o) fun wT F=>?_;have HT:=kp (j0.o.below F);have U:=kp (M.o.below F M.o.lt);have d2:=kp (a0.o.on F);clear F e0 j0 M a0 L N b0;have g:=U.o.cell 0;have m:=U.o.cell 1;simp only[aG,aK]at g m
  rotate_right
  .obtain⟨i,a2,q1,q4⟩:=d0.o y6;subst a2;have m6:i<f.length:=(iH.1 q1).1;have y4:f[i]=aY c:=(iH.1 q1).2;have HE:=k'2 q4 (oY q1);have y2:=kp (Jc y.o s.a s.b s.c J HE.B);obtain⟨A,cp,rfl,-,l6,-⟩:=L.o.sl;obtain⟨n,a5⟩:=nm' f.length;have HL:=kp a5;rw[a5]at L K m6 l6 o6;clear q4 g0 d0 q1;go_wp2_with fail;refine mb' (l0.o _) fun w6 D=>?_;have e0:=kp (K.o w6 D);have j0:=kp (L.o.below D);have M:=kp (N.o.below D N.o.lt);have a0:=kp (b0.o.on D);clear D g m l0 K;go_wp2_with fail;refine mb' (e0.o) fun w7 F=>?_;dsimp only;have p2:=kp (j0.o.below F);have m0:=kp (M.o.below F M.o.lt);have l3:=kp (a0.o.on F);clear F e0 j0 M a0 L b0;have g:=m0.o.cell 0;have m:=m0.o.cell 1;have y0:=m0.o.frozen 0;have y1:=m0.o.frozen 1;simp only[aG,aK]at g m;obtain⟨A7,e7,p4,d5,-,-⟩:=p2.o.sl;obtain⟨rfl,-,rfl⟩:=Value.slice.inj p4;obtain⟨b7,g7,hA,-,d3,-⟩:=bV (P:=prog) 2 bM (by omega) d5 i (by have:=HL.o; omega);subst hA;have x0:=d3 0 _ rfl;have x1:=d3 1 _ rfl;simp only[cF,y4]at x0;clear d3 x1 p4 d5 y4;have d7:=kp (fI y.o ((rB y.o s.a J).2.1));have g1:(c.o:Int)<o:=J;have g2:(i:Int)<(n:Int):=by omega
   go_wp2_with fail;have j6:=o5.o;have g6:=j1.o;have g3: -9223372036854775808≤c.o+1:=by omega
   have g4:c.o+1≤9223372036854775807:=by omega
   clear j6 g6
   go_region
   have p1:=(((Chg.refl (fun i=>i=w.heap.size) w7).setCell (.inr rfl) 0 (.i (min c.a (aY c).a))).setCell (.inr rfl) 1 (.i (c.o+1))).drew;have X:=(m0.o.setCell 0 (.i (min c.a (aY c).a))).setCell 1 (.i (c.o+1));obtain⟨Y,a3⟩:=nm' (((w7.setCell ⟨w.heap.size,0,none⟩ (.i (min c.a (aY c).a))).setCell ⟨w.heap.size,1,none⟩ (.i (c.o+1))).drew);rw[a3]at p1 ⊢;have e6:=kp (show Blk Y w.heap.size 150 [.i (min c.a (aY c).a),.i (c.o+1)] by rw[←a3]; exact X);have q2:=kp (aO.chg p2.o p1 fun j hj hs=>by have:=(p2.o.lt j hj).1; omega);have a1:=kp (l3.o.trans (p1.below (fun j hs=>by have:=HZ.o.lt; omega) l3.o.size));have HD:=Tp i (i+1) Y q2.o (nG gU f) (by have:=HL.o; omega) rfl;rw[show ((i+1:Nat):Int)=(i:Int)+1 from rfl]at HD;have p5:=kp HD;have g5:(i:Int)+1≤9223372036854775807:=by omega
   clear p1 X a3 HD g m y0 y1 x0;go_wp2_with fail;refine (p5.o).mono ?_;rintro e w9 ⟨v9,rfl,p0,V,z6⟩;have l1:=kp p0;have e4:=kp (e6.o.chg V fun hs=>by have:=(q2.o.lt _ hs).1; omega);have l5:=kp (a1.o.trans (V.below (fun j hj=>by have:=(q2.o.lt j hj).1; omega) a1.o.size));clear p0 V z6;go_wp2_with fail;go_roundw
   case rel=>
    refine⟨v9,⟨min c.a (aY c).a,c.o+1⟩,eJ f (aY c),k-1,rfl,?_,e4.o,l5.o,y2.a,y2.b,y2.C,?_,?_,?_⟩
    .rw[←HE.a]; exact l1.o
    .obtain⟨k',rfl⟩:∃k',k=k'+1:=⟨k-1,by have:=s.E; omega⟩
     rw[←s.d]
     conv=>rhs; unfold dH
     rw[aE]
     .rfl
     .simp only[bI,bP,kZ];exact⟨J,_,HE.B,rfl⟩
    .have:=s.E;show o-(c.o+1)≤((k-1:Nat):Int);omega
    .have:=HL.o;exact aB (nB _ _) (by omega)
   case measure=>
    rw[show w9.cell? ⟨w.heap.size,1,none⟩=_ from e4.o.cell 1,show wr.cell? ⟨w.heap.size,1,none⟩=_ from N.o.cell 1];show (o-(c.o+1)).toNat<(o-c.o).toNat;omega
  all_goals
   have p3:=kp (aCm.2.2 vl f (·.a) c.a 304 #[] wT.heap.size wT HT.o.sl (aD _) (by omega) (Jf f s.b.sort) (enters_of func304 (by kernel_rfl) rfl) (fun W x _ _=>Ty x c.a W));go_wp2_with fail;refine mb' (p3.o) fun Y o0=>?_;have a4:=kp (HT.o.below o0);have X:=U.o.below o0 U.o.lt;have b6:=k'3 d2.o.size U.o.lt o0.size;have a1:=kp (d2.o.on o0);clear g m;have g:=X.cell 0;have m:=X.cell 1;simp only[aG,aK]at g m;have o1:=ba' Y (.cells #[.i c.a,.i c.o] 150);have m3:=kp (a1.o.on o1);have d4:=kp (a4.o.below o1);have q3:=kp (Jb (l2:=[c]) (eT (·.a) c.a f) Y.heap.size _ d4.o (Blk.new Y 150 [.i c.a,.i c.o]) (fun e=>by have:=(a4.o.lt _ e).2; omega) (Ci _ _ _) (by simp) (fun i hi=>by have:=b6.o; have:=o1.size; omega) (by simp; omega));clear o0 X o1 p3;go_wp2_with fail;refine (q3.o).mono ?_;rintro e w9 ⟨v9,rfl,p0,V,p6⟩;have l1:=k'2 p0 V;clear p0 V p6 g m q3;go_wp2_with fail;go_ret2;rw[z5.o];refine⟨_,rfl,?_,?_⟩
   .rw[←y3.o,←Je c f (Tu s.c)];exact l1.a.mono fun i _ h=>by omega
   .exact m3.o.trans ((l1.B.below (fun i hi=>by have:=(d4.o.lt i hi).1; omega) m3.o.size).mono (aD _))
end
end Go.Proofs.YthalbagblhkeaaaGreat
