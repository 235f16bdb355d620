import Derived.Test.YtoncgpddjmgbfaaGreatZ07
import Derived.Test.YtoncgpddjmgbfaaGreatZ08
import Derived.Test.YtoncgpddjmgbfaaGreatZ09
namespace Go.Proofs.YtoncgpddjmgbfaaGreat
open Go.RowKit Go.Proofs.Tryz
set_option maxRecDepth 100000
set_option maxHeartbeats 12800000
set_option linter.unusedVariables false
set_option linter.unusedSimpArgs false
section
attribute [-go_sem] run_eql_struct run_neq_struct
theorem Rj{o:Int}(f:cZ o=true){b:Bk}{c:List Bk}(e:bY o b=true)(d:gC o c)(n:(b::c).Pairwise bK)(k:b.o<o)(q:bP b∈c):
  bY o ⟨min b.a (bP b).a,b.o+1⟩=true∧gC o (fZ c (bP b))∧((⟨min b.a (bP b).a,b.o+1⟩:Bk)::fZ c (bP b)).Pairwise bK:=by
 obtain⟨r,z,s,A,_⟩:=sL f e k;have m:=fY f e;have j:aW (b.o+1)=2*aW b.o:=sH m.1;have x:=eA b.o;have l:=uK c _ d.sort q;have p:(b::bP b::fZ c (bP b)).Pairwise bK:=(nU (l.cons b)).1 n;have g:=dN.1 p;have h:=dN.1 g.2;refine⟨r,d.drop _,.cons (fun y i=>?_) h.2⟩;have e1:=g.1 y (by simp only[bD]; exact .inr i);have e2:=h.1 y i;have:=eA y.o;unfold bK at *;rw[s]at e2;simp only[j];omega
theorem Rk(y:Bk)(l:List Bk):eC (fun x=>decide (y=x)) l<0→y∉l:=fun h a=>by
 have:=sM (fun x=>decide (y=x)) l;rw[dR (by omega),eq_comm,pT]at this;exact this y a (by simp)
theorem He(y:Bk):∀(l:List Bk),l.Pairwise (fun x y=>x.a<y.a)→0≤eC (fun x=>decide (y=x)) l→∃i:Nat,eC (fun x=>decide (y=x)) l=i∧l[i]? =some y∧l.eraseIdx i=fZ l y
 |[],_,h=>by simp[eC]at h
 |x::l,r,h=>by
  have g:=dN.1 r
  by_cases d:y=x
  .subst d;refine⟨0,?_,rfl,?_⟩
   .exact qC _ (y::l) 0 (by simp) (by simp) (by simp)
   .unfold fZ;rw[rF (by simp),List.eraseIdx_cons_zero,List.filter_eq_self.2];intro z b;have:=g.1 z b;have c:z≠y:=fun e=>by rw[e]at this; omega
    simp[c]
  .have q:y∈l:=by
    have:=sM (fun x=>decide (y=x)) (x::l);rw[fA h,eq_comm,mM]at this;obtain⟨z,b,s⟩:=this;have:=bO s;subst this;exact (bD.1 b).resolve_left d
   have m:0≤eC (fun x=>decide (y=x)) l:=by
    have:=sM (fun x=>decide (y=x)) l;rw[mM.2 ⟨y,q,by simp⟩]at this;exact bO this
   obtain⟨i,A,f,n⟩:=He y l g.2 m;refine⟨i+1,?_,by simpa using f,?_⟩
   .have o:i<l.length:=(iZ.1 f).1;have k:l[i]=y:=(iZ.1 f).2;refine qC _ (x::l) (i+1) (by simp; omega) (by simp[k]) fun z b=>?_;rw[lV]at b;rcases bD.1 b with rfl|b
    .simp[d]
    .obtain⟨j,p,rfl⟩:=List.mem_iff_getElem.1 b;rw[aCg];rw[cL]at p;have:=List.pairwise_iff_getElem.1 g.2 j i (by omega) o (by omega);rw[k]at this;have c:y≠l[j]:=fun e=>by rw[←e]at this; omega
     simp[c]
   .unfold fZ at *;have c:x≠y:=fun e=>d e.symm;rw[tK (by simp[c]),List.eraseIdx_cons_succ,n]
theorem Hf(b:Bk):∀l:List Bk,(∀x∈l,b.a≠x.a)→l.take (eD (·.a) b.a l)++[b]++l.drop (eD (·.a) b.a l)=gY l b
 |[],_=>rfl
 |x::l,h=>by
  have:=h x (by simp);unfold eD gY
  by_cases c:x.a<b.a
  .rw[aK c,aF (by omega),←Hf b l fun y d=>h y (by simp[d])]; rfl
  .rw[aF c,aK (by omega)]; rfl
theorem Hg:∀l:List Bk,l.Pairwise (fun x y=>x.a<y.a)→iA (·.a) l
 |[],_=>trivial
 |_::l,h=>⟨fun y b=>(dN.1 h).1 y b,Hg l (dN.1 h).2⟩
theorem Rl{b:Bk}{l:List Bk}(h:(b::l).Pairwise bK):∀x∈l,b.a≠x.a:=fun x c e=>by
 have:=(dN.1 h).1 x c;have:=eA b.o;have:=eA x.o;unfold bK at *;omega
theorem Rm(x y:Bk)(w:World)(f:0≤x.o∧x.o≤8)(g:0≤y.o∧y.o≤8)(c: -1000000000000000000≤x.a)(h:x.a≤1000000000000000000)(m: -1000000000000000000≤y.a)(n:y.a≤1000000000000000000):
  Calls prog 302 #[.agg #[.i x.a,.i x.o],.agg #[.i y.a,.i y.o]] w fun e k=>e=.returned (.bool (jA x y))∧Bw' w k:=by
 obtain⟨W,d,p,q,r,s,i⟩:=zZ w x y 262;have l:=kp d;have j:=kp i;have z:=fX x.o;have A:=fX y.o;have e1:=fJ f.1 f.2;have e2:=fJ g.1 g.2;unfold jA;rw[←e1,←e2];clear i f g e1 e2;rcases uD (decide (x.a<y.a+aU y.o)) (decide (y.a<x.a+aU x.o)) with⟨c,b⟩|⟨c,h,b⟩|⟨c,h,b⟩
 all_goals
  rw[b];clear b;go_enter func302,ntmps302;go_wp2_with fail;simp only[←d];clear d
  go_quiet (first |(go_at_call 218; refine Calls.quiet_of_same (iL _ _)))
  go_wp2_with fail;go_ret;exact⟨rfl,wJ j.o _⟩
theorem Rn(b x:Bk)(s:Nat)(W:World)(c0:W.cell? ⟨s,0,none⟩=some (.i b.a))(c1:W.cell? ⟨s,1,none⟩=some (.i b.o))(j:0≤x.o∧x.o≤8∧0≤x.a∧x.a≤256)(g:0≤b.o∧b.o≤8∧0≤b.a∧b.a≤256):
  Calls prog 301 (#[.agg x.cells.toArray]++#[.pointer (some ⟨s,0,none⟩)]) W fun e m=>e=.returned (.bool (jA x b))∧Bw' W m:=by
 show Calls _ _ #[.agg #[.i x.a,.i x.o],.pointer (some ⟨s,0,none⟩)] _ _;obtain⟨r,y⟩:=uE W x 262;have c:=ba' W (.cells #[.i x.a,.i x.o] 262);have k:=kp c;have i:=World.block_lt_of_cell? W _ c0;have n:=(c.cell (p:=⟨s,0,none⟩) i).trans c0;have q:=(c.cell (p:=⟨s,1,none⟩) i).trans c1;have d:=kp j;have f:=kp g;clear c0 c1 c j g;go_enter func301,ntmps301;go_wp2_with fail;refine mb' (Rm x b _ (by have:=d.o; omega) (by have:=f.o; omega) (by have:=d.o; omega) (by have:=d.o; omega) (by have:=f.o; omega) (by have:=f.o; omega)) fun z h=>?_;have l:=kp h;clear h;go_wp2_with fail;go_ret;exact⟨rfl,k.o.on l.o⟩
theorem Ro(x:Bk)(t:Int)(W:World):
  Calls prog 306 (#[.agg x.cells.toArray,.i t]++#[]) W fun e c=>e=.returned (.i (eN x.a t))∧Bw' W c:=by
 show Calls _ _ #[.agg #[.i x.a,.i x.o],.i t] _ _;obtain⟨d,f⟩:=uE W x 262;have b:=kp (ba' W (.cells #[.i x.a,.i x.o] 262));go_enter func306,ntmps306;go_wp2_with fail;refine ms' (qG _ _ _) ?_;go_wp2_with fail;go_ret;exact⟨rfl,b.o⟩
def mV(o:Int)(l:List Bk)(b:Bk):Int×List Bk:=
 if gX o l=true then if (bY o b&& !(l.any fun x=>jA x b))=true then (0,eW o 9 b l) else (41,[]) else (1,[])
theorem Rq(o:Int)(v:Value)(B:Nat)(l:List Bk)(b:Bk)(w:World)(hv:Sl w B v Bk.cells l)(hB:B≤w.heap.size)(hn:l.length≤400000):
  Calls prog 291 #[.i o,v,.agg b.cells.toArray] w fun e w'=>∃v',e=.returned (.tuple #[v',.i (mV o l b).1])∧OR w' (fun i=>w.heap.size≤i) 262 2 v' Bk.cells (mV o l b).2∧Bw' w w':=by
 have hb:=ba' w (.cells #[.i b.a,.i b.o] 262);have R:=Blk.new w 262 [.i b.a,.i b.o];have HS:=kp (hv.below hb hB);have HB:=kp hb;have HZ:=kp R;have j2:=kp (aB hB hb.size);have HC:=kp (pV o v B l _ HS.o j2.o (by omega));show Calls _ _ #[_,_,.agg #[.i b.a,.i b.o]] _ _;clear hv hb R hB
 cases hf:gX o l
 .have G:mV o l b=(1,[]):=by unfold mV; rw[hf]; rfl
  rw[G];rw[hf]at HC;clear hf G;go_enter func291,ntmps291;go_wp2_with fail;refine mb' (HC.o) fun w2 q=>?_;have Z:=kp (HB.o.on q);clear q;go_wp2_with fail;go_ret2;exact⟨_,rfl,aM.nil _ _ _ _,Z.o⟩
 rw[hf]at HC;have d1:=kp hf;have y:=kp ((lX _ _).1 hf).1;have HM:=kp (fun(w':World)=>Eu o b w' y.o);clear hf
 cases p:bY o b
 .have G:mV o l b=(41,[]):=by unfold mV; rw[d1.o,p]; rfl
  rw[G];rw[p]at HM;clear p G;go_enter func291,ntmps291;go_wp2_with fail;refine mb' (HC.o) fun w2 q=>?_;have Z:=kp (HB.o.on q);have l3:=HZ.o.below q HZ.o.lt;have g:=l3.cell 0;have m:=l3.cell 1;simp only[aP,aZ]at g m;clear q l3;go_wp2_with fail;refine mb' (HM.o _) fun w3 H=>?_;have q0:=kp (Z.o.on H);clear H g m;go_wp2_with fail;go_ret2;exact⟨_,rfl,aM.nil _ _ _ _,q0.o⟩
 have o2:=k'2 p (gU y.o p);have p2:=k'2 ((oU y.o).1 d1.o) (fun x Q=>gU y.o (((oU y.o).1 d1.o).may x Q));obtain⟨r,G⟩:=nm' (mV o l b);rw[G];have S:=kp (show r=if (!(l.any fun x=>jA x b))=true then (0,eW o 9 b l) else (41,[]) by rw[←G]; unfold mV; rw[d1.o,p]; rfl);have j1:=kp (fB y.o);rw[p]at HM;clear p G;go_enter func291,ntmps291;go_wp2_with fail;refine mb' (HC.o) fun w2 q=>?_;have Z:=kp (HB.o.on q);have m1:=kp (HZ.o.below q HZ.o.lt);have b6:=kp (HS.o.below q j2.o);have p3:=kp (aB j2.o q.size);have g:=m1.o.cell 0;have m:=m1.o.cell 1;simp only[aP,aZ]at g m;clear q;go_wp2_with fail;refine mb' (HM.o _) fun w3 H=>?_;have q0:=kp (Z.o.on H);have T:=kp (m1.o.below H m1.o.lt);have a4:=kp (b6.o.below H p3.o);have m2:=kp (aB p3.o H.size);have b1:=kp (uO.2.2 v l (fun x=>jA x b) 301 #[.pointer (some ⟨w.heap.size,0,none⟩)] B w3 a4.o m2.o (by omega) (enters_of func301 (by kernel_rfl) rfl)
  (fun W' x Q m4=>Rn b x w.heap.size W' ((T.o.below m4 T.o.lt).cell 0) ((T.o.below m4 T.o.lt).cell 1) (by have:=p2.B x Q; have:=j1.o; omega) (by have:=o2.B; have:=j1.o; omega)))
 clear H g m
 cases O:l.any fun x=>jA x b
 rotate_left
 .rw[O]at S b1;have z5:=kp (show r=(41,[]) from S.o);clear O S;go_wp2_with fail;refine mb' (b1.o) fun w4 I=>?_;have b2:=kp (q0.o.on I);clear I;go_wp2_with fail;go_ret2;rw[z5.o];exact⟨_,rfl,aM.nil _ _ _ _,b2.o⟩
 have j5:=kp (show (b::l).Pairwise bK from dN.2 ⟨fun x Q=>by
  have O:=O;have:=pT.1 O x Q;rw[Ml,wP]at this;exact this.symm,p2.a.side.imp fun h=>h.1⟩)
 rw[O]at S b1;have a6:=kp (show r=(0,eW o 9 b l) from S.o);clear O S;go_wp2_with fail;refine mb' (b1.o) fun w4 I=>?_;have b2:=kp (q0.o.on I);have a3:=kp (T.o.below I T.o.lt);have o5:=kp (fam'3.2.1 v l B w4 (a4.o.below I m2.o) (aB m2.o I.size) (by omega));clear I;go_wp2_with fail;refine (o5.o).mono ?_;rintro e w5 ⟨v5,rfl,d5,d3⟩;have l5:=kp (b2.o.on d3);have e6:=kp (a3.o.below d3 a3.o.lt);have y5:=kp (show OR w5 (fun i=>w.heap.size<i) 262 2 v5 Bk.cells l from aM.of_own d5 fun i h _=>by have:=a3.o.lt; omega);clear d5 d3;go_wp2_with fail
 go_loopw [8] (fun vl wr=>∃(u:Value)(c:Bk)(f:List Bk)(k:Nat),u=vl∧OR wr (fun i=>w.heap.size<i) 262 2 u Bk.cells f∧Blk wr w.heap.size 262 [.i c.a,.i c.o]∧Bw' w wr∧bY o c=true∧gC o f∧(c::f).Pairwise bK∧eW o k c f=eW o 9 b l∧o-c.o≤k∧f.length≤400000) (fun _ wr=>match wr.cell? ⟨w.heap.size,1,none⟩ with |some (.int _ z)=>(o-z).toNat|_=>0)
 case atStart=>exact⟨_,b,l,9,rfl,y5.o,e6.o,l5.o,o2.a,p2.a,j5.o,rfl,by have:=o2.B; have:=j1.o; omega,hn⟩
 case round=>
  obtain⟨vl,c,f,k,rfl,ho,R,o4,p,j3,l4,a5,hk,p6⟩:=hrel;have L:=kp ho;have N:=kp R;have b0:=kp o4;have s:=k'5 p j3 l4 a5 hk;have p5:=kp (gU y.o p);have g:=R.cell 0;have m:=R.cell 1;simp only[aP,aZ]at g m;have l0:=kp (fun(W:World)=>Ev o c W y.o p);have K:=kp (fun(W:World)(h:Bw' wr W)=>Rh vl f (bP c) wr.heap.size W (ho.sl.below h (aN _)) h.size (by omega));have g0:=kp (fun h:eC (fun x=>decide (bP c=x)) f<0=>Rk _ f h);have d0:=kp (He (bP c) f j3.sort);clear ho R o4 p j3 l4 a5 hk;have p4:(¬c.o<o)∨(c.o<o∧eC (fun x=>decide (bP c=x)) f<0)∨(c.o<o∧0≤eC (fun x=>decide (bP c=x)) f):=by omega
  obtain⟨z,a2⟩:=nm' (eC (fun x=>decide (bP c=x)) f);rw[a2]at K g0 d0 p4;clear a2;rcases p4 with J|⟨J,y6⟩|⟨J,z6⟩
  case' inl=>
   have g1:decide (c.o<o)=false:=by simp; omega
   have z3:=kp (show gY f c=eW o 9 b l by rw[←s.d]; cases k<;>simp[eW,J]);clear J l0 K g0 d0;have HT:=L;have U:=N;have d2:=b0;obtain⟨wT,d7⟩:∃wT,wT=wr:=⟨_,rfl⟩
   subst d7
  case' inr.inl=>
   have z3:=kp (show gY f c=eW o 9 b l by
    rw[←s.d];have:=g0.o y6
    cases k with
    |zero=>rfl
    |succ k=>
     unfold eW;rw[aF];simp only[bH,bR,mM,not_and,not_exists];rintro _ x Q rfl;exact this Q)
   clear g0 d0;go_wp2_with fail;refine mb' (l0.o _) fun w6 D=>?_;have e0:=kp (K.o w6 D);have j0:=kp (L.o.below D);have M:=kp (N.o.below D N.o.lt);have a0:=kp (b0.o.on D);clear D g m l0 K;go_wp2_with fail;refine mb' (e0.o) fun wT F=>?_;have HT:=kp (j0.o.below F);have U:=kp (M.o.below F M.o.lt);have d2:=kp (a0.o.on F);clear F e0 j0 M a0 L N b0;have g:=U.o.cell 0;have m:=U.o.cell 1;simp only[aP,aZ]at g m
  rotate_right
  .obtain⟨i,a2,q1,y4⟩:=d0.o z6;subst a2;have o6:i<f.length:=(iZ.1 q1).1;have z4:f[i]=bP c:=(iZ.1 q1).2;have HE:=k'2 y4 (nJ q1);have z2:=kp (Rj y.o s.a s.b s.c J HE.B);obtain⟨A,cp,rfl,-,m6,-⟩:=L.o.sl;obtain⟨n,b5⟩:=nm' f.length;have HL:=kp b5;rw[b5]at L K o6 m6 p6;clear y4 g0 d0 q1;go_wp2_with fail;refine mb' (l0.o _) fun w6 D=>?_;have e0:=kp (K.o w6 D);have j0:=kp (L.o.below D);have M:=kp (N.o.below D N.o.lt);have a0:=kp (b0.o.on D);clear D g m l0 K;go_wp2_with fail;refine mb' (e0.o) fun w7 F=>?_;dsimp only;have q2:=kp (j0.o.below F);have m0:=kp (M.o.below F M.o.lt);have m3:=kp (a0.o.on F);clear F e0 j0 M a0 L b0;have g:=m0.o.cell 0;have m:=m0.o.cell 1;have y0:=m0.o.frozen 0;have y1:=m0.o.frozen 1;simp only[aP,aZ]at g m;obtain⟨A7,g7,q4,e5,-,-⟩:=q2.o.sl;obtain⟨rfl,-,rfl⟩:=Value.slice.inj q4;obtain⟨b7,j7,hA,-,e3,-⟩:=dS (P:=prog) 2 cO (by omega) e5 i (by have:=HL.o; omega);subst hA;have x0:=e3 0 _ rfl;have x1:=e3 1 _ rfl;simp only[dW,z4]at x0;clear e3 x1 q4 e5 z4;have e7:=kp (gU y.o ((sL y.o s.a J).2.1));have g1:(c.o:Int)<o:=J;have g2:(i:Int)<(n:Int):=by omega
   go_wp2_with fail;have l6:=p5.o;have j6:=j1.o;have g3: -9223372036854775808≤c.o+1:=by omega
   have g4:c.o+1≤9223372036854775807:=by omega
   clear l6 j6
   go_region
   have p1:=(((Chg.refl (fun i=>i=w.heap.size) w7).setCell (.inr rfl) 0 (.i (min c.a (bP c).a))).setCell (.inr rfl) 1 (.i (c.o+1))).drew;have X:=(m0.o.setCell 0 (.i (min c.a (bP c).a))).setCell 1 (.i (c.o+1));obtain⟨Y,b3⟩:=nm' (((w7.setCell ⟨w.heap.size,0,none⟩ (.i (min c.a (bP c).a))).setCell ⟨w.heap.size,1,none⟩ (.i (c.o+1))).drew);rw[b3]at p1 ⊢;have g6:=kp (show Blk Y w.heap.size 262 [.i (min c.a (bP c).a),.i (c.o+1)] by rw[←b3]; exact X);have y2:=kp (aM.chg q2.o p1 fun j hj hs=>by have:=(q2.o.lt j hj).1; omega);have a1:=kp (m3.o.trans (p1.below (fun j hs=>by have:=HZ.o.lt; omega) m3.o.size));have HD:=Rf i (i+1) Y y2.o (mN lJ f) (by have:=HL.o; omega) rfl;rw[show ((i+1:Nat):Int)=(i:Int)+1 from rfl]at HD;have q5:=kp HD;have g5:(i:Int)+1≤9223372036854775807:=by omega
   clear p1 X b3 HD g m y0 y1 x0;go_wp2_with fail;refine (q5.o).mono ?_;rintro e w9 ⟨v9,rfl,p0,V,a7⟩;have l1:=kp p0;have j4:=kp (g6.o.chg V fun hs=>by have:=(y2.o.lt _ hs).1; omega);have m5:=kp (a1.o.trans (V.below (fun j hj=>by have:=(y2.o.lt j hj).1; omega) a1.o.size));clear p0 V a7;go_wp2_with fail;go_roundw
   case rel=>
    refine⟨v9,⟨min c.a (bP c).a,c.o+1⟩,fZ f (bP c),k-1,rfl,?_,j4.o,m5.o,z2.a,z2.b,z2.C,?_,?_,?_⟩
    .rw[←HE.a]; exact l1.o
    .obtain⟨k',rfl⟩:∃k',k=k'+1:=⟨k-1,by have:=s.E; omega⟩
     rw[←s.d]
     conv=>rhs; unfold eW
     rw[aK]
     .rfl
     .simp only[bH,bR,mM];exact⟨J,_,HE.B,rfl⟩
    .have:=s.E;show o-(c.o+1)≤((k-1:Nat):Int);omega
    .have:=HL.o;exact aB (nI _ _) (by omega)
   case measure=>
    rw[show w9.cell? ⟨w.heap.size,1,none⟩=_ from j4.o.cell 1,show wr.cell? ⟨w.heap.size,1,none⟩=_ from N.o.cell 1];show (o-(c.o+1)).toNat<(o-c.o).toNat;omega
  all_goals
   have q3:=kp (Ao.2.2 vl f (·.a) c.a 306 #[] wT.heap.size wT HT.o.sl (aN _) (by omega) (Hg f s.b.sort) (enters_of func306 (by kernel_rfl) rfl) (fun W x _ _=>Ro x c.a W));go_wp2_with fail;refine mb' (q3.o) fun Y o0=>?_;have d4:=kp (HT.o.below o0);have X:=U.o.below o0 U.o.lt;have d6:=k'3 d2.o.size U.o.lt o0.size;have a1:=kp (d2.o.on o0);clear g m;have g:=X.cell 0;have m:=X.cell 1;simp only[aP,aZ]at g m;have o1:=ba' Y (.cells #[.i c.a,.i c.o] 262);have o3:=kp (a1.o.on o1);have e4:=kp (d4.o.below o1);have y3:=kp (Hd (l2:=[c]) (eD (·.a) c.a f) Y.heap.size _ e4.o (Blk.new Y 262 [.i c.a,.i c.o]) (fun e=>by have:=(d4.o.lt _ e).2; omega) (An _ _ _) (by simp) (fun i hi=>by have:=d6.o; have:=o1.size; omega) (by simp; omega));clear o0 X o1 q3;go_wp2_with fail;refine (y3.o).mono ?_;rintro e w9 ⟨v9,rfl,p0,V,q6⟩;have l1:=k'2 p0 V;clear p0 V q6 g m y3;go_wp2_with fail;go_ret2;rw[a6.o];refine⟨_,rfl,?_,?_⟩
   .rw[←z3.o,←Hf c f (Rl s.c)];exact l1.a.mono fun i _ h=>by omega
   .exact o3.o.trans ((l1.B.below (fun i hi=>by have:=(e4.o.lt i hi).1; omega) o3.o.size).mono (aN _))
end
end Go.Proofs.YtoncgpddjmgbfaaGreat
