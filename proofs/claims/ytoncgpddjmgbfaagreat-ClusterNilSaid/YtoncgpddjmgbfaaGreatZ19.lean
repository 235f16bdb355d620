import Derived.Test.YtoncgpddjmgbfaaGreatZ03
import Derived.Test.YtoncgpddjmgbfaaGreatZ04
import Derived.Test.YtoncgpddjmgbfaaGreatZ16
import Derived.Test.YtoncgpddjmgbfaaGreatZ17
import Derived.Test.YtoncgpddjmgbfaaGreatZ18
import Derived.Defers
import Derived.Recover
namespace Go.Proofs.YtoncgpddjmgbfaaGreat
open Go.RowKit Go.Proofs.Tryz
set_option maxRecDepth 100000
set_option maxHeartbeats 12800000
set_option linter.unusedVariables false
set_option linter.unusedSimpArgs false
section
attribute [-go_sem] loadCellsFrom storeCells
attribute [local go_sem] aX
theorem yB{α:Type}{one:List UInt8→Option (α×List UInt8)}{P:α→Prop}(h:∀l x r,one l=some (x,r)→P x):∀(n:Nat)(l:List UInt8)(xs:List α)(r:List UInt8),bN one n l=some (xs,r)→(∀x∈xs,P x)∧xs.length=n
 |0,l,xs,r,a=>by
  simp only[bN,Option.some.injEq,Prod.mk.injEq]at a;rw[←a.1];exact⟨fun x d=>by simp at d,rfl⟩
 |n+1,l,xs,r,a=>by
  unfold bN at a
  cases h1:one l with
  |none=>simp[h1]at a
  |some p=>
   obtain⟨x,c⟩:=p
   cases h2:bN one n c with
   |none=>simp[h1,h2]at a
   |some q=>
    obtain⟨g,f⟩:=q;simp only[h1,h2,Option.some.injEq,Prod.mk.injEq]at a;obtain⟨i1,e⟩:=yB h n c g f h2;rw[←a.1];refine⟨fun y b=>?_,by simp[e]⟩;rcases bD.1 b with rfl|b
    .exact h _ _ _ h1
    .exact i1 y b
theorem Ug{l r:List UInt8}{x:Ob}(h:obP l=some (x,r)):0≤x.b.a∧x.b.a≤2147483647∧0≤x.b.o∧x.b.o≤8:=by
 unfold obP at h
 cases c:bN bW 4 l with
 |none=>simp[c]at h
 |some p=>
  obtain⟨ns,g⟩:=p;obtain⟨i,j⟩:=yB (P:=fun n=>0≤n∧n≤2147483647) (fun l x r h=>by obtain⟨k,rfl,B⟩:=vA h; omega) 4 l ns g c
  match ns,j,c with
  |[D,y,f,e],_,c=>
   have d:=i y (by simp);simp only[c]at h
   split at h
   .cases h
   rename_i A
   cases h2:bN gM f.toNat g with
   |none=>simp[h2]at h
   |some m=>
    obtain⟨ws,s⟩:=m
    cases h3:bN bW e.toNat s with
    |none=>simp[h2,h3]at h
    |some q=>
     obtain⟨ls,C⟩:=q;simp only[h2,h3,Option.some.injEq,Prod.mk.injEq]at h;have z:=Om f e;rw[←h.1];exact⟨d.1,d.2,by simp only; omega,by simp only; omega⟩
theorem Cg(b:List Bk):∀(k:Nat)(a:Int),(dL b k a).length≤2 ^ k
 |0,a=>by
  unfold dL
  split<;>simp
 |k+1,a=>by
  unfold dL
  split
  .simp; exact zA
  .have c:=Cg b k a;have d:=Cg b k (a+aW k);rw[bF,wD];omega
def mD(l:List UInt8):Option (Hp×List UInt8):=
 match hpP l with
 |some (h,r)=>if cR h=true then some (h,r) else none
 |none=>none
theorem Ch(l:List UInt8):gZ l=match mD l with
  |some (h,[])=>some h
  |_=>none:=by
 unfold gZ mD
 cases hpP l with
 |none=>rfl
 |some p=>
  obtain⟨h,r⟩:=p
  cases r with
  |nil=>by_cases b:cR h=true<;>simp[b]
  |cons a r=>by_cases b:cR h=true<;>simp[b]
theorem yC{l:List UInt8}(h:bN bW 7 l=none):mD l=none:=by unfold mD hpP; simp[h]
theorem Uh{l r:List UInt8}{a b c d e f n:Int}(h:bN bW 7 l=some ([a,b,c,d,e,f,n],r)):hpP l=if 256<n then none else match bN obP n.toNat r with
  |none=>none
  |some (g,r)=>some (kY a b c d e f g,r):=by
 unfold hpP;rw[h];rfl
def kL(w:World)(gi gr:Nat)(o:Option (Hp×List UInt8))(e:Ending)(w':World):Prop:=
 Chg (fun i=>i=gr) w w'∧match o with
  |some (h,r)=>∃p ps,e=.returned (.agg p.cells.toArray)∧p.x=h∧Hv w' w.heap.size p ps∧bX w' gi gr r
  |none=>e=.panicked gP
theorem kL.none{w b:World}{c a:Nat}{o:Option (Hp×List UInt8)}(e:o=none)(d:Chg (fun i=>i=a) w b):kL w c a o (.panicked gP) b:=by
 subst e;exact⟨d,rfl⟩
theorem kL.some{w a:World}{c b:Nat}{o:Option (Hp×List UInt8)}{r:List UInt8}{p:HpV}{d:List ObV}(h:o=some (p.x,r))(e:Chg (fun i=>i=b) w a)(f:Hv a w.heap.size p d)(g:bX a c b r):kL w c b o (.returned (.agg p.cells.toArray)) a:=by
 subst h;exact⟨e,p,d,rfl,rfl,f,g⟩
end
section
attribute [-go_sem] loadCellsFrom storeCells
attribute [local go_sem] aX
theorem yD{α:Type}{one:List UInt8→Option (α×List UInt8)}{k:Nat}{l r a:List UInt8}{xs:List α}{x:α}(h:bN one k l=some (xs,r))(b:one r=some (x,a)):bN one (k+1) l=some (xs++[x],a):=by
 rw[pF,h];simp only[];rw[b]
theorem yE{α:Type}{one:List UInt8→Option (α×List UInt8)}{k n:Nat}{l r:List UInt8}{xs:List α}(h:bN one k l=some (xs,r))(a:one r=none)(b:k+1≤n):bN one n l=none:=by
 refine Cc (i:=k+1) ?_ b;rw[pF,h];simp only[];rw[a]
theorem Ui{k:Nat}(e:k<4)(a b c d:Value)(t:Nat→Int):[a,b,c,Value.i (t 0),.i (t 1),.i (t 2),.i (t 3),d][3+k]? =some (.i (t k)):=by
 have:k=0∨k=1∨k=2∨k=3:=by omega
 rcases this with rfl|rfl|rfl|rfl<;>rfl
theorem Uj{k:Nat}(e:k<4)(a b c d:Value)(t:Nat→Int)(x:Int):[a,b,c,Value.i (t 0),.i (t 1),.i (t 2),.i (t 3),d].set (3+k) (.i x)=
  [a,b,c,Value.i ((fun j=>if j=k then x else t j) 0),.i ((fun j=>if j=k then x else t j) 1),.i ((fun j=>if j=k then x else t j) 2),.i ((fun j=>if j=k then x else t j) 3),d]:=by
 have:k=0∨k=1∨k=2∨k=3:=by omega
 rcases this with rfl|rfl|rfl|rfl<;>rfl
theorem Uk{k:Nat}(t:Nat→Int)(x:Int)(a b:Int):[a,b]++(List.range k).map t++[x]=[a,b]++(List.range (k+1)).map (fun j=>if j=k then x else t j):=by
 rw[cH,Ds,fW]
 congr 2
 .refine List.map_congr_left fun j c=>?_;rw[aF (by have:=List.mem_range.1 c; omega)]
 .simp
theorem Rws.blk_set{w:World}{base b:Nat}{t:TypeId}{e:List ObV}{f:List Value}(h:Rws w base e)(a:Blk w b t f)(d:3≠t)(j:Nat)(u:Value):Rws (w.setCell ⟨b,j,none⟩ u) base e:=
 ⟨fun p c=>⟨(h.row p c).1.blk_set a d j u,(h.row p c).2.blk_set a d j u⟩,h.sep⟩
theorem Rws.row_set{w:World}{base b:Nat}{t:TypeId}{e:List ObV}{f:List Value}(h:Rws w base e)(a:Blk w b t f)(d:3≠t)(xs:List Value):Rws (w.setRow b xs.toArray) base e:=
 ⟨fun p c=>⟨(h.row p c).1.row_set a d xs,(h.row p c).2.row_set a d xs⟩,h.sep⟩
theorem OR.blk_set{α:Type}{enc:α→List Value}{w:World}{S:Nat→Prop}{k b:Nat}{t a:TypeId}{v:Value}{l:List α}{c:List Value}(h:OR w S t k v enc l)(d:Blk w b a c)(g:a≠t)(j:Nat)(u:Value):OR (w.setCell ⟨b,j,none⟩ u) S t k v enc l:=
 aM.chg h ((Chg.refl (fun i=>i=b) w).setCell (.inr rfl) j u) fun _ f e=>aM.not_blk h d g (e▸f)
theorem Ul{h:Hp}(H:cR h=true):cZ h.order=true:=(gE.1 H).reg
theorem Um{w:World}{gi gr:Nat}{l:List UInt8}(h:bX w gi gr l):Calls prog 181 #[.pointer (some ⟨gi,0,none⟩)] w (kL w gi gr (mD l)):=by
 have p4:∀(fn:Fn)(first cap:Array Value)(w:World),(Instr.makeFunc fn first cap).run prog w=.ok (.func fn first cap) w:=fun _ _ _ _=>rfl;have K0:=kp (Rs.new h 40 z'1);have HT:=kp qN;have HF:=kp qO;go_enter func181,ntmps181
 cases E:bW l with
 |none=>
  go_wp2_with fail;refine mb' (lE K0.o.inn E) fun H F=>?_;exact⟨rfl,kL.none (yC (yE (k:=0) (xs:=[]) rfl E (by omega))) (K0.o.end_ F)⟩
 |some p1=>
 obtain⟨c,r1⟩:=p1;have z0:=kp (yD (k:=0) (xs:=[]) (l:=l) rfl E);have j2:=kp E;go_wp2_with fail;refine (iC K0.o.inn j2.o).mono ?_;rintro e w1 ⟨rfl,l3,q2⟩;have J1:=kp (K0.o.call l3 q2);have z1:=J1.o.blk.cell 0;have y1:=J1.o.blk.frozen 0;simp only[aP]at z1;have T:=kp (J1.o.put 0 (.i c));simp only[aC]at T
 cases G:bW r1 with
 |none=>
  go_wp2_with fail;refine mb' (lE T.o.inn G) fun H F=>?_;exact⟨rfl,kL.none (yC (yE z0.o G (by omega))) (T.o.end_ F)⟩
 |some p2=>
 obtain⟨g,r2⟩:=p2;have g2:=kp (yD z0.o G);have l2:=kp G;go_wp2_with fail;refine (iC T.o.inn l2.o).mono ?_;rintro e w2 ⟨rfl,m3,b3⟩;have J2:=kp (T.o.call m3 b3);have z2:=J2.o.blk.cell 2;have y2:=J2.o.blk.frozen 2;simp only[aP,aZ]at z2;have K2:=kp (J2.o.put 2 (.i g));simp only[aC,aD]at K2;go_wp2_with fail
 go_loopw [13] (fun i wr=>∃k:Nat,k≤4∧i=.i k∧∃(t:Nat→Int)(r:List UInt8),bN bW (2+k) l=some ([c,g]++(List.range k).map t,r)∧(∀j,k≤j→t j=0)∧Rs w gi gr 40 r z'1 [.i c,.slice none 0 0,.i g,.i (t 0),.i (t 1),.i (t 2),.i (t 3),.slice none 0 0] wr) (fun i _=>4-(intOf i).toNat)
 case atStart=>exact⟨0,by omega,rfl,fun _=>0,r2,g2.o,fun _ _=>rfl,K2.o⟩
 case round=>
  obtain⟨k,hk,rfl,t,r,d4,l4,g4⟩:=hrel;have D:=k'3 d4 l4 g4
  by_cases j1:k<4
  .have g3:(k:Int)<4:=by omega
   cases h3:bW r with
   |none=>
    go_wp2_with fail;refine mb' (lE D.C.inn h3) fun H F=>?_;go_wp2_with fail;exact⟨rfl,kL.none (yC (yE D.a h3 (by omega))) (D.C.end_ F)⟩
   |some p3=>
    obtain⟨x,r'⟩:=p3;have b1:=kp h3;go_wp2_with fail;refine (iC D.C.inn b1.o).mono ?_;rintro e w3 ⟨rfl,o3,d3⟩;have J3:=kp (D.C.call o3 d3);have z3:=(J3.o.blk.cell (3+k)).trans (Ui j1 _ _ _ _ t);have y3:=J3.o.blk.frozen (3+k);have g1:=J3.o.put (3+k) (.i x);rw[Uj j1]at g1;have K3:=kp g1;go_wp2_with fail;go_roundw
    case rel=>
     refine⟨k+1,by omega,by go_num,fun j=>if j=k then x else t j,r',?_,fun j hj=>?_,K3.o⟩
     .rw[show 2+(k+1)=2+k+1 by omega,yD D.a b1.o,Uk]
     .simp only[];rw[aF (by omega)];exact D.b j (by omega)
    case measure=>simp[intOf]; omega
  .obtain rfl:k=4:=by omega
   have a1:=kp (show bN bW 6 l=some ([c,g,t 0,t 1,t 2,t 3],r) from D.a);have K6:=kp D.C;generalize t 0=n at *;generalize t 1=q at *;generalize t 2=s at *;generalize t 3=y at *
   cases h7:bW r with
   |none=>
    go_wp2_with fail;refine mb' (lE K6.o.inn h7) fun H F=>?_;exact⟨rfl,kL.none (yC (yE a1.o h7 (by omega))) (K6.o.end_ F)⟩
   |some p7=>
   obtain⟨n7,r7⟩:=p7;obtain⟨J,rfl,o4⟩:=vA h7;have O:=kp (Uh (show bN bW 7 l=some ([c,g,n,q,s,y,(J:Int)],r7) from yD a1.o h7));have m2:=kp h7;go_wp2_with fail;refine (iC K6.o.inn m2.o).mono ?_;rintro e w7 ⟨rfl,q3,e3⟩;have U:=kp (K6.o.call q3 e3)
   by_cases d1:256<(J:Int)
   .have A:=kp d1;go_wp2_with fail;refine (Ue J 256 A.o _ _).mono ?_;rintro e H ⟨rfl,rfl⟩;exact⟨rfl,kL.none (by unfold mD; rw[O.o,aK A.o]) U.o.chg⟩
   have A:=kp d1;have Z:=kp (Uf J 256 (by omega) (by omega) U.o.inn)
   cases h8:bN obP J r7 with
   |none=>
    rw[h8]at Z;have I:=kp h8;go_wp2_with fail;refine (Z.o).mono ?_;rintro e H ⟨F,rfl⟩;exact⟨rfl,kL.none (by unfold mD; rw[O.o,aF A.o,gS,I.o]) (U.o.end_ F)⟩
   |some p8=>
   obtain⟨d,r8⟩:=p8;rw[h8]at Z;have I:=k'2 h8 (yB (fun l x r h=>Ug h) J r7 d r8 h8);go_wp2_with fail;refine (Z.o).mono ?_;rintro e w8 ⟨j3,v8,f,rfl,l1,e4,m0,a4⟩;obtain⟨m,c8,rfl,-⟩:=dO l1;have S:=kp (U.o.call a4 j3);have o1:=U.o.chg.size;have O8:=k'2 ((l1.mono o1).blk_set S.o.blk (by decide) 1 (.slice m f.length c8)) ((e4.mono o1).blk_set S.o.blk (by decide) 1 (.slice m f.length c8));have Q:=k'3 m0 (fun p(hp:p∈f)=>I.b p.x (by rw[←m0]; exact cP.2 ⟨p,hp,rfl⟩)) (show f.length=J from by rw[←I.C,←m0,dD]);have z8:=S.o.blk.cell 1;have y8:=S.o.blk.frozen 1;simp only[aP,aZ]at z8;have L:=kp (S.o.put 1 (.slice m f.length c8));simp only[aC,aD]at L;have x8:=L.o.blk.cell 0;simp only[aP]at x8
   cases hrg:cZ c with
   |false=>
    have g0:=kp (fun W=>by have:=Bh c W; rw[hrg]at this; exact this);have R:=kp hrg;go_wp2_with fail;refine (g0.o _).mono ?_;rintro e H ⟨v9,rfl,-,M⟩;rw[show dG 1 false=1 from rfl];have b2:=kp M;go_wp2_with fail;refine (HF.o _).mono ?_;rintro e q0 ⟨rfl,rfl⟩;exact⟨rfl,kL.none (by
     unfold mD;rw[O.o,aF A.o,gS,I.a];simp only[];rw[aF];intro N;have:=Ul N;rw[show (kY c g n q s y d).order=c from rfl,R.o]at this
     cases this) (L.o.chg.then b2.o)⟩
   |true=>
   have g0:=kp (fun W=>by have:=Bh c W; rw[hrg]at this; exact this);have R:=kp (fB hrg);go_wp2_with fail;refine (g0.o _).mono ?_;rintro e H ⟨v9,rfl,m1,M⟩;rw[show dG 1 true=0 from rfl];rw[aK rfl]at m1;have K9:=kp (L.o.grow M);have O9:=k'2 (O8.a.below M) (O8.B.below M);have a0:=k'2 m1 M;go_wp2_with fail;refine mb' (HT.o _) fun w' p0=>?_;obtain rfl:=p0.symm;have x8:=K9.o.blk.cell 0;have x9:=K9.o.blk.cell 1;simp only[aP,aZ]at x8 x9;have d2:=kp (Ud c v9 (.slice m f.length c8) [⟨0,c⟩] f w.heap.size H (OR.of_ow a0.a (fun i V _=>aB L.o.chg.size V)) O9.a K9.o.chg.size Q.b (fun b hb=>by
    rw[bZ.1 hb];have E:=R.o;exact⟨⟨by simp only; omega,by simp only; omega⟩,by simp only; omega,by simp only; omega⟩) (by have E:=Q.C; have G:=A.o; omega) (by
     have E:=R.o;have G:2 ^ c.toNat≤2 ^ 8:=rH (by omega) (by omega);simp only[kW];omega))
   go_wp2_with fail;refine (d2.o).mono ?_;rintro e q0 ⟨q4,rfl,o0,a3⟩;obtain⟨z,c10,rfl,-⟩:=dO o0;have l0:=a0.B.trans (a3.below (fun i V=>(a0.a.lt V.symm).1) a0.B.size);have j4:oS (f.map (·.x.b)) [⟨0,c⟩]=dL (d.map fun x:Ob=>x.b) c.toNat 0:=by
    rw[yA,show oS (f.map (·.x.b)) []=[] from rfl,fG,←Q.a,vV];rfl
   rw[j4]at o0 ⊢;have K:=kp (L.o.grow l0);have j0:=k'3 (O8.a.below l0) (O8.B.below l0) (show OR q0 (fun i=>w.heap.size≤i) 262 2 _ Bk.cells _ from OR.of_ow o0 fun i V _=>aB K9.o.chg.size V);have m4:=K.o.blk.cell 7;have z4:=K.o.blk.frozen 7;simp only[aP,aZ]at m4;have b0:=kp (K.o.put 7 (.slice z (dL (d.map fun x:Ob=>x.b) c.toNat 0).length c10));simp only[aC,aD]at b0;have y0:=kp (show Hv (q0.setCell ⟨w.heap.size+1,7,none⟩ (.slice z (dL (d.map fun x:Ob=>x.b) c.toNat 0).length c10)) w.heap.size ⟨kY c g n q s y d,.slice m f.length c8,.slice z (dL (d.map fun x:Ob=>x.b) c.toNat 0).length c10⟩ f from
    ⟨j0.a.blk_set K.o.blk (by decide) _ _,j0.b.blk_set K.o.blk (by decide) _ _,Q.a.symm,OR.blk_set j0.C K.o.blk (by decide) _ _⟩)
   have hL:=b0.o.blk.load (P:=prog) (k:=8) rfl;have X:=kp (xT ⟨kY c g n q s y d,.slice m f.length c8,.slice z (dL (d.map fun x:Ob=>x.b) c.toNat 0).length c10⟩ f _ _ y0.o.wv.hpAt (aN _) (by have E:=Q.C; have G:=A.o; omega) (by
    have E:=R.o;have G:2 ^ c.toNat≤2 ^ 8:=rH (by omega) (by omega);have h3:=Cg (d.map fun x:Ob=>x.b) c.toNat 0;show (dL (d.map fun x:Ob=>x.b) c.toNat 0).length≤900000;omega))
   cases N:cR (kY c g n q s y d) with
   |false=>
    have HH:=kp N;rw[show cR (HpV.x ⟨kY c g n q s y d,.slice m f.length c8,.slice z (dL (d.map fun x:Ob=>x.b) c.toNat 0).length c10⟩)=false from N]at X;go_wp2_with fail;refine mb' (X.o) fun q1 e0=>?_;rw[show dG 1 false=1 from rfl];have a2:=kp e0;go_wp2_with fail;refine (HF.o _).mono ?_;rintro e y4 ⟨rfl,rfl⟩;exact⟨rfl,kL.none (by
     unfold mD;rw[O.o,aF A.o,gS,I.a];simp only[];rw[aF (by rw[HH.o]; decide)]) (b0.o.chg.then a2.o)⟩
   |true=>
    have HH:=kp N;rw[show cR (HpV.x ⟨kY c g n q s y d,.slice m f.length c8,.slice z (dL (d.map fun x:Ob=>x.b) c.toNat 0).length c10⟩)=true from N]at X;go_wp2_with fail;refine mb' (X.o) fun q1 e0=>?_;rw[show dG 1 true=0 from rfl];have d0:=kp (b0.o.grow e0);have o2:=kp (y0.o.below e0);go_wp2_with fail;refine mb' (HT.o _) fun w' p0=>?_;obtain rfl:=p0.symm;have hL:=d0.o.blk.load (P:=prog) (k:=8) rfl;have hS:=d0.o.res.store (P:=prog) (cs':=[.i c,.slice m f.length c8,.i g,.i n,.i q,.i s,.i y,.slice z (dL (d.map fun x:Ob=>x.b) c.toNat 0).length c10]) rfl (HpV.one (p:=⟨kY c g n q s y d,.slice m f.length c8,.slice z (dL (d.map fun x:Ob=>x.b) c.toNat 0).length c10⟩) rfl rfl);have Y:=k'2 (d0.o.fin [.i c,.slice m f.length c8,.i g,.i n,.i q,.i s,.i y,.slice z (dL (d.map fun x:Ob=>x.b) c.toNat 0).length c10]) (o2.o.chg d0.o.res ((Chg.refl (fun i=>i=w.heap.size) q1).setRow (.inr rfl) (List.toArray [.i c,.slice m f.length c8,.i g,.i n,.i q,.i s,.i y,.slice z (dL (d.map fun x:Ob=>x.b) c.toNat 0).length c10])) (by decide) (by decide) (by decide));go_wp2_with fail;have hR:=Y.a.1.load (P:=prog) (k:=8) rfl;exact bI (v:=.agg (HpV.cells ⟨kY c g n q s y d,.slice m f.length c8,.slice z (dL (d.map fun x:Ob=>x.b) c.toNat 0).length c10⟩).toArray) (by simp[results,results181,go_sem,hR,HpV.cells,kY]) rfl (kL.some (p:=⟨kY c g n q s y d,.slice m f.length c8,.slice z (dL (d.map fun x:Ob=>x.b) c.toNat 0).length c10⟩) (r:=r8) (by
     unfold mD;rw[O.o,aF A.o,gS,I.a];simp only[];rw[aK HH.o]) Y.a.2.2 Y.B Y.a.2.1)
end
section
attribute [-go_sem] loadCellsFrom storeCells
attribute [local go_sem] aX
theorem Un:∀u∈(z'1:List Value),u.oneCell'=true:=HpV.one (p:=⟨lA,.slice none 0 0,.slice none 0 0⟩) rfl rfl
theorem Io(d b a:Nat)(xs:List Value)(c:Int)(u:TypeId)(h:Value)(g:List PanicEntry)(w:World)(o:Blk w d 40 z'1)(r:Blk w b 40 xs)(m:Blk w a 30 [.i c])(n:xs.length=8)(p:a≠b):
  CallsD prog 226 #[.pointer (some ⟨d,0,none⟩),.pointer (some ⟨b,0,none⟩),.pointer (some ⟨a,0,none⟩)] (.panicking ({v:=.iface u h,recovered:=false}::g)) w fun e s x=>
   e=.returned (.tuple #[])∧s=.panicking ({v:=.iface u h,recovered:=true}::g)∧x=(w.setRow b z'1a).setCell ⟨a,0,none⟩ (.i 60):=by
 have j:=o.load (P:=prog) (k:=8) rfl;have l:=r.store (P:=prog) (cs':=z'1) (by rw[n]; rfl) Un;have f:=m.other p (List.toArray z'1);have c2:=f.cell 0;have i:=f.frozen 0;simp only[aP]at c2;refine callsD_of_wpS func226 rfl fun z y q=>?_;apply wpS_seq;apply wpS_region;simp[wpOpsS,go_sem,recoverD,q,ntmps226,Exit.thenS];apply wpS_seq;apply wpS_region;simp[wpOpsS,go_sem,Exit.thenS];refine wpS_cond (t:=true) (by simp[Act.eval,Array.replicate]) ?_;simp only[if_true];apply wpS_region;simp[wpOpsS,go_sem,j,l,c2,i,bodyPostS,results,results226]
theorem Uo(a b c:Value)(w:World):
  CallsD prog 226 #[a,b,c] .returning w fun e g h=>e=.returned (.tuple #[])∧g=.returning∧h=w:=by
 refine callsD_of_wpS func226 rfl fun d i f=>?_;apply wpS_seq;apply wpS_region;simp[wpOpsS,go_sem,recoverD,f,ntmps226,Exit.thenS];apply wpS_seq;apply wpS_region;simp[wpOpsS,go_sem,Exit.thenS];refine wpS_cond (t:=false) (by simp[Act.eval,Array.replicate]) ?_;simp only[tL,if_false];refine wpS_of_wp (wp_skip ?_)
 cases d
 simp_all [bodyPostS,results,results226]
def oB(w:World)(o:Option Hp)(e:Ending)(w':World):Prop:=
 ∃p ps,e=.returned (.tuple #[.agg p.cells.toArray,.i (if o.isSome then 0 else 60)])∧p.x=o.getD lA∧Hv w' w.heap.size p ps∧Bw' w w'
theorem Hv.no(w:World)(base:Nat):Hv w base ⟨lA,.slice none 0 0,.slice none 0 0⟩ []:=⟨Ow.nil _ _ _ _ _,⟨fun _ h=>(nomatch h),List.Pairwise.nil⟩,rfl,⟨rfl,.inl ⟨rfl,rfl⟩⟩⟩
theorem Ip(g:Nat)(A:Option Addr)(n c:Nat)(w:World)(h:Blk w g 276 [.slice A n c]):
  Calls prog 179 #[.pointer (some ⟨g,0,none⟩)] w fun e b=>e=.returned (.i n)∧b=w:=by
 have a:=h.cell 0;simp only[aP]at a;go_enter func179,ntmps179;go_wp2_with fail;go_ret;exact⟨rfl,rfl⟩
structure WhH(w:World)(xs:List Value)(c:Int)(W:World):Prop where
 x:Blk W w.heap.size 40 xs
 e:Blk W (w.heap.size+1) 30 [.i c]
 n:Blk W (w.heap.size+1+1) 40 z'1
 b:Bw' w W
section
variable {w W W':World}{xs:List Value}{c:Int}
theorem WhH.new(w:World):WhH w z'1 0 (((w.alloc (.cells z'1a 40)).alloc (.cells #[.i 0] 30)).alloc (.cells z'1a 40)):=by
 have a:=ba' w (.cells z'1a 40);have b:=Blk.new w 40 z'1;have c:=Blk.new (w.alloc (.cells z'1a 40)) 30 [.i 0];have d:=Blk.new ((w.alloc (.cells z'1a 40)).alloc (.cells #[.i 0] 30)) 40 z'1;exact⟨(b.alloc _).alloc _,(by simpa using c.alloc _),(by simpa using d),((a.alloc (by simp) _).alloc (by simp; omega) _)⟩
theorem WhH.grow(h:WhH w xs c W)(a:Bw' W W'):WhH w xs c W':=⟨h.x.below a h.x.lt,h.e.below a h.e.lt,h.n.below a h.n.lt,h.b.on a⟩
theorem WhH.chg{g:Nat}(h:WhH w xs c W)(a:Chg (fun i=>i=g) W W')(d:w.heap.size+1+1<g):WhH w xs c W':=⟨h.x.chg a (by omega),h.e.chg a (by omega),h.n.chg a (by omega),h.b.trans (a.below (fun i f=>by omega) h.b.size)⟩
theorem WhH.put(h:WhH w xs c W)(a:List Value):WhH w a c (W.setRow w.heap.size a.toArray):=⟨h.x.set a,h.e.other (by omega) _,h.n.other (by omega) _,eU h.b (aN _) _⟩
theorem WhH.err(h:WhH w xs c W)(d:Int):WhH w xs d (W.setCell ⟨w.heap.size+1,0,none⟩ (.i d)):=⟨h.x.otherCell (by omega) _ _,h.e.setCell 0 _,h.n.otherCell (by omega) _ _,h.b.setCell (p:=⟨w.heap.size+1,0,none⟩) (by simp only; omega) _⟩
end
theorem oB.no{w a:World}{o:Option Hp}(c:o=none)(b:Bw' w a):oB w o (.returned (.tuple #[.agg z'1a,.i 60])) a:=by
 subst c;exact⟨⟨lA,.slice none 0 0,.slice none 0 0⟩,[],rfl,rfl,Hv.no _ _,b⟩
theorem oB.yes{w a:World}{o:Option Hp}{p:HpV}{b:List ObV}(d:o=some p.x)(e:Hv a w.heap.size p b)(c:Bw' w a):oB w o (.returned (.tuple #[.agg p.cells.toArray,.i 0])) a:=by
 subst d;exact⟨p,b,rfl,rfl,e,c⟩
theorem Up(A:Option Addr)(n c B:Nat)(l:List UInt8)(w:World)(hr:Rd w B A (bv l))(V:B≤w.heap.size)(hl:l.length=n)(hc:n≤c)(hm:c≤maxLen):
  Calls prog 180 #[.slice A n c,.func (.func 181) #[] #[]] w (oB w (gZ l)):=by
 have l1:∀(U:Fn)(first cap:Array Value)(w:World),(Instr.makeFunc U first cap).run prog w=.ok (.func U first cap) w:=fun _ _ _ _=>rfl;have HT:=kp qN;have Z:=kp qO;have y:=kp (WhH.new w);have HR:=kp (Em A n c l _ (((hr.below y.o.b V).more (aB V y.o.b.size))) hl hc hm)
 go_enter_defers func180,ntmps180
 go_wp2_with fail;refine (HR.o).mono ?_;rintro e q ⟨g,rfl,y0,L,p0⟩;have K4:=kp (y.o.grow p0);have F:=kp (show w.heap.size+1+1<g from cY y.o.n.lt y0);have T:=ba' q (.cells #[.pointer (some ⟨g,0,none⟩)] 219);have n5:=Blk.new q 219 [.pointer (some ⟨g,0,none⟩)];have J:=kp (K4.o.grow T);have HI:=kp (show bX (q.alloc (.cells #[.pointer (some ⟨g,0,none⟩)] 219)) q.heap.size g l from⟨n5,L.below T,by have:=L.lt; omega⟩);have s:=kp (Um HI.o);have a0:=kp (show g<q.heap.size from L.lt)
 cases hp:mD l with
 |none=>
  rw[hp]at s;have H:=kp (show gZ l=none by rw[Ch,hp]);go_wp2_with fail;refine (s.o).mono ?_;rintro e E ⟨K,rfl⟩;have h:=kp (J.o.chg K F.o);refine leaves_cons (f:=226) (args:=#[.pointer (some ⟨w.heap.size+1+1,0,none⟩),.pointer (some ⟨w.heap.size,0,none⟩),.pointer (some ⟨w.heap.size+1,0,none⟩)]) (by simp) (by simp[go_sem]) ?_;refine (Io _ _ _ _ 0 _ _ [] _ h.o.n h.o.x h.o.e rfl (by omega)).mono ?_;rintro e X Y ⟨rfl,rfl,rfl⟩;have d:=(h.o.put z'1).err 60;have C:=d.x.load (P:=prog) (k:=8) rfl;have j:=d.e.cell 0;have G:=oB.no H.o d.b;simp only[aP]at j;simp[Leaves,settle,results,results180,go_sem,C,j,G]
 |some p=>
  obtain⟨hh,r⟩:=p;rw[hp]at s;have S:=kp hp;go_wp2_with fail;refine (s.o).mono ?_;rintro e E ⟨K,p,ps,rfl,d1,O,W⟩;have h:=kp (J.o.chg K F.o);have hS:=h.o.x.store (P:=prog) (cs':=p.cells) rfl (HpV.one O.obs.one O.free.sl.one);have d:=kp (h.o.put p.cells);obtain⟨Q,D,c',z0,-,b1,-,-⟩:=W.rd;have a1:=J.o.b;have g1:=F.o;have j1:=a0.o;have d0:=kp ((show Blk E g 276 [.slice Q D c'] from z0).other (g':=w.heap.size) (by omega) p.cells.toArray);have q0:=(W.blk.other (g':=w.heap.size) (by omega) p.cells.toArray).cell 0;simp only[aP]at q0;have R:=kp b1;have I:=kp ((O.mono a1.size).chg h.o.x ((Chg.refl (fun i=>i=w.heap.size) E).setRow (.inr rfl) p.cells.toArray) (by decide) (by decide) (by decide));have b0:=kp d1;go_wp2_with fail;generalize E.setRow w.heap.size p.cells.toArray=W7 at *;go_wp2_with fail;refine mb' (Ip g Q D c' _ d0.o) fun w' N=>?_;obtain rfl:=N.symm
  by_cases M:D=0
  .subst M;obtain rfl:r=[]:=iY R.o;have l0:=kp (show gZ l=some hh by rw[Ch,S.o]);go_wp2_with fail;refine mb' (HT.o _) fun w' N=>?_;obtain rfl:=N.symm;have C:=d.o.x.load (P:=prog) (k:=8) rfl;have hS:=d.o.x.store (P:=prog) (cs':=p.cells) rfl (HpV.one I.o.obs.one I.o.free.sl.one);have z:=kp (d.o.put p.cells);have e0:=kp (I.o.chg d.o.x ((Chg.refl (fun i=>i=w.heap.size) W7).setRow (.inr rfl) p.cells.toArray) (by decide) (by decide) (by decide));have z8:=z.o.e.cell 0;have y8:=z.o.e.frozen 0;simp only[aP]at z8;have m:=kp (z.o.err 0);have j0:=kp (e0.o.chg z.o.e ((Chg.refl (fun i=>i=w.heap.size+1) _).setCell (.inr rfl) 0 (.i 0)) (by decide) (by decide) (by decide));go_wp2_with fail;refine leaves_cons (f:=226) (args:=#[.pointer (some ⟨w.heap.size+1+1,0,none⟩),.pointer (some ⟨w.heap.size,0,none⟩),.pointer (some ⟨w.heap.size+1,0,none⟩)]) (by simp) (by simp[go_sem]) ?_;refine (Uo _ _ _ _).mono ?_;rintro e X Y ⟨rfl,rfl,rfl⟩;have o0:=m.o.x.load (P:=prog) (k:=8) rfl;have j:=m.o.e.cell 0;have m0:=oB.yes (o:=gZ l) (p:=p) (by rw[l0.o,b0.o]) j0.o m.o.b;simp only[aP]at j;simp[Leaves,settle,results,results180,go_sem,o0,j,m0]
  .have g0:((D:Int)==0)=false:=by simpa using M
   have H:=kp (show gZ l=none by
    rw[Ch,S.o]
    cases r with
    |nil=>exact absurd R.o.symm M
    |cons a r=>rfl)
   go_wp2_with fail;refine (Z.o _).mono ?_;rintro e w8 ⟨rfl,rfl⟩;refine leaves_cons (f:=226) (args:=#[.pointer (some ⟨w.heap.size+1+1,0,none⟩),.pointer (some ⟨w.heap.size,0,none⟩),.pointer (some ⟨w.heap.size+1,0,none⟩)]) (by simp) (by simp[go_sem]) ?_;refine (Io _ _ _ _ 0 _ _ [] _ d.o.n d.o.x d.o.e rfl (by omega)).mono ?_;rintro e X Y ⟨rfl,rfl,rfl⟩;have m:=(d.o.put z'1).err 60;have C:=m.x.load (P:=prog) (k:=8) rfl;have j:=m.e.cell 0;have G:=oB.no H.o m.b;simp only[aP]at j;simp[Leaves,settle,results,results180,go_sem,C,j,G]
theorem Uq(A:Option Addr)(n c B:Nat)(l:List UInt8)(w:World)(I:Rd w B A (bv l))(j:B≤w.heap.size)(F:l.length=n)(E:n≤c)(G:c≤maxLen):
  Calls prog 132 #[.slice A n c] w (oB w (gZ l)):=by
 have d:=ba' w (.cells z'1a 40);have L:=Blk.new w 40 z'1;have z:=kp (Up A n c B l _ (I.below d j) (aB j d.size) F E G);have b:=k'2 d L;go_enter func132,ntmps132;go_wp2_with fail;refine (z.o).mono ?_;rintro e K ⟨p,J,rfl,H,g,m⟩;obtain⟨f,q⟩:∃f:Int,(if (gZ l).isSome=true then (0:Int) else 60)=f:=⟨_,rfl⟩
 rw[q];have s:=kp q;have h:=b.B.below m b.B.lt;have M:=h.store (P:=prog) (cs':=p.cells) rfl (HpV.one g.obs.one g.free.sl.one);have r:=kp (eU (b.a.on m) (aN _) p.cells.toArray);have y:=kp ((g.mono (base2:=w.heap.size) (by simp)).chg h ((Chg.refl (fun i=>i=w.heap.size) K).setRow (.inr rfl) p.cells.toArray) (by decide) (by decide) (by decide));have C:=kp (h.set p.cells);have x:=kp H;go_wp2_with fail;have D:=C.o.load (P:=prog) (k:=8) rfl;exact bI (v:=.tuple #[.agg p.cells.toArray,.i f]) (by simp[results,results132,go_sem,D]) rfl ⟨p,J,by rw[s.o],x.o,y.o,r.o⟩
end
section
theorem Ur(a b c d e f g:Bool):(a=false∧(a&&(b&&(c&&(d&&(e&&(f&&g))))))=false)∨(a=true∧b=false∧(a&&(b&&(c&&(d&&(e&&(f&&g))))))=false)∨(a=true∧b=true∧c=false∧(a&&(b&&(c&&(d&&(e&&(f&&g))))))=false)∨(a=true∧b=true∧c=true∧d=false∧(a&&(b&&(c&&(d&&(e&&(f&&g))))))=false)∨(a=true∧b=true∧c=true∧d=true∧e=false∧(a&&(b&&(c&&(d&&(e&&(f&&g))))))=false)∨(a=true∧b=true∧c=true∧d=true∧e=true∧f=false∧(a&&(b&&(c&&(d&&(e&&(f&&g))))))=false)∨(a=true∧b=true∧c=true∧d=true∧e=true∧f=true∧g=false∧(a&&(b&&(c&&(d&&(e&&(f&&g))))))=false)∨(a=true∧b=true∧c=true∧d=true∧e=true∧f=true∧g=true∧(a&&(b&&(c&&(d&&(e&&(f&&g))))))=true):=by
 cases a<;>cases b<;>cases c<;>cases d<;>cases e<;>cases f<;>cases g<;>simp
def mX(l:List Rw):Nat→Int
 |0=>0
 |k+1=>match l[k]? with |some r=>r.c|none=>0
theorem Iq{l:List Rw}{k:Nat}{r:Rw}(h:l[k]? =some r):mX l (k+1)=r.c:=by
 show (match l[k]? with |some r=>r.c|none=>0)=r.c;rw[h]
theorem Us(x:Int)(r:Rw)(l:List Rw):fL x (r::l)=((decide (x<r.c)&&decide (r.c≤4))&&(aG r.s 1 1000000&&(aG r.k 0 65535&&fL r.c l))):=rfl
theorem Ut{l:List Rw}{k:Nat}{r:Rw}{a R:Bool}{b:Int}(h:l[k]? =some r)(f:0≤if a then b else 0)(d:(a&&fL b (l.drop k))=R):
  ((a&&(decide (b<r.c)&&(decide (r.c≤4)&&(decide (1≤r.s)&&(decide (r.s≤1000000)&&(decide (0≤r.k)&&decide (r.k≤65535)))))))&&fL (mX l (k+1)) (l.drop (k+1)))=R∧
  ((a&&(decide (b<r.c)&&(decide (r.c≤4)&&(decide (1≤r.s)&&(decide (r.s≤1000000)&&(decide (0≤r.k)&&decide (r.k≤65535)))))))=true→0≤mX l (k+1)):=by
 obtain⟨g,i⟩:=iZ.1 h;rw[Iq h];rw[iF g,i,Us]at d;refine⟨by rw[←d]; simp[aG,Bool.and_assoc],fun e=>?_⟩
 cases a
 .simp at e
 .simp only[if_true]at f;simp only[kU,bH,bR]at e;omega
theorem Uu(l:List Rw)(k:Nat)(a:l.length≤k)(x:Int):fL x (l.drop k)=true:=by rw[kA a]; rfl
theorem yF(p:StV)(X:List ObV)(B:Nat)(w:World)(h:gW w B p X)(N:B≤w.heap.size)(hn:X.length≤1000000)(hf:p.p.x.free.length≤900000)(hr:p.rows.length≤1000000):
  Calls prog 124 #[.agg p.cells.toArray] w fun e w'=>e=.returned (.i (dG 60 (stB p.x)))∧Bw' w w':=by
 obtain⟨R,O⟩:=nm' (stB p.x);rw[O];generalize e0:w.alloc (.cells p.cells.toArray 43)=D;have d:Blk D w.heap.size 43 p.cells:=e0▸Blk.new w 43 p.cells;have e1:Bw' w D:=e0▸ba' w _;have Y:=kp e1;have Z:=kp d;have C:=k'2 (h.below e1 N) (aB N e1.size);obtain⟨n,F⟩:=nm' p.rows.length;obtain⟨A,c,U,-,-,-⟩:=h.2;have d0:=kp U;have K:=kp F;rw[F]at hr;have J:=kp (xT p.p X B D C.a.1 C.B hn hf);obtain⟨a,Q⟩:=nm' (cR p.p.x);rw[Q]at J;have HR:=kp (show (a&&fL (mX p.rows 0) (p.rows.drop 0))=R by rw[←O,←Q]; rfl);have k0:=d.cell 0;have k1:=d.cell 1;have k2:=d.cell 2;have k3:=d.cell 3;have k4:=d.cell 4;have k5:=d.cell 5;have k6:=d.cell 6;have k7:=d.cell 7;have H:=d.cell 8;simp only[StV.cells,HpV.cells,aT,aS,aP,aZ]at k0 k1 k2 k3 k4 k5 k6 k7 H;rw[U,F]at H;have p0:p.p.cells.toArray=#[.i p.p.x.order,p.p.ov,.i p.p.x.next,.i p.p.x.t0,.i p.p.x.t1,.i p.p.x.t2,.i p.p.x.t3,p.p.fv]:=rfl;rw[p0]at J;clear h U d e1 N F O Q hn hf p0;go_enter func124,ntmps124;go_wp2_with fail;refine mb' (J.o) fun w2 S=>?_;have a1:=kp S;have H:=(Z.o.below S Z.o.lt).cell 8;rw[StV.c8,d0.o,K.o]at H;have gq:(dG 1 a==0)=a:=by cases a<;>rfl
 clear S k0 k1 k2 k3 k4 k5 k6 k7;go_wp2_with fail
 go_loopw [3,4,14] (fun o l i wr=>∃(k:Nat)(m:Bool),k≤n∧o=.bool m∧i=.i k∧l=.i (mX p.rows k)∧0≤(if m then mX p.rows k else 0)∧(m&&fL (mX p.rows k) (p.rows.drop k))=R∧Bw' D wr) (fun _ _ i _=>n-(intOf i).toNat)
 case atStart=>exact⟨0,a,by omega,by first |rfl|rw[gq],rfl,rfl,by cases a<;>simp[mX],HR.o,a1.o⟩
 case round=>
  obtain⟨k,m,hk,rfl,rfl,rfl,l0,y0,T⟩:=hrel;have I:=kp T;have L:=kp y0;have a0:=kp l0;have z0:=C.a.2.below T C.B;clear T y0 l0 gq
  by_cases l1:k<n
  .have g3:(k:Int)<(n:Int):=by omega
   have z:k<p.rows.length:=by have:=K.o; omega
   obtain⟨A6,c6,V,q0,-,-⟩:=z0;rw[d0.o]at V;obtain⟨rfl,-,rfl⟩:=Value.slice.inj V;obtain⟨b,m1,rfl,-,y,-⟩:=dS (P:=prog) 4 jP (by omega) q0 k z;have W:p.rows[k]? =some (p.rows[k]'z):=jN z;generalize p.rows[k]'z=x at *;have x0:=y 0 _ rfl;have x1:=y 1 _ rfl;have x2:=y 2 _ rfl;have x3:=y 3 _ rfl;simp only[dW]at x0;generalize g0:wr.alloc (.cells #[.i x.c,.i x.s,.i x.k,.i x.v] 141)=W5;have j0:Bw' wr W5:=g0▸ba' wr _;have G:Blk W5 wr.heap.size 141 x.cells:=g0▸Blk.new wr 141 x.cells;have s0:=G.cell 0;have s1:=G.cell 1;have s2:=G.cell 2;simp only[Rw.cells,aP,aZ]at s0 s1 s2;have b1:=kp (I.o.on j0);obtain⟨lc,o0⟩:=nm' (mX p.rows k);rw[o0]at a0 L ⊢;have j1:=kp (Ut W a0.o L.o);have HX:=kp W;clear V q0 y z j0 G;rcases Ur m (decide (lc<x.c)) (decide (x.c≤4)) (decide (1≤x.s)) (decide (x.s≤1000000)) (decide (0≤x.k)) (decide (x.k≤65535)) with⟨j,g⟩|⟨j,f,g⟩|⟨j,f,q,g⟩|⟨j,f,q,r,g⟩|⟨j,f,q,r,E,g⟩|⟨j,f,q,r,E,M,g⟩|⟨j,f,q,r,E,M,h6,g⟩|⟨j,f,q,r,E,M,h6,g⟩
   all_goals
    have m0:mX p.rows (k+1)=x.c:=Iq HX.o;have d1:=kp g
    first |have H0:=kp j|skip
    first |have H1:=kp f|skip
    first |have H2:=kp q|skip
    first |have H3:=kp r|skip
    first |have H4:=kp E|skip
    first |have H5:=kp M|skip
    first |have H6:=kp h6|skip
    have g1:=kp m0;clear g m0 o0 W;go_wp2_with fail;go_roundw
    case rel=>
     refine⟨k+1,_,by omega,rfl,by go_num,by rw[g1.o],?_,?_,b1.o⟩
     all_goals
      have f:=j1.o;rw[d1.o]at f
      first |exact f.1|exact f.2 rfl|exact iG 0
    case measure=>simp[intOf]; omega
  .obtain rfl:k=n:=by omega
   obtain rfl:m=R:=by
    have:=L.o;rw[Uu _ _ (by have:=K.o; omega)]at this;simpa using this
   clear z0
   cases m
   .go_wp2_with fail;go_ret;exact⟨rfl,Y.o.on I.o⟩
   .go_wp2_with fail;go_ret;exact⟨rfl,Y.o.on I.o⟩
end
end Go.Proofs.YtoncgpddjmgbfaaGreat
