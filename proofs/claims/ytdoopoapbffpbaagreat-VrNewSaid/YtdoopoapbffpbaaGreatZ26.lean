import Derived.Test.YtdoopoapbffpbaaGreatZ19
import Derived.Test.YtdoopoapbffpbaaGreatZ23
import Derived.Test.YtdoopoapbffpbaaGreatZ25
import Derived.Defers
import Derived.Recover
namespace Go.Proofs.YtdoopoapbffpbaaGreat
open Go.RowKit Go.Proofs.Tryz
set_option maxRecDepth 100000
set_option maxHeartbeats 12800000
set_option linter.unusedVariables false
set_option linter.unusedSimpArgs false
section
attribute [-go_sem] loadCellsFrom storeCells
attribute [local go_sem] bC
theorem yR{α:Type}{one:List UInt8→Option (α×List UInt8)}{k:Nat}{l r a:List UInt8}{xs:List α}{x:α}(h:aZ one k l=some (xs,r))(b:one r=some (x,a)):aZ one (k+1) l=some (xs++[x],a):=by
 rw[qA,h];simp only[];rw[b]
theorem yS{α:Type}{one:List UInt8→Option (α×List UInt8)}{k n:Nat}{l r:List UInt8}{xs:List α}(h:aZ one k l=some (xs,r))(a:one r=none)(b:k+1≤n):aZ one n l=none:=by
 refine Do (i:=k+1) ?_ b;rw[qA,h];simp only[];rw[a]
theorem Ll{k:Nat}(e:k<4)(a b c d:Value)(t:Nat→Int):[a,b,c,Value.i (t 0),.i (t 1),.i (t 2),.i (t 3),d][3+k]? =some (.i (t k)):=by
 have:k=0∨k=1∨k=2∨k=3:=by omega
 rcases this with rfl|rfl|rfl|rfl<;>rfl
theorem Lm{k:Nat}(e:k<4)(a b c d:Value)(t:Nat→Int)(x:Int):[a,b,c,Value.i (t 0),.i (t 1),.i (t 2),.i (t 3),d].set (3+k) (.i x)=
  [a,b,c,Value.i ((fun j=>if j=k then x else t j) 0),.i ((fun j=>if j=k then x else t j) 1),.i ((fun j=>if j=k then x else t j) 2),.i ((fun j=>if j=k then x else t j) 3),d]:=by
 have:k=0∨k=1∨k=2∨k=3:=by omega
 rcases this with rfl|rfl|rfl|rfl<;>rfl
theorem Xb{k:Nat}(t:Nat→Int)(x:Int)(a b:Int):[a,b]++(List.range k).map t++[x]=[a,b]++(List.range (k+1)).map (fun j=>if j=k then x else t j):=by
 rw[cR,Ac,gC]
 congr 2
 .refine List.map_congr_left fun j c=>?_;rw[aC (by have:=List.mem_range.1 c; omega)]
 .simp
theorem Rws.blk_set{w:World}{base b:Nat}{t:TypeId}{ps:List ObV}{e:List Value}(h:Rws w base ps)(a:Blk w b t e)(d:3≠t)(j:Nat)(u:Value):Rws (w.setCell ⟨b,j,none⟩ u) base ps:=
 ⟨fun p c=>⟨(h.row p c).1.blk_set a d j u,(h.row p c).2.blk_set a d j u⟩,h.sep⟩
theorem Rws.row_set{w:World}{base b:Nat}{t:TypeId}{ps:List ObV}{e:List Value}(h:Rws w base ps)(a:Blk w b t e)(d:3≠t)(xs:List Value):Rws (w.setRow b xs.toArray) base ps:=
 ⟨fun p c=>⟨(h.row p c).1.row_set a d xs,(h.row p c).2.row_set a d xs⟩,h.sep⟩
theorem OR.blk_set{α:Type}{enc:α→List Value}{w:World}{S:Nat→Prop}{k b:Nat}{t a:TypeId}{v:Value}{l:List α}{c:List Value}(h:OR w S t k v enc l)(d:Blk w b a c)(g:a≠t)(j:Nat)(u:Value):OR (w.setCell ⟨b,j,none⟩ u) S t k v enc l:=
 aO.chg h ((Chg.refl (fun i=>i=b) w).setCell (.inr rfl) j u) fun _ f e=>aO.not_blk h d g (e▸f)
theorem Xc{h:Hp}(H:cO h=true):cP h.order=true:=(eC.1 H).reg
theorem Xd{w:World}{gi gr:Nat}{l:List UInt8}(h:cK w gi gr l):Calls prog 119 #[.pointer (some ⟨gi,0,none⟩)] w (kV w gi gr (mU l)):=by
 have l4:∀(fn:Fn)(first cap:Array Value)(w:World),(Instr.makeFunc fn first cap).run prog w=.ok (.func fn first cap) w:=fun _ _ _ _=>rfl;have K0:=kp (Rs.new h 29 z'1);have HT:=kp rO;have HF:=kp rP;go_enter func119,ntmps119
 cases D:bF l with
 |none=>
  go_wp2_with fail;refine mb' (lL K0.o.inn D) fun G E=>?_;exact⟨rfl,kV.none (yQ (yS (k:=0) (xs:=[]) rfl D (by omega))) (K0.o.end_ E)⟩
 |some p1=>
 obtain⟨c,r1⟩:=p1;have y0:=kp (yR (k:=0) (xs:=[]) (l:=l) rfl D);have d2:=kp D;go_wp2_with fail;refine (iN K0.o.inn d2.o).mono ?_;rintro e w1 ⟨rfl,d3,l2⟩;have J1:=kp (K0.o.call d3 l2);have z1:=J1.o.blk.cell 0;have y1:=J1.o.blk.frozen 0;simp only[aG]at z1;have S:=kp (J1.o.put 0 (.i c));simp only[aH]at S
 cases F:bF r1 with
 |none=>
  go_wp2_with fail;refine mb' (lL S.o.inn F) fun G E=>?_;exact⟨rfl,kV.none (yQ (yS y0.o F (by omega))) (S.o.end_ E)⟩
 |some p2=>
 obtain⟨f,r2⟩:=p2;have b2:=kp (yR y0.o F);have e2:=kp F;go_wp2_with fail;refine (iN S.o.inn e2.o).mono ?_;rintro e w2 ⟨rfl,e3,o2⟩;have J2:=kp (S.o.call e3 o2);have z2:=J2.o.blk.cell 2;have y2:=J2.o.blk.frozen 2;simp only[aG,aK]at z2;have K2:=kp (J2.o.put 2 (.i f));simp only[aH,aI]at K2;go_wp2_with fail
 go_loopw [13] (fun i wr=>∃k:Nat,k≤4∧i=.i k∧∃(t:Nat→Int)(r:List UInt8),aZ bF (2+k) l=some ([c,f]++(List.range k).map t,r)∧(∀j,k≤j→t j=0)∧Rs w gi gr 29 r z'1 [.i c,.slice none 0 0,.i f,.i (t 0),.i (t 1),.i (t 2),.i (t 3),.slice none 0 0] wr) (fun i _=>4-(intOf i).toNat)
 case atStart=>exact⟨0,by omega,rfl,fun _=>0,r2,b2.o,fun _ _=>rfl,K2.o⟩
 case round=>
  obtain⟨k,hk,rfl,t,r,o3,e4,a4⟩:=hrel;have A:=k'3 o3 e4 a4
  by_cases e1:k<4
  .have g3:(k:Int)<4:=by omega
   cases h3:bF r with
   |none=>
    go_wp2_with fail;refine mb' (lL A.C.inn h3) fun G E=>?_;go_wp2_with fail;exact⟨rfl,kV.none (yQ (yS A.a h3 (by omega))) (A.C.end_ E)⟩
   |some p3=>
    obtain⟨x,r'⟩:=p3;have a1:=kp h3;go_wp2_with fail;refine (iN A.C.inn a1.o).mono ?_;rintro e w3 ⟨rfl,j3,q2⟩;have J3:=kp (A.C.call j3 q2);have z3:=(J3.o.blk.cell (3+k)).trans (Ll e1 _ _ _ _ t);have y3:=J3.o.blk.frozen (3+k);have d1:=J3.o.put (3+k) (.i x);rw[Lm e1]at d1;have K3:=kp d1;go_wp2_with fail;go_roundw
    case rel=>
     refine⟨k+1,by omega,by go_num,fun j=>if j=k then x else t j,r',?_,fun j hj=>?_,K3.o⟩
     .rw[show 2+(k+1)=2+k+1 by omega,yR A.a a1.o,Xb]
     .simp only[];rw[aC (by omega)];exact A.b j (by omega)
    case measure=>simp[intOf]; omega
  .obtain rfl:k=4:=by omega
   have z0:=kp (show aZ bF 6 l=some ([c,f,t 0,t 1,t 2,t 3],r) from A.a);have K6:=kp A.C;generalize t 0=m at *;generalize t 1=n at *;generalize t 2=q at *;generalize t 3=s at *
   cases h7:bF r with
   |none=>
    go_wp2_with fail;refine mb' (lL K6.o.inn h7) fun G E=>?_;exact⟨rfl,kV.none (yQ (yS z0.o h7 (by omega))) (K6.o.end_ E)⟩
   |some p7=>
   obtain⟨n7,r7⟩:=p7;obtain⟨I,rfl,j4⟩:=rQ h7;have N:=kp (Xa (show aZ bF 7 l=some ([c,f,m,n,q,s,(I:Int)],r7) from yR z0.o h7));have g2:=kp h7;go_wp2_with fail;refine (iN K6.o.inn g2.o).mono ?_;rintro e w7 ⟨rfl,l3,a3⟩;have T:=kp (K6.o.call l3 a3)
   by_cases b1:256<(I:Int)
   .have z:=kp b1;go_wp2_with fail;refine (Wy I 256 z.o _ _).mono ?_;rintro e G ⟨rfl,rfl⟩;exact⟨rfl,kV.none (by unfold mU; rw[N.o,aE z.o]) T.o.chg⟩
   have z:=kp b1;have Y:=kp (Wz I 256 (by omega) (by omega) T.o.inn)
   cases h8:aZ obP I r7 with
   |none=>
    rw[h8]at Y;have H:=kp h8;go_wp2_with fail;refine (Y.o).mono ?_;rintro e G ⟨E,rfl⟩;exact⟨rfl,kV.none (by unfold mU; rw[N.o,aC z.o,eR,H.o]) (T.o.end_ E)⟩
   |some p8=>
   obtain⟨d,r8⟩:=p8;rw[h8]at Y;have H:=k'2 h8 (qC (fun l x r h=>Lk h) I r7 d r8 h8);go_wp2_with fail;refine (Y.o).mono ?_;rintro e w8 ⟨b3,v8,ps,rfl,g1,q3,l0,m3⟩;obtain⟨g,c8,rfl,-⟩:=eD g1;have R:=kp (T.o.call m3 b3);have l1:=T.o.chg.size;have O8:=k'2 ((g1.mono l1).blk_set R.o.blk (by decide) 1 (.slice g ps.length c8)) ((q3.mono l1).blk_set R.o.blk (by decide) 1 (.slice g ps.length c8));have O:=k'3 l0 (fun p(hp:p∈ps)=>H.b p.x (by rw[←l0]; exact cX.2 ⟨p,hp,rfl⟩)) (show ps.length=I from by rw[←H.C,←l0,cW]);have z8:=R.o.blk.cell 1;have y8:=R.o.blk.frozen 1;simp only[aG,aK]at z8;have K:=kp (R.o.put 1 (.slice g ps.length c8));simp only[aH,aI]at K;have x8:=K.o.blk.cell 0;simp only[aG]at x8
   cases hrg:cP c with
   |false=>
    have e0:=kp (fun W=>by have:=Cw c W; rw[hrg]at this; exact this);have Q:=kp hrg;go_wp2_with fail;refine (e0.o _).mono ?_;rintro e G ⟨v9,rfl,-,L⟩;rw[show eN 1 false=1 from rfl];have q1:=kp L;go_wp2_with fail;refine (HF.o _).mono ?_;rintro e p0 ⟨rfl,rfl⟩;exact⟨rfl,kV.none (by
     unfold mU;rw[N.o,aC z.o,eR,H.a];simp only[];rw[aC];intro M;have:=Xc M;rw[show (eS c f m n q s d).order=c from rfl,Q.o]at this
     cases this) (K.o.chg.then q1.o)⟩
   |true=>
   have e0:=kp (fun W=>by have:=Cw c W; rw[hrg]at this; exact this);have Q:=kp (eF hrg);go_wp2_with fail;refine (e0.o _).mono ?_;rintro e G ⟨v9,rfl,j1,L⟩;rw[show eN 1 true=0 from rfl];rw[aE rfl]at j1;have K9:=kp (K.o.grow L);have O9:=k'2 (O8.a.below L) (O8.B.below L);have Z:=k'2 j1 L;go_wp2_with fail;refine mb' (HT.o _) fun w' o0=>?_;obtain rfl:=o0.symm;have x8:=K9.o.blk.cell 0;have x9:=K9.o.blk.cell 1;simp only[aG,aK]at x8 x9;have a2:=kp (Ww c v9 (.slice g ps.length c8) [⟨0,c⟩] ps w.heap.size G (OR.of_ow Z.a (fun i U _=>aB K.o.chg.size U)) O9.a K9.o.chg.size O.b (fun b hb=>by
    rw[bQ.1 hb];have D:=Q.o;exact⟨⟨by simp only; omega,by simp only; omega⟩,by simp only; omega,by simp only; omega⟩) (by have D:=O.C; have F:=z.o; omega) (by
     have D:=Q.o;have F:2 ^ c.toNat≤2 ^ 8:=oX (by omega) (by omega);simp only[lD];omega))
   go_wp2_with fail;refine (a2.o).mono ?_;rintro e p0 ⟨m4,rfl,m0,m2⟩;obtain⟨y,c10,rfl,-⟩:=eD m0;have j0:=Z.B.trans (m2.below (fun i U=>(Z.a.lt U.symm).1) Z.B.size);have d4:xJ (ps.map (·.x.b)) [⟨0,c⟩]=cC (d.map fun x:Ob=>x.b) c.toNat 0:=by
    rw[yO,show xJ (ps.map (·.x.b)) []=[] from rfl,fS,←O.a,pC];rfl
   rw[d4]at m0 ⊢;have J:=kp (K.o.grow j0);have g0:=k'3 (O8.a.below j0) (O8.B.below j0) (show OR p0 (fun i=>w.heap.size≤i) 88 2 _ Bk.cells _ from OR.of_ow m0 fun i U _=>aB K9.o.chg.size U);have g4:=J.o.blk.cell 7;have p4:=J.o.blk.frozen 7;simp only[aG,aK]at g4;have a0:=kp (J.o.put 7 (.slice y (cC (d.map fun x:Ob=>x.b) c.toNat 0).length c10));simp only[aH,aI]at a0;have q0:=kp (show Hv (p0.setCell ⟨w.heap.size+1,7,none⟩ (.slice y (cC (d.map fun x:Ob=>x.b) c.toNat 0).length c10)) w.heap.size ⟨eS c f m n q s d,.slice g ps.length c8,.slice y (cC (d.map fun x:Ob=>x.b) c.toNat 0).length c10⟩ ps from
    ⟨g0.a.blk_set J.o.blk (by decide) _ _,g0.b.blk_set J.o.blk (by decide) _ _,O.a.symm,OR.blk_set g0.C J.o.blk (by decide) _ _⟩)
   have hL:=a0.o.blk.load (P:=prog) (k:=8) rfl;have V:=kp (yD ⟨eS c f m n q s d,.slice g ps.length c8,.slice y (cC (d.map fun x:Ob=>x.b) c.toNat 0).length c10⟩ ps _ _ q0.o.wv.hpAt (aD _) (by have D:=O.C; have F:=z.o; omega) (by
    have D:=Q.o;have F:2 ^ c.toNat≤2 ^ 8:=oX (by omega) (by omega);have h3:=yP (d.map fun x:Ob=>x.b) c.toNat 0;show (cC (d.map fun x:Ob=>x.b) c.toNat 0).length≤900000;omega))
   cases M:cO (eS c f m n q s d) with
   |false=>
    have HH:=kp M;rw[show cO (HpV.x ⟨eS c f m n q s d,.slice g ps.length c8,.slice y (cC (d.map fun x:Ob=>x.b) c.toNat 0).length c10⟩)=false from M]at V;go_wp2_with fail;refine mb' (V.o) fun m1 d0=>?_;rw[show eN 1 false=1 from rfl];have o1:=kp d0;go_wp2_with fail;refine (HF.o _).mono ?_;rintro e o4 ⟨rfl,rfl⟩;exact⟨rfl,kV.none (by
     unfold mU;rw[N.o,aC z.o,eR,H.a];simp only[];rw[aC (by rw[HH.o]; decide)]) (a0.o.chg.then o1.o)⟩
   |true=>
    have HH:=kp M;rw[show cO (HpV.x ⟨eS c f m n q s d,.slice g ps.length c8,.slice y (cC (d.map fun x:Ob=>x.b) c.toNat 0).length c10⟩)=true from M]at V;go_wp2_with fail;refine mb' (V.o) fun m1 d0=>?_;rw[show eN 1 true=0 from rfl];have b0:=kp (a0.o.grow d0);have j2:=kp (q0.o.below d0);go_wp2_with fail;refine mb' (HT.o _) fun w' o0=>?_;obtain rfl:=o0.symm;have hL:=b0.o.blk.load (P:=prog) (k:=8) rfl;have hS:=b0.o.res.store (P:=prog) (cs':=[.i c,.slice g ps.length c8,.i f,.i m,.i n,.i q,.i s,.slice y (cC (d.map fun x:Ob=>x.b) c.toNat 0).length c10]) rfl (HpV.one (p:=⟨eS c f m n q s d,.slice g ps.length c8,.slice y (cC (d.map fun x:Ob=>x.b) c.toNat 0).length c10⟩) rfl rfl);have X:=k'2 (b0.o.fin [.i c,.slice g ps.length c8,.i f,.i m,.i n,.i q,.i s,.slice y (cC (d.map fun x:Ob=>x.b) c.toNat 0).length c10]) (j2.o.chg b0.o.res ((Chg.refl (fun i=>i=w.heap.size) m1).setRow (.inr rfl) (List.toArray [.i c,.slice g ps.length c8,.i f,.i m,.i n,.i q,.i s,.slice y (cC (d.map fun x:Ob=>x.b) c.toNat 0).length c10])) (by decide) (by decide) (by decide));go_wp2_with fail;have hR:=X.a.1.load (P:=prog) (k:=8) rfl;exact aU (v:=.agg (HpV.cells ⟨eS c f m n q s d,.slice g ps.length c8,.slice y (cC (d.map fun x:Ob=>x.b) c.toNat 0).length c10⟩).toArray) (by simp[results,results119,go_sem,hR,HpV.cells,eS]) rfl (kV.some (p:=⟨eS c f m n q s d,.slice g ps.length c8,.slice y (cC (d.map fun x:Ob=>x.b) c.toNat 0).length c10⟩) (r:=r8) (by
     unfold mU;rw[N.o,aC z.o,eR,H.a];simp only[];rw[aE HH.o]) X.a.2.2 X.B X.a.2.1)
end
section
attribute [-go_sem] loadCellsFrom storeCells
attribute [local go_sem] bC
theorem rW:∀u∈(z'1:List Value),u.oneCell'=true:=HpV.one (p:=⟨lI,.slice none 0 0,.slice none 0 0⟩) rfl rfl
theorem Ln(d b a:Nat)(xs:List Value)(c:Int)(u:TypeId)(h:Value)(g:List PanicEntry)(w:World)(o:Blk w d 29 z'1)(r:Blk w b 29 xs)(m:Blk w a 51 [.i c])(n:xs.length=8)(p:a≠b):
  CallsD prog 165 #[.pointer (some ⟨d,0,none⟩),.pointer (some ⟨b,0,none⟩),.pointer (some ⟨a,0,none⟩)] (.panicking ({v:=.iface u h,recovered:=false}::g)) w fun e s x=>
   e=.returned (.tuple #[])∧s=.panicking ({v:=.iface u h,recovered:=true}::g)∧x=(w.setRow b z'1a).setCell ⟨a,0,none⟩ (.i 60):=by
 have j:=o.load (P:=prog) (k:=8) rfl;have l:=r.store (P:=prog) (cs':=z'1) (by rw[n]; rfl) rW;have f:=m.other p (List.toArray z'1);have c2:=f.cell 0;have i:=f.frozen 0;simp only[aG]at c2;refine callsD_of_wpS func165 rfl fun z y q=>?_;apply wpS_seq;apply wpS_region;simp[wpOpsS,go_sem,recoverD,q,ntmps165,Exit.thenS];apply wpS_seq;apply wpS_region;simp[wpOpsS,go_sem,Exit.thenS];refine wpS_cond (t:=true) (by simp[Act.eval,Array.replicate]) ?_;simp only[if_true];apply wpS_region;simp[wpOpsS,go_sem,j,l,c2,i,bodyPostS,results,results165]
theorem Xe(a b c:Value)(w:World):
  CallsD prog 165 #[a,b,c] .returning w fun e g h=>e=.returned (.tuple #[])∧g=.returning∧h=w:=by
 refine callsD_of_wpS func165 rfl fun d i f=>?_;apply wpS_seq;apply wpS_region;simp[wpOpsS,go_sem,recoverD,f,ntmps165,Exit.thenS];apply wpS_seq;apply wpS_region;simp[wpOpsS,go_sem,Exit.thenS];refine wpS_cond (t:=false) (by simp[Act.eval,Array.replicate]) ?_;simp only[qO,if_false];refine wpS_of_wp (wp_skip ?_)
 cases d
 simp_all [bodyPostS,results,results165]
def jW(w:World)(o:Option Hp)(e:Ending)(w':World):Prop:=
 ∃p ps,e=.returned (.tuple #[.agg p.cells.toArray,.i (if o.isSome then 0 else 60)])∧p.x=o.getD lI∧Hv w' w.heap.size p ps∧Bw' w w'
theorem Hv.no(w:World)(base:Nat):Hv w base ⟨lI,.slice none 0 0,.slice none 0 0⟩ []:=⟨Ow.nil _ _ _ _ _,⟨fun _ h=>(nomatch h),List.Pairwise.nil⟩,rfl,⟨rfl,.inl ⟨rfl,rfl⟩⟩⟩
theorem Lo(g:Nat)(A:Option Addr)(n c:Nat)(w:World)(h:Blk w g 171 [.slice A n c]):
  Calls prog 117 #[.pointer (some ⟨g,0,none⟩)] w fun e b=>e=.returned (.i n)∧b=w:=by
 have a:=h.cell 0;simp only[aG]at a;go_enter func117,ntmps117;go_wp2_with fail;go_ret;exact⟨rfl,rfl⟩
structure WhH(w:World)(xs:List Value)(c:Int)(W:World):Prop where
 x:Blk W w.heap.size 29 xs
 e:Blk W (w.heap.size+1) 51 [.i c]
 n:Blk W (w.heap.size+1+1) 29 z'1
 b:Bw' w W
section
variable {w W W':World}{xs:List Value}{c:Int}
theorem WhH.new(w:World):WhH w z'1 0 (((w.alloc (.cells z'1a 29)).alloc (.cells #[.i 0] 51)).alloc (.cells z'1a 29)):=by
 have a:=ba' w (.cells z'1a 29);have b:=Blk.new w 29 z'1;have c:=Blk.new (w.alloc (.cells z'1a 29)) 51 [.i 0];have d:=Blk.new ((w.alloc (.cells z'1a 29)).alloc (.cells #[.i 0] 51)) 29 z'1;exact⟨(b.alloc _).alloc _,(by simpa using c.alloc _),(by simpa using d),((a.alloc (by simp) _).alloc (by simp; omega) _)⟩
theorem WhH.grow(h:WhH w xs c W)(a:Bw' W W'):WhH w xs c W':=⟨h.x.below a h.x.lt,h.e.below a h.e.lt,h.n.below a h.n.lt,h.b.on a⟩
theorem WhH.chg{g:Nat}(h:WhH w xs c W)(a:Chg (fun i=>i=g) W W')(d:w.heap.size+1+1<g):WhH w xs c W':=⟨h.x.chg a (by omega),h.e.chg a (by omega),h.n.chg a (by omega),h.b.trans (a.below (fun i f=>by omega) h.b.size)⟩
theorem WhH.put(h:WhH w xs c W)(a:List Value):WhH w a c (W.setRow w.heap.size a.toArray):=⟨h.x.set a,h.e.other (by omega) _,h.n.other (by omega) _,cL h.b (aD _) _⟩
theorem WhH.err(h:WhH w xs c W)(d:Int):WhH w xs d (W.setCell ⟨w.heap.size+1,0,none⟩ (.i d)):=⟨h.x.otherCell (by omega) _ _,h.e.setCell 0 _,h.n.otherCell (by omega) _ _,h.b.setCell (p:=⟨w.heap.size+1,0,none⟩) (by simp only; omega) _⟩
end
theorem jW.no{w a:World}{o:Option Hp}(c:o=none)(b:Bw' w a):jW w o (.returned (.tuple #[.agg z'1a,.i 60])) a:=by
 subst c;exact⟨⟨lI,.slice none 0 0,.slice none 0 0⟩,[],rfl,rfl,Hv.no _ _,b⟩
theorem jW.yes{w a:World}{o:Option Hp}{p:HpV}{ps:List ObV}(c:o=some p.x)(d:Hv a w.heap.size p ps)(b:Bw' w a):jW w o (.returned (.tuple #[.agg p.cells.toArray,.i 0])) a:=by
 subst c;exact⟨p,ps,rfl,rfl,d,b⟩
theorem Xf(A:Option Addr)(n c B:Nat)(l:List UInt8)(w:World)(hr:Rd w B A (bv l))(W:B≤w.heap.size)(hl:l.length=n)(hc:n≤c)(hm:c≤maxLen):
  Calls prog 118 #[.slice A n c,.func (.func 119) #[] #[]] w (jW w (eZ l)):=by
 have j1:∀(V:Fn)(first cap:Array Value)(w:World),(Instr.makeFunc V first cap).run prog w=.ok (.func V first cap) w:=fun _ _ _ _=>rfl;have HT:=kp rO;have HF:=kp rP;have y:=kp (WhH.new w);have HR:=kp (Ga A n c l _ (((hr.below y.o.b W).more (aB W y.o.b.size))) hl hc hm)
 go_enter_defers func118,ntmps118
 go_wp2_with fail;refine (HR.o).mono ?_;rintro e q ⟨g,rfl,y0,L,p0⟩;have K4:=kp (y.o.grow p0);have F:=kp (show w.heap.size+1+1<g from eA y.o.n.lt y0);have T:=ba' q (.cells #[.pointer (some ⟨g,0,none⟩)] 129);have n5:=Blk.new q 129 [.pointer (some ⟨g,0,none⟩)];have J:=kp (K4.o.grow T);have HI:=kp (show cK (q.alloc (.cells #[.pointer (some ⟨g,0,none⟩)] 129)) q.heap.size g l from⟨n5,L.below T,by have:=L.lt; omega⟩);have s:=kp (Xd HI.o);have a0:=kp (show g<q.heap.size from L.lt)
 cases hp:mU l with
 |none=>
  rw[hp]at s;have H:=kp (show eZ l=none by rw[Ds,hp]);go_wp2_with fail;refine (s.o).mono ?_;rintro e E ⟨K,rfl⟩;have h:=kp (J.o.chg K F.o);refine leaves_cons (f:=165) (args:=#[.pointer (some ⟨w.heap.size+1+1,0,none⟩),.pointer (some ⟨w.heap.size,0,none⟩),.pointer (some ⟨w.heap.size+1,0,none⟩)]) (by simp) (by simp[go_sem]) ?_;refine (Ln _ _ _ _ 0 _ _ [] _ h.o.n h.o.x h.o.e rfl (by omega)).mono ?_;rintro e Y Z ⟨rfl,rfl,rfl⟩;have d:=(h.o.put z'1).err 60;have C:=d.x.load (P:=prog) (k:=8) rfl;have j:=d.e.cell 0;have G:=jW.no H.o d.b;simp only[aG]at j;simp[Leaves,settle,results,results118,go_sem,C,j,G]
 |some p=>
  obtain⟨hh,r⟩:=p;rw[hp]at s;have S:=kp hp;go_wp2_with fail;refine (s.o).mono ?_;rintro e E ⟨K,p,ps,rfl,d1,O,X⟩;have h:=kp (J.o.chg K F.o);have hS:=h.o.x.store (P:=prog) (cs':=p.cells) rfl (HpV.one O.obs.one O.free.sl.one);have d:=kp (h.o.put p.cells);obtain⟨Q,D,U,z0,-,b1,-,-⟩:=X.rd;have a1:=J.o.b;have e1:=F.o;have g1:=a0.o;have d0:=kp ((show Blk E g 171 [.slice Q D U] from z0).other (g':=w.heap.size) (by omega) p.cells.toArray);have q0:=(X.blk.other (g':=w.heap.size) (by omega) p.cells.toArray).cell 0;simp only[aG]at q0;have R:=kp b1;have I:=kp ((O.mono a1.size).chg h.o.x ((Chg.refl (fun i=>i=w.heap.size) E).setRow (.inr rfl) p.cells.toArray) (by decide) (by decide) (by decide));have b0:=kp d1;go_wp2_with fail;generalize E.setRow w.heap.size p.cells.toArray=W7 at *;go_wp2_with fail;refine mb' (Lo g Q D U _ d0.o) fun w' N=>?_;obtain rfl:=N.symm
  by_cases M:D=0
  .subst M;obtain rfl:r=[]:=hJ R.o;have l0:=kp (show eZ l=some hh by rw[Ds,S.o]);go_wp2_with fail;refine mb' (HT.o _) fun w' N=>?_;obtain rfl:=N.symm;have C:=d.o.x.load (P:=prog) (k:=8) rfl;have hS:=d.o.x.store (P:=prog) (cs':=p.cells) rfl (HpV.one I.o.obs.one I.o.free.sl.one);have z:=kp (d.o.put p.cells);have e0:=kp (I.o.chg d.o.x ((Chg.refl (fun i=>i=w.heap.size) W7).setRow (.inr rfl) p.cells.toArray) (by decide) (by decide) (by decide));have z8:=z.o.e.cell 0;have y8:=z.o.e.frozen 0;simp only[aG]at z8;have m:=kp (z.o.err 0);have j0:=kp (e0.o.chg z.o.e ((Chg.refl (fun i=>i=w.heap.size+1) _).setCell (.inr rfl) 0 (.i 0)) (by decide) (by decide) (by decide));go_wp2_with fail;refine leaves_cons (f:=165) (args:=#[.pointer (some ⟨w.heap.size+1+1,0,none⟩),.pointer (some ⟨w.heap.size,0,none⟩),.pointer (some ⟨w.heap.size+1,0,none⟩)]) (by simp) (by simp[go_sem]) ?_;refine (Xe _ _ _ _).mono ?_;rintro e Y Z ⟨rfl,rfl,rfl⟩;have o0:=m.o.x.load (P:=prog) (k:=8) rfl;have j:=m.o.e.cell 0;have m0:=jW.yes (o:=eZ l) (p:=p) (by rw[l0.o,b0.o]) j0.o m.o.b;simp only[aG]at j;simp[Leaves,settle,results,results118,go_sem,o0,j,m0]
  .have g0:((D:Int)==0)=false:=by simpa using M
   have H:=kp (show eZ l=none by
    rw[Ds,S.o]
    cases r with
    |nil=>exact absurd R.o.symm M
    |cons a r=>rfl)
   go_wp2_with fail;refine (HF.o _).mono ?_;rintro e w8 ⟨rfl,rfl⟩;refine leaves_cons (f:=165) (args:=#[.pointer (some ⟨w.heap.size+1+1,0,none⟩),.pointer (some ⟨w.heap.size,0,none⟩),.pointer (some ⟨w.heap.size+1,0,none⟩)]) (by simp) (by simp[go_sem]) ?_;refine (Ln _ _ _ _ 0 _ _ [] _ d.o.n d.o.x d.o.e rfl (by omega)).mono ?_;rintro e Y Z ⟨rfl,rfl,rfl⟩;have m:=(d.o.put z'1).err 60;have C:=m.x.load (P:=prog) (k:=8) rfl;have j:=m.e.cell 0;have G:=jW.no H.o m.b;simp only[aG]at j;simp[Leaves,settle,results,results118,go_sem,C,j,G]
theorem Xg(A:Option Addr)(n c B:Nat)(l:List UInt8)(w:World)(I:Rd w B A (bv l))(j:B≤w.heap.size)(F:l.length=n)(E:n≤c)(G:c≤maxLen):
  Calls prog 70 #[.slice A n c] w (jW w (eZ l)):=by
 have d:=ba' w (.cells z'1a 29);have K:=Blk.new w 29 z'1;have z:=kp (Xf A n c B l _ (I.below d j) (aB j d.size) F E G);have b:=k'2 d K;go_enter func70,ntmps70;go_wp2_with fail;refine (z.o).mono ?_;rintro e J ⟨p,ps,rfl,H,g,m⟩;obtain⟨f,q⟩:∃f:Int,(if (eZ l).isSome=true then (0:Int) else 60)=f:=⟨_,rfl⟩
 rw[q];have s:=kp q;have h:=b.B.below m b.B.lt;have L:=h.store (P:=prog) (cs':=p.cells) rfl (HpV.one g.obs.one g.free.sl.one);have r:=kp (cL (b.a.on m) (aD _) p.cells.toArray);have y:=kp ((g.mono (base2:=w.heap.size) (by simp)).chg h ((Chg.refl (fun i=>i=w.heap.size) J).setRow (.inr rfl) p.cells.toArray) (by decide) (by decide) (by decide));have C:=kp (h.set p.cells);have x:=kp H;go_wp2_with fail;have D:=C.o.load (P:=prog) (k:=8) rfl;exact aU (v:=.tuple #[.agg p.cells.toArray,.i f]) (by simp[results,results70,go_sem,D]) rfl ⟨p,ps,by rw[s.o],x.o,y.o,r.o⟩
end
end Go.Proofs.YtdoopoapbffpbaaGreat
