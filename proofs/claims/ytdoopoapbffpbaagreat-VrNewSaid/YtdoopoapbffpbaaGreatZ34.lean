import Derived.Test.YtdoopoapbffpbaaGreatZ30
import Derived.Test.YtdoopoapbffpbaaGreatZ33
namespace Go.Proofs.YtdoopoapbffpbaaGreat
open Go.RowKit Go.Proofs.Tryz
set_option maxRecDepth 100000
set_option maxHeartbeats 12800000
set_option linter.unusedVariables false
set_option linter.unusedSimpArgs false
section
attribute [-go_sem] loadCellsFrom storeCells
attribute [local go_sem] bC
theorem Yl(p:VoV)(B:Nat)(w:World)(h:mS w B p)(hB:B≤w.heap.size)(hn:p.es.length≤1000000)(hr:VoR p.x):
  Calls prog 92 #[.agg p.cells.toArray] w fun e w'=>e=.returned (.i (eN 150 (iC p.x)))∧Bw' w w':=by
 obtain⟨R,hR⟩:=nm' (iC p.x);rw[hR];have V:=ba' w (.cells p.cells.toArray 84);have E:=Blk.new w 84 p.cells;obtain⟨S,e1⟩:=nm' (w.alloc (.cells p.cells.toArray 84));rw[e1]at V E;have J:=k'2 V (aB hB V.size);have g:=kp E;have HS:=kp (Sl.below h V hB);have y1:=kp hr;have k0:=E.cell 0;change _=some (Value.i p.node)at k0;have k1:=E.cell 1;change _=some (Value.i p.normal)at k1;have k2:=E.cell 2;change _=some (Value.i p.base)at k2;have k3:=E.cell 3;change _=some (Value.i p.number)at k3;have k4:=E.cell 4;change _=some (Value.i p.commit)at k4;have m:=E.cell 5;obtain⟨A,c,hv,-,-,-⟩:=h;obtain⟨n,hl⟩:=nm' p.es.length;rw[hl]at hv hn;rw[show p.cells[5]? =some p.ev from rfl,hv]at m;have j:=k'2 hv hl;have l1:=Md p.x;rw[hR,show (p.x.es.length:Int)=(n:Int) from by rw[show p.x.es=p.es from rfl,hl]]at l1;simp only[VoV.x]at l1;have G:=kp cJ.2.2.2.2.1;clear V E hv hl hB hr hR;go_enter func92,ntmps92;rcases l1 with⟨s,y⟩|⟨s,H,y⟩|⟨s,H,l,y⟩|⟨s,H,l,I,y⟩|⟨s,H,l,I,X,y⟩|⟨s,H,l,I,X,y⟩
 rotate_left 5
 .have p0:=kp (fun W=>by have:=G.o p.node 1 7 W; rw[s]at this; exact this);have y0:=kp (fun W=>by have:=G.o p.normal 0 900000000 W; rw[H]at this; exact this);have z0:=kp (fun W=>by have:=G.o p.base 0 900000000 W; rw[l]at this; exact this);have f:0≤p.base∧p.base≤900000000:=by unfold aF at l; simpa using l
  have g0:=kp (by have:=yG.2 p.ev p.es p.base B S HS.o J.B (by have:=j.B; omega) (fun e he=>(y1.o e he).1) f.1 f.2; rw[X,j.a]at this; exact this);have a2:=k'2 f I;obtain⟨rv,o1⟩:=nm' (vwB p.normal 0 p.es);rw[o1]at y;have T:=k'2 o1 y;have d4:=bY I;clear s H l f X y o1 I;go_wp2_with fail;refine ms' (p0.o _) ?_;go_wp2_with fail;refine ms' (y0.o _) ?_;go_wp2_with fail;refine ms' (z0.o _) ?_;go_wp2_with fail;refine mb' (g0.o) fun w3 f=>?_;have F:=k'2 f (J.a.on f);clear k0 k1 k2 k3 k4 m f e1;have m:=(g.o.below F.a g.o.lt).cell 5;rw[show p.cells[5]? =some p.ev from rfl,j.a]at m;go_wp2_with fail;clear m
  go_loopw [3,4,36] (fun ok v i wr=>∃q:Bool,ok=.bool q∧∃k:Nat,k≤n∧i=.i k∧∃z:Int,v=.i z∧(q&&vwB p.normal z (p.es.drop k))=rv∧Bw' w wr∧Bw' S wr) (fun _ _ i _=>n-(intOf i).toNat)
  case atStart=>exact⟨true,rfl,0,by omega,rfl,0,rfl,T.a,F.B,F.a⟩
  case round=>
   obtain⟨q,rfl,k,hk,rfl,z,rfl,hf,Y,Z⟩:=hrel;have HF:=kp hf;have d:=k'2 Y Z;clear Y Z hf
   by_cases j2:k<n
   .have g3:(k:Int)<(n:Int):=by omega
    have K:k<p.es.length:=by have:=j.B; omega
    have o0:=kp (HS.o.below d.B J.B);obtain⟨A2,c2,d0,b0,-,-⟩:=o0.o;obtain⟨b,l2,hA,-,m1,a0⟩:=dB (P:=prog) 11 En.cells eL (by omega) b0 k K;have d1:A2=A:=by have:=j.a; rw[d0]at this; cases this; rfl
    subst d1;subst hA;have N:=a0 0;change Sem.run _ _ wr=.ok _ wr at N;clear m1 a0 d0 b0;obtain⟨x,hx⟩:=nm' (p.es[k]'K);have HT:=kp (fun z=>vQ p.normal z p.es k K);rw[hx]at N HT;clear hx;obtain⟨Wn,g1,q1,D,M,-⟩:=fB wr 46 z'3 x.cells rfl (nI x);have r:=k'2 (d.a.on M) (d.B.on M);have U:=kp D;have l0:=D.load (P:=prog) (k:=11) rfl;have L:=D.cell 1;change _=some (Value.i x.v)at L;clear D M g1;have m0:=kp (show (q&&(fY x&&(aF x.v z p.normal&&vwB p.normal x.v (p.es.drop (k+1)))))=rv by rw[←HT.o z]; exact HF.o)
    cases q
    .go_wp2_with fail;go_roundw
     case rel=>exact⟨false,rfl,k+1,by omega,by go_num,x.v,rfl,m0.o,r.a,r.B⟩
     case measure=>simp[intOf]; omega
    have HM:=kp (fun W=>vN.1 x W)
    cases hm:fY x
    .have j0:=kp hm;go_wp2_with fail;clear N q1 l0;refine (HM.o _).mono ?_;rw[hm];rintro e w4 ⟨rfl,C⟩;have O:=k'2 (r.a.on C) (r.B.on C);have a1:=kp (U.o.below C U.o.lt);have L:=a1.o.cell 1;change _=some (Value.i x.v)at L;clear C hm;go_wp2_with fail;go_roundw
     case rel=>exact⟨false,rfl,k+1,by omega,by go_num,x.v,rfl,by rw[←m0.o,j0.o]; rfl,O.a,O.B⟩
     case measure=>simp[intOf]; omega
    .have j0:=kp hm;go_wp2_with fail;clear N q1 l0;refine (HM.o _).mono ?_;rw[hm];rintro e w4 ⟨rfl,C⟩;have O:=k'2 (r.a.on C) (r.B.on C);have a1:=kp (U.o.below C U.o.lt);have L:=a1.o.cell 1;change _=some (Value.i x.v)at L;have k1:=(g.o.below O.B g.o.lt).cell 1;change _=some (Value.i p.normal)at k1;clear C hm;obtain⟨wi,p1⟩:=nm' (aF x.v z p.normal);have e2:=kp (fun W=>by have:=G.o x.v z p.normal W; rw[p1]at this; exact this);have b2:=kp p1;clear p1;go_wp2_with fail;refine ms' (e2.o _) ?_;go_wp2_with fail;go_roundw
     case rel=>exact⟨wi,rfl,k+1,by omega,by go_num,x.v,rfl,by rw[←m0.o,j0.o,b2.o]; rfl,O.a,O.B⟩
     case measure=>simp[intOf]; omega
   .obtain rfl:k=n:=by omega
    have g2:q=rv:=by
     have:=HF.o;rw[Fe.2 (by have:=j.B; omega)]at this;simpa [vwB] using this
    subst g2;have m:=(g.o.below d.B g.o.lt).cell 5;rw[show p.cells[5]? =some p.ev from rfl,j.a]at m;have k2:=(g.o.below d.B g.o.lt).cell 2;change _=some (Value.i p.base)at k2;have k3:=(g.o.below d.B g.o.lt).cell 3;change _=some (Value.i p.number)at k3;have k4:=(g.o.below d.B g.o.lt).cell 4;change _=some (Value.i p.commit)at k4
    cases q
    .have Q:=kp (show R=false by rw[T.B]; rfl);go_wp2_with fail;go_ret;exact⟨by rw[Q.o]; rfl,d.a⟩
    have z1:=a2.o
    by_cases e0:p.number=p.base+k
    .have g4:(p.number != wrap64 (p.base+k))=false:=by simp; unfold wrap64; omega
     have Q:=kp (show R=aF p.commit p.base p.number by rw[T.B]; exact (show (true&&(decide (p.number=p.base+(k:Int))&&aF p.commit p.base p.number))=_ by rw[bY e0]; simp));have d2:=kp (fun W=>by have:=G.o p.commit p.base p.number W; rw[←Q.o]at this; exact this);clear e0 z1 T Q;go_wp2_with fail;refine ms' (d2.o _) ?_
     cases R
     .go_wp2_with fail;go_ret;exact⟨rfl,d.a⟩
     .go_wp2_with fail;go_ret;exact⟨rfl,d.a⟩
    .have g4:(p.number != wrap64 (p.base+k))=true:=by simp; unfold wrap64; omega
     have Q:=kp (show R=false by rw[T.B]; exact (show (true&&(decide (p.number=p.base+(k:Int))&&aF p.commit p.base p.number))=_ by rw[aX e0]; simp));clear e0 z1;go_wp2_with fail;go_ret;exact⟨by rw[Q.o]; rfl,d.a⟩
 all_goals
  have p0:=kp (fun W=>by have:=G.o p.node 1 7 W; rw[s]at this; exact this)
  try have y0:=kp (fun W=>by have:=G.o p.normal 0 900000000 W; rw[H]at this; exact this)
  try have z0:=kp (fun W=>by have:=G.o p.base 0 900000000 W; rw[l]at this; exact this)
  try have f:0≤p.base∧p.base≤900000000:=by unfold aF at l; simpa using l
  try have g0:=kp (by have:=yG.2 p.ev p.es p.base B S HS.o J.B (by have:=j.B; omega) (fun e he=>(y1.o e he).1) f.1 f.2; rw[X,j.a]at this; exact this)
  try have d4:=bY I
  try have d4:=aX I
  subst y;clear s
  try clear H
  try clear l f
  try clear I
  try clear X
  go_wp2_with fail;refine ms' (p0.o _) ?_
  try
   go_wp2_with fail;refine ms' (y0.o _) ?_
  try
   go_wp2_with fail;refine ms' (z0.o _) ?_
  have F:=k'2 (aL S.heap.size S) J.a
  try
   go_wp2_with fail;refine mb' (g0.o) fun w3 f=>?_;have F:=k'2 f (J.a.on f);clear f m
  clear k0 k1 k2 k3 k4 e1;have m:=(g.o.below F.a g.o.lt).cell 5;rw[show p.cells[5]? =some p.ev from rfl,j.a]at m;go_wp2_with fail;clear m
  go_loopw [3,4,36] (fun ok v i wr=>ok=.bool false∧∃k:Nat,k≤n∧i=.i k∧∃z:Int,v=.i z∧Bw' w wr∧Bw' S wr) (fun _ _ i _=>n-(intOf i).toNat)
  case atStart=>exact⟨rfl,0,by omega,rfl,0,rfl,F.B,F.a⟩
  case round=>
   obtain⟨rfl,k,hk,rfl,z,rfl,Y,Z⟩:=hrel;have d:=k'2 Y Z;clear Y Z
   by_cases j2:k<n
   .have g3:(k:Int)<(n:Int):=by omega
    have K:k<p.es.length:=by have:=j.B; omega
    have o0:=kp (HS.o.below d.B J.B);obtain⟨A2,c2,d0,b0,-,-⟩:=o0.o;obtain⟨b,l2,hA,-,m1,a0⟩:=dB (P:=prog) 11 En.cells eL (by omega) b0 k K;have d1:A2=A:=by have:=j.a; rw[d0]at this; cases this; rfl
    subst d1;subst hA;have N:=a0 0;change Sem.run _ _ wr=.ok _ wr at N;clear m1 a0 d0 b0;obtain⟨x,hx⟩:=nm' (p.es[k]'K);have HT:=kp (fun z=>vQ p.normal z p.es k K);rw[hx]at N HT;clear hx;obtain⟨Wn,g1,q1,D,M,-⟩:=fB wr 46 z'3 x.cells rfl (nI x);have r:=k'2 (d.a.on M) (d.B.on M);have U:=kp D;have l0:=D.load (P:=prog) (k:=11) rfl;have L:=D.cell 1;change _=some (Value.i x.v)at L;clear D M g1;go_wp2_with fail;go_roundw
    case rel=>exact⟨rfl,k+1,by omega,by go_num,x.v,rfl,r.a,r.B⟩
    case measure=>simp[intOf]; omega
   .obtain rfl:k=n:=by omega
    go_wp2_with fail;go_ret;exact⟨rfl,d.a⟩
end
section
attribute [-go_sem] loadCellsFrom storeCells
attribute [local go_sem] bC
structure RpS(p:RpV)(ps:List ObV):Prop where
 k:KdR p.k.x∧p.k.es.length≤1000000∧p.k.image.size≤1000000
 s:SmO p.s.p ps∧p.s.rows.length≤1000∧stR p.s.x∧inR p.s.x.h.next
 l:p.starts.length≤1000∧p.votes.length≤1000∧p.acks.length≤1000
 v:∀v∈p.votes,v.es.length≤1000000∧VoR v.x
 r:inR p.id∧inR p.nodes∧inR p.commit∧inR p.timer
 z:∀u∈ps,u.x.ws.length≤1000000∧u.x.ls.length≤1000000
theorem Ym(nodes a:Int){l:List Int}{k:Nat}(h:l.length≤k):lY nodes a (l.drop k)=true:=by rw[gS h]; rfl
theorem Yn(nodes a:Int){l:List Vo}{k:Nat}(h:l.length≤k):lZ nodes a (l.drop k)=true:=by rw[gS h]; rfl
theorem Yo(nodes id a b:Int){l:List Ak}{k:Nat}(h:l.length≤k):mA nodes id a b (l.drop k)=true:=by rw[gS h]; rfl
theorem Me{α β:Type}(l:List α)(m:List β):(l.isEmpty&&m.isEmpty)=(((l.length:Nat):Int)+((m.length:Nat):Int)==0):=by
 cases l<;>cases m<;>simp<;>omega
theorem Yp{α:Type}(l:List α):l.isEmpty=(((l.length:Nat):Int)==0):=by
 cases l<;>simp<;>omega
theorem Yq(p:RpV)(ps:List ObV)(B:Nat)(w:World)(h:eO w B p ps)(hB:B≤w.heap.size)(S:RpS p ps)(hb:0≤p.k.base∧p.k.base≤900000000):
  Calls prog 37 #[.agg p.cells.toArray] w fun e w'=>e=.returned (.bool (rH p.x))∧Bw' w w':=by
 obtain⟨W1,z3,x1,b1,z1⟩:=par w 39 p.cells;have d:=k'2 x1 b1;have X:=h.below b1 hB;have HN:=kp (fun W=>tU.1 p W);have e1:=kp (fun W=>Ks p W S.r.2.1);have p3:=kp (fun W(hw:Bw' W1 W)=>Di p W B (Sl.below X.1 hw (aB hB b1.size)) hb S.k.2.1);have G:=k'3 X (aB hB b1.size) S;obtain⟨A1,c1,z0,j3,d4,j4⟩:=X.2.2.1;obtain⟨A2,c2,e2,l3,e4,m4⟩:=X.2.2.2.1.1;obtain⟨A3,c3,g2,m3,g4,o4⟩:=X.2.2.2.2;have k1:=x1.cell 1;have o0:=x1.cell 18;rw[RpV.c1]at k1;obtain⟨O,m0⟩:∃n,p.starts.length=n:=⟨_,rfl⟩
 obtain⟨F,Y⟩:∃n,p.votes.length=n:=⟨_,rfl⟩
 obtain⟨m,Z⟩:∃n,p.acks.length=n:=⟨_,rfl⟩
 rw[m0]at z0;rw[Y]at e2;rw[Z]at g2;rw[RpV.c18,z0]at o0;have hl:=S.l;rw[m0,Y,Z]at hl;obtain⟨q4,y4,z4⟩:=hl;obtain⟨r1,q1⟩:∃r,lY p.nodes 0 p.starts=r:=⟨_,rfl⟩
 obtain⟨R,b2⟩:∃r,lZ p.nodes 0 (p.votes.map (·.x))=r:=⟨_,rfl⟩
 obtain⟨r3,d2⟩:∃r,mA p.nodes p.id p.x.k.last 0 p.acks=r:=⟨_,rfl⟩
 obtain⟨nb,p1⟩:∃r,gY p.x=r:=⟨_,rfl⟩
 obtain⟨lb,o1⟩:∃r,mN p.x=r:=⟨_,rfl⟩
 have b0:=Me p.starts (p.votes.map (·.x));have d0:=Me (p.votes.map (·.x)) p.acks;have e3:=Yp p.acks;rw[cW,m0,Y]at b0;rw[cW,Y,Z]at d0;rw[Z]at e3;obtain⟨r4,E⟩:∃r,(if nb=true then ((O:Int)+(F:Int)==0)&&(((m:Int)==0)||lb) else if lb=true then ((m:Int)==0) else ((F:Int)+(m:Int)==0))=r:=⟨_,rfl⟩
 have hR:rH p.x=(r1&&(R&&(r3&&r4))):=by
  rw[←q1,←b2,←d2,←E,←p1,←o1,←b0,←d0,←e3]; rfl
 have y0:=kp E;rw[hR];simp only[p1]at HN;simp only[o1]at e1;have a0:=k'4 j3 z0 m0 q1;have J:=k'4 l3 e2 Y b2;have K:=k'4 m3 g2 Z d2;clear hR q1 b2 d2 E p1 o1 b0 d0 e3 j3 z0 m0 d4 j4 l3 e2 Y e4 m4 m3 g2 Z g4 o4 X x1 b1 h hB hb S;go_enter func37,ntmps37;go_wp2_with fail;clear z3
 go_loopw [3,13] (fun v i wr=>∃k:Nat,k≤O∧i=.i k∧∃z:Int,v=.i z∧lY p.nodes z (p.starts.drop k)=r1∧W1=wr) (fun _ i _=>O-(intOf i).toNat)
 case atStart=>exact⟨0,by omega,rfl,0,rfl,a0.D,rfl⟩
 case round=>
  obtain⟨k,hk,rfl,z,rfl,H,rfl⟩:=hrel;have HF:=kp H;clear H
  by_cases d3:k<O
  .have g3:(k:Int)<(O:Int):=by omega
   have f:k<p.starts.length:=by have:=a0.c; omega
   obtain⟨b,o3,rfl,-,b3,-⟩:=dB (P:=prog) 1 i1 cS (by omega) a0.a k f;have Q:=b3 0 _ rfl;simp only[cF,oF]at Q;have HT:=kp (Vv p.nodes z p.starts k f);clear b3;generalize p.starts[k]'f=x at *;have j:=kp (HF.o.symm.trans HT.o)
   by_cases g:x≤z
   .have u1:decide (x≤z)=true:=by simp[g]
    obtain rfl:r1=false:=by rw[j.o,aX (by omega)]; rfl
    clear g;go_wp2_with fail;go_ret;exact⟨rfl,d.B⟩
   have u1:decide (x≤z)=false:=by simp[g]
   by_cases s:p.nodes<x
   .have u2:decide (p.nodes<x)=true:=by simp[s]
    obtain rfl:r1=false:=by rw[j.o,aX (show ¬x≤p.nodes by omega)]; simp
    clear g s;go_wp2_with fail;go_ret;exact⟨rfl,d.B⟩
   have u2:decide (p.nodes<x)=false:=by simp[s]
   have d1:=kp (show lY p.nodes x (p.starts.drop (k+1))=r1 by rw[j.o,bY (show z<x by omega),bY (show x≤p.nodes by omega)]; rfl);clear g s;go_wp2_with fail;go_roundw
   case rel=>exact⟨k+1,by omega,by go_num,x,rfl,d1.o,trivial⟩
   case measure=>simp[intOf]; omega
  .obtain rfl:O=k:=by omega
   obtain rfl:r1=true:=HF.o.symm.trans (Ym _ _ (by have:=a0.c; omega));clear o0;have M:=d.a.cell 19;rw[RpV.c19,J.b]at M;go_wp2_with fail;clear k1 M
   go_loopw [3,31] (fun v i wr=>∃k:Nat,k≤F∧i=.i k∧∃z:Int,v=.i z∧lZ p.nodes z ((p.votes.map (·.x)).drop k)=R∧Bw' W1 wr) (fun _ i _=>F-(intOf i).toNat)
   case atStart=>exact⟨0,by omega,rfl,0,rfl,J.D,.refl _ _⟩
   case round=>
    obtain⟨k,hk,rfl,z,rfl,H,g0⟩:=hrel;have HF:=kp H;have V:=kp g0;clear H g0
    by_cases d3:k<F
    .have g3:(k:Int)<(F:Int):=by omega
     have f:k<p.votes.length:=by have:=J.c; omega
     obtain⟨b,o3,rfl,-,-,l0⟩:=dB (P:=prog) 6 VoV.cells iS (by omega) (J.a.below V.o G.b) k f;have Q:=l0 0;change Sem.run _ _ wr=.ok _ wr at Q;have L:=Vw p.nodes z (p.votes.map (·.x)) k (by simpa using f);rw[kY]at L;have hx:p.votes[k]'f∈p.votes:=bK f;clear l0;generalize p.votes[k]'f=x at *;have j:=kp (HF.o.symm.trans L);have l2:mS wr B x:=Sl.below (G.a.2.2.2.1.2 x hx) V.o G.b;obtain⟨W4,m1,s4,T,aS,-⟩:=fB wr 84 z'6 x.cells rfl (yK l2);have I:=kp (V.o.on aS);have y2:=kp T;have g1:=Yl x B W4 (Sl.below l2 aS (aB G.b V.o.size)) (aB G.b I.o.size) (G.C.v x hx).1 (G.C.v x hx).2;obtain⟨vb,j2⟩:∃r,iC x.x=r:=⟨_,rfl⟩
     rw[j2]at g1;have q3:=kp g1;have p2:=kp j2;have l4:=T.load (P:=prog) (k:=6) rfl;clear g1 j2 hx L l2 T aS;go_wp2_with fail;refine mb' (q3.o) fun w5 A=>?_;clear Q s4 l4 m1;have y:=kp (I.o.on A);have x5:=y2.o.below A y2.o.lt;have j0:=x5.cell 0;change _=some (Value.i x.node)at j0;have k1:=(d.a.below y.o d.a.lt).cell 1;rw[RpV.c1]at k1;clear x5 A
     cases vb
     case false=>
      obtain rfl:R=false:=by rw[j.o,p2.o]; rfl
      rw[show eN 150 false=150 from rfl];go_wp2_with fail;go_ret;exact⟨rfl,d.B.on y.o⟩
     rw[show eN 150 true=0 from rfl]
     by_cases g:x.node≤z
     .have u1:decide (x.node≤z)=true:=by simp[g]
      obtain rfl:R=false:=by rw[j.o,aX (show ¬z<x.x.node from fun h=>by have h:z<x.node:=h; omega)]; simp
      clear g;go_wp2_with fail;go_ret;exact⟨rfl,d.B.on y.o⟩
     have u1:decide (x.node≤z)=false:=by simp[g]
     by_cases s:p.nodes<x.node
     .have u2:decide (p.nodes<x.node)=true:=by simp[s]
      obtain rfl:R=false:=by rw[j.o,aX (show ¬x.x.node≤p.nodes from fun h=>by have h:x.node≤p.nodes:=h; omega)]; simp
      clear g s;go_wp2_with fail;go_ret;exact⟨rfl,d.B.on y.o⟩
     have u2:decide (p.nodes<x.node)=false:=by simp[s]
     have d1:=kp (show lZ p.nodes x.node ((p.votes.map (·.x)).drop (k+1))=R by rw[j.o,p2.o,bY (show z<x.x.node from Int.not_le.1 g),bY (show x.x.node≤p.nodes from Int.not_lt.1 s)]; rfl);clear g s;go_wp2_with fail;go_roundw
     case rel=>exact⟨k+1,by omega,by go_num,x.node,rfl,d1.o,y.o⟩
     case measure=>simp[intOf]; omega
    .obtain rfl:F=k:=by omega
     obtain rfl:R=true:=HF.o.symm.trans (Yn _ _ (by have:=J.c; simp; omega));have N:=(d.a.below V.o d.a.lt).cell 20;rw[RpV.c20,K.b]at N;go_wp2_with fail;clear N
     go_loopw [3,57] (fun v i wr=>∃k:Nat,k≤m∧i=.i k∧∃z:Int,v=.i z∧mA p.nodes p.id p.x.k.last z (p.acks.drop k)=r3∧Bw' W1 wr) (fun _ i _=>m-(intOf i).toNat)
     case atStart=>exact⟨0,by omega,rfl,0,rfl,K.D,V.o⟩
     case round=>
      obtain⟨k,hk,rfl,z,rfl,H,g0⟩:=hrel;have HG:=kp H;have p0:=kp g0;clear H g0
      by_cases d3:k<m
      .have g3:(k:Int)<(m:Int):=by omega
       have f:k<p.acks.length:=by have:=K.c; omega
       obtain⟨b,o3,rfl,-,-,l0⟩:=dB (P:=prog) 2 Ak.cells nH (by omega) (K.a.below p0.o G.b) k f;have Q:=l0 0;change Sem.run _ _ wr=.ok _ wr at Q;have L:=Vx p.nodes p.id p.x.k.last z p.acks k f;rw[HG.o]at L;clear l0;generalize p.acks[k]'f=x at *;obtain⟨W4,m1,s4,T,aS,-⟩:=fB wr 92 [.i 0,.i 0] x.cells rfl (wX x);have I:=kp (p0.o.on aS);have y1:=d.a.below I.o d.a.lt;have j0:=aP (v:=.i x.n) (T.cell 0);have j1:=aP (v:=.i x.k) (T.cell 1);have k0:=aP (v:=.i p.id) (y1.cell 0);have k1:=aP (v:=.i p.nodes) (y1.cell 1);have l1:=mC (P:=prog) y1 (k:=26) rfl;have o2:=kp (fun(q:Blw W4)=>p3.o q.w (I.o.on q.h));obtain⟨a1,u1⟩:∃a,decide (x.n≤z)=a:=⟨_,rfl⟩
       obtain⟨a2,u2⟩:∃a,decide (p.nodes<x.n)=a:=⟨_,rfl⟩
       obtain⟨a3,u3⟩:∃a,decide (x.n=p.id)=a:=⟨_,rfl⟩
       obtain⟨a4,u4⟩:∃a,aF x.k 0 p.x.k.last=a:=⟨_,rfl⟩
       have j:=kp (show r3=(((!a1&& !a2)&&(!a3&&a4))&&mA p.nodes p.id p.x.k.last x.n (p.acks.drop (k+1))) by
        rw[L,←u1,←u2,←u3,←u4,show decide (z<x.n)= !decide (x.n≤z) by rw[←decide_not]; exact decide_eq_decide.2 (by omega),show decide (x.n≤p.nodes)= !decide (p.nodes<x.n) by rw[←decide_not]; exact decide_eq_decide.2 (by omega)])
       have a5:(x.n==p.id)=a3:=u3;have q2:=kp (fun W=>u4▸cJ.1 x.k 0 p.x.k.last W);clear L u3 u4 T aS y1;go_wp2_with fail;clear Q s4 m1
       cases a1
       case' false=>
        cases a2
        case' false=>
         cases a3
         case' false=>
          cases a4
          case true=>
           refine bJ (by kernel_rfl) (by kernel_rfl) ?_
           repeat (go_big_quiet_step (first |(go_at_call 36; refine bU (o2.o _))|(go_at_call 34; refine dG (q2.o _))))
           refine bH ?_;rintro W5 ⟨⟨_,A⟩,rfl⟩;have j0:=j0 ⟨W5,A⟩;have y:=kp (I.o.on A);clear j1 k0 k1 l1;go_wp2_with fail;go_roundw
           case rel=>exact⟨k+1,by omega,by go_num,x.n,rfl,j.o.symm,y.o⟩
           case measure=>simp[intOf]; omega
       all_goals
        obtain rfl:r3=false:=j.o;refine bJ (by kernel_rfl) (by kernel_rfl) ?_
        repeat (go_big_quiet_step (first |(go_at_call 36; refine bU (o2.o _))|(go_at_call 34; refine dG (q2.o _))))
        refine bH ?_;rintro W5 ⟨⟨_,A⟩,rfl⟩;have y:=kp (I.o.on A);clear A;go_wp2_with fail;go_ret;exact⟨rfl,d.B.on y.o⟩
      .obtain rfl:m=k:=by omega
       obtain rfl:r3=true:=HG.o.symm.trans (Yo _ _ _ _ (by have:=K.c; omega));have l1:=(d.a.below p0.o d.a.lt).load (P:=prog) (k:=26) rfl;obtain⟨y3,b0⟩:∃a,((O:Int)+(F:Int)==0)=a:=⟨_,rfl⟩
       obtain⟨p4,d0⟩:∃a,((F:Int)+(m:Int)==0)=a:=⟨_,rfl⟩
       obtain⟨f3,e3⟩:∃a,((m:Int)==0)=a:=⟨_,rfl⟩
       have E:=y0.o;rw[b0,d0,e3]at E;have y0:=kp E;clear E;go_wp2_with fail;refine mb' (HN.o _) fun w6 z2=>?_;have U:=kp (p0.o.on z2);clear z2 l1;have l1:=(d.a.below U.o d.a.lt).load (P:=prog) (k:=26) rfl
       cases nb
       .go_wp2_with fail;refine mb' (e1.o _) fun w7 e0=>?_;have m2:=kp (U.o.on e0);have y7:=d.a.below m2.o d.a.lt;have M:=y7.cell 19;rw[RpV.c19,J.b]at M;have N:=y7.cell 20;rw[RpV.c20,K.b]at N;clear e0 l1 y7
        cases lb
        all_goals
         obtain rfl:=y0.o;go_wp2_with fail;go_ret;exact⟨rfl,d.B.on m2.o⟩
       have y6:=d.a.below U.o d.a.lt;have o0:=y6.cell 18;rw[RpV.c18,a0.b]at o0;have M:=y6.cell 19;rw[RpV.c19,J.b]at M;have N:=y6.cell 20;rw[RpV.c20,K.b]at N;clear y6
       cases y3
       case' true=>
        cases f3
        case' false=>
         go_wp2_with fail;refine mb' (e1.o _) fun w7 e0=>?_;have U:=kp (U.o.on e0);clear e0 l1 o0 M N
       all_goals
        have E:=y0.o
        try cases lb
        all_goals
         obtain rfl:=E;go_wp2_with fail;go_ret;exact⟨rfl,d.B.on U.o⟩
end
end Go.Proofs.YtdoopoapbffpbaaGreat
