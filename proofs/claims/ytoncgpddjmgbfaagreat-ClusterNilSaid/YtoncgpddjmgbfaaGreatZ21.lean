import Derived.Test.YtoncgpddjmgbfaaGreatZ03
import Derived.Test.YtoncgpddjmgbfaaGreatZ04
import Derived.Test.YtoncgpddjmgbfaaGreatZ16
import Derived.Test.YtoncgpddjmgbfaaGreatZ17
import Derived.Test.YtoncgpddjmgbfaaGreatZ20
namespace Go.Proofs.YtoncgpddjmgbfaaGreat
open Go.RowKit Go.Proofs.Tryz
set_option maxRecDepth 100000
set_option maxHeartbeats 12800000
set_option linter.unusedVariables false
set_option linter.unusedSimpArgs false
section
attribute [-go_sem] loadCellsFrom storeCells
attribute [local go_sem] aX
theorem Vg(p:VoV)(B:Nat)(w:World)(h:uX w B p)(hB:B≤w.heap.size)(hn:p.es.length≤1000000)(hr:VoR p.x):
  Calls prog 117 #[.agg p.cells.toArray] w fun e w'=>e=.returned (.i (dG 150 (lP p.x)))∧Bw' w w':=by
 obtain⟨R,hR⟩:=nm' (lP p.x);rw[hR];have V:=ba' w (.cells p.cells.toArray 175);have E:=Blk.new w 175 p.cells;obtain⟨S,g1⟩:=nm' (w.alloc (.cells p.cells.toArray 175));rw[g1]at V E;have J:=k'2 V (aB hB V.size);have g:=kp E;have HS:=kp (Sl.below h V hB);have z1:=kp hr;have k0:=E.cell 0;change _=some (Value.i p.node)at k0;have k1:=E.cell 1;change _=some (Value.i p.normal)at k1;have k2:=E.cell 2;change _=some (Value.i p.base)at k2;have k3:=E.cell 3;change _=some (Value.i p.number)at k3;have k4:=E.cell 4;change _=some (Value.i p.commit)at k4;have m:=E.cell 5;obtain⟨A,c,hv,-,-,-⟩:=h;obtain⟨n,hl⟩:=nm' p.es.length;rw[hl]at hv hn;rw[show p.cells[5]? =some p.ev from rfl,hv]at m;have j:=k'2 hv hl;have m1:=Vf p.x;rw[hR,show (p.x.es.length:Int)=(n:Int) from by rw[show p.x.es=p.es from rfl,hl]]at m1;simp only[VoV.x]at m1;have G:=kp cK.2.2.2.1;clear V E hv hl hB hr hR;go_enter func117,ntmps117;rcases m1 with⟨s,y⟩|⟨s,H,y⟩|⟨s,H,l,y⟩|⟨s,H,l,I,y⟩|⟨s,H,l,I,X,y⟩|⟨s,H,l,I,X,y⟩
 rotate_left 5
 .have p0:=kp (fun W=>by have:=G.o p.node 1 7 W; rw[s]at this; exact this);have y0:=kp (fun W=>by have:=G.o p.normal 0 900000000 W; rw[H]at this; exact this);have z0:=kp (fun W=>by have:=G.o p.base 0 900000000 W; rw[l]at this; exact this);have f:0≤p.base∧p.base≤900000000:=by unfold aG at l; simpa using l
  have g0:=kp (by have:=uV.2 p.ev p.es p.base B S HS.o J.B (by have:=j.B; omega) (fun e he=>(z1.o e he).1) f.1 f.2; rw[X,j.a]at this; exact this);have b2:=k'2 f I;obtain⟨rv,p1⟩:=nm' (vwB p.normal 0 p.es);rw[p1]at y;have T:=k'2 p1 y;have d4:=fA I;clear s H l f X y p1 I;go_wp2_with fail;refine ms' (p0.o _) ?_;go_wp2_with fail;refine ms' (y0.o _) ?_;go_wp2_with fail;refine ms' (z0.o _) ?_;go_wp2_with fail;refine mb' (g0.o) fun w3 f=>?_;have F:=k'2 f (J.a.on f);clear k0 k1 k2 k3 k4 m f g1;have m:=(g.o.below F.a g.o.lt).cell 5;rw[show p.cells[5]? =some p.ev from rfl,j.a]at m;go_wp2_with fail;clear m
  go_loopw [3,4,36] (fun ok v i wr=>∃q:Bool,ok=.bool q∧∃k:Nat,k≤n∧i=.i k∧∃z:Int,v=.i z∧(q&&vwB p.normal z (p.es.drop k))=rv∧Bw' w wr∧Bw' S wr) (fun _ _ i _=>n-(intOf i).toNat)
  case atStart=>exact⟨true,rfl,0,by omega,rfl,0,rfl,T.a,F.B,F.a⟩
  case round=>
   obtain⟨q,rfl,k,hk,rfl,z,rfl,hf,Y,Z⟩:=hrel;have HF:=kp hf;have d:=k'2 Y Z;clear Y Z hf
   by_cases m2:k<n
   .have g3:(k:Int)<(n:Int):=by omega
    have K:k<p.es.length:=by have:=j.B; omega
    have o0:=kp (HS.o.below d.B J.B);obtain⟨A2,c2,d0,b0,-,-⟩:=o0.o;obtain⟨b,o2,hA,-,o1,a0⟩:=iS (P:=prog) 11 En.cells eM (by omega) b0 k K;have d1:A2=A:=by have:=j.a; rw[d0]at this; cases this; rfl
    subst d1;subst hA;have N:=a0 0;change Sem.run _ _ wr=.ok _ wr at N;clear o1 a0 d0 b0;obtain⟨x,hx⟩:=nm' (p.es[k]'K);have HT:=kp (fun z=>Cj p.normal z p.es k K);rw[hx]at N HT;clear hx;obtain⟨Wn,l1,y1,D,M,-⟩:=eJ wr 122 z'3 x.cells rfl (kV x);have r:=k'2 (d.a.on M) (d.B.on M);have U:=kp D;have l0:=D.load (P:=prog) (k:=11) rfl;have L:=D.cell 1;change _=some (Value.i x.v)at L;clear D M l1;have m0:=kp (show (q&&(dQ x&&(aG x.v z p.normal&&vwB p.normal x.v (p.es.drop (k+1)))))=rv by rw[←HT.o z]; exact HF.o)
    cases q
    .go_wp2_with fail;go_roundw
     case rel=>exact⟨false,rfl,k+1,by omega,by go_num,x.v,rfl,m0.o,r.a,r.B⟩
     case measure=>simp[intOf]; omega
    have HM:=kp (fun W=>xU x W)
    cases hm:dQ x
    .have j0:=kp hm;go_wp2_with fail;clear N y1 l0;refine (HM.o _).mono ?_;rw[hm];rintro e w4 ⟨rfl,C⟩;have O:=k'2 (r.a.on C) (r.B.on C);have a1:=kp (U.o.below C U.o.lt);have L:=a1.o.cell 1;change _=some (Value.i x.v)at L;clear C hm;go_wp2_with fail;go_roundw
     case rel=>exact⟨false,rfl,k+1,by omega,by go_num,x.v,rfl,by rw[←m0.o,j0.o]; rfl,O.a,O.B⟩
     case measure=>simp[intOf]; omega
    .have j0:=kp hm;go_wp2_with fail;clear N y1 l0;refine (HM.o _).mono ?_;rw[hm];rintro e w4 ⟨rfl,C⟩;have O:=k'2 (r.a.on C) (r.B.on C);have a1:=kp (U.o.below C U.o.lt);have L:=a1.o.cell 1;change _=some (Value.i x.v)at L;have k1:=(g.o.below O.B g.o.lt).cell 1;change _=some (Value.i p.normal)at k1;clear C hm;obtain⟨wi,q1⟩:=nm' (aG x.v z p.normal);have j2:=kp (fun W=>by have:=G.o x.v z p.normal W; rw[q1]at this; exact this);have d2:=kp q1;clear q1;go_wp2_with fail;refine ms' (j2.o _) ?_;go_wp2_with fail;go_roundw
     case rel=>exact⟨wi,rfl,k+1,by omega,by go_num,x.v,rfl,by rw[←m0.o,j0.o,d2.o]; rfl,O.a,O.B⟩
     case measure=>simp[intOf]; omega
   .obtain rfl:k=n:=by omega
    have l2:q=rv:=by
     have:=HF.o;rw[aCi.2 (by have:=j.B; omega)]at this;simpa [vwB] using this
    subst l2;have m:=(g.o.below d.B g.o.lt).cell 5;rw[show p.cells[5]? =some p.ev from rfl,j.a]at m;have k2:=(g.o.below d.B g.o.lt).cell 2;change _=some (Value.i p.base)at k2;have k3:=(g.o.below d.B g.o.lt).cell 3;change _=some (Value.i p.number)at k3;have k4:=(g.o.below d.B g.o.lt).cell 4;change _=some (Value.i p.commit)at k4
    cases q
    .have Q:=kp (show R=false by rw[T.B]; rfl);go_wp2_with fail;go_ret;exact⟨by rw[Q.o]; rfl,d.a⟩
    have a2:=b2.o
    by_cases e0:p.number=p.base+k
    .have g4:(p.number != wrap64 (p.base+k))=false:=by simp; unfold wrap64; omega
     have Q:=kp (show R=aG p.commit p.base p.number by rw[T.B]; exact (show (true&&(decide (p.number=p.base+(k:Int))&&aG p.commit p.base p.number))=_ by rw[fA e0]; simp));have g2:=kp (fun W=>by have:=G.o p.commit p.base p.number W; rw[←Q.o]at this; exact this);clear e0 a2 T Q;go_wp2_with fail;refine ms' (g2.o _) ?_
     cases R
     .go_wp2_with fail;go_ret;exact⟨rfl,d.a⟩
     .go_wp2_with fail;go_ret;exact⟨rfl,d.a⟩
    .have g4:(p.number != wrap64 (p.base+k))=true:=by simp; unfold wrap64; omega
     have Q:=kp (show R=false by rw[T.B]; exact (show (true&&(decide (p.number=p.base+(k:Int))&&aG p.commit p.base p.number))=_ by rw[dR e0]; simp));clear e0 a2;go_wp2_with fail;go_ret;exact⟨by rw[Q.o]; rfl,d.a⟩
 all_goals
  have p0:=kp (fun W=>by have:=G.o p.node 1 7 W; rw[s]at this; exact this)
  try have y0:=kp (fun W=>by have:=G.o p.normal 0 900000000 W; rw[H]at this; exact this)
  try have z0:=kp (fun W=>by have:=G.o p.base 0 900000000 W; rw[l]at this; exact this)
  try have f:0≤p.base∧p.base≤900000000:=by unfold aG at l; simpa using l
  try have g0:=kp (by have:=uV.2 p.ev p.es p.base B S HS.o J.B (by have:=j.B; omega) (fun e he=>(z1.o e he).1) f.1 f.2; rw[X,j.a]at this; exact this)
  try have d4:=fA I
  try have d4:=dR I
  subst y;clear s
  try clear H
  try clear l f
  try clear I
  try clear X
  go_wp2_with fail;refine ms' (p0.o _) ?_
  try
   go_wp2_with fail;refine ms' (y0.o _) ?_
  try
   go_wp2_with fail;refine ms' (z0.o _) ?_
  have F:=k'2 (aH S.heap.size S) J.a
  try
   go_wp2_with fail;refine mb' (g0.o) fun w3 f=>?_;have F:=k'2 f (J.a.on f);clear f m
  clear k0 k1 k2 k3 k4 g1;have m:=(g.o.below F.a g.o.lt).cell 5;rw[show p.cells[5]? =some p.ev from rfl,j.a]at m;go_wp2_with fail;clear m
  go_loopw [3,4,36] (fun ok v i wr=>ok=.bool false∧∃k:Nat,k≤n∧i=.i k∧∃z:Int,v=.i z∧Bw' w wr∧Bw' S wr) (fun _ _ i _=>n-(intOf i).toNat)
  case atStart=>exact⟨rfl,0,by omega,rfl,0,rfl,F.B,F.a⟩
  case round=>
   obtain⟨rfl,k,hk,rfl,z,rfl,Y,Z⟩:=hrel;have d:=k'2 Y Z;clear Y Z
   by_cases m2:k<n
   .have g3:(k:Int)<(n:Int):=by omega
    have K:k<p.es.length:=by have:=j.B; omega
    have o0:=kp (HS.o.below d.B J.B);obtain⟨A2,c2,d0,b0,-,-⟩:=o0.o;obtain⟨b,o2,hA,-,o1,a0⟩:=iS (P:=prog) 11 En.cells eM (by omega) b0 k K;have d1:A2=A:=by have:=j.a; rw[d0]at this; cases this; rfl
    subst d1;subst hA;have N:=a0 0;change Sem.run _ _ wr=.ok _ wr at N;clear o1 a0 d0 b0;obtain⟨x,hx⟩:=nm' (p.es[k]'K);have HT:=kp (fun z=>Cj p.normal z p.es k K);rw[hx]at N HT;clear hx;obtain⟨Wn,l1,y1,D,M,-⟩:=eJ wr 122 z'3 x.cells rfl (kV x);have r:=k'2 (d.a.on M) (d.B.on M);have U:=kp D;have l0:=D.load (P:=prog) (k:=11) rfl;have L:=D.cell 1;change _=some (Value.i x.v)at L;clear D M l1;go_wp2_with fail;go_roundw
    case rel=>exact⟨rfl,k+1,by omega,by go_num,x.v,rfl,r.a,r.B⟩
    case measure=>simp[intOf]; omega
   .obtain rfl:k=n:=by omega
    go_wp2_with fail;go_ret;exact⟨rfl,d.a⟩
end
section
attribute [-go_sem] loadCellsFrom storeCells
attribute [local go_sem] aX
structure RpS(p:RpV)(ps:List ObV):Prop where
 k:KdR p.k.x∧p.k.es.length≤1000000∧p.k.image.size≤1000000
 s:SmO p.s.p ps∧p.s.rows.length≤1000∧stR p.s.x∧inR p.s.x.h.next
 l:p.starts.length≤1000∧p.votes.length≤1000∧p.acks.length≤1000
 v:∀v∈p.votes,v.es.length≤1000000∧VoR v.x
 r:inR p.id∧inR p.nodes∧inR p.commit∧inR p.timer
 z:∀u∈ps,u.x.ws.length≤1000000∧u.x.ls.length≤1000000
theorem Vh(nodes a:Int){l:List Int}{k:Nat}(h:l.length≤k):oX nodes a (l.drop k)=true:=by rw[kA h]; rfl
theorem Vi(nodes a:Int){l:List Vo}{k:Nat}(h:l.length≤k):oY nodes a (l.drop k)=true:=by rw[kA h]; rfl
theorem Vj(nodes id last a:Int){l:List Ak}{k:Nat}(h:l.length≤k):oZ nodes id last a (l.drop k)=true:=by rw[kA h]; rfl
theorem Is{α β:Type}(l:List α)(m:List β):(l.isEmpty&&m.isEmpty)=(((l.length:Nat):Int)+((m.length:Nat):Int)==0):=by
 cases l<;>cases m<;>simp<;>omega
theorem Vk{α:Type}(l:List α):l.isEmpty=(((l.length:Nat):Int)==0):=by
 cases l<;>simp<;>omega
theorem Vl(p:RpV)(ps:List ObV)(B:Nat)(w:World)(h:kK w B p ps)(hB:B≤w.heap.size)(S:RpS p ps)(hb:0≤p.k.base∧p.k.base≤900000000):
  Calls prog 88 #[.agg p.cells.toArray] w fun e w'=>e=.returned (.bool (xG p.x))∧Bw' w w':=by
 obtain⟨W1,e4,x1,b1,z1⟩:=par w 50 p.cells;have d:=k'2 x1 b1;have X:=h.below b1 hB;have HN:=kp (fun W=>By p W);have g1:=kp (fun W=>xW p W S.r.2.1);have y3:=kp (fun W(hw:Bw' W1 W)=>Bx p W B (Sl.below X.1 hw (aB hB b1.size)) hb S.k.2.1);have G:=k'3 X (aB hB b1.size) S;obtain⟨A1,c1,z0,m3,g4,o4⟩:=X.2.2.1;obtain⟨A2,c2,j2,o3,j4,p4⟩:=X.2.2.2.1.1;obtain⟨A3,c3,l2,p3,m4,q4⟩:=X.2.2.2.2;have k1:=x1.cell 1;have o0:=x1.cell 18;rw[RpV.c1]at k1;obtain⟨O,m0⟩:∃n,p.starts.length=n:=⟨_,rfl⟩
 obtain⟨F,Y⟩:∃n,p.votes.length=n:=⟨_,rfl⟩
 obtain⟨m,Z⟩:∃n,p.acks.length=n:=⟨_,rfl⟩
 rw[m0]at z0;rw[Y]at j2;rw[Z]at l2;rw[RpV.c18,z0]at o0;have hl:=S.l;rw[m0,Y,Z]at hl;obtain⟨z4,a5,b5⟩:=hl;obtain⟨r1,b2⟩:∃r,oX p.nodes 0 p.starts=r:=⟨_,rfl⟩
 obtain⟨R,d2⟩:∃r,oY p.nodes 0 (p.votes.map (·.x))=r:=⟨_,rfl⟩
 obtain⟨r3,g2⟩:∃r,oZ p.nodes p.id p.x.k.last 0 p.acks=r:=⟨_,rfl⟩
 obtain⟨nb,q1⟩:∃r,gN p.x=r:=⟨_,rfl⟩
 obtain⟨lb,p1⟩:∃r,iQ p.x=r:=⟨_,rfl⟩
 have b0:=Is p.starts (p.votes.map (·.x));have d0:=Is (p.votes.map (·.x)) p.acks;have e3:=Vk p.acks;rw[dD,m0,Y]at b0;rw[dD,Y,Z]at d0;rw[Z]at e3;obtain⟨r4,E⟩:∃r,(if nb=true then ((O:Int)+(F:Int)==0)&&(((m:Int)==0)||lb) else if lb=true then ((m:Int)==0) else ((F:Int)+(m:Int)==0))=r:=⟨_,rfl⟩
 have hR:xG p.x=(r1&&(R&&(r3&&r4))):=by
  rw[←b2,←d2,←g2,←E,←q1,←p1,←b0,←d0,←e3]; rfl
 have y0:=kp E;rw[hR];simp only[q1]at HN;simp only[p1]at g1;have a0:=k'4 m3 z0 m0 b2;have J:=k'4 o3 j2 Y d2;have K:=k'4 p3 l2 Z g2;clear hR b2 d2 g2 E q1 p1 b0 d0 e3 m3 z0 m0 g4 o4 o3 j2 Y j4 p4 p3 l2 Z m4 q4 X x1 b1 h hB hb S;go_enter func88,ntmps88;go_wp2_with fail;clear e4
 go_loopw [3,13] (fun v i wr=>∃k:Nat,k≤O∧i=.i k∧∃z:Int,v=.i z∧oX p.nodes z (p.starts.drop k)=r1∧W1=wr) (fun _ i _=>O-(intOf i).toNat)
 case atStart=>exact⟨0,by omega,rfl,0,rfl,a0.D,rfl⟩
 case round=>
  obtain⟨k,hk,rfl,z,rfl,H,rfl⟩:=hrel;have HF:=kp H;clear H
  by_cases l3:k<O
  .have g3:(k:Int)<(O:Int):=by omega
   have f:k<p.starts.length:=by have:=a0.c; omega
   obtain⟨b,q3,rfl,-,j3,-⟩:=iS (P:=prog) 1 i1 eG (by omega) a0.a k f;have Q:=j3 0 _ rfl;simp only[dW,tN]at Q;have HT:=kp (Ti p.nodes z p.starts k f);clear j3;generalize p.starts[k]'f=x at *;have j:=kp (HF.o.symm.trans HT.o)
   by_cases g:x≤z
   .have u1:decide (x≤z)=true:=by simp[g]
    obtain rfl:r1=false:=by rw[j.o,dR (by omega)]; rfl
    clear g;go_wp2_with fail;go_ret;exact⟨rfl,d.B⟩
   have u1:decide (x≤z)=false:=by simp[g]
   by_cases s:p.nodes<x
   .have u2:decide (p.nodes<x)=true:=by simp[s]
    obtain rfl:r1=false:=by rw[j.o,dR (show ¬x≤p.nodes by omega)]; simp
    clear g s;go_wp2_with fail;go_ret;exact⟨rfl,d.B⟩
   have u2:decide (p.nodes<x)=false:=by simp[s]
   have d1:=kp (show oX p.nodes x (p.starts.drop (k+1))=r1 by rw[j.o,fA (show z<x by omega),fA (show x≤p.nodes by omega)]; rfl);clear g s;go_wp2_with fail;go_roundw
   case rel=>exact⟨k+1,by omega,by go_num,x,rfl,d1.o,trivial⟩
   case measure=>simp[intOf]; omega
  .obtain rfl:O=k:=by omega
   obtain rfl:r1=true:=HF.o.symm.trans (Vh _ _ (by have:=a0.c; omega));clear o0;have M:=d.a.cell 19;rw[RpV.c19,J.b]at M;go_wp2_with fail;clear k1 M
   go_loopw [3,31] (fun v i wr=>∃k:Nat,k≤F∧i=.i k∧∃z:Int,v=.i z∧oY p.nodes z ((p.votes.map (·.x)).drop k)=R∧Bw' W1 wr) (fun _ i _=>F-(intOf i).toNat)
   case atStart=>exact⟨0,by omega,rfl,0,rfl,J.D,.refl _ _⟩
   case round=>
    obtain⟨k,hk,rfl,z,rfl,H,g0⟩:=hrel;have HF:=kp H;have V:=kp g0;clear H g0
    by_cases l3:k<F
    .have g3:(k:Int)<(F:Int):=by omega
     have f:k<p.votes.length:=by have:=J.c; omega
     obtain⟨b,q3,rfl,-,-,l0⟩:=iS (P:=prog) 6 VoV.cells oP (by omega) (J.a.below V.o G.b) k f;have Q:=l0 0;change Sem.run _ _ wr=.ok _ wr at Q;have L:=Tj p.nodes z (p.votes.map (·.x)) k (by simpa using f);rw[pQ]at L;have hx:p.votes[k]'f∈p.votes:=cU f;clear l0;generalize p.votes[k]'f=x at *;have j:=kp (HF.o.symm.trans L);have o2:uX wr B x:=Sl.below (G.a.2.2.2.1.2 x hx) V.o G.b;obtain⟨W4,o1,s4,T,aQ,-⟩:=eJ wr 175 z'6 x.cells rfl (Bu o2);have I:=kp (V.o.on aQ);have b3:=kp T;have m1:=Vg x B W4 (Sl.below o2 aQ (aB G.b V.o.size)) (aB G.b I.o.size) (G.C.v x hx).1 (G.C.v x hx).2;obtain⟨vb,m2⟩:∃r,lP x.x=r:=⟨_,rfl⟩
     rw[m2]at m1;have z3:=kp m1;have y2:=kp m2;have l4:=T.load (P:=prog) (k:=6) rfl;clear m1 m2 hx L o2 T aQ;go_wp2_with fail;refine mb' (z3.o) fun w5 A=>?_;clear Q s4 l4 o1;have y:=kp (I.o.on A);have x5:=b3.o.below A b3.o.lt;have j0:=x5.cell 0;change _=some (Value.i x.node)at j0;have k1:=(d.a.below y.o d.a.lt).cell 1;rw[RpV.c1]at k1;clear x5 A
     cases vb
     case false=>
      obtain rfl:R=false:=by rw[j.o,y2.o]; rfl
      rw[show dG 150 false=150 from rfl];go_wp2_with fail;go_ret;exact⟨rfl,d.B.on y.o⟩
     rw[show dG 150 true=0 from rfl]
     by_cases g:x.node≤z
     .have u1:decide (x.node≤z)=true:=by simp[g]
      obtain rfl:R=false:=by rw[j.o,dR (show ¬z<x.x.node from fun h=>by have h:z<x.node:=h; omega)]; simp
      clear g;go_wp2_with fail;go_ret;exact⟨rfl,d.B.on y.o⟩
     have u1:decide (x.node≤z)=false:=by simp[g]
     by_cases s:p.nodes<x.node
     .have u2:decide (p.nodes<x.node)=true:=by simp[s]
      obtain rfl:R=false:=by rw[j.o,dR (show ¬x.x.node≤p.nodes from fun h=>by have h:x.node≤p.nodes:=h; omega)]; simp
      clear g s;go_wp2_with fail;go_ret;exact⟨rfl,d.B.on y.o⟩
     have u2:decide (p.nodes<x.node)=false:=by simp[s]
     have d1:=kp (show oY p.nodes x.node ((p.votes.map (·.x)).drop (k+1))=R by rw[j.o,y2.o,fA (show z<x.x.node from Int.not_le.1 g),fA (show x.x.node≤p.nodes from Int.not_lt.1 s)]; rfl);clear g s;go_wp2_with fail;go_roundw
     case rel=>exact⟨k+1,by omega,by go_num,x.node,rfl,d1.o,y.o⟩
     case measure=>simp[intOf]; omega
    .obtain rfl:F=k:=by omega
     obtain rfl:R=true:=HF.o.symm.trans (Vi _ _ (by have:=J.c; simp; omega));have N:=(d.a.below V.o d.a.lt).cell 20;rw[RpV.c20,K.b]at N;go_wp2_with fail;clear N
     go_loopw [3,57] (fun v i wr=>∃k:Nat,k≤m∧i=.i k∧∃z:Int,v=.i z∧oZ p.nodes p.id p.x.k.last z (p.acks.drop k)=r3∧Bw' W1 wr) (fun _ i _=>m-(intOf i).toNat)
     case atStart=>exact⟨0,by omega,rfl,0,rfl,K.D,V.o⟩
     case round=>
      obtain⟨k,hk,rfl,z,rfl,H,g0⟩:=hrel;have HG:=kp H;have p0:=kp g0;clear H g0
      by_cases l3:k<m
      .have g3:(k:Int)<(m:Int):=by omega
       have f:k<p.acks.length:=by have:=K.c; omega
       obtain⟨b,q3,rfl,-,-,l0⟩:=iS (P:=prog) 2 Ak.cells lK (by omega) (K.a.below p0.o G.b) k f;have Q:=l0 0;change Sem.run _ _ wr=.ok _ wr at Q;have L:=Tk p.nodes p.id p.x.k.last z p.acks k f;rw[HG.o]at L;clear l0;generalize p.acks[k]'f=x at *;obtain⟨W4,o1,s4,T,aQ,-⟩:=eJ wr 172 [.i 0,.i 0] x.cells rfl (wK x);have I:=kp (p0.o.on aQ);have y1:=d.a.below I.o d.a.lt;have j0:=bG (v:=.i x.n) (T.cell 0);have j1:=bG (v:=.i x.k) (T.cell 1);have k0:=bG (v:=.i p.id) (y1.cell 0);have k1:=bG (v:=.i p.nodes) (y1.cell 1);have l1:=Ib (P:=prog) y1 (k:=26) rfl;have q2:=kp (fun(q:Blw W4)=>y3.o q.w (I.o.on q.h));obtain⟨a1,u1⟩:∃a,decide (x.n≤z)=a:=⟨_,rfl⟩
       obtain⟨a2,u2⟩:∃a,decide (p.nodes<x.n)=a:=⟨_,rfl⟩
       obtain⟨a3,u3⟩:∃a,decide (x.n=p.id)=a:=⟨_,rfl⟩
       obtain⟨a4,u4⟩:∃a,aG x.k 0 p.x.k.last=a:=⟨_,rfl⟩
       have j:=kp (show r3=(((!a1&& !a2)&&(!a3&&a4))&&oZ p.nodes p.id p.x.k.last x.n (p.acks.drop (k+1))) by
        rw[L,←u1,←u2,←u3,←u4,show decide (z<x.n)= !decide (x.n≤z) by rw[←decide_not]; exact decide_eq_decide.2 (by omega),show decide (x.n≤p.nodes)= !decide (p.nodes<x.n) by rw[←decide_not]; exact decide_eq_decide.2 (by omega)])
       have d5:(x.n==p.id)=a3:=u3;have z2:=kp (fun W=>u4▸cK.1 x.k 0 p.x.k.last W);clear L u3 u4 T aQ y1;go_wp2_with fail;clear Q s4 o1
       cases a1
       case' false=>
        cases a2
        case' false=>
         cases a3
         case' false=>
          cases a4
          case true=>
           refine cX (by kernel_rfl) (by kernel_rfl) ?_
           repeat (go_big_quiet_step (first |(go_at_call 86; refine gV (q2.o _))|(go_at_call 56; refine dP (z2.o _))))
           refine cI ?_;rintro W5 ⟨⟨_,A⟩,rfl⟩;have j0:=j0 ⟨W5,A⟩;have y:=kp (I.o.on A);clear j1 k0 k1 l1;go_wp2_with fail;go_roundw
           case rel=>exact⟨k+1,by omega,by go_num,x.n,rfl,j.o.symm,y.o⟩
           case measure=>simp[intOf]; omega
       all_goals
        obtain rfl:r3=false:=j.o;refine cX (by kernel_rfl) (by kernel_rfl) ?_
        repeat (go_big_quiet_step (first |(go_at_call 86; refine gV (q2.o _))|(go_at_call 56; refine dP (z2.o _))))
        refine cI ?_;rintro W5 ⟨⟨_,A⟩,rfl⟩;have y:=kp (I.o.on A);clear A;go_wp2_with fail;go_ret;exact⟨rfl,d.B.on y.o⟩
      .obtain rfl:m=k:=by omega
       obtain rfl:r3=true:=HG.o.symm.trans (Vj _ _ _ _ (by have:=K.c; omega));have l1:=(d.a.below p0.o d.a.lt).load (P:=prog) (k:=26) rfl;obtain⟨d4,b0⟩:∃a,((O:Int)+(F:Int)==0)=a:=⟨_,rfl⟩
       obtain⟨y4,d0⟩:∃a,((F:Int)+(m:Int)==0)=a:=⟨_,rfl⟩
       obtain⟨f3,e3⟩:∃a,((m:Int)==0)=a:=⟨_,rfl⟩
       have E:=y0.o;rw[b0,d0,e3]at E;have y0:=kp E;clear E;go_wp2_with fail;refine mb' (HN.o _) fun w6 d3=>?_;have U:=kp (p0.o.on d3);clear d3 l1;have l1:=(d.a.below U.o d.a.lt).load (P:=prog) (k:=26) rfl
       cases nb
       .go_wp2_with fail;refine mb' (g1.o _) fun w7 e0=>?_;have p2:=kp (U.o.on e0);have y7:=d.a.below p2.o d.a.lt;have M:=y7.cell 19;rw[RpV.c19,J.b]at M;have N:=y7.cell 20;rw[RpV.c20,K.b]at N;clear e0 l1 y7
        cases lb
        all_goals
         obtain rfl:=y0.o;go_wp2_with fail;go_ret;exact⟨rfl,d.B.on p2.o⟩
       have y6:=d.a.below U.o d.a.lt;have o0:=y6.cell 18;rw[RpV.c18,a0.b]at o0;have M:=y6.cell 19;rw[RpV.c19,J.b]at M;have N:=y6.cell 20;rw[RpV.c20,K.b]at N;clear y6
       cases d4
       case' true=>
        cases f3
        case' false=>
         go_wp2_with fail;refine mb' (g1.o _) fun w7 e0=>?_;have U:=kp (U.o.on e0);clear e0 l1 o0 M N
       all_goals
        have E:=y0.o
        try cases lb
        all_goals
         obtain rfl:=E;go_wp2_with fail;go_ret;exact⟨rfl,d.B.on U.o⟩
end
section
attribute [-go_sem] loadCellsFrom storeCells
attribute [local go_sem] aX
theorem Vm(c:Int):∀(l:List Rw)(k:Nat)(a:k<l.length),(l[k]).c=c→(∀y∈l.take k,decide (y.c=c)=false)→cJ c l=l[k]:=by
 intro l k a h b
 induction l generalizing k with
 |nil=>simp at a
 |cons x l f=>
  cases k with
  |zero=>
   unfold cJ;rw[List.find?_cons_of_pos (by simpa using h)];rfl
  |succ k=>
   have d:=b x (by simp);have:=f k (by simpa using a) (by simpa using h) fun y e=>b y (by simp[e]);unfold cJ at this ⊢;rw[List.find?_cons_of_neg (by simpa using d)];simpa using this
theorem Vn(c:Int)(l:List Rw)(h:∀y∈l,decide (y.c=c)=false):cJ c l=⟨0,0,0,0⟩:=by
 unfold cJ;rw[List.find?_eq_none.2 fun y a=>by simpa using h y a];rfl
theorem StV.len(p:StV):p.cells.length=9:=rfl
theorem Vp(x:Rw)(c:Int)(b:Nat)(W:World)(d:Blk W b 3 [.i c]):
  Calls prog 97 #[.agg x.cells.toArray,.pointer (some ⟨b,0,none⟩)] W fun e g=>e=.returned (.bool (decide (x.c=c)))∧Bw' W g:=by
 have a:=ba' W (.cells x.cells.toArray 141);have h:=Blk.new W 141 x.cells;have j:=h.cell 0;change _=some (Value.i x.c)at j;have i:=(d.below a d.lt).cell 0;simp only[aP]at i;have k:(x.c==c)=decide (x.c=c):=rfl;have f:=kp a;go_enter func97,ntmps97;go_wp2_with fail;go_ret;exact⟨rfl,f.o⟩
def Vq(w:World)(c:Int)(rows:List Rw)(e:Ending)(w':World):Prop:=
 ∃b,e=.returned (.tuple #[.agg (cJ c rows).cells.toArray,.bool b])∧Bw' w w'
theorem Vr(c:Int)(l:List Rw):(∀y∈l,decide (y.c=c)=false)∨∃k,∃d:k<l.length,(l[k]).c=c∧∀y∈l.take k,decide (y.c=c)=false:=by
 induction l with
 |nil=>exact .inl fun y a=>by cases a
 |cons x l g=>
  by_cases b:x.c=c
  .exact .inr ⟨0,by simp,by simpa using b,fun y a=>by simp at a⟩
  .rcases g with h|⟨k,d,e,f⟩
   .refine .inl fun y a=>?_;rcases bD.1 a with rfl|a
    .simpa using b
    .exact h y a
   .refine .inr ⟨k+1,by simpa using d,by simpa using e,fun y a=>?_⟩;rw[lV]at a;rcases bD.1 a with rfl|a
    .simpa using b
    .exact f y a
theorem It(p:StV)(ps:List ObV)(c:Int)(B:Nat)(w:World)(h:gW w B p ps)(E:B≤w.heap.size)(U:p.rows.length≤1000000):
  Calls prog 58 #[.agg p.cells.toArray,.i c] w (Vq w c p.rows):=by
 have j0:∀(O:Fn)(first cap:Array Value)(w:World),(Instr.makeFunc O first cap).run prog w=.ok (.func O first cap) w:=fun _ _ _ _=>rfl;have z:=ba' w (.cells p.cells.toArray 43);have q:=Blk.new w 43 p.cells;obtain⟨j,Z⟩:=nm' (w.alloc (.cells p.cells.toArray 43));rw[Z]at z q;have f:=ba' j (.cells #[.i c] 3);have M:=Blk.new j 3 [.i c];obtain⟨l,a0⟩:=nm' (j.alloc (.cells #[.i c] 3));rw[a0]at f M;have C:=ba' l (.cells z'4a 141);have V:=Blk.new l 141 z'4;obtain⟨X,b0⟩:=nm' (l.alloc (.cells z'4a 141));rw[b0]at C V;have d:=k'2 ((z.on f).trans (C.mono (aB z.size f.size))) (aB z.size f.size);have J:=kp ((q.below f q.lt).below C (q.below f q.lt).lt);have N:=kp (M.below C M.lt);have y:=kp V;have i:=kp (xD.2.1 p.rv p.rows (fun r=>decide (r.c=c)) 97 #[.pointer (some ⟨j.heap.size,0,none⟩)] B X (h.2.below d.a E) (aB E d.a.size) U (enters_of func97 (by kernel_rfl) rfl) (fun W x _ hb=>Vp x c j.heap.size W (N.o.below hb N.o.lt)));obtain⟨A,cc,G,e0,hc,hm⟩:=h.2;obtain⟨n,T⟩:=nm' p.rows.length;rw[T]at U hc G;have H:=k'4 (e0.below d.a E) T G (aB E d.a.size);have q8:=J.o.cell 8;rw[StV.c8,G]at q8;rw[G]at i;go_enter func58,ntmps58;rcases Vr c p.rows with Q|⟨k,F,R,S⟩
 .rw[uN _ _ Q]at i;have I:=kp (Vn c p.rows Q);go_wp2_with fail;refine mb' (i.o) fun L e=>?_;have s:=y.o.below e y.o.lt;have Y:=s.store (P:=prog) (cs':=z'4) rfl (mP ⟨0,0,0,0⟩);have m:=k'2 (s.set z'4) (eU (d.a.on e) (g:=l.heap.size) d.B z'4a);go_wp2_with fail;have K:=m.a.load (P:=prog) (k:=4) rfl;exact bI (v:=.tuple #[.agg z'4a,.bool false]) (by simp[results,results58,go_sem,K]) rfl ⟨false,by rw[I.o]; rfl,m.B⟩
 .rw[qC _ _ k F (by simpa using R) S]at i;have I:=kp (Vm c p.rows k F R S);have g3:(k:Int)<(n:Int):=by have:=H.b; omega
  go_wp2_with fail;refine mb' (i.o) fun L e=>?_;have q9:=(J.o.below e J.o.lt).cell 8;rw[StV.c8,H.c]at q9;obtain⟨b,m0,rfl,-,g0,d0⟩:=iS (P:=prog) 4 Rw.cells jP (by omega) (H.a.below e H.D) k F;have l0:=d0 0;change Sem.run _ _ L=.ok _ L at l0;generalize p.rows[k]'F=x at *;have s:=y.o.below e y.o.lt;have Y:=s.store (P:=prog) (cs':=x.cells) rfl (mP x);have m:=k'2 (s.set x.cells) (eU (d.a.on e) (g:=l.heap.size) d.B x.cells.toArray);go_wp2_with fail;have K:=m.a.load (P:=prog) (k:=4) rfl;exact bI (v:=.tuple #[.agg x.cells.toArray,.bool true]) (by simp[results,results58,go_sem,K]) rfl ⟨true,by rw[I.o],m.B⟩
end
section

end
section
attribute [-go_sem] loadCellsFrom storeCells
attribute [local go_sem] aX
def iU:List Value:=z'2
structure Ws(w:World)(base:Nat)(p:StV)(ps:List ObV):Prop where
 h:Wv w base p.p ps
 rows:OR w (fun i=>base≤i) 141 4 p.rv Rw.cells p.rows
structure DoF(w W:World)(g0 g1 gs gr:Nat)(cs:List Value)(x:En):Prop where
 st:Blk W g0 43 cs
 e:Blk W g1 122 x.cells
 s:Blk W gs 43 iU
 r:cG W gr 0 0
 ne:g0≠gs
 lo:w.heap.size≤g0∧w.heap.size≤gs∧w.heap.size≤gr
 b:Bw' w W
section
variable {w w' W W':World}{base base2 g0 g1 gs gr b:Nat}{cs cs':List Value}{x:En}{p p':StV}{ps ps':List ObV}{t:TypeId}
theorem Ws.st(h:Ws w base p ps):gW w w.heap.size p ps:=⟨h.h.hpAt,h.rows.sl⟩
theorem Ws.below(h:Ws w base p ps)(a:Bw' w w'):Ws w' base p ps:=⟨h.h.below a,h.rows.below a⟩
theorem Ws.mono(h:Ws w base p ps)(a:base2≤base):Ws w base2 p ps:=⟨h.h.mono a,aM.mono h.rows fun _ _ h=>aB a h⟩
theorem Ws.chg(h:Ws w base p ps)(a:Blk w b t cs)(c:Chg (fun i=>i=b) w w')(d:t≠264)(f:t≠262)(g:t≠3)(j:t≠141):Ws w' base p ps:=
 ⟨h.h.chg a c d f g,aM.chg h.rows c fun _ k e=>aM.not_blk h.rows a j (e▸k)⟩
theorem Sv.ws(h:Sv w base p ps):Ws w base p ps:=⟨h.h.wv,OR.of_ow h.rows fun _ h _=>h⟩
theorem DoF.below(h:DoF w W g0 g1 gs gr cs x)(a:Bw' W W'):DoF w W' g0 g1 gs gr cs x:=
 ⟨h.st.below a h.st.lt,h.e.below a h.e.lt,h.s.below a h.s.lt,h.r.below a,h.ne,h.lo,h.b.on a⟩
theorem DoF.drew(h:DoF w W g0 g1 gs gr cs x):DoF w W.drew g0 g1 gs gr cs x:=h.below (bL (aH _ _))
theorem DoF.put(h:DoF w W g0 g1 gs gr cs x)(cs':List Value):DoF w (W.setRow g0 cs'.toArray) g0 g1 gs gr cs' x:=
 ⟨h.st.set cs',h.e.other (h.e.ne h.st (by decide)) _,h.s.other (bM h.ne) _,Blk.other h.r (Blk.ne h.r h.st (by decide)) _,h.ne,h.lo,eU h.b h.lo.1 _⟩
theorem DoF.of(w:World)(cs:List Value)(x:En):∃a b c g,w.alloc (.cells cs.toArray 43)=a∧a.alloc (.cells x.cells.toArray 122)=b∧
  b.alloc (.cells z'2a 43)=c∧c.alloc (.cells #[.i 0,.i 0] 73)=g∧DoF w g w.heap.size a.heap.size b.heap.size c.heap.size cs x:=by
 refine⟨_,_,_,_,rfl,rfl,rfl,rfl,?_⟩;generalize j:w.alloc (.cells cs.toArray 43)=a;generalize k:a.alloc (.cells x.cells.toArray 122)=b;generalize l:b.alloc (.cells z'2a 43)=c;have d:Blk a w.heap.size 43 cs:=j▸Blk.new w _ cs;have h:Blk b a.heap.size 122 x.cells:=k▸Blk.new a _ x.cells;have i:Blk c b.heap.size 43 iU:=l▸Blk.new b _ iU;have e1:Bw' w a:=j▸ba' w _;have e2:Bw' a b:=k▸ba' a _;have e:Bw' b c:=l▸ba' b _;have f:=ba' c (.cells #[.i 0,.i 0] 73);have c0:=(d.below e2 d.lt).below e (d.below e2 d.lt).lt;have c1:=h.below e h.lt;exact⟨c0.below f c0.lt,c1.below f c1.lt,i.below f i.lt,cG.new c,by have:=d.lt; have:=e2.size; omega,⟨aN _,aB e1.size e2.size,aB (aB e1.size e2.size) e.size⟩,
  ((e1.on e2).trans (e.mono (aB e1.size e2.size))).trans (f.mono (aB (aB e1.size e2.size) e.size))⟩
theorem DoF.fin(h:DoF w W g0 g1 gs gr cs x)(j:Ws W w.heap.size p ps)(c d:Int):
  ∃e a,e=W.setRow gs p.cells.toArray∧Sem.run prog (storeCells ⟨gs,0,none⟩ p.cells 0) W=.ok () e∧Sem.run prog (storeCells ⟨gr,0,none⟩ [.i c,.i d] 0) e=.ok () a∧
   Sem.run prog (loadCellsFrom ⟨gs,0,none⟩ 0 9 #[]) a=.ok p.cells.toArray a∧Sem.run prog (loadCellsFrom ⟨gr,0,none⟩ 0 2 #[]) a=.ok #[.i c,.i d] a∧Ws a w.heap.size p ps∧Bw' w a:=by
 have m:=(Chg.refl (fun i=>i=gs) W).setRow (.inr rfl) p.cells.toArray;have l:=j.chg h.s m (by decide) (by decide) (by decide) (by decide);have f:cG (W.setRow gs p.cells.toArray) gr 0 0:=Blk.other h.r (Blk.ne h.r h.s (by decide)) _;have k:=h.s.set p.cells;have dH:=eU h.b h.lo.2.1 p.cells.toArray;have n:=h.s.store (P:=prog) (cs':=p.cells) rfl (StV.one j.st);generalize W.setRow gs p.cells.toArray=e at *;have g:=(Chg.refl (fun i=>i=gr) e).setRow (.inr rfl) #[.i c,.i d];exact⟨e,_,rfl,n,f.store c d,(k.chg g (k.ne f (by decide))).load rfl,(f.set c d).load,l.chg f g (by decide) (by decide) (by decide) (by decide),eU dH h.lo.2.2 _⟩
end
theorem SmO.ok{w:World}{B:Nat}{p:HpV}{ps:List ObV}(h:jB w B p ps)(H:HOk p.x):SmO p ps:=SmO.of h ⟨by have:=H.len; omega,by have:=H.len; omega,fun x a=>by have:=H.lens a; omega⟩
theorem qR:∀{l:List Rw}{a:Int},fL a l=true→a≤4→(l.length:Int)≤4-a
 |[],_,_,h=>by simp; omega
 |r::l,a,h,_=>by
  obtain⟨d,b,_,_,c⟩:=mR.1 h;have:=qR c b;simp only[eS]; omega
def Vs(w:World)(R:St×Int×Int)(e:Ending)(w':World):Prop:=
 ∃p ps,e=.returned (.tuple #[.agg p.cells.toArray,.agg #[.i R.2.1,.i R.2.2]])∧p.x=R.1∧Ws w' w.heap.size p ps∧Bw' w w'
theorem Vt(q:HpV)(A:Option Addr)(n c:Nat)(w:World):(Instr.build 43 #[(0,.agg q.cells.toArray),(1,.slice A n c)]).run prog w=.ok (.agg (StV.cells ⟨q,[],.slice A n c⟩).toArray) w:=run_build w _ _ _ (by kernel_rfl)
theorem Vu(w:World):(Instr.build 73 #[]).run prog w=.ok (.agg #[.i 0,.i 0]) w:=run_build w _ _ _ (by kernel_rfl)
theorem Vv(c:Int)(w:World):(Instr.build 73 #[(0,.i c)]).run prog w=.ok (.agg #[.i c,.i 0]) w:=run_build w _ _ _ (by kernel_rfl)
theorem Vw(a b c d:Int)(w:World):(Instr.build 141 #[(0,.i a),(1,.i b),(2,.agg #[.i c,.i d])]).run prog w=.ok (.agg #[.i a,.i b,.i c,.i d]) w:=run_build w _ _ _ (by kernel_rfl)
theorem Vx(w:World):(Instr.build 141 #[]).run prog w=.ok (.agg z'4a) w:=run_build w _ _ _ (by kernel_rfl)
theorem Vy(w:World):(Instr.build 43 #[]).run prog w=.ok (.agg iU.toArray) w:=run_build w _ _ _ (by kernel_rfl)
theorem Vz(w:World):(Instr.build 25 #[]).run prog w=.ok (.agg #[.i 0,.i 0,.i 0,.i 0,.i 0,.i 0,.i 0]) w:=run_build w _ _ _ (by kernel_rfl)
attribute [-go_sem] Instr.build Instr.fill
attribute [go_sem] Vt Vu Vv Vw Vx Vy Vz
structure DnC(Wa:World)(gs:Nat)(q:HpV)(l:List Rw)(X:Nat→Option Value)(W:World):Prop where
 pre:X 9=none→X 12=none→W=Wa
 post:∀v,X 9=some v→X 12=none→Ow W Wa.heap.size 141 4 v Rw.cells l∧Bw' Wa W
 b10:∀z,X 10=some z→∃v,X 9=some v∧z=.agg (StV.cells ⟨q,l,v⟩).toArray
 fin:∀u,X 12=some u→∃v W0,X 10=some (.agg (StV.cells ⟨q,l,v⟩).toArray)∧Ow W0 Wa.heap.size 141 4 v Rw.cells l∧Bw' Wa W0∧W=W0.setRow gs (StV.cells ⟨q,l,v⟩).toArray
section
variable {Wa W W':World}{gs g:Nat}{q:HpV}{l:List Rw}{X:Nat→Option Value}{t:TypeId}{cs:List Value}
theorem DnC.blk(h:DnC Wa gs q l X W)(a:Blk Wa g t cs)(c:g≠gs):Blk W g t cs:=by
 cases h2:X 12 with
 |some u=>
  obtain⟨v,d,-,-,b,rfl⟩:=h.fin u h2;exact (a.below b a.lt).other c _
 |none=>
  cases h1:X 9 with
  |none=>rw[h.pre h1 h2]; exact a
  |some v=>exact a.below (h.post v h1 h2).2 a.lt
theorem DnC.other{j:Nat}{u:Value}(h:DnC Wa gs q l X W)(d:j≠9)(e:j≠10)(f:j≠12):DnC Wa gs q l (aY X j u) W:=by
 have b:aY X j u 9=X 9:=aI (bM d);have c:aY X j u 10=X 10:=aI (bM e);have a:aY X j u 12=X 12:=aI (bM f);exact⟨by rw[b,a]; exact h.pre,by rw[b,a]; exact h.post,by rw[b,c]; exact h.b10,by rw[c,a]; exact h.fin⟩
theorem DnC.build{v:Value}(h:DnC Wa gs q l X W)(f:X 9=some v):DnC Wa gs q l (aY X 10 (.agg (StV.cells ⟨q,l,v⟩).toArray)) W:=by
 have b:aY X 10 (.agg (StV.cells ⟨q,l,v⟩).toArray) 9=X 9:=aI (by decide);have c:aY X 10 (.agg (StV.cells ⟨q,l,v⟩).toArray) 10=some (.agg (StV.cells ⟨q,l,v⟩).toArray):=by simp[aY]
 have a:aY X 10 (.agg (StV.cells ⟨q,l,v⟩).toArray) 12=X 12:=aI (by decide);refine⟨by rw[b,a]; exact h.pre,by rw[b,a]; exact h.post,fun z g=>?_,fun u d=>?_⟩
 .rw[c]at g; cases g; exact⟨v,by rw[b]; exact f,rfl⟩
 .rw[a]at d;obtain⟨v',i,e,k,m,n⟩:=h.fin u d;obtain⟨v2,e2,j⟩:=h.b10 _ e;rw[f]at e2
  cases e2;exact⟨v,i,c,by
   have:v'=v:=by
    have r:(StV.cells ⟨q,l,v'⟩).toArray=(StV.cells ⟨q,l,v⟩).toArray:=by injection j
    have p:StV.cells ⟨q,l,v'⟩=StV.cells ⟨q,l,v⟩:=by simpa using r
    have o:=List.append_cancel_left p;simpa using o
   subst this;exact⟨k,m,n⟩⟩
theorem DnC.store{v u:Value}(h:DnC Wa gs q l X W)(e:X 10=some (.agg (StV.cells ⟨q,l,v⟩).toArray))(c:Ow W Wa.heap.size 141 4 v Rw.cells l∧Bw' Wa W):DnC Wa gs q l (aY X 12 u) (W.setRow gs (StV.cells ⟨q,l,v⟩).toArray):=by
 have d:aY X 12 u 9=X 9:=aI (by decide);have a:aY X 12 u 10=X 10:=aI (by decide);have b:aY X 12 u 12=some u:=by simp[aY]
 refine⟨fun _ h=>(by rw[b]at h; cases h),fun _ _ h=>(by rw[b]at h; cases h),by rw[d,a]; exact h.b10,fun _ _=>⟨v,W,by rw[a]; exact e,c.1,c.2,rfl⟩⟩
theorem DnC.call{v:Value}(i:X 12=none)(j:X 10=none)(g:Ow W' Wa.heap.size 141 4 v Rw.cells l)(f:Bw' Wa W'):DnC Wa gs q l (aY X 9 v) W':=by
 have b:aY X 9 v 9=some v:=by simp[aY]
 have d:aY X 9 v 10=X 10:=aI (by decide);have e:aY X 9 v 12=X 12:=aI (by decide);refine⟨fun h=>(by rw[b]at h; cases h),fun u a _=>?_,fun z c=>?_,fun u a=>?_⟩
 .rw[b]at a; cases a; exact⟨g,f⟩
 .rw[d,j]at c; cases c
 .rw[e,i]at a; cases a
end
end
end Go.Proofs.YtoncgpddjmgbfaaGreat
