import Derived.Test.YtdoopoapbffpbaaGreatZ34
import Derived.Test.YtdoopoapbffpbaaGreatZ39
namespace Go.Proofs.YtdoopoapbffpbaaGreat
open Go.RowKit Go.Proofs.Tryz
set_option maxRecDepth 100000
set_option maxHeartbeats 12800000
set_option linter.unusedVariables false
set_option linter.unusedSimpArgs false
section
attribute [-go_sem] loadCellsFrom storeCells
attribute [local go_sem] bC
def kI(l:List Int):Nat→Int
 |0=>0
 |k+1=>l.getD k 0
theorem tZ(l:List Int)(k:Nat)(a:k<l.length):kI l (k+1)=l[k]:=by simp[kI,kK,eK a]
theorem Zt(nodes b:Int)(a:Bool){l:List Int}{k:Nat}(h:l.length≤k):nR nodes a b (l.drop k)=true:=by rw[gS h]; rfl
theorem Zu(nodes b:Int)(a:Bool){l:List Vo}{k:Nat}(h:l.length≤k):mT nodes a b (l.drop k)=true:=by rw[gS h]; rfl
theorem Zv(nodes id a c:Int)(b:Bool){l:List Ak}{k:Nat}(h:l.length≤k):nS nodes id a b c (l.drop k)=true:=by rw[gS h]; rfl
theorem Eb(a b:Int):decide (a<b)= !decide (b≤a):=by rw[←decide_not]; exact decide_eq_decide.2 (by omega)
theorem Zw(a b:Int):decide (a≤b)= !decide (b<a):=by rw[←decide_not]; exact decide_eq_decide.2 (by omega)
theorem Zx(p:RpV)(ps:List ObV)(B:Nat)(w:World)(h:eO w B p ps)(hB:B≤w.heap.size)(S:RpS p ps)(hb:0≤p.k.base∧p.k.base≤900000000):
  Calls prog 45 #[.agg p.cells.toArray] w fun e w'=>e=.returned (.bool (yM p.x))∧Bw' w w':=by
 obtain⟨W1,o4,x1,b1,z1⟩:=par w 39 p.cells;have E:=k'2 x1 b1;have hA:=h.below b1 hB;obtain⟨H,b2⟩:∃r,gY p.x=r:=⟨_,rfl⟩
 obtain⟨pb,d2⟩:∃r,gM p.x=r:=⟨_,rfl⟩
 obtain⟨X,a2⟩:∃r,mN p.x=r:=⟨_,rfl⟩
 have HN:=kp (fun W=>b2▸tU.2 p W);have HP:=kp (fun W=>d2▸tV p W);have g2:(mM p.nodes p.k.view != p.id)= !X:=by rw[←a2]; rfl
 obtain⟨pm,e2⟩:∃z,mM p.nodes p.k.view=z:=⟨_,rfl⟩
 rw[e2]at g2;have e3:=kp (fun W=>e2▸Kb p.nodes p.k.view W);have m4:=kp (fun W(hw:Bw' W1 W)=>rN.2 p.k W B (Sl.below hA.1 hw (aB hB b1.size)) hb S.k.2.1);have L:=k'3 hA (aB hB b1.size) S;obtain⟨A1,c1,o2,y3,p4,a5⟩:=hA.2.2.1;obtain⟨A2,c2,p2,z3,q4,b5⟩:=hA.2.2.2.1.1;obtain⟨A3,c3,q2,a4,z4,d5⟩:=hA.2.2.2.2;obtain⟨n1,g1⟩:∃n,p.starts.length=n:=⟨_,rfl⟩
 obtain⟨n2,m1⟩:∃n,p.votes.length=n:=⟨_,rfl⟩
 obtain⟨n3,o1⟩:∃n,p.acks.length=n:=⟨_,rfl⟩
 rw[g1]at o2;rw[m1]at p2;rw[o1]at q2;have hl:=S.l;rw[g1,m1,o1]at hl;obtain⟨e5,j5,l5⟩:=hl;obtain⟨r1,j2⟩:∃r,nR p.nodes (!H) 0 p.starts=r:=⟨_,rfl⟩
 obtain⟨r2,l2⟩:∃r,mT p.nodes (!H&&X) 0 (p.votes.map (·.x))=r:=⟨_,rfl⟩
 obtain⟨r3,m2⟩:∃r,nS p.nodes p.id p.x.k.last pb 0 p.acks=r:=⟨_,rfl⟩
 have hR:yM p.x=(r1&&(r2&&r3)):=by rw[←j2,←l2,←m2,←b2,←a2,←d2]; rfl
 rw[hR];have m0:=k'4 y3 o2 g1 j2;have e0:=k'4 z3 p2 m1 l2;have g0:=k'4 a4 q2 o1 m2;clear hR j2 l2 m2 b2 d2 a2 e2 y3 o2 g1 p4 a5 z3 p2 m1 q4 b5 a4 q2 o1 z4 d5 hA x1 b1 h hB hb S;go_enter func45,ntmps45;go_wp2_with fail;clear o4
 go_loopw [3] (fun i wr=>∃k:Nat,k≤n1∧i=.i k∧nR p.nodes (!H) (kI p.starts k) (p.starts.drop k)=r1∧Bw' W1 wr) (fun i _=>n1-(intOf i).toNat)
 case atStart=>exact⟨0,by omega,rfl,m0.D,.refl _ _⟩
 case round=>
  obtain⟨k,hk,rfl,Q,T⟩:=hrel;have HF:=kp Q;have R:=kp T;have N:=E.a.below T E.a.lt;have z0:=N.cell 18;rw[RpV.c18,m0.b]at z0;clear Q T
  by_cases q3:k<n1
  .have g3:(k:Int)<(n1:Int):=by omega
   have G:k<p.starts.length:=by have:=m0.c; omega
   obtain⟨b,d1,rfl,-,p3,-⟩:=dB (P:=prog) 1 i1 cS (by omega) (m0.a.below R.o L.b) k G;have I:=p3 0 _ rfl;simp only[cF,oF]at I;have j:=Vs p.nodes (!H) (kI p.starts k) p.starts k G;rw[HF.o]at j;have M:=tZ p.starts k G;clear p3;obtain⟨x,Y⟩:=nm' (p.starts[k]'G);rw[Y]at I j M;have I:=aP I;have j1:=aP (v:=.i p.nodes) (N.cell 1);have e4:=aP z0;have l1:=mC (P:=prog) N (k:=26) rfl;obtain⟨c,s⟩:=nm' (aF x 1 p.nodes);rw[s]at j;have o3:=kp (fun W=>s▸cJ.2.1 x 1 p.nodes W);have a0:=kp M;clear M N
   by_cases U:k=0
   .have g5:decide (0<k)=false:=by simp; omega
    have d4:c=true→decide ((0:Int)<x)=true:=fun h=>by rw[h]at s; unfold aF at s; simp only[bI,bP]at s ⊢; omega
    have Z:=kp (show r1=((c&& !H)&&nR p.nodes (!H) x (p.starts.drop (k+1))) by
     rw[j,show kI p.starts k=0 by rw[U]; rfl]
     cases c
     .simp
     .rw[d4 rfl]; rfl)
    clear Y s j d4 U;go_wp2_with fail;clear z0
    cases c
    case' true=>cases H
    all_goals
     refine bJ (by kernel_rfl) (by kernel_rfl) ?_
     repeat (go_big_quiet_step (first |(go_at_call 42; refine dG (o3.o _))|(go_at_call 50; refine bU (HN.o _))))
     refine bH ?_;rintro W5 ⟨⟨_,F⟩,rfl⟩;have A:=kp (R.o.on F);clear F I j1 e4 l1
    case true.false=>
     go_wp2_with fail;go_roundw
     case rel=>exact⟨k+1,by omega,by go_num,by rw[a0.o,Z.o]; rfl,A.o⟩
     case measure=>simp[intOf]; omega
    all_goals
     obtain rfl:r1=false:=Z.o;go_wp2_with fail;go_ret;exact⟨rfl,E.B.on A.o⟩
   obtain⟨m,d0⟩:∃m,k=m+1:=⟨k-1,by omega⟩
   have V:m<p.starts.length:=by omega
   obtain⟨b',e1,e',-,b0,-⟩:=dB (P:=prog) 1 i1 cS (by omega) (m0.a.below R.o L.b) m V;obtain⟨rfl,rfl⟩:b=b'∧d1=e1:=by cases e'; exact⟨rfl,rfl⟩
   have J:=b0 0 _ rfl;simp only[cF,oF]at J;rw[show kI p.starts k=p.starts[m] by rw[d0,tZ p.starts m V]]at j;clear b0 e';generalize p.starts[m]'V=y at *;have J:=aP J;obtain⟨d,hd⟩:=nm' (decide (x≤y));rw[Eb,hd]at j;have g5:decide (0<k)=true:=by simp; omega
   have gk:(k:Int)-1=(m:Int):=by omega
   have g6:(m:Int)<(n1:Int):=by omega
   have HT:=kp j;clear Y s j U d0;go_wp2_with fail;clear z0
   cases c
   case' true=>
    cases d
    case' false=>cases H
   all_goals
    refine bJ (by kernel_rfl) (by kernel_rfl) ?_
    repeat (go_big_quiet_step (first |(go_at_call 42; refine dG (o3.o _))|(go_at_call 50; refine bU (HN.o _))))
    refine bH ?_;rintro W5 ⟨⟨_,F⟩,rfl⟩;have A:=kp (R.o.on F);clear F I j1 e4 l1 J
   case true.false.false=>
    go_wp2_with fail;go_roundw
    case rel=>exact⟨k+1,by omega,by go_num,by rw[a0.o,HT.o]; rfl,A.o⟩
    case measure=>simp[intOf]; omega
   all_goals
    obtain rfl:r1=false:=HT.o;go_wp2_with fail;go_ret;exact⟨rfl,E.B.on A.o⟩
  .obtain rfl:n1=k:=by omega
   obtain rfl:r1=true:=HF.o.symm.trans (Zt _ _ _ (by have:=m0.c; omega));clear N;go_wp2_with fail;clear z0
   go_loopw [4] (fun i wr=>∃k:Nat,k≤n2∧i=.i k∧mT p.nodes (!H&&X) (kI (p.votes.map (·.node)) k) ((p.votes.map (·.x)).drop k)=r2∧Bw' W1 wr) (fun i _=>n2-(intOf i).toNat)
   case atStart=>exact⟨0,by omega,rfl,e0.D,R.o⟩
   case round=>
    obtain⟨k,hk,rfl,Q,T⟩:=hrel;have HF:=kp Q;have R:=kp T;have N:=E.a.below T E.a.lt;have p1:=N.cell 19;rw[RpV.c19,e0.b]at p1;clear Q T
    by_cases q3:k<n2
    .have g3:(k:Int)<(n2:Int):=by omega
     have G:k<p.votes.length:=by have:=e0.c; omega
     obtain⟨b,d1,rfl,-,-,p0⟩:=dB (P:=prog) 6 VoV.cells iS (by omega) (e0.a.below R.o L.b) k G;have I:=p0 0;change Sem.run _ _ wr=.ok _ wr at I;have j:=Vt p.nodes (!H&&X) (kI (p.votes.map (·.node)) k) (p.votes.map (·.x)) k (by simpa using G);rw[HF.o,kY]at j;have M:=tZ (p.votes.map (·.node)) k (by simpa using G);rw[kY]at M;have Y:p.votes[k]'G∈p.votes:=bK G;clear p0;obtain⟨x,l0⟩:=nm' (p.votes[k]'G);rw[l0]at I j M Y;have y2:mS wr B x:=Sl.below (L.a.2.2.2.1.2 x Y) R.o L.b;obtain⟨W4,o0,s4,x4,aS,-⟩:=fB wr 84 z'6 x.cells rfl (yK y2);have O:=kp (R.o.on aS);have K:=E.a.below O.o E.a.lt;have l4:=mC (P:=prog) x4 (k:=6) rfl;have j0:=aP (v:=.i x.node) (x4.cell 0);have l1:=mC (P:=prog) K (k:=26) rfl;have k0:=aP (v:=.i p.id) (K.cell 0);have k1:=aP (v:=.i p.nodes) (K.cell 1);have k2:=aP (v:=.i p.k.view) (K.cell 2);have z2:=K.cell 19;rw[RpV.c19,e0.b]at z2;have g4:=aP z2;obtain⟨c,s⟩:=nm' (iC x.x);have j3:=kp (fun(q:Blw W4)=>by have:=Zs x B q.w (Sl.below (Sl.below y2 aS (aB L.b R.o.size)) q.h (aB L.b O.o.size)) (aB L.b (aB O.o.size q.h.size)) (L.C.v x Y).1 (L.C.v x Y).2; rw[s]at this; exact this);obtain⟨a1,u1⟩:∃a,decide (p.nodes<x.node)=a:=⟨_,rfl⟩
     have j:r2=((c&&((!a1&&decide (kI (p.votes.map (·.node)) k<x.node))&&(!H&&X)))&&mT p.nodes (!H&&X) x.node ((p.votes.map (·.x)).drop (k+1))):=by
      rw[j,s,show decide (x.x.node≤p.nodes)= !a1 by rw[←u1]; exact Zw _ _]; rfl
     have a0:=kp M;clear M N K z2 x4 aS y2 Y
     by_cases U:k=0
     .have g5:decide (0<k)=false:=by simp; omega
      have Z:=kp (show r2=((c&&(!a1&&(!H&&X)))&&mT p.nodes (!H&&X) x.node ((p.votes.map (·.x)).drop (k+1))) by
       rw[j,show kI (p.votes.map (·.node)) k=0 by rw[U]; rfl]
       cases c
       .rfl
       .have h1:1≤x.node:=Vq s;rw[bY (show 0<x.node by omega)]; cases a1<;>rfl)
      clear l0 s j U;go_wp2_with fail;clear p1 I s4 o0
      cases c
      case' true=>
       cases a1
       case' false=>
        cases H
        case' false=>cases X
      all_goals
       try simp only[Bool.not_true,Bool.not_false]at g2
       refine bJ (by kernel_rfl) (by kernel_rfl) ?_
       repeat (go_big_quiet_step (first |(go_at_call 99; refine bU (j3.o _))|(go_at_call 50; refine bU (HN.o _))|(go_at_call 100; refine dG (e3.o _))))
       refine bH ?_;rintro W5 ⟨⟨_,F⟩,rfl⟩;have A:=kp (O.o.on F);clear F l4 j0 l1 k0 k1 k2 g4
      all_goals
       first
       |obtain rfl:r2=false:=Z.o
        go_wp2_with fail;go_ret;exact⟨rfl,E.B.on A.o⟩
       |skip
        go_wp2_with fail;go_roundw
        case rel=>exact⟨k+1,by omega,by go_num,by rw[a0.o,Z.o]; rfl,A.o⟩
        case measure=>simp[intOf]; omega
     obtain⟨m,d0⟩:∃m,k=m+1:=⟨k-1,by omega⟩
     have V:m<p.votes.length:=by omega
     obtain⟨b',e1,e',-,b0,-⟩:=dB (P:=prog) 6 VoV.cells iS (by omega) (e0.a.below O.o L.b) m V;obtain⟨rfl,rfl⟩:b=b'∧d1=e1:=by cases e'; exact⟨rfl,rfl⟩
     have J:=b0 0 _ rfl;simp only[cF]at J;rw[show kI (p.votes.map (·.node)) k=(p.votes[m]).node by rw[d0,tZ _ m (by simpa using V),kY]]at j;clear b0 e';generalize p.votes[m]'V=y at *;have J:=aP J;obtain⟨d,hd⟩:=nm' (decide (x.node≤y.node));rw[Eb,hd]at j;have g5:decide (0<k)=true:=by simp; omega
     have gk:(k:Int)-1=(m:Int):=by omega
     have g6:(m:Int)<(n2:Int):=by omega
     have HT:=kp j;clear l0 s j U d0;go_wp2_with fail;clear p1 I s4 o0
     cases c
     case' true=>
      cases a1
      case' false=>
       cases d
       case' false=>
        cases H
        case' false=>cases X
     all_goals
      try simp only[Bool.not_true,Bool.not_false]at g2
      refine bJ (by kernel_rfl) (by kernel_rfl) ?_
      repeat (go_big_quiet_step (first |(go_at_call 99; refine bU (j3.o _))|(go_at_call 50; refine bU (HN.o _))|(go_at_call 100; refine dG (e3.o _))))
      refine bH ?_;rintro W5 ⟨⟨_,F⟩,rfl⟩;have A:=kp (O.o.on F);clear F l4 j0 l1 k0 k1 k2 g4 J
     all_goals
      first
      |obtain rfl:r2=false:=by rw[HT.o]; first |rfl|(simp; done)
       go_wp2_with fail;go_ret;exact⟨rfl,E.B.on A.o⟩
      |skip
       go_wp2_with fail;go_roundw
       case rel=>exact⟨k+1,by omega,by go_num,by rw[a0.o,HT.o]; rfl,A.o⟩
       case measure=>simp[intOf]; omega
    .obtain rfl:n2=k:=by omega
     obtain rfl:r2=true:=HF.o.symm.trans (Zu _ _ _ (by have:=e0.c; simp; omega));clear N;go_wp2_with fail;clear p1
     go_loopw [6] (fun i wr=>∃k:Nat,k≤n3∧i=.i k∧nS p.nodes p.id p.x.k.last pb (kI (p.acks.map (·.n)) k) (p.acks.drop k)=r3∧Bw' W1 wr) (fun i _=>n3-(intOf i).toNat)
     case atStart=>exact⟨0,by omega,rfl,g0.D,R.o⟩
     case round=>
      obtain⟨k,hk,rfl,Q,T⟩:=hrel;have HG:=kp Q;have q1:=kp T;have N:=E.a.below T E.a.lt;have a3:=N.cell 20;rw[RpV.c20,g0.b]at a3;clear Q T
      by_cases q3:k<n3
      .have g3:(k:Int)<(n3:Int):=by omega
       have G:k<p.acks.length:=by have:=g0.c; omega
       obtain⟨b,d1,rfl,-,-,p0⟩:=dB (P:=prog) 2 Ak.cells nH (by omega) (g0.a.below q1.o L.b) k G;have I:=p0 0;change Sem.run _ _ wr=.ok _ wr at I;have j:=Vu p.nodes p.id p.x.k.last pb (kI (p.acks.map (·.n)) k) p.acks k G;rw[HG.o]at j;have M:=tZ (p.acks.map (·.n)) k (by simpa using G);rw[kY]at M;clear p0;obtain⟨x,l0⟩:=nm' (p.acks[k]'G);rw[l0]at I j M;obtain⟨W4,o0,s4,x4,aS,-⟩:=fB wr 92 [.i 0,.i 0] x.cells rfl (wX x);have O:=kp (q1.o.on aS);have K:=E.a.below O.o E.a.lt;have j0:=aP (v:=.i x.n) (x4.cell 0);have j1:=aP (v:=.i x.k) (x4.cell 1);have l1:=mC (P:=prog) K (k:=26) rfl;have k0:=aP (v:=.i p.id) (K.cell 0);have k1:=aP (v:=.i p.nodes) (K.cell 1);have lk:∀q:Blw W4,Sem.run prog (loadCellsFrom ⟨w.heap.size,2,none⟩ 0 5 #[]) q.w=.ok p.k.cells.toArray q.w:=fun q=>(K.below q.h K.lt).loadOff 2 5 p.k.cells rfl rfl;have b3:=K.cell 20;rw[RpV.c20,g0.b]at b3;have j4:=aP b3;have d3:=kp (fun(q:Blw W4)=>m4.o q.w (O.o.on q.h));obtain⟨c,s⟩:=nm' (aF x.n 1 p.nodes);obtain⟨d,hd⟩:=nm' (decide (x.n=p.id));obtain⟨f,Q⟩:=nm' (aF x.k 0 p.x.k.last);have u3:(x.n==p.id)=d:=hd;have l3:=kp (fun W=>s▸cJ.2.1 x.n 1 p.nodes W);have m3:=kp (fun W=>(show aF x.k 0 p.k.x.last=f from Q)▸cJ.2.1 x.k 0 p.k.x.last W);rw[s,hd,Q]at j;have a0:=kp M;clear M N K b3 x4 aS hd Q
       by_cases U:k=0
       .have g5:decide (0<k)=false:=by simp; omega
        have Z:=kp (show r3=((c&&(!d&&(f&&pb)))&&nS p.nodes p.id p.x.k.last pb x.n (p.acks.drop (k+1))) by
         rw[j,show kI (p.acks.map (·.n)) k=0 by rw[U]; rfl]
         cases c
         .rfl
         .have h1:0<x.n:=by unfold aF at s; simp only[bI,bP]at s; omega
          rw[bY h1]; cases d<;>cases f<;>rfl)
        clear l0 s j U;go_wp2_with fail;clear a3 I s4 o0
        cases c
        case' true=>
         cases d
         case' false=>
          cases f
          case' true=>cases pb
        all_goals
         refine bJ (by kernel_rfl) (by kernel_rfl) ?_
         repeat (go_big_quiet_step (first |(go_at_call 42; first |with_reducible refine dG (l3.o _)|with_reducible refine dG (m3.o _))|(go_at_call 44; refine bU (d3.o _))|(go_at_call 52; refine bU (HP.o _))))
         refine bH ?_;rintro W5 ⟨⟨_,F⟩,rfl⟩;have A:=kp (O.o.on F);clear F j0 j1 l1 k0 k1 lk j4
        all_goals
         first
         |obtain rfl:r3=false:=Z.o
          go_wp2_with fail;go_ret;exact⟨rfl,E.B.on A.o⟩
         |skip
          go_wp2_with fail;go_roundw
          case rel=>exact⟨k+1,by omega,by go_num,by rw[a0.o,Z.o]; rfl,A.o⟩
          case measure=>simp[intOf]; omega
       obtain⟨m,d0⟩:∃m,k=m+1:=⟨k-1,by omega⟩
       have V:m<p.acks.length:=by omega
       obtain⟨b',e1,e',-,b0,-⟩:=dB (P:=prog) 2 Ak.cells nH (by omega) (g0.a.below O.o L.b) m V;obtain⟨rfl,rfl⟩:b=b'∧d1=e1:=by cases e'; exact⟨rfl,rfl⟩
       have J:=b0 0 _ rfl;simp only[cF]at J;rw[show kI (p.acks.map (·.n)) k=(p.acks[m]).n by rw[d0,tZ _ m (by simpa using V),kY]]at j;clear b0 e';generalize p.acks[m]'V=y at *;have J:=aP J;obtain⟨g,hg⟩:=nm' (decide (x.n≤y.n));rw[Eb,hg]at j;have g5:decide (0<k)=true:=by simp; omega
       have gk:(k:Int)-1=(m:Int):=by omega
       have g6:(m:Int)<(n3:Int):=by omega
       have HT:=kp j;clear l0 s j U d0;go_wp2_with fail;clear a3 I s4 o0
       cases c
       case' true=>
        cases d
        case' false=>
         cases f
         case' true=>
          cases g
          case' false=>cases pb
       all_goals
        refine bJ (by kernel_rfl) (by kernel_rfl) ?_
        repeat (go_big_quiet_step (first |(go_at_call 42; first |with_reducible refine dG (l3.o _)|with_reducible refine dG (m3.o _))|(go_at_call 44; refine bU (d3.o _))|(go_at_call 52; refine bU (HP.o _))))
        refine bH ?_;rintro W5 ⟨⟨_,F⟩,rfl⟩;have A:=kp (O.o.on F);clear F j0 j1 l1 k0 k1 lk j4 J
       all_goals
        first
        |obtain rfl:r3=false:=by rw[HT.o]; first |rfl|(simp; done)
         go_wp2_with fail;go_ret;exact⟨rfl,E.B.on A.o⟩
        |skip
         go_wp2_with fail;go_roundw
         case rel=>exact⟨k+1,by omega,by go_num,by rw[a0.o,HT.o]; rfl,A.o⟩
         case measure=>simp[intOf]; omega
      .obtain rfl:n3=k:=by omega
       obtain rfl:r3=true:=HG.o.symm.trans (Zv _ _ _ _ _ (by have:=g0.c; omega));clear N;go_wp2_with fail;go_ret;exact⟨rfl,E.B.on q1.o⟩
end
end Go.Proofs.YtdoopoapbffpbaaGreat
