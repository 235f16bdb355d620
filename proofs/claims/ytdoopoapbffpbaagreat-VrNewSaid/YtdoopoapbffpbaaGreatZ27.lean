import Derived.Test.YtdoopoapbffpbaaGreatZ16
import Derived.Test.YtdoopoapbffpbaaGreatZ23
namespace Go.Proofs.YtdoopoapbffpbaaGreat
open Go.RowKit Go.Proofs.Tryz
set_option maxRecDepth 100000
set_option maxHeartbeats 12800000
set_option linter.unusedVariables false
set_option linter.unusedSimpArgs false
section
theorem Xh(a b c d e f g:Bool):(a=false∧(a&&(b&&(c&&(d&&(e&&(f&&g))))))=false)∨(a=true∧b=false∧(a&&(b&&(c&&(d&&(e&&(f&&g))))))=false)∨(a=true∧b=true∧c=false∧(a&&(b&&(c&&(d&&(e&&(f&&g))))))=false)∨(a=true∧b=true∧c=true∧d=false∧(a&&(b&&(c&&(d&&(e&&(f&&g))))))=false)∨(a=true∧b=true∧c=true∧d=true∧e=false∧(a&&(b&&(c&&(d&&(e&&(f&&g))))))=false)∨(a=true∧b=true∧c=true∧d=true∧e=true∧f=false∧(a&&(b&&(c&&(d&&(e&&(f&&g))))))=false)∨(a=true∧b=true∧c=true∧d=true∧e=true∧f=true∧g=false∧(a&&(b&&(c&&(d&&(e&&(f&&g))))))=false)∨(a=true∧b=true∧c=true∧d=true∧e=true∧f=true∧g=true∧(a&&(b&&(c&&(d&&(e&&(f&&g))))))=true):=by
 cases a<;>cases b<;>cases c<;>cases d<;>cases e<;>cases f<;>cases g<;>simp
def iO(l:List Rw):Nat→Int
 |0=>0
 |k+1=>match l[k]? with |some r=>r.c|none=>0
def qD(r:Rw):Bool:=aF r.c 1 4&&(aF r.s 1 1000000&&aF r.k 0 65535)
theorem rX{l:List Rw}{k:Nat}{r:Rw}(h:l[k]? =some r):iO l (k+1)=r.c:=by
 show (match l[k]? with |some r=>r.c|none=>0)=r.c;rw[h]
theorem Lp(x:Int)(r:Rw)(l:List Rw):eP x (r::l)=((decide (x<r.c)&&decide (r.c≤4))&&(aF r.s 1 1000000&&(aF r.k 0 65535&&eP r.c l))):=rfl
theorem Xi{l:List Rw}{k:Nat}{r:Rw}(h:l[k]? =some r)(f:0≤iO l k):eP (iO l k) (l.drop k)=(qD r&&(decide (iO l k<r.c)&&eP r.c (l.drop (k+1)))):=by
 obtain⟨d,e⟩:=iH.1 h;rw[fG d,e,Lp];unfold qD aF
 by_cases a:iO l k<r.c
 .have b:1≤r.c:=by omega
  simp[a,b,Bool.and_assoc]
 .simp[a]
theorem Xj{l:List Rw}{k:Nat}{r:Rw}{a R:Bool}{b:Int}(h:l[k]? =some r)(f:0≤if a then b else 0)(d:(a&&eP b (l.drop k))=R):
  ((a&&(decide (b<r.c)&&(decide (r.c≤4)&&(decide (1≤r.s)&&(decide (r.s≤1000000)&&(decide (0≤r.k)&&decide (r.k≤65535)))))))&&eP (iO l (k+1)) (l.drop (k+1)))=R∧
  ((a&&(decide (b<r.c)&&(decide (r.c≤4)&&(decide (1≤r.s)&&(decide (r.s≤1000000)&&(decide (0≤r.k)&&decide (r.k≤65535)))))))=true→0≤iO l (k+1)):=by
 obtain⟨g,i⟩:=iH.1 h;rw[rX h];rw[fG g,i,Lp]at d;refine⟨by rw[←d]; simp[aF,Bool.and_assoc],fun e=>?_⟩
 cases a
 .simp at e
 .simp only[if_true]at f;simp only[jF,bI,bP]at e;omega
theorem Lr(l:List Rw)(k:Nat)(a:l.length≤k)(x:Int):eP x (l.drop k)=true:=by rw[gS a]; rfl
theorem Xk(r:Rw)(w:World):Calls prog 132 #[.agg #[.i r.c,.i r.s,.i r.k,.i r.v]] w fun e A=>e=.returned (.bool (qD r))∧Bw' w A:=by
 generalize i:w.alloc (.cells #[.i r.c,.i r.s,.i r.k,.i r.v] 86)=a;have b:Blk a w.heap.size 86 r.cells:=i▸Blk.new w 86 r.cells;have d:=kp (show Bw' w a from i▸ba' w _);have n:=b.cell 0;have p:=b.cell 1;have q:=b.cell 2;simp only[Rw.cells,aG,aK]at n p q;clear b;obtain⟨x,f⟩:=nm' (aF r.c 1 4);obtain⟨y,g⟩:=nm' (aF r.s 1 1000000);obtain⟨z,h⟩:=nm' (aF r.k 0 65535);have j:=kp (by have:=cJ.2.2.2.2.2.2.2.1 r.c 1 4 a; rw[f]at this; exact this);have l:=kp (by have:=cJ.2.2.2.2.2.2.2.1 r.s 1 1000000 a; rw[g]at this; exact this);have m:=kp (by have:=cJ.2.2.2.2.2.2.2.1 r.k 0 65535 a; rw[h]at this; exact this);unfold qD;rw[f,g,h];clear f g h;go_enter func132,ntmps132;go_wp2_with fail;refine ms' (j.o) ?_
 cases x
 .go_wp2_with fail;go_ret;exact⟨rfl,d.o⟩
 go_wp2_with fail;refine ms' (l.o) ?_
 cases y
 .go_wp2_with fail;go_ret;exact⟨rfl,d.o⟩
 go_wp2_with fail;refine ms' (m.o) ?_;go_wp2_with fail;go_ret;exact⟨by simp,d.o⟩
theorem Dt(p:StV)(ps:List ObV)(B:Nat)(w:World)(h:fN w B p ps)(O:B≤w.heap.size)(hn:ps.length≤1000000)(hf:p.p.x.free.length≤900000)(hr:p.rows.length≤1000000):
  Calls prog 77 #[.agg p.cells.toArray] w fun e w'=>e=.returned (.i (eN 60 (stB p.x)))∧Bw' w w':=by
 obtain⟨R,Q⟩:=nm' (stB p.x);rw[Q];generalize e0:w.alloc (.cells p.cells.toArray 32)=D;have d:Blk D w.heap.size 32 p.cells:=e0▸Blk.new w 32 p.cells;have E:Bw' w D:=e0▸ba' w _;have Y:=kp E;have Z:=kp d;have C:=k'2 (h.below E O) (aB O E.size);obtain⟨n,G⟩:=nm' p.rows.length;obtain⟨A,c,V,-,-,-⟩:=h.2;have d0:=kp V;have L:=kp G;rw[G]at hr;have K:=kp (yD p.p ps B D C.a.1 C.B hn hf);obtain⟨a,S⟩:=nm' (cO p.p.x);rw[S]at K;have HR:=kp (show (a&&eP (iO p.rows 0) (p.rows.drop 0))=R by rw[←Q,←S]; rfl);have k0:=d.cell 0;have k1:=d.cell 1;have k2:=d.cell 2;have k3:=d.cell 3;have k4:=d.cell 4;have k5:=d.cell 5;have k6:=d.cell 6;have k7:=d.cell 7;have I:=d.cell 8;simp only[StV.cells,HpV.cells,aW,aT,aG,aK]at k0 k1 k2 k3 k4 k5 k6 k7 I;rw[V,G]at I;have p0:p.p.cells.toArray=#[.i p.p.x.order,p.p.ov,.i p.p.x.next,.i p.p.x.t0,.i p.p.x.t1,.i p.p.x.t2,.i p.p.x.t3,p.p.fv]:=rfl;rw[p0]at K;clear h V d E O G Q S hn hf p0;go_enter func77,ntmps77;go_wp2_with fail;refine mb' (K.o) fun w2 T=>?_;have a1:=kp T;have I:=(Z.o.below T Z.o.lt).cell 8;rw[StV.c8,d0.o,L.o]at I;have gq:(eN 1 a==0)=a:=by cases a<;>rfl
 clear T k0 k1 k2 k3 k4 k5 k6 k7;go_wp2_with fail
 go_loopw [3,4,14] (fun o l i wr=>∃(k:Nat)(m:Bool),k≤n∧o=.bool m∧i=.i k∧l=.i (iO p.rows k)∧0≤(if m then iO p.rows k else 0)∧(m&&eP (iO p.rows k) (p.rows.drop k))=R∧Bw' D wr) (fun _ _ i _=>n-(intOf i).toNat)
 case atStart=>exact⟨0,a,by omega,by first |rfl|rw[gq],rfl,rfl,by cases a<;>simp[iO],HR.o,a1.o⟩
 case round=>
  obtain⟨k,m,hk,rfl,rfl,rfl,l0,y0,U⟩:=hrel;have J:=kp U;have M:=kp y0;have a0:=kp l0;have z0:=C.a.2.below U C.B;clear U y0 l0 gq
  by_cases l1:k<n
  .have g3:(k:Int)<(n:Int):=by omega
   have z:k<p.rows.length:=by have:=L.o; omega
   obtain⟨A6,c6,W,q0,-,-⟩:=z0;rw[d0.o]at W;obtain⟨rfl,-,rfl⟩:=Value.slice.inj W;obtain⟨b,m1,rfl,-,y,-⟩:=bV (P:=prog) 4 fJ (by omega) q0 k z;have X:p.rows[k]? =some (p.rows[k]'z):=eK z;generalize p.rows[k]'z=x at *;have x0:=y 0 _ rfl;have x1:=y 1 _ rfl;have x2:=y 2 _ rfl;have x3:=y 3 _ rfl;simp only[cF]at x0;generalize g0:wr.alloc (.cells #[.i x.c,.i x.s,.i x.k,.i x.v] 86)=W5;have j0:Bw' wr W5:=g0▸ba' wr _;have H:Blk W5 wr.heap.size 86 x.cells:=g0▸Blk.new wr 86 x.cells;have s0:=H.cell 0;have s1:=H.cell 1;have s2:=H.cell 2;simp only[Rw.cells,aG,aK]at s0 s1 s2;have b1:=kp (J.o.on j0);obtain⟨lc,o0⟩:=nm' (iO p.rows k);rw[o0]at a0 M ⊢;have j1:=kp (Xj X a0.o M.o);have HX:=kp X;clear W q0 y z j0 H;rcases Xh m (decide (lc<x.c)) (decide (x.c≤4)) (decide (1≤x.s)) (decide (x.s≤1000000)) (decide (0≤x.k)) (decide (x.k≤65535)) with⟨j,g⟩|⟨j,f,g⟩|⟨j,f,q,g⟩|⟨j,f,q,r,g⟩|⟨j,f,q,r,F,g⟩|⟨j,f,q,r,F,N,g⟩|⟨j,f,q,r,F,N,h6,g⟩|⟨j,f,q,r,F,N,h6,g⟩
   all_goals
    have m0:iO p.rows (k+1)=x.c:=rX HX.o;have d1:=kp g
    first |have H0:=kp j|skip
    first |have H1:=kp f|skip
    first |have H2:=kp q|skip
    first |have H3:=kp r|skip
    first |have H4:=kp F|skip
    first |have H5:=kp N|skip
    first |have H6:=kp h6|skip
    have g1:=kp m0;clear g m0 o0 X;go_wp2_with fail;go_roundw
    case rel=>
     refine⟨k+1,_,by omega,rfl,by go_num,by rw[g1.o],?_,?_,b1.o⟩
     all_goals
      have f:=j1.o;rw[d1.o]at f
      first |exact f.1|exact f.2 rfl|exact iQ 0
    case measure=>simp[intOf]; omega
  .obtain rfl:k=n:=by omega
   obtain rfl:m=R:=by
    have:=M.o;rw[Lr _ _ (by have:=L.o; omega)]at this;simpa using this
   clear z0
   cases m
   .go_wp2_with fail;go_ret;exact⟨rfl,Y.o.on J.o⟩
   .go_wp2_with fail;go_ret;exact⟨rfl,Y.o.on J.o⟩
theorem Xl(p:StV)(ps:List ObV)(B:Nat)(w:World)(h:fN w B p ps)(hB:B≤w.heap.size)(hn:ps.length≤1000000)(hf:p.p.x.free.length≤900000)(hr:p.rows.length≤1000000)(hx: -9223372036854775808≤p.p.x.next∧p.p.x.next≤9223372036854775807):
  Calls prog 86 #[.agg p.cells.toArray] w fun e w'=>e=.returned (.bool (stB p.x))∧Bw' w w':=by
 obtain⟨R,hR⟩:=nm' (stB p.x);rw[hR];generalize d1:w.alloc (.cells p.cells.toArray 32)=T;have b0:Blk T w.heap.size 32 p.cells:=d1▸Blk.new w 32 p.cells;have U:Bw' w T:=d1▸ba' w _;have d0:=kp U;have z0:=kp b0;have H:=k'2 (h.below U hB) (aB hB U.size);obtain⟨n,hN⟩:=nm' p.rows.length;obtain⟨A,c,o1,-,-,-⟩:=h.2;have b1:=kp o1;have HN:=kp hN;rw[hN]at hr;obtain⟨a,ha⟩:=nm' (cO p.p.x);have z1:=kp (fun(W:World)(hb:Bw' T W)=>by
  have:=Ij p.p ps B W (H.a.1.below hb H.B) (aB H.B hb.size) hn hf hx;rw[ha]at this;exact this)
 have HR:=kp (show (a&&eP (iO p.rows 0) (p.rows.drop 0))=R by rw[←hR,←ha]; rfl);clear h o1 b0 U hB hN hR ha hn hf hx;go_enter func86,ntmps86;go_wp2_with fail
 go_loopw [3] (fun i wr=>∃k:Nat,k≤n∧i=.i k∧0≤iO p.rows k∧(a&&eP (iO p.rows k) (p.rows.drop k))=R∧Bw' T wr) (fun i _=>n-(intOf i).toNat)
 case atStart=>exact⟨0,by omega,rfl,iQ 0,HR.o,aL _ _⟩
 case round=>
  obtain⟨k,hk,rfl,j1,m1,X⟩:=hrel;have r:=kp X;have s:=kp m1;have e0:=kp j1;have p1:=H.a.2.below X H.B;have j0:=z0.o.below X z0.o.lt;have l:=j0.cell 8;rw[StV.c8,b1.o,HN.o]at l;have g:=kp j0;clear X m1 j1 j0
  by_cases e2:k<n
  .have g3:(k:Int)<(n:Int):=by omega
   have M:k<p.rows.length:=by have:=HN.o; omega
   obtain⟨A6,c6,p0,m0,-,-⟩:=p1;rw[b1.o]at p0;obtain⟨rfl,-,rfl⟩:=Value.slice.inj p0;obtain⟨b,q1,rfl,-,J,-⟩:=bV (P:=prog) 4 fJ (by omega) m0 k M;have q0:p.rows[k]? =some (p.rows[k]'M):=eK M;have N:∀f,k=f+1→∃y D A',A'=some (⟨y,D,none⟩:Addr)∧A'=some (⟨b,q1,none⟩:Addr)∧wr.cell? ⟨y,D+f*4,none⟩=some (.i (iO p.rows k)):=by
    intro f he;have L:f<p.rows.length:=by omega
    obtain⟨y,D,V,-,d2,-⟩:=bV (P:=prog) 4 fJ (by omega) m0 f L;refine⟨y,D,_,rfl,V.symm,?_⟩;have:=d2 0 _ rfl;rw[cF]at this;rw[this,he,rX (eK L)]
   generalize p.rows[k]'M=x at *;have q:=J 0 _ rfl;have E:=J 1 _ rfl;have F:=J 2 _ rfl;have G:=J 3 _ rfl;simp only[cF]at q;have q:=aP q;have E:=aP E;have F:=aP F;have G:=aP G;have l:=aP l;obtain⟨m,C⟩:=nm' (iO p.rows k);rw[C]at e0 s N;have o0:=Xi q0 (by rw[C]; exact e0.o);rw[C]at o0;have I:=kp o0;have S:=kp q0;obtain⟨mr,a0⟩:=nm' (qD x);rw[a0]at I;have O:=kp (fun W=>by have:=Xk x W; rw[a0]at this; exact this);have Q:=kp (show (qD x&&decide (m<x.c))=true→0≤x.c by intro h; simp at h; have:=e0.o; omega);have a1:=kp (show qD x=true→1≤x.c by intro h; unfold qD aF at h; simp only[bI,bP]at h; exact h.1.1);rw[a0]at Q a1;clear p0 m0 J M q0 o0 a0
   cases mr
   .obtain rfl:R=false:=by rw[←s.o,I.o]; simp
    clear N;go_wp2_with fail;refine bJ (by kernel_rfl) (by kernel_rfl) ?_
    repeat (go_big_quiet_step ((go_at_call 132; refine bU (O.o _))))
    refine bH ?_;rintro W5 ⟨⟨_,d⟩,rfl⟩;have j:=kp (r.o.on d);clear d q E F G l;go_wp2_with fail;go_ret;exact⟨rfl,d0.o.on j.o⟩
   .by_cases Y:k=0
    .have l1:m=0:=by rw[←C,Y]; rfl
     have g5:decide (0<k)=false:=by simp; omega
     have HZ:=k'2 Y l1;clear N C Y l1;go_wp2_with fail;refine bJ (by kernel_rfl) (by kernel_rfl) ?_
     repeat (go_big_quiet_step ((go_at_call 132; refine bU (O.o _))))
     refine bH ?_;rintro W5 ⟨⟨_,d⟩,rfl⟩;have j:=kp (r.o.on d);clear d q E F G l;go_wp2_with fail;go_roundw
     case rel=>
      have K:decide (m<x.c)=true:=by
       have z:=Q.o;have h2:=a1.o rfl;have:=HZ.B;simp; omega
      refine⟨k+1,by omega,by go_num,?_,?_,j.o⟩
      .rw[rX S.o]; exact Q.o (by rw[K]; rfl)
      .rw[rX S.o]; have z:=s.o; rw[I.o,K]at z; exact z
     case measure=>simp[intOf]; omega
    .obtain⟨f,L⟩:∃f,k=f+1:=⟨k-1,by omega⟩
     obtain⟨y,D,A',V,g0,y0⟩:=N f L;rw[V]at g0;obtain⟨rfl,rfl⟩:y=b∧D=q1:=by cases g0; exact⟨rfl,rfl⟩
     have y0:=aP y0;have g5:decide (0<k)=true:=by simp; omega
     have gk:(k:Int)-1=(f:Int):=by omega
     have g6:(f:Int)<(n:Int):=by omega
     clear N C Y V g0 L
     by_cases Z:m<x.c
     .have g7:decide (x.c≤m)=false:=by simp; omega
      have b2:=kp Z;clear Z;go_wp2_with fail;refine bJ (by kernel_rfl) (by kernel_rfl) ?_
      repeat (go_big_quiet_step ((go_at_call 132; refine bU (O.o _))))
      refine bH ?_;rintro W5 ⟨⟨_,d⟩,rfl⟩;have j:=kp (r.o.on d);clear d q E F G l y0 gk;go_wp2_with fail;go_roundw
      case rel=>
       have K:decide (m<x.c)=true:=by simp[b2.o]
       refine⟨k+1,by omega,by go_num,?_,?_,j.o⟩
       .rw[rX S.o]; exact Q.o (by rw[K]; rfl)
       .rw[rX S.o]; have z:=s.o; rw[I.o,K]at z; exact z
      case measure=>simp[intOf]; omega
     .have g7:decide (x.c≤m)=true:=by simp; omega
      obtain rfl:R=false:=by rw[←s.o,I.o,aX Z]; simp
      clear Z;go_wp2_with fail;refine bJ (by kernel_rfl) (by kernel_rfl) ?_
      repeat (go_big_quiet_step ((go_at_call 132; refine bU (O.o _))))
      refine bH ?_;rintro W5 ⟨⟨_,d⟩,rfl⟩;have j:=kp (r.o.on d);clear d q E F G l y0 gk;go_wp2_with fail;go_ret;exact⟨rfl,d0.o.on j.o⟩
  .obtain rfl:k=n:=by omega
   obtain rfl:a=R:=by
    have:=s.o;rw[Lr _ _ (by have:=HN.o; omega)]at this;simpa using this
   clear p1;have c0:=g.o.cell 0;have c1:=g.o.cell 1;have c2:=g.o.cell 2;have c3:=g.o.cell 3;have c4:=g.o.cell 4;have c5:=g.o.cell 5;have c6:=g.o.cell 6;have c7:=g.o.cell 7;simp only[StV.cells,HpV.cells,aW,aT,aG,aK]at c0 c1 c2 c3 c4 c5 c6 c7;have l0:=z1.o wr r.o;rw[show p.p.cells.toArray=#[.i p.p.x.order,p.p.ov,.i p.p.x.next,.i p.p.x.t0,.i p.p.x.t1,.i p.p.x.t2,.i p.p.x.t3,p.p.fv] from rfl]at l0;have a2:=kp l0;clear l0;go_wp2_with fail;refine mb' (a2.o) fun w6 g1=>?_;have y1:=kp (r.o.on g1);clear g1 c0 c1 c2 c3 c4 c5 c6 c7;go_wp2_with fail;go_ret;exact⟨rfl,d0.o.on y1.o⟩
end
end Go.Proofs.YtdoopoapbffpbaaGreat
