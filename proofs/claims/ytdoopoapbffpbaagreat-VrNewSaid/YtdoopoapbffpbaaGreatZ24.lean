import Derived.Test.YtdoopoapbffpbaaGreatZ09
import Derived.Test.YtdoopoapbffpbaaGreatZ16
namespace Go.Proofs.YtdoopoapbffpbaaGreat
open Go.RowKit Go.Proofs.Tryz
set_option maxRecDepth 100000
set_option maxHeartbeats 12800000
set_option linter.unusedVariables false
set_option linter.unusedSimpArgs false
section
theorem rQ{l r:List UInt8}{n:Int}(h:bF l=some (n,r)):∃k:Nat,n=k∧k≤2147483647:=by
 unfold bF at h
 by_cases a:(num l).2.2=0
 .rw[aE a]at h;obtain⟨u,b,e,-⟩:=(Gi l a).2.2;refine⟨u,?_,b⟩;rw[←e]
  cases h;rfl
 .rw[aC a]at h; cases h
theorem Ow.blk_set{α:Type}{enc:α→List Value}{w:World}{base k b:Nat}{t a:TypeId}{v:Value}{l:List α}{c:List Value}(h:Ow w base t k v enc l)(d:Blk w b a c)(g:t≠a)(j:Nat)(u:Value):Ow (w.setCell ⟨b,j,none⟩ u) base t k v enc l:=
 h.chg ((Chg.refl (fun i=>i=b) w).setCell (.inr rfl) j u) fun _ f e=>h.ne_blk d g (e▸f)
theorem Ow.row_set{α:Type}{enc:α→List Value}{w:World}{base k b:Nat}{t a:TypeId}{v:Value}{l:List α}{c:List Value}(h:Ow w base t k v enc l)(d:Blk w b a c)(g:t≠a)(xs:List Value):Ow (w.setRow b xs.toArray) base t k v enc l:=
 h.chg ((Chg.refl (fun i=>i=b) w).setRow (.inr rfl) _) fun _ f e=>h.ne_blk d g (e▸f)
theorem tX(a b c:Int){u v:Value}(e:u.oneCell'=true)(f:v.oneCell'=true):∀x∈[Value.i a,.i b,.i c,u,v],x.oneCell'=true:=by
 intro x d;simp only[bA,dW,or_false]at d;rcases d with rfl|rfl|rfl|rfl|rfl
 .rfl
 .rfl
 .rfl
 .exact e
 .exact f
attribute [-go_sem] loadCellsFrom storeCells
attribute [local go_sem] bC
def ObR(w:World)(gi gr:Nat)(o:Option (Ob×List UInt8))(e:Ending)(w':World):Prop:=
 Chg (fun i=>i=gr) w w'∧match o with
  |some (x,r)=>∃p:ObV,e=.returned (.agg p.cells.toArray)∧p.x=x∧Ow w' w.heap.size 3 1 p.wv i1 x.ws∧Ow w' w.heap.size 3 1 p.lv i1 x.ls∧Apt p.wv p.lv∧cK w' gi gr r
  |none=>e=.panicked iD
theorem ObR.none{w b:World}{c a:Nat}{o:Option (Ob×List UInt8)}(e:o=none)(d:Chg (fun i=>i=a) w b):ObR w c a o (.panicked iD) b:=by
 subst e;exact⟨d,rfl⟩
theorem ObR.some{w a:World}{e d:Nat}{o:Option (Ob×List UInt8)}{x:Ob}{r:List UInt8}(c b:Value)(l:o=some (x,r))(k:Chg (fun i=>i=d) w a)(f:Ow a w.heap.size 3 1 c i1 x.ws)(g:Ow a w.heap.size 3 1 b i1 x.ls)(h:Apt c b)(j:cK a e d r):
  ObR w e d o (.returned (.agg (ObV.cells ⟨x,c,b⟩).toArray)) a:=by
 subst l;exact⟨k,⟨x,c,b⟩,rfl,rfl,f,g,h,j⟩
theorem Wq{w:World}{M Y:Nat}{l:List UInt8}(h:cK w M Y l):Calls prog 167 #[.pointer (some ⟨M,0,none⟩)] w (ObR w M Y (obP l)):=by
 have a2:∀(fn:Fn)(first cap:Array Value)(w:World),(Instr.makeFunc fn first cap).run prog w=.ok (.func fn first cap) w:=fun _ _ _ _=>rfl;have U:=kp (Rs.new h 90 z'5);have HT:=kp rO;have HF:=kp rP;have o0:=kp Cp;have m0:=kp (fun(n:Nat)(s:Int)(hn:(n:Int)≤s)(hm:s≤65536)(W:World)(l:List UInt8)(h:cK W M Y l)=>Dp.1 n s hn hm 74 bF h (fun _ _=>rfl) (fun W l h=>Wj h));have l0:=kp (fun(n:Nat)(s:Int)(hn:(n:Int)≤s)(hm:s≤65536)(W:World)(l:List UInt8)(h:cK W M Y l)=>Dp.1 n s hn hm 124 eY h (fun _ _=>rfl) (fun W l h=>Wl h));go_enter func167,ntmps167
 cases N:bF l with
 |none=>
  go_wp2_with fail;refine mb' (lL U.o.inn N) fun E c=>?_;exact⟨rfl,ObR.none (by simp[obP,aZ,N]) (U.o.end_ c)⟩
 |some p1=>
  obtain⟨p,r1⟩:=p1;have j:=kp N;go_wp2_with fail;refine (iN U.o.inn j.o).mono ?_;rintro e w1 ⟨rfl,d1,q0⟩;have Z:=kp (U.o.call d1 q0);have z1:=Z.o.blk.cell 0;have y1:=Z.o.blk.frozen 0;simp only[aG]at z1;have K:=kp (Z.o.put 0 (.i p));simp only[aH]at K
  cases D:bF r1 with
  |none=>
   go_wp2_with fail;refine mb' (lL K.o.inn D) fun E c=>?_;exact⟨rfl,ObR.none (by simp[obP,aZ,j.o,D]) (K.o.end_ c)⟩
  |some p2=>
   obtain⟨m,r2⟩:=p2;have q:=kp D;go_wp2_with fail;refine (iN K.o.inn q.o).mono ?_;rintro e w2 ⟨rfl,e1,y0⟩;have J2:=kp (K.o.call e1 y0);have z2:=J2.o.blk.cell 1;have y2:=J2.o.blk.frozen 1;simp only[aG,aK]at z2;have L:=kp (J2.o.put 1 (.i m));simp only[aH,aI]at L
   cases h3:bF r2 with
   |none=>
    go_wp2_with fail;refine mb' (lL L.o.inn h3) fun E c=>?_;exact⟨rfl,ObR.none (by simp[obP,aZ,j.o,q.o,h3]) (L.o.end_ c)⟩
   |some p3=>
    obtain⟨nw,r3⟩:=p3;obtain⟨Q,rfl,q1⟩:=rQ h3;have y:=k'2 h3 q1;go_wp2_with fail;refine (iN L.o.inn y.a).mono ?_;rintro e w3 ⟨rfl,g1,z0⟩;have V:=kp (L.o.call g1 z0)
    cases h4:bF r3 with
    |none=>
     go_wp2_with fail;refine mb' (lL V.o.inn h4) fun E c=>?_;exact⟨rfl,ObR.none (by simp[obP,aZ,j.o,q.o,y.a,h4]) (V.o.end_ c)⟩
    |some p4=>
     obtain⟨nl,r4⟩:=p4;obtain⟨O,rfl,o1⟩:=rQ h4;have I:=k'2 h4 o1;go_wp2_with fail;refine (iN V.o.inn I.a).mono ?_;rintro e w4 ⟨rfl,j1,a1⟩;have K4:=kp (V.o.call j1 a1);obtain⟨d,g0⟩:=nm' (bX Q O);have H:=kp g0;go_wp2_with fail;refine mb' (o0.o Q O _) fun w' b0=>?_;obtain rfl:=b0.symm;rw[g0];have z5:=K4.o.blk.cell 2;have y5:=K4.o.blk.frozen 2;simp only[aG,aK]at z5;have r:=kp (K4.o.put 2 (.i d));simp only[aH,aI]at r;have x5:=r.o.blk.cell 2;simp only[aG,aK]at x5
     by_cases hd:d<0
     .have g5:decide (0≤d)=false:=by simp; omega
      have F:=kp hd;go_wp2_with fail;refine (HF.o _).mono ?_;rintro e E ⟨rfl,rfl⟩;exact⟨rfl,ObR.none (by simp[obP,aZ,j.o,q.o,y.a,I.a,H.o,F.o]) r.o.chg⟩
     have g5:decide (0≤d)=true:=by simp; omega
     have HR:=kp (oP (n:=Q) (k:=O) (by rw[H.o]; exact hd));have F:=kp hd;go_wp2_with fail;refine mb' (HT.o _) fun w' b0=>?_;obtain rfl:=b0.symm;have R:=kp (l0.o Q 32 (by have:=HR.o; omega) (by omega) _ _ r.o.inn)
     cases h6:aZ eY Q r4 with
     |none=>
      rw[h6]at R;go_wp2_with fail;refine (R.o).mono ?_;rintro e E ⟨c,rfl⟩;exact⟨rfl,ObR.none (by simp[obP,aZ,j.o,q.o,y.a,I.a,H.o,F.o,h6]) (r.o.end_ c)⟩
     |some p6=>
      obtain⟨ws,r6⟩:=p6;rw[h6]at R;have d0:=kp h6;go_wp2_with fail;refine (R.o).mono ?_;rintro e w6 ⟨b1,wv,rfl,j0,l1⟩;obtain⟨g,c6,rfl,-⟩:=eD j0;have T:=kp (r.o.call l1 b1);have O6:=kp (j0.mono (by have:=r.o.chg.size; exact this));have z6:=T.o.blk.cell 3;have y6:=T.o.blk.frozen 3;simp only[aG,aK]at z6;have z:=kp (T.o.put 3 (.slice g ws.length c6));simp only[aH,aI]at z;have S:=kp (m0.o O 16 (by have:=HR.o; omega) (by omega) _ _ z.o.inn)
      cases h7:aZ bF O r6 with
      |none=>
       rw[h7]at S;go_wp2_with fail;refine (S.o).mono ?_;rintro e E ⟨c,rfl⟩;exact⟨rfl,ObR.none (by simp[obP,aZ,j.o,q.o,y.a,I.a,H.o,F.o,d0.o,h7]) (z.o.end_ c)⟩
      |some p7=>
       obtain⟨ls,r7⟩:=p7;rw[h7]at S;have p0:=kp h7;go_wp2_with fail;refine (S.o).mono ?_;rintro e w7 ⟨e0,lv,rfl,a0,m1⟩;obtain⟨f,c7,rfl,-⟩:=eD a0;have O7:=k'3 (a0.mono (by have:=z.o.chg.size; exact this)) (((O6.o.blk_set T.o.blk (by decide) 3 (.slice g ws.length c6)).chg e0 fun i hi e=>by have N:=O6.o.lt hi; have D:=z.o.ltr; omega)) (show Apt (.slice g ws.length c6) (.slice f ls.length c7) from fun i hi hj=>by have N:=O6.o.lt hi; have D:=a0.lt hj; simp at D; omega);have J:=kp (z.o.call m1 e0);have z7:=J.o.blk.cell 4;have y7:=J.o.blk.frozen 4;simp only[aG,aK]at z7;have A:=kp (J.o.put 4 (.slice f ls.length c7));simp only[aH,aI]at A;have X:=k'2 (O7.a.blk_set J.o.blk (by decide) 4 (.slice f ls.length c7)) (O7.b.blk_set J.o.blk (by decide) 4 (.slice f ls.length c7));have hL:=A.o.blk.load (P:=prog) (k:=5) rfl;have hS:=A.o.res.store (P:=prog) (cs':=[.i p,.i m,.i d,.slice g ws.length c6,.slice f ls.length c7]) rfl (tX p m d (Ow.one X.B) (Ow.one X.a));have G:=k'3 (A.o.fin [.i p,.i m,.i d,.slice g ws.length c6,.slice f ls.length c7]) (X.a.row_set A.o.res (by decide) [.i p,.i m,.i d,.slice g ws.length c6,.slice f ls.length c7]) (X.B.row_set A.o.res (by decide) [.i p,.i m,.i d,.slice g ws.length c6,.slice f ls.length c7]);go_wp2_with fail;have hR:=G.a.1.load (P:=prog) (k:=5) rfl;exact aU (v:=.agg (ObV.cells ⟨⟨p,⟨m,d⟩,ws,ls⟩,(.slice g ws.length c6),(.slice f ls.length c7)⟩).toArray) (by simp[results,results167,go_sem,hR,ObV.cells]) rfl (ObR.some (x:=⟨p,⟨m,d⟩,ws,ls⟩) (.slice g ws.length c6) (.slice f ls.length c7) (by simp[obP,aZ,j.o,q.o,y.a,I.a,H.o,F.o,d0.o,p0.o]) G.a.2.2 G.C G.b O7.C G.a.2.1)
end
section
attribute [-go_sem] loadCellsFrom storeCells
attribute [local go_sem] bC
def rV(w:World)(gi gr:Nat)(o:Option (List Ob×List UInt8))(e:Ending)(w':World):Prop:=
 Chg (fun i=>i=gr) w w'∧match o with
  |some (xs,r)=>∃v ps,e=.returned v∧Ow w' w.heap.size 90 5 v ObV.cells ps∧Rws w' w.heap.size ps∧ps.map (·.x)=xs∧cK w' gi gr r
  |none=>e=.panicked iD
section
variable {w w':World}{gi gr:Nat}{ps:List ObV}{r:List UInt8}{v:Value}{o:Option (List Ob×List UInt8)}
theorem rV.some(c:o=some (ps.map (·.x),r))(a:Chg (fun i=>i=gr) w w')(d:Ow w' w.heap.size 90 5 v ObV.cells ps)(e:Rws w' w.heap.size ps)(b:cK w' gi gr r):rV w gi gr o (.returned v) w':=by
 subst c;exact⟨a,v,ps,rfl,d,e,rfl,b⟩
theorem rV.none(b:o=none)(a:Chg (fun i=>i=gr) w w'):rV w gi gr o (.panicked iD) w':=by
 subst b;exact⟨a,rfl⟩
end
theorem Wy(n a:Int)(c:a<n)(f:Value)(w:World):Calls prog 166 #[.i n,.i a,f] w fun e w'=>e=.panicked iD∧w'=w:=by
 have g:decide (n≤a)=false:=by simp; omega
 have b:=kp rP;go_enter func166,ntmps166;go_wp2_with fail;refine (b.o _).mono ?_;rintro e d ⟨rfl,rfl⟩;exact⟨rfl,rfl,rfl⟩
theorem Wz(n:Nat)(U:Int)(hn:(n:Int)≤U)(hm:U≤65536){w:World}{gi gr:Nat}{l:List UInt8}(h:cK w gi gr l):
  Calls prog 166 #[.i n,.i U,.func (.func 167) #[.pointer (some ⟨gi,0,none⟩)] #[]] w (rV w gi gr (aZ obP n l)):=by
 have g:decide ((n:Int)≤U)=true:=by simpa using hn
 have HG:=kp rO;have HO:=kp (fun(W:World)(l:List UInt8)(h:cK W gi gr l)=>Wq h);have HI:=kp h;have J:=k'2 hn hm;have L:=k'2 h.blk.lt h.rd.lt;obtain⟨R,hR⟩:=nm' (aZ obP n l);rw[hR];have Z:=kp hR;go_enter func166,ntmps166;go_wp2_with fail;refine mb' (HG.o _) fun w' m1=>?_;obtain rfl:=m1.symm;go_wp2_with fail
 go_loopw [7,13] (fun v i wr=>∃k:Nat,k≤n∧i=.i k∧∃ps r,aZ obP k l=some (ps.map (·.x),r)∧ps.length=k∧Ow wr w.heap.size 90 5 v ObV.cells ps∧Rws wr w.heap.size ps∧cK wr gi gr r∧Chg (fun i=>i=gr) w wr) (fun _ i _=>n-(intOf i).toNat)
 case atStart=>exact⟨0,by omega,rfl,[],l,rfl,rfl,Ow.nil _ _ _ _ _,⟨fun _ h=>(nomatch h),List.Pairwise.nil⟩,HI.o,Chg.refl _ _⟩
 case round=>
  obtain⟨k,hk,rfl,ps,r,y0,o1,e1,j1,q0,o0⟩:=hrel;have f:=k'6 y0 o1 e1 j1 q0 o0
  by_cases p1:k<n
  .have g3:(k:Int)<(n:Int):=by omega
   have q1:(n:Int)≤65536:=by have M:=J.a; have N:=J.B; omega
   have O:=kp (HO.o wr r f.e)
   cases hx:obP r with
   |none=>
    rw[hx]at O;have V:=kp hx;go_wp2_with fail;refine O.o.mono ?_;rintro e H ⟨K,rfl⟩;go_wp2_with fail;have z0:aZ obP n l=none:=Do (i:=k+1) (by rw[qA,f.a]; simp only[]; rw[V.o]) (by omega);exact⟨rfl,rV.none (by rw[←Z.o,z0]) (f.F.trans K fun _ _ h=>h)⟩
   |some p=>
    obtain⟨x,r'⟩:=p;rw[hx]at O;have V:=kp hx;go_wp2_with fail;refine O.o.mono ?_;rintro e H ⟨K,⟨⟨s,⟨q,y⟩,ws,ls⟩,C,A⟩,rfl,rfl,S,T,m0,p0⟩;simp only[ObV.cells];have b0:=aB f.F.size K.size;have b1:∀z∈ps,∀i,i=gr→z.wv.ownBlock≠some i∧z.lv.ownBlock≠some i:=fun z G i j=>⟨fun e=>by have M:=((f.d.row z G).1).lt e; have N:=L.B; omega,fun e=>by have M:=((f.d.row z G).2).lt e; have N:=L.B; omega⟩
    have l1:Rws H w.heap.size (ps++[⟨⟨s,⟨q,y⟩,ws,ls⟩,C,A⟩]):=(f.d.chg K b1).snoc (S.mono f.F.size) (T.mono f.F.size) m0 fun z G=>by
     have a1:=fun i j=>((f.d.row z G).1).lt (i:=i) j;have a2:=fun i j=>((f.d.row z G).2).lt (i:=i) j;refine⟨fun i j I=>?_,fun i j I=>?_,fun i j I=>?_,fun i j I=>?_⟩
     .have:=a1 i j; have:=S.lt I; omega
     .have:=a1 i j; have:=T.lt I; omega
     .have:=a2 i j; have:=S.lt I; omega
     .have:=a2 i j; have:=T.lt I; omega
    have g0:=kp ((f.c).chg K fun i j e=>by have M:=(f.c).lt j; have N:=L.B; omega);have d1:=tX s q y S.one T.one;have P:=k'4 K p0 b0 d1;have d0:Sl (H.alloc (.cells #[.i s,.i q,.i y,C,A] 90)) (H.heap.size+1) (.slice (some ⟨H.heap.size,0,none⟩) 1 1) ObV.cells [⟨⟨s,⟨q,y⟩,ws,ls⟩,C,A⟩]:=eQ (enc:=ObV.cells) H 90 ⟨⟨s,⟨q,y⟩,ws,ls⟩,C,A⟩;have a0:=g0.o.alloc (.cells #[.i s,.i q,.i y,C,A] 90);have Q:=ba' H (.cells #[.i s,.i q,.i y,C,A] 90);obtain⟨W2,l0⟩:=nm' (H.alloc (.cells #[.i s,.i q,.i y,C,A] 90));rw[l0]at d0 a0 Q;have m:=k'5 d0 a0 Q (l1.below Q) (show w.heap.size≤W2.heap.size from aB b0 Q.size);go_wp2_with (at_builtin; refine eU (enc:=ObV.cells) W2 rfl (.tmp 15) (.tmp 18) 25 rfl w.heap.size 90 pS nE rfl (by omega) cM m.b rfl m.a rfl (fun a ha=>by rw[bQ.1 ha]; exact P.D) ?_ ?_ m.E ?_)
    .have M:=f.b; have N:=J.a; have h3:=J.B; unfold maxLen; (try simp); omega
    .have M:=f.b; have N:=J.a; have h3:=J.B; (try simp); omega
    intro v3 w3 g1 X;have Y:=kp ((m.c.mono P.c).trans (m.b.grew X m.E));have j0:=kp (show Rws w3 w.heap.size (ps++[⟨⟨s,⟨q,y⟩,ws,ls⟩,C,A⟩]) from⟨fun z G=>⟨m.b.other ((m.d.row z G).1) (by decide) X,m.b.other ((m.d.row z G).2) (by decide) X⟩,m.d.sep⟩);have e0:=kp g1;go_wp2_with fail;go_roundw
    case rel=>
     refine⟨k+1,by omega,by go_num,ps++[⟨⟨s,⟨q,y⟩,ws,ls⟩,C,A⟩],r',?_,by simp[f.b],e0.o,j0.o,?_,?_⟩
     .rw[qA,f.a];simp only[];rw[V.o];simp
     .exact P.b.at_ Y.o L.a L.B
     .exact (f.F.trans P.a fun _ _ h=>h).thenB Y.o
    case measure=>simp[intOf]; omega
  .obtain rfl:k=n:=by omega
   go_wp2_with fail;go_ret;exact rV.some (by rw[←Z.o,f.a]) f.F f.c f.d f.e
end
section
attribute [-go_sem] loadCellsFrom storeCells
attribute [local go_sem] bC
theorem vS(l:List UInt8)(b:Bool):∃k:Nat,(cQ l b).1=k∧k≤2147483647:=by
 unfold cQ
 cases h:bF l with
 |none=>exact⟨0,rfl,by omega⟩
 |some p=>
  obtain⟨n,r⟩:=p;exact rQ h
theorem vT{w w':World}{a:Option Nat}(h:w.grownBy w' a):Chg (fun i=>a=some i) w w':=⟨h.os,h.tape,h.output,h.size,fun k b c=>h.block k b fun e=>c (by cases a<;>simp_all)⟩
section
variable {w w' W W':World}{g B:Nat}{l:List UInt8}{b:Bool}
theorem RIn.at_(h:RIn w g l b)(a:Below B w w')(d:g<B):RIn w' g l b:=by
 obtain⟨A,n,c,e,f,i⟩:=h;exact⟨A,n,c,e.below a d,f.below a (dY d),i⟩
theorem RIn.facts(h:RIn w g l b):w.cell? ⟨g,1,none⟩=some (.bool b)∧w.frozen? ⟨g,1,none⟩=false:=by
 obtain⟨A,n,c,a,-⟩:=h;exact⟨a.cell 1,a.frozen 1⟩
theorem RIn.bad(h:RIn w g l b):RIn (w.setCell ⟨g,1,none⟩ (.bool true)) g l true:=by
 obtain⟨A,n,c,a,d,e⟩:=h;exact⟨A,n,c,a.setCell 1 _,d.setCell (aD _) _,e⟩
theorem lN(h:RIn w g l b):Calls prog 84 #[.pointer (some ⟨g,0,none⟩)] w fun e w'=>e=.returned (.i (cQ l b).1)∧RIn w' g (cQ l b).2.1 (cQ l b).2.2∧Chg (fun i=>i=g) w w':=by
 unfold cQ
 cases hp:bF l with
 |none=>exact Xt h hp
 |some p=>obtain⟨n,r⟩:=p; exact Xs h hp
theorem Lv(h:RIn w g l b):Calls prog 85 #[.pointer (some ⟨g,0,none⟩)] w fun e w'=>e=.returned (.i (gA l b).1)∧RIn w' g (gA l b).2.1 (gA l b).2.2∧Chg (fun i=>i=g) w w':=by
 unfold gA
 cases hp:eY l with
 |none=>exact Xv h hp
 |some p=>obtain⟨n,r⟩:=p; exact Xu h hp
end
structure Rt(w:World)(g:Nat)(t:TypeId)(l:List UInt8)(b:Bool)(zs cs:List Value)(W:World):Prop where
 inn:RIn W g l b
 res:Blk W w.heap.size t zs
 blk:Blk W (w.heap.size+1) t cs
 chg:Chg (fun i=>i=g) w W
 lt:g<w.heap.size
section
variable {w W W':World}{g:Nat}{t:TypeId}{l l':List UInt8}{b b':Bool}{zs cs:List Value}
theorem Rt.new(h:RIn w g l b)(t:TypeId)(cs:List Value):Rt w g t l b cs cs (((w.alloc (.cells cs.toArray t)).alloc (.cells cs.toArray t)).setRow (w.heap.size+1) cs.toArray):=
 have e:=ba' w (.cells cs.toArray t);have a:=(aL _ (w.alloc (.cells cs.toArray t))).alloc (aD _) (.cells cs.toArray t);have c:=Blk.new (w.alloc (.cells cs.toArray t)) t cs;have d:Blk ((w.alloc (.cells cs.toArray t)).alloc (.cells cs.toArray t)) (w.heap.size+1) t cs:=by simpa using c
 ⟨(((h.below e).below a).at_ (cL (aL (w.heap.size+1) _) (aD _) _) (uF h.lt)),((Blk.new w t cs).below a (Blk.new w t cs).lt).other (by omega) _,d.set cs,(((Chg.refl _ w).alloc _).alloc _).setRow (.inl (by omega)) _,h.lt⟩
theorem Rt.call(h:Rt w g t l b zs cs W)(c:RIn W' g l' b')(a:Chg (fun i=>i=g) W W'):Rt w g t l' b' zs cs W':=
 ⟨c,h.res.chg a (by have:=h.lt; omega),h.blk.chg a (by have:=h.lt; omega),h.chg.trans a fun _ _ h=>h,h.lt⟩
theorem Rt.put(h:Rt w g t l b zs cs W)(j:Nat)(u:Value):Rt w g t l b zs (cs.set j u) (W.setCell ⟨w.heap.size+1,j,none⟩ u):=
 ⟨h.inn.at_ ((aL (w.heap.size+1) W).setCell (aD _) u) (uF h.lt),h.res.otherCell (by omega) j u,h.blk.setCell j u,h.chg.setCell (.inl (by omega)) j u,h.lt⟩
theorem Rt.grow(h:Rt w g t l b zs cs W)(a:Bw' W W'):Rt w g t l b zs cs W':=
 ⟨h.inn.below a,h.res.below a h.res.lt,h.blk.below a h.blk.lt,h.chg.then a,h.lt⟩
theorem Rt.own{α:Type}{enc:α→List Value}{k:Nat}{f:TypeId}{v:Value}{xs:List α}(h:Rt w g t l b zs cs W)(c:Ow W w.heap.size f k v enc xs)(e:f≠t)(j:W.grownBy W' v.ownBlock):Rt w g t l b zs cs W':=by
 have a:=vT j;have d:=a.below (B:=w.heap.size) (fun i m=>(c.lt m).1) h.chg.size;exact⟨h.inn.at_ d h.lt,h.res.chg a (c.ne_blk h.res e),h.blk.chg a (c.ne_blk h.blk e),h.chg.thenB d,h.lt⟩
theorem Rt.bad(h:Rt w g t l b zs cs W):Rt w g t l true zs cs (W.setCell ⟨g,1,none⟩ (.bool true)):=
 ⟨h.inn.bad,h.res.otherCell (by have:=h.lt; omega) _ _,h.blk.otherCell (by have:=h.lt; omega) _ _,h.chg.setCell (.inr rfl) _ _,h.lt⟩
theorem Rt.fin(h:Rt w g t l b zs cs W)(xs:List Value):Blk (W.setRow w.heap.size xs.toArray) w.heap.size t xs∧RIn (W.setRow w.heap.size xs.toArray) g l b∧Chg (fun i=>i=g) w (W.setRow w.heap.size xs.toArray):=
 ⟨h.res.set xs,h.inn.at_ (cL (aL w.heap.size W) (aD _) _) h.lt,h.chg.setRow (.inl (aD _)) _⟩
end
def vU(w:World)(g:Nat)(q:Ob×List UInt8×Bool)(e:Ending)(w':World):Prop:=
 ∃p:ObV,e=.returned (.agg p.cells.toArray)∧p.x=q.1∧Ow w' w.heap.size 3 1 p.wv i1 q.1.ws∧Ow w' w.heap.size 3 1 p.lv i1 q.1.ls∧Apt p.wv p.lv∧RIn w' g q.2.1 q.2.2∧Chg (fun i=>i=g) w w'
theorem vU.of{w w':World}{g:Nat}{q:Ob×List UInt8×Bool}{x:Ob}{l:List UInt8}{b:Bool}(c a:Value)(k:q=(x,l,b))(d:Ow w' w.heap.size 3 1 c i1 x.ws)(e:Ow w' w.heap.size 3 1 a i1 x.ls)(f:Apt c a)(h:RIn w' g l b)(j:Chg (fun i=>i=g) w w'):
  vU w g q (.returned (.agg (ObV.cells ⟨x,c,a⟩).toArray)) w':=by
 subst k;exact⟨⟨x,c,a⟩,rfl,rfl,d,e,f,h,j⟩
theorem Xy{w:World}{g:Nat}{l:List UInt8}{b:Bool}(h:RIn w g l b):Calls prog 127 #[.pointer (some ⟨g,0,none⟩)] w (vU w g (jO l b)):=by
 obtain⟨⟨r,l1,b1⟩,F⟩:∃q,cQ l b=q:=⟨_,rfl⟩
 obtain⟨⟨p,l2,b2⟩,G⟩:∃q,cQ l1 b1=q:=⟨_,rfl⟩
 obtain⟨⟨nw,l3,b3⟩,h3⟩:∃q,cQ l2 b2=q:=⟨_,rfl⟩
 obtain⟨⟨nl,E,aS⟩,h4⟩:∃q,cQ l3 b3=q:=⟨_,rfl⟩
 obtain⟨s,o1,p2⟩:=vS l2 b2;obtain⟨K,m1,o2⟩:=vS l3 b3;rw[h3]at o1;rw[h4]at m1;simp only at o1 m1;subst o1;subst m1;obtain⟨m,p1⟩:=nm' (bX s K);obtain⟨R,X⟩:=nm' (jO l b);rw[X];have a2:=kp (show (if m<0 then ((⟨r,⟨p,m⟩,[],[]⟩:Ob),E,true) else (⟨r,⟨p,m⟩,(dC gA s E aS).1,(dC cQ K (dC gA s E aS).2.1 (dC gA s E aS).2.2).1⟩,(dC cQ K (dC gA s E aS).2.1 (dC gA s E aS).2.2).2))=R by
  rw[←X];unfold jO;simp only[F,G,h3,h4,p1,eR])
 have H1:=kp F;have H2:=kp G;have H3:=kp h3;have H4:=kp h4;have q1:=k'3 p1 p2 o2;have K0:=kp (Rt.new h 90 z'5);have e2:Blk ((w.alloc (.cells z'5a 90)).alloc (.cells z'5a 90)) (w.heap.size+1) 90 z'5:=by simpa using Blk.new (w.alloc (.cells z'5a 90)) 90 z'5
 have m3:=e2.store (P:=prog) (cs':=z'5) rfl (tX 0 0 0 rfl rfl);clear e2;have a3:=kp (fun a b=>vG a b);clear h F G h3 h4 p1 X p2 o2;go_enter func127,ntmps127;go_wp2_with fail;refine (lN K0.o.inn).mono ?_;rintro e w1 ⟨rfl,e1,g2⟩;rw[H1.o]at e1 ⊢;have J1:=kp (K0.o.call e1 g2);clear e1 g2;have z1:=J1.o.blk.cell 0;have y1:=J1.o.blk.frozen 0;simp only[aG]at z1;have K1:=kp (J1.o.put 0 (.i r));simp only[aH]at K1;go_wp2_with fail;refine (lN K1.o.inn).mono ?_;rintro e y ⟨rfl,J,H⟩;rw[H2.o]at J ⊢;have J2:=kp (K1.o.call J H);clear J H;have z2:=J2.o.blk.cell 1;have y2:=J2.o.blk.frozen 1;simp only[aG,aK]at z2;have K2:=kp (J2.o.put 1 (.i p));simp only[aH,aI]at K2;go_wp2_with fail;refine (lN K2.o.inn).mono ?_;rintro e w3 ⟨rfl,g1,j2⟩;rw[H3.o]at g1 ⊢;have K3:=kp (K2.o.call g1 j2);clear g1 j2;go_wp2_with fail;refine (lN K3.o.inn).mono ?_;rintro e w4 ⟨rfl,j1,m2⟩;rw[H4.o]at j1 ⊢;have K4:=kp (K3.o.call j1 m2);clear j1 m2;go_wp2_with fail;refine ms' (a3.o s K _) ?_;rw[q1.a];have z5:=K4.o.blk.cell 2;have y5:=K4.o.blk.frozen 2;simp only[aG,aK]at z5;have K5:=kp (K4.o.put 2 (.i m));simp only[aH,aI]at K5;have x5:=K5.o.blk.cell 2;simp only[aG,aK]at x5
 by_cases hd:m<0
 .have U:=a2.o;rw[aE hd]at U;obtain⟨f1,f2⟩:=K5.o.inn.facts;have K6:=kp K5.o.bad;have hL:=K6.o.blk.load (P:=prog) (k:=5) rfl;have hS:=K6.o.res.store (P:=prog) (cs':=[.i r,.i p,.i m,.slice none 0 0,.slice none 0 0]) rfl (tX r p m rfl rfl);have N:=kp (K6.o.fin [.i r,.i p,.i m,.slice none 0 0,.slice none 0 0]);have j0:=kp U;clear U;go_wp2_with fail;have X:=N.a.load (P:=prog) (k:=5) rfl;exact aU (v:=.agg (ObV.cells ⟨⟨r,⟨p,m⟩,[],[]⟩,.slice none 0 0,.slice none 0 0⟩).toArray) (by simp[results,results127,go_sem,X,ObV.cells]) rfl (vU.of (x:=⟨r,⟨p,m⟩,[],[]⟩) _ _ j0.o.symm (Ow.nil _ _ _ _ _) (Ow.nil _ _ _ _ _) (fun i A=>by cases A) N.b N.C)
 have d0:=kp (oP (n:=s) (k:=K) (by rw[q1.a]; exact hd));have U:=a2.o;rw[aC hd]at U;have j0:=kp U;clear U;go_wp2_with fail
 go_loopw [6] (fun i wr=>∃k:Nat,k≤s∧i=.i k∧∃I,Rt w g 90 (dC gA k E aS).2.1 (dC gA k E aS).2.2 z'5 [.i r,.i p,.i m,I,.slice none 0 0] wr∧Ow wr w.heap.size 3 1 I i1 (dC gA k E aS).1∧(dC gA k E aS).1.length=k) (fun i _=>s-(intOf i).toNat)
 case atStart=>exact⟨0,by omega,rfl,_,K5.o,Ow.nil _ _ _ _ _,rfl⟩
 case round=>
  obtain⟨k,hk,rfl,I,q0,o0,m0⟩:=hrel;have z:=k'3 q0 o0 m0;clear q0 o0 m0 z1 y1 z2 y2 z5 y5 x5
  by_cases q3:k<s
  .have g3:(k:Int)<(s:Int):=by omega
   have p3:(s:Int)≤32:=by have:=d0.o; omega
   have O:=kp (yV gA k E aS);generalize hq:dC gA k E aS=q at *;obtain⟨xs,lr,br⟩:=q;obtain⟨⟨x,j3,e3⟩,hx⟩:∃q,gA lr br=q:=⟨_,rfl⟩
   simp only[]at z O;have V:=kp hx;clear hx;go_wp2_with fail;refine (Lv z.a.inn).mono ?_;rintro e y ⟨rfl,J,H⟩;rw[V.o]at J ⊢;have M:=kp (z.a.call J H);have a1:=kp ((z.b).chg H fun i A e=>by have F:=(z.b).lt A; have G:=M.o.lt; omega);have HH:=kp M.o.chg.size;clear J H hq;have z6:=M.o.blk.cell 3;simp only[aG,aK]at z6;have a0:Sl (y.alloc (.cells #[.i x] 3)) (y.heap.size+1) (.slice (some ⟨y.heap.size,0,none⟩) 1 1) i1 [x]:=eQ (enc:=i1) y 3 x;have Y:=a1.o.alloc (.cells #[.i x] 3);have Q:=ba' y (.cells #[.i x] 3);obtain⟨W2,l0⟩:=nm' (y.alloc (.cells #[.i x] 3));rw[l0]at a0 Y Q;have f:=k'4 a0 Y Q (show w.heap.size≤W2.heap.size from aB (HH.o) Q.size);clear a0 Y Q;go_wp2_with (at_builtin; refine eU (enc:=i1) W2 rfl (.tmp 43) (.tmp 45) 33 rfl (w.heap.size) 3 mL lT rfl (by omega) cS f.b rfl f.a rfl (fun a _=>pJ a) ?_ ?_ f.D ?_)
   .have F:=z.C; have G:=d0.o; unfold maxLen; (try simp); omega
   .have F:=z.C; have G:=d0.o; (try simp); omega
   intro v3 w3 p0 Z;have q2:=kp ((f.c.mono (HH.o)).trans (f.b.grew Z f.D));have g0:=kp p0;have e0:=kp Z;clear p0 Z l0;obtain⟨A3,c3,y0,-⟩:=eD g0.o;rw[show (xs++[x]).length=xs.length+1 by simp]at y0;subst y0;have L:=kp ((M.o.grow f.c).own f.b (by decide) e0.o);have z7:=L.o.blk.cell 3;have y7:=L.o.blk.frozen 3;simp only[aG,aK]at z7;have K7:=kp (L.o.put 3 (.slice A3 (xs.length+1) c3));simp only[aH,aI]at K7;have z0:=kp (g0.o.blk_set L.o.blk (by decide) 3 (.slice A3 (xs.length+1) c3));go_wp2_with fail;go_roundw
   case rel=>exact⟨k+1,by omega,by go_num,_,by rw[O.o,V.o]; exact K7.o,by rw[O.o,V.o]; exact z0.o,by rw[O.o]; simp[z.C]⟩
   case measure=>simp[intOf]; omega
  .obtain rfl:k=s:=by omega
   go_wp2_with fail;generalize dC gA k E aS=q6 at *;obtain⟨ws,l6,W⟩:=q6;simp only[]at z j0;obtain⟨T,d1⟩:=nm' wr.heap.size;have b0:=k'3 (show w.heap.size≤T from d1▸z.a.chg.size) (fun i(A:I.ownBlock=some i)=>show i<T from d1▸(z.b.lt A).2) (show T≤wr.heap.size by omega);clear d1
   go_loopw [8] (fun i wr=>∃j:Nat,j≤K∧i=.i j∧∃S,Rt w g 90 (dC cQ j l6 W).2.1 (dC cQ j l6 W).2.2 z'5 [.i r,.i p,.i m,I,S] wr∧(Ow wr T 3 1 S i1 (dC cQ j l6 W).1∧Ow wr w.heap.size 3 1 I i1 ws∧T≤wr.heap.size)∧(dC cQ j l6 W).1.length=j) (fun i _=>K-(intOf i).toNat)
   case atStart=>exact⟨0,by omega,rfl,_,z.a,⟨Ow.nil _ _ _ _ _,z.b,b0.C⟩,rfl⟩
   case round=>
    obtain⟨j,hj,rfl,S,q0,o0,m0⟩:=hrel;have d:=k'3 q0 o0 m0;clear q0 o0 m0
    by_cases y3:j<K
    .have g4:(j:Int)<(K:Int):=by omega
     have o3:(K:Int)≤16:=by have:=d0.o; omega
     have O:=kp (yV cQ j l6 W);generalize hq:dC cQ j l6 W=q at *;obtain⟨xs,lr,br⟩:=q;obtain⟨⟨x,j3,e3⟩,hx⟩:∃q,cQ lr br=q:=⟨_,rfl⟩
     simp only[]at d O;have V:=kp hx;clear hx;go_wp2_with fail;refine (lN d.a.inn).mono ?_;rintro e y ⟨rfl,J,H⟩;rw[V.o]at J ⊢;have M:=kp (d.a.call J H);have a1:=kp ((d.b.1).chg H fun i A e=>by have F:=(d.b.1).lt A; have G:=M.o.lt; have h3:=b0.a; omega);have d3:=kp ((d.b.2.1).chg H fun i A e=>by have F:=(d.b.2.1).lt A; have G:=M.o.lt; omega);have HH:=kp (aB d.b.2.2 H.size);clear J H hq;have z6:=M.o.blk.cell 4;simp only[aG,aK]at z6;have a0:Sl (y.alloc (.cells #[.i x] 3)) (y.heap.size+1) (.slice (some ⟨y.heap.size,0,none⟩) 1 1) i1 [x]:=eQ (enc:=i1) y 3 x;have Y:=a1.o.alloc (.cells #[.i x] 3);have Q:=ba' y (.cells #[.i x] 3);obtain⟨W2,l0⟩:=nm' (y.alloc (.cells #[.i x] 3));rw[l0]at a0 Y Q;have f:=k'4 a0 Y Q (show T≤W2.heap.size from aB (HH.o) Q.size);clear a0 Y Q;go_wp2_with (at_builtin; refine eU (enc:=i1) W2 rfl (.tmp 56) (.tmp 58) 33 rfl (T) 3 mL lT rfl (by omega) cS f.b rfl f.a rfl (fun a _=>pJ a) ?_ ?_ f.D ?_)
     .have F:=d.C; have G:=d0.o; unfold maxLen; (try simp); omega
     .have F:=d.C; have G:=d0.o; (try simp); omega
     intro v3 w3 p0 Z;have q2:=kp ((f.c.mono (HH.o)).trans (f.b.grew Z f.D));have g0:=kp p0;have e0:=kp Z;clear p0 Z l0;obtain⟨A3,c3,y0,-⟩:=eD g0.o;rw[show (xs++[x]).length=xs.length+1 by simp]at y0;subst y0;have L:=kp ((M.o.grow f.c).own (f.b.mono b0.a) (by decide) e0.o);have d2:=k'2 ((d3.o.below f.c).chg (vT e0.o) fun i A e=>by have F:=b0.b i A; have G:=f.b.lt e; omega) (show T≤w3.heap.size from aB f.D e0.o.size);have z7:=L.o.blk.cell 4;have y7:=L.o.blk.frozen 4;simp only[aG,aK]at z7;have K7:=kp (L.o.put 4 (.slice A3 (xs.length+1) c3));simp only[aH,aI]at K7;have z0:=k'2 (g0.o.blk_set L.o.blk (by decide) 4 (.slice A3 (xs.length+1) c3)) (d2.a.blk_set L.o.blk (by decide) 4 (.slice A3 (xs.length+1) c3));go_wp2_with fail;go_roundw
     case rel=>exact⟨j+1,by omega,by go_num,_,by rw[O.o,V.o]; exact K7.o,⟨by rw[O.o,V.o]; exact z0.a,z0.B,by simpa using d2.B⟩,by rw[O.o]; simp[d.C]⟩
     case measure=>simp[intOf]; omega
    .obtain rfl:j=K:=by omega
     generalize dC cQ j l6 W=q7 at *;obtain⟨ls,l7,b7⟩:=q7;simp only[]at d j0;have hL:=d.a.blk.load (P:=prog) (k:=5) rfl;have hS:=d.a.res.store (P:=prog) (cs':=[.i r,.i p,.i m,I,S]) rfl (tX r p m d.b.2.1.one d.b.1.one);have N:=k'3 (d.a.fin [.i r,.i p,.i m,I,S]) (d.b.2.1.row_set d.a.res (by decide) [.i r,.i p,.i m,I,S]) ((d.b.1.mono b0.a).row_set d.a.res (by decide) [.i r,.i p,.i m,I,S]);go_wp2_with fail;have X:=N.a.1.load (P:=prog) (k:=5) rfl;exact aU (v:=.agg (ObV.cells ⟨⟨r,⟨p,m⟩,ws,ls⟩,I,S⟩).toArray) (by simp[results,results127,go_sem,X,ObV.cells]) rfl (vU.of (x:=⟨r,⟨p,m⟩,ws,ls⟩) I S j0.o.symm N.b N.C (fun i A hj=>by have F:=b0.b i A; have G:=d.b.1.lt hj; omega) N.a.2.1 N.a.2.2)
end
section
theorem Xz(o:Int)(b:Bk)(v:Value)(ps:List ObV)(B:Nat)(w:World)(Y:cP o=true)(h:Sl w B v ObV.cells ps)(s:B≤w.heap.size)(hn:ps.length≤1000000)(Q:0≤b.o∧b.o≤8∧0≤b.a∧b.a≤1000)(Z:∀p∈ps,0≤p.x.b.a∧p.x.b.a≤2147483647∧0≤p.x.b.o∧p.x.b.o≤8):
  Calls prog 184 #[.i o,.agg #[.i b.a,.i b.o],v] w fun e w'=>e=.returned (.bool (iW o (ps.map (·.x.b)) b))∧Bw' w w':=by
 obtain⟨R,y⟩:=nm' (iW o (ps.map (·.x.b)) b);rw[y];have M:=kp y;obtain⟨W1,E⟩:=nm' (w.alloc (.cells #[.i b.a,.i b.o] 88));have J:=Blk.new w 88 b.cells;have m:=ba' w (.cells #[.i b.a,.i b.o] 88);rw[show (b.cells.toArray)=#[.i b.a,.i b.o] from rfl,E]at J;rw[E]at m;obtain⟨A,c,rfl,a0,U,hm⟩:=h;obtain⟨n,G⟩:=nm' ps.length;rw[G]at hn U ⊢;have H:=k'4 (a0.below m s) G Z (aB s m.size);have d:=k'2 J m;have q:=kp Q;have HO:=kp Y;clear a0 G Z U hm s J m Q Y y;go_enter func184,ntmps184;go_wp2_with fail;clear E
 go_loopw [7] (fun i wr=>∃k:Nat,k≤n∧i=.i k∧(∀p∈ps.take k,eW b p.x.b=false)∧Bw' W1 wr) (fun i _=>n-(intOf i).toNat)
 case atStart=>exact⟨0,by omega,rfl,by simp,aL _ _⟩
 case round=>
  obtain⟨k,hk,rfl,V,T⟩:=hrel;have L:=kp V;have f:=kp T;clear V T
  by_cases e0:k<n
  .have g3:(k:Int)<(n:Int):=by omega
   have l:k<ps.length:=by have:=H.b; omega
   obtain⟨bb,g0,rfl,-,F,-⟩:=bV (P:=prog) 5 cM (by omega) (H.a.below f.o H.D) k l;have y0:=aP (F 1 _ rfl);have y1:=aP (F 2 _ rfl);have x0:=aP (v:=.i b.a) ((d.a.below f.o d.a.lt).cell 0);have x1:=aP (v:=.i b.o) ((d.a.below f.o d.a.lt).cell 1);have j:=k'3 (cV l) (H.c _ (bK l)) (bK l);clear F;generalize ps[k]'l=x at *;obtain⟨⟨xh,⟨xa,xo⟩,ws,ls⟩,wv,lv⟩:=x;simp only at y0 y1;obtain⟨r,I⟩:=nm' (eW b ⟨xa,xo⟩);have HM:=kp (fun W=>by have:=uW b ⟨xa,xo⟩ W (by have:=q.o; omega) (by have:=j.b; simp only at this ⊢; omega) (by have:=q.o; omega) (by have:=q.o; omega) (by have:=j.b; simp only at this ⊢; omega) (by have:=j.b; simp only at this ⊢; omega); rw[I]at this; exact this);have N:=kp I;clear I;go_wp2_with fail;refine bJ (by kernel_rfl) (by kernel_rfl) ?_
   repeat (go_big_quiet_step ((go_at_call 189; refine bU (HM.o _))))
   refine bH ?_;rintro W3 ⟨⟨_,S⟩,rfl⟩;have K:=kp (f.o.on S);clear S x0 x1 y0 y1
   cases r
   .go_wp2_with fail;go_roundw
    case rel=>
     refine⟨k+1,by omega,by go_num,fun z g=>?_,K.o⟩;rw[j.a]at g;rcases dF.1 g with g|g
     .exact L.o z g
     .rw[bQ.1 g]; exact N.o
    case measure=>simp[intOf]; omega
   .go_wp2_with fail;go_ret;refine⟨?_,d.B.on K.o⟩;have:iW o (ps.map (·.x.b)) b=false:=by
     unfold iW kS;rw[Ai,show (ps.any ((fun x=>eW b x)∘fun x=>x.x.b))=true from kZ.2 ⟨_,j.C,N.o⟩];rfl
    rw[←M.o,this];rfl
  .obtain rfl:k=n:=by omega
   have z0:=(d.a.below f.o d.a.lt).cell 0;have z1:=(d.a.below f.o d.a.lt).cell 1;simp only[Bk.cells,aG,aK]at z0 z1;have X:kS (ps.map (·.x.b)) b=true:=by
    unfold kS;rw[Ai,pA,pF];intro p hp;have O:=L.o;rw[cN (by have:=H.b; omega)]at O;simpa using O p hp
   have b0:=kp (by have:=tD o b wr HO.o; rw[show bN o b=R from by rw[←M.o]; unfold iW; rw[X,jF]]at this; exact this);clear X;go_wp2_with fail;refine mb' (b0.o) fun w5 d0=>?_;go_wp2_with fail;go_ret;exact⟨rfl,d.B.trans ((f.o.on d0).mono d.B.size)⟩
theorem Lw(o:Int)(b:List Bk)(a q:Int)(c:0<q):iX o b a q.toNat=if iW o b ⟨a,q⟩=true then q.toNat else iX o b a (q-1).toNat:=by
 obtain⟨k,rfl⟩:∃k:Nat,q=(k+1:Nat):=⟨(q-1).toNat,by omega⟩
 rw[eR,show ((k+1:Nat):Int)-1=k by omega,eR];rfl
theorem Dw(o:Int)(c:List Bk)(m:Nat)(b:Bk)(e:0≤b.o)(d:iX o c b.a o.toNat=b.o.toNat)(h:b.a<aJ o):jS o c (m+1) b.a=(if iW o c b=true then [b] else [])++jS o c m (b.a+aJ b.o):=by
 obtain⟨a,q⟩:=b;simp only at *
 conv=>lhs; unfold jS
 rw[aE h,d,show ((q.toNat:Nat):Int)=q by omega]
theorem Ya(o:Int)(v:Value)(ps:List ObV)(B:Nat)(w:World)(ho:cP o=true)(h:Sl w B v ObV.cells ps)(hB:B≤w.heap.size)(hn:ps.length≤1000000)(j1:∀p∈ps,0≤p.x.b.a∧p.x.b.a≤2147483647∧0≤p.x.b.o∧p.x.b.o≤8):
  Calls prog 129 #[.i o,v] w fun e w'=>∃v',e=.returned v'∧Ow w' w.heap.size 88 2 v' Bk.cells (cC (ps.map (·.x.b)) o.toNat 0)∧Bw' w w':=by
 have h8:=eF ho;have o2:=nJ (o:=o) (by omega);have l2:=eG o;obtain⟨R,hR⟩:=nm' (cC (ps.map (·.x.b)) o.toNat 0);rw[hR];have HR:=kp (show jS o (ps.map (·.x.b)) 256 0=R by rw[Qq ho 256 (by omega),hR]);have p1:=kp (fun(W:World)(Z:Bw' w W)(b:Bk)(d2:0≤b.o∧b.o≤8∧0≤b.a∧b.a≤1000)=>Xz o b v ps B W ho (h.below Z hB) (aB hB Z.size) hn d2 j1);have H8:=kp h8;have U:=kp kQ;clear h hB hn j1 hR ho;go_enter func129,ntmps129;go_wp2_with fail
 go_loopw [5,6] (fun vo va wr=>∃(u:Value)(a:Int)(m:Nat)(F:List Bk),u=vo∧va=.i a∧(0≤a∧a≤600)∧F++jS o (ps.map (·.x.b)) m a=R∧aJ o-a≤m∧(F.length:Int)≤a∧Ow wr w.heap.size 88 2 u Bk.cells F∧Bw' w wr) (fun _ va _=>(aJ o-intOf va).toNat)
 case atStart=>exact⟨_,0,256,[],rfl,rfl,⟨by omega,by omega⟩,HR.o,by omega,by simp,Ow.nil _ _ _ _ _,aL _ _⟩
 case round=>
  obtain⟨u,a,m,F,rfl,rfl,ha,e1,hm,g1,l1,d1⟩:=hrel;have f:=k'5 e1 hm g1 l1 d1;obtain⟨a2,Y⟩:=ha;clear e1 hm g1 l1 d1;go_wp2_with fail;refine ms' (U.o o _ (by omega)) ?_
  by_cases q0:a<aJ o
  .obtain⟨G,e2⟩:∃G,G=wr:=⟨_,rfl⟩
   subst e2;obtain⟨m,rfl⟩:∃m',m=m'+1:=⟨m-1,by have:=f.b; omega⟩
   have nb:=Blk.new G 88 [.i a,.i o];have o1:=ba' G (.cells #[.i a,.i o] 88);have HN:=k'2 nb o1;clear nb o1;go_wp2_with fail
   go_loopw [] (fun wq=>∃b:Bk,b.a=a∧(0≤b.o∧b.o≤o)∧Blk wq G.heap.size 88 [.i b.a,.i b.o]∧iX o (ps.map (·.x.b)) a o.toNat=iX o (ps.map (·.x.b)) a b.o.toNat∧Bw' G wq) (fun wq=>match wq.cell? ⟨G.heap.size,1,none⟩ with |some (.int _ z)=>z.toNat|_=>0)
   case atStart=>exact⟨⟨a,o⟩,rfl,⟨by simp only; omega,iQ _⟩,HN.a,rfl,HN.B⟩
   case round=>
    obtain⟨b,b2,⟨a0,g2⟩,a1,m1,b1⟩:=hrel;subst b2;have m2:=eG b.o;have j2:=nJ (o:=b.o) (by omega);obtain⟨r,hr⟩:=nm' (iW o (ps.map (·.x.b)) b);have N:=kp (fun W Z=>by have:=p1.o W Z b ⟨a0,by omega,a2,by omega⟩; rw[hr]at this; exact this);have O:=kp hr;have g:=kp a1;have q:=kp b1;have m0:=kp m1;clear hr a1 b1 m1;have z0:=g.o.cell 0;have L:=g.o.cell 1;simp only[aG,aK]at z0 L
    by_cases b0:0<b.o
    .cases r
     .go_wp2_with fail;refine mb' (N.o _ (f.E.on q.o)) fun w3 I=>?_;have M:=kp (g.o.below I g.o.lt);have X:=kp (q.o.on I);clear I z0 L;have y1:=M.o.frozen 1;have L:=M.o.cell 1;simp only[aG,aK]at L;have o0:=kp (M.o.setCell 1 (.i (b.o-1)));simp only[aH,aI]at o0;have z2:=g.o.cell 1;simp only[aG,aK]at z2;have z3:=o0.o.cell 1;simp only[aG,aK]at z3;have HZ:=k'2 z2 z3;clear z2 z3;go_wp2_with fail;go_roundw
      case rel=>
       refine⟨⟨b.a,b.o-1⟩,rfl,⟨by simp only; omega,by simp only; omega⟩,o0.o,?_,X.o.setCell (p:=⟨G.heap.size,1,none⟩) (aD _) _⟩;rw[m0.o,Lw _ _ _ _ b0,aC (by rw[show (⟨b.a,b.o⟩:Bk)=b from rfl,O.o]; decide)]
      case measure=>
       rw[HZ.a,HZ.B];simp only;omega
     .have V:=kp (show iX o (ps.map (·.x.b)) b.a o.toNat=b.o.toNat by rw[m0.o,Lw _ _ _ _ b0,aE O.o]);go_wp2_with fail;refine mb' (N.o _ (f.E.on q.o)) fun w3 I=>?_;have M:=kp (g.o.below I g.o.lt);have X:=kp (q.o.on I);clear I z0 L g q;have g:=M;have q:=X;clear M X;have l:=g.o.cell 0;have i:=g.o.cell 1;simp only[aG,aK]at l i;go_wp2_with fail;refine mb' (N.o _ (f.E.on q.o)) fun n y=>?_;have s:=kp (g.o.below y g.o.lt);have A:=kp (q.o.on y);have l0:=kp (f.d.below A.o);have P:=kp (aB f.E.size A.o.size);clear y l i;have l:=s.o.cell 0;have i:=s.o.cell 1;simp only[aG,aK]at l i;have K:Sl (n.alloc (.cells #[.i b.a,.i b.o] 88)) (n.heap.size+1) (.slice (some ⟨n.heap.size,0,none⟩) 1 1) Bk.cells [b]:=eQ (enc:=Bk.cells) n 88 b;have H:=l0.o.alloc (.cells #[.i b.a,.i b.o] 88);have C:=ba' n (.cells #[.i b.a,.i b.o] 88);obtain⟨Q,S⟩:=nm' (n.alloc (.cells #[.i b.a,.i b.o] 88));rw[S]at K H C;have k:=k'4 K H C (show w.heap.size≤Q.heap.size from aB (P.o) C.size);clear K H C;go_wp2_with (at_builtin; refine eU (enc:=Bk.cells) Q rfl (.tmp 33) (.tmp 35) 27 rfl (w.heap.size) 88 jA fC rfl (by omega) bM k.b rfl k.a rfl (fun a _=>gU a) ?_ ?_ k.D ?_)
      .have j:=f.c; have h2:=Y; unfold maxLen; (try simp); omega
      .have j:=f.c; have h2:=Y; (try simp); omega
      intro v3 w3 T J;have d0:=kp ((k.c.mono (P.o)).trans (k.b.grew J k.D));have j0:=kp T;have e0:=kp J;clear T J S;have p0:=kp ((s.o.below k.c s.o.lt).chg (vT e0.o) (fun e=>by have:=(f.d.lt e).2; omega));clear l i;have i:=p0.o.cell 1;simp only[aG,aK]at i;go_wp2_with fail;refine ms' (U.o b.o _ (by omega)) ?_;go_wp2_with fail;go_roundw
      case rel=>
       refine⟨_,b.a+aJ b.o,m,F++[b],rfl,by go_num,⟨by omega,by omega⟩,?_,by have:=f.b; omega,?_,j0.o,f.E.trans ((A.o.mono f.E.size).trans d0.o)⟩
       .have j:=f.a;rw[Dw _ _ _ b a0 V.o q0,aE O.o]at j;rw[←j];simp
       .have j:=f.c;simp only[bB,eV,mH];omega
      case measure=>simp only[intOf]; omega
    .have y0:b.o=0:=by omega
     have V:=kp (show iX o (ps.map (·.x.b)) b.a o.toNat=b.o.toNat by rw[m0.o,y0]; rfl);have g0:decide (0<b.o)=false:=by simpa using b0
     clear z0 y0 b0
     cases r
     .clear L;have l:=g.o.cell 0;have i:=g.o.cell 1;simp only[aG,aK]at l i;go_wp2_with fail;refine mb' (N.o _ (f.E.on q.o)) fun n y=>?_;have s:=kp (g.o.below y g.o.lt);have A:=kp (q.o.on y);clear y l i;have i:=s.o.cell 1;simp only[aG,aK]at i;go_wp2_with fail;refine ms' (U.o b.o _ (by omega)) ?_;go_wp2_with fail;go_roundw
      case rel=>
       refine⟨_,b.a+aJ b.o,m,F,rfl,by go_num,⟨by omega,by omega⟩,?_,by have:=f.b; omega,by have:=f.c; omega,f.d.below A.o,f.E.on A.o⟩;have j:=f.a;rw[Dw _ _ _ b a0 V.o q0,aC (by rw[O.o]; decide),aT]at j;exact j
      case measure=>simp only[intOf]; omega
     .clear L;have l:=g.o.cell 0;have i:=g.o.cell 1;simp only[aG,aK]at l i;go_wp2_with fail;refine mb' (N.o _ (f.E.on q.o)) fun n y=>?_;have s:=kp (g.o.below y g.o.lt);have A:=kp (q.o.on y);have l0:=kp (f.d.below A.o);have P:=kp (aB f.E.size A.o.size);clear y l i;have l:=s.o.cell 0;have i:=s.o.cell 1;simp only[aG,aK]at l i;have K:Sl (n.alloc (.cells #[.i b.a,.i b.o] 88)) (n.heap.size+1) (.slice (some ⟨n.heap.size,0,none⟩) 1 1) Bk.cells [b]:=eQ (enc:=Bk.cells) n 88 b;have H:=l0.o.alloc (.cells #[.i b.a,.i b.o] 88);have C:=ba' n (.cells #[.i b.a,.i b.o] 88);obtain⟨Q,S⟩:=nm' (n.alloc (.cells #[.i b.a,.i b.o] 88));rw[S]at K H C;have k:=k'4 K H C (show w.heap.size≤Q.heap.size from aB (P.o) C.size);clear K H C;go_wp2_with (at_builtin; refine eU (enc:=Bk.cells) Q rfl (.tmp 33) (.tmp 35) 27 rfl (w.heap.size) 88 jA fC rfl (by omega) bM k.b rfl k.a rfl (fun a _=>gU a) ?_ ?_ k.D ?_)
      .have j:=f.c; have h2:=Y; unfold maxLen; (try simp); omega
      .have j:=f.c; have h2:=Y; (try simp); omega
      intro v3 w3 T J;have d0:=kp ((k.c.mono (P.o)).trans (k.b.grew J k.D));have j0:=kp T;have e0:=kp J;clear T J S;have p0:=kp ((s.o.below k.c s.o.lt).chg (vT e0.o) (fun e=>by have:=(f.d.lt e).2; omega));clear l i;have i:=p0.o.cell 1;simp only[aG,aK]at i;go_wp2_with fail;refine ms' (U.o b.o _ (by omega)) ?_;go_wp2_with fail;go_roundw
      case rel=>
       refine⟨_,b.a+aJ b.o,m,F++[b],rfl,by go_num,⟨by omega,by omega⟩,?_,by have:=f.b; omega,?_,j0.o,f.E.trans ((A.o.mono f.E.size).trans d0.o)⟩
       .have j:=f.a;rw[Dw _ _ _ b a0 V.o q0,aE O.o]at j;rw[←j];simp
       .have j:=f.c;simp only[bB,eV,mH];omega
      case measure=>simp only[intOf]; omega
  .have q1:=kp (show F=R by
    have j:=f.a;rw[xI o _ m a (by omega),fS]at j;exact j)
   go_wp2_with fail;go_ret;exact⟨_,rfl,by rw[←q1.o]; exact f.d,f.E⟩
end
end Go.Proofs.YtdoopoapbffpbaaGreat
