import Derived.Test.YtoncgpddjmgbfaaGreatZ08
import Derived.Test.YtoncgpddjmgbfaaGreatZ09
import Derived.Test.YtoncgpddjmgbfaaGreatZ16
import Derived.Test.YtoncgpddjmgbfaaGreatZ17
namespace Go.Proofs.YtoncgpddjmgbfaaGreat
open Go.RowKit Go.Proofs.Tryz
set_option maxRecDepth 100000
set_option maxHeartbeats 12800000
set_option linter.unusedVariables false
set_option linter.unusedSimpArgs false
section
attribute [-go_sem] loadCellsFrom storeCells
attribute [local go_sem] aX
theorem pF{α:Type}(one:List UInt8→Option (α×List UInt8)):∀(n:Nat)(l:List UInt8),bN one (n+1) l=match bN one n l with
  |none=>none
  |some (xs,r)=>match one r with
   |none=>none
   |some (x,a)=>some (xs++[x],a)
 |0,l=>by
  simp only[bN]
  cases one l with
  |none=>rfl
  |some p=>rfl
 |n+1,l=>by
  conv=>lhs; unfold bN
  conv=>rhs; unfold bN
  cases h:one l with
  |none=>rfl
  |some p=>
   obtain⟨x,r⟩:=p;simp only[];rw[pF one n r]
   cases h2:bN one n r with
   |none=>rfl
   |some q=>
    obtain⟨xs,b⟩:=q;simp only[]
    cases h3:one b with
    |none=>rfl
    |some c=>rfl
theorem Cc{α:Type}{one:List UInt8→Option (α×List UInt8)}{l:List UInt8}{i:Nat}(h:bN one i l=none):∀{n:Nat},i≤n→bN one n l=none:=by
 intro n c
 induction n with
 |zero=>
   obtain rfl:i=0:=by omega
   exact h
 |succ n b=>
  by_cases a:i=n+1
  .rw[←a]; exact h
  .rw[pF,b (by omega)]
theorem Chg.thenB{S:Nat→Prop}{a b c:World}(h:Chg S a b)(k:Below a.heap.size b c):Chg S a c:=⟨k.os.trans h.os,k.tape.trans h.tape,k.output.trans h.output,aB h.size k.size,fun i d e=>(k.block i d).trans (h.block i d e)⟩
def pG{α:Type}(w:World)(gi gr:Nat)(t:TypeId)(k:Nat)(enc:α→List Value)(o:Option (List α×List UInt8))(e:Ending)(w':World):Prop:=
 Chg (fun i=>i=gr) w w'∧match o with
  |some (xs,r)=>∃v,e=.returned v∧Ow w' w.heap.size t k v enc xs∧bX w' gi gr r
  |none=>e=.panicked gP
def uZ{α:Type}(val:α→Value)(w:World)(gi gr:Nat)(o:Option (α×List UInt8))(e:Ending)(w':World):Prop:=
 Chg (fun i=>i=gr) w w'∧match o with
  |some (x,r)=>e=.returned (val x)∧bX w' gi gr r
  |none=>e=.panicked gP
section
variable {α:Type}{w w':World}{gi gr:Nat}{t:TypeId}{k:Nat}{enc:α→List Value}{xs:List α}{r:List UInt8}{v:Value}{e:Ending}
theorem pG.some(a:Chg (fun i=>i=gr) w w')(c:Ow w' w.heap.size t k v enc xs)(b:bX w' gi gr r):pG w gi gr t k enc (some (xs,r)) (.returned v) w':=⟨a,v,rfl,c,b⟩
theorem pG.none(a:Chg (fun i=>i=gr) w w'):pG w gi gr t k enc none (.panicked gP) w':=⟨a,rfl⟩
end
theorem Tv{w:World}{gi gr:Nat}{l:List UInt8}(h:bX w gi gr l):Calls prog 136 #[.pointer (some ⟨gi,0,none⟩)] w (uZ (fun n=>.i n) w gi gr (bW l)):=by
 cases hp:bW l with
 |none=>exact (lE h hp).mono fun e w' ⟨a,b⟩=>⟨b,a⟩
 |some p=>obtain⟨x,r⟩:=p; exact (iC h hp).mono fun e w' ⟨a,b,c⟩=>⟨c,a,b⟩
theorem Tw{w:World}{gi gr:Nat}{l:List UInt8}(h:bX w gi gr l):Calls prog 186 #[.pointer (some ⟨gi,0,none⟩)] w (uZ (fun n=>.i n) w gi gr (gM l)):=by
 cases hp:gM l with
 |none=>exact (Ik h hp).mono fun e w' ⟨a,b⟩=>⟨b,a⟩
 |some p=>obtain⟨x,r⟩:=p; exact (Ij h hp).mono fun e w' ⟨a,b,c⟩=>⟨c,a,b⟩
theorem Tx{w:World}{gi gr:Nat}{l:List UInt8}(h:bX w gi gr l):Calls prog 137 #[.pointer (some ⟨gi,0,none⟩)] w (uZ (fun x:Rw=>.agg x.cells.toArray) w gi gr (rwP l)):=by
 cases hp:rwP l with
 |none=>exact (Tu h hp).mono fun e w' ⟨a,b⟩=>⟨b,a⟩
 |some p=>obtain⟨x,r⟩:=p; exact (Tt h hp).mono fun e w' ⟨a,b,c⟩=>⟨c,a,b⟩
theorem Ty(n a:Int)(c:a<n)(f:Value)(w:World):Calls prog 135 #[.i n,.i a,f] w fun e w'=>e=.panicked gP∧w'=w:=by
 have g:decide (n≤a)=false:=by simp; omega
 have b:=kp qO;go_enter func135,ntmps135;go_wp2_with fail;refine (b.o _).mono ?_;rintro e d ⟨rfl,rfl⟩;exact⟨rfl,rfl,rfl⟩
theorem Cd:(∀(n:Nat)(q:Int)(K:(n:Int)≤q)(Q:q≤65536)(F:Nat)(one:List UInt8→Option (Int×List UInt8)){w:World}{gi gr:Nat}{l:List UInt8}(h:bX w gi gr l)(V:∀args w,(callFunc F args).run prog w=.ok (.enter F args) w)(R:∀(W:World)(l:List UInt8),bX W gi gr l→Calls prog F #[.pointer (some ⟨gi,0,none⟩)] W (uZ (fun n=>.i n) W gi gr (one l))),Calls prog 254 #[.i n,.i q,.func (.func F) #[.pointer (some ⟨gi,0,none⟩)] #[]] w (pG w gi gr 3 1 i1 (bN one n l)))∧(∀(n:Nat)(q:Int)(K:(n:Int)≤q)(Q:q≤65536)(F:Nat)(one:List UInt8→Option (Rw×List UInt8)){w:World}{gi gr:Nat}{l:List UInt8}(h:bX w gi gr l)(V:∀args w,(callFunc F args).run prog w=.ok (.enter F args) w)(R:∀(W:World)(l:List UInt8),bX W gi gr l→Calls prog F #[.pointer (some ⟨gi,0,none⟩)] W (uZ (fun x:Rw=>.agg x.cells.toArray) W gi gr (one l))),Calls prog 135 #[.i n,.i q,.func (.func F) #[.pointer (some ⟨gi,0,none⟩)] #[]] w (pG w gi gr 141 4 Rw.cells (bN one n l))):=by
 refine⟨?q0,?q1⟩
 case' q0=>have y:=True.intro
 all_goals
  intro n q K Q F one w gi gr l h V R;have g:decide ((n:Int)≤q)=true:=by simpa using K
  have Z:=kp qN;have HO:=kp R;have HI:=kp h;have z:=k'2 K Q;have L:=k'2 h.blk.lt h.rd.lt
  first |go_enter func254,ntmps254|go_enter func135,ntmps135
  go_wp2_with fail;refine mb' (Z.o _) fun w' o0=>?_;obtain rfl:=o0.symm;go_wp2_with fail
  first
  |(have:=y; go_loopw [7,13] (fun v i wr=>∃k:Nat,k≤n∧i=.i k∧∃xs r,bN one k l=some (xs,r)∧xs.length=k∧Ow wr w.heap.size 3 1 v i1 xs∧bX wr gi gr r∧Chg (fun i=>i=gr) w wr) (fun _ i _=>n-(intOf i).toNat))
  |go_loopw [7,13] (fun v i wr=>∃k:Nat,k≤n∧i=.i k∧∃xs r,bN one k l=some (xs,r)∧xs.length=k∧Ow wr w.heap.size 141 4 v Rw.cells xs∧bX wr gi gr r∧Chg (fun i=>i=gr) w wr) (fun _ i _=>n-(intOf i).toNat)
  case atStart=>exact⟨0,by omega,rfl,[],l,rfl,rfl,Ow.nil _ _ _ _ _,HI.o,Chg.refl _ _⟩
  case round=>
   obtain⟨k,hk,rfl,xs,r,g0,p0,l0,e0,b0⟩:=hrel;have f:=k'5 g0 p0 l0 e0 b0
   by_cases z0:k<n
   .have g3:(k:Int)<(n:Int):=by omega
    have a1:(n:Int)≤65536:=by have N:=z.a; have O:=z.B; omega
    have G:=kp (HO.o wr r f.d)
    cases hx:one r with
    |none=>
     rw[hx]at G;have M:=kp hx;go_wp2_with (go_at_fn F; refine G.o.mono ?_; rintro e j ⟨A,rfl⟩);have j0:bN one n l=none:=Cc (i:=k+1) (by rw[pF,f.a]; simp only[]; rw[M.o]) (by omega);rw[j0];exact⟨rfl,pG.none (f.E.trans A fun _ _ h=>h)⟩
    |some p=>
     obtain⟨x,r'⟩:=p;rw[hx]at G;have M:=kp hx;go_wp2_with fail
     go_at_fn F
     refine G.o.mono ?_;rintro e j ⟨A,rfl,d0⟩
     first
     |(have:=y; skip)
     |simp only[Rw.cells]
     have U:=kp ((f.c).chg A fun i hi e=>by have N:=(f.c).lt hi; have O:=L.B; omega);have H:=k'3 A d0 (aB f.E.size A.size)
     first
     |(have:=y; have S:Sl (j.alloc (.cells #[.i x] 3)) (j.heap.size+1) (.slice (some ⟨j.heap.size,0,none⟩) 1 1) i1 [x]:=gG (enc:=i1) j 3 x)
     |have S:Sl (j.alloc (.cells #[.i x.c,.i x.s,.i x.k,.i x.v] 141)) (j.heap.size+1) (.slice (some ⟨j.heap.size,0,none⟩) 1 1) Rw.cells [x]:=gG (enc:=Rw.cells) j 141 x
     first
     |(have:=y; have P:=U.o.alloc (.cells #[.i x] 3))
     |have P:=U.o.alloc (.cells #[.i x.c,.i x.s,.i x.k,.i x.v] 141)
     first
     |(have:=y; have J:=ba' j (.cells #[.i x] 3))
     |have J:=ba' j (.cells #[.i x.c,.i x.s,.i x.k,.i x.v] 141)
     first
     |(have:=y; obtain⟨I,X⟩:=nm' (j.alloc (.cells #[.i x] 3)))
     |obtain⟨I,X⟩:=nm' (j.alloc (.cells #[.i x.c,.i x.s,.i x.k,.i x.v] 141))
     rw[X]at S P J;have m:=k'4 S P J (show w.heap.size≤I.heap.size from aB (H.C) J.size)
     first
     |(have:=y; go_wp2_with (at_builtin; refine uP (enc:=i1) I rfl (.tmp 15) (.tmp 18) 44 rfl (w.heap.size) 3 xA rY rfl (by omega) eG m.b rfl m.a rfl (fun a _=>zT a) ?_ ?_ m.D ?_))
     |go_wp2_with (at_builtin; refine uP (enc:=Rw.cells) I rfl (.tmp 15) (.tmp 18) 41 rfl (w.heap.size) 141 Am nR rfl (by omega) jP m.b rfl m.a rfl (fun a _=>mP a) ?_ ?_ m.D ?_)
     .have N:=f.b; have O:=z.a; have h3:=z.B; unfold maxLen; (try simp); omega
     .have N:=f.b; have O:=z.a; have h3:=z.B; (try simp); omega
     intro v3 w3 m0 Y;have T:=kp ((m.c.mono (H.C)).trans (m.b.grew Y m.D));have a0:=kp m0;have y0:=kp Y;go_wp2_with fail;go_roundw
     case rel=>
      refine⟨k+1,by omega,by go_num,xs++[x],r',by rw[pF,f.a]; simp only[]; rw[M.o],by simp[f.b],a0.o,?_,?_⟩
      .exact H.b.at_ T.o L.a L.B
      .exact (f.E.trans H.a fun _ _ h=>h).thenB T.o
     case measure=>simp[intOf]; omega
   .obtain rfl:k=n:=by omega
    go_wp2_with fail;go_ret;rw[f.a];exact pG.some f.E f.c f.d
end
section
theorem vA{l r:List UInt8}{n:Int}(h:bW l=some (n,r)):∃k:Nat,n=k∧k≤2147483647:=by
 unfold bW at h
 by_cases a:(num l).2.2=0
 .rw[aK a]at h;obtain⟨u,b,e,-⟩:=(Nz l a).2.2;refine⟨u,?_,b⟩;rw[←e]
  cases h;rfl
 .rw[aF a]at h; cases h
theorem Ow.blk_set{α:Type}{enc:α→List Value}{w:World}{base k b:Nat}{t a:TypeId}{v:Value}{l:List α}{c:List Value}(h:Ow w base t k v enc l)(d:Blk w b a c)(g:t≠a)(j:Nat)(u:Value):Ow (w.setCell ⟨b,j,none⟩ u) base t k v enc l:=
 h.chg ((Chg.refl (fun i=>i=b) w).setCell (.inr rfl) j u) fun _ f e=>h.ne_blk d g (e▸f)
theorem Ow.row_set{α:Type}{enc:α→List Value}{w:World}{base k b:Nat}{t a:TypeId}{v:Value}{l:List α}{c:List Value}(h:Ow w base t k v enc l)(d:Blk w b a c)(g:t≠a)(xs:List Value):Ow (w.setRow b xs.toArray) base t k v enc l:=
 h.chg ((Chg.refl (fun i=>i=b) w).setRow (.inr rfl) _) fun _ f e=>h.ne_blk d g (e▸f)
theorem Il(a b c:Int){u v:Value}(e:u.oneCell'=true)(f:v.oneCell'=true):∀x∈[Value.i a,.i b,.i c,u,v],x.oneCell'=true:=by
 intro x d;simp only[bD,dF,or_false]at d;rcases d with rfl|rfl|rfl|rfl|rfl
 .rfl
 .rfl
 .rfl
 .exact e
 .exact f
attribute [-go_sem] loadCellsFrom storeCells
attribute [local go_sem] aX
def ObR(w:World)(gi gr:Nat)(o:Option (Ob×List UInt8))(e:Ending)(w':World):Prop:=
 Chg (fun i=>i=gr) w w'∧match o with
  |some (x,r)=>∃p:ObV,e=.returned (.agg p.cells.toArray)∧p.x=x∧Ow w' w.heap.size 3 1 p.wv i1 x.ws∧Ow w' w.heap.size 3 1 p.lv i1 x.ls∧Apt p.wv p.lv∧bX w' gi gr r
  |none=>e=.panicked gP
theorem ObR.none{w b:World}{c a:Nat}{o:Option (Ob×List UInt8)}(e:o=none)(d:Chg (fun i=>i=a) w b):ObR w c a o (.panicked gP) b:=by
 subst e;exact⟨d,rfl⟩
theorem ObR.some{w a:World}{e d:Nat}{o:Option (Ob×List UInt8)}{x:Ob}{r:List UInt8}(c b:Value)(l:o=some (x,r))(k:Chg (fun i=>i=d) w a)(f:Ow a w.heap.size 3 1 c i1 x.ws)(g:Ow a w.heap.size 3 1 b i1 x.ls)(h:Apt c b)(j:bX a e d r):
  ObR w e d o (.returned (.agg (ObV.cells ⟨x,c,b⟩).toArray)) a:=by
 subst l;exact⟨k,⟨x,c,b⟩,rfl,rfl,f,g,h,j⟩
theorem Tz{w:World}{M Y:Nat}{l:List UInt8}(h:bX w M Y l):Calls prog 228 #[.pointer (some ⟨M,0,none⟩)] w (ObR w M Y (obP l)):=by
 have b2:∀(fn:Fn)(first cap:Array Value)(w:World),(Instr.makeFunc fn first cap).run prog w=.ok (.func fn first cap) w:=fun _ _ _ _=>rfl;have U:=kp (Rs.new h 264 z'5);have HT:=kp qN;have HF:=kp qO;have o0:=kp Ax;have m0:=kp (fun(n:Nat)(s:Int)(hn:(n:Int)≤s)(hm:s≤65536)(W:World)(l:List UInt8)(h:bX W M Y l)=>Cd.1 n s hn hm 136 bW h (fun _ _=>rfl) (fun W l h=>Tv h));have l0:=kp (fun(n:Nat)(s:Int)(hn:(n:Int)≤s)(hm:s≤65536)(W:World)(l:List UInt8)(h:bX W M Y l)=>Cd.1 n s hn hm 186 gM h (fun _ _=>rfl) (fun W l h=>Tw h));go_enter func228,ntmps228
 cases N:bW l with
 |none=>
  go_wp2_with fail;refine mb' (lE U.o.inn N) fun E c=>?_;exact⟨rfl,ObR.none (by simp[obP,bN,N]) (U.o.end_ c)⟩
 |some p1=>
  obtain⟨p,r1⟩:=p1;have j:=kp N;go_wp2_with fail;refine (iC U.o.inn j.o).mono ?_;rintro e w1 ⟨rfl,d1,q0⟩;have Z:=kp (U.o.call d1 q0);have z1:=Z.o.blk.cell 0;have y1:=Z.o.blk.frozen 0;simp only[aP]at z1;have K:=kp (Z.o.put 0 (.i p));simp only[aC]at K
  cases D:bW r1 with
  |none=>
   go_wp2_with fail;refine mb' (lE K.o.inn D) fun E c=>?_;exact⟨rfl,ObR.none (by simp[obP,bN,j.o,D]) (K.o.end_ c)⟩
  |some p2=>
   obtain⟨m,r2⟩:=p2;have q:=kp D;go_wp2_with fail;refine (iC K.o.inn q.o).mono ?_;rintro e w2 ⟨rfl,g1,y0⟩;have J2:=kp (K.o.call g1 y0);have z2:=J2.o.blk.cell 1;have y2:=J2.o.blk.frozen 1;simp only[aP,aZ]at z2;have L:=kp (J2.o.put 1 (.i m));simp only[aC,aD]at L
   cases h3:bW r2 with
   |none=>
    go_wp2_with fail;refine mb' (lE L.o.inn h3) fun E c=>?_;exact⟨rfl,ObR.none (by simp[obP,bN,j.o,q.o,h3]) (L.o.end_ c)⟩
   |some p3=>
    obtain⟨nw,r3⟩:=p3;obtain⟨Q,rfl,a2⟩:=vA h3;have y:=k'2 h3 a2;go_wp2_with fail;refine (iC L.o.inn y.a).mono ?_;rintro e w3 ⟨rfl,j1,z0⟩;have V:=kp (L.o.call j1 z0)
    cases h4:bW r3 with
    |none=>
     go_wp2_with fail;refine mb' (lE V.o.inn h4) fun E c=>?_;exact⟨rfl,ObR.none (by simp[obP,bN,j.o,q.o,y.a,h4]) (V.o.end_ c)⟩
    |some p4=>
     obtain⟨nl,r4⟩:=p4;obtain⟨O,rfl,q1⟩:=vA h4;have I:=k'2 h4 q1;go_wp2_with fail;refine (iC V.o.inn I.a).mono ?_;rintro e w4 ⟨rfl,l1,a1⟩;have K4:=kp (V.o.call l1 a1);obtain⟨d,g0⟩:=nm' (cQ Q O);have H:=kp g0;go_wp2_with fail;refine mb' (o0.o Q O _) fun w' b0=>?_;obtain rfl:=b0.symm;rw[g0];have z5:=K4.o.blk.cell 2;have y5:=K4.o.blk.frozen 2;simp only[aP,aZ]at z5;have r:=kp (K4.o.put 2 (.i d));simp only[aC,aD]at r;have x5:=r.o.blk.cell 2;simp only[aP,aZ]at x5
     by_cases hd:d<0
     .have g5:decide (0≤d)=false:=by simp; omega
      have F:=kp hd;go_wp2_with fail;refine (HF.o _).mono ?_;rintro e E ⟨rfl,rfl⟩;exact⟨rfl,ObR.none (by simp[obP,bN,j.o,q.o,y.a,I.a,H.o,F.o]) r.o.chg⟩
     have g5:decide (0≤d)=true:=by simp; omega
     have HR:=kp (qB (n:=Q) (k:=O) (by rw[H.o]; exact hd));have F:=kp hd;go_wp2_with fail;refine mb' (HT.o _) fun w' b0=>?_;obtain rfl:=b0.symm;have R:=kp (l0.o Q 32 (by have:=HR.o; omega) (by omega) _ _ r.o.inn)
     cases h6:bN gM Q r4 with
     |none=>
      rw[h6]at R;go_wp2_with fail;refine (R.o).mono ?_;rintro e E ⟨c,rfl⟩;exact⟨rfl,ObR.none (by simp[obP,bN,j.o,q.o,y.a,I.a,H.o,F.o,h6]) (r.o.end_ c)⟩
     |some p6=>
      obtain⟨ws,r6⟩:=p6;rw[h6]at R;have d0:=kp h6;go_wp2_with fail;refine (R.o).mono ?_;rintro e w6 ⟨b1,wv,rfl,j0,m1⟩;obtain⟨g,c6,rfl,-⟩:=dO j0;have T:=kp (r.o.call m1 b1);have O6:=kp (j0.mono (by have:=r.o.chg.size; exact this));have z6:=T.o.blk.cell 3;have y6:=T.o.blk.frozen 3;simp only[aP,aZ]at z6;have z:=kp (T.o.put 3 (.slice g ws.length c6));simp only[aC,aD]at z;have S:=kp (m0.o O 16 (by have:=HR.o; omega) (by omega) _ _ z.o.inn)
      cases h7:bN bW O r6 with
      |none=>
       rw[h7]at S;go_wp2_with fail;refine (S.o).mono ?_;rintro e E ⟨c,rfl⟩;exact⟨rfl,ObR.none (by simp[obP,bN,j.o,q.o,y.a,I.a,H.o,F.o,d0.o,h7]) (z.o.end_ c)⟩
      |some p7=>
       obtain⟨ls,r7⟩:=p7;rw[h7]at S;have p0:=kp h7;go_wp2_with fail;refine (S.o).mono ?_;rintro e w7 ⟨e0,lv,rfl,a0,o1⟩;obtain⟨f,c7,rfl,-⟩:=dO a0;have O7:=k'3 (a0.mono (by have:=z.o.chg.size; exact this)) (((O6.o.blk_set T.o.blk (by decide) 3 (.slice g ws.length c6)).chg e0 fun i hi e=>by have N:=O6.o.lt hi; have D:=z.o.ltr; omega)) (show Apt (.slice g ws.length c6) (.slice f ls.length c7) from fun i hi hj=>by have N:=O6.o.lt hi; have D:=a0.lt hj; simp at D; omega);have J:=kp (z.o.call o1 e0);have z7:=J.o.blk.cell 4;have y7:=J.o.blk.frozen 4;simp only[aP,aZ]at z7;have A:=kp (J.o.put 4 (.slice f ls.length c7));simp only[aC,aD]at A;have X:=k'2 (O7.a.blk_set J.o.blk (by decide) 4 (.slice f ls.length c7)) (O7.b.blk_set J.o.blk (by decide) 4 (.slice f ls.length c7));have hL:=A.o.blk.load (P:=prog) (k:=5) rfl;have hS:=A.o.res.store (P:=prog) (cs':=[.i p,.i m,.i d,.slice g ws.length c6,.slice f ls.length c7]) rfl (Il p m d (Ow.one X.B) (Ow.one X.a));have G:=k'3 (A.o.fin [.i p,.i m,.i d,.slice g ws.length c6,.slice f ls.length c7]) (X.a.row_set A.o.res (by decide) [.i p,.i m,.i d,.slice g ws.length c6,.slice f ls.length c7]) (X.B.row_set A.o.res (by decide) [.i p,.i m,.i d,.slice g ws.length c6,.slice f ls.length c7]);go_wp2_with fail;have hR:=G.a.1.load (P:=prog) (k:=5) rfl;exact bI (v:=.agg (ObV.cells ⟨⟨p,⟨m,d⟩,ws,ls⟩,(.slice g ws.length c6),(.slice f ls.length c7)⟩).toArray) (by simp[results,results228,go_sem,hR,ObV.cells]) rfl (ObR.some (x:=⟨p,⟨m,d⟩,ws,ls⟩) (.slice g ws.length c6) (.slice f ls.length c7) (by simp[obP,bN,j.o,q.o,y.a,I.a,H.o,F.o,d0.o,p0.o]) G.a.2.2 G.C G.b O7.C G.a.2.1)
end
section
attribute [-go_sem] loadCellsFrom storeCells
attribute [local go_sem] aX
def qP(sz:Int)(b:Bk)(p:ObV):Bool:=decide (p.x.b.a≤sz)&&(decide (b.a<p.x.b.a+aU p.x.b.o)&&decide (p.x.b.a<b.a+aU b.o))
theorem Ua(p:ObV)(l:Int)(b:Bk)(y r s:Nat)(W:World)(A:Blk W y 3 [.i l])(z:Blk W r 262 b.cells)(i:Blk W s 3 [.i (b.a+aU b.o)])(D:0≤p.x.b.a)(E:p.x.b.a≤2147483647):
  Calls prog 256 #[.agg p.cells.toArray,.pointer (some ⟨y,0,none⟩),.pointer (some ⟨r,0,none⟩),.pointer (some ⟨s,0,none⟩)] W fun e N=>e=.returned (.bool (qP l b p))∧Bw' W N:=by
 obtain⟨⟨n,⟨c,f⟩,ws,ls⟩,m,j⟩:=p;obtain⟨q,h⟩:=b;unfold qP;simp only at D E i ⊢;have T:=fX f;have U:=fX h;obtain⟨O,F⟩:=nm' (W.alloc (.cells (ObV.cells ⟨⟨n,⟨c,f⟩,ws,ls⟩,m,j⟩).toArray 264));have k:=Blk.new W 264 (ObV.cells ⟨⟨n,⟨c,f⟩,ws,ls⟩,m,j⟩);have d:=ba' W (.cells (ObV.cells ⟨⟨n,⟨c,f⟩,ws,ls⟩,m,j⟩).toArray 264);rw[F]at k d;have V:=bG ((A.below d A.lt).cell 0);have Q:=bG ((z.below d z.lt).cell 0);have S:=bG ((i.below d i.lt).cell 0);have X:=bG (k.cell 1);have Y:=bG (k.cell 2);have C:=kp d;obtain⟨K,H⟩:∃t,decide (c≤l)=t:=⟨_,rfl⟩
 obtain⟨L,I⟩:∃t,decide (q<c+aU f)=t:=⟨_,rfl⟩
 obtain⟨M,J⟩:∃t,decide (c<q+aU h)=t:=⟨_,rfl⟩
 rw[H,I,J];generalize aU h=R at *;go_enter func256,ntmps256;rcases My K L M with⟨rfl,g⟩|⟨rfl,rfl,g⟩|⟨rfl,rfl,rfl,g⟩|⟨rfl,rfl,rfl,g⟩
 all_goals
  rw[g];go_wp2_with fail;refine cX (by kernel_rfl) (by kernel_rfl) ?_
  repeat (go_big_quiet_step ((go_at_call 218; refine dP (iL _ _))))
  refine cI ?_;rintro P ⟨⟨_,G⟩,rfl⟩;have B:=kp (C.o.on G);go_wp2_with fail;go_ret;exact⟨rfl,B.o⟩
end
section
attribute [-go_sem] loadCellsFrom storeCells
attribute [local go_sem] aX
def Ce(w:World)(g j:Nat):Int:=match w.cell? ⟨g,j,none⟩ with
 |some (.int _ z)=>z
 |_=>0
def Cf(w:World):Value→List Bk
 |.slice (some a) n _=>(List.range n).map fun i=>⟨Ce w a.block (a.off+i*2),Ce w a.block (a.off+i*2+1)⟩
 |_=>[]
theorem xZ{w:World}{B:Nat}{v:Value}{l:List Bk}(h:Sl w B v Bk.cells l):Cf w v=l:=by
 obtain⟨A,c,rfl,d,-,-⟩:=h
 cases l with
 |nil=>cases A<;>rfl
 |cons b l'=>
  obtain⟨g,k,rfl,-,-,-⟩:=dS (P:=prog) 2 cO (by omega) d 0 (by simp);unfold Cf;refine List.ext_getElem (by simp) fun i j f=>?_;obtain⟨g',m,e,-,a,-⟩:=dS (P:=prog) 2 cO (by omega) d i f;injection e with e;injection e with e1 e2 _;subst e1 e2;have c0:=a 0 _ rfl;have c1:=a 1 _ rfl;simp only[dW]at c0;simp only[pQ,List.getElem_range,Ce,c0,c1]
theorem Im(c:Int){b:Bk}{p:ObV}(d:(0≤b.o∧b.o≤8)∧0≤b.a∧b.a+aU b.o≤aU c)(e:0≤p.x.b.a∧p.x.b.a≤2147483647∧0≤p.x.b.o∧p.x.b.o≤8):qP (aU c) b p=jA b p.x.b:=by
 unfold qP jA;rw[←fJ d.1.1 d.1.2,←fJ e.2.2.1 e.2.2.2];have f:=fX b.o
 by_cases h:p.x.b.a≤aU c
 .rw[fA h,kU]
 .rw[dR h,Bool.false_and,dR (p:=p.x.b.a<b.a+aU b.o) (by omega),Mk]
theorem Ub(e:Int){b:Bk}{f:List ObV}(g:(0≤b.o∧b.o≤8)∧0≤b.a∧b.a+aU b.o≤aU e)(h:∀p∈f,0≤p.x.b.a∧p.x.b.a≤2147483647∧0≤p.x.b.o∧p.x.b.o≤8):nV (f.map (·.x.b)) b= !(f.any (qP (aU e) b)):=by
 unfold nV;rw[aCh]
 congr 1
 rw[rO,mM,mM];constructor
 .rintro⟨p,c,d⟩; exact⟨p,c,by rw[Im e g (h p c)]; exact d⟩
 .rintro⟨p,c,d⟩; exact⟨p,c,by rw[Im e g (h p c)]at d; exact d⟩
theorem Uc{b:Bk}(a:0<b.o)(c:b.o≤8):aU b.o=2*aU (b.o-1):=by
 have:b.o=1∨b.o=2∨b.o=3∨b.o=4∨b.o=5∨b.o=6∨b.o=7∨b.o=8:=by omega
 rcases this with h|h|h|h|h|h|h|h<;>rw[h]<;>rfl
theorem OR.self{α:Type}{enc:α→List Value}{w:World}{S T:Nat→Prop}{k:Nat}{t:TypeId}{v:Value}{l:List α}(h:OR w S t k v enc l):OR w (fun i=>some i=v.ownBlock∨T i) t k v enc l:=
 ⟨h.1,h.2.imp id fun⟨g,c,cap,b,a,_,r⟩=>⟨g,c,cap,b,a,.inl (by rw[a]; rfl),r⟩⟩
structure Lft(w:World)(fv:Value)(order:Int)(R:List Bk)(bs:List Bk)(vf vo:Value)(fl out:List Bk)(W:World):Prop where
 free:OR W (fun i=>some i=fv.ownBlock∨w.heap.size≤i) 262 2 vf Bk.cells fl
 row:Ow W w.heap.size 262 2 vo Bk.cells out
 sep:∀i,some i=vf.ownBlock→vo.ownBlock≠some i
 eq:out++oS bs fl=R
 small:∀b∈fl,(0≤b.o∧b.o≤8)∧0≤b.a∧b.a+aU b.o≤aU order
 few:kW fl+out.length≤100000
 chg:Chg (fun k=>some k=fv.ownBlock) w W
 size:Blk W w.heap.size 3 [.i (aU order)]
theorem Lft.below{w:World}{d:Value}{e:Int}{R b:List Bk}{g i:Value}{c f:List Bk}{W W':World}(h:Lft w d e R b g i c f W)(a:Bw' W W'):Lft w d e R b g i c f W':=
 ⟨h.free.below a,h.row.below a,h.sep,h.eq,h.small,h.few,h.chg.then a,h.size.below a h.size.lt⟩
theorem yA(c:List Bk)(b:Bk)(l:List Bk):oS c (b::l)=dL c b.o.toNat b.a++oS c l:=rfl
theorem In:∀l:List Bk,l.length≤kW l
 |[]=>aN _
 |b::l=>by have:=In l; have:=sI b l; rw[eS]; omega
theorem Ud(z:Int)(L lv:Value)(J:List Bk)(G:List ObV)(base:Nat)(w:World)(hf:OR w (fun i=>base≤i) 262 2 L Bk.cells J)(hl:Ow w base 264 5 lv ObV.cells G)(hb:base≤w.heap.size)
  (l4:∀p∈G,0≤p.x.b.a∧p.x.b.a≤2147483647∧0≤p.x.b.o∧p.x.b.o≤8) (z3:∀b∈J,(0≤b.o∧b.o≤8)∧0≤b.a∧b.a+aU b.o≤aU z) (hn:G.length≤1000000) (hm:kW J≤100000):
  Calls prog 229 #[.i z,L,lv] w fun e w'=>∃v,e=.returned v∧Ow w' w.heap.size 262 2 v Bk.cells (oS (G.map (·.x.b)) J)∧Chg (fun k=>some k=L.ownBlock) w w':=by
 have g5:∀(fn:Fn)(first cap:Array Value)(w:World),(Instr.makeFunc fn first cap).run prog w=.ok (.func fn first cap) w:=fun _ _ _ _=>rfl;obtain⟨R,hR⟩:=nm' (oS (G.map (·.x.b)) J);rw[hR];have q5:=fX z;have b1:=ba' w (.cells #[.i (aU z)] 3);have y2:=kp (show Lft w L z R (G.map (·.x.b)) L (.slice none 0 0) J [] (w.alloc (.cells #[.i (aU z)] 3)) from
  ⟨OR.self (hf.below b1),Ow.nil _ _ _ _ _,fun _ _ h=>(nomatch h),by rw[←hR]; rfl,z3,by simpa using hm,(Chg.refl _ w).alloc _,Blk.new w 3 [.i (aU z)]⟩)
 have j0:=k'4 l4 hl hb hn;have y0:=kp iL;have b3:=kp (fun(W':World)(hc:Chg (fun k=>some k=L.ownBlock) w W')=>hl.chg hc fun i n e=>(Ow.apt_or hl hf (by decide)) i n e.symm);go_enter func229,ntmps229;go_wp2_with fail;refine mb' (y0.o z _) fun w' p4=>?_;obtain rfl:=p4.symm;go_wp2_with fail
 go_loopw [1,8] (fun a8 dH wr=>∃vf vo J T,vf=a8∧vo=dH∧Lft w L z R (G.map (·.x.b)) vf vo J T wr) (fun v _ wr=>kW (Cf wr v))
 case atStart=>exact⟨_,_,J,[],rfl,rfl,y2.o⟩
 case round=>
  obtain⟨vf,vo,g3,T,rfl,rfl,a2⟩:=hrel;have H:=kp a2;have HM:=kp (xZ a2.free.sl)
  cases g3 with
  |nil=>
   obtain⟨A,c,rfl,-,-⟩:=aM.slice H.o.free;go_wp2_with fail;go_ret;exact⟨_,rfl,by have q:=H.o.eq; rw[show oS (G.map (·.x.b)) []=[] from rfl,fG]at q; rw[←q]; exact H.o.row,H.o.chg⟩
  |cons b f=>
   obtain⟨g,o2,cap,a5,rfl,d5,-,j5,-,-,-⟩:=aM.form H.o.free (by simp);have o4:=aM.rd H.o.free;obtain⟨g',y5,e,-,hc,-⟩:=dS (P:=prog) 2 cO (by omega) o4 0 (by simp);injection e with e;injection e with e1 e2 _;subst e1 e2;have q0:=hc 0 _ rfl;have q1:=hc 1 _ rfl;simp only[nQ,dW,Mo]at q0 q1;have e5:=Gg (P:=prog) q0 q1;have nz:=Blk.new wr 262 [.i 0,.i 0];have y4:=nz.store (P:=prog) (cs':=[.i b.a,.i b.o]) rfl (lJ b);have nb:=nz.set [.i b.a,.i b.o];have m2:=eU (ba' wr (.cells #[.i 0,.i 0] 262)) (aN _) #[.i b.a,.i b.o];obtain⟨E,j3⟩:=nm' ((wr.alloc (.cells #[.i 0,.i 0] 262)).setRow wr.heap.size #[.i b.a,.i b.o]);rw[j3]at y4 nb m2;have b0:=H.o.small b (by simp);have M:=aM.drop (j:=1) H.o.free (by simp);have q3:(aO Bk.cells (b::f)).drop (1*2)=aO Bk.cells f:=rfl;rw[q3]at M;have d3:=kp b0;have m3:=b0.1.1;have o1:=b0.1.2;have o3:=b0.2.1;have b5:=b0.2.2;have a0:=fX b.o;have q4:∀i,some i=some g→vo.ownBlock≠some i:=H.o.sep;have g4:(b::f).length-1=f.length:=by simp
   rw[g4]at M
   by_cases p1:cap=1
   all_goals
    first
     |(subst p1; rw[aK rfl]at M; obtain⟨N,K⟩:=nm' (Value.slice (some ⟨g,o2,none⟩) f.length 0); have l1:=kp K; have d2:N.ownBlock=some g:=K▸rfl; have HD:=kp (show OR wr _ 262 2 N Bk.cells f from K▸M); clear K M)
     |(rw[aF p1]at M; obtain⟨N,K⟩:=nm' (Value.slice (some ⟨g,o2+2,none⟩) f.length (cap-1)); have l1:=kp K; have d2:N.ownBlock=some g:=K▸rfl; have HD:=kp (show OR wr _ 262 2 N Bk.cells f from K▸M); clear K M)
    have Q:=kp d2;have I:=k'3 nb m2 q4;have l0:=(show Blk E.drew wr.heap.size 262 [.i b.a,.i b.o] from nb)
    go_wp2_with fail
    try rw[l1.o]
    have c0:=l0.cell 0;have c1:=l0.cell 1;have c2:=(l0.alloc (.cells #[.i 0] 3)).cell 0;have c3:=(l0.alloc (.cells #[.i 0] 3)).cell 1;simp only[aP,aZ]at c0 c1 c2 c3;refine eY 7 (Two 6 E.drew (E.drew.alloc (.cells #[.i 0] 3))) (fun _=>eQ) (by kernel_rfl) (by kernel_rfl) (Two.start _ _ _) ?_
    iterate 7 (refine bE ?_; apply Exists.intro)
    refine cC ⟨?pers,?walk⟩
    case walk=>
     iterate 6
      apply bQ (by kernel_rfl) (by intro t w h; cases h; exact trivial) rfl
      .intro X W' s hX hw hV Z;have f0:=s.all (P:=fun W=>W.cell? ⟨wr.heap.size,0,none⟩=some (.i b.a)) c0 c2;have f1:=s.all (P:=fun W=>W.cell? ⟨wr.heap.size,1,none⟩=some (.i b.o)) c1 c3
       first
        |(go_wp2_with fail; exact⟨rfl,_,rfl,s.other (by decide),aV,rfl⟩)
        |(go_wp2_with fail; refine (y0.o _ _).mono ?_; rintro e m ⟨rfl,rfl⟩; go_wp2_with fail; exact⟨rfl,_,rfl,s.other (by decide),aV,rfl⟩)
      simp only[Act.put,aE,aC,aD,aS,aT]
     apply bQ (by kernel_rfl) (by intro t w h; cases h; exact trivial) rfl
     .intro X W' s hX hw hV Z;obtain rfl:=s.1 hX;go_wp2_with fail;exact⟨rfl,_,rfl,Two.at_,aV,rfl⟩
     simp only[Act.put,aE,aC,aD,aS,aT];intro W9 s Z;obtain rfl:=s.2 rfl;simp only[bS,bU];go_wp2_with fail;have e4:Bw' E ((E.alloc (.cells #[.i (b.a+aU b.o)] 3)).drew):=bL (ba' E _);have n4:Blk ((E.alloc (.cells #[.i (b.a+aU b.o)] 3)).drew) E.heap.size 3 [.i (b.a+aU b.o)]:=Blk.new E 3 [.i (b.a+aU b.o)];generalize (E.alloc (.cells #[.i (b.a+aU b.o)] 3)).drew=W4 at *;have h4:=(H.o.below I.b).below e4;have d4:=(HD.o.below I.b).below e4;have aQ:=I.a.below e4 I.a.lt;obtain⟨r,hr⟩:=nm' (G.any (qP (aU z) b));have b2:=Ub z d3.o j0.a;rw[hr]at b2;have p2:=kp (by
      have:=uO.2.1 lv G (qP (aU z) b) 256 #[.pointer (some ⟨w.heap.size,0,none⟩),.pointer (some ⟨wr.heap.size,0,none⟩),.pointer (some ⟨E.heap.size,0,none⟩)] W4.heap.size W4 ((b3.o W4 h4.chg).sl eV) (aN _) j0.D (enters_of func256 (by kernel_rfl) rfl) (fun W x F z0=>Ua x (aU z) b w.heap.size wr.heap.size E.heap.size W (h4.size.below z0 h4.size.lt) (aQ.below z0 aQ.lt) (n4.below z0 n4.lt) (j0.a x F).1 (j0.a x F).2.1);rw[hr]at this;exact this)
     have V:=k'3 h4 d4 aQ;have p0:=kp b2;go_wp2_with fail;refine mb' (p2.o) fun m a0=>?_;have d:=kp (V.a.below a0);have e0:=kp (V.b.below a0);have m0:=kp (V.C.below a0 V.C.lt);have j1:=kp (show g<m.heap.size from cY (V.b.lt g Q.o.symm).2 a0.size);have HT:=kp (Ol (G.map (·.x.b)) b m3 o1)
     cases r
     .have l5:=m0.o.load (P:=prog) (k:=2) rfl;have a3:=kp d.o.row;have g2:Sl (m.alloc (.cells #[.i b.a,.i b.o] 262)) (m.heap.size+1) (.slice (some ⟨m.heap.size,0,none⟩) 1 1) Bk.cells [b]:=gG (enc:=Bk.cells) m 262 b;have m1:=a3.o.alloc (.cells #[.i b.a,.i b.o] 262);have a1:=ba' m (.cells #[.i b.a,.i b.o] 262);obtain⟨W2,l3⟩:=nm' (m.alloc (.cells #[.i b.a,.i b.o] 262));rw[l3]at g2 m1 a1;have y:=k'4 g2 m1 a1 (show w.heap.size≤W2.heap.size from aB (d.o.chg.size) a1.size);go_wp2_with (at_builtin; refine jD (enc:=Bk.cells) W2 rfl (.tmp 33) (.tmp 35) 38 rfl (w.heap.size) 262 nY iH rfl (by omega) cO y.b rfl y.a rfl (fun a _=>lJ a) ?_ ?_ y.D ?_)
      .have q:=d.o.few; unfold maxLen; (try simp); omega
      .have q:=d.o.few; (try simp); omega
      intro v3 w3 m4 m5 y1 a4;have z4:=kp ((y.c.mono (d.o.chg.size)).trans (y.b.grew y1 y.D));have z2:=kp m4;have o0:=kp y1;have q2:=kp a4;go_wp2_with fail;have d1:=kp (show OR w3 _ 262 2 N Bk.cells f from aM.chg (e0.o.below y.c) (eX o0.o) fun i n e=>by rw[Q.o]at n; exact I.C i n e);go_roundw
      case rel=>
       refine⟨_,_,f,T++[b],rfl,rfl,d1.o,z2.o,fun i n e=>?_,?_,fun x F=>d.o.small x (by simp[F]),?_,?_,?_⟩
       .rw[Q.o]at n;rcases q2.o i e with h|h
        .exact I.C i n h
        .have q:=y.c.size;have h2:=j1.o
         cases n;omega
       .have q:=d.o.eq;rw[yA,HT.o,p0.o,aK (show (!false)=true from rfl)]at q;rw[←q];simp
       .have q:=d.o.few;have h2:=sI b f;simp only[bF,eS,nL];omega
       .exact (d.o.chg.then y.c).trans (eX o0.o) fun i n e=>by have:=(y.b.lt e).1; omega
       .exact (d.o.size.below y.c d.o.size.lt).chg (eX o0.o) (y.b.ne_blk (d.o.size.below y.c d.o.size.lt) (by decide))
      case measure=>
       rw[HM.o,xZ d1.o.sl];exact sI b f
     .have z1:=m0.o.cell 1;simp only[aP,aZ]at z1
      by_cases Y:0<b.o
      .have g0:decide (0<b.o)=true:=by simpa using Y
       have U:=kp Y;have e3:=kp (Uc Y o1);have o5:=fX (b.o-1);have j2:=(show Blk m.drew wr.heap.size 262 [.i b.a,.i b.o] from m0.o)
       have c0:=j2.cell 0;have c2:=(j2.alloc (.cells #[.i b.a,.i (b.o-1),.i (b.a+aU (b.o-1)),.i (b.o-1)] 262)).cell 0;simp only[aP]at c0 c2;go_wp2_with fail;refine eY 13 (Two 12 m.drew (m.drew.alloc (.cells #[.i b.a,.i (b.o-1),.i (b.a+aU (b.o-1)),.i (b.o-1)] 262))) (fun _=>eQ) (by kernel_rfl) (by kernel_rfl) (Two.start _ _ _) ?_
       iterate 13 (refine bE ?_; apply Exists.intro)
       refine cC ⟨?_,?_⟩
       rotate_left
       iterate 12
        apply bQ (by kernel_rfl) (by intro t w h; cases h; exact trivial) rfl
        .intro X W' s hX hw hV Z;have f0:=s.all (P:=fun W=>W.cell? ⟨wr.heap.size,0,none⟩=some (.i b.a)) c0 c2
         first
          |(go_wp2_with fail; exact⟨rfl,_,rfl,s.other (by decide),aV,rfl⟩)
          |(go_wp2_with fail; refine (y0.o _ _).mono ?_; rintro e w6 ⟨rfl,rfl⟩; go_wp2_with fail; exact⟨rfl,_,rfl,s.other (by decide),aV,rfl⟩)
        simp only[Act.put,aE,aC,aD,aS,aT]
       apply bQ (by kernel_rfl) (by intro t w h; cases h; exact trivial) rfl
       .intro X W' s hX hw hV Z;obtain rfl:=s.1 hX;go_wp2_with fail;exact⟨rfl,_,rfl,Two.at_,aV,rfl⟩
       simp only[Act.put,aE,aC,aD,aS,aT];intro W9 s Z;obtain rfl:=s.2 rfl;simp only[bS,bU];have a7:Bw' m (m.alloc (.cells #[.i b.a,.i (b.o-1),.i (b.a+aU (b.o-1)),.i (b.o-1)] 262)).drew:=bL (ba' m _);have n7:Blk (m.alloc (.cells #[.i b.a,.i (b.o-1),.i (b.a+aU (b.o-1)),.i (b.o-1)] 262)).drew m.heap.size 262 (aO Bk.cells [⟨b.a,b.o-1⟩,⟨b.a+aU (b.o-1),b.o-1⟩]):=Blk.new m 262 (aO Bk.cells [⟨b.a,b.o-1⟩,⟨b.a+aU (b.o-1),b.o-1⟩]);have h7:=d.o.below a7;have d7:=e0.o.below a7;have HI:=kp (show Calls prog 257 #[N,.i 0,.slice (some ⟨m.heap.size,0,none⟩) 2 2] (m.alloc (.cells #[.i b.a,.i (b.o-1),.i (b.a+aU (b.o-1)),.i (b.o-1)] 262)).drew _ from
        Hd (S:=fun i=>some i=L.ownBlock∨w.heap.size≤i) (v:=N) (l:=f) (l2:=[⟨b.a,b.o-1⟩,⟨b.a+aU (b.o-1),b.o-1⟩]) 0 m.heap.size _ d7 n7 (fun e=>by rw[Q.o]at e; injection e with e; have:=j1.o; omega) (dJ _) (by simp) (fun i n=>.inr (aB (aB h7.chg.size (aN _)) n)) (by have q:=d.o.few; have h2:=sI b f; have h3:=In f; simp only[eS,nL]; omega))
       have O:=k'2 h7 d7;go_wp2_with fail;refine (HI.o).mono ?_;rintro e w8 ⟨v8,rfl,j4,p3,y3⟩;have g1:=kp (show OR w8 _ 262 2 v8 Bk.cells ([⟨b.a,b.o-1⟩,⟨b.a+aU (b.o-1),b.o-1⟩]++f) from by simpa only[kB,aS,bU] using j4);have d0:=k'2 p3 y3;go_wp2_with fail;go_roundw
       case rel=>
        refine⟨_,_,[⟨b.a,b.o-1⟩,⟨b.a+aU (b.o-1),b.o-1⟩]++f,T,rfl,rfl,g1.o,O.a.row.chg d0.a (fun i n e=>by rw[Q.o]at e; exact I.C i e n),fun i n e=>?_,?_,fun x F=>?_,?_,?_,?_⟩
        .rcases d0.B i n with h|h
         .rw[Q.o]at h;exact I.C i h e
         .have:=(O.a.row.lt e).2;omega
        .have q:=d.o.eq;rw[yA,HT.o,p0.o,aF (by simp),aK U.o]at q;rw[←q];show T++(dL _ _ _++(dL _ _ _++_))=_;simp only[cH];rfl
        .have p5:=e3.o;simp only[aT,aS,bD]at F;rcases F with rfl|rfl|F
         .exact⟨⟨by simp only; omega,by simp only; omega⟩,o3,by simp only; omega⟩
         .exact⟨⟨by simp only; omega,by simp only; omega⟩,by simp only; omega,by simp only; omega⟩
         .exact d.o.small x (by simp[F])
        .have q:=d.o.few;have h2:=Fi (b:=b) f U.o;show kW (⟨b.a,b.o-1⟩::⟨b.a+aU (b.o-1),b.o-1⟩::f)+_≤_;omega
        .refine O.a.chg.trans d0.a fun i n e=>?_;rcases (O.B.lt i e).1 with h|h
         .exact h
         .omega
        .exact O.a.size.chg d0.a (fun e=>aM.not_blk O.B O.a.size (by decide) e)
       case measure=>
        rw[HM.o,xZ g1.o.sl];exact Fi (b:=b) f U.o
       exact⟨pv',pv',pv',pv',pv',pv',pv',pv',pv',pv',pv',pv',pv',trivial⟩
      .have g0:decide (0<b.o)=false:=by simpa using Y
       have U:=kp Y;go_wp2_with fail;go_roundw
       case rel=>
        refine⟨_,_,f,T,rfl,rfl,e0.o,d.o.row,fun i n=>by rw[Q.o]at n; exact I.C i n,?_,fun x F=>d.o.small x (by simp[F]),?_,d.o.chg,d.o.size⟩
        .have q:=d.o.eq;rw[yA,HT.o,p0.o,aF (by simp),aF U.o,aS]at q;exact q
        .have q:=d.o.few;have h2:=sI b f;omega
       case measure=>
        rw[HM.o,xZ e0.o.sl];exact sI b f
    case pers=>exact⟨pv',pv',pv',pv',pv',pv',pv',trivial⟩
end
section
attribute [-go_sem] loadCellsFrom storeCells
attribute [local go_sem] aX
def qQ(w:World)(gi gr:Nat)(o:Option (List Ob×List UInt8))(e:Ending)(w':World):Prop:=
 Chg (fun i=>i=gr) w w'∧match o with
  |some (xs,r)=>∃v ps,e=.returned v∧Ow w' w.heap.size 264 5 v ObV.cells ps∧Rws w' w.heap.size ps∧ps.map (·.x)=xs∧bX w' gi gr r
  |none=>e=.panicked gP
section
variable {w w':World}{gi gr:Nat}{ps:List ObV}{r:List UInt8}{v:Value}{o:Option (List Ob×List UInt8)}
theorem qQ.some(c:o=some (ps.map (·.x),r))(a:Chg (fun i=>i=gr) w w')(d:Ow w' w.heap.size 264 5 v ObV.cells ps)(e:Rws w' w.heap.size ps)(b:bX w' gi gr r):qQ w gi gr o (.returned v) w':=by
 subst c;exact⟨a,v,ps,rfl,d,e,rfl,b⟩
theorem qQ.none(b:o=none)(a:Chg (fun i=>i=gr) w w'):qQ w gi gr o (.panicked gP) w':=by
 subst b;exact⟨a,rfl⟩
end
theorem Ue(n a:Int)(c:a<n)(f:Value)(w:World):Calls prog 227 #[.i n,.i a,f] w fun e w'=>e=.panicked gP∧w'=w:=by
 have g:decide (n≤a)=false:=by simp; omega
 have b:=kp qO;go_enter func227,ntmps227;go_wp2_with fail;refine (b.o _).mono ?_;rintro e d ⟨rfl,rfl⟩;exact⟨rfl,rfl,rfl⟩
theorem Uf(n:Nat)(U:Int)(hn:(n:Int)≤U)(hm:U≤65536){w:World}{gi gr:Nat}{l:List UInt8}(h:bX w gi gr l):
  Calls prog 227 #[.i n,.i U,.func (.func 228) #[.pointer (some ⟨gi,0,none⟩)] #[]] w (qQ w gi gr (bN obP n l)):=by
 have g:decide ((n:Int)≤U)=true:=by simpa using hn
 have HG:=kp qN;have HO:=kp (fun(W:World)(l:List UInt8)(h:bX W gi gr l)=>Tz h);have HI:=kp h;have J:=k'2 hn hm;have L:=k'2 h.blk.lt h.rd.lt;obtain⟨R,hR⟩:=nm' (bN obP n l);rw[hR];have Z:=kp hR;go_enter func227,ntmps227;go_wp2_with fail;refine mb' (HG.o _) fun w' o1=>?_;obtain rfl:=o1.symm;go_wp2_with fail
 go_loopw [7,13] (fun v i wr=>∃k:Nat,k≤n∧i=.i k∧∃ps r,bN obP k l=some (ps.map (·.x),r)∧ps.length=k∧Ow wr w.heap.size 264 5 v ObV.cells ps∧Rws wr w.heap.size ps∧bX wr gi gr r∧Chg (fun i=>i=gr) w wr) (fun _ i _=>n-(intOf i).toNat)
 case atStart=>exact⟨0,by omega,rfl,[],l,rfl,rfl,Ow.nil _ _ _ _ _,⟨fun _ h=>(nomatch h),List.Pairwise.nil⟩,HI.o,Chg.refl _ _⟩
 case round=>
  obtain⟨k,hk,rfl,ps,r,y0,p1,g1,l1,q0,o0⟩:=hrel;have f:=k'6 y0 p1 g1 l1 q0 o0
  by_cases q1:k<n
  .have g3:(k:Int)<(n:Int):=by omega
   have y1:(n:Int)≤65536:=by have M:=J.a; have N:=J.B; omega
   have O:=kp (HO.o wr r f.e)
   cases hx:obP r with
   |none=>
    rw[hx]at O;have V:=kp hx;go_wp2_with fail;refine O.o.mono ?_;rintro e H ⟨K,rfl⟩;go_wp2_with fail;have z0:bN obP n l=none:=Cc (i:=k+1) (by rw[pF,f.a]; simp only[]; rw[V.o]) (by omega);exact⟨rfl,qQ.none (by rw[←Z.o,z0]) (f.F.trans K fun _ _ h=>h)⟩
   |some p=>
    obtain⟨x,r'⟩:=p;rw[hx]at O;have V:=kp hx;go_wp2_with fail;refine O.o.mono ?_;rintro e H ⟨K,⟨⟨s,⟨q,y⟩,ws,ls⟩,C,A⟩,rfl,rfl,S,T,m0,p0⟩;simp only[ObV.cells];have b0:=aB f.F.size K.size;have b1:∀z∈ps,∀i,i=gr→z.wv.ownBlock≠some i∧z.lv.ownBlock≠some i:=fun z G i j=>⟨fun e=>by have M:=((f.d.row z G).1).lt e; have N:=L.B; omega,fun e=>by have M:=((f.d.row z G).2).lt e; have N:=L.B; omega⟩
    have m1:Rws H w.heap.size (ps++[⟨⟨s,⟨q,y⟩,ws,ls⟩,C,A⟩]):=(f.d.chg K b1).snoc (S.mono f.F.size) (T.mono f.F.size) m0 fun z G=>by
     have a1:=fun i j=>((f.d.row z G).1).lt (i:=i) j;have a2:=fun i j=>((f.d.row z G).2).lt (i:=i) j;refine⟨fun i j I=>?_,fun i j I=>?_,fun i j I=>?_,fun i j I=>?_⟩
     .have:=a1 i j; have:=S.lt I; omega
     .have:=a1 i j; have:=T.lt I; omega
     .have:=a2 i j; have:=S.lt I; omega
     .have:=a2 i j; have:=T.lt I; omega
    have g0:=kp ((f.c).chg K fun i j e=>by have M:=(f.c).lt j; have N:=L.B; omega);have d1:=Il s q y S.one T.one;have P:=k'4 K p0 b0 d1;have d0:Sl (H.alloc (.cells #[.i s,.i q,.i y,C,A] 264)) (H.heap.size+1) (.slice (some ⟨H.heap.size,0,none⟩) 1 1) ObV.cells [⟨⟨s,⟨q,y⟩,ws,ls⟩,C,A⟩]:=gG (enc:=ObV.cells) H 264 ⟨⟨s,⟨q,y⟩,ws,ls⟩,C,A⟩;have a0:=g0.o.alloc (.cells #[.i s,.i q,.i y,C,A] 264);have Q:=ba' H (.cells #[.i s,.i q,.i y,C,A] 264);obtain⟨W2,l0⟩:=nm' (H.alloc (.cells #[.i s,.i q,.i y,C,A] 264));rw[l0]at d0 a0 Q;have m:=k'5 d0 a0 Q (m1.below Q) (show w.heap.size≤W2.heap.size from aB b0 Q.size);go_wp2_with (at_builtin; refine uP (enc:=ObV.cells) W2 rfl (.tmp 15) (.tmp 18) 36 rfl w.heap.size 264 xC tW rfl (by omega) eV m.b rfl m.a rfl (fun a ha=>by rw[bZ.1 ha]; exact P.D) ?_ ?_ m.E ?_)
    .have M:=f.b; have N:=J.a; have h3:=J.B; unfold maxLen; (try simp); omega
    .have M:=f.b; have N:=J.a; have h3:=J.B; (try simp); omega
    intro v3 w3 j1 X;have Y:=kp ((m.c.mono P.c).trans (m.b.grew X m.E));have j0:=kp (show Rws w3 w.heap.size (ps++[⟨⟨s,⟨q,y⟩,ws,ls⟩,C,A⟩]) from⟨fun z G=>⟨m.b.other ((m.d.row z G).1) (by decide) X,m.b.other ((m.d.row z G).2) (by decide) X⟩,m.d.sep⟩);have e0:=kp j1;go_wp2_with fail;go_roundw
    case rel=>
     refine⟨k+1,by omega,by go_num,ps++[⟨⟨s,⟨q,y⟩,ws,ls⟩,C,A⟩],r',?_,by simp[f.b],e0.o,j0.o,?_,?_⟩
     .rw[pF,f.a];simp only[];rw[V.o];simp
     .exact P.b.at_ Y.o L.a L.B
     .exact (f.F.trans P.a fun _ _ h=>h).thenB Y.o
    case measure=>simp[intOf]; omega
  .obtain rfl:k=n:=by omega
   go_wp2_with fail;go_ret;exact qQ.some (by rw[←Z.o,f.a]) f.F f.c f.d f.e
end
end Go.Proofs.YtoncgpddjmgbfaaGreat
