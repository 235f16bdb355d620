import Derived.Test.YtdoopoapbffpbaaGreatZ04
import Derived.Test.YtdoopoapbffpbaaGreatZ06
import Derived.Test.YtdoopoapbffpbaaGreatZ15
import Derived.Recover
namespace Go.Proofs.YtdoopoapbffpbaaGreat
open Go.RowKit Go.Proofs.Tryz
set_option maxRecDepth 100000
set_option maxHeartbeats 12800000
set_option linter.unusedVariables false
set_option linter.unusedSimpArgs false
section
def aS(n:Int):List UInt8:=beN 4 n.toNat
def cD(n:Int):List UInt8:=beN 8 (kP n)
theorem gX(n:Int):(aS n).length=4:=jZ 4 _
theorem uZ(n:Int):(cD n).length=8:=jZ 8 _
def iZ(x:Ob):List UInt8:=aS x.h++aS x.b.a++aS x.ws.length++aS x.ls.length++x.ws.flatMap cD++x.ls.flatMap aS
def cT(h:Hp):List UInt8:=aS h.order++aS h.next++h.tops.flatMap aS++aS h.obs.length++h.obs.flatMap iZ
def jH(r:Rw):List UInt8:=aS r.c++aS r.s++aS r.k++cD r.v
def gI(s:St):List UInt8:=aS (cT s.h).length++cT s.h++aS s.rows.length++s.rows.flatMap jH
def bF(l:List UInt8):Option (Int×List UInt8):=if (num l).2.2=0 then some ((num l).1,l.drop 4) else none
def eY(l:List UInt8):Option (Int×List UInt8):=if (aA l).2.2=0 then some ((aA l).1,l.drop 8) else none
def aZ{α:Type}(one:List UInt8→Option (α×List UInt8)):Nat→List UInt8→Option (List α×List UInt8)
 |0,l=>some ([],l)
 |n+1,l=>match one l with
  |none=>none
  |some (x,r)=>match aZ one n r with
   |none=>none
   |some (xs,r')=>some (x::xs,r')
theorem pR{α:Type}{one:List UInt8→Option (α×List UInt8)}{put:α→List UInt8}(r:List UInt8):∀(xs:List α),(∀x∈xs,∀r,one (put x++r)=some (x,r))→aZ one xs.length (xs.flatMap put++r)=some (xs,r)
 |[],_=>rfl
 |x::xs,h=>by
  rw[nC,eV,cR];unfold aZ;rw[h x (by simp)];dsimp only;rw[pR r xs fun y a=>h y (by simp[a])]
def obP(l:List UInt8):Option (Ob×List UInt8):=
 match aZ bF 4 l with
 |some ([h,a,w,k],r)=>
  if bX w k<0 then none else
  match aZ eY w.toNat r with
  |none=>none
  |some (ws,r)=>match aZ bF k.toNat r with
   |none=>none
   |some (ls,r)=>some (⟨h,⟨a,bX w k⟩,ws,ls⟩,r)
 |_=>none
def eS(order next t0 t1 t2 t3:Int)(obs:List Ob):Hp:=⟨order,next,t0,t1,t2,t3,obs,cC (obs.map (·.b)) order.toNat 0⟩
def hpP(l:List UInt8):Option (Hp×List UInt8):=
 match aZ bF 7 l with
 |some ([order,next,t0,t1,t2,t3,n],r)=>
  if 256<n then none else
  match aZ obP n.toNat r with
  |none=>none
  |some (obs,r)=>some (eS order next t0 t1 t2 t3 obs,r)
 |_=>none
def eZ(l:List UInt8):Option Hp:=
 match hpP l with
 |some (h,[])=>if cO h=true then some h else none
 |_=>none
def eP:Int→List Rw→Bool
 |_,[]=>true
 |last,r::l=>(decide (last<r.c)&&decide (r.c≤4))&&(aF r.s 1 1000000&&(aF r.k 0 65535&&eP r.c l))
def stB(s:St):Bool:=cO s.h&&eP 0 s.rows
def rwP(l:List UInt8):Option (Rw×List UInt8):=
 match aZ bF 3 l with
 |some ([c,s,k],r)=>match eY r with
  |none=>none
  |some (v,r)=>some (⟨c,s,k,v⟩,r)
 |_=>none
def dM(l:List UInt8):Option St:=
 if (dJ l).2.2=0 then
  match eZ (dJ l).1.data.toList with
  |none=>none
  |some h=>match bF (l.drop (dJ l).2.1) with
   |none=>none
   |some (n,r)=>if 4<n then none else
    match aZ rwP n.toNat r with
    |some (rows,[])=>if stB ⟨h,rows⟩=true then some ⟨h,rows⟩ else none
    |_=>none
 else none
def inR(z:Int):Prop:= -9223372036854775808≤z∧z≤9223372036854775807
def hpR(h:Hp):Prop:=∀x∈h.obs,∀z∈x.ws,inR z
def stR(s:St):Prop:=hpR s.h∧∀r∈s.rows,inR r.v
theorem jT{n:Int}(a:0≤n)(b:n≤2147483647)(r:List UInt8):bF (aS n++r)=some (n,r):=by
 unfold bF aS;rw[Qf n.toNat r (by omega),aE rfl,wG (jZ 4 _),show ((n.toNat:Nat):Int)=n by omega]
theorem Hl{n:Int}(h:inR n)(r:List UInt8):eY (cD n++r)=some (n,r):=by
 unfold eY cD;rw[Qh n r h.1 h.2,aE rfl,wG (jZ 8 _)]
def okN(n:Int):Prop:=0≤n∧n≤2147483647
theorem Rf{x:Ob}(d:okN x.h)(f:okN x.b.a)(j:bX x.ws.length x.ls.length=x.b.o)(q:0≤x.b.o)(l:∀z∈x.ws,inR z)(g:∀z∈x.ls,okN z)(r:List UInt8):obP (iZ x++r)=some (x,r):=by
 have s:=oP (n:=x.ws.length) (k:=x.ls.length) (by omega);have e:iZ x++r=[x.h,x.b.a,(x.ws.length:Int),(x.ls.length:Int)].flatMap aS++(x.ws.flatMap cD++(x.ls.flatMap aS++r)):=by
  unfold iZ;simp only[nC,zZ,cR,fS]
 have i:=pR (one:=bF) (put:=aS) (x.ws.flatMap cD++(x.ls.flatMap aS++r)) [x.h,x.b.a,(x.ws.length:Int),(x.ls.length:Int)] (fun z c r=>by
  simp only[bA,dW,or_false]at c;rcases c with rfl|rfl|rfl|rfl
  .exact jT d.1 d.2 r
  .exact jT f.1 f.2 r
  .exact jT (by omega) (by omega) r
  .exact jT (by omega) (by omega) r)
 have p:=pR (one:=eY) (put:=cD) (x.ls.flatMap aS++r) x.ws (fun z c r=>Hl (l z c) r);have m:=pR (one:=bF) (put:=aS) r x.ls (fun z c r=>jT (g z c).1 (g z c).2 r);unfold obP;rw[e,show (4:Nat)=[x.h,x.b.a,(x.ws.length:Int),(x.ls.length:Int)].length from rfl,i];dsimp only;rw[aC (by omega),eR,p];dsimp only;rw[eR,m];dsimp only;rw[j]
theorem HOk.okN{h:Hp}(H:HOk h):okN h.order∧okN h.next∧(∀t∈h.tops,okN t)∧∀x∈h.obs,okN x.h∧okN x.b.a∧0≤x.b.o∧∀z∈x.ls,okN z:=by
 have l:=eF H.reg;have m:=H.next;have e:∀t,lF h.obs t→Proofs.YtdoopoapbffpbaaGreat.okN t:=fun t d=>by
  rcases d with rfl|⟨x,c,rfl⟩
  .exact⟨by omega,by omega⟩
  .have:=H.rise.1 x c; exact⟨by omega,by omega⟩
 refine⟨⟨by omega,by omega⟩,⟨by omega,by omega⟩,fun t d=>e t (H.tops t d),fun x c=>?_⟩;have i:=H.rise.1 x c;have f:=gV H.reg (H.each x c).2;have j:=nJ (o:=h.order) (by omega);have k:=eG x.b.o;exact⟨⟨by omega,by omega⟩,⟨by omega,by omega⟩,f.1,fun z g=>e z (H.links x c z g)⟩
theorem Rg{h:Hp}(i:cO h=true)(n:hpR h)(r:List UInt8):hpP (cT h++r)=some (h,r):=by
 have H:=eC.1 i;have y:=eF H.reg;obtain⟨f,g,a,d⟩:=H.okN;have A:h.obs.length≤256:=by
  have k:=rD (h.obs.map (·.b));have p:=rD h.free;have q:=nJ (o:=h.order) (by omega);have s:=H.sum;rw[cW]at k;omega
 simp only[Hp.tops,bA,dW,or_false,forall_eq_or_imp,forall_eq]at a;have e:cT h++r=[h.order,h.next,h.t0,h.t1,h.t2,h.t3,(h.obs.length:Int)].flatMap aS++(h.obs.flatMap iZ++r):=by
  unfold cT Hp.tops;simp only[nC,zZ,cR,fS]
 have l:=pR (one:=bF) (put:=aS) (h.obs.flatMap iZ++r) [h.order,h.next,h.t0,h.t1,h.t2,h.t3,(h.obs.length:Int)] (fun z j r=>by
  simp only[bA,dW,or_false]at j;rcases j with rfl|rfl|rfl|rfl|rfl|rfl|rfl
  .exact jT f.1 f.2 r
  .exact jT g.1 g.2 r
  .exact jT a.1.1 a.1.2 r
  .exact jT a.2.1.1 a.2.1.2 r
  .exact jT a.2.2.1.1 a.2.2.1.2 r
  .exact jT a.2.2.2.1 a.2.2.2.2 r
  .exact jT (by omega) (by omega) r)
 have m:=pR (one:=obP) (put:=iZ) r h.obs (fun x c r=>Rf (d x c).1 (d x c).2.1 (H.each x c).1 (d x c).2.2.1 (n x c) (d x c).2.2.2 r);unfold hpP;rw[e,show (7:Nat)=[h.order,h.next,h.t0,h.t1,h.t2,h.t3,(h.obs.length:Int)].length from rfl,l];dsimp only;rw[aC (by omega),eR,m];dsimp only;unfold eS;rw[←Qv i]
theorem Rh{h:Hp}(a:cO h=true)(b:hpR h):eZ (cT h)=some h:=by
 have:=Rg a b [];rw[fS]at this;unfold eZ;rw[this];dsimp only;rw[aE a]
theorem jU{α:Type}(f:α→List UInt8)(k:Nat)(a:∀x,(f x).length=k):∀l:List α,(l.flatMap f).length=k*l.length
 |[]=>rfl
 |x::l=>by rw[nC,bB,a,jU f k a l,eV,Nat.mul_succ]; omega
theorem Hm(x:Ob):(iZ x).length=16+8*x.ws.length+4*x.ls.length:=by
 unfold iZ;simp only[bB,gX,jU cD 8 uZ,jU aS 4 gX]
theorem Ri{w l:Nat}(h:0≤bX w l):(1+w+l:Int)≤aJ (bX w l):=by
 have a:=oP (n:=w) (k:=l) (by omega);unfold bX;rw[aE (by unfold aF; simp; omega)];unfold kT aJ
 repeat' split
 all_goals simp<;>omega
theorem Cf{h:Hp}(d:cO h=true):(cT h).length≤4124:=by
 have H:=eC.1 d;have q:=eF H.reg;have i:=rD h.free;have j:=nJ (o:=h.order) (by omega);have k:=H.sum;have g:∀l:List Ob,(∀x∈l,bX x.ws.length x.ls.length=x.b.o∧bN h.order x.b=true)→((l.flatMap iZ).length:Int)≤16*bW (l.map (·.b)):=fun l=>by
  induction l with
  |nil=>intro _; simp[bW]
  |cons x l f=>
   intro c;have a:=c x (by simp);have m:=f fun y e=>c y (by simp[e]);have n:=gV H.reg a.2;have p:=Ri (w:=x.ws.length) (l:=x.ls.length) (by omega);rw[nC,bB,Hm,kM,iU,←a.1];omega
 have r:=g h.obs H.each;unfold cT;simp only[bB,gX,jU aS 4 gX];have:h.tops.length=4:=rfl;omega
theorem vA:∀(l:List Rw)(a:Int),0≤a→eP a l=true→(∀r∈l,okN r.c∧okN r.s∧okN r.k)∧(l.length:Int)+a≤max 4 a
 |[],a,_,_=>by simp; omega
 |r::l,a,e,h=>by
  unfold eP aF at h;simp only[bI,bP]at h;obtain⟨⟨f,g⟩,⟨i,j⟩,⟨m,n⟩,d⟩:=h;obtain⟨i1,o⟩:=vA l r.c (by omega) d;refine⟨fun x b=>?_,by rw[eV]; omega⟩;rcases bA.1 b with rfl|b
  .exact⟨⟨by omega,by omega⟩,⟨by omega,by omega⟩,⟨by omega,by omega⟩⟩
  .exact i1 x b
theorem Rj{x:Rw}(a:okN x.c)(b:okN x.s)(d:okN x.k)(h:inR x.v)(r:List UInt8):rwP (jH x++r)=some (x,r):=by
 have e:jH x++r=[x.c,x.s,x.k].flatMap aS++(cD x.v++r):=by
  unfold jH;simp only[nC,zZ,cR,fS]
 have g:=pR (one:=bF) (put:=aS) (cD x.v++r) [x.c,x.s,x.k] (fun z f r=>by
  simp only[bA,dW,or_false]at f;rcases f with rfl|rfl|rfl
  .exact jT a.1 a.2 r
  .exact jT b.1 b.2 r
  .exact jT d.1 d.2 r)
 unfold rwP;rw[e,show (3:Nat)=[x.c,x.s,x.k].length from rfl,g];dsimp only;rw[Hl h]
theorem Cg{s:St}(g:stB s=true)(f:stR s):dM (gI s)=some s:=by
 have a:=g;unfold stB at a;simp only[bI]at a;have l:=Cf a.1;obtain⟨c,k⟩:=vA s.rows 0 (by omega) a.2;have e:gI s=beN 4 (ByteArray.mk (cT s.h).toArray).size++((ByteArray.mk (cT s.h).toArray).data.toList++(aS s.rows.length++s.rows.flatMap jH)):=by
  unfold gI aS;rw[show (ByteArray.mk (cT s.h).toArray).size=(cT s.h).length from by simp[ByteArray.size],show (ByteArray.mk (cT s.h).toArray).data.toList=cT s.h from by simp];simp only[cR,eR]
 have i:=Qi (ByteArray.mk (cT s.h).toArray) (aS s.rows.length++s.rows.flatMap jH) (by simp[ByteArray.size]; omega);rw[←e]at i;have j:(gI s).drop (4+(ByteArray.mk (cT s.h).toArray).size)=aS s.rows.length++s.rows.flatMap jH:=by
  rw[e,←cR];exact wG (by rw[bB,jZ]; simp[ByteArray.size])
 have d:=pR (one:=rwP) (put:=jH) [] s.rows (fun x b r=>Rj (c x b).1 (c x b).2.1 (c x b).2.2 (f.2 x b) r);rw[fS]at d;unfold dM;rw[i];dsimp only;rw[aE rfl,Rh a.1 f.1];dsimp only;rw[j,jT (by omega) (by omega)];dsimp only;rw[aC (by omega),eR,d];dsimp only;rw[aE (show stB ⟨s.h,s.rows⟩=true from g)]
theorem Rk{s t:St}(d:stB s=true)(b:stR s)(e:stB t=true)(c:stR t)(h:gI s=gI t):s=t:=by
 have a:=Cg d b;rw[h,Cg e c]at a;injection a with a
 exact a.symm
end
section
def iD:List PanicEntry:=[{v:=.iface 165 (.agg #[]),recovered:=false}]
theorem rO(w:World):Calls prog 76 #[.bool true] w fun e w'=>e=.returned (.tuple #[])∧w'=w:=by
 go_enter func76,ntmps76;go_wp2_with fail;go_end0;exact⟨rfl,rfl⟩
theorem rP(w:World):Calls prog 76 #[.bool false] w fun e w'=>e=.panicked iD∧w'=w:=by
 go_enter func76,ntmps76;go_wp2_with fail;exact⟨rfl,rfl,rfl⟩
theorem Lc(n:Int)(w:World):Calls prog 122 #[.i n,.i 0] w fun e w'=>e=.returned (.i n)∧w'=w:=by
 go_enter func122,ntmps122;go_wp2_with fail;go_ret;exact⟨rfl,rfl⟩
theorem Ld(n c:Int)(a:c≠0)(w:World):Calls prog 122 #[.i n,.i c] w fun e w'=>e=.panicked iD∧w'=w:=by
 have g:(c != 0)=true:=by simp[a]
 go_enter func122,ntmps122;go_wp2_with fail;exact⟨rfl,rfl,rfl⟩
theorem We(n:ByteArray)(w:World):Calls prog 71 #[.string n,.i 0] w fun e w'=>e=.returned (.string n)∧w'=w:=by
 go_enter func71,ntmps71;go_wp2_with fail;go_ret;exact⟨rfl,rfl⟩
theorem Wg(n:ByteArray)(c:Int)(a:c≠0)(w:World):Calls prog 71 #[.string n,.i c] w fun e w'=>e=.panicked iD∧w'=w:=by
 have g:(c != 0)=true:=by simp[a]
 go_enter func71,ntmps71;go_wp2_with fail;exact⟨rfl,rfl,rfl⟩
structure cK(w:World)(gi gr:Nat)(l:List UInt8):Prop where
 blk:Blk w gi 129 [.pointer (some ⟨gr,0,none⟩)]
 rd:fO w gr l
 ne:gi≠gr
section
variable {w w':World}{gi gr:Nat}{l:List UInt8}
theorem cK.below(h:cK w gi gr l)(a:Bw' w w'):cK w' gi gr l:=⟨h.blk.below a h.blk.lt,h.rd.below a,h.ne⟩
theorem fO.rblk(h:fO w gr l):∃v,Blk w gr 171 [v]:=by obtain⟨A,n,c,h,-⟩:=h; exact⟨_,h⟩
theorem cK.tag(h:cK w gi gr l){i:Nat}{t:TypeId}{a:List Value}(b:Blk w i t a)(c:t≠171):i≠gr:=by
 obtain⟨v,d⟩:=h.rd.rblk;exact b.ne d c
theorem cK.step{l':List UInt8}(h:cK w gi gr l)(b:fO w' gr l')(a:Chg (fun i=>i=gr) w w'):cK w' gi gr l':=⟨h.blk.chg a h.ne,b,h.ne⟩
theorem oS{w w':World}{g:Nat}(h:w.grownBy w' (some g)):Chg (fun i=>i=g) w w':=⟨h.os,h.tape,h.output,h.size,fun k a b=>h.block k a fun e=>b (by cases e; rfl)⟩
end
theorem iN{w:World}{gi gr:Nat}{l r:List UInt8}{n:Int}(h:cK w gi gr l)(b:bF l=some (n,r)):
  Calls prog 74 #[.pointer (some ⟨gi,0,none⟩)] w fun e w'=>e=.returned (.i n)∧cK w' gi gr r∧Chg (fun i=>i=gr) w w':=by
 unfold bF at b
 by_cases c:(num l).2.2=0
 rotate_left
 .rw[aC c]at b; cases b
 rw[aE c]at b;obtain⟨q,s⟩:(num l).1=n∧l.drop 4=r:=by cases b; exact⟨rfl,rfl⟩
 have p:(num l).2.1=4:=(uV l c).1;have g:=kp (by have:=Ge gr l w h.rd; rw[c,q,p,s]at this; exact this);have y:=h.blk.cell 0;simp only[aG]at y;have k:=kp h;have j:=kp (Lc n);go_enter func74,ntmps74;go_wp2_with fail;refine (g.o).mono ?_;rintro e z ⟨rfl,m,f⟩;have d:=k'2 (k.o.step m (oS f)) (oS f);go_wp2_with fail;refine mb' (j.o _) fun w' x=>?_;obtain rfl:=x.symm;go_wp2_with fail;go_ret;exact⟨rfl,d.a,d.B⟩
theorem lL{w:World}{gi gr:Nat}{l:List UInt8}(h:cK w gi gr l)(a:bF l=none):
  Calls prog 74 #[.pointer (some ⟨gi,0,none⟩)] w fun e w'=>e=.panicked iD∧Chg (fun i=>i=gr) w w':=by
 unfold bF at a
 by_cases b:(num l).2.2=0
 .rw[aE b]at a; cases a
 have d:=kp (Ge gr l w h.rd);have j:=h.blk.cell 0;simp only[aG]at j;have f:=kp (fun W=>Ld (num l).1 (num l).2.2 b W);go_enter func74,ntmps74;go_wp2_with fail;refine (d.o).mono ?_;rintro e m ⟨rfl,k,g⟩;have c:=kp (oS g);go_wp2_with fail;refine (f.o _).mono ?_;rintro e n ⟨rfl,rfl⟩;exact⟨rfl,rfl,c.o⟩
theorem Le{w:World}{gi gr:Nat}{l r:List UInt8}{n:Int}(h:cK w gi gr l)(b:eY l=some (n,r)):
  Calls prog 124 #[.pointer (some ⟨gi,0,none⟩)] w fun e w'=>e=.returned (.i n)∧cK w' gi gr r∧Chg (fun i=>i=gr) w w':=by
 unfold eY at b
 by_cases c:(aA l).2.2=0
 rotate_left
 .rw[aC c]at b; cases b
 rw[aE c]at b;obtain⟨q,s⟩:(aA l).1=n∧l.drop 8=r:=by cases b; exact⟨rfl,rfl⟩
 have p:(aA l).2.1=8:=(Bp l c).1;have g:=kp (by have:=Gf gr l w h.rd; rw[c,q,p,s]at this; exact this);have y:=h.blk.cell 0;simp only[aG]at y;have k:=kp h;have j:=kp (Lc n);go_enter func124,ntmps124;go_wp2_with fail;refine (g.o).mono ?_;rintro e z ⟨rfl,m,f⟩;have d:=k'2 (k.o.step m (oS f)) (oS f);go_wp2_with fail;refine mb' (j.o _) fun w' x=>?_;obtain rfl:=x.symm;go_wp2_with fail;go_ret;exact⟨rfl,d.a,d.B⟩
theorem Lf{w:World}{gi gr:Nat}{l:List UInt8}(h:cK w gi gr l)(a:eY l=none):
  Calls prog 124 #[.pointer (some ⟨gi,0,none⟩)] w fun e w'=>e=.panicked iD∧Chg (fun i=>i=gr) w w':=by
 unfold eY at a
 by_cases b:(aA l).2.2=0
 .rw[aE b]at a; cases a
 have d:=kp (Gf gr l w h.rd);have j:=h.blk.cell 0;simp only[aG]at j;have f:=kp (fun W=>Ld (aA l).1 (aA l).2.2 b W);go_enter func124,ntmps124;go_wp2_with fail;refine (d.o).mono ?_;rintro e m ⟨rfl,k,g⟩;have c:=kp (oS g);go_wp2_with fail;refine (f.o _).mono ?_;rintro e n ⟨rfl,rfl⟩;exact⟨rfl,rfl,c.o⟩
end
section
theorem cK.at_{w d:World}{gi gr B:Nat}{l:List UInt8}(h:cK w gi gr l)(a:Below B w d)(e:gi<B)(b:gr<B):cK d gi gr l:=by
 obtain⟨A,n,c,g,i,f⟩:=h.rd;exact⟨h.blk.below a e,⟨A,n,c,(a.block gr b).trans g,i.below a (dY b),f⟩,h.ne⟩
structure Rs(w:World)(gi gr:Nat)(t:TypeId)(l:List UInt8)(zs cs:List Value)(W:World):Prop where
 inn:cK W gi gr l
 res:Blk W w.heap.size t zs
 blk:Blk W (w.heap.size+1) t cs
 chg:Chg (fun i=>i=gr) w W
 lti:gi<w.heap.size
 ltr:gr<w.heap.size
section
variable {w W W':World}{gi gr:Nat}{t:TypeId}{l l':List UInt8}{zs cs:List Value}
theorem Rs.new(h:cK w gi gr l)(t:TypeId)(cs:List Value):Rs w gi gr t l cs cs ((w.alloc (.cells cs.toArray t)).alloc (.cells cs.toArray t)):=
 have c:=ba' w (.cells cs.toArray t);have a:=(aL _ (w.alloc (.cells cs.toArray t))).alloc (aD _) (.cells cs.toArray t);have b:=Blk.new (w.alloc (.cells cs.toArray t)) t cs
 ⟨(h.below c).below a,(Blk.new w t cs).below a (Blk.new w t cs).lt,by simpa using b,((Chg.refl _ w).alloc _).alloc _,h.blk.lt,h.rd.lt⟩
theorem Rs.call(h:Rs w gi gr t l zs cs W)(b:cK W' gi gr l')(a:Chg (fun i=>i=gr) W W'):Rs w gi gr t l' zs cs W':=
 ⟨b,h.res.chg a (by have:=h.ltr; omega),h.blk.chg a (by have:=h.ltr; omega),h.chg.trans a fun _ _ h=>h,h.lti,h.ltr⟩
theorem Rs.put(h:Rs w gi gr t l zs cs W)(j:Nat)(u:Value):Rs w gi gr t l zs (cs.set j u) (W.setCell ⟨w.heap.size+1,j,none⟩ u):=
 ⟨h.inn.at_ ((aL (w.heap.size+1) W).setCell (aD _) u) (uF h.lti) (uF h.ltr),h.res.otherCell (by omega) j u,h.blk.setCell j u,h.chg.setCell (.inl (by omega)) j u,h.lti,h.ltr⟩
theorem Rs.grow(h:Rs w gi gr t l zs cs W)(a:Bw' W W'):Rs w gi gr t l zs cs W':=
 ⟨h.inn.below a,h.res.below a h.res.lt,h.blk.below a h.blk.lt,h.chg.then a,h.lti,h.ltr⟩
theorem Rs.end_(h:Rs w gi gr t l zs cs W)(a:Chg (fun i=>i=gr) W W'):Chg (fun i=>i=gr) w W':=h.chg.trans a fun _ _ h=>h
theorem Rs.fin(h:Rs w gi gr t l zs cs W)(xs:List Value):Blk (W.setRow w.heap.size xs.toArray) w.heap.size t xs∧cK (W.setRow w.heap.size xs.toArray) gi gr l∧Chg (fun i=>i=gr) w (W.setRow w.heap.size xs.toArray):=
 ⟨h.res.set xs,h.inn.at_ (cL (aL w.heap.size W) (aD _) _) h.lti h.ltr,h.chg.setRow (.inl (aD _)) _⟩
end
theorem Lg{l r:List UInt8}{x:Rw}(h:rwP l=some (x,r)):∃a b d,bF l=some (x.c,a)∧bF a=some (x.s,b)∧bF b=some (x.k,d)∧eY d=some (x.v,r):=by
 unfold rwP aZ aZ aZ aZ at h
 cases h1:bF l with
 |none=>simp[h1]at h
 |some e=>
  obtain⟨c,a⟩:=e
  cases h2:bF a with
  |none=>simp[h1,h2]at h
  |some f=>
   obtain⟨s,b⟩:=f
   cases h3:bF b with
   |none=>simp[h1,h2,h3]at h
   |some g=>
    obtain⟨k,d⟩:=g
    cases h4:eY d with
    |none=>simp[h1,h2,h3,h4]at h
    |some i=>
     obtain⟨v,j⟩:=i;simp[h1,h2,h3,h4]at h;obtain⟨rfl,rfl⟩:=h;exact⟨a,b,d,rfl,h2,h3,h4⟩
theorem Lh{l:List UInt8}(h:rwP l=none):bF l=none∨∃c a,bF l=some (c,a)∧(bF a=none∨∃s b,bF a=some (s,b)∧(bF b=none∨∃k d,bF b=some (k,d)∧eY d=none)):=by
 unfold rwP aZ aZ aZ aZ at h
 cases h1:bF l with
 |none=>exact .inl rfl
 |some e=>
  obtain⟨c,a⟩:=e;refine .inr ⟨c,a,rfl,?_⟩
  cases h2:bF a with
  |none=>exact .inl rfl
  |some f=>
   obtain⟨s,b⟩:=f;refine .inr ⟨s,b,rfl,?_⟩
   cases h3:bF b with
   |none=>exact .inl rfl
   |some g=>
    obtain⟨k,d⟩:=g;refine .inr ⟨k,d,rfl,?_⟩
    cases h4:eY d with
    |none=>rfl
    |some i=>simp[h1,h2,h3,h4]at h
attribute [-go_sem] loadCellsFrom storeCells
attribute [local go_sem] bC
theorem Wh{w:World}{gi gr:Nat}{l r:List UInt8}{x:Rw}(h:cK w gi gr l)(U:rwP l=some (x,r)):
  Calls prog 75 #[.pointer (some ⟨gi,0,none⟩)] w fun e F=>e=.returned (.agg x.cells.toArray)∧cK F gi gr r∧Chg (fun i=>i=gr) w F:=by
 obtain⟨r1,r2,r3,G,H,I,J⟩:=Lg U;have d:=k'4 G H I J;have E:=kp (Rs.new h 86 z'4);obtain⟨f,xs,g,j⟩:=x;simp only[]at d;go_enter func75,ntmps75;go_wp2_with fail;refine (iN E.o.inn d.a).mono ?_;rintro e w1 ⟨rfl,Q,L⟩;have n:=kp (E.o.call Q L);have V:=n.o.blk.cell 0;have y1:=n.o.blk.frozen 0;simp only[aG]at V;have y:=kp (n.o.put 0 (.i f));simp only[aH]at y;go_wp2_with fail;refine (iN y.o.inn d.b).mono ?_;rintro e w2 ⟨rfl,R,M⟩;have p:=kp (y.o.call R M);have W:=p.o.blk.cell 1;have y2:=p.o.blk.frozen 1;simp only[aG,aK]at W;have z:=kp (p.o.put 1 (.i xs));simp only[aH,aI]at z;go_wp2_with fail;refine (iN z.o.inn d.c).mono ?_;rintro e w3 ⟨rfl,S,N⟩;have q:=kp (z.o.call S N);have X:=q.o.blk.cell 2;have y3:=q.o.blk.frozen 2;simp only[aG,aK]at X;have A:=kp (q.o.put 2 (.i g));simp only[aH,aI]at A;go_wp2_with fail;refine (Le A.o.inn d.D).mono ?_;rintro e w4 ⟨rfl,T,O⟩;have s:=kp (A.o.call T O);have Y:=s.o.blk.cell 3;have y4:=s.o.blk.frozen 3;simp only[aG,aK]at Y;have m:=kp (s.o.put 3 (.i j));simp only[aH,aI]at m;have Z:=m.o.blk.load (P:=prog) (k:=4) rfl;have hS:=m.o.res.store (P:=prog) (cs':=[.i f,.i xs,.i g,.i j]) rfl (jR ⟨f,xs,g,j⟩);have C:=kp (m.o.fin [.i f,.i xs,.i g,.i j]);go_wp2_with fail;have K:=C.a.load (P:=prog) (k:=4) rfl;exact aU (v:=.agg (Rw.cells ⟨f,xs,g,j⟩).toArray) (by simp[results,results75,go_sem,K,Rw.cells]) rfl ⟨rfl,C.B⟩
theorem Wi{w:World}{gi gr:Nat}{l:List UInt8}(h:cK w gi gr l)(O:rwP l=none):
  Calls prog 75 #[.pointer (some ⟨gi,0,none⟩)] w fun e P=>e=.panicked iD∧Chg (fun i=>i=gr) w P:=by
 have d:=kp (Lh O);have j:=kp (Rs.new h 86 z'4);go_enter func75,ntmps75;rcases d with⟨p|⟨H,U,p,x|⟨xs,V,x,A|⟨R,W,A,L⟩⟩⟩⟩
 .go_wp2_with fail;refine mb' (lL j.o.inn p) fun G n=>?_;exact⟨rfl,rfl,j.o.end_ n⟩
 .have d:=k'2 p x;go_wp2_with fail;refine (iN j.o.inn d.a).mono ?_;rintro e J ⟨rfl,r,q⟩;have f:=kp (j.o.call r q);have s:=f.o.blk.cell 0;have K:=f.o.blk.frozen 0;simp only[aG]at s;have g:=kp (f.o.put 0 (.i H));simp only[aH]at g;go_wp2_with fail;refine mb' (lL g.o.inn d.B) fun G n=>?_;exact⟨rfl,rfl,g.o.end_ n⟩
 .have d:=k'3 p x A;go_wp2_with fail;refine (iN j.o.inn d.a).mono ?_;rintro e J ⟨rfl,r,q⟩;have f:=kp (j.o.call r q);have s:=f.o.blk.cell 0;have K:=f.o.blk.frozen 0;simp only[aG]at s;have g:=kp (f.o.put 0 (.i H));simp only[aH]at g;go_wp2_with fail;refine (iN g.o.inn d.b).mono ?_;rintro e Q ⟨rfl,F,E⟩;have k:=kp (g.o.call F E);have I:=k.o.blk.cell 1;have S:=k.o.blk.frozen 1;simp only[aG,aK]at I;have m:=kp (k.o.put 1 (.i xs));simp only[aH,aI]at m;go_wp2_with fail;refine mb' (lL m.o.inn d.C) fun G n=>?_;exact⟨rfl,rfl,m.o.end_ n⟩
 .have d:=k'4 p x A L;go_wp2_with fail;refine (iN j.o.inn d.a).mono ?_;rintro e J ⟨rfl,r,q⟩;have f:=kp (j.o.call r q);have s:=f.o.blk.cell 0;have K:=f.o.blk.frozen 0;simp only[aG]at s;have g:=kp (f.o.put 0 (.i H));simp only[aH]at g;go_wp2_with fail;refine (iN g.o.inn d.b).mono ?_;rintro e Q ⟨rfl,F,E⟩;have k:=kp (g.o.call F E);have I:=k.o.blk.cell 1;have S:=k.o.blk.frozen 1;simp only[aG,aK]at I;have m:=kp (k.o.put 1 (.i xs));simp only[aH,aI]at m;go_wp2_with fail;refine (iN m.o.inn d.c).mono ?_;rintro e X ⟨rfl,N,M⟩;have y:=kp (m.o.call N M);have T:=y.o.blk.cell 2;have Y:=y.o.blk.frozen 2;simp only[aG,aK]at T;have z:=kp (y.o.put 2 (.i R));simp only[aH,aI]at z;go_wp2_with fail;refine mb' (Lf z.o.inn d.D) fun G n=>?_;exact⟨rfl,rfl,z.o.end_ n⟩
end
section
attribute [-go_sem] loadCellsFrom storeCells
attribute [local go_sem] bC
theorem qA{α:Type}(one:List UInt8→Option (α×List UInt8)):∀(n:Nat)(l:List UInt8),aZ one (n+1) l=match aZ one n l with
  |none=>none
  |some (xs,r)=>match one r with
   |none=>none
   |some (x,a)=>some (xs++[x],a)
 |0,l=>by
  simp only[aZ]
  cases one l with
  |none=>rfl
  |some p=>rfl
 |n+1,l=>by
  conv=>lhs; unfold aZ
  conv=>rhs; unfold aZ
  cases h:one l with
  |none=>rfl
  |some p=>
   obtain⟨x,r⟩:=p;simp only[];rw[qA one n r]
   cases h2:aZ one n r with
   |none=>rfl
   |some q=>
    obtain⟨xs,b⟩:=q;simp only[]
    cases h3:one b with
    |none=>rfl
    |some c=>rfl
theorem Do{α:Type}{one:List UInt8→Option (α×List UInt8)}{l:List UInt8}{i:Nat}(h:aZ one i l=none):∀{n:Nat},i≤n→aZ one n l=none:=by
 intro n c
 induction n with
 |zero=>
   obtain rfl:i=0:=by omega
   exact h
 |succ n b=>
  by_cases a:i=n+1
  .rw[←a]; exact h
  .rw[qA,b (by omega)]
theorem Chg.thenB{S:Nat→Prop}{a b c:World}(h:Chg S a b)(k:Below a.heap.size b c):Chg S a c:=⟨k.os.trans h.os,k.tape.trans h.tape,k.output.trans h.output,aB h.size k.size,fun i d e=>(k.block i d).trans (h.block i d e)⟩
def qB{α:Type}(w:World)(gi gr:Nat)(t:TypeId)(k:Nat)(enc:α→List Value)(o:Option (List α×List UInt8))(e:Ending)(w':World):Prop:=
 Chg (fun i=>i=gr) w w'∧match o with
  |some (xs,r)=>∃v,e=.returned v∧Ow w' w.heap.size t k v enc xs∧cK w' gi gr r
  |none=>e=.panicked iD
def vP{α:Type}(val:α→Value)(w:World)(gi gr:Nat)(o:Option (α×List UInt8))(e:Ending)(w':World):Prop:=
 Chg (fun i=>i=gr) w w'∧match o with
  |some (x,r)=>e=.returned (val x)∧cK w' gi gr r
  |none=>e=.panicked iD
section
variable {α:Type}{w w':World}{gi gr:Nat}{t:TypeId}{k:Nat}{enc:α→List Value}{xs:List α}{r:List UInt8}{v:Value}{e:Ending}
theorem qB.some(a:Chg (fun i=>i=gr) w w')(c:Ow w' w.heap.size t k v enc xs)(b:cK w' gi gr r):qB w gi gr t k enc (some (xs,r)) (.returned v) w':=⟨a,v,rfl,c,b⟩
theorem qB.none(a:Chg (fun i=>i=gr) w w'):qB w gi gr t k enc none (.panicked iD) w':=⟨a,rfl⟩
end
theorem Wj{w:World}{gi gr:Nat}{l:List UInt8}(h:cK w gi gr l):Calls prog 74 #[.pointer (some ⟨gi,0,none⟩)] w (vP (fun n=>.i n) w gi gr (bF l)):=by
 cases hp:bF l with
 |none=>exact (lL h hp).mono fun e w' ⟨a,b⟩=>⟨b,a⟩
 |some p=>obtain⟨x,r⟩:=p; exact (iN h hp).mono fun e w' ⟨a,b,c⟩=>⟨c,a,b⟩
theorem Wl{w:World}{gi gr:Nat}{l:List UInt8}(h:cK w gi gr l):Calls prog 124 #[.pointer (some ⟨gi,0,none⟩)] w (vP (fun n=>.i n) w gi gr (eY l)):=by
 cases hp:eY l with
 |none=>exact (Lf h hp).mono fun e w' ⟨a,b⟩=>⟨b,a⟩
 |some p=>obtain⟨x,r⟩:=p; exact (Le h hp).mono fun e w' ⟨a,b,c⟩=>⟨c,a,b⟩
theorem Wm{w:World}{gi gr:Nat}{l:List UInt8}(h:cK w gi gr l):Calls prog 75 #[.pointer (some ⟨gi,0,none⟩)] w (vP (fun x:Rw=>.agg x.cells.toArray) w gi gr (rwP l)):=by
 cases hp:rwP l with
 |none=>exact (Wi h hp).mono fun e w' ⟨a,b⟩=>⟨b,a⟩
 |some p=>obtain⟨x,r⟩:=p; exact (Wh h hp).mono fun e w' ⟨a,b,c⟩=>⟨c,a,b⟩
theorem Wp(n a:Int)(c:a<n)(f:Value)(w:World):Calls prog 73 #[.i n,.i a,f] w fun e w'=>e=.panicked iD∧w'=w:=by
 have g:decide (n≤a)=false:=by simp; omega
 have b:=kp rP;go_enter func73,ntmps73;go_wp2_with fail;refine (b.o _).mono ?_;rintro e d ⟨rfl,rfl⟩;exact⟨rfl,rfl,rfl⟩
theorem Dp:(∀(n:Nat)(q:Int)(K:(n:Int)≤q)(Q:q≤65536)(F:Nat)(one:List UInt8→Option (Int×List UInt8)){w:World}{gi gr:Nat}{l:List UInt8}(h:cK w gi gr l)(V:∀args w,(callFunc F args).run prog w=.ok (.enter F args) w)(R:∀(W:World)(l:List UInt8),cK W gi gr l→Calls prog F #[.pointer (some ⟨gi,0,none⟩)] W (vP (fun n=>.i n) W gi gr (one l))),Calls prog 214 #[.i n,.i q,.func (.func F) #[.pointer (some ⟨gi,0,none⟩)] #[]] w (qB w gi gr 3 1 i1 (aZ one n l)))∧(∀(n:Nat)(q:Int)(K:(n:Int)≤q)(Q:q≤65536)(F:Nat)(one:List UInt8→Option (Rw×List UInt8)){w:World}{gi gr:Nat}{l:List UInt8}(h:cK w gi gr l)(V:∀args w,(callFunc F args).run prog w=.ok (.enter F args) w)(R:∀(W:World)(l:List UInt8),cK W gi gr l→Calls prog F #[.pointer (some ⟨gi,0,none⟩)] W (vP (fun x:Rw=>.agg x.cells.toArray) W gi gr (one l))),Calls prog 73 #[.i n,.i q,.func (.func F) #[.pointer (some ⟨gi,0,none⟩)] #[]] w (qB w gi gr 86 4 Rw.cells (aZ one n l))):=by
 refine⟨?q0,?q1⟩
 case' q0=>have y:=True.intro
 all_goals
  intro n q K Q F one w gi gr l h V R;have g:decide ((n:Int)≤q)=true:=by simpa using K
  have Z:=kp rO;have HO:=kp R;have HI:=kp h;have z:=k'2 K Q;have L:=k'2 h.blk.lt h.rd.lt
  first |go_enter func214,ntmps214|go_enter func73,ntmps73
  go_wp2_with fail;refine mb' (Z.o _) fun w' o0=>?_;obtain rfl:=o0.symm;go_wp2_with fail
  first
  |(have:=y; go_loopw [7,13] (fun v i wr=>∃k:Nat,k≤n∧i=.i k∧∃xs r,aZ one k l=some (xs,r)∧xs.length=k∧Ow wr w.heap.size 3 1 v i1 xs∧cK wr gi gr r∧Chg (fun i=>i=gr) w wr) (fun _ i _=>n-(intOf i).toNat))
  |go_loopw [7,13] (fun v i wr=>∃k:Nat,k≤n∧i=.i k∧∃xs r,aZ one k l=some (xs,r)∧xs.length=k∧Ow wr w.heap.size 86 4 v Rw.cells xs∧cK wr gi gr r∧Chg (fun i=>i=gr) w wr) (fun _ i _=>n-(intOf i).toNat)
  case atStart=>exact⟨0,by omega,rfl,[],l,rfl,rfl,Ow.nil _ _ _ _ _,HI.o,Chg.refl _ _⟩
  case round=>
   obtain⟨k,hk,rfl,xs,r,g0,p0,l0,e0,b0⟩:=hrel;have f:=k'5 g0 p0 l0 e0 b0
   by_cases z0:k<n
   .have g3:(k:Int)<(n:Int):=by omega
    have a1:(n:Int)≤65536:=by have N:=z.a; have O:=z.B; omega
    have G:=kp (HO.o wr r f.d)
    cases hx:one r with
    |none=>
     rw[hx]at G;have M:=kp hx;go_wp2_with (go_at_fn F; refine G.o.mono ?_; rintro e j ⟨A,rfl⟩);have j0:aZ one n l=none:=Do (i:=k+1) (by rw[qA,f.a]; simp only[]; rw[M.o]) (by omega);rw[j0];exact⟨rfl,qB.none (f.E.trans A fun _ _ h=>h)⟩
    |some p=>
     obtain⟨x,r'⟩:=p;rw[hx]at G;have M:=kp hx;go_wp2_with fail
     go_at_fn F
     refine G.o.mono ?_;rintro e j ⟨A,rfl,d0⟩
     first
     |(have:=y; skip)
     |simp only[Rw.cells]
     have U:=kp ((f.c).chg A fun i hi e=>by have N:=(f.c).lt hi; have O:=L.B; omega);have H:=k'3 A d0 (aB f.E.size A.size)
     first
     |(have:=y; have S:Sl (j.alloc (.cells #[.i x] 3)) (j.heap.size+1) (.slice (some ⟨j.heap.size,0,none⟩) 1 1) i1 [x]:=eQ (enc:=i1) j 3 x)
     |have S:Sl (j.alloc (.cells #[.i x.c,.i x.s,.i x.k,.i x.v] 86)) (j.heap.size+1) (.slice (some ⟨j.heap.size,0,none⟩) 1 1) Rw.cells [x]:=eQ (enc:=Rw.cells) j 86 x
     first
     |(have:=y; have P:=U.o.alloc (.cells #[.i x] 3))
     |have P:=U.o.alloc (.cells #[.i x.c,.i x.s,.i x.k,.i x.v] 86)
     first
     |(have:=y; have J:=ba' j (.cells #[.i x] 3))
     |have J:=ba' j (.cells #[.i x.c,.i x.s,.i x.k,.i x.v] 86)
     first
     |(have:=y; obtain⟨I,X⟩:=nm' (j.alloc (.cells #[.i x] 3)))
     |obtain⟨I,X⟩:=nm' (j.alloc (.cells #[.i x.c,.i x.s,.i x.k,.i x.v] 86))
     rw[X]at S P J;have m:=k'4 S P J (show w.heap.size≤I.heap.size from aB (H.C) J.size)
     first
     |(have:=y; go_wp2_with (at_builtin; refine eU (enc:=i1) I rfl (.tmp 15) (.tmp 18) 33 rfl (w.heap.size) 3 mL lT rfl (by omega) cS m.b rfl m.a rfl (fun a _=>pJ a) ?_ ?_ m.D ?_))
     |go_wp2_with (at_builtin; refine eU (enc:=Rw.cells) I rfl (.tmp 15) (.tmp 18) 30 rfl (w.heap.size) 86 rE kO rfl (by omega) fJ m.b rfl m.a rfl (fun a _=>jR a) ?_ ?_ m.D ?_)
     .have N:=f.b; have O:=z.a; have h3:=z.B; unfold maxLen; (try simp); omega
     .have N:=f.b; have O:=z.a; have h3:=z.B; (try simp); omega
     intro v3 w3 m0 Y;have T:=kp ((m.c.mono (H.C)).trans (m.b.grew Y m.D));have a0:=kp m0;have y0:=kp Y;go_wp2_with fail;go_roundw
     case rel=>
      refine⟨k+1,by omega,by go_num,xs++[x],r',by rw[qA,f.a]; simp only[]; rw[M.o],by simp[f.b],a0.o,?_,?_⟩
      .exact H.b.at_ T.o L.a L.B
      .exact (f.E.trans H.a fun _ _ h=>h).thenB T.o
     case measure=>simp[intOf]; omega
   .obtain rfl:k=n:=by omega
    go_wp2_with fail;go_ret;rw[f.a];exact qB.some f.E f.c f.d
end
section
def RIn(w:World)(g:Nat)(l:List UInt8)(bad:Bool):Prop:=∃A n c,Blk w g 144 [.slice A n c,.bool bad]∧Rd w g A (bv l)∧l.length=n∧n≤c∧c≤maxLen
theorem RIn.below{w e:World}{g:Nat}{l:List UInt8}{b:Bool}(h:RIn w g l b)(d:Bw' w e):RIn e g l b:=by
 obtain⟨A,n,c,a,f,i⟩:=h;exact⟨A,n,c,a.below d a.lt,f.below d (dY a.lt),i⟩
theorem RIn.lt{w:World}{g:Nat}{l:List UInt8}{a:Bool}(h:RIn w g l a):g<w.heap.size:=by
 obtain⟨A,n,c,b,-⟩:=h;exact b.lt
theorem Xs{w:World}{g:Nat}{l r:List UInt8}{n:Int}{G:Bool}(h:RIn w g l G)(q:bF l=some (n,r)):
  Calls prog 84 #[.pointer (some ⟨g,0,none⟩)] w fun e L=>e=.returned (.i n)∧RIn L g r G∧Chg (fun i=>i=g) w L:=by
 unfold bF at q
 by_cases j:(num l).2.2=0
 rotate_left
 .rw[aC j]at q; cases q
 rw[aE j]at q;obtain⟨O,K⟩:(num l).1=n∧l.drop 4=r:=by cases q; exact⟨rfl,rfl⟩
 have N:(num l).2.1=4:=(uV l j).1;have T:4≤l.length:=(uV l j).2;obtain⟨A,s,c,C,D,I,M,J⟩:=h;have F:=kp (by have:=Bm A s c g l w D I (by unfold maxLen at J; omega); rw[j,O,N]at this; exact this);have Q:=C.cell 0;have R:=C.frozen 0;simp only[aG]at Q;have S:4≤s:=by omega
 have p:=D.cut (k:=4) (cap:=c) (by rw[lB]; omega);obtain⟨x,y,rfl,-,-⟩:=D.at_ (k:=0) (by rw[lB]; omega);rw[uN,K,kL,Addr.add_lit]at p;have f:=k'5 C I K M J
 by_cases H:c=4
 .subst H;obtain rfl:s=4:=by have:=f.d; omega
  rw[aE rfl]at p;have z:=kp p;go_enter func84,ntmps84;go_wp2_with fail;refine (F.o).mono ?_;rintro e P ⟨rfl,m,rfl⟩;go_wp2_with fail;go_ret;have B:=(show Blk (w.drewN m) _ _ _ from f.a).setCell 0 (.slice (some ⟨x,y,none⟩) 0 0);refine⟨rfl,⟨some ⟨x,y,none⟩,0,0,by simpa using B,?_,by rw[←f.c,dX,f.b],aD _,by unfold maxLen; omega⟩,?_⟩
  .exact (z.o.drewN m).setCell (aD _) _
  .exact (Chg.refl (fun i=>i=g) w).drewN m|>.setCell (.inr rfl) 0 _
 .rw[aC H]at p;have z:=kp p;go_enter func84,ntmps84;go_wp2_with fail;refine (F.o).mono ?_;rintro e P ⟨rfl,m,rfl⟩;go_wp2_with fail;go_ret;have B:=(show Blk (w.drewN m) _ _ _ from f.a).setCell 0 (.slice (some ⟨x,y+4,none⟩) (s-4) (c-4));refine⟨rfl,⟨some ⟨x,y+4,none⟩,s-4,c-4,by simpa using B,?_,by rw[←f.c,dX,f.b],by have:=f.d; omega,by have:=f.E; omega⟩,?_⟩
  .exact (z.o.drewN m).setCell (aD _) _
  .exact (Chg.refl (fun i=>i=g) w).drewN m|>.setCell (.inr rfl) 0 _
theorem Xt{w:World}{g:Nat}{l:List UInt8}{z:Bool}(h:RIn w g l z)(j:bF l=none):
  Calls prog 84 #[.pointer (some ⟨g,0,none⟩)] w fun e y=>e=.returned (.i 0)∧RIn y g l true∧Chg (fun i=>i=g) w y:=by
 unfold bF at j
 by_cases n:(num l).2.2=0
 .rw[aE n]at j; cases j
 have B:(((num l).2.2) != 0)=true:=by simp[n]
 obtain⟨A,x,c,f,s,p,E,r⟩:=h;have k:=kp (Bm A x c g l w s p (by unfold maxLen at r; omega));have F:=f.cell 0;have G:=f.cell 1;have H:=f.frozen 1;simp only[aG,aK]at F G;have d:=k'5 f p s E r;generalize (num l)=q at *;obtain⟨I,J,K⟩:=q;simp only[]at B k;go_enter func84,ntmps84;go_wp2_with fail;refine (k.o).mono ?_;rintro e L ⟨rfl,m,rfl⟩;go_wp2_with fail;go_ret;have C:=(show Blk (w.drewN m) _ _ _ from d.a).setCell 1 (.bool true);refine⟨rfl,⟨A,x,c,by simpa using C,?_,d.b,d.D⟩,?_⟩
 .exact (d.c.drewN m).setCell (aD _) _
 .exact (Chg.refl (fun i=>i=g) w).drewN m|>.setCell (.inr rfl) 1 _
theorem Xu{w:World}{g:Nat}{l r:List UInt8}{n:Int}{F:Bool}(h:RIn w g l F)(p:eY l=some (n,r)):
  Calls prog 85 #[.pointer (some ⟨g,0,none⟩)] w fun e K=>e=.returned (.i n)∧RIn K g r F∧Chg (fun i=>i=g) w K:=by
 unfold eY at p
 by_cases j:(aA l).2.2=0
 rotate_left
 .rw[aC j]at p; cases p
 rw[aE j]at p;obtain⟨N,J⟩:(aA l).1=n∧l.drop 8=r:=by cases p; exact⟨rfl,rfl⟩
 have M:(aA l).2.1=8:=(Bp l j).1;have S:8≤l.length:=(Bp l j).2.1;obtain⟨A,q,c,B,C,H,L,I⟩:=h;have D:=kp (by have:=Gg A q c g l w C H (by unfold maxLen at I; omega); rw[j,N,M]at this; exact this);have P:=B.cell 0;have Q:=B.frozen 0;simp only[aG]at P;have R:8≤q:=by omega
 have m:=C.cut (k:=8) (cap:=c) (by rw[lB]; omega);obtain⟨s,x,rfl,-,-⟩:=C.at_ (k:=0) (by rw[lB]; omega);rw[uN,J,kL,Addr.add_lit]at m;have f:=k'5 B H J L I
 by_cases G:c=8
 .subst G;obtain rfl:q=8:=by have:=f.d; omega
  rw[aE rfl]at m;have y:=kp m;go_enter func85,ntmps85;go_wp2_with fail;refine (D.o).mono ?_;rintro e O ⟨rfl,rfl⟩;go_wp2_with fail;go_ret;have z:=(show Blk w _ _ _ from f.a).setCell 0 (.slice (some ⟨s,x,none⟩) 0 0);refine⟨rfl,⟨some ⟨s,x,none⟩,0,0,by simpa using z,?_,by rw[←f.c,dX,f.b],aD _,by unfold maxLen; omega⟩,?_⟩
  .exact y.o.setCell (aD _) _
  .exact (Chg.refl (fun i=>i=g) w)|>.setCell (.inr rfl) 0 _
 .rw[aC G]at m;have y:=kp m;go_enter func85,ntmps85;go_wp2_with fail;refine (D.o).mono ?_;rintro e O ⟨rfl,rfl⟩;go_wp2_with fail;go_ret;have z:=(show Blk w _ _ _ from f.a).setCell 0 (.slice (some ⟨s,x+8,none⟩) (q-8) (c-8));refine⟨rfl,⟨some ⟨s,x+8,none⟩,q-8,c-8,by simpa using z,?_,by rw[←f.c,dX,f.b],by have:=f.d; omega,by have:=f.E; omega⟩,?_⟩
  .exact y.o.setCell (aD _) _
  .exact (Chg.refl (fun i=>i=g) w)|>.setCell (.inr rfl) 0 _
theorem Xv{w:World}{g:Nat}{l:List UInt8}{y:Bool}(h:RIn w g l y)(j:eY l=none):
  Calls prog 85 #[.pointer (some ⟨g,0,none⟩)] w fun e x=>e=.returned (.i 0)∧RIn x g l true∧Chg (fun i=>i=g) w x:=by
 unfold eY at j
 by_cases m:(aA l).2.2=0
 .rw[aE m]at j; cases j
 have z:(((aA l).2.2) != 0)=true:=by simp[m]
 obtain⟨A,s,c,f,r,n,C,p⟩:=h;have k:=kp (Gg A s c g l w r n (by unfold maxLen at p; omega));have E:=f.cell 0;have F:=f.cell 1;have G:=f.frozen 1;simp only[aG,aK]at E F;have d:=k'5 f n r C p;generalize (aA l)=q at *;obtain⟨H,I,J⟩:=q;simp only[]at z k;go_enter func85,ntmps85;go_wp2_with fail;refine (k.o).mono ?_;rintro e K ⟨rfl,rfl⟩;go_wp2_with fail;go_ret;have B:=(show Blk w _ _ _ from d.a).setCell 1 (.bool true);refine⟨rfl,⟨A,s,c,by simpa using B,?_,d.b,d.D⟩,?_⟩
 .exact d.c.setCell (aD _) _
 .exact (Chg.refl (fun i=>i=g) w)|>.setCell (.inr rfl) 1 _
end
section
abbrev RF(α:Type):=List UInt8→Bool→α×List UInt8×Bool
def cQ:RF Int:=fun l b=>match bF l with
 |some (n,r)=>(n,r,b)
 |none=>(0,l,true)
def gA:RF Int:=fun l b=>match eY l with
 |some (n,r)=>(n,r,b)
 |none=>(0,l,true)
def dC{α:Type}(one:RF α):Nat→RF (List α)
 |0,l,b=>([],l,b)
 |n+1,l,b=>((one l b).1::(dC one n (one l b).2.1 (one l b).2.2).1,(dC one n (one l b).2.1 (one l b).2.2).2)
def jO:RF Ob:=fun l b=>
 let h:=cQ l b
 let a:=cQ h.2.1 h.2.2
 let w:=cQ a.2.1 a.2.2
 let k:=cQ w.2.1 w.2.2
 if bX w.1 k.1<0 then (⟨h.1,⟨a.1,bX w.1 k.1⟩,[],[]⟩,k.2.1,true) else
 let ws:=dC gA w.1.toNat k.2.1 k.2.2
 let ls:=dC cQ k.1.toNat ws.2.1 ws.2.2
 (⟨h.1,⟨a.1,bX w.1 k.1⟩,ws.1,ls.1⟩,ls.2)
structure nT{α:Type}(F:RF α)(one:List UInt8→Option (α×List UInt8)):Prop where
 bad:∀l,(F l true).2.2=true
 ok:∀l x r,one l=some (x,r)→F l false=(x,r,false)
 no:∀l,one l=none→(F l false).2.2=true
theorem yV{α:Type}(F:RF α):∀(n:Nat)(l:List UInt8)(b:Bool),dC F (n+1) l b=((dC F n l b).1++[(F (dC F n l b).2.1 (dC F n l b).2.2).1],(F (dC F n l b).2.1 (dC F n l b).2.2).2)
 |0,l,b=>rfl
 |n+1,l,b=>by
  rw[dC,yV F n];rfl
theorem lM{α:Type}{F:RF α}(h:∀l,(F l true).2.2=true):∀(n:Nat)(l:List UInt8),(dC F n l true).2.2=true
 |0,_=>rfl
 |n+1,l=>by
  rw[dC];simp only;rw[h l];exact lM h n _
theorem nT.many{α:Type}{F:RF α}{one:List UInt8→Option (α×List UInt8)}(H:nT F one):∀n:Nat,nT (dC F n) (aZ one n)
 |0=>⟨fun _=>rfl,fun l x r h=>by simp only[aZ,Option.some.injEq,Prod.mk.injEq]at h; rw[←h.1,←h.2]; rfl,fun l h=>by simp[aZ]at h⟩
 |n+1=>by
  have b:=H.many n;refine⟨lM H.bad (n+1),fun l x r h=>?_,fun l h=>?_⟩
  .unfold aZ at h
   cases h1:one l with
   |none=>simp[h1]at h
   |some p=>
    obtain⟨y,a⟩:=p
    cases h2:aZ one n a with
    |none=>simp[h1,h2]at h
    |some q=>
     obtain⟨d,c⟩:=q;simp only[h1,h2,Option.some.injEq,Prod.mk.injEq]at h;rw[dC,H.ok l y a h1];simp only;rw[b.ok a d c h2,←h.1,←h.2]
  .unfold aZ at h;rw[dC];simp only
   cases h1:one l with
   |none=>rw[H.no l h1]; exact b.bad _
   |some p=>
    obtain⟨y,a⟩:=p
    cases h2:aZ one n a with
    |some q=>simp[h1,h2]at h
    |none=>
     rw[H.ok l y a h1];exact b.no a h2
theorem mV:nT cQ bF:=by
 refine⟨fun l=>?_,fun l x r h=>?_,fun l h=>?_⟩
 .unfold cQ; split<;>rfl
 .unfold cQ; rw[h]
 .unfold cQ; rw[h]
theorem nU:nT gA eY:=by
 refine⟨fun l=>?_,fun l x r h=>?_,fun l h=>?_⟩
 .unfold gA; split<;>rfl
 .unfold gA; rw[h]
 .unfold gA; rw[h]
theorem Xx{l:List UInt8}:aZ bF 4 l=match bF l with
  |none=>none
  |some (a,r)=>match bF r with
   |none=>none
   |some (b,r)=>match bF r with
    |none=>none
    |some (c,r)=>match bF r with
     |none=>none
     |some (d,r)=>some ([a,b,c,d],r):=by
 simp only[aZ]
 cases bF l with
 |none=>rfl
 |some p=>
  obtain⟨a,r⟩:=p;simp only[]
  cases bF r with
  |none=>rfl
  |some p=>
   obtain⟨a,r⟩:=p;simp only[]
   cases bF r with
   |none=>rfl
   |some p=>
    obtain⟨a,r⟩:=p;simp only[]
    cases bF r with
    |none=>rfl
    |some p=>rfl
theorem yW:nT jO obP:=by
 have b:=mV.bad;have m:=mV.ok;have j:=mV.no;have B:∀l,(jO l true).2.2=true:=fun l=>by
  unfold jO;simp only
  split
  .rfl
  .rw[b,b,b,b,lM nU.bad,lM b]
 have C:∀l,obP l=match aZ bF 4 l with
  |some ([h,a,w,k],r)=>
   if bX w k<0 then none else
   match aZ eY w.toNat r with
   |none=>none
   |some (ws,r)=>match aZ bF k.toNat r with
    |none=>none
    |some (ls,r)=>some (⟨h,⟨a,bX w k⟩,ws,ls⟩,r)
  |_=>none:=fun l=>rfl
 have A:∀l,(∃x r,obP l=some (x,r)∧jO l false=(x,r,false))∨(obP l=none∧(jO l false).2.2=true):=fun l=>by
  rw[C,Xx];unfold jO
  cases c:bF l with
  |none=>
   refine .inr ⟨rfl,?_⟩;have d:=j l c;simp only
   split
   .rfl
   .rw[d,b,b,b,lM nU.bad,lM b]
  |some D=>
   obtain⟨L,n⟩:=D;rw[m l L n c];simp only
   cases e:bF n with
   |none=>
    refine .inr ⟨rfl,?_⟩;have d:=j n e
    split
    .rfl
    .rw[d,b,b,lM nU.bad,lM b]
   |some E=>
    obtain⟨K,o⟩:=E;rw[m n K o e];simp only
    cases h3:bF o with
    |none=>
     refine .inr ⟨rfl,?_⟩;have d:=j o h3
     split
     .rfl
     .rw[d,b,lM nU.bad,lM b]
    |some F=>
     obtain⟨g,p⟩:=F;rw[m o g p h3];simp only
     cases h4:bF p with
     |none=>
      refine .inr ⟨rfl,?_⟩;have d:=j p h4
      split
      .rfl
      .rw[d,lM nU.bad,lM b]
     |some G=>
      obtain⟨f,q⟩:=G;rw[m p f q h4];simp only
      by_cases i:bX g f<0
      .rw[aE i,aE i];exact .inr ⟨rfl,rfl⟩
      .rw[aC i,aC i]
       cases h5:aZ eY g.toNat q with
       |none=>
        refine .inr ⟨rfl,?_⟩;rw[(nU.many g.toNat).no q h5,lM b]
       |some H=>
        obtain⟨ws,z⟩:=H;rw[(nU.many g.toNat).ok q ws z h5];simp only
        cases h6:aZ bF f.toNat z with
        |none=>
         refine .inr ⟨rfl,?_⟩;rw[(mV.many f.toNat).no z h6]
        |some I=>
         obtain⟨ls,J⟩:=I;rw[(mV.many f.toNat).ok z ls J h6];exact .inl ⟨_,_,rfl,rfl⟩
 refine⟨B,fun l x r h=>?_,fun l h=>?_⟩
 .rcases A l with⟨y,s,c,e⟩|⟨c,_⟩
  .rw[h]at c
   cases c;exact e
  .rw[h]at c; cases c
 .rcases A l with⟨y,s,c,_⟩|⟨_,e⟩
  .rw[h]at c; cases c
  .exact e
def gP{α:Type}(F:RF α):Nat→RF (List α)
 |0,l,b=>([],l,b)
 |_+1,l,true=>([],l,true)
 |n+1,l,false=>((F l false).1::(gP F n (F l false).2.1 (F l false).2.2).1,(gP F n (F l false).2.1 (F l false).2.2).2)
theorem vR{α:Type}(F:RF α):∀(n:Nat)(l:List UInt8),gP F n l true=([],l,true)
 |0,_=>rfl
 |_+1,_=>rfl
theorem nT.till{α:Type}{F:RF α}{one:List UInt8→Option (α×List UInt8)}(H:nT F one):∀n:Nat,nT (gP F n) (aZ one n)
 |0=>⟨fun _=>rfl,fun l x r h=>by simp only[aZ,Option.some.injEq,Prod.mk.injEq]at h; rw[←h.1,←h.2]; rfl,fun l h=>by simp[aZ]at h⟩
 |n+1=>by
  have b:=H.till n;refine⟨fun l=>rfl,fun l x r h=>?_,fun l h=>?_⟩
  .unfold aZ at h
   cases h1:one l with
   |none=>simp[h1]at h
   |some p=>
    obtain⟨y,a⟩:=p
    cases h2:aZ one n a with
    |none=>simp[h1,h2]at h
    |some q=>
     obtain⟨d,c⟩:=q;simp only[h1,h2,Option.some.injEq,Prod.mk.injEq]at h;rw[gP,H.ok l y a h1];simp only;rw[b.ok a d c h2,←h.1,←h.2]
  .unfold aZ at h;rw[gP];simp only
   cases h1:one l with
   |none=>rw[H.no l h1]; exact b.bad _
   |some p=>
    obtain⟨y,a⟩:=p
    cases h2:aZ one n a with
    |some q=>simp[h1,h2]at h
    |none=>
     rw[H.ok l y a h1];exact b.no a h2
end
end Go.Proofs.YtdoopoapbffpbaaGreat
