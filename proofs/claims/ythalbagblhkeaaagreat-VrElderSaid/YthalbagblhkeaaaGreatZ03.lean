import Derived.Test.YthalbagblhkeaaaGreatZ01
import Derived.Test.YthalbagblhkeaaaGreatZ02
import Derived.Lib.SliceRun
import Derived.Shelf.Abstract
namespace Go.Proofs.YthalbagblhkeaaaGreat
open Go.RowKit Go.Proofs.Tryz
set_option maxRecDepth 100000
set_option maxHeartbeats 12800000
set_option linter.unusedVariables false
set_option linter.unusedSimpArgs false
section
def aS(n:Int):List UInt8:=beN 4 n.toNat
def cD(n:Int):List UInt8:=beN 8 (kP n)
theorem gX(n:Int):(aS n).length=4:=jZ 4 _
theorem uZ(n:Int):(cD n).length=8:=jZ 8 _
def iZ(x:Ob):List UInt8:=aS x.h++aS x.b.a++aS x.ws.length++aS x.ls.length++x.ws.flatMap cD++x.ls.flatMap aS
def cT(h:Hp):List UInt8:=aS h.order++aS h.next++h.tops.flatMap aS++aS h.obs.length++h.obs.flatMap iZ
def jH(r:Rw):List UInt8:=aS r.c++aS r.s++aS r.k++cD r.v
def gI(s:St):List UInt8:=aS (cT s.h).length++cT s.h++aS s.rows.length++s.rows.flatMap jH
def bF(l:List UInt8):Option (Int×List UInt8):=if (num l).2.2=0 then some ((num l).1,l.drop 4) else none
def eY(l:List UInt8):Option (Int×List UInt8):=if (aA l).2.2=0 then some ((aA l).1,l.drop 8) else none
def aZ{α:Type}(one:List UInt8→Option (α×List UInt8)):Nat→List UInt8→Option (List α×List UInt8)
 |0,l=>some ([],l)
 |n+1,l=>match one l with
  |none=>none
  |some (x,r)=>match aZ one n r with
   |none=>none
   |some (xs,r')=>some (x::xs,r')
theorem pR{α:Type}{one:List UInt8→Option (α×List UInt8)}{put:α→List UInt8}(r:List UInt8):∀(xs:List α),(∀x∈xs,∀r,one (put x++r)=some (x,r))→aZ one xs.length (xs.flatMap put++r)=some (xs,r)
 |[],_=>rfl
 |x::xs,h=>by
  rw[nC,eV,cR];unfold aZ;rw[h x (by simp)];dsimp only;rw[pR r xs fun y a=>h y (by simp[a])]
def obP(l:List UInt8):Option (Ob×List UInt8):=
 match aZ bF 4 l with
 |some ([h,a,w,k],r)=>
  if bX w k<0 then none else
  match aZ eY w.toNat r with
  |none=>none
  |some (ws,r)=>match aZ bF k.toNat r with
   |none=>none
   |some (ls,r)=>some (⟨h,⟨a,bX w k⟩,ws,ls⟩,r)
 |_=>none
def eS(order next t0 t1 t2 t3:Int)(obs:List Ob):Hp:=⟨order,next,t0,t1,t2,t3,obs,cC (obs.map (·.b)) order.toNat 0⟩
def hpP(l:List UInt8):Option (Hp×List UInt8):=
 match aZ bF 7 l with
 |some ([order,next,t0,t1,t2,t3,n],r)=>
  if 256<n then none else
  match aZ obP n.toNat r with
  |none=>none
  |some (obs,r)=>some (eS order next t0 t1 t2 t3 obs,r)
 |_=>none
def eZ(l:List UInt8):Option Hp:=
 match hpP l with
 |some (h,[])=>if cO h=true then some h else none
 |_=>none
def eP:Int→List Rw→Bool
 |_,[]=>true
 |last,r::l=>(decide (last<r.c)&&decide (r.c≤4))&&(aF r.s 1 1000000&&(aF r.k 0 65535&&eP r.c l))
def stB(s:St):Bool:=cO s.h&&eP 0 s.rows
def rwP(l:List UInt8):Option (Rw×List UInt8):=
 match aZ bF 3 l with
 |some ([c,s,k],r)=>match eY r with
  |none=>none
  |some (v,r)=>some (⟨c,s,k,v⟩,r)
 |_=>none
def dM(l:List UInt8):Option St:=
 if (dJ l).2.2=0 then
  match eZ (dJ l).1.data.toList with
  |none=>none
  |some h=>match bF (l.drop (dJ l).2.1) with
   |none=>none
   |some (n,r)=>if 4<n then none else
    match aZ rwP n.toNat r with
    |some (rows,[])=>if stB ⟨h,rows⟩=true then some ⟨h,rows⟩ else none
    |_=>none
 else none
def inR(z:Int):Prop:= -9223372036854775808≤z∧z≤9223372036854775807
def hpR(h:Hp):Prop:=∀x∈h.obs,∀z∈x.ws,inR z
def stR(s:St):Prop:=hpR s.h∧∀r∈s.rows,inR r.v
theorem jT{n:Int}(a:0≤n)(b:n≤2147483647)(r:List UInt8):bF (aS n++r)=some (n,r):=by
 unfold bF aS;rw[Qf n.toNat r (by omega),aE rfl,wG (jZ 4 _),show ((n.toNat:Nat):Int)=n by omega]
theorem Hl{n:Int}(h:inR n)(r:List UInt8):eY (cD n++r)=some (n,r):=by
 unfold eY cD;rw[Qh n r h.1 h.2,aE rfl,wG (jZ 8 _)]
def okN(n:Int):Prop:=0≤n∧n≤2147483647
theorem Rf{x:Ob}(d:okN x.h)(f:okN x.b.a)(j:bX x.ws.length x.ls.length=x.b.o)(q:0≤x.b.o)(l:∀z∈x.ws,inR z)(g:∀z∈x.ls,okN z)(r:List UInt8):obP (iZ x++r)=some (x,r):=by
 have s:=oP (n:=x.ws.length) (k:=x.ls.length) (by omega);have e:iZ x++r=[x.h,x.b.a,(x.ws.length:Int),(x.ls.length:Int)].flatMap aS++(x.ws.flatMap cD++(x.ls.flatMap aS++r)):=by
  unfold iZ;simp only[nC,zZ,cR,fS]
 have i:=pR (one:=bF) (put:=aS) (x.ws.flatMap cD++(x.ls.flatMap aS++r)) [x.h,x.b.a,(x.ws.length:Int),(x.ls.length:Int)] (fun z c r=>by
  simp only[bA,dW,or_false]at c;rcases c with rfl|rfl|rfl|rfl
  .exact jT d.1 d.2 r
  .exact jT f.1 f.2 r
  .exact jT (by omega) (by omega) r
  .exact jT (by omega) (by omega) r)
 have p:=pR (one:=eY) (put:=cD) (x.ls.flatMap aS++r) x.ws (fun z c r=>Hl (l z c) r);have m:=pR (one:=bF) (put:=aS) r x.ls (fun z c r=>jT (g z c).1 (g z c).2 r);unfold obP;rw[e,show (4:Nat)=[x.h,x.b.a,(x.ws.length:Int),(x.ls.length:Int)].length from rfl,i];dsimp only;rw[aC (by omega),eR,p];dsimp only;rw[eR,m];dsimp only;rw[j]
theorem HOk.okN{h:Hp}(H:HOk h):okN h.order∧okN h.next∧(∀t∈h.tops,okN t)∧∀x∈h.obs,okN x.h∧okN x.b.a∧0≤x.b.o∧∀z∈x.ls,okN z:=by
 have l:=eF H.reg;have m:=H.next;have e:∀t,lF h.obs t→Proofs.YthalbagblhkeaaaGreat.okN t:=fun t d=>by
  rcases d with rfl|⟨x,c,rfl⟩
  .exact⟨by omega,by omega⟩
  .have:=H.rise.1 x c; exact⟨by omega,by omega⟩
 refine⟨⟨by omega,by omega⟩,⟨by omega,by omega⟩,fun t d=>e t (H.tops t d),fun x c=>?_⟩;have i:=H.rise.1 x c;have f:=gV H.reg (H.each x c).2;have j:=nJ (o:=h.order) (by omega);have k:=eG x.b.o;exact⟨⟨by omega,by omega⟩,⟨by omega,by omega⟩,f.1,fun z g=>e z (H.links x c z g)⟩
theorem Rg{h:Hp}(i:cO h=true)(n:hpR h)(r:List UInt8):hpP (cT h++r)=some (h,r):=by
 have H:=eC.1 i;have y:=eF H.reg;obtain⟨f,g,a,d⟩:=H.okN;have A:h.obs.length≤256:=by
  have k:=rD (h.obs.map (·.b));have p:=rD h.free;have q:=nJ (o:=h.order) (by omega);have s:=H.sum;rw[cW]at k;omega
 simp only[Hp.tops,bA,dW,or_false,forall_eq_or_imp,forall_eq]at a;have e:cT h++r=[h.order,h.next,h.t0,h.t1,h.t2,h.t3,(h.obs.length:Int)].flatMap aS++(h.obs.flatMap iZ++r):=by
  unfold cT Hp.tops;simp only[nC,zZ,cR,fS]
 have l:=pR (one:=bF) (put:=aS) (h.obs.flatMap iZ++r) [h.order,h.next,h.t0,h.t1,h.t2,h.t3,(h.obs.length:Int)] (fun z j r=>by
  simp only[bA,dW,or_false]at j;rcases j with rfl|rfl|rfl|rfl|rfl|rfl|rfl
  .exact jT f.1 f.2 r
  .exact jT g.1 g.2 r
  .exact jT a.1.1 a.1.2 r
  .exact jT a.2.1.1 a.2.1.2 r
  .exact jT a.2.2.1.1 a.2.2.1.2 r
  .exact jT a.2.2.2.1 a.2.2.2.2 r
  .exact jT (by omega) (by omega) r)
 have m:=pR (one:=obP) (put:=iZ) r h.obs (fun x c r=>Rf (d x c).1 (d x c).2.1 (H.each x c).1 (d x c).2.2.1 (n x c) (d x c).2.2.2 r);unfold hpP;rw[e,show (7:Nat)=[h.order,h.next,h.t0,h.t1,h.t2,h.t3,(h.obs.length:Int)].length from rfl,l];dsimp only;rw[aC (by omega),eR,m];dsimp only;unfold eS;rw[←Qv i]
theorem Rh{h:Hp}(a:cO h=true)(b:hpR h):eZ (cT h)=some h:=by
 have:=Rg a b [];rw[fS]at this;unfold eZ;rw[this];dsimp only;rw[aE a]
theorem jU{α:Type}(f:α→List UInt8)(k:Nat)(a:∀x,(f x).length=k):∀l:List α,(l.flatMap f).length=k*l.length
 |[]=>rfl
 |x::l=>by rw[nC,bB,a,jU f k a l,eV,Nat.mul_succ]; omega
theorem Hm(x:Ob):(iZ x).length=16+8*x.ws.length+4*x.ls.length:=by
 unfold iZ;simp only[bB,gX,jU cD 8 uZ,jU aS 4 gX]
theorem Ri{w l:Nat}(h:0≤bX w l):(1+w+l:Int)≤aJ (bX w l):=by
 have a:=oP (n:=w) (k:=l) (by omega);unfold bX;rw[aE (by unfold aF; simp; omega)];unfold kT aJ
 repeat' split
 all_goals simp<;>omega
theorem Cf{h:Hp}(d:cO h=true):(cT h).length≤4124:=by
 have H:=eC.1 d;have q:=eF H.reg;have i:=rD h.free;have j:=nJ (o:=h.order) (by omega);have k:=H.sum;have g:∀l:List Ob,(∀x∈l,bX x.ws.length x.ls.length=x.b.o∧bN h.order x.b=true)→((l.flatMap iZ).length:Int)≤16*bW (l.map (·.b)):=fun l=>by
  induction l with
  |nil=>intro _; simp[bW]
  |cons x l f=>
   intro c;have a:=c x (by simp);have m:=f fun y e=>c y (by simp[e]);have n:=gV H.reg a.2;have p:=Ri (w:=x.ws.length) (l:=x.ls.length) (by omega);rw[nC,bB,Hm,kM,iU,←a.1];omega
 have r:=g h.obs H.each;unfold cT;simp only[bB,gX,jU aS 4 gX];have:h.tops.length=4:=rfl;omega
theorem vA:∀(l:List Rw)(last:Int),0≤last→eP last l=true→(∀r∈l,okN r.c∧okN r.s∧okN r.k)∧(l.length:Int)+last≤max 4 last
 |[],last,_,_=>by simp; omega
 |r::l,last,d,h=>by
  unfold eP aF at h;simp only[bI,bP]at h;obtain⟨⟨e,f⟩,⟨g,i⟩,⟨j,m⟩,b⟩:=h;obtain⟨i1,n⟩:=vA l r.c (by omega) b;refine⟨fun x a=>?_,by rw[eV]; omega⟩;rcases bA.1 a with rfl|a
  .exact⟨⟨by omega,by omega⟩,⟨by omega,by omega⟩,⟨by omega,by omega⟩⟩
  .exact i1 x a
theorem Rj{x:Rw}(a:okN x.c)(b:okN x.s)(d:okN x.k)(h:inR x.v)(r:List UInt8):rwP (jH x++r)=some (x,r):=by
 have e:jH x++r=[x.c,x.s,x.k].flatMap aS++(cD x.v++r):=by
  unfold jH;simp only[nC,zZ,cR,fS]
 have g:=pR (one:=bF) (put:=aS) (cD x.v++r) [x.c,x.s,x.k] (fun z f r=>by
  simp only[bA,dW,or_false]at f;rcases f with rfl|rfl|rfl
  .exact jT a.1 a.2 r
  .exact jT b.1 b.2 r
  .exact jT d.1 d.2 r)
 unfold rwP;rw[e,show (3:Nat)=[x.c,x.s,x.k].length from rfl,g];dsimp only;rw[Hl h]
theorem Cg{s:St}(g:stB s=true)(f:stR s):dM (gI s)=some s:=by
 have a:=g;unfold stB at a;simp only[bI]at a;have l:=Cf a.1;obtain⟨c,k⟩:=vA s.rows 0 (by omega) a.2;have e:gI s=beN 4 (ByteArray.mk (cT s.h).toArray).size++((ByteArray.mk (cT s.h).toArray).data.toList++(aS s.rows.length++s.rows.flatMap jH)):=by
  unfold gI aS;rw[show (ByteArray.mk (cT s.h).toArray).size=(cT s.h).length from by simp[ByteArray.size],show (ByteArray.mk (cT s.h).toArray).data.toList=cT s.h from by simp];simp only[cR,eR]
 have i:=Qi (ByteArray.mk (cT s.h).toArray) (aS s.rows.length++s.rows.flatMap jH) (by simp[ByteArray.size]; omega);rw[←e]at i;have j:(gI s).drop (4+(ByteArray.mk (cT s.h).toArray).size)=aS s.rows.length++s.rows.flatMap jH:=by
  rw[e,←cR];exact wG (by rw[bB,jZ]; simp[ByteArray.size])
 have d:=pR (one:=rwP) (put:=jH) [] s.rows (fun x b r=>Rj (c x b).1 (c x b).2.1 (c x b).2.2 (f.2 x b) r);rw[fS]at d;unfold dM;rw[i];dsimp only;rw[aE rfl,Rh a.1 f.1];dsimp only;rw[j,jT (by omega) (by omega)];dsimp only;rw[aC (by omega),eR,d];dsimp only;rw[aE (show stB ⟨s.h,s.rows⟩=true from g)]
theorem Rk{s t:St}(d:stB s=true)(b:stR s)(e:stB t=true)(c:stR t)(h:gI s=gI t):s=t:=by
 have a:=Cg d b;rw[h,Cg e c]at a;injection a with a
 exact a.symm
end
section
theorem oK:(∀(n b a:Int)(w:World),Calls prog 22 #[.i n,.i b,.i a] w fun e c=>e=.returned (.bool (aF n b a))∧c=w)∧(∀(n b a:Int)(w:World),Calls prog 53 #[.i n,.i b,.i a] w fun e c=>e=.returned (.bool (aF n b a))∧c=w)∧(∀(n b a:Int)(w:World),Calls prog 98 #[.i n,.i b,.i a] w fun e c=>e=.returned (.bool (aF n b a))∧c=w)∧(∀(n b a:Int)(w:World),Calls prog 99 #[.i n,.i b,.i a] w fun e c=>e=.returned (.bool (aF n b a))∧c=w)∧(∀(n b a:Int)(w:World),Calls prog 199 #[.i n,.i b,.i a] w fun e c=>e=.returned (.bool (aF n b a))∧c=w):=by
 refine⟨?q0,?q1,?q2,?q3,?q4⟩
 all_goals
  intro n b a w;unfold aF;rcases tB (decide (b≤n)) (decide (n≤a)) with⟨f,d⟩|⟨f,g,d⟩|⟨f,g,d⟩
  all_goals
   rw[d];clear d
   first |go_enter func22,ntmps22|go_enter func53,ntmps53|go_enter func98,ntmps98|go_enter func99,ntmps99|go_enter func199,ntmps199
   go_wp2_with fail;go_ret;exact⟨rfl,rfl⟩
theorem mL:(prog.info? 3).map (fun i=>(i.zero,i.size,i.bytes))=some (some (.i 0),1,8):=by kernel_rfl
theorem jA:(prog.info? 150).map (fun i=>(i.zero,i.size,i.bytes))=some (some (.agg #[.i 0,.i 0]),2,16):=by kernel_rfl
theorem rE:(prog.info? 117).map (fun i=>(i.zero,i.size,i.bytes))=some (some (.agg z'4a),4,32):=by kernel_rfl
theorem Hn:(prog.info? 109).map (fun i=>(i.zero,i.size,i.bytes))=some (some (.agg #[.i 0,.i 0]),2,16):=by kernel_rfl
theorem Ch:(prog.info? 93).map (fun i=>(i.zero,i.size,i.bytes))=some (some (.agg z'3a),11,88):=by kernel_rfl
theorem pS:(prog.info? 152).map (fun i=>(i.zero,i.size,i.bytes))=some (some (.agg z'5a),5,72):=by kernel_rfl
theorem Ho:(prog.info? 103).map (fun i=>(i.zero,i.size,i.bytes))=some (some (.agg z'6a),6,64):=by kernel_rfl
def eI{α:Type}(p:α→Bool):List α→Int
 |[]=> -1
 |x::l=>if p x=true then 0 else (if eI p l= -1 then -1 else eI p l+1)
theorem vB{α:Type}(p:α→Bool):∀(l:List α),(∀y∈l,p y=false)→eI p l= -1
 |[],_=>rfl
 |x::l,h=>by
  unfold eI;rw[aC (by rw[h x (by simp)]; simp),aE (vB p l fun y a=>h y (by simp[a]))]
theorem rF{α:Type}(p:α→Bool):∀(l:List α)(k:Nat)(b:k<l.length),p (l[k])=true→(∀y∈l.take k,p y=false)→eI p l=k
 |x::l,0,_,h,_=>by unfold eI; rw[aE (show p x=true from h)]; rfl
 |x::l,k+1,b,h,a=>by
  have d:=rF p l k (by simpa using b) h fun y c=>a y (by simp[c]);unfold eI;rw[aC (by rw[a x (by simp)]; simp),d,aC (by omega)];omega
theorem tI{α:Type}(p:α→Bool):∀(l:List α),decide (0≤eI p l)=l.any p
 |[]=>rfl
 |x::l=>by
  have a:=tI p l;unfold eI;rw[wK,←a]
  cases p x
  .by_cases h:eI p l= -1
   .simp[h]
   .have:eI p l= -1∨0≤eI p l:=by
     clear a h
     induction l with
     |nil=>exact .inl rfl
     |cons y l a=>
      unfold eI
      split
      .exact .inr (by omega)
      .split
       .exact .inl rfl
       .rcases a with h|h
        .contradiction
        .exact .inr (by omega)
    simp[h]; omega
  .simp
theorem Rl(a:Option Addr)(n c:Nat)(w:World):(binOp .eql 33 (.slice a n c) (.slice none 0 0)).run prog w=.ok (.bool a.isNone) w:=
 Lib.run_eql_slice_nil w _ _ a n c 0 0 lT
theorem Rm(a:Option Addr)(n c:Nat)(w:World):(binOp .eql 27 (.slice a n c) (.slice none 0 0)).run prog w=.ok (.bool a.isNone) w:=
 Lib.run_eql_slice_nil w _ _ a n c 0 0 fC
theorem Rn(a:Option Addr)(n c:Nat)(w:World):(binOp .eql 30 (.slice a n c) (.slice none 0 0)).run prog w=.ok (.bool a.isNone) w:=
 Lib.run_eql_slice_nil w _ _ a n c 0 0 kO
theorem Ro(a:Option Addr)(n c:Nat)(w:World):(binOp .eql 35 (.slice a n c) (.slice none 0 0)).run prog w=.ok (.bool a.isNone) w:=
 Lib.run_eql_slice_nil w _ _ a n c 0 0 Ff
theorem Rq(a:Option Addr)(n c:Nat)(w:World):(binOp .eql 22 (.slice a n c) (.slice none 0 0)).run prog w=.ok (.bool a.isNone) w:=
 Lib.run_eql_slice_nil w _ _ a n c 0 0 wO
theorem Rr(a:Option Addr)(n c:Nat)(w:World):(binOp .eql 25 (.slice a n c) (.slice none 0 0)).run prog w=.ok (.bool a.isNone) w:=
 Lib.run_eql_slice_nil w _ _ a n c 0 0 nE
theorem Ru(a:Option Addr)(n c:Nat)(w:World):(binOp .eql 34 (.slice a n c) (.slice none 0 0)).run prog w=.ok (.bool a.isNone) w:=
 Lib.run_eql_slice_nil w _ _ a n c 0 0 underlying34
section
attribute [local go_sem] Rl Rm Rn Ro Rq Rr Ru
theorem fam'4:(∀(v:Value)(l:List Int)(B:Nat)(w:World)(h:Sl w B v i1 l)(hB:B≤w.heap.size)(hn:l.length≤1000000),Calls prog 95 #[v] w fun e w'=>∃v',e=.returned v'∧w'.ownsRow w.heap.size 3 1 v' l.length (aM i1 l)∧Bw' w w')∧(∀(v:Value)(l:List Bk)(B:Nat)(w:World)(h:Sl w B v Bk.cells l)(hB:B≤w.heap.size)(hn:l.length≤1000000),Calls prog 201 #[v] w fun e w'=>∃v',e=.returned v'∧w'.ownsRow w.heap.size 150 2 v' l.length (aM Bk.cells l)∧Bw' w w')∧(∀(v:Value)(l:List Rw)(B:Nat)(w:World)(h:Sl w B v Rw.cells l)(hB:B≤w.heap.size)(hn:l.length≤1000000),Calls prog 102 #[v] w fun e w'=>∃v',e=.returned v'∧w'.ownsRow w.heap.size 117 4 v' l.length (aM Rw.cells l)∧Bw' w w')∧(∀(v:Value)(l:List Ak)(B:Nat)(w:World)(h:Sl w B v Ak.cells l)(hB:B≤w.heap.size)(hn:l.length≤1000000),Calls prog 96 #[v] w fun e w'=>∃v',e=.returned v'∧w'.ownsRow w.heap.size 109 2 v' l.length (aM Ak.cells l)∧Bw' w w')∧(∀(v:Value)(l:List En)(B:Nat)(w:World)(h:Sl w B v En.cells l)(hB:B≤w.heap.size)(hn:l.length≤1000000),Calls prog 83 #[v] w fun e w'=>∃v',e=.returned v'∧w'.ownsRow w.heap.size 93 11 v' l.length (aM En.cells l)∧Bw' w w')∧(∀(v:Value)(l:List ObV)(B:Nat)(w:World)(h:Sl w B v ObV.cells l)(hB:B≤w.heap.size)(hn:l.length≤1000000)(h1:∀x∈l,∀u∈ObV.cells x,u.oneCell'=true),Calls prog 208 #[v] w fun e w'=>∃v',e=.returned v'∧w'.ownsRow w.heap.size 152 5 v' l.length (aM ObV.cells l)∧Bw' w w')∧(∀(v:Value)(l:List VoV)(B:Nat)(w:World)(h:Sl w B v VoV.cells l)(hB:B≤w.heap.size)(hn:l.length≤1000000)(h1:∀x∈l,∀u∈VoV.cells x,u.oneCell'=true),Calls prog 97 #[v] w fun e w'=>∃v',e=.returned v'∧w'.ownsRow w.heap.size 103 6 v' l.length (aM VoV.cells l)∧Bw' w w'):=by
 refine⟨?q0,?q1,?q2,?q3,?q4,?q5,?q6⟩
 case' q0=>have m'0:=True.intro; intro v l B w h hB hn
 case' q1=>have m'1:=True.intro; intro v l B w h hB hn
 case' q2=>have m'2:=True.intro; intro v l B w h hB hn
 case' q3=>have m'3:=True.intro; intro v l B w h hB hn
 case' q4=>have m'4:=True.intro; intro v l B w h hB hn
 case' q5=>have m'5:=True.intro; intro v l B w h hB hn h1
 case' q6=>intro v l B w h hB hn h1
 all_goals
  obtain⟨A,c,rfl,hr,hc,hm⟩:=h
  cases A with
  |none=>
   have hes:l=[]:=by
    rcases hr with h|⟨b,off,e,_⟩
    .first
     |(have:=m'0; exact hJ (by have:=eB 1 cS l; rw[h]at this; simp at this; omega))
     |(have:=m'1; exact hJ (by have:=eB 2 bM l; rw[h]at this; simp at this; omega))
     |(have:=m'2; exact hJ (by have:=eB 4 fJ l; rw[h]at this; simp at this; omega))
     |(have:=m'3; exact hJ (by have:=eB 2 nH l; rw[h]at this; simp at this; omega))
     |(have:=m'4; exact hJ (by have:=eB 11 eL l; rw[h]at this; simp at this; omega))
     |(have:=m'5; exact hJ (by have:=eB 5 cM l; rw[h]at this; simp at this; omega))
     |exact hJ (by have:=eB 6 iS l; rw[h]at this; simp at this; omega)
    .cases e
   subst hes;clear hr hn
   first |go_enter func95,ntmps95|go_enter func201,ntmps201|go_enter func102,ntmps102|go_enter func96,ntmps96|go_enter func83,ntmps83|go_enter func208,ntmps208|go_enter func97,ntmps97
   go_wp2_with fail;go_ret;exact⟨_,rfl,World.ownsRow_nil _ _ _ _,aL _ _⟩
  |some ad=>
   have H:=kp hr; clear hr
   first
   |(have:=m'0; obtain⟨i0,hi0,hz0,hz1,hz2⟩:=info_parts mL)
   |(have:=m'1; obtain⟨i0,hi0,hz0,hz1,hz2⟩:=info_parts jA)
   |(have:=m'2; obtain⟨i0,hi0,hz0,hz1,hz2⟩:=info_parts rE)
   |(have:=m'3; obtain⟨i0,hi0,hz0,hz1,hz2⟩:=info_parts Hn)
   |(have:=m'4; obtain⟨i0,hi0,hz0,hz1,hz2⟩:=info_parts Ch)
   |(have:=m'5; obtain⟨i0,hi0,hz0,hz1,hz2⟩:=info_parts pS)
   |obtain⟨i0,hi0,hz0,hz1,hz2⟩:=info_parts Ho
   first |go_enter func95,ntmps95|go_enter func201,ntmps201|go_enter func102,ntmps102|go_enter func96,ntmps96|go_enter func83,ntmps83|go_enter func208,ntmps208|go_enter func97,ntmps97
   first
   |(have:=m'0; have hbe:=ba' w (.cells #[] 3))
   |(have:=m'1; have hbe:=ba' w (.cells #[] 150))
   |(have:=m'2; have hbe:=ba' w (.cells #[] 117))
   |(have:=m'3; have hbe:=ba' w (.cells #[] 109))
   |(have:=m'4; have hbe:=ba' w (.cells #[] 93))
   |(have:=m'5; have hbe:=ba' w (.cells #[] 152))
   |have hbe:=ba' w (.cells #[] 103)
   first
   |(have:=m'0; have hown:=World.ownsRow_made (base:=w.heap.size) (e:=3) (size:=1) w #[] 0 (aD _) (by unfold maxLen; omega) rfl)
   |(have:=m'1; have hown:=World.ownsRow_made (base:=w.heap.size) (e:=150) (size:=2) w #[] 0 (aD _) (by unfold maxLen; omega) rfl)
   |(have:=m'2; have hown:=World.ownsRow_made (base:=w.heap.size) (e:=117) (size:=4) w #[] 0 (aD _) (by unfold maxLen; omega) rfl)
   |(have:=m'3; have hown:=World.ownsRow_made (base:=w.heap.size) (e:=109) (size:=2) w #[] 0 (aD _) (by unfold maxLen; omega) rfl)
   |(have:=m'4; have hown:=World.ownsRow_made (base:=w.heap.size) (e:=93) (size:=11) w #[] 0 (aD _) (by unfold maxLen; omega) rfl)
   |(have:=m'5; have hown:=World.ownsRow_made (base:=w.heap.size) (e:=152) (size:=5) w #[] 0 (aD _) (by unfold maxLen; omega) rfl)
   |have hown:=World.ownsRow_made (base:=w.heap.size) (e:=103) (size:=6) w #[] 0 (aD _) (by unfold maxLen; omega) rfl
   have HB:=k'2 hbe hown; clear hbe hown
   first
   |(have:=m'0; go_wp2_with (at_builtin; refine oJ _ rfl (.tmp 5) (.tmp 6) _ rfl w.heap.size 3 i0 _ 1 8 lT hi0 hz0 hz1 hz2 rfl (by omega) _ 0 [] HB.B rfl B (some ad) l.length c (aM i1 l) (H.o.below HB.a hB) rfl ?_ (nG pJ l) ?_ ?_ ?_ ?_))
   |(have:=m'1; go_wp2_with (at_builtin; refine oJ _ rfl (.tmp 5) (.tmp 6) _ rfl w.heap.size 150 i0 _ 2 16 fC hi0 hz0 hz1 hz2 rfl (by omega) _ 0 [] HB.B rfl B (some ad) l.length c (aM Bk.cells l) (H.o.below HB.a hB) rfl ?_ (nG gU l) ?_ ?_ ?_ ?_))
   |(have:=m'2; go_wp2_with (at_builtin; refine oJ _ rfl (.tmp 5) (.tmp 6) _ rfl w.heap.size 117 i0 _ 4 32 kO hi0 hz0 hz1 hz2 rfl (by omega) _ 0 [] HB.B rfl B (some ad) l.length c (aM Rw.cells l) (H.o.below HB.a hB) rfl ?_ (nG jR l) ?_ ?_ ?_ ?_))
   |(have:=m'3; go_wp2_with (at_builtin; refine oJ _ rfl (.tmp 5) (.tmp 6) _ rfl w.heap.size 109 i0 _ 2 16 Ff hi0 hz0 hz1 hz2 rfl (by omega) _ 0 [] HB.B rfl B (some ad) l.length c (aM Ak.cells l) (H.o.below HB.a hB) rfl ?_ (nG wX l) ?_ ?_ ?_ ?_))
   |(have:=m'4; go_wp2_with (at_builtin; refine oJ _ rfl (.tmp 5) (.tmp 6) _ rfl w.heap.size 93 i0 _ 11 88 wO hi0 hz0 hz1 hz2 rfl (by omega) _ 0 [] HB.B rfl B (some ad) l.length c (aM En.cells l) (H.o.below HB.a hB) rfl ?_ (nG nI l) ?_ ?_ ?_ ?_))
   |(have:=m'5; go_wp2_with (at_builtin; refine oJ _ rfl (.tmp 5) (.tmp 6) _ rfl w.heap.size 152 i0 _ 5 72 nE hi0 hz0 hz1 hz2 rfl (by omega) _ 0 [] HB.B rfl B (some ad) l.length c (aM ObV.cells l) (H.o.below HB.a hB) rfl ?_ (fun u hu=>by obtain⟨x,hx,hu⟩:=List.mem_flatten.1 hu; obtain⟨a,ha,rfl⟩:=cX.1 hx; exact h1 a ha u hu) ?_ ?_ ?_ ?_))
   |go_wp2_with (at_builtin; refine oJ _ rfl (.tmp 5) (.tmp 6) _ rfl w.heap.size 103 i0 _ 6 64 underlying34 hi0 hz0 hz1 hz2 rfl (by omega) _ 0 [] HB.B rfl B (some ad) l.length c (aM VoV.cells l) (H.o.below HB.a hB) rfl ?_ (fun u hu=>by obtain⟨x,hx,hu⟩:=List.mem_flatten.1 hu; obtain⟨a,ha,rfl⟩:=cX.1 hx; exact h1 a ha u hu) ?_ ?_ ?_ ?_)
   .first
    |(have:=m'0; rw[eB 1 cS])
    |(have:=m'1; rw[eB 2 bM])
    |(have:=m'2; rw[eB 4 fJ])
    |(have:=m'3; rw[eB 2 nH])
    |(have:=m'4; rw[eB 11 eL])
    |(have:=m'5; rw[eB 5 cM])
    |rw[eB 6 iS]
   .unfold maxLen; omega
   .omega
   .simp
   intro v1 w1 hown1 hg1;have hb1:=HB.a.trans (uO HB.B hg1 (by simp));have H1:=k'2 hown1 hb1; clear hown1 hb1 hg1;go_wp2_with fail;go_ret;refine⟨_,rfl,?_,H1.B⟩;have:=H1.a;simpa using this
end
end
section
attribute [-go_sem] loadCellsFrom storeCells
attribute [local go_sem] bC
theorem Jz:(∀(v:Value)(l:List Int)(p:Int→Bool)(g:Nat)(f:Array Value)(B:Nat)(w:World)(h:Sl w B v i1 l)(m:B≤w.heap.size)(G:l.length≤1000000)(I:∀args w,(callFunc g args).run prog w=.ok (.enter g args) w)(s:∀(W:World)(x:Int),x∈l→Bw' w W→Calls prog g (#[(.i x)]++f) W fun e d=>e=.returned (.bool (p x))∧Bw' W d),Calls prog 249 #[v,.func (.func g) #[] f] w fun e d=>e=.returned (.i (eI p l))∧Bw' w d)∧(∀(v:Value)(l:List Rw)(p:Rw→Bool)(g:Nat)(f:Array Value)(B:Nat)(w:World)(h:Sl w B v Rw.cells l)(m:B≤w.heap.size)(G:l.length≤1000000)(I:∀args w,(callFunc g args).run prog w=.ok (.enter g args) w)(s:∀(W:World)(x:Rw),x∈l→Bw' w W→Calls prog g (#[(.agg (Rw.cells x).toArray)]++f) W fun e d=>e=.returned (.bool (p x))∧Bw' W d),Calls prog 114 #[v,.func (.func g) #[] f] w fun e d=>e=.returned (.i (eI p l))∧Bw' w d)∧(∀(v:Value)(l:List ObV)(p:ObV→Bool)(g:Nat)(f:Array Value)(B:Nat)(w:World)(h:Sl w B v ObV.cells l)(m:B≤w.heap.size)(G:l.length≤1000000)(I:∀args w,(callFunc g args).run prog w=.ok (.enter g args) w)(s:∀(W:World)(x:ObV),x∈l→Bw' w W→Calls prog g (#[(.agg (ObV.cells x).toArray)]++f) W fun e d=>e=.returned (.bool (p x))∧Bw' W d),Calls prog 266 #[v,.func (.func g) #[] f] w fun e d=>e=.returned (.i (eI p l))∧Bw' w d)∧(∀(v:Value)(l:List Bk)(p:Bk→Bool)(g:Nat)(f:Array Value)(B:Nat)(w:World)(h:Sl w B v Bk.cells l)(m:B≤w.heap.size)(G:l.length≤1000000)(I:∀args w,(callFunc g args).run prog w=.ok (.enter g args) w)(s:∀(W:World)(x:Bk),x∈l→Bw' w W→Calls prog g (#[(.agg (Bk.cells x).toArray)]++f) W fun e d=>e=.returned (.bool (p x))∧Bw' W d),Calls prog 307 #[v,.func (.func g) #[] f] w fun e d=>e=.returned (.i (eI p l))∧Bw' w d):=by
 refine⟨?q0,?q1,?q2,?q3⟩
 case' q0=>have O:=True.intro
 case' q1=>have a0:=True.intro
 case' q2=>have b0:=True.intro
 all_goals
  intro v l p g f B w h m G I s;obtain⟨A,c,rfl,X,T,Z⟩:=h;obtain⟨n,N⟩:=nm' l.length;rw[N]at T G ⊢;have H:=k'2 X N; clear X T Z N;have Y:=kp s; clear s
  first |go_enter func249,ntmps249|go_enter func114,ntmps114|go_enter func266,ntmps266|go_enter func307,ntmps307
  go_wp2_with fail
  go_loopw [5,8] (fun _ i wr=>∃k:Nat,k≤n∧i=.i k∧(∀y∈l.take k,p y=false)∧Bw' w wr) (fun _ i _=>n-(intOf i).toNat)
  case atStart=>exact⟨0,by omega,rfl,by simp,aL _ _⟩
  case round=>
   obtain⟨k,hk,rfl,V,S⟩:=hrel;have L:=kp V;have j:=kp S;clear V S
   by_cases d0:k<n
   .have g3:(k:Int)<(n:Int):=by omega
    have q:k<l.length:=by have:=H.B; omega
    first
    |(have:=O; obtain⟨b,Q,J,_,E,F⟩:=bV (P:=prog) 1 cS (by omega) (H.a.below j.o m) k q)
    |(have:=a0; obtain⟨b,Q,J,_,E,F⟩:=bV (P:=prog) 4 fJ (by omega) (H.a.below j.o m) k q)
    |(have:=b0; obtain⟨b,Q,J,_,E,F⟩:=bV (P:=prog) 5 cM (by omega) (H.a.below j.o m) k q)
    |obtain⟨b,Q,J,_,E,F⟩:=bV (P:=prog) 2 bM (by omega) (H.a.below j.o m) k q
    subst J
    first
    |(have:=O; have q0:=E 0 _ rfl)
    |have q0:=F 0
    first
    |(have:=O; simp only[oF,cF]at q0)
    |change Sem.run _ _ wr=.ok _ wr at q0
    clear E F;have M:=k'3 (cV q) (rF p l k q) (bK q);generalize l[k]'q=x at *;have U:=Y.o wr x M.C j.o;have R:=kp U; clear U
    cases hpx:p x
    .have z:=kp hpx; clear hpx;go_wp2_with (go_at_fn g; refine R.o.mono ?_; rintro e w2 ⟨rfl,D⟩; rw[z.o]);have K:=kp (j.o.on D); clear D;go_roundw
     case rel=>
      refine⟨k+1,by omega,by go_num,fun y r=>?_,K.o⟩;rw[M.a]at r;rcases dF.1 r with r|r
      .exact L.o y r
      .rw[bQ.1 r]; exact z.o
     case measure=>simp[intOf]; omega
    .have z:=kp hpx; clear hpx;go_wp2_with (go_at_fn g; refine R.o.mono ?_; rintro e w2 ⟨rfl,D⟩; rw[z.o]);have K:=kp (j.o.on D); clear D;go_ret;exact⟨by rw[M.b z.o L.o]; rfl,K.o⟩
   .obtain rfl:k=n:=by omega
    go_wp2_with fail;go_ret;exact⟨by rw[vB p l (fun y r=>L.o y (by rw[cN (by have:=H.B; omega)]; exact r))]; rfl,j.o⟩
theorem tU:(∀(v:Value)(l:List Int)(p:Int→Bool)(g:Nat)(a:Array Value)(B:Nat)(w:World)(h:Sl w B v i1 l)(f:B≤w.heap.size)(i:l.length≤1000000)(c:∀args w,(callFunc g args).run prog w=.ok (.enter g args) w)(d:∀(W:World)(x:Int),x∈l→Bw' w W→Calls prog g (#[(.i x)]++a) W fun e b=>e=.returned (.bool (p x))∧Bw' W b),Calls prog 207 #[v,.func (.func g) #[] a] w fun e b=>e=.returned (.bool (l.any p))∧Bw' w b)∧(∀(v:Value)(l:List ObV)(p:ObV→Bool)(g:Nat)(a:Array Value)(B:Nat)(w:World)(h:Sl w B v ObV.cells l)(f:B≤w.heap.size)(i:l.length≤1000000)(c:∀args w,(callFunc g args).run prog w=.ok (.enter g args) w)(d:∀(W:World)(x:ObV),x∈l→Bw' w W→Calls prog g (#[(.agg (ObV.cells x).toArray)]++a) W fun e b=>e=.returned (.bool (p x))∧Bw' W b),Calls prog 242 #[v,.func (.func g) #[] a] w fun e b=>e=.returned (.bool (l.any p))∧Bw' w b)∧(∀(v:Value)(l:List Bk)(p:Bk→Bool)(g:Nat)(a:Array Value)(B:Nat)(w:World)(h:Sl w B v Bk.cells l)(f:B≤w.heap.size)(i:l.length≤1000000)(c:∀args w,(callFunc g args).run prog w=.ok (.enter g args) w)(d:∀(W:World)(x:Bk),x∈l→Bw' w W→Calls prog g (#[(.agg (Bk.cells x).toArray)]++a) W fun e b=>e=.returned (.bool (p x))∧Bw' W b),Calls prog 293 #[v,.func (.func g) #[] a] w fun e b=>e=.returned (.bool (l.any p))∧Bw' w b):=by
 refine⟨?q0,?q1,?q2⟩
 case' q0=>have A:=True.intro
 case' q1=>have C:=True.intro
 all_goals
  intro v l p g a B w h f i c d
  first
  |(have:=A; have j:=Jz.1 v l p g a B w h f i c d)
  |(have:=C; have j:=Jz.2.2.1 v l p g a B w h f i c d)
  |have j:=Jz.2.2.2 v l p g a B w h f i c d
  have s:=kp j;obtain⟨z,m⟩:=nm' (eI p l);have k:=tI p l;rw[m]at k;have q:=kp k;have y:=kp m;clear j d h m k c
  first |go_enter func207,ntmps207|go_enter func242,ntmps242|go_enter func293,ntmps293
  go_wp2_with fail;refine mb' s.o fun D n=>?_;rw[y.o];have r:=kp n; clear n;go_wp2_with fail;go_ret;exact⟨mK (bG Value.bool q.o),r.o⟩
end
section
attribute [-go_sem] loadCellsFrom storeCells
attribute [local go_sem] bC
def fX(x y:Int):Int:=if x<y then -1 else if y<x then 1 else 0
theorem Hq(x:Int)(w:World):Calls prog 155 #[.i x] w fun e a=>e=.returned (.bool false)∧a=w:=by
 go_enter func155,ntmps155;go_wp2_with fail;go_ret;exact⟨rfl,rfl⟩
theorem tJ(x y:Int)(w:World):Calls prog 106 #[.i x,.i y] w fun e f=>e=.returned (.i (fX x y))∧f=w:=by
 obtain⟨r,a⟩:=nm' (fX x y);rw[a];unfold fX at a;have g:(decide (x<y)=true∧r= -1)∨(decide (x<y)=false∧decide (y<x)=true∧r=1)∨(decide (x<y)=false∧decide (y<x)=false∧r=0):=by
  by_cases b:x<y
  .rw[aE b]at a; exact .inl ⟨by simpa using b,a.symm⟩
  .rw[aC b]at a
   by_cases c:y<x
   .rw[aE c]at a; exact .inr (.inl ⟨by simpa using b,by simpa using c,a.symm⟩)
   .rw[aC c]at a; exact .inr (.inr ⟨by simpa using b,by simpa using c,a.symm⟩)
 rcases g with⟨b,rfl⟩|⟨b,c,rfl⟩|⟨b,c,rfl⟩
 all_goals
  go_enter func106,ntmps106;go_wp2_with fail;refine mb' (Hq x w) fun f d=>?_;obtain rfl:=d.symm;go_wp2_with fail;refine mb' (Hq y w) fun f d=>?_;obtain rfl:=d.symm;go_wp2_with fail;go_ret;exact⟨rfl,rfl⟩
theorem Hr(x y:Int):decide (fX x y<0)=decide (x<y):=by
 unfold fX
 by_cases h:x<y
 .simp[h]
 .by_cases a:y<x<;>simp[h,a]
theorem Rv(x y:Int):(fX x y==0)=decide (x=y):=by
 unfold fX
 by_cases h:x<y
 .rw[aE h,aX (by omega)]; rfl
 .by_cases a:y<x
  .rw[aC h,aE a,aX (by omega)]; rfl
  .rw[aC h,aC a,bY (by omega)]; rfl
def eT{α:Type}(key:α→Int)(t:Int):List α→Nat
 |[]=>0
 |x::l=>if key x<t then eT key t l+1 else 0
def iL{α:Type}(key:α→Int):List α→Prop
 |[]=>True
 |x::l=>(∀y∈l,key x<key y)∧iL key l
theorem Ci{α:Type}(a:α→Int)(t:Int):∀l:List α,eT a t l≤l.length
 |[]=>aD _
 |x::l=>by
  unfold eT;have:=Ci a t l
  split<;>simp<;>omega
theorem Hs{α:Type}(b:α→Int)(t:Int):∀(l:List α)(i:Nat),i≤l.length→(∀k(h:k<l.length),k<i→b l[k]<t)→(∀k(h:k<l.length),i≤k→t≤b l[k])→eT b t l=i
 |[],i,a,_,_=>by simp at a; subst a; rfl
 |x::l,0,_,_,c=>by
  have:=c 0 (by simp) (aD _);unfold eT;rw[aC (by simp at this; omega)]
 |x::l,i+1,a,d,c=>by
  have e:=d 0 (by simp) (by omega);unfold eT;rw[aE (by simpa using e),Hs b t l i (by simpa using a) (fun k h f=>d (k+1) (by simpa using h) (by omega)) (fun k h f=>c (k+1) (by simpa using h) (by omega))]
theorem xO{α:Type}(b:α→Int):∀(l:List α),iL b l→∀(i j:Nat)(c:i<l.length)(a:j<l.length),i<j→b l[i]<b l[j]
 |x::l,h,0,j+1,_,a,_=>h.1 _ (bK (by simpa using a))
 |x::l,h,i+1,j+1,c,a,d=>xO b l h.2 i j (by simpa using c) (by simpa using a) (by omega)
theorem Rx{α:Type}(a:α→Int)(t:Int)(l:List α)(i:Nat)(m:iL a l)(d:∀k(h:k<l.length),k<i→a l[k]<t)(e:∀k(h:k<l.length),i≤k→t≤a l[k]):
  (l.any fun x=>decide (a x=t))=(if h:i<l.length then decide (a l[i]=t) else false):=by
 rw[qQ,kZ];constructor
 .rintro⟨x,n,b⟩;obtain⟨j,c,rfl⟩:=zU n;have b:a l[j]=t:=by simpa using b
  have o:i≤j:=by
   rcases mJ j i with h|h
   .have:=d j c h; omega
   .exact h
  rw[dif_pos (by omega)]
  by_cases g:i=j
  .subst g; simpa using b
  .have p:=xO a l m i j (by omega) c (by omega);have:=e i (by omega) (aD _);omega
 .intro h
  split at h
  .rename_i f;exact⟨_,bK f,h⟩
  .cases h
theorem aCm:(∀(v:Value)(l:List ObV)(d:ObV→Int)(t:Int)(g:Nat)(s:Array Value)(B:Nat)(w:World)(h:Sl w B v ObV.cells l)(r:B≤w.heap.size)(U:l.length≤1000000)(O:iL d l)(Z:∀args w,(callFunc g args).run prog w=.ok (.enter g args) w)(N:∀(W:World)(x:ObV),x∈l→Bw' w W→Calls prog g (#[.agg (ObV.cells x).toArray,.i t]++s) W fun e q=>e=.returned (.i (fX (d x) t))∧Bw' W q),Calls prog 277 #[v,.i t,.func (.func g) #[] s] w fun e q=>e=.returned (.tuple #[.i (eT d t l:Nat),.bool (l.any fun x=>decide (d x=t))])∧Bw' w q)∧(∀(v:Value)(l:List Rw)(d:Rw→Int)(t:Int)(g:Nat)(s:Array Value)(B:Nat)(w:World)(h:Sl w B v Rw.cells l)(r:B≤w.heap.size)(U:l.length≤1000000)(O:iL d l)(Z:∀args w,(callFunc g args).run prog w=.ok (.enter g args) w)(N:∀(W:World)(x:Rw),x∈l→Bw' w W→Calls prog g (#[.agg (Rw.cells x).toArray,.i t]++s) W fun e q=>e=.returned (.i (fX (d x) t))∧Bw' W q),Calls prog 104 #[v,.i t,.func (.func g) #[] s] w fun e q=>e=.returned (.tuple #[.i (eT d t l:Nat),.bool (l.any fun x=>decide (d x=t))])∧Bw' w q)∧(∀(v:Value)(l:List Bk)(d:Bk→Int)(t:Int)(g:Nat)(s:Array Value)(B:Nat)(w:World)(h:Sl w B v Bk.cells l)(r:B≤w.heap.size)(U:l.length≤1000000)(O:iL d l)(Z:∀args w,(callFunc g args).run prog w=.ok (.enter g args) w)(N:∀(W:World)(x:Bk),x∈l→Bw' w W→Calls prog g (#[.agg (Bk.cells x).toArray,.i t]++s) W fun e q=>e=.returned (.i (fX (d x) t))∧Bw' W q),Calls prog 303 #[v,.i t,.func (.func g) #[] s] w fun e q=>e=.returned (.tuple #[.i (eT d t l:Nat),.bool (l.any fun x=>decide (d x=t))])∧Bw' w q):=by
 refine⟨?q0,?q1,?q2⟩
 case' q0=>have d0:=True.intro
 case' q1=>have e0:=True.intro
 all_goals
  intro v l d t g s B w h r U O Z N;obtain⟨A,c,rfl,hr,hc,hm⟩:=h;obtain⟨n,hl⟩:=nm' l.length;rw[hl]at hc U ⊢;have H:=k'2 hr hl; clear hr hc hm hl;have HC:=kp N; clear N;have X:=kp O; clear O
  first |go_enter func277,ntmps277|go_enter func104,ntmps104|go_enter func303,ntmps303
  go_wp2_with fail
  go_loopw [9,10] (fun vi vj wr=>∃i j:Nat,i≤j∧j≤n∧vi=.i i∧vj=.i j∧(∀k(h:k<l.length),k<i→d l[k]<t)∧(∀k(h:k<l.length),j≤k→t≤d l[k])∧Bw' w wr) (fun vi vj _=>(intOf vj).toNat-(intOf vi).toNat)
  case atStart=>exact⟨0,n,by omega,by omega,rfl,rfl,fun k h E=>absurd E (by omega),fun k h E=>absurd h (by have:=H.B; omega),aL _ _⟩
  case round=>
   obtain⟨i,j,p0,z0,rfl,rfl,o0,m0,l0⟩:=hrel;have I:=k'2 o0 m0;have p:=kp l0
   by_cases a1:i<j
   .have g3:(i:Int)<(j:Int):=by omega
    obtain⟨m,hm⟩:=nm' ((i+j) / 2);have b1:i≤m:=by omega
    have d1:m<j:=by omega
    have f:m<l.length:=by have:=H.B; omega
    first
    |(have:=d0; obtain⟨b,Q,C,_,L,F⟩:=bV (P:=prog) 5 cM (by omega) (H.a.below p.o r) m f)
    |(have:=e0; obtain⟨b,Q,C,_,L,F⟩:=bV (P:=prog) 4 fJ (by omega) (H.a.below p.o r) m f)
    |obtain⟨b,Q,C,_,L,F⟩:=bV (P:=prog) 2 bM (by omega) (H.a.below p.o r) m f
    subst C;have q0:=F 0;change Sem.run _ _ wr=.ok _ wr at q0;have e1:(((i:Int)+(j:Int)) / 2)=(m:Int):=by omega
    have j0:=kp (show ∀k(h:k<l.length),k≤m→d l[k]≤d l[m] from fun k h E=>by
     rcases mJ k m with K|K
     .have:=xO d l X.o k m h f K; omega
     .obtain rfl:k=m:=by omega
      exact iQ _)
    have g0:=kp (show ∀k(h:k<l.length),m≤k→d l[m]≤d l[k] from fun k h E=>by
     rcases mJ m k with K|K
     .have:=xO d l X.o m k f h K; omega
     .obtain rfl:k=m:=by omega
      exact iQ _)
    have S:=kp (HC.o wr l[m] (bK f) p.o);generalize l[m]'f=x at *;have M:=Hr (d x) t;obtain⟨z,G⟩:=nm' (fX (d x) t);rw[G]at M;have T:=kp G; clear G
    cases hlx:decide (d x<t)
    .rw[hlx]at M;have Y:=kp hlx; clear hlx;go_wp2_with (go_at_fn g; refine S.o.mono ?_; rintro e w2 ⟨rfl,y⟩; rw[T.o]);have J:=kp (p.o.on y); clear y;go_roundw
     case rel=>exact⟨i,m,by omega,by omega,rfl,by go_num,I.a,fun k h E=>by have:=g0.o k h E; have:=Y.o; simp at this; omega,J.o⟩
     case measure=>simp[intOf]; omega
    .rw[hlx]at M;have Y:=kp hlx; clear hlx;go_wp2_with (go_at_fn g; refine S.o.mono ?_; rintro e w2 ⟨rfl,y⟩; rw[T.o]);have J:=kp (p.o.on y); clear y;go_roundw
     case rel=>exact⟨m+1,j,by omega,by omega,by go_num,rfl,fun k h E=>by have:=j0.o k h (by omega); have:=Y.o; simp at this; omega,I.B,J.o⟩
     case measure=>simp[intOf]; omega
   .obtain rfl:i=j:=by omega
    have b0:=Hs d t l i (by have:=H.B; omega) I.a I.B;have a0:=Rx d t l i X.o I.a I.B;have R:=k'2 b0 a0; clear b0 a0
    by_cases y0:i<n
    .have g4:decide ((i:Int)<(n:Int))=true:=by simp; omega
     have g5:(i:Int)<(n:Int):=by omega
     have f:i<l.length:=by have:=H.B; omega
     first
     |(have:=d0; obtain⟨b,Q,C,_,L,F⟩:=bV (P:=prog) 5 cM (by omega) (H.a.below p.o r) i f)
     |(have:=e0; obtain⟨b,Q,C,_,L,F⟩:=bV (P:=prog) 4 fJ (by omega) (H.a.below p.o r) i f)
     |obtain⟨b,Q,C,_,L,F⟩:=bV (P:=prog) 2 bM (by omega) (H.a.below p.o r) i f
     subst C;have q0:=F 0;change Sem.run _ _ wr=.ok _ wr at q0;have D:=R.B;rw[dif_pos f]at D;have S:=kp (HC.o wr l[i] (bK f) p.o);generalize l[i]'f=x at *;have V:=kp D; clear D;have M:=Rv (d x) t;obtain⟨z,G⟩:=nm' (fX (d x) t);rw[G]at M;have T:=kp G; clear G;go_wp2_with (go_at_fn g; refine S.o.mono ?_; rintro e w2 ⟨rfl,y⟩; rw[T.o]);have J:=kp (p.o.on y); clear y;go_wp2_with fail;go_ret2;exact⟨by rw[R.a,V.o]; rfl,J.o⟩
    .have g4:decide ((i:Int)<(n:Int))=false:=by simp; omega
     have D:=R.B;rw[dif_neg (by have:=H.B; omega)]at D;have V:=kp D; clear D;go_wp2_with fail;go_ret2;exact⟨by rw[R.a,V.o]; rfl,p.o⟩
end
end Go.Proofs.YthalbagblhkeaaaGreat
