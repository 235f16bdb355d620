import Derived.Test.YtoncgpddjmgbfaaGreatZ01
import Derived.Test.YtoncgpddjmgbfaaGreatZ02
import Derived.Lib.SliceRun
import Derived.Shelf.Abstract
namespace Go.Proofs.YtoncgpddjmgbfaaGreat
open Go.RowKit Go.Proofs.Tryz
set_option maxRecDepth 100000
set_option maxHeartbeats 12800000
set_option linter.unusedVariables false
set_option linter.unusedSimpArgs false
section
def aQ(n:Int):List UInt8:=beN 4 n.toNat
def dH(n:Int):List UInt8:=beN 8 (kF n)
theorem fU(n:Int):(aQ n).length=4:=jQ 4 _
theorem uM(n:Int):(dH n).length=8:=jQ 8 _
def iP(x:Ob):List UInt8:=aQ x.h++aQ x.b.a++aQ x.ws.length++aQ x.ls.length++x.ws.flatMap dH++x.ls.flatMap aQ
def cF(h:Hp):List UInt8:=aQ h.order++aQ h.next++h.tops.flatMap aQ++aQ h.obs.length++h.obs.flatMap iP
def jC(r:Rw):List UInt8:=aQ r.c++aQ r.s++aQ r.k++dH r.v
def fK(s:St):List UInt8:=aQ (cF s.h).length++cF s.h++aQ s.rows.length++s.rows.flatMap jC
def bW(l:List UInt8):Option (Int×List UInt8):=if (num l).2.2=0 then some ((num l).1,l.drop 4) else none
def gM(l:List UInt8):Option (Int×List UInt8):=if (aA l).2.2=0 then some ((aA l).1,l.drop 8) else none
def bN{α:Type}(one:List UInt8→Option (α×List UInt8)):Nat→List UInt8→Option (List α×List UInt8)
 |0,l=>some ([],l)
 |n+1,l=>match one l with
  |none=>none
  |some (x,r)=>match bN one n r with
   |none=>none
   |some (xs,r')=>some (x::xs,r')
theorem oW{α:Type}{one:List UInt8→Option (α×List UInt8)}{put:α→List UInt8}(r:List UInt8):∀(xs:List α),(∀x∈xs,∀r,one (put x++r)=some (x,r))→bN one xs.length (xs.flatMap put++r)=some (xs,r)
 |[],_=>rfl
 |x::xs,h=>by
  rw[mK,eS,cH];unfold bN;rw[h x (by simp)];dsimp only;rw[oW r xs fun y a=>h y (by simp[a])]
def obP(l:List UInt8):Option (Ob×List UInt8):=
 match bN bW 4 l with
 |some ([h,a,w,k],r)=>
  if cQ w k<0 then none else
  match bN gM w.toNat r with
  |none=>none
  |some (ws,r)=>match bN bW k.toNat r with
   |none=>none
   |some (ls,r)=>some (⟨h,⟨a,cQ w k⟩,ws,ls⟩,r)
 |_=>none
def kY(order next t0 t1 t2 t3:Int)(obs:List Ob):Hp:=⟨order,next,t0,t1,t2,t3,obs,dL (obs.map (·.b)) order.toNat 0⟩
def hpP(l:List UInt8):Option (Hp×List UInt8):=
 match bN bW 7 l with
 |some ([order,next,t0,t1,t2,t3,n],r)=>
  if 256<n then none else
  match bN obP n.toNat r with
  |none=>none
  |some (obs,r)=>some (kY order next t0 t1 t2 t3 obs,r)
 |_=>none
def gZ(l:List UInt8):Option Hp:=
 match hpP l with
 |some (h,[])=>if cR h=true then some h else none
 |_=>none
def fL:Int→List Rw→Bool
 |_,[]=>true
 |last,r::l=>(decide (last<r.c)&&decide (r.c≤4))&&(aG r.s 1 1000000&&(aG r.k 0 65535&&fL r.c l))
def stB(s:St):Bool:=cR s.h&&fL 0 s.rows
def rwP(l:List UInt8):Option (Rw×List UInt8):=
 match bN bW 3 l with
 |some ([c,s,k],r)=>match gM r with
  |none=>none
  |some (v,r)=>some (⟨c,s,k,v⟩,r)
 |_=>none
def dX(l:List UInt8):Option St:=
 if (eH l).2.2=0 then
  match gZ (eH l).1.data.toList with
  |none=>none
  |some h=>match bW (l.drop (eH l).2.1) with
   |none=>none
   |some (n,r)=>if 4<n then none else
    match bN rwP n.toNat r with
    |some (rows,[])=>if stB ⟨h,rows⟩=true then some ⟨h,rows⟩ else none
    |_=>none
 else none
def inR(z:Int):Prop:= -9223372036854775808≤z∧z≤9223372036854775807
def hpR(h:Hp):Prop:=∀x∈h.obs,∀z∈x.ws,inR z
def stR(s:St):Prop:=hpR s.h∧∀r∈s.rows,inR r.v
theorem jH{n:Int}(a:0≤n)(b:n≤2147483647)(r:List UInt8):bW (aQ n++r)=some (n,r):=by
 unfold bW aQ;rw[Nv n.toNat r (by omega),aK rfl,vY (jQ 4 _),show ((n.toNat:Nat):Int)=n by omega]
theorem Fs{n:Int}(h:inR n)(r:List UInt8):gM (dH n++r)=some (n,r):=by
 unfold gM dH;rw[Nx n r h.1 h.2,aK rfl,vY (jQ 8 _)]
def okN(n:Int):Prop:=0≤n∧n≤2147483647
theorem Oz{x:Ob}(d:okN x.h)(f:okN x.b.a)(j:cQ x.ws.length x.ls.length=x.b.o)(q:0≤x.b.o)(l:∀z∈x.ws,inR z)(g:∀z∈x.ls,okN z)(r:List UInt8):obP (iP x++r)=some (x,r):=by
 have s:=qB (n:=x.ws.length) (k:=x.ls.length) (by omega);have e:iP x++r=[x.h,x.b.a,(x.ws.length:Int),(x.ls.length:Int)].flatMap aQ++(x.ws.flatMap dH++(x.ls.flatMap aQ++r)):=by
  unfold iP;simp only[mK,zD,cH,fG]
 have i:=oW (one:=bW) (put:=aQ) (x.ws.flatMap dH++(x.ls.flatMap aQ++r)) [x.h,x.b.a,(x.ws.length:Int),(x.ls.length:Int)] (fun z c r=>by
  simp only[bD,dF,or_false]at c;rcases c with rfl|rfl|rfl|rfl
  .exact jH d.1 d.2 r
  .exact jH f.1 f.2 r
  .exact jH (by omega) (by omega) r
  .exact jH (by omega) (by omega) r)
 have p:=oW (one:=gM) (put:=dH) (x.ls.flatMap aQ++r) x.ws (fun z c r=>Fs (l z c) r);have m:=oW (one:=bW) (put:=aQ) r x.ls (fun z c r=>jH (g z c).1 (g z c).2 r);unfold obP;rw[e,show (4:Nat)=[x.h,x.b.a,(x.ws.length:Int),(x.ls.length:Int)].length from rfl,i];dsimp only;rw[aF (by omega),gS,p];dsimp only;rw[gS,m];dsimp only;rw[j]
theorem HOk.okN{h:Hp}(H:HOk h):okN h.order∧okN h.next∧(∀t∈h.tops,okN t)∧∀x∈h.obs,okN x.h∧okN x.b.a∧0≤x.b.o∧∀z∈x.ls,okN z:=by
 have l:=fB H.reg;have m:=H.next;have e:∀t,kX h.obs t→Proofs.YtoncgpddjmgbfaaGreat.okN t:=fun t d=>by
  rcases d with rfl|⟨x,c,rfl⟩
  .exact⟨by omega,by omega⟩
  .have:=H.rise.1 x c; exact⟨by omega,by omega⟩
 refine⟨⟨by omega,by omega⟩,⟨by omega,by omega⟩,fun t d=>e t (H.tops t d),fun x c=>?_⟩;have i:=H.rise.1 x c;have f:=fY H.reg (H.each x c).2;have j:=uL (o:=h.order) (by omega);have k:=eA x.b.o;exact⟨⟨by omega,by omega⟩,⟨by omega,by omega⟩,f.1,fun z g=>e z (H.links x c z g)⟩
theorem Pa{h:Hp}(i:cR h=true)(n:hpR h)(r:List UInt8):hpP (cF h++r)=some (h,r):=by
 have H:=gE.1 i;have y:=fB H.reg;obtain⟨f,g,a,d⟩:=H.okN;have A:h.obs.length≤256:=by
  have k:=pY (h.obs.map (·.b));have p:=pY h.free;have q:=uL (o:=h.order) (by omega);have s:=H.sum;rw[dD]at k;omega
 simp only[Hp.tops,bD,dF,or_false,forall_eq_or_imp,forall_eq]at a;have e:cF h++r=[h.order,h.next,h.t0,h.t1,h.t2,h.t3,(h.obs.length:Int)].flatMap aQ++(h.obs.flatMap iP++r):=by
  unfold cF Hp.tops;simp only[mK,zD,cH,fG]
 have l:=oW (one:=bW) (put:=aQ) (h.obs.flatMap iP++r) [h.order,h.next,h.t0,h.t1,h.t2,h.t3,(h.obs.length:Int)] (fun z j r=>by
  simp only[bD,dF,or_false]at j;rcases j with rfl|rfl|rfl|rfl|rfl|rfl|rfl
  .exact jH f.1 f.2 r
  .exact jH g.1 g.2 r
  .exact jH a.1.1 a.1.2 r
  .exact jH a.2.1.1 a.2.1.2 r
  .exact jH a.2.2.1.1 a.2.2.1.2 r
  .exact jH a.2.2.2.1 a.2.2.2.2 r
  .exact jH (by omega) (by omega) r)
 have m:=oW (one:=obP) (put:=iP) r h.obs (fun x c r=>Oz (d x c).1 (d x c).2.1 (H.each x c).1 (d x c).2.2.1 (n x c) (d x c).2.2.2 r);unfold hpP;rw[e,show (7:Nat)=[h.order,h.next,h.t0,h.t1,h.t2,h.t3,(h.obs.length:Int)].length from rfl,l];dsimp only;rw[aF (by omega),gS,m];dsimp only;unfold kY;rw[←Op i]
theorem Pb{h:Hp}(a:cR h=true)(b:hpR h):gZ (cF h)=some h:=by
 have:=Pa a b [];rw[fG]at this;unfold gZ;rw[this];dsimp only;rw[aK a]
theorem jI{α:Type}(f:α→List UInt8)(k:Nat)(a:∀x,(f x).length=k):∀l:List α,(l.flatMap f).length=k*l.length
 |[]=>rfl
 |x::l=>by rw[mK,bF,a,jI f k a l,eS,Nat.mul_succ]; omega
theorem Ft(x:Ob):(iP x).length=16+8*x.ws.length+4*x.ls.length:=by
 unfold iP;simp only[bF,fU,jI dH 8 uM,jI aQ 4 fU]
theorem Pc{w l:Nat}(h:0≤cQ w l):(1+w+l:Int)≤aW (cQ w l):=by
 have a:=qB (n:=w) (k:=l) (by omega);unfold cQ;rw[aK (by unfold aG; simp; omega)];unfold lM aW
 repeat' split
 all_goals simp<;>omega
theorem Ai{h:Hp}(d:cR h=true):(cF h).length≤4124:=by
 have H:=gE.1 d;have q:=fB H.reg;have i:=pY h.free;have j:=uL (o:=h.order) (by omega);have k:=H.sum;have g:∀l:List Ob,(∀x∈l,cQ x.ws.length x.ls.length=x.b.o∧bY h.order x.b=true)→((l.flatMap iP).length:Int)≤16*bV (l.map (·.b)):=fun l=>by
  induction l with
  |nil=>intro _; simp[bV]
  |cons x l f=>
   intro c;have a:=c x (by simp);have m:=f fun y e=>c y (by simp[e]);have n:=fY H.reg a.2;have p:=Pc (w:=x.ws.length) (l:=x.ls.length) (by omega);rw[mK,bF,Ft,mJ,iM,←a.1];omega
 have r:=g h.obs H.each;unfold cF;simp only[bF,fU,jI aQ 4 fU];have:h.tops.length=4:=rfl;omega
theorem wY:∀(l:List Rw)(last:Int),0≤last→fL last l=true→(∀r∈l,okN r.c∧okN r.s∧okN r.k)∧(l.length:Int)+last≤max 4 last
 |[],last,_,_=>by simp; omega
 |r::l,last,d,h=>by
  unfold fL aG at h;simp only[bH,bR]at h;obtain⟨⟨e,f⟩,⟨g,i⟩,⟨j,m⟩,b⟩:=h;obtain⟨i1,n⟩:=wY l r.c (by omega) b;refine⟨fun x a=>?_,by rw[eS]; omega⟩;rcases bD.1 a with rfl|a
  .exact⟨⟨by omega,by omega⟩,⟨by omega,by omega⟩,⟨by omega,by omega⟩⟩
  .exact i1 x a
theorem Pd{x:Rw}(a:okN x.c)(b:okN x.s)(d:okN x.k)(h:inR x.v)(r:List UInt8):rwP (jC x++r)=some (x,r):=by
 have e:jC x++r=[x.c,x.s,x.k].flatMap aQ++(dH x.v++r):=by
  unfold jC;simp only[mK,zD,cH,fG]
 have g:=oW (one:=bW) (put:=aQ) (dH x.v++r) [x.c,x.s,x.k] (fun z f r=>by
  simp only[bD,dF,or_false]at f;rcases f with rfl|rfl|rfl
  .exact jH a.1 a.2 r
  .exact jH b.1 b.2 r
  .exact jH d.1 d.2 r)
 unfold rwP;rw[e,show (3:Nat)=[x.c,x.s,x.k].length from rfl,g];dsimp only;rw[Fs h]
theorem Aj{s:St}(g:stB s=true)(f:stR s):dX (fK s)=some s:=by
 have a:=g;unfold stB at a;simp only[bH]at a;have l:=Ai a.1;obtain⟨c,k⟩:=wY s.rows 0 (by omega) a.2;have e:fK s=beN 4 (ByteArray.mk (cF s.h).toArray).size++((ByteArray.mk (cF s.h).toArray).data.toList++(aQ s.rows.length++s.rows.flatMap jC)):=by
  unfold fK aQ;rw[show (ByteArray.mk (cF s.h).toArray).size=(cF s.h).length from by simp[ByteArray.size],show (ByteArray.mk (cF s.h).toArray).data.toList=cF s.h from by simp];simp only[cH,gS]
 have i:=Ny (ByteArray.mk (cF s.h).toArray) (aQ s.rows.length++s.rows.flatMap jC) (by simp[ByteArray.size]; omega);rw[←e]at i;have j:(fK s).drop (4+(ByteArray.mk (cF s.h).toArray).size)=aQ s.rows.length++s.rows.flatMap jC:=by
  rw[e,←cH];exact vY (by rw[bF,jQ]; simp[ByteArray.size])
 have d:=oW (one:=rwP) (put:=jC) [] s.rows (fun x b r=>Pd (c x b).1 (c x b).2.1 (c x b).2.2 (f.2 x b) r);rw[fG]at d;unfold dX;rw[i];dsimp only;rw[aK rfl,Pb a.1 f.1];dsimp only;rw[j,jH (by omega) (by omega)];dsimp only;rw[aF (by omega),gS,d];dsimp only;rw[aK (show stB ⟨s.h,s.rows⟩=true from g)]
theorem Pe{s t:St}(d:stB s=true)(b:stR s)(e:stB t=true)(c:stR t)(h:fK s=fK t):s=t:=by
 have a:=Aj d b;rw[h,Aj e c]at a;injection a with a
 exact a.symm
end
section
theorem cK:(∀(n b a:Int)(w:World),Calls prog 56 #[.i n,.i b,.i a] w fun e c=>e=.returned (.bool (aG n b a))∧c=w)∧(∀(n b a:Int)(w:World),Calls prog 139 #[.i n,.i b,.i a] w fun e c=>e=.returned (.bool (aG n b a))∧c=w)∧(∀(n b a:Int)(w:World),Calls prog 100 #[.i n,.i b,.i a] w fun e c=>e=.returned (.bool (aG n b a))∧c=w)∧(∀(n b a:Int)(w:World),Calls prog 160 #[.i n,.i b,.i a] w fun e c=>e=.returned (.bool (aG n b a))∧c=w)∧(∀(n b a:Int)(w:World),Calls prog 217 #[.i n,.i b,.i a] w fun e c=>e=.returned (.bool (aG n b a))∧c=w):=by
 refine⟨?q0,?q1,?q2,?q3,?q4⟩
 all_goals
  intro n b a w;unfold aG;rcases uD (decide (b≤n)) (decide (n≤a)) with⟨f,d⟩|⟨f,g,d⟩|⟨f,g,d⟩
  all_goals
   rw[d];clear d
   first |go_enter func56,ntmps56|go_enter func139,ntmps139|go_enter func100,ntmps100|go_enter func160,ntmps160|go_enter func217,ntmps217
   go_wp2_with fail;go_ret;exact⟨rfl,rfl⟩
theorem xA:(prog.info? 3).map (fun i=>(i.zero,i.size,i.bytes))=some (some (.i 0),1,8):=by kernel_rfl
theorem nY:(prog.info? 262).map (fun i=>(i.zero,i.size,i.bytes))=some (some (.agg #[.i 0,.i 0]),2,16):=by kernel_rfl
theorem Am:(prog.info? 141).map (fun i=>(i.zero,i.size,i.bytes))=some (some (.agg z'4a),4,32):=by kernel_rfl
theorem Pf:(prog.info? 172).map (fun i=>(i.zero,i.size,i.bytes))=some (some (.agg #[.i 0,.i 0]),2,16):=by kernel_rfl
theorem xB:(prog.info? 122).map (fun i=>(i.zero,i.size,i.bytes))=some (some (.agg z'3a),11,88):=by kernel_rfl
theorem xC:(prog.info? 264).map (fun i=>(i.zero,i.size,i.bytes))=some (some (.agg z'5a),5,72):=by kernel_rfl
theorem Pg:(prog.info? 175).map (fun i=>(i.zero,i.size,i.bytes))=some (some (.agg z'6a),6,64):=by kernel_rfl
def eC{α:Type}(p:α→Bool):List α→Int
 |[]=> -1
 |x::l=>if p x=true then 0 else (if eC p l= -1 then -1 else eC p l+1)
theorem uN{α:Type}(p:α→Bool):∀(l:List α),(∀y∈l,p y=false)→eC p l= -1
 |[],_=>rfl
 |x::l,h=>by
  unfold eC;rw[aF (by rw[h x (by simp)]; simp),aK (uN p l fun y a=>h y (by simp[a]))]
theorem qC{α:Type}(p:α→Bool):∀(l:List α)(k:Nat)(b:k<l.length),p (l[k])=true→(∀y∈l.take k,p y=false)→eC p l=k
 |x::l,0,_,h,_=>by unfold eC; rw[aK (show p x=true from h)]; rfl
 |x::l,k+1,b,h,a=>by
  have d:=qC p l k (by simpa using b) h fun y c=>a y (by simp[c]);unfold eC;rw[aF (by rw[a x (by simp)]; simp),d,aF (by omega)];omega
theorem sM{α:Type}(p:α→Bool):∀(l:List α),decide (0≤eC p l)=l.any p
 |[]=>rfl
 |x::l=>by
  have a:=sM p l;unfold eC;rw[wA,←a]
  cases p x
  .by_cases h:eC p l= -1
   .simp[h]
   .have:eC p l= -1∨0≤eC p l:=by
     clear a h
     induction l with
     |nil=>exact .inl rfl
     |cons y l a=>
      unfold eC
      split
      .exact .inr (by omega)
      .split
       .exact .inl rfl
       .rcases a with h|h
        .contradiction
        .exact .inr (by omega)
    simp[h]; omega
  .simp
theorem Ph(a:Option Addr)(n c:Nat)(w:World):(binOp .eql 44 (.slice a n c) (.slice none 0 0)).run prog w=.ok (.bool a.isNone) w:=
 Lib.run_eql_slice_nil w _ _ a n c 0 0 rY
theorem Pi(a:Option Addr)(n c:Nat)(w:World):(binOp .eql 38 (.slice a n c) (.slice none 0 0)).run prog w=.ok (.bool a.isNone) w:=
 Lib.run_eql_slice_nil w _ _ a n c 0 0 iH
theorem Pj(a:Option Addr)(n c:Nat)(w:World):(binOp .eql 41 (.slice a n c) (.slice none 0 0)).run prog w=.ok (.bool a.isNone) w:=
 Lib.run_eql_slice_nil w _ _ a n c 0 0 nR
theorem Pk(a:Option Addr)(n c:Nat)(w:World):(binOp .eql 46 (.slice a n c) (.slice none 0 0)).run prog w=.ok (.bool a.isNone) w:=
 Lib.run_eql_slice_nil w _ _ a n c 0 0 tU
theorem Pl(a:Option Addr)(n c:Nat)(w:World):(binOp .eql 33 (.slice a n c) (.slice none 0 0)).run prog w=.ok (.bool a.isNone) w:=
 Lib.run_eql_slice_nil w _ _ a n c 0 0 tV
theorem Pm(a:Option Addr)(n c:Nat)(w:World):(binOp .eql 36 (.slice a n c) (.slice none 0 0)).run prog w=.ok (.bool a.isNone) w:=
 Lib.run_eql_slice_nil w _ _ a n c 0 0 tW
theorem Pn(a:Option Addr)(n c:Nat)(w:World):(binOp .eql 45 (.slice a n c) (.slice none 0 0)).run prog w=.ok (.bool a.isNone) w:=
 Lib.run_eql_slice_nil w _ _ a n c 0 0 underlying45
section
attribute [local go_sem] Ph Pi Pj Pk Pl Pm Pn
theorem fam'3:(∀(v:Value)(l:List Int)(B:Nat)(w:World)(h:Sl w B v i1 l)(hB:B≤w.heap.size)(hn:l.length≤1000000),Calls prog 92 #[v] w fun e w'=>∃v',e=.returned v'∧w'.ownsRow w.heap.size 3 1 v' l.length (aO i1 l)∧Bw' w w')∧(∀(v:Value)(l:List Bk)(B:Nat)(w:World)(h:Sl w B v Bk.cells l)(hB:B≤w.heap.size)(hn:l.length≤1000000),Calls prog 219 #[v] w fun e w'=>∃v',e=.returned v'∧w'.ownsRow w.heap.size 262 2 v' l.length (aO Bk.cells l)∧Bw' w w')∧(∀(v:Value)(l:List Rw)(B:Nat)(w:World)(h:Sl w B v Rw.cells l)(hB:B≤w.heap.size)(hn:l.length≤1000000),Calls prog 187 #[v] w fun e w'=>∃v',e=.returned v'∧w'.ownsRow w.heap.size 141 4 v' l.length (aO Rw.cells l)∧Bw' w w')∧(∀(v:Value)(l:List Ak)(B:Nat)(w:World)(h:Sl w B v Ak.cells l)(hB:B≤w.heap.size)(hn:l.length≤1000000),Calls prog 93 #[v] w fun e w'=>∃v',e=.returned v'∧w'.ownsRow w.heap.size 172 2 v' l.length (aO Ak.cells l)∧Bw' w w')∧(∀(v:Value)(l:List En)(B:Nat)(w:World)(h:Sl w B v En.cells l)(hB:B≤w.heap.size)(hn:l.length≤1000000),Calls prog 79 #[v] w fun e w'=>∃v',e=.returned v'∧w'.ownsRow w.heap.size 122 11 v' l.length (aO En.cells l)∧Bw' w w')∧(∀(v:Value)(l:List ObV)(B:Nat)(w:World)(h:Sl w B v ObV.cells l)(hB:B≤w.heap.size)(hn:l.length≤1000000)(h1:∀x∈l,∀u∈ObV.cells x,u.oneCell'=true),Calls prog 258 #[v] w fun e w'=>∃v',e=.returned v'∧w'.ownsRow w.heap.size 264 5 v' l.length (aO ObV.cells l)∧Bw' w w')∧(∀(v:Value)(l:List VoV)(B:Nat)(w:World)(h:Sl w B v VoV.cells l)(hB:B≤w.heap.size)(hn:l.length≤1000000)(h1:∀x∈l,∀u∈VoV.cells x,u.oneCell'=true),Calls prog 94 #[v] w fun e w'=>∃v',e=.returned v'∧w'.ownsRow w.heap.size 175 6 v' l.length (aO VoV.cells l)∧Bw' w w'):=by
 refine⟨?q0,?q1,?q2,?q3,?q4,?q5,?q6⟩
 case' q0=>have m'0:=True.intro; intro v l B w h hB hn
 case' q1=>have m'1:=True.intro; intro v l B w h hB hn
 case' q2=>have m'2:=True.intro; intro v l B w h hB hn
 case' q3=>have m'3:=True.intro; intro v l B w h hB hn
 case' q4=>have m'4:=True.intro; intro v l B w h hB hn
 case' q5=>have m'5:=True.intro; intro v l B w h hB hn h1
 case' q6=>intro v l B w h hB hn h1
 all_goals
  obtain⟨A,c,rfl,hr,hc,hm⟩:=h
  cases A with
  |none=>
   have hes:l=[]:=by
    rcases hr with h|⟨b,off,e,_⟩
    .first
     |(have:=m'0; exact iY (by have:=cW 1 eG l; rw[h]at this; simp at this; omega))
     |(have:=m'1; exact iY (by have:=cW 2 cO l; rw[h]at this; simp at this; omega))
     |(have:=m'2; exact iY (by have:=cW 4 jP l; rw[h]at this; simp at this; omega))
     |(have:=m'3; exact iY (by have:=cW 2 lK l; rw[h]at this; simp at this; omega))
     |(have:=m'4; exact iY (by have:=cW 11 eM l; rw[h]at this; simp at this; omega))
     |(have:=m'5; exact iY (by have:=cW 5 eV l; rw[h]at this; simp at this; omega))
     |exact iY (by have:=cW 6 oP l; rw[h]at this; simp at this; omega)
    .cases e
   subst hes;clear hr hn
   first |go_enter func92,ntmps92|go_enter func219,ntmps219|go_enter func187,ntmps187|go_enter func93,ntmps93|go_enter func79,ntmps79|go_enter func258,ntmps258|go_enter func94,ntmps94
   go_wp2_with fail;go_ret;exact⟨_,rfl,World.ownsRow_nil _ _ _ _,aH _ _⟩
  |some ad=>
   have H:=kp hr; clear hr
   first
   |(have:=m'0; obtain⟨i0,hi0,hz0,hz1,hz2⟩:=info_parts xA)
   |(have:=m'1; obtain⟨i0,hi0,hz0,hz1,hz2⟩:=info_parts nY)
   |(have:=m'2; obtain⟨i0,hi0,hz0,hz1,hz2⟩:=info_parts Am)
   |(have:=m'3; obtain⟨i0,hi0,hz0,hz1,hz2⟩:=info_parts Pf)
   |(have:=m'4; obtain⟨i0,hi0,hz0,hz1,hz2⟩:=info_parts xB)
   |(have:=m'5; obtain⟨i0,hi0,hz0,hz1,hz2⟩:=info_parts xC)
   |obtain⟨i0,hi0,hz0,hz1,hz2⟩:=info_parts Pg
   first |go_enter func92,ntmps92|go_enter func219,ntmps219|go_enter func187,ntmps187|go_enter func93,ntmps93|go_enter func79,ntmps79|go_enter func258,ntmps258|go_enter func94,ntmps94
   first
   |(have:=m'0; have hbe:=ba' w (.cells #[] 3))
   |(have:=m'1; have hbe:=ba' w (.cells #[] 262))
   |(have:=m'2; have hbe:=ba' w (.cells #[] 141))
   |(have:=m'3; have hbe:=ba' w (.cells #[] 172))
   |(have:=m'4; have hbe:=ba' w (.cells #[] 122))
   |(have:=m'5; have hbe:=ba' w (.cells #[] 264))
   |have hbe:=ba' w (.cells #[] 175)
   first
   |(have:=m'0; have hown:=World.ownsRow_made (base:=w.heap.size) (e:=3) (size:=1) w #[] 0 (aN _) (by unfold maxLen; omega) rfl)
   |(have:=m'1; have hown:=World.ownsRow_made (base:=w.heap.size) (e:=262) (size:=2) w #[] 0 (aN _) (by unfold maxLen; omega) rfl)
   |(have:=m'2; have hown:=World.ownsRow_made (base:=w.heap.size) (e:=141) (size:=4) w #[] 0 (aN _) (by unfold maxLen; omega) rfl)
   |(have:=m'3; have hown:=World.ownsRow_made (base:=w.heap.size) (e:=172) (size:=2) w #[] 0 (aN _) (by unfold maxLen; omega) rfl)
   |(have:=m'4; have hown:=World.ownsRow_made (base:=w.heap.size) (e:=122) (size:=11) w #[] 0 (aN _) (by unfold maxLen; omega) rfl)
   |(have:=m'5; have hown:=World.ownsRow_made (base:=w.heap.size) (e:=264) (size:=5) w #[] 0 (aN _) (by unfold maxLen; omega) rfl)
   |have hown:=World.ownsRow_made (base:=w.heap.size) (e:=175) (size:=6) w #[] 0 (aN _) (by unfold maxLen; omega) rfl
   have HB:=k'2 hbe hown; clear hbe hown
   first
   |(have:=m'0; go_wp2_with (at_builtin; refine nT _ rfl (.tmp 5) (.tmp 6) _ rfl w.heap.size 3 i0 _ 1 8 rY hi0 hz0 hz1 hz2 rfl (by omega) _ 0 [] HB.B rfl B (some ad) l.length c (aO i1 l) (H.o.below HB.a hB) rfl ?_ (mN zT l) ?_ ?_ ?_ ?_))
   |(have:=m'1; go_wp2_with (at_builtin; refine nT _ rfl (.tmp 5) (.tmp 6) _ rfl w.heap.size 262 i0 _ 2 16 iH hi0 hz0 hz1 hz2 rfl (by omega) _ 0 [] HB.B rfl B (some ad) l.length c (aO Bk.cells l) (H.o.below HB.a hB) rfl ?_ (mN lJ l) ?_ ?_ ?_ ?_))
   |(have:=m'2; go_wp2_with (at_builtin; refine nT _ rfl (.tmp 5) (.tmp 6) _ rfl w.heap.size 141 i0 _ 4 32 nR hi0 hz0 hz1 hz2 rfl (by omega) _ 0 [] HB.B rfl B (some ad) l.length c (aO Rw.cells l) (H.o.below HB.a hB) rfl ?_ (mN mP l) ?_ ?_ ?_ ?_))
   |(have:=m'3; go_wp2_with (at_builtin; refine nT _ rfl (.tmp 5) (.tmp 6) _ rfl w.heap.size 172 i0 _ 2 16 tU hi0 hz0 hz1 hz2 rfl (by omega) _ 0 [] HB.B rfl B (some ad) l.length c (aO Ak.cells l) (H.o.below HB.a hB) rfl ?_ (mN wK l) ?_ ?_ ?_ ?_))
   |(have:=m'4; go_wp2_with (at_builtin; refine nT _ rfl (.tmp 5) (.tmp 6) _ rfl w.heap.size 122 i0 _ 11 88 tV hi0 hz0 hz1 hz2 rfl (by omega) _ 0 [] HB.B rfl B (some ad) l.length c (aO En.cells l) (H.o.below HB.a hB) rfl ?_ (mN kV l) ?_ ?_ ?_ ?_))
   |(have:=m'5; go_wp2_with (at_builtin; refine nT _ rfl (.tmp 5) (.tmp 6) _ rfl w.heap.size 264 i0 _ 5 72 tW hi0 hz0 hz1 hz2 rfl (by omega) _ 0 [] HB.B rfl B (some ad) l.length c (aO ObV.cells l) (H.o.below HB.a hB) rfl ?_ (fun u hu=>by obtain⟨x,hx,hu⟩:=List.mem_flatten.1 hu; obtain⟨a,ha,rfl⟩:=cP.1 hx; exact h1 a ha u hu) ?_ ?_ ?_ ?_))
   |go_wp2_with (at_builtin; refine nT _ rfl (.tmp 5) (.tmp 6) _ rfl w.heap.size 175 i0 _ 6 64 underlying45 hi0 hz0 hz1 hz2 rfl (by omega) _ 0 [] HB.B rfl B (some ad) l.length c (aO VoV.cells l) (H.o.below HB.a hB) rfl ?_ (fun u hu=>by obtain⟨x,hx,hu⟩:=List.mem_flatten.1 hu; obtain⟨a,ha,rfl⟩:=cP.1 hx; exact h1 a ha u hu) ?_ ?_ ?_ ?_)
   .first
    |(have:=m'0; rw[cW 1 eG])
    |(have:=m'1; rw[cW 2 cO])
    |(have:=m'2; rw[cW 4 jP])
    |(have:=m'3; rw[cW 2 lK])
    |(have:=m'4; rw[cW 11 eM])
    |(have:=m'5; rw[cW 5 eV])
    |rw[cW 6 oP]
   .unfold maxLen; omega
   .omega
   .simp
   intro v1 w1 hown1 hg1;have hb1:=HB.a.trans (sB HB.B hg1 (by simp));have H1:=k'2 hown1 hb1; clear hown1 hb1 hg1;go_wp2_with fail;go_ret;refine⟨_,rfl,?_,H1.B⟩;have:=H1.a;simpa using this
end
end
section
attribute [-go_sem] loadCellsFrom storeCells
attribute [local go_sem] aX
theorem xD:(∀(v:Value)(l:List Int)(p:Int→Bool)(g:Nat)(f:Array Value)(B:Nat)(w:World)(h:Sl w B v i1 l)(m:B≤w.heap.size)(G:l.length≤1000000)(I:∀args w,(callFunc g args).run prog w=.ok (.enter g args) w)(s:∀(W:World)(x:Int),x∈l→Bw' w W→Calls prog g (#[(.i x)]++f) W fun e d=>e=.returned (.bool (p x))∧Bw' W d),Calls prog 253 #[v,.func (.func g) #[] f] w fun e d=>e=.returned (.i (eC p l))∧Bw' w d)∧(∀(v:Value)(l:List Rw)(p:Rw→Bool)(g:Nat)(f:Array Value)(B:Nat)(w:World)(h:Sl w B v Rw.cells l)(m:B≤w.heap.size)(G:l.length≤1000000)(I:∀args w,(callFunc g args).run prog w=.ok (.enter g args) w)(s:∀(W:World)(x:Rw),x∈l→Bw' w W→Calls prog g (#[(.agg (Rw.cells x).toArray)]++f) W fun e d=>e=.returned (.bool (p x))∧Bw' W d),Calls prog 96 #[v,.func (.func g) #[] f] w fun e d=>e=.returned (.i (eC p l))∧Bw' w d)∧(∀(v:Value)(l:List ObV)(p:ObV→Bool)(g:Nat)(f:Array Value)(B:Nat)(w:World)(h:Sl w B v ObV.cells l)(m:B≤w.heap.size)(G:l.length≤1000000)(I:∀args w,(callFunc g args).run prog w=.ok (.enter g args) w)(s:∀(W:World)(x:ObV),x∈l→Bw' w W→Calls prog g (#[(.agg (ObV.cells x).toArray)]++f) W fun e d=>e=.returned (.bool (p x))∧Bw' W d),Calls prog 275 #[v,.func (.func g) #[] f] w fun e d=>e=.returned (.i (eC p l))∧Bw' w d)∧(∀(v:Value)(l:List Bk)(p:Bk→Bool)(g:Nat)(f:Array Value)(B:Nat)(w:World)(h:Sl w B v Bk.cells l)(m:B≤w.heap.size)(G:l.length≤1000000)(I:∀args w,(callFunc g args).run prog w=.ok (.enter g args) w)(s:∀(W:World)(x:Bk),x∈l→Bw' w W→Calls prog g (#[(.agg (Bk.cells x).toArray)]++f) W fun e d=>e=.returned (.bool (p x))∧Bw' W d),Calls prog 307 #[v,.func (.func g) #[] f] w fun e d=>e=.returned (.i (eC p l))∧Bw' w d):=by
 refine⟨?q0,?q1,?q2,?q3⟩
 case' q0=>have O:=True.intro
 case' q1=>have a0:=True.intro
 case' q2=>have b0:=True.intro
 all_goals
  intro v l p g f B w h m G I s;obtain⟨A,c,rfl,X,T,Z⟩:=h;obtain⟨n,N⟩:=nm' l.length;rw[N]at T G ⊢;have H:=k'2 X N; clear X T Z N;have Y:=kp s; clear s
  first |go_enter func253,ntmps253|go_enter func96,ntmps96|go_enter func275,ntmps275|go_enter func307,ntmps307
  go_wp2_with fail
  go_loopw [5,8] (fun _ i wr=>∃k:Nat,k≤n∧i=.i k∧(∀y∈l.take k,p y=false)∧Bw' w wr) (fun _ i _=>n-(intOf i).toNat)
  case atStart=>exact⟨0,by omega,rfl,by simp,aH _ _⟩
  case round=>
   obtain⟨k,hk,rfl,V,S⟩:=hrel;have L:=kp V;have j:=kp S;clear V S
   by_cases d0:k<n
   .have g3:(k:Int)<(n:Int):=by omega
    have q:k<l.length:=by have:=H.B; omega
    first
    |(have:=O; obtain⟨b,Q,J,_,E,F⟩:=dS (P:=prog) 1 eG (by omega) (H.a.below j.o m) k q)
    |(have:=a0; obtain⟨b,Q,J,_,E,F⟩:=dS (P:=prog) 4 jP (by omega) (H.a.below j.o m) k q)
    |(have:=b0; obtain⟨b,Q,J,_,E,F⟩:=dS (P:=prog) 5 eV (by omega) (H.a.below j.o m) k q)
    |obtain⟨b,Q,J,_,E,F⟩:=dS (P:=prog) 2 cO (by omega) (H.a.below j.o m) k q
    subst J
    first
    |(have:=O; have q0:=E 0 _ rfl)
    |have q0:=F 0
    first
    |(have:=O; simp only[tN,dW]at q0)
    |change Sem.run _ _ wr=.ok _ wr at q0
    clear E F;have M:=k'3 (fE q) (qC p l k q) (cU q);generalize l[k]'q=x at *;have U:=Y.o wr x M.C j.o;have R:=kp U; clear U
    cases hpx:p x
    .have z:=kp hpx; clear hpx;go_wp2_with (go_at_fn g; refine R.o.mono ?_; rintro e w2 ⟨rfl,D⟩; rw[z.o]);have K:=kp (j.o.on D); clear D;go_roundw
     case rel=>
      refine⟨k+1,by omega,by go_num,fun y r=>?_,K.o⟩;rw[M.a]at r;rcases cV.1 r with r|r
      .exact L.o y r
      .rw[bZ.1 r]; exact z.o
     case measure=>simp[intOf]; omega
    .have z:=kp hpx; clear hpx;go_wp2_with (go_at_fn g; refine R.o.mono ?_; rintro e w2 ⟨rfl,D⟩; rw[z.o]);have K:=kp (j.o.on D); clear D;go_ret;exact⟨by rw[M.b z.o L.o]; rfl,K.o⟩
   .obtain rfl:k=n:=by omega
    go_wp2_with fail;go_ret;exact⟨by rw[uN p l (fun y r=>L.o y (by rw[eF (by have:=H.B; omega)]; exact r))]; rfl,j.o⟩
theorem uO:(∀(v:Value)(l:List Int)(p:Int→Bool)(g:Nat)(a:Array Value)(B:Nat)(w:World)(h:Sl w B v i1 l)(f:B≤w.heap.size)(i:l.length≤1000000)(c:∀args w,(callFunc g args).run prog w=.ok (.enter g args) w)(d:∀(W:World)(x:Int),x∈l→Bw' w W→Calls prog g (#[(.i x)]++a) W fun e b=>e=.returned (.bool (p x))∧Bw' W b),Calls prog 225 #[v,.func (.func g) #[] a] w fun e b=>e=.returned (.bool (l.any p))∧Bw' w b)∧(∀(v:Value)(l:List ObV)(p:ObV→Bool)(g:Nat)(a:Array Value)(B:Nat)(w:World)(h:Sl w B v ObV.cells l)(f:B≤w.heap.size)(i:l.length≤1000000)(c:∀args w,(callFunc g args).run prog w=.ok (.enter g args) w)(d:∀(W:World)(x:ObV),x∈l→Bw' w W→Calls prog g (#[(.agg (ObV.cells x).toArray)]++a) W fun e b=>e=.returned (.bool (p x))∧Bw' W b),Calls prog 255 #[v,.func (.func g) #[] a] w fun e b=>e=.returned (.bool (l.any p))∧Bw' w b)∧(∀(v:Value)(l:List Bk)(p:Bk→Bool)(g:Nat)(a:Array Value)(B:Nat)(w:World)(h:Sl w B v Bk.cells l)(f:B≤w.heap.size)(i:l.length≤1000000)(c:∀args w,(callFunc g args).run prog w=.ok (.enter g args) w)(d:∀(W:World)(x:Bk),x∈l→Bw' w W→Calls prog g (#[(.agg (Bk.cells x).toArray)]++a) W fun e b=>e=.returned (.bool (p x))∧Bw' W b),Calls prog 295 #[v,.func (.func g) #[] a] w fun e b=>e=.returned (.bool (l.any p))∧Bw' w b):=by
 refine⟨?q0,?q1,?q2⟩
 case' q0=>have A:=True.intro
 case' q1=>have C:=True.intro
 all_goals
  intro v l p g a B w h f i c d
  first
  |(have:=A; have j:=xD.1 v l p g a B w h f i c d)
  |(have:=C; have j:=xD.2.2.1 v l p g a B w h f i c d)
  |have j:=xD.2.2.2 v l p g a B w h f i c d
  have s:=kp j;obtain⟨z,m⟩:=nm' (eC p l);have k:=sM p l;rw[m]at k;have q:=kp k;have y:=kp m;clear j d h m k c
  first |go_enter func225,ntmps225|go_enter func255,ntmps255|go_enter func295,ntmps295
  go_wp2_with fail;refine mb' s.o fun D n=>?_;rw[y.o];have r:=kp n; clear n;go_wp2_with fail;go_ret;exact⟨jO (bA Value.bool q.o),r.o⟩
end
section
attribute [-go_sem] loadCellsFrom storeCells
attribute [local go_sem] aX
def eN(x y:Int):Int:=if x<y then -1 else if y<x then 1 else 0
theorem Fu(x:Int)(w:World):Calls prog 146 #[.i x] w fun e a=>e=.returned (.bool false)∧a=w:=by
 go_enter func146,ntmps146;go_wp2_with fail;go_ret;exact⟨rfl,rfl⟩
theorem qG(x y:Int)(w:World):Calls prog 105 #[.i x,.i y] w fun e f=>e=.returned (.i (eN x y))∧f=w:=by
 obtain⟨r,a⟩:=nm' (eN x y);rw[a];unfold eN at a;have g:(decide (x<y)=true∧r= -1)∨(decide (x<y)=false∧decide (y<x)=true∧r=1)∨(decide (x<y)=false∧decide (y<x)=false∧r=0):=by
  by_cases b:x<y
  .rw[aK b]at a; exact .inl ⟨by simpa using b,a.symm⟩
  .rw[aF b]at a
   by_cases c:y<x
   .rw[aK c]at a; exact .inr (.inl ⟨by simpa using b,by simpa using c,a.symm⟩)
   .rw[aF c]at a; exact .inr (.inr ⟨by simpa using b,by simpa using c,a.symm⟩)
 rcases g with⟨b,rfl⟩|⟨b,c,rfl⟩|⟨b,c,rfl⟩
 all_goals
  go_enter func105,ntmps105;go_wp2_with fail;refine mb' (Fu x w) fun f d=>?_;obtain rfl:=d.symm;go_wp2_with fail;refine mb' (Fu y w) fun f d=>?_;obtain rfl:=d.symm;go_wp2_with fail;go_ret;exact⟨rfl,rfl⟩
theorem Fw(x y:Int):decide (eN x y<0)=decide (x<y):=by
 unfold eN
 by_cases h:x<y
 .simp[h]
 .by_cases a:y<x<;>simp[h,a]
theorem Po(x y:Int):(eN x y==0)=decide (x=y):=by
 unfold eN
 by_cases h:x<y
 .rw[aK h,dR (by omega)]; rfl
 .by_cases a:y<x
  .rw[aF h,aK a,dR (by omega)]; rfl
  .rw[aF h,aF a,fA (by omega)]; rfl
def eD{α:Type}(key:α→Int)(t:Int):List α→Nat
 |[]=>0
 |x::l=>if key x<t then eD key t l+1 else 0
def iA{α:Type}(key:α→Int):List α→Prop
 |[]=>True
 |x::l=>(∀y∈l,key x<key y)∧iA key l
theorem An{α:Type}(a:α→Int)(t:Int):∀l:List α,eD a t l≤l.length
 |[]=>aN _
 |x::l=>by
  unfold eD;have:=An a t l
  split<;>simp<;>omega
theorem Fx{α:Type}(b:α→Int)(t:Int):∀(l:List α)(i:Nat),i≤l.length→(∀k(h:k<l.length),k<i→b l[k]<t)→(∀k(h:k<l.length),i≤k→t≤b l[k])→eD b t l=i
 |[],i,a,_,_=>by simp at a; subst a; rfl
 |x::l,0,_,_,c=>by
  have:=c 0 (by simp) (aN _);unfold eD;rw[aF (by simp at this; omega)]
 |x::l,i+1,a,d,c=>by
  have e:=d 0 (by simp) (by omega);unfold eD;rw[aK (by simpa using e),Fx b t l i (by simpa using a) (fun k h f=>d (k+1) (by simpa using h) (by omega)) (fun k h f=>c (k+1) (by simpa using h) (by omega))]
theorem xE{α:Type}(b:α→Int):∀(l:List α),iA b l→∀(i j:Nat)(c:i<l.length)(a:j<l.length),i<j→b l[i]<b l[j]
 |x::l,h,0,j+1,_,a,_=>h.1 _ (cU (by simpa using a))
 |x::l,h,i+1,j+1,c,a,d=>xE b l h.2 i j (by simpa using c) (by simpa using a) (by omega)
theorem Pp{α:Type}(a:α→Int)(t:Int)(l:List α)(i:Nat)(m:iA a l)(d:∀k(h:k<l.length),k<i→a l[k]<t)(e:∀k(h:k<l.length),i≤k→t≤a l[k]):
  (l.any fun x=>decide (a x=t))=(if h:i<l.length then decide (a l[i]=t) else false):=by
 rw[rO,mM];constructor
 .rintro⟨x,n,b⟩;obtain⟨j,c,rfl⟩:=Dl n;have b:a l[j]=t:=by simpa using b
  have o:i≤j:=by
   rcases nN j i with h|h
   .have:=d j c h; omega
   .exact h
  rw[dif_pos (by omega)]
  by_cases g:i=j
  .subst g; simpa using b
  .have p:=xE a l m i j (by omega) c (by omega);have:=e i (by omega) (aN _);omega
 .intro h
  split at h
  .rename_i f;exact⟨_,cU f,h⟩
  .cases h
theorem Ao:(∀(v:Value)(l:List ObV)(d:ObV→Int)(t:Int)(g:Nat)(s:Array Value)(B:Nat)(w:World)(h:Sl w B v ObV.cells l)(r:B≤w.heap.size)(U:l.length≤1000000)(O:iA d l)(Z:∀args w,(callFunc g args).run prog w=.ok (.enter g args) w)(N:∀(W:World)(x:ObV),x∈l→Bw' w W→Calls prog g (#[.agg (ObV.cells x).toArray,.i t]++s) W fun e q=>e=.returned (.i (eN (d x) t))∧Bw' W q),Calls prog 273 #[v,.i t,.func (.func g) #[] s] w fun e q=>e=.returned (.tuple #[.i (eD d t l:Nat),.bool (l.any fun x=>decide (d x=t))])∧Bw' w q)∧(∀(v:Value)(l:List Rw)(d:Rw→Int)(t:Int)(g:Nat)(s:Array Value)(B:Nat)(w:World)(h:Sl w B v Rw.cells l)(r:B≤w.heap.size)(U:l.length≤1000000)(O:iA d l)(Z:∀args w,(callFunc g args).run prog w=.ok (.enter g args) w)(N:∀(W:World)(x:Rw),x∈l→Bw' w W→Calls prog g (#[.agg (Rw.cells x).toArray,.i t]++s) W fun e q=>e=.returned (.i (eN (d x) t))∧Bw' W q),Calls prog 189 #[v,.i t,.func (.func g) #[] s] w fun e q=>e=.returned (.tuple #[.i (eD d t l:Nat),.bool (l.any fun x=>decide (d x=t))])∧Bw' w q)∧(∀(v:Value)(l:List Bk)(d:Bk→Int)(t:Int)(g:Nat)(s:Array Value)(B:Nat)(w:World)(h:Sl w B v Bk.cells l)(r:B≤w.heap.size)(U:l.length≤1000000)(O:iA d l)(Z:∀args w,(callFunc g args).run prog w=.ok (.enter g args) w)(N:∀(W:World)(x:Bk),x∈l→Bw' w W→Calls prog g (#[.agg (Bk.cells x).toArray,.i t]++s) W fun e q=>e=.returned (.i (eN (d x) t))∧Bw' W q),Calls prog 305 #[v,.i t,.func (.func g) #[] s] w fun e q=>e=.returned (.tuple #[.i (eD d t l:Nat),.bool (l.any fun x=>decide (d x=t))])∧Bw' w q):=by
 refine⟨?q0,?q1,?q2⟩
 case' q0=>have d0:=True.intro
 case' q1=>have e0:=True.intro
 all_goals
  intro v l d t g s B w h r U O Z N;obtain⟨A,c,rfl,hr,hc,hm⟩:=h;obtain⟨n,hl⟩:=nm' l.length;rw[hl]at hc U ⊢;have H:=k'2 hr hl; clear hr hc hm hl;have HC:=kp N; clear N;have X:=kp O; clear O
  first |go_enter func273,ntmps273|go_enter func189,ntmps189|go_enter func305,ntmps305
  go_wp2_with fail
  go_loopw [9,10] (fun vi vj wr=>∃i j:Nat,i≤j∧j≤n∧vi=.i i∧vj=.i j∧(∀k(h:k<l.length),k<i→d l[k]<t)∧(∀k(h:k<l.length),j≤k→t≤d l[k])∧Bw' w wr) (fun vi vj _=>(intOf vj).toNat-(intOf vi).toNat)
  case atStart=>exact⟨0,n,by omega,by omega,rfl,rfl,fun k h E=>absurd E (by omega),fun k h E=>absurd h (by have:=H.B; omega),aH _ _⟩
  case round=>
   obtain⟨i,j,p0,z0,rfl,rfl,o0,m0,l0⟩:=hrel;have I:=k'2 o0 m0;have p:=kp l0
   by_cases a1:i<j
   .have g3:(i:Int)<(j:Int):=by omega
    obtain⟨m,hm⟩:=nm' ((i+j) / 2);have b1:i≤m:=by omega
    have d1:m<j:=by omega
    have f:m<l.length:=by have:=H.B; omega
    first
    |(have:=d0; obtain⟨b,Q,C,_,L,F⟩:=dS (P:=prog) 5 eV (by omega) (H.a.below p.o r) m f)
    |(have:=e0; obtain⟨b,Q,C,_,L,F⟩:=dS (P:=prog) 4 jP (by omega) (H.a.below p.o r) m f)
    |obtain⟨b,Q,C,_,L,F⟩:=dS (P:=prog) 2 cO (by omega) (H.a.below p.o r) m f
    subst C;have q0:=F 0;change Sem.run _ _ wr=.ok _ wr at q0;have e1:(((i:Int)+(j:Int)) / 2)=(m:Int):=by omega
    have j0:=kp (show ∀k(h:k<l.length),k≤m→d l[k]≤d l[m] from fun k h E=>by
     rcases nN k m with K|K
     .have:=xE d l X.o k m h f K; omega
     .obtain rfl:k=m:=by omega
      exact iG _)
    have g0:=kp (show ∀k(h:k<l.length),m≤k→d l[m]≤d l[k] from fun k h E=>by
     rcases nN m k with K|K
     .have:=xE d l X.o m k f h K; omega
     .obtain rfl:k=m:=by omega
      exact iG _)
    have S:=kp (HC.o wr l[m] (cU f) p.o);generalize l[m]'f=x at *;have M:=Fw (d x) t;obtain⟨z,G⟩:=nm' (eN (d x) t);rw[G]at M;have T:=kp G; clear G
    cases hlx:decide (d x<t)
    .rw[hlx]at M;have Y:=kp hlx; clear hlx;go_wp2_with (go_at_fn g; refine S.o.mono ?_; rintro e w2 ⟨rfl,y⟩; rw[T.o]);have J:=kp (p.o.on y); clear y;go_roundw
     case rel=>exact⟨i,m,by omega,by omega,rfl,by go_num,I.a,fun k h E=>by have:=g0.o k h E; have:=Y.o; simp at this; omega,J.o⟩
     case measure=>simp[intOf]; omega
    .rw[hlx]at M;have Y:=kp hlx; clear hlx;go_wp2_with (go_at_fn g; refine S.o.mono ?_; rintro e w2 ⟨rfl,y⟩; rw[T.o]);have J:=kp (p.o.on y); clear y;go_roundw
     case rel=>exact⟨m+1,j,by omega,by omega,by go_num,rfl,fun k h E=>by have:=j0.o k h (by omega); have:=Y.o; simp at this; omega,I.B,J.o⟩
     case measure=>simp[intOf]; omega
   .obtain rfl:i=j:=by omega
    have b0:=Fx d t l i (by have:=H.B; omega) I.a I.B;have a0:=Pp d t l i X.o I.a I.B;have R:=k'2 b0 a0; clear b0 a0
    by_cases y0:i<n
    .have g4:decide ((i:Int)<(n:Int))=true:=by simp; omega
     have g5:(i:Int)<(n:Int):=by omega
     have f:i<l.length:=by have:=H.B; omega
     first
     |(have:=d0; obtain⟨b,Q,C,_,L,F⟩:=dS (P:=prog) 5 eV (by omega) (H.a.below p.o r) i f)
     |(have:=e0; obtain⟨b,Q,C,_,L,F⟩:=dS (P:=prog) 4 jP (by omega) (H.a.below p.o r) i f)
     |obtain⟨b,Q,C,_,L,F⟩:=dS (P:=prog) 2 cO (by omega) (H.a.below p.o r) i f
     subst C;have q0:=F 0;change Sem.run _ _ wr=.ok _ wr at q0;have D:=R.B;rw[dif_pos f]at D;have S:=kp (HC.o wr l[i] (cU f) p.o);generalize l[i]'f=x at *;have V:=kp D; clear D;have M:=Po (d x) t;obtain⟨z,G⟩:=nm' (eN (d x) t);rw[G]at M;have T:=kp G; clear G;go_wp2_with (go_at_fn g; refine S.o.mono ?_; rintro e w2 ⟨rfl,y⟩; rw[T.o]);have J:=kp (p.o.on y); clear y;go_wp2_with fail;go_ret2;exact⟨by rw[R.a,V.o]; rfl,J.o⟩
    .have g4:decide ((i:Int)<(n:Int))=false:=by simp; omega
     have D:=R.B;rw[dif_neg (by have:=H.B; omega)]at D;have V:=kp D; clear D;go_wp2_with fail;go_ret2;exact⟨by rw[R.a,V.o]; rfl,p.o⟩
end
end Go.Proofs.YtoncgpddjmgbfaaGreat
