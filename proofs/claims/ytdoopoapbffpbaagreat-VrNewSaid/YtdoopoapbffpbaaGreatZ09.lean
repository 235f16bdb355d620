import Derived.Test.YtdoopoapbffpbaaGreatZ05
import Derived.Test.YtdoopoapbffpbaaGreatZ06
import Derived.Test.YtdoopoapbffpbaaGreatZ08
import Derived.Lib.OwnKind
namespace Go.Proofs.YtdoopoapbffpbaaGreat
open Go.RowKit Go.Proofs.Tryz
set_option maxRecDepth 100000
set_option maxHeartbeats 12800000
set_option linter.unusedVariables false
set_option linter.unusedSimpArgs false
section
attribute [-go_sem] loadCellsFrom storeCells
attribute [local go_sem] bC
theorem vF(n:Int):0≤kT n∧kT n≤6:=by
 unfold kT
 repeat' split
 all_goals omega
theorem Ib{n k:Int}(b:0≤n)(c:n≤48)(e:0≤k)(f:k≤kT (1+n)):decide (aQ k≤n)=decide (k<kT (1+n)):=by
 have d:=vF (1+n);have g:k=0∧aQ k=1∨k=1∧aQ k=2∨k=2∧aQ k=4∨k=3∧aQ k=8∨k=4∧aQ k=16∨k=5∧aQ k=32∨k=6∧aQ k=64:=by
  rcases (show k=0∨k=1∨k=2∨k=3∨k=4∨k=5∨k=6 by omega) with rfl|rfl|rfl|rfl|rfl|rfl|rfl<;>decide
 have a:aQ k≤n↔k<kT (1+n):=by
  unfold kT at *;constructor
  .intro h
   repeat' split
   all_goals omega
  .intro h
   repeat' split at h
   all_goals omega
 simp only[a]
theorem Cp(a b:Int)(w:World):Calls prog 176 #[.i a,.i b] w fun e d=>e=.returned (.i (bX a b))∧d=w:=by
 unfold bX;rcases tB (aF a 0 32) (aF b 0 16) with⟨f,j⟩|⟨f,h,j⟩|⟨f,h,j⟩
 .rw[j,aC (by simp)];have g:=kp f;go_enter func176,ntmps176;go_wp2_with fail;refine mb' (cJ.2.2.2.2.2.2.2.2 a 0 32 w) fun d c=>?_;obtain rfl:=c.symm;rw[g.o];go_wp2_with fail;go_ret;exact⟨rfl,rfl⟩
 .rw[j,aC (by simp)];have g:=kp f;have l:=kp h;go_enter func176,ntmps176;go_wp2_with fail;refine mb' (cJ.2.2.2.2.2.2.2.2 a 0 32 w) fun d c=>?_;obtain rfl:=c.symm;rw[g.o];go_wp2_with fail;refine mb' (cJ.2.2.2.2.2.2.2.2 b 0 16 w) fun d c=>?_;obtain rfl:=c.symm;rw[l.o];go_wp2_with fail;go_ret;exact⟨rfl,rfl⟩
 .rw[j,aE rfl];have z:0≤a∧a≤32∧0≤b∧b≤16:=by
   unfold aF at f h;simp only[bI,bP]at f h;omega
  have g:=kp f;have l:=kp h;obtain⟨m,p⟩:∃m:Nat,kT (1+a+b)=m:=⟨(kT (1+a+b)).toNat,by have:=vF (1+a+b); omega⟩
  have y:m≤6:=by have:=vF (1+a+b); omega
  rw[p];have x:=kp (show ∀k:Nat,k≤m→decide (aQ k≤a+b)=decide (k<m) from fun k r=>by
   have:=Ib (n:=a+b) (k:=k) (by omega) (by omega) (by omega) (by rw[←Ag,p]; omega);rw[this,←Ag,p];simp)
  go_enter func176,ntmps176;go_wp2_with fail;refine mb' (cJ.2.2.2.2.2.2.2.2 a 0 32 w) fun d c=>?_;obtain rfl:=c.symm;rw[g.o];go_wp2_with fail;refine mb' (cJ.2.2.2.2.2.2.2.2 b 0 16 w) fun d c=>?_;obtain rfl:=c.symm;rw[l.o];go_wp2_with fail
  go_loop [5] (fun i=>∃k:Nat,k≤m∧i=.i k) (fun i=>m-(intOf i).toNat)
  case atStart=>exact⟨0,by omega,rfl⟩
  case round=>
   obtain⟨k,r,rfl⟩:=hrel;have q:=x.o k r;have A:=gF k
   by_cases s:k<m
   .rw[bY s]at q;go_wp2_with fail;refine mb' (iT _ _) fun d c=>?_;obtain rfl:=c.symm;go_wp2_with fail
    go_round
    case rel=>exact⟨k+1,by omega,by go_num⟩
    case measure=>simp[intOf]; omega
   .rw[aX s]at q;obtain rfl:k=m:=by omega
    go_wp2_with fail;refine mb' (iT _ _) fun d c=>?_;obtain rfl:=c.symm;go_wp2_with fail;go_ret;exact⟨rfl,rfl⟩
theorem vG(a b:Int)(w:World):Calls prog 182 #[.i a,.i b] w fun e g=>e=.returned (.i (bX a b))∧g=w:=by
 unfold bX aF
 by_cases f:0≤a∧a≤32∧0≤b∧b≤16
 .rw[aE (by simp; omega)];obtain⟨m,c⟩:∃m:Nat,kT (1+a+b)=m:=⟨(kT (1+a+b)).toNat,by have:=vF (1+a+b); omega⟩
  have y:m≤6:=by have:=vF (1+a+b); omega
  rw[c];have p:=kp (show ∀k:Nat,k≤m→decide (aJ k<1+a+b)=decide (k<m) from fun k j=>by
   have:=Ib (n:=a+b) (k:=k) (by omega) (by omega) (by omega) (by rw[←Ag,c]; omega);rw[←Ag,c,fD (by omega) (by omega)]at this;rw[show decide (k<m)=decide ((k:Int)<m) by simp,←this];simp only[decide_eq_decide];omega)
  go_enter func182,An;go_wp2_with fail
  go_loop [5] (fun i=>∃k:Nat,k≤m∧i=.i k) (fun i=>m-(intOf i).toNat)
  case atStart=>exact⟨0,by omega,rfl⟩
  case round=>
   obtain⟨k,j,rfl⟩:=hrel;have h:=p.o k j
   by_cases l:k<m
   .rw[bY l]at h;go_wp2_with fail;refine mb' (kQ _ _ (by omega)) fun g d=>?_;obtain rfl:=d.symm;go_wp2_with fail
    go_round
    case rel=>exact⟨k+1,by omega,by go_num⟩
    case measure=>simp[intOf]; omega
   .rw[aX l]at h;obtain rfl:k=m:=by omega
    go_wp2_with fail;refine mb' (kQ _ _ (by omega)) fun g d=>?_;obtain rfl:=d.symm;go_wp2_with fail;go_ret;exact⟨rfl,rfl⟩
 .rw[aC (by simp; omega)]
  by_cases q:a<0
  .clear f;go_enter func182,An;go_wp2_with fail;go_ret;exact⟨rfl,rfl⟩
  by_cases r:32<a
  .clear f;go_enter func182,An;go_wp2_with fail;go_ret;exact⟨rfl,rfl⟩
  by_cases s:b<0
  .clear f;go_enter func182,An;go_wp2_with fail;go_ret;exact⟨rfl,rfl⟩
  .have x:16<b:=by omega
   go_enter func182,An;go_wp2_with fail;go_ret;exact⟨rfl,rfl⟩
theorem Sd(p:ObV)(t:Int)(w:World):Calls prog 252 (#[.agg p.cells.toArray,.i t]++#[]) w fun e a=>e=.returned (.i (fX p.x.h t))∧Bw' w a:=by
 show Calls prog 252 #[.agg p.cells.toArray,.i t] w _;have d:(w.alloc (.cells p.cells.toArray 90)).cell? ⟨w.heap.size,0,none⟩=some (.i p.x.h):=(Blk.new w 90 p.cells).cell 0;have b:=kp (ba' w (.cells p.cells.toArray 90));go_enter func252,ntmps252;go_wp2_with fail;refine mb' (tJ p.x.h t _) fun a c=>?_;obtain rfl:=c.symm;go_wp2_with fail;go_ret;exact⟨rfl,b.o⟩
theorem Ic(v:Value)(ps:List ObV)(t:Int)(B:Nat)(w:World)(h:Sl w B v ObV.cells ps)(d:B≤w.heap.size)(f:ps.length≤1000000)(g:iL (fun p=>p.x.h) ps):
  Calls prog 223 #[v,.i t] w fun e i=>e=.returned (.tuple #[.i (eT (fun p:ObV=>p.x.h) t ps:Nat),.bool (ps.any fun p=>decide (p.x.h=t))])∧Bw' w i:=by
 have c:=kp (Cj.1 v ps (fun p=>p.x.h) t 252 #[] B w h d f g (enters_of func252 (by kernel_rfl) rfl) (fun W x _ _=>Sd x t W));go_enter func223,ntmps223;go_wp2_with fail;refine mb' c.o fun j a=>?_;have b:=kp a; clear a;go_wp2_with fail;go_ret2;exact⟨rfl,b.o⟩
theorem Id(v:Value)(ps:List ObV)(t:Int)(B:Nat)(w:World)(h:Sl w B v ObV.cells ps)(g:B≤w.heap.size)(i:ps.length≤1000000)(j:iL (fun p=>p.x.h) ps):
  Calls prog 180 #[v,.i t] w fun e k=>e=.returned (.bool (dS (ps.map (·.x)) t))∧Bw' w k:=by
 have c:=kp (Ic v ps t B w h g i j);unfold dS;rw[Ai];obtain⟨y,f⟩:=nm' (ps.any fun p=>decide (p.x.h=t));have d:=kp (f▸c.o); clear c;rw[show (ps.any ((fun x:Ob=>decide (x.h=t))∘fun x:ObV=>x.x))=y from f]
 cases ht:decide (t=0)
 .have a:(t==0)=false:=by simpa using ht
  go_enter func180,ntmps180;go_wp2_with fail;refine mb' d.o fun l a=>?_;have b:=kp a; clear a;go_wp2_with fail;go_ret;exact⟨rfl,b.o⟩
 .have a:(t==0)=true:=by simpa using ht
  go_enter func180,ntmps180;go_wp2_with fail;refine mb' d.o fun l a=>?_;have b:=kp a; clear a;go_wp2_with fail;go_ret;exact⟨rfl,b.o⟩
end
section
def Ow{α:Type}(w:World)(base:Nat)(t:TypeId)(k:Nat)(v:Value)(enc:α→List Value)(l:List α):Prop:=w.ownsRow base t k v l.length (aM enc l)
section
variable {α β:Type}{enc:α→List Value}{enc2:β→List Value}{w w':World}{base base2:Nat}{t t2:TypeId}{k k2:Nat}{v v2:Value}{l:List α}{l2:List β}
theorem Ow.nil(w:World)(base:Nat)(t:TypeId)(k:Nat)(enc:α→List Value):Ow w base t k (.slice none 0 0) enc []:=World.ownsRow_nil _ _ _ _
theorem Ow.below(h:Ow w base t k v enc l)(a:Bw' w w'):Ow w' base t k v enc l:=Fo h a (aD _)
theorem Ow.alloc(h:Ow w base t k v enc l)(o:Obj):Ow (w.alloc o) base t k v enc l:=World.ownsRow.alloc h o
theorem Ow.mono(h:Ow w base t k v enc l)(a:base2≤base):Ow w base2 t k v enc l:=Fm h a
theorem Ow.sl(h:Ow w base t k v enc l)(b:∀a,(enc a).length=k):Sl w w.heap.size v enc l:=Sl.of_own b h rfl
theorem Ow.one(h:Ow w base t k v enc l):v.oneCell'=true:=by
 obtain⟨A,c,rfl,_⟩:=eD h;rfl
theorem Ow.eqv{l':List α}(h:Ow w base t k v enc l)(e:l=l'):Ow w base t k v enc l':=e▸h
theorem Ow.other(h:Ow w base t k v enc l)(b:Ow w base2 t2 k2 v2 enc2 l2)(j:t≠t2)(i:w.grownBy w' v.ownBlock):Ow w' base2 t2 k2 v2 enc2 l2:=by
 refine World.ownsRow.kept b i ?_
 cases hv:v2.ownBlock with
 |none=>exact .inl rfl
 |some a=>
  refine .inr fun g=>?_;obtain⟨c2,n,c⟩:=Lib.ownsRow_kind b a hv;obtain⟨c1,m,f⟩:=Lib.ownsRow_kind h a g.symm;rw[f]at c;injection c with e
  injection e with _ d
  exact j d
theorem Ow.grew(h:Ow w base t k v enc l)(b:w.grownBy w' v.ownBlock)(a:base≤w.heap.size):Below base w w':=uO h b a
theorem eQ(w:World)(t:TypeId)(x:α):Sl (w.alloc (.cells (enc x).toArray t)) (w.heap.size+1) (.slice (some ⟨w.heap.size,0,none⟩) 1 1) enc [x]:=by
 refine⟨_,_,rfl,.inr ⟨w.heap.size,0,rfl,by omega,fun j u a=>?_⟩,aD _,by unfold maxLen; omega⟩;rw[hY,(Blk.new w t (enc x)).cell];simpa [aM] using a
end
theorem eU{α:Type}{enc:α→List Value}{P:Program}(w:World){j:Array Oper}{k:List Oper}{o:Oper}{a:Act}{Q:Exit→Act→World→Prop}(D:o.guard=none)(s x:Operand)(t:TypeId)
  (H:o.op=.call {callee:=.builtin .append,args:=#[s,x],argTypes:=#[t,t]})
  (base:Nat) (e:TypeId) {z:Value} {size d:Nat} (E:(P.info? e).map (fun i=>(i.zero,i.size,i.bytes))=some (some z,size,d)) (N:P.underlying t=some (.slice e)) (U:z.cells.size=size) (M:0<size)
  (G:∀a,(enc a).length=size) {v:Value} {l:List α} (J:Ow w base e size v enc l) (L:a.eval s=v) {B:Nat} {v2:Value} {l2:List α} (f:Sl w B v2 enc l2) (O:a.eval x=v2) (m:∀a∈l2,∀u∈enc a,u.oneCell'=true)
  (n:l.length+l2.length≤maxLen) (y:(l.length+l2.length)*d≤140737488355328) (q:base≤w.heap.size)
  (h:∀v' w',Ow w' base e size v' enc (l++l2)→w.grownBy w' v.ownBlock→wpList P j Q k (a.put o.dst v') w'):wpList P j Q (o::k) a w:=by
 obtain⟨A,c,rfl,K,_,_⟩:=f;obtain⟨V,F,R,S,T⟩:=info_parts E;refine oJ w D s x t H base e V z size d N F R S T U M v l.length (aM enc l) J L B A l2.length c (aM enc l2) K O (eB size G l2) (fun u g=>?_) n y q fun v' w' I C=>h v' w' ?_ C
 .obtain⟨r,f,g⟩:=List.mem_flatten.1 g;obtain⟨b,p,rfl⟩:=cX.1 f;exact m b p u g
 .unfold Ow;rw[bB,lV];exact I
theorem Ie{P:Program}{w:World}{b o:Nat}(xs:List Value)(a:∀t u,xs[t]? =some u→w.cell? ⟨b,o+t,none⟩=some u):Sem.run P (loadCellsFrom ⟨b,o,none⟩ 0 xs.length #[]) w=.ok xs.toArray w:=by
 have:=run_loadCells_list (P:=P) (w:=w) ⟨b,o,none⟩ xs (fun j v c=>by
  rw[Addr.add_lit];exact a j v c)
 simpa [loadCells] using this
theorem If{P:Program}{w:World}{b o:Nat}{x y:Value}(c:w.cell? ⟨b,o,none⟩=some x)(d:w.cell? ⟨b,o+1,none⟩=some y):Sem.run P (loadCellsFrom ⟨b,o,none⟩ 0 2 #[]) w=.ok #[x,y] w:=by
 refine Ie (P:=P) [x,y] fun t u a=>?_
 match t,a with
 |0,a=>cases a; exact c
 |1,a=>cases a; exact d
structure cI(w:World)(g:Nat)(t:TypeId)(p:HpV):Prop where
 blk:Blk w g t p.cells
 c0:w.cell? ⟨g,0,none⟩=some (.i p.x.order)
 c1:w.cell? ⟨g,1,none⟩=some p.ov
 c2:w.cell? ⟨g,2,none⟩=some (.i p.x.next)
 c3:w.cell? ⟨g,3,none⟩=some (.i p.x.t0)
 c4:w.cell? ⟨g,4,none⟩=some (.i p.x.t1)
 c5:w.cell? ⟨g,5,none⟩=some (.i p.x.t2)
 c6:w.cell? ⟨g,6,none⟩=some (.i p.x.t3)
 c7:w.cell? ⟨g,7,none⟩=some p.fv
theorem cI.of{w:World}{g:Nat}{t:TypeId}{p:HpV}(h:Blk w g t p.cells):cI w g t p:=⟨h,h.cell 0,h.cell 1,h.cell 2,h.cell 3,h.cell 4,h.cell 5,h.cell 6,h.cell 7⟩
theorem cI.below{w w':World}{g:Nat}{t:TypeId}{p:HpV}(h:cI w g t p)(a:Bw' w w'):cI w' g t p:=.of (h.blk.below a h.blk.lt)
attribute [-go_sem] loadCellsFrom storeCells
attribute [local go_sem] bC
theorem Ig(p:HpV)(ps:List ObV)(t:Int)(B:Nat)(w:World)(h:Sl w B p.ov ObV.cells ps)(J:B≤w.heap.size)(Q:ps.length≤1000000):
  Calls prog 206 #[.agg p.cells.toArray,.i t] w fun e w'=>e=.returned (.i (eI (fun p:ObV=>decide (p.x.h=t)) ps))∧Bw' w w':=by
 have K:=cI.of (Blk.new w 29 p.cells);have S:=K.c1;have C:=ba' w (.cells p.cells.toArray 29);have H:=kp (h.below C J);have r:=kp C;obtain⟨n,q⟩:=nm' ps.length;rw[q]at Q;have l:=kp q; clear q;go_enter func206,ntmps206;go_wp2_with fail;generalize w.alloc (.cells p.cells.toArray 29)=W at *;obtain⟨A,c,E,F,M,O⟩:=H.o;rw[E,l.o]at S;have G:=kp F; clear F M O E
 go_loop [5] (fun i=>∃k:Nat,k≤n∧i=.i k∧(∀y∈ps.take k,decide (y.x.h=t)=false)) (fun i=>n-(intOf i).toNat)
 case atStart=>exact⟨0,by omega,rfl,by simp⟩
 case round=>
  obtain⟨k,V,rfl,D⟩:=hrel;have j:=kp D; clear D
  by_cases X:k<n
  .have U:(k:Int)<(n:Int):=by omega
   have g:k<ps.length:=by have:=l.o; omega
   obtain⟨b,R,I,_,N,_⟩:=bV (P:=prog) 5 cM (by omega) G.o k g;subst I;have T:W.cell? ⟨b,R+k*5+0,none⟩=some (.i (ps[k]).x.h):=N 0 _ rfl;simp only[cF]at T;have s:=k'2 (cV g) (rF (fun p:ObV=>decide (p.x.h=t)) ps k g);generalize ps[k]'g=y at *
   cases d:decide (y.x.h=t)
   .have L:(y.x.h==t)=false:=by simpa using d
    have m:=kp d; clear d;go_wp2_with fail
    go_round
    case rel=>
     refine⟨k+1,by omega,by go_num,fun z f=>?_⟩;rw[s.a]at f;rcases dF.1 f with f|f
     .exact j.o z f
     .rw[bQ.1 f]; exact m.o
    case measure=>simp[intOf]; omega
   .have L:(y.x.h==t)=true:=by simpa using d
    have m:=kp d; clear d;go_wp2_with fail;go_ret;exact⟨by rw[s.B m.o j.o]; rfl,r.o⟩
  .obtain rfl:k=n:=by omega
   go_wp2_with fail;go_ret;exact⟨by rw[vB _ ps (fun y d=>j.o y (by rw[cN (by have:=l.o; omega)]; exact d))]; rfl,r.o⟩
theorem tN(p:HpV)(ps:List ObV)(t:Int)(B:Nat)(w:World)(h:Sl w B p.ov ObV.cells ps)(i:B≤w.heap.size)(l:ps.length≤1000000):
  Calls prog 187 #[.agg p.cells.toArray,.i t] w fun e w'=>e=.returned (.bool (dS (ps.map (·.x)) t))∧Bw' w w':=by
 have j:=Blk.new w 29 p.cells;have m:=j.load (P:=prog) (k:=8) rfl;have c:=ba' w (.cells p.cells.toArray 29);have g:=kp (Ig p ps t B _ (h.below c i) (by simp; omega) l);have b:=kp c;have f:=kp (tI (fun p:ObV=>decide (p.x.h=t)) ps);unfold dS;rw[Ai,show ((fun x:Ob=>decide (x.h=t))∘fun x:ObV=>x.x)=(fun p:ObV=>decide (p.x.h=t)) from rfl,←f.o];generalize eI (fun p:ObV=>decide (p.x.h=t)) ps=y at *
 cases ht:decide (t=0)
 .have a:(t==0)=false:=by simpa using ht
  go_enter func187,ntmps187;go_wp2_with fail;refine mb' g.o fun n a=>?_;have d:=kp (b.o.trans (a.mono (by simp))); clear a;go_wp2_with fail;go_ret;exact⟨rfl,d.o⟩
 .have a:(t==0)=true:=by simpa using ht
  go_enter func187,ntmps187;go_wp2_with fail;go_ret;exact⟨rfl,b.o⟩
theorem Ih(v:Value)(l:List Bk)(B:Nat)(w:World)(h:Sl w B v Bk.cells l)(i:l.length≤1000000):
  Calls prog 158 #[v] w fun e w'=>∃v',e=.returned v'∧Ow w' w.heap.size 88 2 v' Bk.cells l∧Bw' w w':=by
 have g:=kp h;obtain⟨A,c,rfl,_,_,_⟩:=h;go_enter func158,ntmps158;go_wp2_with (at_builtin; refine eU (enc:=Bk.cells) w rfl (.tmp 4) (.tmp 5) 27 rfl w.heap.size 88 jA fC rfl (by omega) bM (Ow.nil _ _ _ _ _) rfl g.o rfl (fun a _=>gU a) ?_ ?_ (aD _) ?_)
 .unfold maxLen; simp; omega
 .simp; omega
 intro v' w' f d;have b:=k'2 f (Ow.grew (Ow.nil w w.heap.size 88 2 Bk.cells) d (aD _)); clear f d;go_wp2_with fail;go_ret;exact⟨_,rfl,b.a,b.B⟩
theorem Se(p:HpV)(ps:List ObV)(g:List Bk)(B:Nat)(w:World)(h:Sl w B p.ov ObV.cells ps)(hf:Sl w B p.fv Bk.cells g)(E:B≤w.heap.size)(hn:ps.length≤1000000)(b0:g.length≤1000000):
  Calls prog 188 #[.agg p.cells.toArray] w fun e w'=>∃v',e=.returned v'∧Ow w' w.heap.size 88 2 v' Bk.cells (g++ps.map fun p=>p.x.b)∧Bw' w w':=by
 have F:=cI.of (Blk.new w 29 p.cells);have q7:=F.c7;have d:=ba' w (.cells p.cells.toArray 29);have T:=kp (h.below d E);have Q:=kp (Ih p.fv g B _ (hf.below d E) b0);have O:=kp F;have M:=kp d;have V:=kp (show B≤(w.alloc (.cells p.cells.toArray 29)).heap.size by simp; omega);have C:=kp (show w.heap.size≤(w.alloc (.cells p.cells.toArray 29)).heap.size by simp);obtain⟨n,q⟩:=nm' ps.length;rw[q]at hn;have l:=kp q; clear q;go_enter func188,ntmps188;go_wp2_with fail;generalize w.alloc (.cells p.cells.toArray 29)=W at *;refine Q.o.mono ?_;rintro e w1 ⟨v1,rfl,J,d⟩;have r:=k'2 J d; clear J d q7;go_wp2_with fail
 go_loopw [3,4] (fun v i wr=>∃k:Nat,k≤n∧i=.i k∧Ow wr W.heap.size 88 2 v Bk.cells (g++(ps.take k).map fun p=>p.x.b)∧Bw' W wr) (fun _ i _=>n-(intOf i).toNat)
 case atStart=>exact⟨0,by omega,rfl,by simpa using r.a,r.B⟩
 case round=>
  obtain⟨k,hk,rfl,e0,Z⟩:=hrel;have z:=kp e0;have f:=kp Z;obtain⟨A,c,d0,K,_,_⟩:=T.o.below f.o V.o;have q1:=(O.o.below f.o).c1;rw[d0,l.o]at q1;have S:=kp K; clear K
  by_cases m0:k<n
  .have g3:(k:Int)<(n:Int):=by omega
   have m:k<ps.length:=by have:=l.o; omega
   obtain⟨b,j0,Y,_,I,_⟩:=bV (P:=prog) 5 cM (by omega) S.o k m;subst Y;have l0:Sem.run prog (loadCellsFrom ⟨b,j0+k*5+1,none⟩ 0 2 #[]) wr=.ok #[.i ps[k].x.b.a,.i ps[k].x.b.o] wr:=If (I 1 _ rfl) (I 2 _ rfl);have U:=kp (cV m);generalize ps[k]'m=y at *;have L:Sl (wr.alloc (.cells #[.i y.x.b.a,.i y.x.b.o] 88)) (wr.heap.size+1) (.slice (some ⟨wr.heap.size,0,none⟩) 1 1) Bk.cells [y.x.b]:=eQ (enc:=Bk.cells) wr 88 y.x.b;have H:=z.o.alloc (.cells #[.i y.x.b.a,.i y.x.b.o] 88);obtain⟨D,G⟩:=nm' (wr.alloc (.cells #[.i y.x.b.a,.i y.x.b.o] 88));rw[G]at L H;have X:=kp L;have s:=kp H;have j:=kp (show Bw' W D from G▸f.o.alloc f.o.size (.cells #[.i y.x.b.a,.i y.x.b.o] 88));go_wp2_with (at_builtin; refine eU (enc:=Bk.cells) D rfl (.tmp 15) (.tmp 22) 27 rfl W.heap.size 88 jA fC rfl (by omega) bM s.o rfl X.o rfl (fun a _=>gU a) ?_ ?_ j.o.size ?_)
   .unfold maxLen; simp; omega
   .simp; omega
   intro v3 w3 g0 a0;have N:=kp (j.o.trans (s.o.grew a0 j.o.size));have R:=kp g0;go_wp2_with fail;go_roundw
   case rel=>exact⟨k+1,by omega,by go_num,R.o.eqv (by rw[U.o]; simp),N.o⟩
   case measure=>simp[intOf]; omega
  .obtain rfl:k=n:=by omega
   go_wp2_with fail;go_ret;refine⟨_,rfl,?_,M.o.trans (f.o.mono C.o)⟩;have:=z.o;rw[cN (by have:=l.o; omega)]at this;exact this.mono C.o
end
section
theorem Ii(a b c d:Bool):(a=true)∨(a=false∧b=true)∨(a=false∧b=false∧c=true)∨(a=false∧b=false∧c=false∧d=true)∨(a=false∧b=false∧c=false∧d=false):=by
 cases a<;>cases b<;>cases c<;>cases d<;>simp
theorem vH{w:World}{B:Nat}{v:Value}{ps:List ObV}(h:pL w B v ps)(k:Nat)(e:k<ps.length):∃b d a c,ps[k].wv=.slice b ps[k].x.ws.length d∧ps[k].lv=.slice a ps[k].x.ls.length c∧Rd w B a (aM i1 ps[k].x.ls)∧ps[k].x.ws.length≤maxLen∧ps[k].x.ls.length≤maxLen:=by
 obtain⟨⟨b,d,i,_,j,l⟩,a,c,f,g,m,n⟩:=h.2 _ (bK e);exact⟨b,d,a,c,i,f,g,by omega,by omega⟩
structure tO(h:Hp)(l:List Ob)(L:Int):Prop where
 le:∀y∈l,y.h≤L
 rise:l.Pairwise (fun x y=>x.h<y.h)
 pos:∀y∈l,1≤y.h∧y.h<h.next
 ob:∀y∈l,obB h.order y=true
 link:∀y∈l,∀t∈y.ls,dS h.obs t=true
theorem tO.snoc{h:Hp}{l:List Ob}{L:Int}(s:tO h l L){y:Ob}(d:1≤y.h)(e:y.h<h.next)(b:l=[]∨L<y.h)(f:obB h.order y=true)(g:∀t∈y.ls,dS h.obs t=true):tO h (l++[y]) y.h:=by
 have c:∀z∈l,z.h<y.h:=fun z a=>by
  rcases b with rfl|b
  .cases a
  .have:=s.le z a; omega
 refine⟨fun z a=>?_,?_,fun z a=>?_,fun z a=>?_,fun z a=>?_⟩
 .rcases dF.1 a with a|a
  .have:=c z a; omega
  .rw[bQ.1 a]; exact iQ _
 .rw[pB];exact⟨s.rise,by simp,fun z a u i=>by rw[bQ.1 i]; exact c z a⟩
 all_goals
  rcases dF.1 a with a|a
 .exact s.pos z a
 .rw[bQ.1 a]; exact⟨d,e⟩
 .exact s.ob z a
 .rw[bQ.1 a]; exact f
 .exact s.link z a
 .rw[bQ.1 a]; exact g
theorem xR{h:Hp}(H:HOk h):gL h.order h.free=true∧((h.obs.length:Int)≤256):=by
 have:=eC.2 H;unfold cO at this;simp only[bI,bP]at this;exact⟨this.1,this.2.2.1⟩
theorem Sf{h:Hp}{L:Int}(c:gL h.order h.free=true)(f:1≤h.next∧h.next≤1000001)(s:tO h h.obs L)(g:(h.free++h.obs.map (·.b)).Pairwise bE)(i:∀t∈h.tops,dS h.obs t=true):
  cO h=decide (bW (h.free++h.obs.map (·.b))=aJ h.order):=by
 have d:=((iJ _ _).1 c).1;rw[qQ,eC,bP];constructor
 .intro H; rw[qX]; exact H.sum
 .intro e;rw[qX]at e;exact⟨d,(lE d).1 c,f,⟨fun x a=>by have:=s.pos x a; omega,s.rise⟩,fun x a=>by have:=s.ob x a; unfold obB at this; simpa using this,g,e,fun x a t k=>rC.1 (s.link x a t k),fun t j=>rC.1 (i t j)⟩
structure gJ(w:World)(g:Nat)(t:TypeId)(p:ObV):Prop where
 blk:Blk w g t p.cells
 c0:w.cell? ⟨g,0,none⟩=some (.i p.x.h)
 c1:w.cell? ⟨g,1,none⟩=some (.i p.x.b.a)
 c2:w.cell? ⟨g,2,none⟩=some (.i p.x.b.o)
 c3:w.cell? ⟨g,3,none⟩=some p.wv
 c4:w.cell? ⟨g,4,none⟩=some p.lv
theorem gJ.of{w:World}{g:Nat}{t:TypeId}{p:ObV}(h:Blk w g t p.cells):gJ w g t p:=⟨h,h.cell 0,h.cell 1,h.cell 2,h.cell 3,h.cell 4⟩
theorem gJ.below{w a:World}{g:Nat}{t:TypeId}{p:ObV}(h:gJ w g t p)(b:Bw' w a):gJ a g t p:=.of (h.blk.below b h.blk.lt)
theorem Ij(p:HpV)(ps:List ObV)(B:Nat)(w:World)(h:gH w B p ps)(hB:B≤w.heap.size)(hn:ps.length≤1000000)(C8:p.x.free.length≤900000)(hx: -9223372036854775808≤p.x.next∧p.x.next≤9223372036854775807):
  Calls prog 130 #[.agg p.cells.toArray] w fun e w'=>e=.returned (.bool (cO p.x))∧Bw' w w':=by
 have j8:p.x.free.length≤1000000:=by omega
 obtain⟨r,b5⟩:=nm' (cO p.x);rw[b5];have I:=kp b5; clear b5;have j7:=Blk.new w 29 p.cells;have e0:=ba' w (.cells p.cells.toArray 29);have hW:B≤(w.alloc (.cells p.cells.toArray 29)).heap.size:=by simp; omega
 have hH:=cI.of j7;have F:=kp (h.below e0 hB);have H:=kp e0;have HH:=kp hH;have HW:=kp hW;have J:=kp (show w.heap.size≤(w.alloc (.cells p.cells.toArray 29)).heap.size by simp);obtain⟨n,hl⟩:=nm' ps.length;rw[hl]at hn;have y':p.x.obs.length=n:=by rw[h.2.1,cW,hl]
 have HL:=k'2 hl y';obtain⟨A,c,a3,_,_,_⟩:=h.1.1;rw[hl]at a3;have o0:=kp a3;have q0:=hH.c0;have q1:=hH.c1;have q2:=hH.c2;have q7:=hH.c7;rw[a3]at q1;clear h j7 e0 hW hH hl a3;go_enter func130,ntmps130;go_wp2_with fail;generalize w.alloc (.cells p.cells.toArray 29)=W at *;refine mb' (Bt p.x.order p.fv B p.x.free W F.C HW.o j8) fun w1 e0=>?_;have m1:=kp e0;have q2:=(HH.o.below e0).c2;have q1:=(HH.o.below e0).c1;rw[o0.o]at q1;rw[xC];clear e0 q0 q7;rcases Ii (!gL p.x.order p.x.free) (decide (p.x.next<1)) (decide (1000000<p.x.next-1)) (decide (256<(n:Int))) with d|⟨d,g⟩|⟨d,g,hc⟩|⟨d,g,hc,hd⟩|⟨d,g,hc,hd⟩
 .simp only[pA]at d;obtain rfl:r=false:=by rw[←I.o]; exact iG.2 fun h=>by have:=(xR (eC.1 h)).1; rw[d]at this; cases this
  rw[d];clear d;go_wp2_with fail;go_ret;exact⟨rfl,H.o.trans (m1.o.mono J.o)⟩
 .simp only[uE]at d;obtain rfl:r=false:=by rw[←I.o]; exact iG.2 fun h=>by have:=(eC.1 h).next; simp at g; omega
  rw[d];clear d;go_wp2_with fail;go_ret;exact⟨rfl,H.o.trans (m1.o.mono J.o)⟩
 .simp only[uE]at d;obtain rfl:r=false:=by rw[←I.o]; exact iG.2 fun h=>by have:=(eC.1 h).next; simp at hc; omega
  rw[d];clear d;simp only[decide_eq_false_iff_not,bP]at g hc;go_wp2_with fail;go_ret;exact⟨rfl,H.o.trans (m1.o.mono J.o)⟩
 .simp only[uE]at d;obtain rfl:r=false:=by rw[←I.o]; exact iG.2 fun h=>by have:=(xR (eC.1 h)).2; rw[HL.B]at this; simp at hd; omega
  rw[d];clear d;simp only[decide_eq_false_iff_not,bP]at g hc hd;go_wp2_with fail;go_ret;exact⟨rfl,H.o.trans (m1.o.mono J.o)⟩
 simp only[uE]at d;have HF:=kp d;rw[d];clear d;simp only[decide_eq_false_iff_not]at g hc hd;have HN:=kp (show 1≤p.x.next∧p.x.next≤1000001 by omega);have HO:=kp ((iJ _ _).1 HF.o);go_wp2_with fail
 go_loopw [3] (fun i wr=>∃k:Nat,k≤n∧i=.i k∧(∃L,tO p.x (p.x.obs.take k) L∧∀h:0<k∧k≤ps.length,(ps[k-1]'(by omega)).x.h=L)∧Bw' W wr) (fun i _=>n-(intOf i).toNat)
 case atStart=>exact⟨0,by omega,rfl,⟨0,⟨by simp,by simp,by simp,by simp,by simp⟩,fun h=>absurd h.1 (by omega)⟩,m1.o⟩
 case round=>
  obtain⟨k,hk,rfl,⟨L,hS,hL⟩,o4⟩:=hrel;have HS:=kp hS;have l9:=kp hL;have g1:=kp o4;have T:=kp (HH.o.below o4);have q1:=T.o.c1;rw[o0.o]at q1;clear hS hL o4
  by_cases o2:k<n
  .have g3:(k:Int)<(n:Int):=by omega
   have E:k<ps.length:=by have:=HL.o; omega
   have l4:=F.o.below g1.o HW.o;obtain⟨Aw,cw,Al,cl,e3,a1,o8,a8,z4⟩:=vH l4.1 k E;obtain⟨A',c',l8,hr,_,_⟩:=l4.1.1;obtain rfl:A'=A:=by have:=o0.o; rw[l8]at this; injection this
   obtain⟨b,b1,hA,C3,l1,_⟩:=bV (P:=prog) 5 cM (by omega) hr k E;subst hA;have x0:wr.cell? ⟨b,b1+k*5+0,none⟩=some (.i ps[k].x.h):=l1 0 _ rfl;have x1:wr.cell? ⟨b,b1+k*5+1,none⟩=some (.i ps[k].x.b.a):=l1 1 _ rfl;have x2:wr.cell? ⟨b,b1+k*5+2,none⟩=some (.i ps[k].x.b.o):=l1 2 _ rfl;have x3:wr.cell? ⟨b,b1+k*5+3,none⟩=some ps[k].wv:=l1 3 _ rfl;have x4:wr.cell? ⟨b,b1+k*5+4,none⟩=some ps[k].lv:=l1 4 _ rfl;simp only[cF]at x0;have p9:=kp (show ∀h:0<k,∃v,wr.cell? ⟨b,b1+(k-1)*5,none⟩=some (.i v)∧v=(ps[k-1]'(by omega)).x.h from fun h0=>by
    obtain⟨b',C1,e4,_,o',_⟩:=bV (P:=prog) 5 cM (by omega) hr (k-1) (by omega)
    cases e4;exact⟨_,o' 0 _ rfl,rfl⟩)
   have HT:=kp (show p.x.obs.take (k+1)=p.x.obs.take k++[ps[k].x] by
    have ho:=F.b;rw[ho,cV (by simpa using E),kY])
   have HG:=kp (bK E);have HK:=kp (show (ps[k+1-1]'(by omega))=ps[k] from rfl);clear l1 hr l8 l4;have z1:=kp (show ps[k].x∈p.x.obs by rw[F.b]; exact cX.2 ⟨_,bK E,rfl⟩);generalize hy:ps[k]'E=y at *;have HY:=kp hy; clear hy;obtain⟨X,a5⟩:=nm' y.x.ls.length;rw[a5]at a1 z4;have m0:=kp a5; clear a5;have C7:y.x.ws.length≤9223372036854775807:=by unfold maxLen at a8; omega
   have C6:X≤9223372036854775807:=by unfold maxLen at z4; omega
   clear a8 z4;rw[e3]at x3;rw[a1]at x4;have y9:=kp o8; clear o8;have j5:gJ (wr.alloc (.cells #[.i y.x.h,.i y.x.b.a,.i y.x.b.o,.slice Aw y.x.ws.length cw,.slice Al X cl] 90)) wr.heap.size 90 y:=.of (by
    have:=Blk.new wr 90 y.cells;unfold ObV.cells at this;rw[e3,a1]at this;unfold ObV.cells;rw[e3,a1];exact this)
   have l2:=ba' wr (.cells #[.i y.x.h,.i y.x.b.a,.i y.x.b.o,.slice Aw y.x.ws.length cw,.slice Al X cl] 90);obtain⟨W2,a7⟩:=nm' (wr.alloc (.cells #[.i y.x.h,.i y.x.b.a,.i y.x.b.o,.slice Aw y.x.ws.length cw,.slice Al X cl] 90));rw[a7]at j5 l2;have j6:=kp j5;have y2:=kp (g1.o.on l2);have y3:=kp (T.o.below l2);have p5:=kp l2;have p3:=kp (show B≤wr.heap.size from aB HW.o g1.o.size);clear j5 l2;go_wp2_with fail;clear x0 x1 x2 x3 x4 q1 a7;have f0:=aP j6.o.c0;have p1:=y3.o.c1;rw[o0.o]at p1;have f1:=aP p1;have f2:=aP y3.o.c2;clear p1;rcases tB (decide (1≤y.x.h)) (decide (y.x.h<p.x.next)) with⟨V,_⟩|⟨V,h2,_⟩|⟨V,h2,_⟩
   .have a4:decide (y.x.h<1)=true:=by simp at V ⊢; omega
    obtain rfl:r=false:=by
     rw[←I.o];exact iG.2 fun h=>by have:=((eC.1 h).rise.1 _ z1.o).1; simp at V; omega
    clear V;refine bJ (by kernel_rfl) (by kernel_rfl) ?_
    repeat (go_big_quiet_step (fail))
    refine bH ?_;rintro W3 ⟨⟨_,s⟩,rfl⟩;have Y:=kp (y2.o.on s); clear s f0 f1 f2;go_wp2_with fail;go_ret;exact⟨rfl,H.o.trans (Y.o.mono J.o)⟩
   .have a4:decide (y.x.h<1)=false:=by simp at V ⊢; omega
    have m6:decide (p.x.next≤y.x.h)=true:=by simp at h2 ⊢; omega
    obtain rfl:r=false:=by
     rw[←I.o];exact iG.2 fun h=>by have:=((eC.1 h).rise.1 _ z1.o).2; simp at h2; omega
    clear V h2;refine bJ (by kernel_rfl) (by kernel_rfl) ?_
    repeat (go_big_quiet_step (fail))
    refine bH ?_;rintro W3 ⟨⟨_,s⟩,rfl⟩;have Y:=kp (y2.o.on s); clear s f0 f1 f2;go_wp2_with fail;go_ret;exact⟨rfl,H.o.trans (Y.o.mono J.o)⟩
   have a4:decide (y.x.h<1)=false:=by simp at V ⊢; omega
   have m6:decide (p.x.next≤y.x.h)=false:=by simp at h2 ⊢; omega
   have a6:=kp (show 1≤y.x.h∧y.x.h<p.x.next by simp at V h2; omega);clear V h2;have z':(k=0∧decide ((0:Int)<(k:Int))=false∧(p.x.obs.take k=[]∨L<y.x.h))∨(0<k∧decide ((0:Int)<(k:Int))=true∧∃v,(∀q:Blw W2,q.w.cell? ⟨b,b1+(k-1)*5,none⟩=some (.i v))∧((decide (y.x.h≤v)=true∧y.x.h≤v∧v=(ps[k-1]'(by omega)).x.h)∨(decide (y.x.h≤v)=false∧(p.x.obs.take k=[]∨L<y.x.h)))):=by
    rcases zW k with h0|h0
    .exact .inl ⟨h0,by simp; omega,.inl (by rw[h0]; rfl)⟩
    .obtain⟨v,hv,b3⟩:=p9.o h0;refine .inr ⟨h0,by simp; omega,v,aP ((p5.o.cell (World.block_lt_of_cell? wr _ hv)).trans hv),?_⟩;rcases Int.lt_or_le v y.x.h with h|h
     .exact .inr ⟨by simp; omega,.inr (by rw[←l9.o ⟨h0,by omega⟩,←b3]; exact h)⟩
     .exact .inl ⟨by simp; omega,h,b3⟩
   rcases z' with⟨p7,g0,e5⟩|⟨p7,g0,v,f3,⟨g5,z7,b3⟩|⟨g5,e5⟩⟩
   rotate_left 1
   .obtain rfl:r=false:=by
     rw[←I.o];refine iG.2 fun h=>?_;have hr:=(eC.1 h).rise.2;rw[F.b,zX]at hr;have:=List.pairwise_iff_getElem.1 hr (k-1) k (by omega) E (by omega);rw[HY.o]at this;omega
    have g6:(((k-1:Nat):Int))=(k:Int)-1:=by omega
    have G:=kp z7;clear z7 b3;have g7:(k:Int)-1<n:=by omega
    have g8:0≤(k:Int)-1:=by omega
    have g9:((k:Int)-1).toNat=k-1:=by omega
    refine bJ (by kernel_rfl) (by kernel_rfl) ?_
    repeat (go_big_quiet_step (fail))
    refine bH ?_;rintro W3 ⟨⟨_,s⟩,rfl⟩;have Y:=kp (y2.o.on s); clear s f0 f1 f2 f3;go_wp2_with fail;go_ret;exact⟨rfl,H.o.trans (Y.o.mono J.o)⟩
   all_goals
    have a':=kp e5;clear e5;have g7:(k:Int)-1<n:=by omega
    have g9:((k:Int)-1).toNat=k-1:=by omega
    try have g8:0≤(k:Int)-1:=by omega
    refine bJ (by kernel_rfl) (by kernel_rfl) ?_
    repeat (go_big_quiet_step (fail))
    refine bH ?_;rintro W3 ⟨⟨_,s⟩,rfl⟩;have Y:=kp (y2.o.on s);have g2:=kp (j6.o.below s);have q5:=kp (y3.o.below s);have z8:=kp (p5.o.on s);clear s f0 f1 f2 g7 g9
    try clear f3
    try clear g8
    try clear g5
    clear g0 p7 a4 m6;go_wp2_with fail;have f1:=aP g2.o.c1;have f2:=aP g2.o.c2;have f3:=g2.o.c3;rw[e3]at f3;have f3:=aP f3;have M:=g2.o.c4;rw[a1]at M;have M:=aP M;have f5:=aP q5.o.c0;obtain⟨z,R⟩:=nm' (bX y.x.ws.length X);have HZ:=kp R; clear R;have C0:(z=y.x.b.o∧bN p.x.order y.x.b=true)∨(z=y.x.b.o∧bN p.x.order y.x.b=false)∨(z != y.x.b.o)=true:=by
     by_cases h:z=y.x.b.o
     .cases Q:bN p.x.order y.x.b
      .exact .inr (.inl ⟨h,rfl⟩)
      .exact .inl ⟨h,rfl⟩
     .exact .inr (.inr (by simpa using h))
    rcases C0 with⟨j0,Q⟩|⟨j0,Q⟩|j0
    .have e1:(z != y.x.b.o)=false:=by simp[j0]
     have HM:=kp Q;have j':=kp j0;clear Q j0;refine bJ (by kernel_rfl) (by kernel_rfl) ?_
     repeat (go_big_quiet_step (first |(go_at_call 182; refine dG (v:=.i z) (by rw[←HZ.o]; exact vG _ _ _))|(go_at_call 186; refine bU (v:=.bool true) (by rw[←HM.o]; exact tD p.x.order y.x.b _ HO.a))))
     refine bH ?_;rintro W4 ⟨⟨_,O⟩,rfl⟩;have o1:=kp (Y.o.on O);have g':=kp (g2.o.below O);have e9:=kp (q5.o.below O);have a9:=kp (z8.o.on O);have o9:=kp (show obB p.x.order y.x=true by unfold obB; rw[m0.o,HZ.o,HM.o,j'.o]; simp);clear O f1 f2 f3 M f5 e1;go_wp2_with fail
     go_loopw [5] (fun i wr=>∃j:Nat,j≤X∧i=.i j∧(∀t∈y.x.ls.take j,dS p.x.obs t=true)∧Bw' W4 wr) (fun i _=>X-(intOf i).toNat)
     case atStart=>exact⟨0,by omega,rfl,by simp,aL _ _⟩
     case round=>
      obtain⟨j,hj,rfl,y7,j1⟩:=hrel;have y5:=kp y7;have m3:=kp (o1.o.on j1);have l6:=kp (g'.o.below j1);have b0:=kp (e9.o.below j1);have q3:=kp (a9.o.on j1);have q8:=kp j1;clear y7 j1;have c4:=l6.o.c4;rw[a1]at c4
      by_cases z0:j<X
      .have g3:(j:Int)<(X:Int):=by omega
       go_wp2_with fail;clear c4;have M:=l6.o.c4;rw[a1]at M;have M:=aP M;have d0:=aP b0.o.c0;have d1:=b0.o.c1;rw[o0.o]at d1;have d1:=aP d1;have d2:=aP b0.o.c2;have d3:=aP b0.o.c3;have d4:=aP b0.o.c4;have d5:=aP b0.o.c5;have d6:=aP b0.o.c6;have d7:=aP b0.o.c7;have o6:=F.o.below m3.o HW.o;obtain⟨f,ol,m',_,l7,_⟩:=bV (P:=prog) 1 cS (by omega) (y9.o.below q3.o p3.o) j (by have:=m0.o; omega);subst m';have f6:=l7 0 _ rfl;simp only[oF,cF]at f6;have f6:=aP f6;have e2:=kp (cV (show j<y.x.ls.length by have:=m0.o; omega));have z3:=kp (bK (show j<y.x.ls.length by have:=m0.o; omega));generalize y.x.ls[j]'(show j<y.x.ls.length by have:=m0.o; omega)=u at *;have HQ:=kp (show ∀q:Blw wr,Sl q.w B p.ov ObV.cells ps∧B≤q.w.heap.size from fun q=>⟨Sl.blw q o6.1.1 (aB p3.o q3.o.size),aB (aB p3.o q3.o.size) q.size⟩);have b2:=kp (show ps.length≤1000000 by have:=HL.a; omega);have y6:=o0.o;rw[←y6]at d1;clear l7 o6 y6
       cases hlu:dS p.x.obs u
       .have N:=kp hlu; clear hlu;refine bJ (by kernel_rfl) (by kernel_rfl) ?_
        repeat (go_big_quiet_step ((go_at_call 187; refine bU (v:=.bool false) (by rw[←N.o,F.b]; exact tN p ps u B _ (HQ.o _).1 (HQ.o _).2 b2.o))))
        refine bH ?_;rintro W5 ⟨⟨_,a0⟩,rfl⟩;have l0:=kp (m3.o.on a0);obtain rfl:r=false:=by
         rw[←I.o];exact iG.2 fun h=>by have:=rC.2 ((eC.1 h).links _ z1.o _ z3.o); rw[N.o]at this; cases this
        clear a0 d0 d1 d2 d3 d4 d5 d6 d7 M f6;go_wp2_with fail;go_ret;exact⟨rfl,H.o.trans (l0.o.mono J.o)⟩
       .have N:=kp hlu; clear hlu;refine bJ (by kernel_rfl) (by kernel_rfl) ?_
        repeat (go_big_quiet_step ((go_at_call 187; refine bU (v:=.bool true) (by rw[←N.o,F.b]; exact tN p ps u B _ (HQ.o _).1 (HQ.o _).2 b2.o))))
        refine bH ?_;rintro W5 ⟨⟨_,a0⟩,rfl⟩;have l0:=kp (q8.o.on a0);clear a0 d0 d1 d2 d3 d4 d5 d6 d7 M f6;go_wp2_with fail;go_roundw
        case rel=>
         refine⟨j+1,by omega,by go_num,fun t l=>?_,l0.o⟩;rw[e2.o]at l;rcases dF.1 l with l|l
         .exact y5.o t l
         .rw[bQ.1 l]; exact N.o
        case measure=>simp[intOf]; omega
      .obtain rfl:j=X:=by omega
       clear hj z0;go_wp2_with fail;go_roundw
       case rel=>
        refine⟨k+1,by omega,by go_num,⟨y.x.h,?_,fun h=>by rw[HK.o]⟩,m3.o⟩;rw[HT.o];exact HS.o.snoc a6.a a6.B a'.o o9.o fun t l=>y5.o t (by rw[cN (by have:=m0.o; omega)]; exact l)
       case measure=>simp[intOf]; omega
    .have e1:(z != y.x.b.o)=false:=by simp[j0]
     have HM:=kp Q;obtain rfl:r=false:=by
      rw[←I.o];exact iG.2 fun h=>by have:=((eC.1 h).each _ z1.o).2; rw[HM.o]at this; cases this
     clear Q j0;refine bJ (by kernel_rfl) (by kernel_rfl) ?_
     repeat (go_big_quiet_step (first |(go_at_call 182; refine dG (v:=.i z) (by rw[←HZ.o]; exact vG _ _ _))|(go_at_call 186; refine bU (v:=.bool false) (by rw[←HM.o]; exact tD p.x.order y.x.b _ HO.a))))
     refine bH ?_;rintro W4 ⟨⟨_,O⟩,rfl⟩;have o1:=kp (Y.o.on O);clear O f1 f2 f3 M f5 e1;go_wp2_with fail;go_ret;exact⟨rfl,H.o.trans (o1.o.mono J.o)⟩
    .obtain rfl:r=false:=by
      rw[←I.o];exact iG.2 fun h=>by have:=((eC.1 h).each _ z1.o).1; rw[m0.o,HZ.o]at this; simp[this]at j0
     refine bJ (by kernel_rfl) (by kernel_rfl) ?_
     repeat (go_big_quiet_step (first |(go_at_call 182; refine dG (v:=.i z) (by rw[←HZ.o]; exact vG _ _ _))))
     refine bH ?_;rintro W4 ⟨⟨_,O⟩,rfl⟩;have o1:=kp (Y.o.on O);clear O f1 f2 f3 M f5;go_wp2_with fail;go_ret;exact⟨rfl,H.o.trans (o1.o.mono J.o)⟩
  .obtain rfl:k=n:=by omega
   have j4:=F.o.below g1.o HW.o;have q6:B≤wr.heap.size:=aB HW.o g1.o.size;have z2:=Se p ps p.x.free B wr j4.1.1 j4.2.2 q6 (by have:=HL.a; omega) j8;unfold HpV.cells at z2;rw[o0.o]at z2;have z6:p.x.obs=ps.map (·.x):=F.b;have y8:=kp (show (ps.map fun p=>p.x.b)=p.x.obs.map (·.b) by rw[z6,pC]; rfl);have e6:=kp (show tO p.x p.x.obs L by have:=HS.o; rwa [cN (by have:=HL.B; omega)]at this);have b9:=kp z2;clear j4 q6 z2 z6;have d0:=T.o.c0;have d2:=T.o.c2;have d3:=T.o.c3;have d4:=T.o.c4;have d5:=T.o.c5;have d6:=T.o.c6;have d7:=T.o.c7;go_wp2_with fail;clear d0 d2 d3 d4 d5 d6 d7 q1;refine b9.o.mono ?_;rintro e w5 ⟨v5,rfl,p2,a0⟩;rw[y8.o]at p2;obtain⟨f,m2⟩:=nm' (p.x.free++p.x.obs.map (·.b));rw[m2]at p2;have o3:=kp m2;have l0:=kp (g1.o.on a0);have j9:=kp (T.o.below a0);obtain⟨A5,c5,p8,m8,p',q'⟩:=p2.sl bM;obtain⟨m,Q⟩:=nm' f.length;have C5:m≤1000000:=by
    rw[←Q,←m2,bB,cW];have:=HL.B;omega
   rw[Q]at p8;subst p8;have b6:=kp m8;have HM:=kp Q;have e':=kp (p2.sl bM);have m9:=kp (show ∀b∈f,bN p.x.order b=true from fun b g=>by
    rw[←m2]at g;rcases dF.1 g with g|g
    .exact HO.b b g
    .obtain⟨x,hx,rfl⟩:=cX.1 g;have:=e6.o.ob x hx;unfold obB at this;rw[bI]at this;exact this.2)
   clear p2 a0 m2 m8 p' q' Q;have l3:=kp (show ∀b∈f,b.o≤8∧0≤b.a∧b.a≤256 from fun b g=>by
    have:=fI HO.a (m9.o b g); omega)
   go_wp2_with fail
   go_loopw [7] (fun i wr=>∃k:Nat,k≤m∧i=.i k∧(f.take k).Pairwise bE∧Bw' w5 wr) (fun i _=>m-(intOf i).toNat)
   case atStart=>exact⟨0,by omega,rfl,by simp,aL _ _⟩
   case round=>
    obtain⟨k,C4,rfl,j2,e7⟩:=hrel;have m5:=kp j2;have o5:=kp e7;clear j2 e7
    by_cases o2:k<m
    .have g3:(k:Int)<(m:Int):=by omega
     have E:k<f.length:=by have:=HM.o; omega
     go_wp2_with fail
     go_loopw [8] (fun i wr=>∃j:Nat,j≤k∧i=.i j∧(∀y∈f.take j,bE (f[k]'E) y)∧Bw' w5 wr) (fun i _=>k-(intOf i).toNat)
     case atStart=>exact⟨0,by omega,rfl,by simp,o5.o⟩
     case round=>
      obtain⟨j,hj,rfl,b7,p0⟩:=hrel;have l5:=kp b7;have S:=kp p0;clear b7 p0
      by_cases o7:j<k
      .have g4:(j:Int)<(k:Int):=by omega
       have g5:(j:Int)<(m:Int):=by omega
       have z0:j<f.length:=by omega
       obtain⟨b',C1,e4,_,p4,_⟩:=bV (P:=prog) 2 bM (by omega) (b6.o.below S.o (aD _)) k E;obtain⟨C2,C9,l',_,q4,_⟩:=bV (P:=prog) 2 bM (by omega) (b6.o.below S.o (aD _)) j z0;subst e4
       cases l';have x0:=aP (p4 0 _ rfl);have x1:=aP (p4 1 _ rfl);have y0:=aP (q4 0 _ rfl);have y1:=aP (q4 1 _ rfl);have e2:=kp (cV z0);have d8:=l3.o _ (bK E);have e8:=l3.o _ (bK z0);have d9:=kp (show bE f[k] f[j]∨¬f.Pairwise bE by
        by_cases h:bE f[k] f[j]
        .exact .inl h
        .exact .inr fun hp=>h (List.pairwise_iff_getElem.1 hp j k z0 E o7).symm)
       generalize f[k]'E=x at *;generalize f[j]'z0=y at *;simp only[cF]at x0 y0;have K:=k'2 d8 e8;clear p4 q4 d8 e8
       cases hmt:eW x y
       .have a2:=kp hmt; clear hmt;go_wp2_with fail;refine bJ (by kernel_rfl) (by kernel_rfl) ?_
        repeat (go_big_quiet_step ((go_at_call 189; refine bU (v:=.bool false) (by rw[←a2.o]; exact uW x y _ (by have:=K.o; omega) (by have:=K.o; omega) (by have:=K.o; omega) (by have:=K.o; omega) (by have:=K.o; omega) (by have:=K.o; omega)))))
        refine bH ?_;rintro W8 ⟨⟨_,D⟩,rfl⟩;have Z:=kp (S.o.on D);clear D x0 x1 y0 y1;go_wp2_with fail;go_roundw
        case rel=>
         refine⟨j+1,by omega,by go_num,fun z R=>?_,Z.o⟩;rw[e2.o]at R;rcases dF.1 R with R|R
         .have:=l5.o z R; exact this
         .rw[bQ.1 R]; exact qW.1 a2.o
        case measure=>simp[intOf]; omega
       .have a2:=kp hmt; clear hmt;obtain rfl:r=false:=by
         rw[←I.o];refine iG.2 fun h=>?_;have j2:=(eC.1 h).apart;rw[o3.o]at j2;rcases d9.o with hf|hf
         .have:=qW.2 hf;rw[a2.o]at this; cases this
         .exact hf j2
        go_wp2_with fail;refine bJ (by kernel_rfl) (by kernel_rfl) ?_
        repeat (go_big_quiet_step ((go_at_call 189; refine bU (v:=.bool true) (by rw[←a2.o]; exact uW x y _ (by have:=K.o; omega) (by have:=K.o; omega) (by have:=K.o; omega) (by have:=K.o; omega) (by have:=K.o; omega) (by have:=K.o; omega)))))
        refine bH ?_;rintro W8 ⟨⟨_,D⟩,rfl⟩;have Z:=kp (l0.o.trans ((S.o.on D).mono l0.o.size));clear D x0 x1 y0 y1;go_wp2_with fail;go_ret;exact⟨rfl,H.o.trans (Z.o.mono J.o)⟩
      .obtain rfl:j=k:=by omega
       clear o7 hj;go_wp2_with fail;go_roundw
       case rel=>
        refine⟨j+1,by omega,by go_num,?_,S.o⟩;rw[cV E,pB];exact⟨m5.o,by simp,fun z R u hu=>by rw[bQ.1 hu]; exact (l5.o z R).symm⟩
       case measure=>simp[intOf]; omega
    .obtain rfl:k=m:=by omega
     have q9:=kp (show f.Pairwise bE by have:=m5.o; rwa [cN (by have:=HM.o; omega)]at this);clear o2;go_wp2_with fail
     go_loopw [9] (fun i wr=>∃j:Nat,j≤4∧i=.i j∧(∀t∈p.x.tops.take j,dS p.x.obs t=true)∧Bw' w5 wr) (fun i _=>4-(intOf i).toNat)
     case atStart=>exact⟨0,by omega,rfl,by simp,o5.o⟩
     case round=>
      obtain⟨j,hj,rfl,o2,p0⟩:=hrel;have z5:=kp o2;have S:=kp (l0.o.on p0);have j3:=kp p0;have U:=kp (j9.o.below p0);clear o2 p0
      by_cases m7:j<4
      .have g4:(j:Int)<4:=by omega
       have y4:j<p.x.tops.length:=m7;have f0:=aP (show wr.cell? ⟨w.heap.size,3+j,none⟩=some (.i p.x.tops[j]) by
        rw[U.o.blk.cell];rcases (show j=0∨j=1∨j=2∨j=3 by omega) with rfl|rfl|rfl|rfl<;>rfl)
       have d0:=aP U.o.c0;have d1:=aP U.o.c1;have d2:=aP U.o.c2;have d3:=aP U.o.c3;have d4:=aP U.o.c4;have d5:=aP U.o.c5;have d6:=aP U.o.c6;have d7:=aP U.o.c7;have p6:=F.o.below S.o HW.o;have e2:=kp (cV y4);have z3:=kp (bK y4);generalize p.x.tops[j]'y4=u at *;have m4:B≤wr.heap.size:=aB HW.o S.o.size;have HQ:=kp (show ∀q:Blw wr,Sl q.w B p.ov ObV.cells ps∧B≤q.w.heap.size from fun q=>⟨Sl.blw q p6.1.1 m4,aB m4 q.size⟩);have b2:=kp (show ps.length≤1000000 by have:=HL.a; omega);clear p6 m4
       cases hlu:dS p.x.obs u
       .have N:=kp hlu; clear hlu;go_wp2_with fail;refine bJ (by kernel_rfl) (by kernel_rfl) ?_
        repeat (go_big_quiet_step ((go_at_call 187; refine bU (v:=.bool false) (by rw[←N.o,F.b]; exact tN p ps u B _ (HQ.o _).1 (HQ.o _).2 b2.o))))
        refine bH ?_;rintro W8 ⟨⟨_,D⟩,rfl⟩;have Z:=kp (S.o.on D);obtain rfl:r=false:=by
         rw[←I.o];exact iG.2 fun h=>by have:=rC.2 ((eC.1 h).tops _ z3.o); rw[N.o]at this; cases this
        clear D d0 d1 d2 d3 d4 d5 d6 d7 f0;go_wp2_with fail;go_ret;exact⟨rfl,H.o.trans (Z.o.mono J.o)⟩
       .have N:=kp hlu; clear hlu;go_wp2_with fail;refine bJ (by kernel_rfl) (by kernel_rfl) ?_
        repeat (go_big_quiet_step ((go_at_call 187; refine bU (v:=.bool true) (by rw[←N.o,F.b]; exact tN p ps u B _ (HQ.o _).1 (HQ.o _).2 b2.o))))
        refine bH ?_;rintro W8 ⟨⟨_,D⟩,rfl⟩;have Z:=kp (j3.o.on D);clear D d0 d1 d2 d3 d4 d5 d6 d7 f0;go_wp2_with fail;go_roundw
        case rel=>
         refine⟨j+1,by omega,by go_num,fun t l=>?_,Z.o⟩;rw[e2.o]at l;rcases dF.1 l with l|l
         .exact z5.o t l
         .rw[bQ.1 l]; exact N.o
        case measure=>simp[intOf]; omega
      .obtain rfl:j=4:=by omega
       have HE:=kp (Sf HF.o HN.o e6.o (by rw[o3.o]; exact q9.o) (fun t l=>z5.o t (by rw[cN (by show p.x.tops.length≤4; exact aD 4)]; exact l)));have d0:=aP U.o.c0;have d':=kp (show ∀q:Blw wr,Sl q.w w5.heap.size (.slice A5 k c5) Bk.cells f from fun q=>Sl.blw q (e'.o.below j3.o (aD _)) j3.o.size);have z9:=kp (show p.x.order≤60 by have:=eF HO.a; omega);clear hj m7;go_wp2_with fail;refine bJ (by kernel_rfl) (by kernel_rfl) ?_
       repeat (go_big_quiet_step (first |(go_at_call 190; refine dG (Qj (.slice A5 k c5) w5.heap.size f _ (d'.o _) (fun b g=>(l3.o b g).1) (by have:=HM.o; omega)))|(go_at_call 183; refine dG (kQ _ _ z9.o))))
       refine bH ?_;rintro W8 ⟨⟨_,D⟩,rfl⟩;have Z:=kp (S.o.on D);clear D d0;go_wp2_with fail;go_ret;refine⟨?_,H.o.trans (Z.o.mono J.o)⟩;rw[←I.o,HE.o,o3.o];exact mK (bG Value.bool (by simp[BEq.beq]))
end
end Go.Proofs.YtdoopoapbffpbaaGreat
