import Derived.Test.YtdoopoapbffpbaaGreatZ01
import Derived.Test.YtdoopoapbffpbaaGreatZ03
import Derived.BigQuiet
namespace Go.Proofs.YtdoopoapbffpbaaGreat
open Go.RowKit Go.Proofs.Tryz
set_option maxRecDepth 100000
set_option maxHeartbeats 12800000
set_option linter.unusedVariables false
set_option linter.unusedSimpArgs false
section
theorem iT(o:Int)(w:World):Calls prog 174 #[.i o] w fun e f=>e=.returned (.i (aQ o))∧f=w:=by
 by_cases b:0≤o
 .by_cases c:o≤8
  .rcases Bf b c with rfl|rfl|rfl|rfl|rfl|rfl|rfl|rfl|rfl
   all_goals
    go_enter func174,ntmps174;go_wp2_with fail;go_ret;exact⟨rfl,rfl⟩
  .have a:aQ o=0:=by unfold aQ; rw[aC (by omega)]
   rw[a];have d:decide (o<0)=false:=by simp; omega
   have b8:decide (8<o)=true:=by simp; omega
   clear a c;go_enter func174,ntmps174;go_wp2_with fail;go_ret;exact⟨rfl,rfl⟩
 .have a:aQ o=0:=by unfold aQ; rw[aC (by omega)]
  rw[a];have d:decide (o<0)=true:=by simp; omega
  clear a b;go_enter func174,ntmps174;go_wp2_with fail;go_ret;exact⟨rfl,rfl⟩
theorem kQ(o:Int)(w:World)(h:o≤60):Calls prog 183 #[.i o] w fun e A=>e=.returned (.i (aJ o))∧A=w:=by
 obtain⟨m,c⟩:∃m:Nat,o.toNat=m:=⟨_,rfl⟩
 have f:∀k:Nat,k≤60→(1:Int)≤2 ^ k∧(2:Int) ^ k≤1152921504606846976:=fun k j=>by
  have B:(1:Nat)≤2 ^ k:=uD;have C:(2:Nat) ^ k≤2 ^ 60:=oX (by omega) j;have e:((2 ^ k:Nat):Int)=2 ^ k:=by simp
  omega
 have d:=kp f; clear f;have q:=kp (show aJ o=2 ^ m by unfold aJ; rw[c]);go_enter func183,ntmps183;go_wp2_with fail
 go_loop [3,4] (fun n i=>∃k:Nat,k≤m∧i=.i k∧∃z:Int,z=2 ^ k∧n=.i z) (fun _ i=>m-(intOf i).toNat)
 case atStart=>exact⟨0,by omega,rfl,1,rfl,rfl⟩
 case round=>
  obtain⟨k,j,rfl,z,a,rfl⟩:=hrel
  by_cases s:k<m
  .have g:(k:Int)<o:=by omega
   have x:=d.o k (by omega);have y:=d.o (k+1) (by omega);have b:(2:Int) ^ (k+1)=2*2 ^ k:=by rw[Int.pow_succ]; omega
   rw[b,←a]at y;rw[←a]at x;have l:=kp (show 2*z=2 ^ (k+1) by rw[b,a]);clear b a c;go_wp2_with fail
   go_round
   case rel=>exact⟨k+1,by omega,by go_num,2*z,l.o,by go_num⟩
   case measure=>simp[intOf]; omega
  .have g:decide ((k:Int)<o)=false:=by simp; omega
   have r:=kp a;have p:=kp (show k=m by omega);clear a c s;go_wp2_with fail;go_ret;exact⟨by rw[q.o,r.o,p.o]; rfl,rfl⟩
theorem oK:(∀(o:Int)(w:World),Calls prog 215 #[.i o] w fun e b=>e=.returned (.bool (cP o))∧b=w)∧(∀(o:Int)(w:World),Calls prog 128 #[.i o] w fun e b=>e=.returned (.bool (cP o))∧b=w):=by
 refine⟨?q0,?q1⟩
 all_goals
  intro o w;unfold cP;rcases tB (decide (3≤o)) (decide (o≤8)) with⟨c,a⟩|⟨c,d,a⟩|⟨c,d,a⟩
  all_goals
   rw[a];clear a
   first |go_enter func215,ntmps215|go_enter func128,ntmps128
   go_wp2_with fail;go_ret;exact⟨rfl,rfl⟩
theorem Gj(o:Int)(b:Bk)(w:World)(j:cP o=true):Calls prog 219 #[.i o,.agg #[.i b.a,.i b.o]] w fun e l=>e=.returned (.bool (bN o b))∧Bw' w l:=by
 obtain⟨n,p⟩:=tC w b 88;have h:=kp (ba' w (.cells #[.i b.a,.i b.o] 88));have q:=gF o;have r:=gF b.o;have k:=kp j; clear j;unfold bN;rcases Fu (decide (0≤b.o)) (decide (b.o≤o)) (decide (0≤b.a)) (decide (b.a≤aQ o-aQ b.o)) (decide (b.a % aQ b.o=0)) with⟨d,c⟩|⟨d,f,c⟩|⟨d,f,g,c⟩|⟨d,f,g,i,c⟩|⟨d,f,g,i,c⟩
 all_goals
  rw[c];clear c;go_enter func219,ntmps219;go_wp2_with fail
  go_quiet (first |(go_at_call 174; refine Calls.quiet_of_same (iT _ _)))
  go_wp2_with fail;go_ret
 iterate 4 exact⟨rfl,gG h.o _⟩
 refine⟨mK (bG Value.bool (Pg ?_ ?_ ?_ ?_)),gG h.o _⟩
 all_goals
  have m:=eF k.o;simp only[bP]at d f g i;omega
theorem Gk(o:Int)(b:Bk)(w:World)(d:cP o=true)(c:bN o b=true):Calls prog 220 #[.agg #[.i b.a,.i b.o]] w fun e f=>e=.returned (.agg (aY b).cells.toArray)∧Bw' w f:=by
 obtain⟨j,k⟩:=tC w b 88;have g:=kp (ba' w (.cells #[.i b.a,.i b.o] 88));have l:=gF b.o;have i:=kp (fI d c); clear d c;go_enter func220,ntmps220;go_wp2_with fail
 go_region_with (first |(go_at_call 174; refine (iT _ _).mono ?_; rintro e f ⟨rfl,rfl⟩))
 all_goals
  go_wp2_with fail;refine aU (results_cell_row rfl _ _ (w.heap.size+1) 88 #[.i (bits BinOp.xor IntKind.i64 b.a (aQ b.o)),.i b.o] (0,0) _ rfl ?_ Aj rfl (by kernel_rfl)) rfl ⟨mK (bG Value.agg ?_),bR (g.o.alloc (by simp) _)⟩
  .have h:=Blk.new (w.alloc (.cells #[.i b.a,.i b.o] 88)) 88 [.i (bits BinOp.xor IntKind.i64 b.a (aQ b.o)),.i b.o];rw[World.size_alloc]at h;exact h
  .have h:=i.o;rw[Pi h.2.2.2.1 h.2.2.2.2.1 h.1 (by omega) h.2.2.2.2.2.2.1];rfl
theorem tD(o:Int)(b:Bk)(w:World)(r:cP o=true):Calls prog 186 #[.i o,.agg #[.i b.a,.i b.o]] w fun e C=>e=.returned (.bool (bN o b))∧Bw' w C:=by
 obtain⟨s,x⟩:=tC w b 88;have f:=kp (ba' w (.cells #[.i b.a,.i b.o] 88));have H:=eF r;have k:=fD (o:=o) (by omega) (by omega);have D:=gF o;clear r;unfold bN;rcases Fu (decide (0≤b.o)) (decide (b.o≤o)) (decide (0≤b.a)) (decide (b.a≤aQ o-aQ b.o)) (decide (b.a % aQ b.o=0)) with⟨c,h⟩|⟨c,g,h⟩|⟨c,g,j,h⟩|⟨c,g,j,q,h⟩|⟨c,g,j,q,h⟩
 all_goals
  rw[h];clear h;simp only[bP,decide_eq_false_iff_not]at *
  try
   have l:=fD (o:=b.o) (by omega) (by omega);have E:=wW (o:=b.o) (by omega) (by omega);have F:=gF b.o;rw[l]at E F;simp only[k,l]at *
  try rw[k]at D
  try clear k
  try clear l
 .have i:decide (b.o<0)=true:=by simp; omega
  clear c;go_enter func186,Am;go_wp2_with fail
  go_quiet (fail)
  go_wp2_with fail;go_ret;exact⟨rfl,gG f.o _⟩
 .have i:decide (b.o<0)=false:=by simp; omega
  have m:decide (o<b.o)=true:=by simp; omega
  clear c g;go_enter func186,Am;go_wp2_with fail
  go_quiet (fail)
  go_wp2_with fail;go_ret;exact⟨rfl,gG f.o _⟩
 .have i:decide (b.o<0)=false:=by simp; omega
  have m:decide (o<b.o)=false:=by simp; omega
  have n:decide (b.a<0)=true:=by simp; omega
  clear c g j;go_enter func186,Am;go_wp2_with fail
  go_quiet (fail)
  go_wp2_with fail;go_ret;exact⟨rfl,gG f.o _⟩
 .have i:decide (b.o<0)=false:=by simp; omega
  have m:decide (o<b.o)=false:=by simp; omega
  have n:decide (b.a<0)=false:=by simp; omega
  have A:decide (aJ o-aJ b.o<b.a)=true:=by simp; omega
  have d:=kp (show o≤60∧b.o≤60 from by omega);clear c g j q;go_enter func186,Am;go_wp2_with fail
  go_quiet (first |(go_at_call 183; refine Calls.quiet_of_same (kQ _ _ (by first |exact d.a|exact d.B))))
  go_wp2_with fail;go_ret;exact⟨rfl,gG f.o _⟩
 .have i:decide (b.o<0)=false:=by simp; omega
  have m:decide (o<b.o)=false:=by simp; omega
  have n:decide (b.a<0)=false:=by simp; omega
  have A:decide (aJ o-aJ b.o<b.a)=false:=by simp; omega
  have d:=kp (show o≤60∧b.o≤60 from by omega);have G:b.a.tmod (aJ b.o)=b.a % aJ b.o:=zM (by omega);have p:(b.a % aJ b.o==0)=decide (b.a % aJ b.o=0):=rfl;have y:=kp p;clear p;go_enter func186,Am;go_wp2_with fail
  go_quiet (first |(go_at_call 183; refine Calls.quiet_of_same (kQ _ _ (by first |exact d.a|exact d.B))))
  go_wp2_with fail;have I:((w.alloc (.cells #[.i b.a,.i b.o] 88)).drewN nq).cell? ⟨w.heap.size,0,none⟩=some (.i b.a):=s;have J:((w.alloc (.cells #[.i b.a,.i b.o] 88)).drewN nq).cell? ⟨w.heap.size,1,none⟩=some (.i b.o):=x;have z:=kp (gG f.o nq);clear s x f;generalize (w.alloc (.cells #[.i b.a,.i b.o] 88)).drewN nq=W at *
  go_quiet (first |(go_at_call 183; refine Calls.quiet_of_same (kQ _ _ (by first |exact d.a|exact d.B))))
  go_wp2_with fail;go_ret;exact⟨mK (bG Value.bool y.o),gG z.o _⟩
end
section
theorem Gl(w:World)(o:Obj)(t:TypeId)(a:List Value):Blk ((w.alloc o).alloc (.cells a.toArray t)) (w.heap.size+1) t a:=by
 have h:=Blk.new (w.alloc o) t a
 rwa [World.size_alloc]at h
theorem xB(w:World)(x y:Bk)(t:TypeId):∃W:World,W=(w.alloc (.cells #[.i x.a,.i x.o] t)).alloc (.cells #[.i y.a,.i y.o] t)∧
  W.cell? ⟨w.heap.size,0,none⟩=some (.i x.a)∧W.cell? ⟨w.heap.size,1,none⟩=some (.i x.o)∧
  W.cell? ⟨w.heap.size+1,0,none⟩=some (.i y.a)∧W.cell? ⟨w.heap.size+1,1,none⟩=some (.i y.o)∧Bw' w W:=by
 have c:=(Blk.new w t x.cells).alloc (.cells y.cells.toArray t);have b:=Blk.new (w.alloc (.cells x.cells.toArray t)) t y.cells;rw[World.size_alloc]at b;exact⟨_,rfl,c.cell 0,c.cell 1,b.cell 0,b.cell 1,(ba' w _).alloc (by simp) _⟩
theorem uW(x y:Bk)(w:World)(h:x.o≤60)(i:y.o≤60)(b: -1000000000000000000≤x.a)(c:x.a≤1000000000000000000)(q: -1000000000000000000≤y.a)(r:y.a≤1000000000000000000):
  Calls prog 189 #[.agg #[.i x.a,.i x.o],.agg #[.i y.a,.i y.o]] w fun e n=>e=.returned (.bool (eW x y))∧Bw' w n:=by
 obtain⟨W,f,z,A,B,C,m⟩:=xB w x y 88;have p:=kp f;have j:=kp m;have k:=kp h;have l:=kp i;have g:∀o:Int,o≤60→1≤aJ o∧aJ o≤1152921504606846976:=fun o s=>by
  unfold aJ;have b:(1:Nat)≤2 ^ o.toNat:=uD;have c:(2:Nat) ^ o.toNat≤2 ^ 60:=oX (by omega) (by omega);have e:((2 ^ o.toNat:Nat):Int)=2 ^ o.toNat:=by simp
  omega
 have D:=g x.o h;have E:=g y.o i;unfold eW;rcases tB (decide (x.a<y.a+aJ y.o)) (decide (y.a<x.a+aJ x.o)) with⟨b,d⟩|⟨b,c,d⟩|⟨b,c,d⟩
 all_goals
  rw[d];go_enter func189,ntmps189;go_wp2_with fail;simp only[←f]
  go_quiet (first |(go_at_call 183; refine Calls.quiet_of_same (kQ _ _ (by first |exact k.o|exact l.o))))
  go_wp2_with fail;go_ret;exact⟨rfl,gG j.o _⟩
theorem Gm(o:Int)(b:Bk)(w:World)(y:cP o=true)(c:bN o b=true):Calls prog 225 #[.agg #[.i b.a,.i b.o]] w fun e g=>e=.returned (.agg (aY b).cells.toArray)∧Bw' w g:=by
 have H:=(Blk.new w 88 b.cells).cell 0;have I:=(Blk.new w 88 b.cells).cell 1;obtain⟨m,C,D,n,E,p,q,r,s⟩:=fI y c;have h:=kp (fD m (by omega)).symm;have A:=kp ((ba' w (.cells b.cells.toArray 88)).alloc (by simp) (.cells #[.i 0,.i 0] 88));have B:=kp (Blk.new (w.alloc (.cells b.cells.toArray 88)) 88 [.i 0,.i 0]);have j:=kp (show b.o≤60 by omega);obtain⟨z,f⟩:=nm' (aQ b.o);rw[f]at p q r s;have F:aQ o≤256:=(gF o).2;have l:aY b=⟨if b.a % (2*z)=0 then b.a+z else b.a-z,b.o⟩:=by unfold aY; rw[f]
 have i:=kp l;have k:=kp f;have G:b.a.tmod (2*z)=b.a % (2*z):=zM n
 by_cases c:b.a % (2*z)=0
 .have x:(b.a % (2*z)==0)=true:=by simp[c]
  have d:=kp c; clear c;go_enter func225,ntmps225;go_wp2_with (go_at_call 183; refine (kQ _ _ j.o).mono ?_; rintro e g ⟨rfl,rfl⟩; rw[h.o,k.o]);refine aU (results_cell_row rfl _ _ (w.heap.size+1) 88 _ (0,0) _ rfl (Gl w _ _ [.i (b.a+z),.i b.o]) Aj rfl (by kernel_rfl)) rfl ⟨mK (bG Value.agg ?_),(ba' w _).alloc (by simp) _⟩;rw[i.o,aE d.o];rfl
 .have x:(b.a % (2*z)==0)=false:=by simp[c]
  have d:=kp c; clear c;go_enter func225,ntmps225;go_wp2_with (go_at_call 183; refine (kQ _ _ j.o).mono ?_; rintro e g ⟨rfl,rfl⟩; rw[h.o,k.o]);refine aU (results_cell_row rfl _ _ (w.heap.size+1) 88 _ (0,0) _ rfl (Gl w _ _ [.i (b.a-z),.i b.o]) Aj rfl (by kernel_rfl)) rfl ⟨mK (bG Value.agg ?_),(ba' w _).alloc (by simp) _⟩;rw[i.o,aC d.o];rfl
theorem Br{o:Int}(h:o≤8):1≤aJ o∧aJ o≤256:=by
 unfold aJ;have a:(1:Nat)≤2 ^ o.toNat:=uD;have b:(2:Nat) ^ o.toNat≤2 ^ 8:=oX (by omega) (by omega);have e:((2 ^ o.toNat:Nat):Int)=2 ^ o.toNat:=by simp
 omega
theorem Gn(l:List Bk)(b:Bk):bW (l++[b])=bW l+aJ b.o:=by simp[bW]
theorem Bs:∀(l:List Bk),(∀b∈l,b.o≤8)→0≤bW l∧bW l≤256*l.length
 |[],_=>⟨iQ _,iQ _⟩
 |b::l,h=>by
  have c:=Bs l fun x a=>h x (by simp[a]);have d:=Br (h b (by simp));have e:bW (b::l)=aJ b.o+bW l:=by simp[bW]
  rw[e,eV];omega
theorem Qj(v:Value)(B:Nat)(l:List Bk)(w:World)(M:Sl w B v Bk.cells l)(m:∀b∈l,b.o≤8)(L:l.length≤1000000):
  Calls prog 190 #[v] w fun e r=>e=.returned (.i (bW l))∧r=w:=by
 obtain⟨A,c,rfl,p,h,K⟩:=M;obtain⟨n,j⟩:=nm' l.length;rw[j]at h L ⊢;have H:=k'3 p j m; clear p m K h;go_enter func190,ntmps190;go_wp2_with fail
 go_loop [3,4] (fun s i=>∃k:Nat,k≤n∧i=.i k∧∃z:Int,z=bW (l.take k)∧s=.i z) (fun _ i=>n-(intOf i).toNat)
 case atStart=>exact⟨0,by omega,rfl,0,rfl,rfl⟩
 case round=>
  obtain⟨k,Q,rfl,z,f,rfl⟩:=hrel
  by_cases R:k<n
  .have O:(k:Int)<(n:Int):=by omega
   have d:k<l.length:=by have:=H.b; omega
   obtain⟨b,T,G,_,J,_⟩:=bV (P:=prog) 2 bM (by omega) H.a k d;subst G;have U:=J 1 _ rfl;have I:=H.C _ (bK d);have q:bW (l.take (k+1))=bW (l.take k)+aJ (l[k]'d).o:=by rw[cV d,Gn]
   generalize l[k]'d=x at *;have g:=Bs (l.take k) fun y N=>H.C y (qN N);have S:=Br I;rw[cZ,oC (by omega)]at g;rw[←f]at q g;have E:=kp q;have D:=kp (show x.o≤60 by omega);go_wp2_with (go_at_call 183; refine (kQ _ _ D.o).mono ?_; rintro e r ⟨rfl,rfl⟩)
   go_round
   case rel=>exact⟨k+1,by omega,by go_num,z+aJ x.o,E.o.symm,by go_num⟩
   case measure=>simp[intOf]; omega
  .obtain rfl:k=n:=by omega
   rw[cN (by have:=H.b; omega)]at f;have F:=kp f; clear f;go_wp2_with fail;go_ret;exact⟨by rw[←F.o]; rfl,rfl⟩
theorem pM:(∀(x y:Bk)(w:World),Sem.run prog (binOp .neq 88 (.agg x.cells.toArray) (.agg y.cells.toArray)) w=.ok (.bool (!decide (x=y))) w)∧(∀(x y:Bk)(w:World),Sem.run prog (binOp .eql 88 (.agg x.cells.toArray) (.agg y.cells.toArray)) w=.ok (.bool (decide (x=y))) w):=by
 refine⟨?q0,?q1⟩
 case' q0=>have e:=True.intro
 all_goals
  intro x y w;obtain⟨f,g⟩:=x;obtain⟨h,i⟩:=y;simp only[Bk.cells,Bk.mk.injEq];have a:prog.underlying 88=some (.struct (prog.fieldsOf 88)):=by kernel_rfl
  have b:prog.stoodInHeld 88=false:=by kernel_rfl
  first
  |(have:=e; rw[run_neq_struct,show (10000:Nat)=9999+1 from rfl,run_equalIn_agg w 9999 _ _ _ a b])
  |rw[run_eql_struct,show (10000:Nat)=9999+1 from rfl,run_equalIn_agg w 9999 _ _ _ a b]
  simp only[Program.fieldsOf,Aj]
  go_simp
  by_cases c:f=h<;>by_cases d:g=i<;>simp[c,d]
end
section
attribute [-go_sem] run_eql_struct run_neq_struct
def okB(o E:Int)(L b:Bk):Bool:=bN o b&&(decide (E≤b.a)&&(!(decide (b.o<o)&&(decide (L=aY b)&&decide (0≤L.a)))))
def lW(o:Int):Int→Bk→List Bk→Bool
 |_,_,[]=>true
 |E,L,b::l=>okB o E L b&&lW o (b.a+aQ b.o) b l
def gL(o:Int)(l:List Bk):Bool:=cP o&&lW o 0 ⟨-1,0⟩ l
def eN(e:Int)(b:Bool):Int:=if b=true then 0 else e
theorem Qk(o E:Int)(L b:Bk):(bN o b=false∧okB o E L b=false)∨(bN o b=true∧decide (b.a<E)=true∧okB o E L b=false)∨
  (bN o b=true∧decide (b.a<E)=false∧decide (b.o<o)=false∧okB o E L b=true)∨
  (bN o b=true∧decide (b.a<E)=false∧decide (b.o<o)=true∧decide (L=aY b)=false∧okB o E L b=true)∨
  (bN o b=true∧decide (b.a<E)=false∧decide (b.o<o)=true∧decide (L=aY b)=true∧decide (0≤L.a)=false∧okB o E L b=true)∨
  (bN o b=true∧decide (b.a<E)=false∧decide (b.o<o)=true∧decide (L=aY b)=true∧decide (0≤L.a)=true∧okB o E L b=false):=by
 have h:decide (E≤b.a)= !decide (b.a<E):=by
  by_cases h:b.a<E
  .simp[h]
  .simp[h]; omega
 unfold okB;rw[h]
 cases bN o b<;>cases decide (b.a<E)<;>cases decide (b.o<o)<;>cases decide (L=aY b)<;>cases decide (0≤L.a)<;>simp
theorem qU(o:Int)(v:Value)(B:Nat)(l:List Bk)(w:World)(hv:Sl w B v Bk.cells l)(hB:B≤w.heap.size)(hn:l.length≤1000000):
  Calls prog 172 #[.i o,v] w fun e Q=>e=.returned (.i (eN 1 (gL o l)))∧Bw' w Q:=by
 obtain⟨A,c,rfl,hr,hc,d⟩:=hv;obtain⟨n,Z⟩:=nm' l.length;rw[Z]at hc hn ⊢;obtain⟨r,h⟩:=nm' (gL o l);rw[h];unfold gL at h
 cases hro:cP o
 .rw[hro]at h;obtain rfl:r=false:=h.symm;have f:=kp hro;go_enter func172,ntmps172;go_wp2_with fail;refine mb' (oK.1 o w) fun Q O=>?_;obtain rfl:=O.symm;rw[f.o];go_wp2_with fail;go_ret;exact⟨rfl,aL _ _⟩
 .rw[hro,jF]at h;have f:=kp hro;have H8:=kp (eF hro);have b0:=kp hr;have T:=kp Z;have HR:=kp h;have HB:=kp (ba' w (.cells #[.i (-1),.i 0] 88));have HK:=kp (Blk.new w 88 [.i (-1),.i 0]);go_enter func172,ntmps172;go_wp2_with fail;refine mb' (oK.1 o w) fun Q O=>?_;obtain rfl:=O.symm;rw[f.o];go_wp2_with fail
  go_loopw [5,15] (fun e i wr=>∃k:Nat,k≤n∧i=.i k∧∃(E:Int)(L:Bk),e=.i E∧lW o E L (l.drop k)=r∧Blk wr w.heap.size 88 [.i L.a,.i L.o]∧Bw' w wr) (fun _ i _=>n-(intOf i).toNat)
  case atStart=>exact⟨0,by omega,rfl,0,⟨-1,0⟩,rfl,HR.o,HK.o,HB.o⟩
  case round=>
   obtain⟨k,hk,rfl,E,L,rfl,hp,hK,e0⟩:=hrel;have j:=kp hp;have S:=kp hK;have q:=kp e0
   by_cases o0:k<n
   .have g3:(k:Int)<(n:Int):=by omega
    have N:k<l.length:=by have:=T.o; omega
    obtain⟨b,y0,hA,m0,Y,_⟩:=bV (P:=prog) 2 bM (by omega) (b0.o.below q.o hB) k N;subst hA;have q0:=Y 0 _ rfl;have q1:=Y 1 _ rfl;have s:=kp (fG N);generalize l[k]'N=x at *;simp only[cF]at q0;have p0:=kp (q.o.size);obtain⟨W2,J⟩:=nm' (wr.alloc (.cells #[.i x.a,.i x.o] 88));have G:=Blk.new wr 88 [.i x.a,.i x.o];have H:=S.o.alloc (.cells #[.i x.a,.i x.o] 88);rw[J]at G H;have K:=ba' wr (.cells #[.i x.a,.i x.o] 88);rw[J]at K;have z:=k'4 G H K J;have d0:=q.o.on K;have f0:=aP (G.cell 0);have f1:=aP (G.cell 1);have l0:=aP (H.cell 0);have l1:=aP (H.cell 1);rcases Qk o E L x with⟨d,g⟩|⟨d,D,g⟩|⟨d,D,I,g⟩|⟨d,D,I,F,g⟩|⟨d,D,I,F,h4,g⟩|⟨d,D,I,F,h4,g⟩
    all_goals
     have U:=kp d;have y:=kp g
     try have g0:∀w,Sem.run prog (binOp .eql 88 (.agg #[.i L.a,.i L.o]) (.agg (aY x).cells.toArray)) w=.ok (.bool (decide (L=aY x))) w:=fun w=>pM.2 L (aY x) w
     try rw[F]at g0
     try clear F
     go_wp2_with fail;refine bJ (by kernel_rfl) (by kernel_rfl) ?_
     repeat (go_big_quiet_step (first |(go_at_call 219; refine bU (Gj o x _ f.o))|(go_at_call 220; refine bU (Gk o x _ f.o U.o))))
     refine bH ?_;rintro _ ⟨⟨W3,M⟩,rfl⟩;have C:=kp (d0.on M);have V:=kp (z.b.below M (by have:=z.c.size; have:=S.o.lt; omega));have W:=kp (z.a.below M z.a.lt)
    .obtain rfl:r=false:=by rw[←j.o,s.o]; simp[lW,y.o]
     go_wp2_with fail;go_ret;exact⟨rfl,C.o⟩
    .obtain rfl:r=false:=by rw[←j.o,s.o]; simp[lW,y.o]
     go_wp2_with fail;go_ret;exact⟨rfl,C.o⟩
    iterate 3
     have a0:=kp (show lW o (x.a+aQ x.o) x (l.drop (k+1))=r by rw[←j.o,s.o]; simp[lW,y.o]);obtain⟨m1,m2,m3,m4,m5,m6,m7,m8,m9⟩:=fI f.o U.o;have f0:=aP (W.o.cell 0);have f1:=aP (W.o.cell 1);go_wp2_with fail;refine uT 8 (by kernel_rfl) (by kernel_rfl) ?_;simp only[qK,mZ,dO,dP]
     repeat (go_big_quiet_step (first |(go_at_call 174; refine dG (iT _ _))))
     refine bH ?_;rintro _ ⟨⟨W4,X⟩,rfl⟩;have m:=V.o.below X V.o.lt;have c0:=m.cell 0;have c1:=m.cell 1;have z0:=m.frozen 0;have z1:=m.frozen 1;simp only[aG,aK]at c0 c1;have R:=k'2 ((m.setCell 0 (.i x.a)).setCell 1 (.i x.o)) (C.o.on X);go_wp2_with fail;go_roundw
     case rel=>exact⟨k+1,by omega,by go_num,x.a+aQ x.o,x,by go_num,a0.o,R.a,(R.B.setCell (p:=⟨w.heap.size,0,none⟩) (aD _) _).setCell (p:=⟨w.heap.size,1,none⟩) (aD _) _⟩
     case measure=>simp[intOf]; omega
    .obtain rfl:r=false:=by rw[←j.o,s.o]; simp[lW,y.o]
     go_wp2_with fail;go_ret;exact⟨rfl,C.o⟩
   .obtain rfl:k=n:=by omega
    have j0:r=true:=by
     rw[←j.o,gS (by have:=T.o; omega)];rfl
    subst j0;go_wp2_with fail;go_ret;exact⟨rfl,q.o⟩
end
section
attribute [-go_sem] run_eql_struct run_neq_struct
def kR(o:Int)(b x:Bk):Bool:= !decide (b.a≤x.a)&&(!eW b x&& !(decide (b.o<o)&&decide (aY b=x)))
def lC(o:Int):List Bk→List Bk→Bool
 |_,[]=>true
 |pre,b::l=>bN o b&&(pre.all (kR o b)&&lC o (pre++[b]) l)
def tE(o:Int)(l:List Bk):Bool:=cP o&&(decide ((l.length:Int)≤aJ o)&&lC o [] l)
theorem Ql(o:Int)(b x:Bk):(decide (b.a≤x.a)=true∧kR o b x=false)∨(decide (b.a≤x.a)=false∧eW b x=true∧kR o b x=false)∨
  (decide (b.a≤x.a)=false∧eW b x=false∧decide (b.o<o)=false∧kR o b x=true)∨
  (decide (b.a≤x.a)=false∧eW b x=false∧decide (b.o<o)=true∧decide (aY b=x)=false∧kR o b x=true)∨
  (decide (b.a≤x.a)=false∧eW b x=false∧decide (b.o<o)=true∧decide (aY b=x)=true∧kR o b x=false):=by
 unfold kR
 cases decide (b.a≤x.a)<;>cases eW b x<;>cases decide (b.o<o)<;>cases decide (aY b=x)<;>simp
theorem Bt(o:Int)(v:Value)(B:Nat)(l:List Bk)(w:World)(hv:Sl w B v Bk.cells l)(R:B≤w.heap.size)(hn:l.length≤1000000):
  Calls prog 185 #[.i o,v] w fun e s=>e=.returned (.bool (tE o l))∧Bw' w s:=by
 obtain⟨A,c,rfl,hr,hc,hm⟩:=hv;obtain⟨n,U⟩:=nm' l.length;rw[U]at hc hn ⊢;obtain⟨r,d⟩:=nm' (tE o l);rw[d];unfold tE at d;rw[U]at d
 cases hro:cP o
 .rw[hro]at d;obtain rfl:r=false:=d.symm;have f:=kp hro;go_enter func185,ntmps185;go_wp2_with fail;refine mb' (oK.2 o w) fun s g=>?_;obtain rfl:=g.symm;rw[f.o];go_wp2_with fail;go_ret;exact⟨rfl,aL _ _⟩
 .rw[hro,jF]at d;have f:=kp hro;have H8:=eF hro;have L:=kp hr;have V:=kp U;have e2:=Br (show o≤8 by omega);have W:=kp (show o≤60 by omega)
  cases hlen:decide ((n:Int)≤aJ o)
  .have e1:decide (aJ o<(n:Int))=true:=by simp only[decide_eq_false_iff_not,bP]at *; omega
   rw[hlen]at d;obtain rfl:r=false:=d.symm;go_enter func185,ntmps185;go_wp2_with fail;refine mb' (oK.2 o w) fun s g=>?_;obtain rfl:=g.symm;rw[f.o];go_wp2_with fail;refine mb' (kQ o w W.o) fun s g=>?_;obtain rfl:=g.symm;go_wp2_with fail;go_ret;exact⟨rfl,aL _ _⟩
  .have e1:decide (aJ o<(n:Int))=false:=by simp only[decide_eq_false_iff_not,bP]at *; omega
   rw[hlen,jF]at d;have HR:=kp d;go_enter func185,ntmps185;go_wp2_with fail;refine mb' (oK.2 o w) fun s g=>?_;obtain rfl:=g.symm;rw[f.o];go_wp2_with fail;refine mb' (kQ o w W.o) fun s g=>?_;obtain rfl:=g.symm;go_wp2_with fail
   go_loopw [5] (fun i wr=>∃k:Nat,k≤n∧i=.i k∧lC o (l.take k) (l.drop k)=r∧(∀y∈l.take k,bN o y=true)∧Bw' w wr) (fun i _=>n-(intOf i).toNat)
   case atStart=>exact⟨0,by omega,rfl,HR.o,by simp,aL _ _⟩
   case round=>
    obtain⟨k,hk,rfl,hp,g1,b1⟩:=hrel;have K:=kp hp;have Y:=kp g1;have G:=kp b1
    by_cases d2:k<n
    .have g3:(k:Int)<(n:Int):=by omega
     have m:k<l.length:=by have:=V.o; omega
     obtain⟨b,g2,hA,a2,a0,_⟩:=bV (P:=prog) 2 bM (by omega) (L.o.below G.o R) k m;subst hA;have q0:=a0 0 _ rfl;have q1:=a0 1 _ rfl;have J:=kp (fG m);have X:=kp (cV m);generalize l[k]'m=x at *;simp only[cF]at q0
     cases hmx:bN o x
     .have h:=kp hmx; clear hmx;obtain rfl:r=false:=by rw[←K.o,J.o]; simp[lC,h.o]
      go_wp2_with fail;refine mb' (tD o x _ f.o) fun w2 I=>?_;rw[h.o];go_wp2_with fail;go_ret;exact⟨rfl,G.o.on I⟩
     .have h:=kp hmx; clear hmx;go_wp2_with fail;refine mb' (tD o x _ f.o) fun w2 I=>?_;rw[h.o];have j0:=kp (G.o.on I); clear I q0 q1;have l0:=kp (show ((l.take k).all (kR o x)&&lC o (l.take (k+1)) (l.drop (k+1)))=r by rw[←K.o,J.o,X.o]; simp[lC,h.o]);go_wp2_with fail
      go_loopw [6] (fun i wr=>∃j:Nat,j≤k∧i=.i j∧((((l.take k).drop j).all (kR o x)&&lC o (l.take (k+1)) (l.drop (k+1)))=r)∧Bw' w wr) (fun i _=>k-(intOf i).toNat)
      case atStart=>exact⟨0,by omega,rfl,l0.o,j0.o⟩
      case round=>
       obtain⟨j,hj,rfl,j1,a1⟩:=hrel;have p:=kp j1;have F:=kp a1
       by_cases b2:j<k
       .have g4:(j:Int)<(k:Int):=by omega
        have g5:(j:Int)<(n:Int):=by omega
        have T:j<l.length:=by omega
        obtain⟨b',j2,o0,_,S,_⟩:=bV (P:=prog) 2 bM (by omega) (L.o.below F.o R) k m;have e0:=fG m;have m1:l[k]'m=x:=by rw[J.o]at e0; exact (List.cons.inj e0).1.symm
        rw[m1]at S;obtain⟨z1,l2,p0,_,b0,_⟩:=bV (P:=prog) 2 bM (by omega) (L.o.below F.o R) j T
        cases o0
        cases p0;have x0:=aP (S 0 _ rfl);have x1:=aP (S 1 _ rfl);have y0:=aP (b0 0 _ rfl);have y1:=aP (b0 1 _ rfl);have g0:j<(l.take k).length:=by rw[cZ]; omega
        have d0:=fG g0;rw[Fb]at d0;have o1:l[j]'T∈l.take k:=by
         have:=bK g0
         rwa [Fb]at this
        have p1:=Y.o _ o1;generalize l[j]'T=y at *;simp only[cF]at x0 y0;have C:=kp d0;have N:=kp (fI f.o p1);have M:=kp (fI f.o h.o);rcases Ql o x y with⟨H,E⟩|⟨H,O,E⟩|⟨H,O,Z,E⟩|⟨H,O,Z,Q,E⟩|⟨H,O,Z,Q,E⟩
        all_goals
         have D:=kp E
         try have d1:∀w,Sem.run prog (binOp .eql 88 (.agg (aY x).cells.toArray) (.agg #[.i y.a,.i y.o])) w=.ok (.bool (decide (aY x=y))) w:=fun w=>pM.2 (aY x) y w
         try rw[Q]at d1
         try clear Q
         go_wp2_with fail;refine bJ (by kernel_rfl) (by kernel_rfl) ?_
         repeat (go_big_quiet_step (first |(go_at_call 189; refine bU (uW x y _ (by have:=M.o; omega) (by have:=N.o; omega) (by have:=M.o; omega) (by have:=M.o; omega) (by have:=N.o; omega) (by have:=N.o; omega)))|(go_at_call 225; refine bU (Gm o x _ f.o h.o))))
         refine bH ?_;rintro _ ⟨⟨W3,z0⟩,rfl⟩;have z:=kp (F.o.on z0)
        .obtain rfl:r=false:=by rw[←p.o,C.o]; simp[D.o]
         go_wp2_with fail;go_ret;exact⟨rfl,z.o⟩
        .obtain rfl:r=false:=by rw[←p.o,C.o]; simp[D.o]
         go_wp2_with fail;go_ret;exact⟨rfl,z.o⟩
        .go_wp2_with fail;go_roundw
         case rel=>exact⟨j+1,by omega,by go_num,by rw[←p.o,C.o]; simp[D.o],z.o⟩
         case measure=>simp[intOf]; omega
        .go_wp2_with fail;go_roundw
         case rel=>exact⟨j+1,by omega,by go_num,by rw[←p.o,C.o]; simp[D.o],z.o⟩
         case measure=>simp[intOf]; omega
        .obtain rfl:r=false:=by rw[←p.o,C.o]; simp[D.o]
         go_wp2_with fail;go_ret;exact⟨rfl,z.o⟩
       .obtain rfl:j=k:=by omega
        have hp3:=p.o;rw[gS (by rw[cZ]; omega),List.all_nil,jF]at hp3;have m0:=kp hp3;go_wp2_with fail;go_roundw
        case rel=>
         refine⟨j+1,by omega,by go_num,m0.o,fun y q=>?_,F.o⟩;rw[X.o]at q;rcases dF.1 q with q|q
         .exact Y.o y q
         .rw[bQ.1 q]; exact h.o
        case measure=>simp[intOf]; omega
    .obtain rfl:k=n:=by omega
     have l1:r=true:=by
      rw[←K.o,gS (by have:=V.o; omega)];rfl
     subst l1;go_wp2_with fail;go_ret;exact⟨rfl,G.o⟩
end
end Go.Proofs.YtdoopoapbffpbaaGreat
