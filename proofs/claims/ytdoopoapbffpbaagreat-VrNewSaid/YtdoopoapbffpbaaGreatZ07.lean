import Derived.Test.YtdoopoapbffpbaaGreatZ04
import Derived.Shelf.Abstract
import Derived.Lib.SliceRun
namespace Go.Proofs.YtdoopoapbffpbaaGreat
open Go.RowKit Go.Proofs.Tryz
set_option maxRecDepth 100000
set_option maxHeartbeats 12800000
set_option linter.unusedVariables false
set_option linter.unusedSimpArgs false
section
attribute [-go_sem] loadCellsFrom storeCells
attribute [local go_sem] bC
theorem xN:(∀(v:Value)(l:List Int)(p:Int→Bool)(g:Nat)(f:Array Value)(B:Nat)(w:World)(h:Sl w B v i1 l)(m:B≤w.heap.size)(G:l.length≤1000000)(I:∀args w,(callFunc g args).run prog w=.ok (.enter g args) w)(s:∀(W:World)(x:Int),x∈l→Bw' w W→Calls prog g (#[(.i x)]++f) W fun e d=>e=.returned (.bool (p x))∧Bw' W d),Calls prog 224 #[v,.func (.func g) #[] f] w fun e d=>e=.returned (.i (eI p l))∧Bw' w d)∧(∀(v:Value)(l:List Rw)(p:Rw→Bool)(g:Nat)(f:Array Value)(B:Nat)(w:World)(h:Sl w B v Rw.cells l)(m:B≤w.heap.size)(G:l.length≤1000000)(I:∀args w,(callFunc g args).run prog w=.ok (.enter g args) w)(s:∀(W:World)(x:Rw),x∈l→Bw' w W→Calls prog g (#[(.agg (Rw.cells x).toArray)]++f) W fun e d=>e=.returned (.bool (p x))∧Bw' W d),Calls prog 193 #[v,.func (.func g) #[] f] w fun e d=>e=.returned (.i (eI p l))∧Bw' w d)∧(∀(v:Value)(l:List ObV)(p:ObV→Bool)(g:Nat)(f:Array Value)(B:Nat)(w:World)(h:Sl w B v ObV.cells l)(m:B≤w.heap.size)(G:l.length≤1000000)(I:∀args w,(callFunc g args).run prog w=.ok (.enter g args) w)(s:∀(W:World)(x:ObV),x∈l→Bw' w W→Calls prog g (#[(.agg (ObV.cells x).toArray)]++f) W fun e d=>e=.returned (.bool (p x))∧Bw' W d),Calls prog 238 #[v,.func (.func g) #[] f] w fun e d=>e=.returned (.i (eI p l))∧Bw' w d)∧(∀(v:Value)(l:List Bk)(p:Bk→Bool)(g:Nat)(f:Array Value)(B:Nat)(w:World)(h:Sl w B v Bk.cells l)(m:B≤w.heap.size)(G:l.length≤1000000)(I:∀args w,(callFunc g args).run prog w=.ok (.enter g args) w)(s:∀(W:World)(x:Bk),x∈l→Bw' w W→Calls prog g (#[(.agg (Bk.cells x).toArray)]++f) W fun e d=>e=.returned (.bool (p x))∧Bw' W d),Calls prog 290 #[v,.func (.func g) #[] f] w fun e d=>e=.returned (.i (eI p l))∧Bw' w d):=by
 refine⟨?q0,?q1,?q2,?q3⟩
 case' q0=>have O:=True.intro
 case' q1=>have a0:=True.intro
 case' q2=>have b0:=True.intro
 all_goals
  intro v l p g f B w h m G I s;obtain⟨A,c,rfl,X,T,Z⟩:=h;obtain⟨n,N⟩:=nm' l.length;rw[N]at T G ⊢;have H:=k'2 X N; clear X T Z N;have Y:=kp s; clear s
  first |go_enter func224,ntmps224|go_enter func193,ntmps193|go_enter func238,ntmps238|go_enter func290,ntmps290
  go_wp2_with fail
  go_loopw [5,8] (fun _ i wr=>∃k:Nat,k≤n∧i=.i k∧(∀y∈l.take k,p y=false)∧Bw' w wr) (fun _ i _=>n-(intOf i).toNat)
  case atStart=>exact⟨0,by omega,rfl,by simp,aL _ _⟩
  case round=>
   obtain⟨k,hk,rfl,V,S⟩:=hrel;have L:=kp V;have j:=kp S;clear V S
   by_cases d0:k<n
   .have g3:(k:Int)<(n:Int):=by omega
    have q:k<l.length:=by have:=H.B; omega
    first
    |(have:=O; obtain⟨b,Q,J,_,E,F⟩:=bV (P:=prog) 1 cS (by omega) (H.a.below j.o m) k q)
    |(have:=a0; obtain⟨b,Q,J,_,E,F⟩:=bV (P:=prog) 4 fJ (by omega) (H.a.below j.o m) k q)
    |(have:=b0; obtain⟨b,Q,J,_,E,F⟩:=bV (P:=prog) 5 cM (by omega) (H.a.below j.o m) k q)
    |obtain⟨b,Q,J,_,E,F⟩:=bV (P:=prog) 2 bM (by omega) (H.a.below j.o m) k q
    subst J
    first
    |(have:=O; have q0:=E 0 _ rfl)
    |have q0:=F 0
    first
    |(have:=O; simp only[oF,cF]at q0)
    |change Sem.run _ _ wr=.ok _ wr at q0
    clear E F;have M:=k'3 (cV q) (rF p l k q) (bK q);generalize l[k]'q=x at *;have U:=Y.o wr x M.C j.o;have R:=kp U; clear U
    cases hpx:p x
    .have z:=kp hpx; clear hpx;go_wp2_with (go_at_fn g; refine R.o.mono ?_; rintro e w2 ⟨rfl,D⟩; rw[z.o]);have K:=kp (j.o.on D); clear D;go_roundw
     case rel=>
      refine⟨k+1,by omega,by go_num,fun y r=>?_,K.o⟩;rw[M.a]at r;rcases dF.1 r with r|r
      .exact L.o y r
      .rw[bQ.1 r]; exact z.o
     case measure=>simp[intOf]; omega
    .have z:=kp hpx; clear hpx;go_wp2_with (go_at_fn g; refine R.o.mono ?_; rintro e w2 ⟨rfl,D⟩; rw[z.o]);have K:=kp (j.o.on D); clear D;go_ret;exact⟨by rw[M.b z.o L.o]; rfl,K.o⟩
   .obtain rfl:k=n:=by omega
    go_wp2_with fail;go_ret;exact⟨by rw[vB p l (fun y r=>L.o y (by rw[cN (by have:=H.B; omega)]; exact r))]; rfl,j.o⟩
theorem vC:(∀(v:Value)(l:List Int)(p:Int→Bool)(g:Nat)(a:Array Value)(B:Nat)(w:World)(h:Sl w B v i1 l)(f:B≤w.heap.size)(i:l.length≤1000000)(c:∀args w,(callFunc g args).run prog w=.ok (.enter g args) w)(d:∀(W:World)(x:Int),x∈l→Bw' w W→Calls prog g (#[(.i x)]++a) W fun e b=>e=.returned (.bool (p x))∧Bw' W b),Calls prog 181 #[v,.func (.func g) #[] a] w fun e b=>e=.returned (.bool (l.any p))∧Bw' w b)∧(∀(v:Value)(l:List ObV)(p:ObV→Bool)(g:Nat)(a:Array Value)(B:Nat)(w:World)(h:Sl w B v ObV.cells l)(f:B≤w.heap.size)(i:l.length≤1000000)(c:∀args w,(callFunc g args).run prog w=.ok (.enter g args) w)(d:∀(W:World)(x:ObV),x∈l→Bw' w W→Calls prog g (#[(.agg (ObV.cells x).toArray)]++a) W fun e b=>e=.returned (.bool (p x))∧Bw' W b),Calls prog 216 #[v,.func (.func g) #[] a] w fun e b=>e=.returned (.bool (l.any p))∧Bw' w b)∧(∀(v:Value)(l:List Bk)(p:Bk→Bool)(g:Nat)(a:Array Value)(B:Nat)(w:World)(h:Sl w B v Bk.cells l)(f:B≤w.heap.size)(i:l.length≤1000000)(c:∀args w,(callFunc g args).run prog w=.ok (.enter g args) w)(d:∀(W:World)(x:Bk),x∈l→Bw' w W→Calls prog g (#[(.agg (Bk.cells x).toArray)]++a) W fun e b=>e=.returned (.bool (p x))∧Bw' W b),Calls prog 278 #[v,.func (.func g) #[] a] w fun e b=>e=.returned (.bool (l.any p))∧Bw' w b):=by
 refine⟨?q0,?q1,?q2⟩
 case' q0=>have A:=True.intro
 case' q1=>have C:=True.intro
 all_goals
  intro v l p g a B w h f i c d
  first
  |(have:=A; have j:=xN.1 v l p g a B w h f i c d)
  |(have:=C; have j:=xN.2.2.1 v l p g a B w h f i c d)
  |have j:=xN.2.2.2 v l p g a B w h f i c d
  have s:=kp j;obtain⟨z,m⟩:=nm' (eI p l);have k:=tI p l;rw[m]at k;have q:=kp k;have y:=kp m;clear j d h m k c
  first |go_enter func181,ntmps181|go_enter func216,ntmps216|go_enter func278,ntmps278
  go_wp2_with fail;refine mb' s.o fun D n=>?_;rw[y.o];have r:=kp n; clear n;go_wp2_with fail;go_ret;exact⟨mK (bG Value.bool q.o),r.o⟩
end
end Go.Proofs.YtdoopoapbffpbaaGreat
