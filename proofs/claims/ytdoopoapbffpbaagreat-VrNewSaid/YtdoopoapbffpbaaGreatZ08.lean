import Derived.Test.YtdoopoapbffpbaaGreatZ07
import Derived.Lib.SliceRun
namespace Go.Proofs.YtdoopoapbffpbaaGreat
open Go.RowKit Go.Proofs.Tryz
set_option maxRecDepth 100000
set_option maxHeartbeats 12800000
set_option linter.unusedVariables false
set_option linter.unusedSimpArgs false
section
attribute [-go_sem] loadCellsFrom storeCells
attribute [local go_sem] bC
def fX(x y:Int):Int:=if x<y then -1 else if y<x then 1 else 0
theorem Hq(x:Int)(w:World):Calls prog 198 #[.i x] w fun e a=>e=.returned (.bool false)∧a=w:=by
 go_enter func198,ntmps198;go_wp2_with fail;go_ret;exact⟨rfl,rfl⟩
theorem tJ(x y:Int)(w:World):Calls prog 144 #[.i x,.i y] w fun e f=>e=.returned (.i (fX x y))∧f=w:=by
 obtain⟨r,a⟩:=nm' (fX x y);rw[a];unfold fX at a;have g:(decide (x<y)=true∧r= -1)∨(decide (x<y)=false∧decide (y<x)=true∧r=1)∨(decide (x<y)=false∧decide (y<x)=false∧r=0):=by
  by_cases b:x<y
  .rw[aE b]at a; exact .inl ⟨by simpa using b,a.symm⟩
  .rw[aC b]at a
   by_cases c:y<x
   .rw[aE c]at a; exact .inr (.inl ⟨by simpa using b,by simpa using c,a.symm⟩)
   .rw[aC c]at a; exact .inr (.inr ⟨by simpa using b,by simpa using c,a.symm⟩)
 rcases g with⟨b,rfl⟩|⟨b,c,rfl⟩|⟨b,c,rfl⟩
 all_goals
  go_enter func144,ntmps144;go_wp2_with fail;refine mb' (Hq x w) fun f d=>?_;obtain rfl:=d.symm;go_wp2_with fail;refine mb' (Hq y w) fun f d=>?_;obtain rfl:=d.symm;go_wp2_with fail;go_ret;exact⟨rfl,rfl⟩
theorem Hr(x y:Int):decide (fX x y<0)=decide (x<y):=by
 unfold fX
 by_cases h:x<y
 .simp[h]
 .by_cases a:y<x<;>simp[h,a]
theorem Rv(x y:Int):(fX x y==0)=decide (x=y):=by
 unfold fX
 by_cases h:x<y
 .rw[aE h,aX (by omega)]; rfl
 .by_cases a:y<x
  .rw[aC h,aE a,aX (by omega)]; rfl
  .rw[aC h,aC a,bY (by omega)]; rfl
def eT{α:Type}(key:α→Int)(t:Int):List α→Nat
 |[]=>0
 |x::l=>if key x<t then eT key t l+1 else 0
def iL{α:Type}(key:α→Int):List α→Prop
 |[]=>True
 |x::l=>(∀y∈l,key x<key y)∧iL key l
theorem Ci{α:Type}(a:α→Int)(t:Int):∀l:List α,eT a t l≤l.length
 |[]=>aD _
 |x::l=>by
  unfold eT;have:=Ci a t l
  split<;>simp<;>omega
theorem Hs{α:Type}(b:α→Int)(t:Int):∀(l:List α)(i:Nat),i≤l.length→(∀k(h:k<l.length),k<i→b l[k]<t)→(∀k(h:k<l.length),i≤k→t≤b l[k])→eT b t l=i
 |[],i,a,_,_=>by simp at a; subst a; rfl
 |x::l,0,_,_,c=>by
  have:=c 0 (by simp) (aD _);unfold eT;rw[aC (by simp at this; omega)]
 |x::l,i+1,a,d,c=>by
  have e:=d 0 (by simp) (by omega);unfold eT;rw[aE (by simpa using e),Hs b t l i (by simpa using a) (fun k h f=>d (k+1) (by simpa using h) (by omega)) (fun k h f=>c (k+1) (by simpa using h) (by omega))]
theorem xO{α:Type}(b:α→Int):∀(l:List α),iL b l→∀(i j:Nat)(c:i<l.length)(a:j<l.length),i<j→b l[i]<b l[j]
 |x::l,h,0,j+1,_,a,_=>h.1 _ (bK (by simpa using a))
 |x::l,h,i+1,j+1,c,a,d=>xO b l h.2 i j (by simpa using c) (by simpa using a) (by omega)
theorem Rx{α:Type}(a:α→Int)(t:Int)(l:List α)(i:Nat)(m:iL a l)(d:∀k(h:k<l.length),k<i→a l[k]<t)(e:∀k(h:k<l.length),i≤k→t≤a l[k]):
  (l.any fun x=>decide (a x=t))=(if h:i<l.length then decide (a l[i]=t) else false):=by
 rw[qQ,kZ];constructor
 .rintro⟨x,n,b⟩;obtain⟨j,c,rfl⟩:=zU n;have b:a l[j]=t:=by simpa using b
  have o:i≤j:=by
   rcases mJ j i with h|h
   .have:=d j c h; omega
   .exact h
  rw[dif_pos (by omega)]
  by_cases g:i=j
  .subst g; simpa using b
  .have p:=xO a l m i j (by omega) c (by omega);have:=e i (by omega) (aD _);omega
 .intro h
  split at h
  .rename_i f;exact⟨_,bK f,h⟩
  .cases h
theorem Cj:(∀(v:Value)(l:List ObV)(d:ObV→Int)(t:Int)(g:Nat)(s:Array Value)(B:Nat)(w:World)(h:Sl w B v ObV.cells l)(r:B≤w.heap.size)(U:l.length≤1000000)(O:iL d l)(Z:∀args w,(callFunc g args).run prog w=.ok (.enter g args) w)(N:∀(W:World)(x:ObV),x∈l→Bw' w W→Calls prog g (#[.agg (ObV.cells x).toArray,.i t]++s) W fun e q=>e=.returned (.i (fX (d x) t))∧Bw' W q),Calls prog 251 #[v,.i t,.func (.func g) #[] s] w fun e q=>e=.returned (.tuple #[.i (eT d t l:Nat),.bool (l.any fun x=>decide (d x=t))])∧Bw' w q)∧(∀(v:Value)(l:List Rw)(d:Rw→Int)(t:Int)(g:Nat)(s:Array Value)(B:Nat)(w:World)(h:Sl w B v Rw.cells l)(r:B≤w.heap.size)(U:l.length≤1000000)(O:iL d l)(Z:∀args w,(callFunc g args).run prog w=.ok (.enter g args) w)(N:∀(W:World)(x:Rw),x∈l→Bw' w W→Calls prog g (#[.agg (Rw.cells x).toArray,.i t]++s) W fun e q=>e=.returned (.i (fX (d x) t))∧Bw' W q),Calls prog 142 #[v,.i t,.func (.func g) #[] s] w fun e q=>e=.returned (.tuple #[.i (eT d t l:Nat),.bool (l.any fun x=>decide (d x=t))])∧Bw' w q)∧(∀(v:Value)(l:List Bk)(d:Bk→Int)(t:Int)(g:Nat)(s:Array Value)(B:Nat)(w:World)(h:Sl w B v Bk.cells l)(r:B≤w.heap.size)(U:l.length≤1000000)(O:iL d l)(Z:∀args w,(callFunc g args).run prog w=.ok (.enter g args) w)(N:∀(W:World)(x:Bk),x∈l→Bw' w W→Calls prog g (#[.agg (Bk.cells x).toArray,.i t]++s) W fun e q=>e=.returned (.i (fX (d x) t))∧Bw' W q),Calls prog 288 #[v,.i t,.func (.func g) #[] s] w fun e q=>e=.returned (.tuple #[.i (eT d t l:Nat),.bool (l.any fun x=>decide (d x=t))])∧Bw' w q):=by
 refine⟨?q0,?q1,?q2⟩
 case' q0=>have d0:=True.intro
 case' q1=>have e0:=True.intro
 all_goals
  intro v l d t g s B w h r U O Z N;obtain⟨A,c,rfl,hr,hc,hm⟩:=h;obtain⟨n,hl⟩:=nm' l.length;rw[hl]at hc U ⊢;have H:=k'2 hr hl; clear hr hc hm hl;have HC:=kp N; clear N;have X:=kp O; clear O
  first |go_enter func251,ntmps251|go_enter func142,ntmps142|go_enter func288,ntmps288
  go_wp2_with fail
  go_loopw [9,10] (fun vi vj wr=>∃i j:Nat,i≤j∧j≤n∧vi=.i i∧vj=.i j∧(∀k(h:k<l.length),k<i→d l[k]<t)∧(∀k(h:k<l.length),j≤k→t≤d l[k])∧Bw' w wr) (fun vi vj _=>(intOf vj).toNat-(intOf vi).toNat)
  case atStart=>exact⟨0,n,by omega,by omega,rfl,rfl,fun k h E=>absurd E (by omega),fun k h E=>absurd h (by have:=H.B; omega),aL _ _⟩
  case round=>
   obtain⟨i,j,p0,z0,rfl,rfl,o0,m0,l0⟩:=hrel;have I:=k'2 o0 m0;have p:=kp l0
   by_cases a1:i<j
   .have g3:(i:Int)<(j:Int):=by omega
    obtain⟨m,hm⟩:=nm' ((i+j) / 2);have b1:i≤m:=by omega
    have d1:m<j:=by omega
    have f:m<l.length:=by have:=H.B; omega
    first
    |(have:=d0; obtain⟨b,Q,C,_,L,F⟩:=bV (P:=prog) 5 cM (by omega) (H.a.below p.o r) m f)
    |(have:=e0; obtain⟨b,Q,C,_,L,F⟩:=bV (P:=prog) 4 fJ (by omega) (H.a.below p.o r) m f)
    |obtain⟨b,Q,C,_,L,F⟩:=bV (P:=prog) 2 bM (by omega) (H.a.below p.o r) m f
    subst C;have q0:=F 0;change Sem.run _ _ wr=.ok _ wr at q0;have e1:(((i:Int)+(j:Int)) / 2)=(m:Int):=by omega
    have j0:=kp (show ∀k(h:k<l.length),k≤m→d l[k]≤d l[m] from fun k h E=>by
     rcases mJ k m with K|K
     .have:=xO d l X.o k m h f K; omega
     .obtain rfl:k=m:=by omega
      exact iQ _)
    have g0:=kp (show ∀k(h:k<l.length),m≤k→d l[m]≤d l[k] from fun k h E=>by
     rcases mJ m k with K|K
     .have:=xO d l X.o m k f h K; omega
     .obtain rfl:k=m:=by omega
      exact iQ _)
    have S:=kp (HC.o wr l[m] (bK f) p.o);generalize l[m]'f=x at *;have M:=Hr (d x) t;obtain⟨z,G⟩:=nm' (fX (d x) t);rw[G]at M;have T:=kp G; clear G
    cases hlx:decide (d x<t)
    .rw[hlx]at M;have Y:=kp hlx; clear hlx;go_wp2_with (go_at_fn g; refine S.o.mono ?_; rintro e w2 ⟨rfl,y⟩; rw[T.o]);have J:=kp (p.o.on y); clear y;go_roundw
     case rel=>exact⟨i,m,by omega,by omega,rfl,by go_num,I.a,fun k h E=>by have:=g0.o k h E; have:=Y.o; simp at this; omega,J.o⟩
     case measure=>simp[intOf]; omega
    .rw[hlx]at M;have Y:=kp hlx; clear hlx;go_wp2_with (go_at_fn g; refine S.o.mono ?_; rintro e w2 ⟨rfl,y⟩; rw[T.o]);have J:=kp (p.o.on y); clear y;go_roundw
     case rel=>exact⟨m+1,j,by omega,by omega,by go_num,rfl,fun k h E=>by have:=j0.o k h (by omega); have:=Y.o; simp at this; omega,I.B,J.o⟩
     case measure=>simp[intOf]; omega
   .obtain rfl:i=j:=by omega
    have b0:=Hs d t l i (by have:=H.B; omega) I.a I.B;have a0:=Rx d t l i X.o I.a I.B;have R:=k'2 b0 a0; clear b0 a0
    by_cases y0:i<n
    .have g4:decide ((i:Int)<(n:Int))=true:=by simp; omega
     have g5:(i:Int)<(n:Int):=by omega
     have f:i<l.length:=by have:=H.B; omega
     first
     |(have:=d0; obtain⟨b,Q,C,_,L,F⟩:=bV (P:=prog) 5 cM (by omega) (H.a.below p.o r) i f)
     |(have:=e0; obtain⟨b,Q,C,_,L,F⟩:=bV (P:=prog) 4 fJ (by omega) (H.a.below p.o r) i f)
     |obtain⟨b,Q,C,_,L,F⟩:=bV (P:=prog) 2 bM (by omega) (H.a.below p.o r) i f
     subst C;have q0:=F 0;change Sem.run _ _ wr=.ok _ wr at q0;have D:=R.B;rw[dif_pos f]at D;have S:=kp (HC.o wr l[i] (bK f) p.o);generalize l[i]'f=x at *;have V:=kp D; clear D;have M:=Rv (d x) t;obtain⟨z,G⟩:=nm' (fX (d x) t);rw[G]at M;have T:=kp G; clear G;go_wp2_with (go_at_fn g; refine S.o.mono ?_; rintro e w2 ⟨rfl,y⟩; rw[T.o]);have J:=kp (p.o.on y); clear y;go_wp2_with fail;go_ret2;exact⟨by rw[R.a,V.o]; rfl,J.o⟩
    .have g4:decide ((i:Int)<(n:Int))=false:=by simp; omega
     have D:=R.B;rw[dif_neg (by have:=H.B; omega)]at D;have V:=kp D; clear D;go_wp2_with fail;go_ret2;exact⟨by rw[R.a,V.o]; rfl,p.o⟩
end
end Go.Proofs.YtdoopoapbffpbaaGreat
