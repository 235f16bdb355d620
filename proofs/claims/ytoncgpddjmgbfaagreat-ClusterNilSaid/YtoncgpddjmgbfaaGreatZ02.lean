import Derived.Test.YtoncgpddjmgbfaaGreatZ01
namespace Go.Proofs.YtoncgpddjmgbfaaGreat
open Go.RowKit Go.Proofs.Tryz
set_option maxRecDepth 100000
set_option maxHeartbeats 12800000
set_option linter.unusedVariables false
set_option linter.unusedSimpArgs false
section
def bK(x y:Bk):Prop:=x.a+aW x.o≤y.a∨y.a+aW y.o≤x.a
theorem wP{x y:Bk}:jA x y=false↔bK x y:=by
 unfold jA bK;rw[Bool.and_eq_false_iff,decide_eq_false_iff_not,decide_eq_false_iff_not];omega
theorem bK.symm{x y:Bk}(h:bK x y):bK y x:=by unfold bK at *; omega
theorem eA(o:Int):1≤aW o:=by
 unfold aW;have a:(1:Nat)≤2 ^ o.toNat:=zA;have e:((2 ^ o.toNat:Nat):Int)=2 ^ o.toNat:=by simp
 omega
theorem iM(b:Bk)(l:List Bk):bV (b::l)=aW b.o+bV l:=by simp[bV]
theorem uH(l m:List Bk):bV (l++m)=bV l+bV m:=by simp[bV,List.sum_append]
theorem sG{l m:List Bk}(h:l.Perm m):bV l=bV m:=by
 induction h with
 |nil=>rfl
 |cons x _ a=>rw[iM,iM,a]
 |swap x y l=>simp only[iM]; omega
 |trans _ _ h1 h2=>rw[h1,h2]
def iN:Int→List Bk→Bool
 |_,[]=>true
 |E,b::l=>decide (b.a=E)&&iN (E+aU b.o) l
theorem Fc:∀(l:List Bk)(E:Int),(∀b∈l,0≤b.o∧b.o≤8)→iN E l=true→
  (∀b∈l,E≤b.a∧b.a+aW b.o≤E+bV l)∧l.Pairwise bK
 |[],_,_,_=>⟨by simp,.nil⟩
 |b::l,E,f,h=>by
  simp only[iN,bH,bR]at h;have e:=f b (by simp);rw[fJ e.1 e.2]at h;obtain⟨d,i⟩:=Fc l _ (fun x c=>f x (by simp[c])) h.2;have k:=eA b.o;have g:∀(l:List Bk),0≤bV l:=fun l=>by
   induction l with
   |nil=>exact iG _
   |cons x l d=>rw[iM]; have:=eA x.o; omega
  have j:=g l;refine⟨fun x c=>?_,.cons (fun x c=>?_) i⟩
  .rw[iM];rcases bD.1 c with rfl|c
   .omega
   .have:=d x c; omega
  .have:=d x c; exact .inl (by omega)
theorem Ac:∀(l:List Bk)(E N:Int),E≤N→(∀b∈l,E≤b.a∧b.a+aW b.o≤N)→l.Pairwise (fun x y=>x.a≤y.a)→l.Pairwise bK→bV l≤N-E
 |[],E,N,h,_,_,_=>by simp[bV]; omega
 |b::l,E,N,_,h,e,d=>by
  have g:=h b (by simp);have m:=eA b.o;rw[iM];have:=Ac l (b.a+aW b.o) N g.2 (fun x c=>by
   have i:=h x (by simp[c]);have f:=(dN.1 d).1 x c;have j:=(dN.1 e).1 x c;have k:=eA x.o;unfold bK at f;omega) (dN.1 e).2 (dN.1 d).2
  omega
theorem Fe:∀(l:List Bk)(E N:Int),(∀b∈l,0≤b.o∧b.o≤8)→(∀b∈l,E≤b.a∧b.a+aW b.o≤N)→l.Pairwise (fun x y=>x.a≤y.a)→l.Pairwise bK→bV l=N-E→iN E l=true
 |[],_,_,_,_,_,_,_=>rfl
 |b::l,E,N,g,h,e,d,m=>by
  have n:=h b (by simp);have i:=g b (by simp);have z:=eA b.o;rw[iM]at m;have f:∀x∈l,b.a+aW b.o≤x.a∧x.a+aW x.o≤N:=fun x c=>by
   have p:=h x (by simp[c]);have j:=(dN.1 d).1 x c;have q:=(dN.1 e).1 x c;have r:=eA x.o;unfold bK at j;omega
  have s:=Ac l (b.a+aW b.o) N n.2 f (dN.1 e).2 (dN.1 d).2;have k:b.a=E:=by omega
  simp only[iN,bH,bR];refine⟨k,?_⟩;rw[fJ i.1 i.2];exact Fe l _ N (fun x c=>g x (by simp[c])) (fun x c=>by have:=f x c; omega) (dN.1 e).2 (dN.1 d).2 (by omega)
theorem nU{l m:List Bk}(h:l.Perm m):l.Pairwise bK↔m.Pairwise bK:=h.pairwise_iff fun h=>h.symm
theorem Ff(N:Int){l m:List Bk}(c:l.Perm m)(k:m.Pairwise (fun x y=>x.a≤y.a))(h:∀b∈l,0≤b.o∧b.o≤8∧0≤b.a):
  (iN 0 m=true∧bV m=N)↔(l.Pairwise bK∧(∀b∈l,b.a+aW b.o≤N)∧bV l=N):=by
 have i:∀b∈m,0≤b.o∧b.o≤8:=fun b d=>by have:=h b (c.mem_iff.2 d); omega
 rw[sG c];constructor
 .rintro⟨j,g⟩;obtain⟨e,f⟩:=Fc m 0 i j;exact⟨(nU c).2 f,fun b d=>by have:=e b (c.mem_iff.1 d); omega,g⟩
 .rintro⟨e,f,g⟩;exact⟨Fe m 0 N i (fun b d=>⟨(h b (c.mem_iff.2 d)).2.2,f b (c.mem_iff.2 d)⟩) k ((nU c).1 e) (by omega),g⟩
def Gap(o:Int)(x b:Bk):Prop:=x.a<b.a∧bK b x∧¬(b.o<o∧bP b=x)
theorem Oh{o:Int}{b x:Bk}:sF o b x=true↔Gap o x b:=by
 unfold sF Gap;simp only[bH,rK,decide_eq_false_iff_not,Bool.and_eq_false_imp,bR,wP,not_and];constructor
 .rintro⟨d,a,c⟩; exact⟨by omega,a,c⟩
 .rintro⟨d,a,c⟩; exact⟨by omega,a,c⟩
theorem Fg(o:Int):∀(l pre:List Bk),oR o pre l=true↔(∀b∈l,bY o b=true)∧(∀b∈l,∀x∈pre,Gap o x b)∧l.Pairwise (Gap o)
 |[],pre=>by simp[oR]
 |b::l,pre=>by
  simp only[oR,bH,mL,Fg o l,Oh,dN,bD,cV,dF,or_false,forall_eq_or_imp];constructor
  .rintro⟨f,g,h,e,i⟩;exact⟨⟨f,h⟩,⟨g,fun c a x d=>e c a x (.inl d)⟩,fun c a=>e c a b (.inr rfl),i⟩
  .rintro⟨⟨f,h⟩,⟨g,e⟩,i,j⟩;refine⟨f,g,h,fun c a x d=>?_,j⟩;rcases d with d|rfl
   .exact e c a x d
   .exact i c a
theorem Oi(o:Int)(c:cZ o=true)(l:List Bk)(f:∀b∈l,bY o b=true)(a:l.Pairwise (Gap o)):(l.length:Int)≤aW o:=by
 have i:=fB c;have g:=Ac l 0 (aW o) (by have:=eA o; omega) (fun b e=>by
  have:=gU c (f b e);rw[fJ this.1 (by omega),fJ (o:=o) (by omega) (by omega)]at this;omega) (a.imp fun h=>Int.le_of_lt h.1) (a.imp fun h=>h.2.1.symm)
 have d:∀l:List Bk,(l.length:Int)≤bV l:=fun l=>by
  induction l with
  |nil=>exact iG _
  |cons x l j=>rw[iM,eS]; have:=eA x.o; omega
 have:=d l;omega
theorem lX(o:Int)(l:List Bk):gX o l=true↔cZ o=true∧(∀b∈l,bY o b=true)∧l.Pairwise (Gap o):=by
 rw[←Og];unfold Aa;simp only[bH,Fg,bR];constructor
 .rintro⟨a,e,c,_,d⟩; exact⟨a,c,d⟩
 .rintro⟨a,c,d⟩; exact⟨a,Oi o a l c d,c,by simp,d⟩
theorem Ad{s x y:Int}(a:0<s)(c:s ∣ x)(d:s ∣ y)(h:x<y):x+s≤y:=by
 obtain⟨p,rfl⟩:=c;obtain⟨r,rfl⟩:=d;have e:p<r:=Int.lt_of_mul_lt_mul_left h (Int.le_of_lt a);have b:s*(p+1)≤s*r:=Int.mul_le_mul_of_nonneg_left (by omega) (Int.le_of_lt a);rw[Int.mul_add]at b;omega
theorem uI{i j:Int}(h:i≤j):aW i ∣ aW j:=by
 unfold aW;obtain⟨d,a⟩:∃d,j.toNat=i.toNat+d:=⟨j.toNat-i.toNat,by omega⟩
 rw[a,Int.pow_add];exact Int.dvd_mul_right _ _
theorem sH{k:Int}(h:0≤k):aW (k+1)=2*aW k:=by
 unfold aW;rw[show (k+1).toNat=k.toNat+1 by omega,Int.pow_succ];omega
theorem wQ{x y:Bk}(h:x.o≤y.o)(c:aW x.o ∣ x.a)(g:aW y.o ∣ y.a):(y.a≤x.a∧x.a+aW x.o≤y.a+aW y.o)∨bK x y:=by
 have i:=eA x.o;have b:=uI h;have d:aW x.o ∣ y.a:=Dt b g;unfold bK
 by_cases e:x.a<y.a
 .have:=Ad (by omega) c d e; omega
 .by_cases f:x.a<y.a+aW y.o
  .have:=Ad (by omega) c (wB d b) f; omega
  .omega
def nV(bs:List Bk)(b:Bk):Bool:= !(bs.any fun x=>jA b x)
theorem wR{bs:List Bk}{b:Bk}:nV bs b=true↔∀x∈bs,bK b x:=by
 unfold nV;rw[rK,pT];exact forall_congr' fun x=>forall_congr' fun _=>by rw[Ml,wP]
def dL(bs:List Bk):Nat→Int→List Bk
 |0,a=>if nV bs ⟨a,0⟩=true then [⟨a,0⟩] else []
 |k+1,a=>if nV bs ⟨a,(k+1:Nat)⟩=true then [⟨a,(k+1:Nat)⟩] else dL bs k a++dL bs k (a+aW k)
structure nW(o:Int)(F bs:List Bk):Prop where
 reg:cZ o=true
 may:∀b∈F++bs,bY o b=true
 gap:F.Pairwise (Gap o)
 apart:(F++bs).Pairwise bK
 sum:bV (F++bs)=aW o
theorem fY{o:Int}{b:Bk}(d:cZ o=true)(h:bY o b=true):0≤b.o∧b.o≤o∧0≤b.a∧b.a+aW b.o≤aW o∧aW b.o ∣ b.a:=by
 have e:=fB d;have c:=gU d h;rw[fJ c.1 (by omega),fJ (o:=o) (by omega) (by omega)]at c;exact⟨c.1,c.2.1,c.2.2.2.1,c.2.2.2.2.2.1,zB c.2.2.2.2.2.2.1⟩
theorem Fh:∀(l:List Bk)(E p:Int),(∀b∈l,0≤b.o∧b.o≤8)→iN E l=true→E≤p→p<E+bV l→∃b∈l,b.a≤p∧p<b.a+aW b.o
 |[],E,p,_,_,g,c=>by simp[bV]at c; omega
 |b::l,E,p,f,h,g,c=>by
  have e:=f b (by simp);simp only[iN,bH,bR]at h;rw[fJ e.1 e.2]at h;rw[iM]at c
  by_cases j:p<E+aW b.o
  .exact⟨b,by simp,by omega,by omega⟩
  .obtain⟨x,d,i⟩:=Fh l _ p (fun x d=>f x (by simp[d])) h.2 (by omega) (by omega);exact⟨x,by simp[d],i⟩
section
variable {o:Int}{F bs:List Bk}
theorem nW.point(T:nW o F bs){p:Int}(g:0≤p)(k:p<aW o):∃b∈F++bs,b.a≤p∧p<b.a+aW b.o:=by
 have l:=fB T.reg;have d:=fun b c=>fY T.reg (T.may b c);have e:(F++bs).Perm ((F++bs).mergeSort fun x y=>decide (x.a≤y.a)):=(List.mergeSort_perm _ _).symm;have j:((F++bs).mergeSort fun x y=>decide (x.a≤y.a)).Pairwise (fun x y=>x.a≤y.a):=by
  have:=List.pairwise_mergeSort (le:=fun(x y:Bk)=>decide (x.a≤y.a)) (by simp; omega) (by simp; omega) (F++bs);exact this.imp fun h=>by simpa using h
 have f:=(Ff (aW o) e j (fun b c=>by have:=d b c; omega)).2 ⟨T.apart,fun b c=>(d b c).2.2.2.1,T.sum⟩;obtain⟨b,c,i⟩:=Fh _ 0 p (fun b c=>by have:=d b (e.mem_iff.2 c); omega) f.1 g (by rw[f.2]; omega);exact⟨b,e.mem_iff.2 c,i⟩
theorem nW.mem(T:nW o F bs):∀(k:Nat)(a:Int),(k:Int)≤o→aW k ∣ a→0≤a→a+aW k≤aW o→(∀x∈bs,bK ⟨a,k⟩ x)→(∀b∈F,b.o≤k∨bK b ⟨a,k⟩)→(⟨a,k⟩:Bk)∈F
 |0,a,_,_,m,J,g,q=>by
  have z:aW ((0:Nat):Int)=1:=rfl;obtain⟨b,c,D,d⟩:=T.point (p:=a) m (by omega);rcases cV.1 c with f|f
  .rcases q b f with h|h
   .have:=fY T.reg (T.may b c);obtain⟨i,j⟩:=b;simp only at *;obtain rfl:j=0:=by omega
    have:aW 0=1:=rfl;obtain rfl:i=a:=by omega
    exact f
   .unfold bK at h;simp only[z]at h;omega
  .have:=g b f;unfold bK at this;simp only[z]at this;omega
 |k+1,a,V,r,m,J,g,q=>by
  have e:aW ((k+1:Nat):Int)=2*aW k:=sH (k:=(k:Int)) (by omega);have z:=eA k
  by_cases I:(⟨a,(k+1:Nat)⟩:Bk)∈F
  .exact I
  .exfalso
   have H:aW (k:Int) ∣ a:=Dt (uI (by omega)) r;have G:∀b∈F,b.o≤k∨bK b ⟨a,(k+1:Nat)⟩:=fun b c=>by
    rcases q b c with h|h
    .by_cases L:b.o≤k
     .exact .inl L
     .have M:=fY T.reg (T.may b (by simp[c]));rcases wQ (x:=b) (y:=⟨a,(k+1:Nat)⟩) h M.2.2.2.2 r with d|d
      .exfalso
       obtain⟨i,j⟩:=b;simp only at *;obtain rfl:j=(k+1:Nat):=by omega
       obtain rfl:i=a:=by omega
       exact I c
      .exact .inr d
    .exact .inr h
   have R:=T.mem k a (by omega) H m (by omega) (fun x A=>by have:=g x A; unfold bK at *; simp only[e]at *; omega) (fun b c=>by
    rcases G b c with h|h
    .exact .inl h
    .refine .inr ?_; unfold bK at *; simp only[e]at *; omega)
   have S:=T.mem k (a+aW k) (by omega) (wB H (vZ _)) (by omega) (by omega) (fun x A=>by have:=g x A; unfold bK at *; simp only[e]at *; omega) (fun b c=>by
    rcases G b c with h|h
    .exact .inl h
    .refine .inr ?_; unfold bK at *; simp only[e]at *; omega)
   have Q:∀(l:List Bk),l.Pairwise (Gap o)→(⟨a,k⟩:Bk)∈l→(⟨a+aW k,k⟩:Bk)∈l→False:=fun l=>by
    induction l with
    |nil=>intro _ h; cases h
    |cons y l P=>
     intro N D d;have s:=dN.1 N;rcases bD.1 D with rfl|E
     .rcases bD.1 d with h|n
      .have:=bA Bk.a h; simp only at this; omega
      .have:=(s.1 _ n).2.2;apply this;have U:=fB T.reg;refine⟨by simp only; omega,?_⟩;have O:=fJ (o:=(k:Int)) (by omega) (by omega);unfold bP;simp only[O];rw[aF]
       .simp
       .intro K;have B:2*aW (k:Int) ∣ a+aW k:=zB K;rw[←e]at B;have C:=Int.dvd_sub B r;rw[show a+aW (k:Int)-a=aW k by omega]at C;have:=Int.le_of_dvd (by omega) C;omega
     .rcases bD.1 d with rfl|n
      .have:=(s.1 _ E).1;simp only at this;omega
      .exact P s.2 E n
   exact Q F T.gap R S
theorem Oj{l:List Bk}{p:Bk→Bool}{b:Bk}(k:l.Pairwise (fun x y=>x.a<y.a))(f:b∈l)(i:p b=true)(e:∀x∈l,p x=true→x=b):l.filter p=[b]:=by
 induction l with
 |nil=>cases f
 |cons y l m=>
  have g:=dN.1 k
  by_cases d:p y=true
  .have:=e y (by simp) d;subst this;rw[tK d,List.filter_eq_nil_iff.2];intro x c j;have:=e x (by simp[c]) j;subst this;have:=g.1 x c;omega
  .rw[rF d];rcases bD.1 f with rfl|h
   .exact absurd i d
   .exact m g.2 h fun x c=>e x (by simp[c])
theorem Ok{l:List Bk}{p q r:Bk→Bool}(c:Int)(s:l.Pairwise (fun x y=>x.a<y.a))(j:∀x∈l,r x=(p x||q x))(f:∀x∈l,p x=true→x.a<c)(i:∀x∈l,q x=true→c≤x.a):l.filter r=l.filter p++l.filter q:=by
 induction l with
 |nil=>rfl
 |cons y l z=>
  have k:=dN.1 s;have g:=z k.2 (fun x d=>j x (by simp[d])) (fun x d=>f x (by simp[d])) (fun x d=>i x (by simp[d]));have e:=j y (by simp);have m:=f y (by simp);have h:=i y (by simp)
  cases hpy:p y
  .cases b:q y
   .rw[hpy,b]at e;rw[rF (by simp[e]),rF (by simp[hpy]),rF (by simp[b]),g]
   .rw[hpy,b]at e;have n:l.filter p=[]:=List.filter_eq_nil_iff.2 fun x d o=>by
     have:=f x (by simp[d]) o;have:=k.1 x d;have:=h b;omega
    rw[tK (by simp[e]),rF (by simp[hpy]),tK b,g,n];rfl
  .have b:q y=false:=by
    cases b:q y
    .rfl
    .have:=m hpy; have:=h b; omega
   rw[hpy,b]at e;rw[tK (by simp[e]),tK hpy,rF (by simp[b]),g];rfl
def wS(a:Int)(k:Int)(b:Bk):Bool:=decide (a≤b.a)&&decide (b.a+aW b.o≤a+aW k)
theorem nX{a k:Int}{b:Bk}:wS a k b=true↔a≤b.a∧b.a+aW b.o≤a+aW k:=by unfold wS; simp
theorem nW.inside(T:nW o F bs):∀(k:Nat)(a:Int),(k:Int)≤o→aW k ∣ a→0≤a→a+aW k≤aW o→(∀b∈F,b.o≤k∨bK b ⟨a,k⟩)→F.filter (wS a k)=dL bs k a:=by
 have K:F.Pairwise (fun x y=>x.a<y.a):=T.gap.imp fun h=>h.1;have N:F.Pairwise bK:=(rP.1 T.apart).1;have I:∀x∈F,∀y∈bs,bK x y:=(rP.1 T.apart).2.2;have one:∀(k:Nat)(a:Int),(⟨a,k⟩:Bk)∈F→F.filter (wS a k)=[⟨a,k⟩]:=fun k a J=>by
  refine Oj K J (nX.2 ⟨iG _,iG _⟩) fun x d C=>?_;have O:=nX.1 C;have G:=eA x.o;have S:∀(l:List Bk),l.Pairwise bK→∀x∈l,∀y∈l,x=y∨bK x y:=fun l P=>by
   induction l with
   |nil=>intro x d; cases d
   |cons z l s=>
    have E:=dN.1 P;intro x d y i;rcases bD.1 d with g|g
    .rcases bD.1 i with c|c
     .exact .inl (g.trans c.symm)
     .exact .inr (g▸E.1 y c)
    .rcases bD.1 i with c|c
     .exact .inr (c▸(E.1 x g).symm)
     .exact s E.2 x g y c
  rcases S F N x d _ J with h|h
  .exact h
  .unfold bK at h; simp only at h; omega
 intro k
 induction k with
 |zero=>
  intro a D j n B p;unfold dL
  by_cases e:nV bs ⟨a,0⟩=true
  .rw[aK e];exact one 0 a (T.mem 0 a D j n B (wR.1 e) p)
  .rw[aF e,List.filter_eq_nil_iff];intro x d C;apply e;have O:=nX.1 C;have m:=fY T.reg (T.may x (by simp[d]));have G:=eA x.o;have g:aW ((0:Nat):Int)=1:=rfl;refine wR.2 fun y i=>?_;have:=I x d y i;unfold bK at *;have:aW 0=1:=rfl;simp only at *;omega
 |succ k s=>
  intro a D j n B p;have r:aW ((k+1:Nat):Int)=2*aW k:=sH (k:=(k:Int)) (by omega);have U:=eA k;unfold dL
  by_cases e:nV bs ⟨a,(k+1:Nat)⟩=true
  .rw[aK e];exact one (k+1) a (T.mem (k+1) a D j n B (wR.1 e) p)
  .rw[aF e];have R:(⟨a,(k+1:Nat)⟩:Bk)∉F:=fun h=>e (wR.2 fun y i=>I _ h y i);have q:aW (k:Int) ∣ a:=Dt (uI (by omega)) j;have A:∀b∈F,b.o≤k∨bK b ⟨a,(k+1:Nat)⟩:=fun b f=>by
    rcases p b f with h|h
    .by_cases Q:b.o≤k
     .exact .inl Q
     .have m:=fY T.reg (T.may b (by simp[f]));rcases wQ (x:=b) (y:=⟨a,(k+1:Nat)⟩) h m.2.2.2.2 j with c|c
      .exfalso
       obtain⟨L,M⟩:=b;simp only at *;obtain rfl:M=(k+1:Nat):=by omega
       obtain rfl:L=a:=by omega
       exact R f
      .exact .inr c
    .exact .inr h
   rw[←s a (by omega) q n (by omega) (fun b f=>by
     rcases A b f with h|h
     .exact .inl h
     .refine .inr ?_; unfold bK at *; simp only[r]at *; omega),
    ←s (a+aW k) (by omega) (wB q (vZ _)) (by omega) (by omega) (fun b f=>by
     rcases A b f with h|h
     .exact .inl h
     .refine .inr ?_; unfold bK at *; simp only[r]at *; omega)]
   refine Ok (a+aW k) K (fun x d=>?_) (fun x d h=>?_) (fun x d h=>(nX.1 h).1)
   .rw[rO,pS,nX,nX,nX,r];have m:=fY T.reg (T.may x (by simp[d]));have G:=eA x.o;rcases A x d with h|h
    .rcases wQ (x:=x) (y:=⟨a,k⟩) h m.2.2.2.2 q with c|c
     .simp only at *; omega
     .rcases wQ (x:=x) (y:=⟨a+aW k,k⟩) h m.2.2.2.2 (wB q (vZ _)) with H|H
      .simp only at *; omega
      .unfold bK at c H; simp only at *; omega
    .unfold bK at h; simp only[r]at h; omega
   .have:=nX.1 h;have G:=eA x.o;omega
theorem nW.free_eq(T:nW o F bs):F=dL bs o.toNat 0:=by
 have e:=fB T.reg;have d:((o.toNat:Nat):Int)=o:=by omega
 have c:∀b∈F,bY o b=true:=fun b a=>T.may b (by simp[a]);rw[←T.inside o.toNat 0 (by omega) (Int.dvd_zero _) (iG _) (by rw[d]; omega) (fun b a=>.inl (by have:=fY T.reg (c b a); omega)),List.filter_eq_self.2];intro b a;have:=fY T.reg (c b a);rw[nX,d];omega
end
theorem pW{o:Int}{b:Bk}(d:cZ o=true):bY o b=true↔0≤b.o∧b.o≤o∧0≤b.a∧b.a+aW b.o≤aW o∧aW b.o ∣ b.a:=by
 constructor
 .exact fY d
 .rintro⟨c,e,f,h,g⟩;have i:=fB d;unfold bY;rw[fJ c (by omega),fJ (o:=o) (by omega) (by omega)];simp only[bH,bR];exact⟨c,e,f,by omega,Int.emod_eq_zero_of_dvd g⟩
theorem Ol(bs:List Bk)(b:Bk)(c:0≤b.o)(d:b.o≤8):dL bs b.o.toNat b.a=if nV bs b=true then [b] else if 0<b.o then dL bs (b.o-1).toNat b.a++dL bs (b.o-1).toNat (b.a+aU (b.o-1)) else []:=by
 obtain⟨a,o⟩:=b;simp only at *;obtain⟨k,rfl⟩:∃k:Nat,o=k:=⟨o.toNat,by omega⟩
 rw[gS]
 cases k with
 |zero=>unfold dL; simp
 |succ k=>
  rw[dL,fJ (by omega) (by omega),show ((k+1:Nat):Int)-1=k by omega,gS,aK (show (0:Int)<((k+1:Nat):Int) by omega)]
def oS(bs l:List Bk):List Bk:=(l.map fun b=>dL bs b.o.toNat b.a).flatten
def kW:List Bk→Nat
 |[]=>0
 |b::l=>(2*2 ^ b.o.toNat-1)+kW l
theorem Fi{b:Bk}(l:List Bk)(h:0<b.o):kW (⟨b.a,b.o-1⟩::⟨b.a+aU (b.o-1),b.o-1⟩::l)<kW (b::l):=by
 simp only[kW];have c:b.o.toNat=(b.o-1).toNat+1:=by omega
 rw[c,wD];have:=zA (n:=(b.o-1).toNat);omega
theorem sI(b:Bk)(l:List Bk):kW l<kW (b::l):=by
 rw[kW];have:=zA (n:=b.o.toNat);omega
instance (x y:Bk):Decidable (bK x y):=by unfold bK; infer_instance
def lM(n:Int):Int:=if n≤1 then 0 else if n≤2 then 1 else if n≤4 then 2 else if n≤8 then 3 else if n≤16 then 4 else if n≤32 then 5 else 6
def cQ(w l:Int):Int:=if (aG w 0 32&&aG l 0 16)=true then lM (1+w+l) else -1
def eI(obs:List Ob)(t:Int):Bool:=decide (t=0)||obs.any fun x=>decide (x.h=t)
def sJ(next:Int):Int→List Ob→Bool
 |_,[]=>true
 |last,x::l=>(decide (last<x.h)&&decide (x.h<next))&&sJ next x.h l
def obB(o:Int)(x:Ob):Bool:=decide (cQ x.ws.length x.ls.length=x.b.o)&&bY o x.b
def obM(o:Int)(x:Ob):Bool:=decide (cQ x.ws.length x.ls.length=x.b.o)&&(aG x.b.o 0 o&&(aG x.b.a 0 (aU o)&&decide (x.b.a % aU x.b.o=0)))
def lO(h:Hp):List Bk:=h.free++h.obs.map (·.b)
def wU(h:Hp):Bool:=h.obs.all fun x=>x.ls.all (eI h.obs)
def uJ(h:Hp):Bool:=decide ((lO h).Pairwise bK)&&decide (bV (lO h)=aW h.order)
def cR(h:Hp):Bool:=gX h.order h.free&&(aG h.next 1 1000001&&(decide ((h.obs.length:Int)≤256)&&(sJ h.next 0 h.obs&&(h.obs.all (obB h.order)&&(uJ h&&(wU h&&h.tops.all (eI h.obs)))))))
theorem Om(w l:Int): -1≤cQ w l∧cQ w l≤6:=by
 unfold cQ lM
 repeat' split
 all_goals omega
theorem On{o:Int}{x:Ob}(a:cZ o=true)(h:obB o x=true):obM o x=true:=by
 unfold obB at h;unfold obM aG;simp only[bH,bR]at *;have:=gU a h.2;omega
theorem Fj{h:Hp}{m:List Bk}(s:(lO h).Perm m)(z:m.Pairwise (fun x y=>x.a≤y.a))(r:gX h.order h.free=true)(l:h.obs.all (obM h.order)=true):
  (iN 0 m&&decide (bV m=aU h.order))=(h.obs.all (obB h.order)&&uJ h):=by
 obtain⟨f,k,_⟩:=(lX _ _).1 r;have A:=fB f;rw[mL]at l;have n:∀x∈h.obs,cQ x.ws.length x.ls.length=x.b.o∧(0≤x.b.o∧x.b.o≤h.order)∧0≤x.b.a∧x.b.a % aU x.b.o=0:=fun x d=>by
  have:=l x d;unfold obM aG at this;simp only[bH,bR]at this;exact⟨this.1,this.2.1,this.2.2.1.1,this.2.2.2⟩
 have p:∀b∈lO h,0≤b.o∧b.o≤8∧0≤b.a:=fun b c=>by
  rcases cV.1 c with c|c
  .have:=gU f (k b c); omega
  .obtain⟨x,d,rfl⟩:=cP.1 c;have:=n x d; omega
 rw[rO,bH,bH,bR,fJ (o:=h.order) (by omega) (by omega),Ff (aW h.order) s z p];unfold uJ;rw[bH,bR,bR,mL];constructor
 .rintro⟨g,i,j⟩;refine⟨fun x d=>?_,g,j⟩;have e:=n x d;have q:=i x.b (cV.2 (.inr (cP.2 ⟨x,d,rfl⟩)));unfold obB;rw[bH,bR,pW f];have:=p x.b (cV.2 (.inr (cP.2 ⟨x,d,rfl⟩)));rw[fJ (by omega) (by omega)]at e;exact⟨e.1,e.2.1.1,e.2.1.2,e.2.2.1,q,zB e.2.2.2⟩
 .rintro⟨g,i,j⟩;refine⟨i,fun b c=>?_,j⟩;rcases cV.1 c with c|c
  .exact (fY f (k b c)).2.2.2.1
  .obtain⟨x,d,rfl⟩:=cP.1 c;have:=g x d;unfold obB at this;rw[bH]at this;exact (fY f this.2).2.2.2.1
theorem Oo{h:Hp}(c:cR h=true):nW h.order h.free (h.obs.map (·.b)):=by
 unfold cR uJ at c;simp only[bH,bR]at c;obtain⟨d,_,_,_,e,⟨f,g⟩,_⟩:=c;obtain⟨k,i,j⟩:=(lX _ _).1 d;refine⟨k,fun b a=>?_,j,f,g⟩;rcases cV.1 a with a|a
 .exact i b a
 .obtain⟨x,l,rfl⟩:=cP.1 a;have:=mL.1 e x l;unfold obB at this;rw[bH]at this;exact this.2
theorem Op{h:Hp}(a:cR h=true):h.free=dL (h.obs.map (·.b)) h.order.toNat 0:=(Oo a).free_eq
def gY:List Bk→Bk→List Bk
 |[],b=>[b]
 |x::l,b=>if b.a<x.a then b::x::l else x::gY l b
def fZ(l:List Bk)(b:Bk):List Bk:=l.filter fun x=> !decide (x=b)
def fS(want:Int):List Bk→Option Bk
 |[]=>none
 |x::l=>match fS want l with
  |none=>if want≤x.o then some x else none
  |some y=>if want≤x.o∧x.o≤y.o then some x else some y
def iO(want:Int):Nat→Bk→List Bk→Bk×List Bk
 |0,b,out=>(b,out)
 |n+1,b,out=>if want<b.o then iO want n ⟨b.a,b.o-1⟩ (gY out ⟨b.a+aW (b.o-1),b.o-1⟩) else (b,out)
def kG(want:Int)(free:List Bk):Option (Bk×List Bk):=(fS want free).map fun b=>iO want 9 b (fZ free b)
def eW(o:Int):Nat→Bk→List Bk→List Bk
 |0,b,out=>gY out b
 |n+1,b,out=>if (decide (b.o<o)&&out.any fun x=>decide (x=bP b))=true then eW o n ⟨min b.a (bP b).a,b.o+1⟩ (fZ out (bP b)) else gY out b
theorem pX:∀(l:List Bk)(b:Bk),(gY l b).Perm (b::l)
 |[],_=>.refl _
 |x::l,b=>by
  unfold gY
  split
  .exact .refl _
  .exact ((pX l b).cons x).trans (.swap b x l)
theorem Fk:∀(l:List Bk)(b:Bk),l.Pairwise (fun x y=>x.a<y.a)→(∀x∈l,b.a≠x.a)→(gY l b).Pairwise (fun x y=>x.a<y.a)
 |[],_,_,_=>by simp[gY]
 |x::l,b,f,e=>by
  have d:=dN.1 f;unfold gY
  split
  .rename_i h;refine .cons (fun y c=>?_) f;rcases bD.1 c with rfl|c
   .exact h
   .have:=d.1 y c; omega
  .refine .cons (fun y c=>?_) (Fk l b d.2 fun y c=>e y (by simp[c]));rcases bD.1 ((pX l b).mem_iff.1 c) with rfl|c
   .have:=e x (by simp); omega
   .exact d.1 y c
theorem uK:∀(l:List Bk)(b:Bk),l.Pairwise (fun x y=>x.a<y.a)→b∈l→l.Perm (b::fZ l b)
 |y::l,b,f,e=>by
  have d:=dN.1 f;unfold fZ
  by_cases h:y=b
  .subst h;rw[rF (by simp),List.filter_eq_self.2];intro x g;have:=d.1 x g;have:x≠y:=fun h=>by subst h; omega
   simpa using this
  .rw[tK (by simpa using h)];rcases bD.1 e with c|c
   .exact absurd c.symm h
   .exact ((uK l b d.2 c).cons y).trans (.swap b y _)
theorem sK(c:Int):∀(l:List Bk)(b:Bk),fS c l=some b→b∈l∧c≤b.o∧∀x∈l,c≤x.o→b.o≤x.o
 |x::l,b,h=>by
  unfold fS at h;have i:=sK c l
  cases hl:fS c l with
  |none=>
   rw[hl]at h;simp only at h
   split at h
   .rename_i e
    cases h;refine⟨by simp,e,fun y g p=>?_⟩;rcases bD.1 g with rfl|g
    .exact iG _
    .exfalso
     have q:∀m:List Bk,y∈m→fS c m≠none:=fun m d=>by
      induction m with
      |nil=>cases d
      |cons z m i=>
       unfold fS;rcases bD.1 d with rfl|d
       .cases fS c m
        .simp[p]
        .simp only; split<;>simp
       .cases a:fS c m
        .exact absurd a (i d)
        .simp only; split<;>simp
     exact q l g hl
   .cases h
  |some y=>
   rw[hl]at h;obtain⟨k,n,j⟩:=i y hl;simp only at h
   split at h
   .rename_i e
    cases h;refine⟨by simp,e.1,fun z a f=>?_⟩;rcases bD.1 a with rfl|a
    .exact iG _
    .have:=j z a f; omega
   .rename_i e
    cases h;refine⟨by simp[k],n,fun z a f=>?_⟩;rcases bD.1 a with rfl|a
    .omega
    .exact j z a f
def wV(want:Int)(l:List Bk)(b:Bk):Prop:=b∈l∧want≤b.o∧∀x∈l,want≤x.o→b.o<x.o∨(b.o=x.o∧b.a≤x.a)
theorem Fl(d:Int):∀(l:List Bk)(b:Bk),l.Pairwise (fun x y=>x.a<y.a)→fS d l=some b→wV d l b
 |x::l,b,k,h=>by
  have e:=dN.1 k;have f:=sK d _ b h;refine⟨f.1,f.2.1,fun z c i=>?_⟩;have m:=f.2.2 z c i
  by_cases j:b.o=z.o
  .refine .inr ⟨j,?_⟩;unfold fS at h
   cases hl:fS d l with
   |none=>
    rw[hl]at h;simp only at h
    split at h
    .cases h;rcases bD.1 c with rfl|c
     .exact iG _
     .have:=e.1 z c; omega
    .cases h
   |some y=>
    rw[hl]at h;simp only at h
    split at h
    .cases h;rcases bD.1 c with rfl|c
     .exact iG _
     .have:=e.1 z c; omega
    .rename_i n
     cases h;rcases bD.1 c with rfl|c
     .omega
     .rcases (Fl d l b e.2 hl).2.2 z c i with g|g
      .omega
      .exact g.2
  .exact .inl (by omega)
theorem Oq{e:Int}{l:List Bk}{b c:Bk}(a:wV e l b)(d:wV e l c):b=c:=by
 have j:=a.2.2 c d.1 d.2.1;have k:=d.2.2 b a.1 a.2.1;obtain⟨f,g⟩:=b;obtain⟨h,i⟩:=c;simp only at *;obtain rfl:g=i:=by omega
 obtain rfl:f=h:=by omega
 rfl
theorem Af(a:Int):∀(l:List Bk),fS a l=none↔∀x∈l,x.o<a
 |[]=>by simp[fS]
 |x::l=>by
  have b:=Af a l;unfold fS
  cases hl:fS a l with
  |none=>
   have:=b.1 hl;simp only[ite_eq_right_iff,reduceCtorEq,imp_false,bD,forall_eq_or_imp];constructor
   .intro h; exact⟨by omega,this⟩
   .intro h; omega
  |some y=>
   have:=sK a l y hl;constructor
   .intro h; simp only at h; split at h<;>cases h
   .intro h; exfalso; have:=h y (by simp[this.1]); omega
theorem Or{l m:List Bk}(f:l.Pairwise (fun x y=>x.a<y.a))(g:m.Pairwise (fun x y=>x.a≤y.a))(h:l.Perm m):l=m:=by
 induction l generalizing m with
 |nil=>exact (List.nil_perm.1 h).symm
 |cons x l j=>
  have d:=dN.1 f
  cases m with
  |nil=>exact absurd (List.perm_nil.1 h) (by simp)
  |cons y m=>
   have e:=dN.1 g;have i:x=y:=by
    have b:x∈y::m:=h.mem_iff.1 (by simp);have c:y∈x::l:=h.mem_iff.2 (by simp);rcases bD.1 b with b|b
    .exact b
    .rcases bD.1 c with c|c
     .exact c.symm
     .have:=d.1 y c;have:=e.1 x b;omega
   subst i;rw[j d.2 e.2 (List.Perm.cons_inv h)]
def oT(o:Int)(x y:Bk):Prop:=bK x y∧(x.o<o→bP x≠y)∧(y.o<o→bP y≠x)
theorem oT.symm{o:Int}{x y:Bk}(h:oT o x y):oT o y x:=⟨h.1.symm,h.2.2,h.2.1⟩
theorem wW{o:Int}{b:Bk}(d:cZ o=true)(h:bY o b=true):(2*aW b.o ∣ b.a∧bP b=⟨b.a+aW b.o,b.o⟩)∨(¬2*aW b.o ∣ b.a∧bP b=⟨b.a-aW b.o,b.o⟩):=by
 have e:=fB d;have f:=fY d h;unfold bP;rw[fJ (by omega) (by omega)]
 by_cases c:b.a % (2*aW b.o)=0
 .exact .inl ⟨zB c,by rw[aK c]⟩
 .exact .inr ⟨fun h=>c (Int.emod_eq_zero_of_dvd h),by rw[aF c]⟩
theorem Ot{s a:Int}(b:0<s)(f:s ∣ a)(c:0≤a)(g:¬2*s ∣ a):2*s ∣ a-s∧s≤a:=by
 obtain⟨p,rfl⟩:=f;have j:0≤p:=Int.nonneg_of_mul_nonneg_right c b;have i:p % 2=1:=by
  rcases Int.emod_two_eq p with h|h
  .exfalso
   apply g;obtain⟨q,rfl⟩:=zB h;exact⟨q,by rw[Int.mul_comm 2 s,Int.mul_assoc]⟩
  .exact h
 have e:s*p-s=2*s*(p / 2):=by
  have:p=2*(p / 2)+1:=by omega
  have d:s*p=s*(2*(p / 2)+1):=by rw[←this]
  rw[d,Int.mul_add,←Int.mul_assoc,Int.mul_comm s 2];omega
 refine⟨⟨_,e⟩,?_⟩;have:s*1≤s*p:=Int.mul_le_mul_of_nonneg_left (by omega) (Int.le_of_lt b);omega
theorem sL{o:Int}{b:Bk}(e:cZ o=true)(h:bY o b=true)(r:b.o<o):
  bY o ⟨min b.a (bP b).a,b.o+1⟩=true∧bY o (bP b)=true∧(bP b).o=b.o∧((b.a=min b.a (bP b).a∧(bP b).a=b.a+aW b.o)∨((bP b).a=min b.a (bP b).a∧b.a=(bP b).a+aW b.o))∧bP (bP b)=b:=by
 have d:=fY e h;have s:=eA b.o;have k:aW (b.o+1)=2*aW b.o:=sH d.1;have p:2*aW b.o ∣ aW o:=by rw[←k]; exact uI (by omega)
 have l:=d.2.2.2.2;rcases wW e h with⟨f,c⟩|⟨q,c⟩
 .have n:b.a+2*aW b.o≤aW o:=Ad (by omega) f p (by omega);have i:bY o (bP b)=true:=by
   rw[c,pW e];exact⟨d.1,d.2.1,by simp only; omega,by simp only; omega,wB l (vZ _)⟩
  refine⟨?_,i,by rw[c],.inl ⟨by rw[c]; simp only; omega,by rw[c]⟩,?_⟩
  .rw[c,pW e];simp only;rw[show min b.a (b.a+aW b.o)=b.a by omega,k];exact⟨by omega,by omega,d.2.2.1,n,f⟩
  .rcases wW e i with⟨g,j⟩|⟨_,j⟩
   .exfalso
    rw[c]at g;simp only at g;have m:=Int.dvd_sub g f;rw[show b.a+aW b.o-b.a=aW b.o by omega]at m;have:=Int.le_of_dvd (by omega) m;omega
   .rw[j,c];simp only;rw[show b.a+aW b.o-aW b.o=b.a by omega]
 .obtain⟨f,n⟩:=Ot (by omega) l d.2.2.1 q;have i:bY o (bP b)=true:=by
   rw[c,pW e];exact⟨d.1,d.2.1,by simp only; omega,by simp only; omega,Int.dvd_sub l (vZ _)⟩
  refine⟨?_,i,by rw[c],.inr ⟨by rw[c]; simp only; omega,by rw[c]; simp only; omega⟩,?_⟩
  .rw[c,pW e];simp only;rw[show min b.a (b.a-aW b.o)=b.a-aW b.o by omega,k];exact⟨by omega,by omega,by omega,by omega,f⟩
  .rcases wW e i with⟨_,j⟩|⟨g,_⟩
   .rw[j,c];simp only;rw[show b.a-aW b.o+aW b.o=b.a by omega]
   .exfalso
    apply g;rw[c];exact f
structure gC(o:Int)(l:List Bk):Prop where
 may:∀b∈l,bY o b=true
 sort:l.Pairwise (fun x y=>x.a<y.a)
 side:l.Pairwise (oT o)
theorem oU{o:Int}(e:cZ o=true){l:List Bk}:gX o l=true↔gC o l:=by
 rw[lX];constructor
 .rintro⟨_,a,b⟩;refine⟨a,b.imp fun h=>h.1,?_⟩;refine List.Pairwise.imp_of_mem ?_ b;intro x y i m h;refine⟨h.2.1.symm,fun j c=>?_,fun k c=>h.2.2 ⟨k,c⟩⟩;have f:=sL e (a x i) j;rw[c]at f;exact h.2.2 ⟨by omega,f.2.2.2.2⟩
 .rintro⟨g,a,b⟩;exact⟨e,g,(a.and b).imp fun h=>⟨h.1,h.2.1.symm,fun d=>h.2.2.2 d.1 d.2⟩⟩
theorem gC.perm_side{o:Int}{l m:List Bk}(h:l.Perm m):l.Pairwise (oT o)↔m.Pairwise (oT o):=h.pairwise_iff fun h=>h.symm
theorem gC.drop{o:Int}{l:List Bk}(h:gC o l)(b:Bk):gC o (fZ l b):=
 ⟨fun x a=>h.may x (List.mem_filter.1 a).1,h.sort.filter _,h.side.filter _⟩
theorem gC.with{o:Int}{l:List Bk}{b:Bk}(h:gC o l)(d:bY o b=true)(c:∀x∈l,oT o b x):gC o (gY l b):=by
 refine⟨fun x a=>?_,Fk l b h.sort fun x a e=>?_,(gC.perm_side (pX l b)).2 (.cons c h.side)⟩
 .rcases bD.1 ((pX l b).mem_iff.1 a) with rfl|a
  .exact d
  .exact h.may x a
 .have:=(c x a).1;have:=eA b.o;have:=eA x.o;unfold bK at *;omega
theorem Fm{o d:Int}(h:cZ o=true)(M:0≤d)(R:List Bk):∀(n:Nat)(b:Bk)(c:List Bk),b.o-d≤n→d≤b.o→bY o b=true→gC o c→(b::(c++R)).Pairwise bK→
  (iO d n b c).1.o=d∧(iO d n b c).1.a=b.a∧bY o (iO d n b c).1=true∧gC o (iO d n b c).2∧((iO d n b c).1::((iO d n b c).2++R)).Pairwise bK∧
   aW d+bV (iO d n b c).2=aW b.o+bV c
 |0,b,c,O,P,l,i,m=>by
  have:b.o=d:=by omega
  exact⟨this,rfl,l,i,m,by rw[this]; rfl⟩
 |n+1,b,c,O,P,l,i,m=>by
  unfold iO
  by_cases C:d<b.o
  .rw[aK C];have s:=fY h l;obtain⟨e,k,rfl⟩:∃e k,b=⟨e,k+1⟩:=⟨b.a,b.o-1,by simp⟩
   simp only[Int.add_sub_cancel]at *;have g:aW (k+1)=2*aW k:=sH (by omega);have T:=eA k;have z:aW k ∣ e:=Dt (uI (by omega)) s.2.2.2.2;have S:bY o ⟨e,k⟩=true:=(pW h).2 ⟨by simp only; omega,by simp only; omega,s.2.2.1,by simp only; omega,z⟩;have F:bY o ⟨e+aW k,k⟩=true:=(pW h).2 ⟨by simp only; omega,by simp only; omega,by simp only; omega,by simp only; omega,wB z (vZ _)⟩;have p:=dN.1 m;have N:∀x∈c,oT o ⟨e+aW k,k⟩ x:=fun x f=>by
    have r:=p.1 x (cV.2 (.inl f));have U:=eA x.o;have q:bP ⟨e+aW k,k⟩=⟨e,k⟩:=by
     have A:=s.2.2.2.2;rw[g]at A;rcases wW h F with⟨B,_⟩|⟨_,q⟩
     .exfalso
      simp only at B;have y:=Int.dvd_sub B A;rw[show e+aW k-e=aW k by omega]at y;have:=Int.le_of_dvd (by omega) y;omega
     .rw[q];simp
    refine⟨by unfold bK at *; simp only[g]at *; omega,fun _ j=>?_,fun Q j=>?_⟩
    .rw[q]at j;subst j;unfold bK at r;simp only[g]at *;omega
    .have D:=sL h (i.may x f) Q;rw[j,q]at D;rw[←D.2.2.2.2]at r;unfold bK at r;simp only[g]at *;omega
   have E:=pX c ⟨e+aW k,k⟩;obtain⟨G,H,I,J,K,L⟩:=Fm h M R n ⟨e,k⟩ (gY c ⟨e+aW k,k⟩) (by simp only; omega) (by simp only; omega) S (i.with F N) (by
    refine (nU ((E.append_right R).cons _)).2 ?_;refine .cons (fun x f=>?_) (.cons (fun x f=>?_) p.2)
    .rcases bD.1 f with rfl|f
     .unfold bK; simp
     .have:=p.1 x f; have:=eA x.o; unfold bK at *; simp only[g]at *; omega
    .have:=p.1 x f; have:=eA x.o; unfold bK at *; simp only[g]at *; omega)
   refine⟨G,H,I,J,K,?_⟩;rw[L,sG E,iM,g];simp only;omega
  .rw[aF C];have:b.o=d:=by omega
   exact⟨this,rfl,l,i,m,by rw[this]⟩
theorem Fo{o d:Int}{a R:List Bk}{b:Bk}{e:List Bk}(g:cZ o=true)(r:0≤d)(f:gC o a)(x:(a++R).Pairwise bK)(h:kG d a=some (b,e)):
  b.o=d∧bY o b=true∧gC o e∧(b::(e++R)).Pairwise bK∧aW d+bV e=bV a:=by
 unfold kG at h
 cases hb:fS d a with
 |none=>rw[hb]at h; cases h
 |some c=>
  rw[hb]at h;simp only[oL,Option.some.injEq]at h;obtain⟨n,s,y⟩:=sK d a c hb;have q:=f.may c n;have z:=fB g;have A:=fY g q;have p:=uK a c f.sort n;obtain⟨i,_,j,k,l,m⟩:=Fm g r R 9 c (fZ a c) (by omega) s q (f.drop c) ((nU (p.append_right R)).1 x);rw[h]at i j k l m;exact⟨i,j,k,l,by rw[m,sG p,iM]⟩
theorem Ou{o:Int}(p:cZ o=true)(R:List Bk):∀(n:Nat)(b:Bk)(c:List Bk),o-b.o≤n→bY o b=true→gC o c→(b::(c++R)).Pairwise bK→
  gC o (eW o n b c)∧(eW o n b c++R).Pairwise bK∧bV (eW o n b c)=aW b.o+bV c:=by
 have last:∀(b:Bk)(c:List Bk),bY o b=true→gC o c→(b::(c++R)).Pairwise bK→(b.o<o→bP b∉c)→gC o (gY c b)∧(gY c b++R).Pairwise bK∧bV (gY c b)=aW b.o+bV c:=fun b c f d g j=>by
  have A:=pX c b;have k:=dN.1 g;refine⟨d.with f fun x e=>⟨k.1 x (cV.2 (.inl e)),fun l m=>j l (m▸e),fun J m=>?_⟩,(nU (A.append_right R)).2 g,by rw[sG A,iM]⟩;have z:=sL p (d.may x e) J;rw[m]at z;exact j (by omega) (z.2.2.2.2▸e)
 intro n
 induction n with
 |zero=>
  intro b c j f d g;exact last b c f d g fun h=>absurd h (by omega)
 |succ n K=>
  intro b c j f d g;unfold eW
  by_cases i:(decide (b.o<o)&&c.any fun x=>decide (x=bP b))=true
  .rw[aK i];simp only[bH,bR,mM]at i;obtain⟨G,x,e,rfl⟩:=i;obtain⟨L,N,C,O,_⟩:=sL p f G;have H:=fY p f;have q:aW (b.o+1)=2*aW b.o:=sH H.1;have M:=eA b.o;have r:=uK c _ d.sort e;have I:(b::bP b::(fZ c (bP b)++R)).Pairwise bK:=(nU ((r.append_right R).cons b)).1 g;have k:=dN.1 I;have s:=dN.1 k.2;obtain⟨D,E,F⟩:=K ⟨min b.a (bP b).a,b.o+1⟩ (fZ c (bP b)) (by simp only; omega) L (d.drop _) (.cons (fun y B=>by
    have e1:=k.1 y (by simp only[bD]; exact .inr B);have e2:=s.1 y B;have:=eA y.o;unfold bK at *;rw[C]at e2;simp only[q];omega) s.2)
   refine⟨D,E,?_⟩;rw[F,sG r,iM,C,q];omega
  .rw[aF i];refine last b c f d g fun l e=>i ?_;simp only[bH,bR,mM];exact⟨l,_,e,rfl⟩
structure Opn where
 (k h i n m v t:Int)
deriving DecidableEq
def kX(obs:List Ob)(t:Int):Prop:=t=0∨∃x∈obs,x.h=t
theorem Ag{a:List Ob}{t:Int}:eI a t=true↔kX a t:=by
 unfold eI kX;simp[mM]
theorem Ah(next:Int):∀(l:List Ob)(last:Int),sJ next last l=true↔(∀x∈l,last<x.h∧x.h<next)∧l.Pairwise (fun x y=>x.h<y.h)
 |[],_=>by simp[sJ]
 |x::l,last=>by
  simp only[sJ,bH,bR,Ah next l,bD,forall_eq_or_imp,dN];constructor
  .rintro⟨⟨c,d⟩,b,e⟩;exact⟨⟨⟨c,d⟩,fun y a=>by have:=b y a; omega⟩,fun y a=>(b y a).1,e⟩
  .rintro⟨⟨⟨c,d⟩,b⟩,e,f⟩;exact⟨⟨c,d⟩,fun y a=>⟨e y a,(b y a).2⟩,f⟩
structure HOk(h:Hp):Prop where
 reg:cZ h.order=true
 free:gC h.order h.free
 next:1≤h.next∧h.next≤1000001
 rise:(∀x∈h.obs,0<x.h∧x.h<h.next)∧h.obs.Pairwise (fun x y=>x.h<y.h)
 each:∀x∈h.obs,cQ x.ws.length x.ls.length=x.b.o∧bY h.order x.b=true
 apart:(h.free++h.obs.map (·.b)).Pairwise bK
 sum:bV h.free+bV (h.obs.map (·.b))=aW h.order
 links:∀x∈h.obs,∀t∈x.ls,kX h.obs t
 tops:∀t∈h.tops,kX h.obs t
theorem pY(l:List Bk):(l.length:Int)≤bV l:=by
 induction l with
 |nil=>exact iG _
 |cons x l a=>rw[iM,eS]; have:=eA x.o; omega
theorem uL{o:Int}(h:o≤8):aW o≤256:=by
 unfold aW;have a:(2:Nat) ^ o.toNat≤2 ^ 8:=rH (by omega) (by omega);have e:((2 ^ o.toNat:Nat):Int)=2 ^ o.toNat:=by simp
 omega
theorem gE{h:Hp}:cR h=true↔HOk h:=by
 unfold cR uJ wU obB aG;simp only[bH,bR,mL,Ag,Ah];constructor
 .rintro⟨a,c,k,d,e,⟨f,g⟩,i,j⟩;have l:=((lX _ _).1 a).1;exact⟨l,(oU l).1 a,c,d,e,f,by rw[←uH]; exact g,i,j⟩
 .rintro⟨a,c,k,d,e,f,g,i,j⟩;have m:=fB a;refine⟨(oU a).2 c,k,?_,d,e,⟨f,by unfold lO; rw[uH]; exact g⟩,i,j⟩;have:=pY (h.obs.map (·.b));have:=pY h.free;have:=uL (o:=h.order) (by omega);rw[dD]at *;omega
def wX(obs:List Ob)(t:Int):Option Nat:=obs.findIdx? fun x=>decide (x.h=t)
def gF(t:Int)(l:List Int):List Int:=l.map fun x=>if x=t then 0 else x
def jG(h:Hp)(n k:Int):Hp×Int×Int:=
 if cQ n k<0 then (h,53,0) else if 1000000<h.next then (h,2,0) else
 match (if cQ n k≤h.order then kG (cQ n k) h.free else none) with
 |none=>(h,50,0)
 |some (b,free)=>({h with obs:=h.obs++[⟨h.next,b,List.replicate n.toNat 0,List.replicate k.toNat 0⟩],free:=free,next:=h.next+1},0,h.next)
def oV(h:Hp)(p:Nat)(g:Ob):Hp:=
 {order:=h.order,next:=h.next,t0:=if h.t0=g.h then 0 else h.t0,t1:=if h.t1=g.h then 0 else h.t1,t2:=if h.t2=g.h then 0 else h.t2,t3:=if h.t3=g.h then 0 else h.t3,
  obs:=(h.obs.eraseIdx p).map fun x=>{x with ls:=gF g.h x.ls},free:=eW h.order 9 g.b h.free}
def lY(h:Hp)(o:Opn)(p:Nat)(g:Ob):Hp×Int×Int:=
 if o.k=2 then (oV h p g,0,0) else
 if o.k=4∨o.k=7 then
  if 0≤o.i∧o.i<g.ls.length then
   if o.k=4 then (if eI h.obs o.t=true then ({h with obs:=h.obs.set p {g with ls:=g.ls.set o.i.toNat o.t}},0,0) else (h,51,0)) else (h,0,g.ls.getD o.i.toNat 0)
  else (h,52,0)
 else
  if 0≤o.i∧o.i<g.ws.length then
   if o.k=3 then ({h with obs:=h.obs.set p {g with ws:=g.ws.set o.i.toNat o.v}},0,0) else (h,0,g.ws.getD o.i.toNat 0)
  else (h,52,0)
def pZ(h:Hp)(i:Int)(t:Int):Hp:=if i=0 then {h with t0:=t} else if i=1 then {h with t1:=t} else if i=2 then {h with t2:=t} else {h with t3:=t}
def qA(h:Hp)(o:Opn):Hp×Int×Int:=
 if 0≤o.i∧o.i<4 then
  if o.k=8 then (h,0,h.tops.getD o.i.toNat 0) else if eI h.obs o.t=true then (pZ h o.i o.t,0,0) else (h,51,0)
 else (h,52,0)
def eB(h:Hp)(o:Opn):Hp×Int×Int:=
 if o.k=1 then jG h o.n o.m else
 if o.k=2∨o.k=3∨o.k=4∨o.k=6∨o.k=7 then
  match wX h.obs o.h with
  |none=>(h,51,0)
  |some p=>match h.obs[p]? with
   |none=>(h,51,0)
   |some g=>lY h o p g
 else if o.k=5∨o.k=8 then qA h o else (h,54,0)
theorem qB{n k:Int}(h:¬cQ n k<0):0≤n∧n≤32∧0≤k∧k≤16:=by
 unfold cQ at h
 split at h
 .rename_i a;unfold aG at a;simp only[bH,bR]at a;omega
 .omega
theorem Ov{h:Hp}(H:HOk h)(n k:Int):HOk (jG h n k).1:=by
 unfold jG
 split
 .exact H
 split
 .exact H
 rename_i o a
 split
 .exact H
 rename_i b f c;have z:=qB o;have p:kG (cQ n k) h.free=some (b,f):=by
  split at c
  .exact c
  .cases c
 obtain⟨g,j,l,m,s⟩:=Fo (R:=h.obs.map (·.b)) H.reg (by omega) H.free H.apart p;have i:∀t,kX h.obs t→kX (h.obs++[⟨h.next,b,List.replicate n.toNat 0,List.replicate k.toNat 0⟩]) t:=fun t c=>by
  rcases c with rfl|⟨x,a,rfl⟩
  .exact .inl rfl
  .exact .inr ⟨x,by simp[a],rfl⟩
 refine⟨H.reg,l,by have:=H.next; simp only; omega,⟨fun x a=>?_,?_⟩,fun x a=>?_,?_,?_,fun x a t d=>?_,fun t q=>i t (H.tops t q)⟩
 .rcases cV.1 a with a|a
  .have:=H.rise.1 x a; simp only; omega
  .rw[bZ.1 a]; have:=H.next; simp only; omega
 .rw[rP];refine⟨H.rise.2,by simp,fun x a y r=>?_⟩;rw[bZ.1 r];exact (H.rise.1 x a).2
 .rcases cV.1 a with a|a
  .exact H.each x a
  .rw[bZ.1 a];refine⟨?_,j⟩;simp only[yX];rw[g,show ((n.toNat:Nat):Int)=n by omega,show ((k.toNat:Nat):Int)=k by omega]
 .simp only[fW,mJ,tQ];refine (nU ?_).1 m;rw[←cH];exact (Mp (l₁:=[b]) (l₂:=f++h.obs.map (·.b)))
 .simp only[fW,mJ,tQ,uH,iM,g];have:=H.sum;have e:bV []=0:=rfl;omega
 .rcases cV.1 a with a|a
  .exact i t (H.links x a t d)
  .rw[bZ.1 a]at d;exact .inl (List.mem_replicate.1 d).2
theorem Fp{h:Hp}(H:HOk h){p:Nat}{g g':Ob}(z:h.obs[p]? =some g)(n:g'.h=g.h)(l:g'.b=g.b)(A:g'.ws.length=g.ws.length)(r:g'.ls.length=g.ls.length)(s:∀t∈g'.ls,kX h.obs t):HOk {h with obs:=h.obs.set p g'}:=by
 obtain⟨k,e⟩:=iZ.1 z;have m:g∈h.obs:=e▸cU k;have o:(h.obs.set p g').map (·.b)=h.obs.map (·.b):=by
  rw[rU,l,←e];apply rL;intro i;rw[rM]
  split
  .rename_i d;subst d;simp[k]
  .rfl
 have q:(h.obs.set p g').map (·.h)=h.obs.map (·.h):=by
  rw[rU,n,←e];apply rL;intro i;rw[rM]
  split
  .rename_i d;subst d;simp[k]
  .rfl
 have j:∀t,kX h.obs t→kX (h.obs.set p g') t:=fun t c=>by
  rcases c with rfl|⟨x,a,rfl⟩
  .exact .inl rfl
  .have:x.h∈(h.obs.set p g').map (·.h):=by rw[q]; exact cP.2 ⟨x,a,rfl⟩
   obtain⟨y,B,d⟩:=cP.1 this;exact .inr ⟨y,B,d⟩
 refine⟨H.reg,H.free,H.next,⟨fun x a=>?_,?_⟩,fun x a=>?_,?_,?_,fun x a t c=>?_,fun t c=>j t (H.tops t c)⟩
 .rcases yY a with a|rfl
  .exact H.rise.1 x a
  .rw[n]; exact H.rise.1 g m
 .have:=H.rise.2;show (h.obs.set p g').Pairwise (fun x y=>x.h<y.h);rw[←Dp (f:=fun x:Ob=>x.h) (R:=(· < ·)),q,Dp];exact this
 .rcases yY a with a|rfl
  .exact H.each x a
  .rw[l,A,r]; exact H.each g m
 .show (h.free++(h.obs.set p g').map (·.b)).Pairwise bK;rw[o]; exact H.apart
 .show bV h.free+bV ((h.obs.set p g').map (·.b))=aW h.order;rw[o]; exact H.sum
 .rcases yY a with a|rfl
  .exact j t (H.links x a t c)
  .exact j t (s t c)
theorem Fq:∀(l:List Ob)(p:Nat)(a:p<l.length),l.Perm (l[p]::l.eraseIdx p)
 |x::l,0,_=>.refl _
 |x::l,p+1,a=>((Fq l p (by simpa using a)).cons x).trans (.swap _ _ _)
theorem Ox{h:Hp}(H:HOk h){p:Nat}{g:Ob}(C:h.obs[p]? =some g):HOk (oV h p g):=by
 obtain⟨l,i⟩:=iZ.1 C;have j:g∈h.obs:=i▸cU l;have F:=fB H.reg;have q:h.obs.Perm (g::h.obs.eraseIdx p):=by rw[←i]; exact Fq _ _ l
 have n:(h.free++h.obs.map (·.b)).Perm (g.b::(h.free++(h.obs.eraseIdx p).map (·.b))):=
  ((q.map (·.b)).append_left h.free).trans List.perm_middle
 have m:((h.obs.eraseIdx p).map fun x=>({x with ls:=gF g.h x.ls}:Ob)).map (·.b)=(h.obs.eraseIdx p).map (·.b):=by
  rw[vV]; rfl
 obtain⟨r,s,z⟩:=Ou H.reg ((h.obs.eraseIdx p).map (·.b)) 9 g.b h.free (by have:=fY H.reg (H.each g j).2; omega) (H.each g j).2 H.free ((nU n).1 H.apart);have k:∀t,kX h.obs t→kX ((h.obs.eraseIdx p).map fun x=>({x with ls:=gF g.h x.ls}:Ob)) (if t=g.h then 0 else t):=fun t a=>by
  split
  .exact .inl rfl
  .rename_i B;rcases a with rfl|⟨x,c,rfl⟩
   .exact .inl rfl
   .rcases bD.1 (q.mem_iff.1 c) with rfl|E
    .exact absurd rfl B
    .exact .inr ⟨_,cP.2 ⟨x,E,rfl⟩,rfl⟩
 have e:=Dk h.obs p;refine⟨H.reg,r,H.next,⟨fun x c=>?_,?_⟩,fun x c=>?_,?_,?_,fun x c t a=>?_,fun t a=>?_⟩
 .obtain⟨y,d,rfl⟩:=cP.1 c;exact H.rise.1 y (e.mem d)
 .show ((h.obs.eraseIdx p).map _).Pairwise _;rw[Dp];exact H.rise.2.sublist e
 .obtain⟨y,d,rfl⟩:=cP.1 c;have:=H.each y (e.mem d);show cQ y.ws.length (gF g.h y.ls).length=y.b.o∧bY h.order y.b=true;unfold gF;rw[dD];exact this
 .show (eW h.order 9 g.b h.free++((h.obs.eraseIdx p).map fun x=>({x with ls:=gF g.h x.ls}:Ob)).map (·.b)).Pairwise bK;rw[m]; exact s
 .show bV (eW h.order 9 g.b h.free)+bV (((h.obs.eraseIdx p).map fun x=>({x with ls:=gF g.h x.ls}:Ob)).map (·.b))=aW h.order;rw[m,z];have A:=H.sum;rw[←uH,sG n,iM,uH]at A;omega
 .obtain⟨y,d,rfl⟩:=cP.1 c;simp only[gF]at a;obtain⟨u,f,rfl⟩:=cP.1 a;exact k u (H.links y (e.mem d) u f)
 .have D:∃u∈h.tops,t=if u=g.h then 0 else u:=by
   simp only[Hp.tops,oV,bD,dF,or_false]at a;rcases a with rfl|rfl|rfl|rfl
   .exact⟨h.t0,by simp[Hp.tops],rfl⟩
   .exact⟨h.t1,by simp[Hp.tops],rfl⟩
   .exact⟨h.t2,by simp[Hp.tops],rfl⟩
   .exact⟨h.t3,by simp[Hp.tops],rfl⟩
  obtain⟨u,f,rfl⟩:=D;exact k u (H.tops u f)
theorem Oy{h:Hp}(H:HOk h)(o:Opn):HOk (eB h o).1:=by
 unfold eB
 split
 .exact Ov H _ _
 split
 .split
  .exact H
  .split
   .exact H
   .rename_i p _ _ g c;obtain⟨f,e⟩:=iZ.1 c;have d:g∈h.obs:=e▸cU f;unfold lY
    split
    .exact Ox H c
    split
    .split
     .split
      .split
       .rename_i b;refine Fp H c rfl rfl rfl (by simp) fun t a=>?_;rcases yY a with a|rfl
        .exact H.links g d t a
        .exact Ag.1 b
       .exact H
      .exact H
     .exact H
    .split
     .split
      .exact Fp H c rfl rfl (by simp) rfl fun t a=>H.links g d t a
      .exact H
     .exact H
 split
 .unfold qA
  split
  .split
   .exact H
   split
   .rename_i b;have b:=Ag.1 b;have a:=H.tops;simp only[Hp.tops,bD,dF,or_false,forall_eq_or_imp,forall_eq]at a;unfold pZ
    repeat' split
    all_goals
     refine⟨H.reg,H.free,H.next,H.rise,H.each,H.apart,H.sum,H.links,?_⟩;simp only[Hp.tops,bD,dF,or_false,forall_eq_or_imp,forall_eq];simp only[a,b,and_self]
   .exact H
  .exact H
 .exact H
theorem Fr{h:Hp}(H:cR h=true)(o:Opn):cR (eB h o).1=true:=gE.2 (Oy (gE.1 H) o)
end
end Go.Proofs.YtoncgpddjmgbfaaGreat
