import Derived.Test.YthalbagblhkeaaaGreatZ01
namespace Go.Proofs.YthalbagblhkeaaaGreat
open Go.RowKit Go.Proofs.Tryz
set_option maxRecDepth 100000
set_option maxHeartbeats 12800000
set_option linter.unusedVariables false
set_option linter.unusedSimpArgs false
section
def bE(x y:Bk):Prop:=x.a+aJ x.o≤y.a∨y.a+aJ y.o≤x.a
theorem qW{x y:Bk}:eW x y=false↔bE x y:=by
 unfold eW bE;rw[Bool.and_eq_false_iff,decide_eq_false_iff_not,decide_eq_false_iff_not];omega
theorem bE.symm{x y:Bk}(h:bE x y):bE y x:=by unfold bE at *; omega
theorem eG(o:Int):1≤aJ o:=by
 unfold aJ;have a:(1:Nat)≤2 ^ o.toNat:=uD;have e:((2 ^ o.toNat:Nat):Int)=2 ^ o.toNat:=by simp
 omega
theorem iU(b:Bk)(l:List Bk):bW (b::l)=aJ b.o+bW l:=by simp[bW]
theorem qX(l m:List Bk):bW (l++m)=bW l+bW m:=by simp[bW,List.sum_append]
theorem tF{l m:List Bk}(h:l.Perm m):bW l=bW m:=by
 induction h with
 |nil=>rfl
 |cons x _ a=>rw[iU,iU,a]
 |swap x y l=>simp only[iU]; omega
 |trans _ _ h1 h2=>rw[h1,h2]
def iV:Int→List Bk→Bool
 |_,[]=>true
 |E,b::l=>decide (b.a=E)&&iV (E+aQ b.o) l
theorem Gt:∀(l:List Bk)(E:Int),(∀b∈l,0≤b.o∧b.o≤8)→iV E l=true→
  (∀b∈l,E≤b.a∧b.a+aJ b.o≤E+bW l)∧l.Pairwise bE
 |[],_,_,_=>⟨by simp,.nil⟩
 |b::l,E,f,h=>by
  simp only[iV,bI,bP]at h;have e:=f b (by simp);rw[fD e.1 e.2]at h;obtain⟨d,i⟩:=Gt l _ (fun x c=>f x (by simp[c])) h.2;have k:=eG b.o;have g:∀(l:List Bk),0≤bW l:=fun l=>by
   induction l with
   |nil=>exact iQ _
   |cons x l d=>rw[iU]; have:=eG x.o; omega
  have j:=g l;refine⟨fun x c=>?_,.cons (fun x c=>?_) i⟩
  .rw[iU];rcases bA.1 c with rfl|c
   .omega
   .have:=d x c; omega
  .have:=d x c; exact .inl (by omega)
theorem Bv:∀(l:List Bk)(E N:Int),E≤N→(∀b∈l,E≤b.a∧b.a+aJ b.o≤N)→l.Pairwise (fun x y=>x.a≤y.a)→l.Pairwise bE→bW l≤N-E
 |[],E,N,h,_,_,_=>by simp[bW]; omega
 |b::l,E,N,_,h,e,d=>by
  have g:=h b (by simp);have m:=eG b.o;rw[iU];have:=Bv l (b.a+aJ b.o) N g.2 (fun x c=>by
   have i:=h x (by simp[c]);have f:=(eE.1 d).1 x c;have j:=(eE.1 e).1 x c;have k:=eG x.o;unfold bE at f;omega) (eE.1 e).2 (eE.1 d).2
  omega
theorem Gu:∀(l:List Bk)(E N:Int),(∀b∈l,0≤b.o∧b.o≤8)→(∀b∈l,E≤b.a∧b.a+aJ b.o≤N)→l.Pairwise (fun x y=>x.a≤y.a)→l.Pairwise bE→bW l=N-E→iV E l=true
 |[],_,_,_,_,_,_,_=>rfl
 |b::l,E,N,g,h,e,d,m=>by
  have n:=h b (by simp);have i:=g b (by simp);have z:=eG b.o;rw[iU]at m;have f:∀x∈l,b.a+aJ b.o≤x.a∧x.a+aJ x.o≤N:=fun x c=>by
   have p:=h x (by simp[c]);have j:=(eE.1 d).1 x c;have q:=(eE.1 e).1 x c;have r:=eG x.o;unfold bE at j;omega
  have s:=Bv l (b.a+aJ b.o) N n.2 f (eE.1 e).2 (eE.1 d).2;have k:b.a=E:=by omega
  simp only[iV,bI,bP];refine⟨k,?_⟩;rw[fD i.1 i.2];exact Gu l _ N (fun x c=>g x (by simp[c])) (fun x c=>by have:=f x c; omega) (eE.1 e).2 (eE.1 d).2 (by omega)
theorem oL{l m:List Bk}(h:l.Perm m):l.Pairwise bE↔m.Pairwise bE:=h.pairwise_iff fun h=>h.symm
theorem Gx(N:Int){l m:List Bk}(c:l.Perm m)(k:m.Pairwise (fun x y=>x.a≤y.a))(h:∀b∈l,0≤b.o∧b.o≤8∧0≤b.a):
  (iV 0 m=true∧bW m=N)↔(l.Pairwise bE∧(∀b∈l,b.a+aJ b.o≤N)∧bW l=N):=by
 have i:∀b∈m,0≤b.o∧b.o≤8:=fun b d=>by have:=h b (c.mem_iff.2 d); omega
 rw[tF c];constructor
 .rintro⟨j,g⟩;obtain⟨e,f⟩:=Gt m 0 i j;exact⟨(oL c).2 f,fun b d=>by have:=e b (c.mem_iff.1 d); omega,g⟩
 .rintro⟨e,f,g⟩;exact⟨Gu m 0 N i (fun b d=>⟨(h b (c.mem_iff.2 d)).2.2,f b (c.mem_iff.2 d)⟩) k ((oL c).1 e) (by omega),g⟩
def Gap(o:Int)(x b:Bk):Prop:=x.a<b.a∧bE b x∧¬(b.o<o∧aY b=x)
theorem Qm{o:Int}{b x:Bk}:kR o b x=true↔Gap o x b:=by
 unfold kR Gap;simp only[bI,pA,decide_eq_false_iff_not,Bool.and_eq_false_imp,bP,qW,not_and];constructor
 .rintro⟨d,a,c⟩; exact⟨by omega,a,c⟩
 .rintro⟨d,a,c⟩; exact⟨by omega,a,c⟩
theorem Gy(o:Int):∀(l pre:List Bk),lC o pre l=true↔(∀b∈l,bN o b=true)∧(∀b∈l,∀x∈pre,Gap o x b)∧l.Pairwise (Gap o)
 |[],pre=>by simp[lC]
 |b::l,pre=>by
  simp only[lC,bI,nD,Gy o l,Qm,eE,bA,dF,dW,or_false,forall_eq_or_imp];constructor
  .rintro⟨f,g,h,e,i⟩;exact⟨⟨f,h⟩,⟨g,fun c a x d=>e c a x (.inl d)⟩,fun c a=>e c a b (.inr rfl),i⟩
  .rintro⟨⟨f,h⟩,⟨g,e⟩,i,j⟩;refine⟨f,g,h,fun c a x d=>?_,j⟩;rcases d with d|rfl
   .exact e c a x d
   .exact i c a
theorem Bx(o:Int)(c:cP o=true)(l:List Bk)(f:∀b∈l,bN o b=true)(a:l.Pairwise (Gap o)):(l.length:Int)≤aJ o:=by
 have i:=eF c;have g:=Bv l 0 (aJ o) (by have:=eG o; omega) (fun b e=>by
  have:=fI c (f b e);rw[fD this.1 (by omega),fD (o:=o) (by omega) (by omega)]at this;omega) (a.imp fun h=>Int.le_of_lt h.1) (a.imp fun h=>h.2.1.symm)
 have d:∀l:List Bk,(l.length:Int)≤bW l:=fun l=>by
  induction l with
  |nil=>exact iQ _
  |cons x l j=>rw[iU,eV]; have:=eG x.o; omega
 have:=d l;omega
theorem iJ(o:Int)(l:List Bk):gL o l=true↔cP o=true∧(∀b∈l,bN o b=true)∧l.Pairwise (Gap o):=by
 rw[←xC];unfold tE;simp only[bI,Gy,bP];constructor
 .rintro⟨a,e,c,_,d⟩; exact⟨a,c,d⟩
 .rintro⟨a,c,d⟩; exact⟨a,Bx o a l c d,c,by simp,d⟩
theorem By{s x y:Int}(a:0<s)(c:s ∣ x)(d:s ∣ y)(h:x<y):x+s≤y:=by
 obtain⟨p,rfl⟩:=c;obtain⟨r,rfl⟩:=d;have e:p<r:=Int.lt_of_mul_lt_mul_left h (Int.le_of_lt a);have b:s*(p+1)≤s*r:=Int.mul_le_mul_of_nonneg_left (by omega) (Int.le_of_lt a);rw[Int.mul_add]at b;omega
theorem qY{i j:Int}(h:i≤j):aJ i ∣ aJ j:=by
 unfold aJ;obtain⟨d,a⟩:∃d,j.toNat=i.toNat+d:=⟨j.toNat-i.toNat,by omega⟩
 rw[a,Int.pow_add];exact Int.dvd_mul_right _ _
theorem qZ{k:Int}(h:0≤k):aJ (k+1)=2*aJ k:=by
 unfold aJ;rw[show (k+1).toNat=k.toNat+1 by omega,Int.pow_succ];omega
theorem xD{x y:Bk}(h:x.o≤y.o)(c:aJ x.o ∣ x.a)(g:aJ y.o ∣ y.a):(y.a≤x.a∧x.a+aJ x.o≤y.a+aJ y.o)∨bE x y:=by
 have i:=eG x.o;have b:=qY h;have d:aJ x.o ∣ y.a:=wJ b g;unfold bE
 by_cases e:x.a<y.a
 .have:=By (by omega) c d e; omega
 .by_cases f:x.a<y.a+aJ y.o
  .have:=By (by omega) c (uJ d b) f; omega
  .omega
def kS(bs:List Bk)(b:Bk):Bool:= !(bs.any fun x=>eW b x)
theorem xE{bs:List Bk}{b:Bk}:kS bs b=true↔∀x∈bs,bE b x:=by
 unfold kS;rw[pA,pF];exact forall_congr' fun x=>forall_congr' fun _=>by rw[zY,qW]
def cC(bs:List Bk):Nat→Int→List Bk
 |0,a=>if kS bs ⟨a,0⟩=true then [⟨a,0⟩] else []
 |k+1,a=>if kS bs ⟨a,(k+1:Nat)⟩=true then [⟨a,(k+1:Nat)⟩] else cC bs k a++cC bs k (a+aJ k)
structure oM(o:Int)(F bs:List Bk):Prop where
 reg:cP o=true
 may:∀b∈F++bs,bN o b=true
 gap:F.Pairwise (Gap o)
 apart:(F++bs).Pairwise bE
 sum:bW (F++bs)=aJ o
theorem gV{o:Int}{b:Bk}(d:cP o=true)(h:bN o b=true):0≤b.o∧b.o≤o∧0≤b.a∧b.a+aJ b.o≤aJ o∧aJ b.o ∣ b.a:=by
 have e:=eF d;have c:=fI d h;rw[fD c.1 (by omega),fD (o:=o) (by omega) (by omega)]at c;exact⟨c.1,c.2.1,c.2.2.2.1,c.2.2.2.2.2.1,zP c.2.2.2.2.2.2.1⟩
theorem Gz:∀(l:List Bk)(E p:Int),(∀b∈l,0≤b.o∧b.o≤8)→iV E l=true→E≤p→p<E+bW l→∃b∈l,b.a≤p∧p<b.a+aJ b.o
 |[],E,p,_,_,g,c=>by simp[bW]at c; omega
 |b::l,E,p,f,h,g,c=>by
  have e:=f b (by simp);simp only[iV,bI,bP]at h;rw[fD e.1 e.2]at h;rw[iU]at c
  by_cases j:p<E+aJ b.o
  .exact⟨b,by simp,by omega,by omega⟩
  .obtain⟨x,d,i⟩:=Gz l _ p (fun x d=>f x (by simp[d])) h.2 (by omega) (by omega);exact⟨x,by simp[d],i⟩
section
variable {o:Int}{F bs:List Bk}
theorem oM.point(T:oM o F bs){p:Int}(g:0≤p)(k:p<aJ o):∃b∈F++bs,b.a≤p∧p<b.a+aJ b.o:=by
 have l:=eF T.reg;have d:=fun b c=>gV T.reg (T.may b c);have e:(F++bs).Perm ((F++bs).mergeSort fun x y=>decide (x.a≤y.a)):=(List.mergeSort_perm _ _).symm;have j:((F++bs).mergeSort fun x y=>decide (x.a≤y.a)).Pairwise (fun x y=>x.a≤y.a):=by
  have:=List.pairwise_mergeSort (le:=fun(x y:Bk)=>decide (x.a≤y.a)) (by simp; omega) (by simp; omega) (F++bs);exact this.imp fun h=>by simpa using h
 have f:=(Gx (aJ o) e j (fun b c=>by have:=d b c; omega)).2 ⟨T.apart,fun b c=>(d b c).2.2.2.1,T.sum⟩;obtain⟨b,c,i⟩:=Gz _ 0 p (fun b c=>by have:=d b (e.mem_iff.2 c); omega) f.1 g (by rw[f.2]; omega);exact⟨b,e.mem_iff.2 c,i⟩
theorem oM.mem(T:oM o F bs):∀(k:Nat)(a:Int),(k:Int)≤o→aJ k ∣ a→0≤a→a+aJ k≤aJ o→(∀x∈bs,bE ⟨a,k⟩ x)→(∀b∈F,b.o≤k∨bE b ⟨a,k⟩)→(⟨a,k⟩:Bk)∈F
 |0,a,_,_,m,J,g,q=>by
  have z:aJ ((0:Nat):Int)=1:=rfl;obtain⟨b,c,D,d⟩:=T.point (p:=a) m (by omega);rcases dF.1 c with f|f
  .rcases q b f with h|h
   .have:=gV T.reg (T.may b c);obtain⟨i,j⟩:=b;simp only at *;obtain rfl:j=0:=by omega
    have:aJ 0=1:=rfl;obtain rfl:i=a:=by omega
    exact f
   .unfold bE at h;simp only[z]at h;omega
  .have:=g b f;unfold bE at this;simp only[z]at this;omega
 |k+1,a,V,r,m,J,g,q=>by
  have e:aJ ((k+1:Nat):Int)=2*aJ k:=qZ (k:=(k:Int)) (by omega);have z:=eG k
  by_cases I:(⟨a,(k+1:Nat)⟩:Bk)∈F
  .exact I
  .exfalso
   have H:aJ (k:Int) ∣ a:=wJ (qY (by omega)) r;have G:∀b∈F,b.o≤k∨bE b ⟨a,(k+1:Nat)⟩:=fun b c=>by
    rcases q b c with h|h
    .by_cases L:b.o≤k
     .exact .inl L
     .have M:=gV T.reg (T.may b (by simp[c]));rcases xD (x:=b) (y:=⟨a,(k+1:Nat)⟩) h M.2.2.2.2 r with d|d
      .exfalso
       obtain⟨i,j⟩:=b;simp only at *;obtain rfl:j=(k+1:Nat):=by omega
       obtain rfl:i=a:=by omega
       exact I c
      .exact .inr d
    .exact .inr h
   have R:=T.mem k a (by omega) H m (by omega) (fun x A=>by have:=g x A; unfold bE at *; simp only[e]at *; omega) (fun b c=>by
    rcases G b c with h|h
    .exact .inl h
    .refine .inr ?_; unfold bE at *; simp only[e]at *; omega)
   have S:=T.mem k (a+aJ k) (by omega) (uJ H (uH _)) (by omega) (by omega) (fun x A=>by have:=g x A; unfold bE at *; simp only[e]at *; omega) (fun b c=>by
    rcases G b c with h|h
    .exact .inl h
    .refine .inr ?_; unfold bE at *; simp only[e]at *; omega)
   have Q:∀(l:List Bk),l.Pairwise (Gap o)→(⟨a,k⟩:Bk)∈l→(⟨a+aJ k,k⟩:Bk)∈l→False:=fun l=>by
    induction l with
    |nil=>intro _ h; cases h
    |cons y l P=>
     intro N D d;have s:=eE.1 N;rcases bA.1 D with rfl|E
     .rcases bA.1 d with h|n
      .have:=bG Bk.a h; simp only at this; omega
      .have:=(s.1 _ n).2.2;apply this;have U:=eF T.reg;refine⟨by simp only; omega,?_⟩;have O:=fD (o:=(k:Int)) (by omega) (by omega);unfold aY;simp only[O];rw[aC]
       .simp
       .intro K;have B:2*aJ (k:Int) ∣ a+aJ k:=zP K;rw[←e]at B;have C:=Int.dvd_sub B r;rw[show a+aJ (k:Int)-a=aJ k by omega]at C;have:=Int.le_of_dvd (by omega) C;omega
     .rcases bA.1 d with rfl|n
      .have:=(s.1 _ E).1;simp only at this;omega
      .exact P s.2 E n
   exact Q F T.gap R S
theorem Qo{l:List Bk}{p:Bk→Bool}{b:Bk}(k:l.Pairwise (fun x y=>x.a<y.a))(f:b∈l)(i:p b=true)(e:∀x∈l,p x=true→x=b):l.filter p=[b]:=by
 induction l with
 |nil=>cases f
 |cons y l m=>
  have g:=eE.1 k
  by_cases d:p y=true
  .have:=e y (by simp) d;subst this;rw[oA d,List.filter_eq_nil_iff.2];intro x c j;have:=e x (by simp[c]) j;subst this;have:=g.1 x c;omega
  .rw[nA d];rcases bA.1 f with rfl|h
   .exact absurd i d
   .exact m g.2 h fun x c=>e x (by simp[c])
theorem Qp{l:List Bk}{p q r:Bk→Bool}(c:Int)(s:l.Pairwise (fun x y=>x.a<y.a))(j:∀x∈l,r x=(p x||q x))(f:∀x∈l,p x=true→x.a<c)(i:∀x∈l,q x=true→c≤x.a):l.filter r=l.filter p++l.filter q:=by
 induction l with
 |nil=>rfl
 |cons y l z=>
  have k:=eE.1 s;have g:=z k.2 (fun x d=>j x (by simp[d])) (fun x d=>f x (by simp[d])) (fun x d=>i x (by simp[d]));have e:=j y (by simp);have m:=f y (by simp);have h:=i y (by simp)
  cases hpy:p y
  .cases b:q y
   .rw[hpy,b]at e;rw[nA (by simp[e]),nA (by simp[hpy]),nA (by simp[b]),g]
   .rw[hpy,b]at e;have n:l.filter p=[]:=List.filter_eq_nil_iff.2 fun x d o=>by
     have:=f x (by simp[d]) o;have:=k.1 x d;have:=h b;omega
    rw[oA (by simp[e]),nA (by simp[hpy]),oA b,g,n];rfl
  .have b:q y=false:=by
    cases b:q y
    .rfl
    .have:=m hpy; have:=h b; omega
   rw[hpy,b]at e;rw[oA (by simp[e]),oA hpy,nA (by simp[b]),g];rfl
def xF(a:Int)(k:Int)(b:Bk):Bool:=decide (a≤b.a)&&decide (b.a+aJ b.o≤a+aJ k)
theorem oN{a k:Int}{b:Bk}:xF a k b=true↔a≤b.a∧b.a+aJ b.o≤a+aJ k:=by unfold xF; simp
theorem oM.inside(T:oM o F bs):∀(k:Nat)(a:Int),(k:Int)≤o→aJ k ∣ a→0≤a→a+aJ k≤aJ o→(∀b∈F,b.o≤k∨bE b ⟨a,k⟩)→F.filter (xF a k)=cC bs k a:=by
 have K:F.Pairwise (fun x y=>x.a<y.a):=T.gap.imp fun h=>h.1;have N:F.Pairwise bE:=(pB.1 T.apart).1;have I:∀x∈F,∀y∈bs,bE x y:=(pB.1 T.apart).2.2;have one:∀(k:Nat)(a:Int),(⟨a,k⟩:Bk)∈F→F.filter (xF a k)=[⟨a,k⟩]:=fun k a J=>by
  refine Qo K J (oN.2 ⟨iQ _,iQ _⟩) fun x d C=>?_;have O:=oN.1 C;have G:=eG x.o;have S:∀(l:List Bk),l.Pairwise bE→∀x∈l,∀y∈l,x=y∨bE x y:=fun l P=>by
   induction l with
   |nil=>intro x d; cases d
   |cons z l s=>
    have E:=eE.1 P;intro x d y i;rcases bA.1 d with g|g
    .rcases bA.1 i with c|c
     .exact .inl (g.trans c.symm)
     .exact .inr (g▸E.1 y c)
    .rcases bA.1 i with c|c
     .exact .inr (c▸(E.1 x g).symm)
     .exact s E.2 x g y c
  rcases S F N x d _ J with h|h
  .exact h
  .unfold bE at h; simp only at h; omega
 intro k
 induction k with
 |zero=>
  intro a D j n B p;unfold cC
  by_cases e:kS bs ⟨a,0⟩=true
  .rw[aE e];exact one 0 a (T.mem 0 a D j n B (xE.1 e) p)
  .rw[aC e,List.filter_eq_nil_iff];intro x d C;apply e;have O:=oN.1 C;have m:=gV T.reg (T.may x (by simp[d]));have G:=eG x.o;have g:aJ ((0:Nat):Int)=1:=rfl;refine xE.2 fun y i=>?_;have:=I x d y i;unfold bE at *;have:aJ 0=1:=rfl;simp only at *;omega
 |succ k s=>
  intro a D j n B p;have r:aJ ((k+1:Nat):Int)=2*aJ k:=qZ (k:=(k:Int)) (by omega);have U:=eG k;unfold cC
  by_cases e:kS bs ⟨a,(k+1:Nat)⟩=true
  .rw[aE e];exact one (k+1) a (T.mem (k+1) a D j n B (xE.1 e) p)
  .rw[aC e];have R:(⟨a,(k+1:Nat)⟩:Bk)∉F:=fun h=>e (xE.2 fun y i=>I _ h y i);have q:aJ (k:Int) ∣ a:=wJ (qY (by omega)) j;have A:∀b∈F,b.o≤k∨bE b ⟨a,(k+1:Nat)⟩:=fun b f=>by
    rcases p b f with h|h
    .by_cases Q:b.o≤k
     .exact .inl Q
     .have m:=gV T.reg (T.may b (by simp[f]));rcases xD (x:=b) (y:=⟨a,(k+1:Nat)⟩) h m.2.2.2.2 j with c|c
      .exfalso
       obtain⟨L,M⟩:=b;simp only at *;obtain rfl:M=(k+1:Nat):=by omega
       obtain rfl:L=a:=by omega
       exact R f
      .exact .inr c
    .exact .inr h
   rw[←s a (by omega) q n (by omega) (fun b f=>by
     rcases A b f with h|h
     .exact .inl h
     .refine .inr ?_; unfold bE at *; simp only[r]at *; omega),
    ←s (a+aJ k) (by omega) (uJ q (uH _)) (by omega) (by omega) (fun b f=>by
     rcases A b f with h|h
     .exact .inl h
     .refine .inr ?_; unfold bE at *; simp only[r]at *; omega)]
   refine Qp (a+aJ k) K (fun x d=>?_) (fun x d h=>?_) (fun x d h=>(oN.1 h).1)
   .rw[qQ,sV,oN,oN,oN,r];have m:=gV T.reg (T.may x (by simp[d]));have G:=eG x.o;rcases A x d with h|h
    .rcases xD (x:=x) (y:=⟨a,k⟩) h m.2.2.2.2 q with c|c
     .simp only at *; omega
     .rcases xD (x:=x) (y:=⟨a+aJ k,k⟩) h m.2.2.2.2 (uJ q (uH _)) with H|H
      .simp only at *; omega
      .unfold bE at c H; simp only at *; omega
    .unfold bE at h; simp only[r]at h; omega
   .have:=oN.1 h;have G:=eG x.o;omega
theorem oM.free_eq(T:oM o F bs):F=cC bs o.toNat 0:=by
 have e:=eF T.reg;have d:((o.toNat:Nat):Int)=o:=by omega
 have c:∀b∈F,bN o b=true:=fun b a=>T.may b (by simp[a]);rw[←T.inside o.toNat 0 (by omega) (Int.dvd_zero _) (iQ _) (by rw[d]; omega) (fun b a=>.inl (by have:=gV T.reg (c b a); omega)),List.filter_eq_self.2];intro b a;have:=gV T.reg (c b a);rw[oN,d];omega
end
theorem oO{o:Int}{b:Bk}(d:cP o=true):bN o b=true↔0≤b.o∧b.o≤o∧0≤b.a∧b.a+aJ b.o≤aJ o∧aJ b.o ∣ b.a:=by
 constructor
 .exact gV d
 .rintro⟨c,e,f,h,g⟩;have i:=eF d;unfold bN;rw[fD c (by omega),fD (o:=o) (by omega) (by omega)];simp only[bI,bP];exact⟨c,e,f,by omega,Int.emod_eq_zero_of_dvd g⟩
theorem Qr(bs:List Bk)(b:Bk)(c:0≤b.o)(d:b.o≤8):cC bs b.o.toNat b.a=if kS bs b=true then [b] else if 0<b.o then cC bs (b.o-1).toNat b.a++cC bs (b.o-1).toNat (b.a+aQ (b.o-1)) else []:=by
 obtain⟨a,o⟩:=b;simp only at *;obtain⟨k,rfl⟩:∃k:Nat,o=k:=⟨o.toNat,by omega⟩
 rw[eR]
 cases k with
 |zero=>unfold cC; simp
 |succ k=>
  rw[cC,fD (by omega) (by omega),show ((k+1:Nat):Int)-1=k by omega,eR,aE (show (0:Int)<((k+1:Nat):Int) by omega)]
def xJ(bs l:List Bk):List Bk:=(l.map fun b=>cC bs b.o.toNat b.a).flatten
def lD:List Bk→Nat
 |[]=>0
 |b::l=>(2*2 ^ b.o.toNat-1)+lD l
theorem Ha{b:Bk}(l:List Bk)(h:0<b.o):lD (⟨b.a,b.o-1⟩::⟨b.a+aQ (b.o-1),b.o-1⟩::l)<lD (b::l):=by
 simp only[lD];have c:b.o.toNat=(b.o-1).toNat+1:=by omega
 rw[c,wL];have:=uD (n:=(b.o-1).toNat);omega
theorem tG(b:Bk)(l:List Bk):lD l<lD (b::l):=by
 rw[lD];have:=uD (n:=b.o.toNat);omega
instance (x y:Bk):Decidable (bE x y):=by unfold bE; infer_instance
def kT(n:Int):Int:=if n≤1 then 0 else if n≤2 then 1 else if n≤4 then 2 else if n≤8 then 3 else if n≤16 then 4 else if n≤32 then 5 else 6
def bX(w l:Int):Int:=if (aF w 0 32&&aF l 0 16)=true then kT (1+w+l) else -1
def dS(obs:List Ob)(t:Int):Bool:=decide (t=0)||obs.any fun x=>decide (x.h=t)
def tH(next:Int):Int→List Ob→Bool
 |_,[]=>true
 |last,x::l=>(decide (last<x.h)&&decide (x.h<next))&&tH next x.h l
def obB(o:Int)(x:Ob):Bool:=decide (bX x.ws.length x.ls.length=x.b.o)&&bN o x.b
def obM(o:Int)(x:Ob):Bool:=decide (bX x.ws.length x.ls.length=x.b.o)&&(aF x.b.o 0 o&&(aF x.b.a 0 (aQ o)&&decide (x.b.a % aQ x.b.o=0)))
def lX(h:Hp):List Bk:=h.free++h.obs.map (·.b)
def xK(h:Hp):Bool:=h.obs.all fun x=>x.ls.all (dS h.obs)
def uX(h:Hp):Bool:=decide ((lX h).Pairwise bE)&&decide (bW (lX h)=aJ h.order)
def cO(h:Hp):Bool:=gL h.order h.free&&(aF h.next 1 1000001&&(decide ((h.obs.length:Int)≤256)&&(tH h.next 0 h.obs&&(h.obs.all (obB h.order)&&(uX h&&(xK h&&h.tops.all (dS h.obs)))))))
theorem Qs(w l:Int): -1≤bX w l∧bX w l≤6:=by
 unfold bX kT
 repeat' split
 all_goals omega
theorem Qt{o:Int}{x:Ob}(a:cP o=true)(h:obB o x=true):obM o x=true:=by
 unfold obB at h;unfold obM aF;simp only[bI,bP]at *;have:=fI a h.2;omega
theorem Hc{h:Hp}{m:List Bk}(s:(lX h).Perm m)(z:m.Pairwise (fun x y=>x.a≤y.a))(r:gL h.order h.free=true)(l:h.obs.all (obM h.order)=true):
  (iV 0 m&&decide (bW m=aQ h.order))=(h.obs.all (obB h.order)&&uX h):=by
 obtain⟨f,k,_⟩:=(iJ _ _).1 r;have A:=eF f;rw[nD]at l;have n:∀x∈h.obs,bX x.ws.length x.ls.length=x.b.o∧(0≤x.b.o∧x.b.o≤h.order)∧0≤x.b.a∧x.b.a % aQ x.b.o=0:=fun x d=>by
  have:=l x d;unfold obM aF at this;simp only[bI,bP]at this;exact⟨this.1,this.2.1,this.2.2.1.1,this.2.2.2⟩
 have p:∀b∈lX h,0≤b.o∧b.o≤8∧0≤b.a:=fun b c=>by
  rcases dF.1 c with c|c
  .have:=fI f (k b c); omega
  .obtain⟨x,d,rfl⟩:=cX.1 c;have:=n x d; omega
 rw[qQ,bI,bI,bP,fD (o:=h.order) (by omega) (by omega),Gx (aJ h.order) s z p];unfold uX;rw[bI,bP,bP,nD];constructor
 .rintro⟨g,i,j⟩;refine⟨fun x d=>?_,g,j⟩;have e:=n x d;have q:=i x.b (dF.2 (.inr (cX.2 ⟨x,d,rfl⟩)));unfold obB;rw[bI,bP,oO f];have:=p x.b (dF.2 (.inr (cX.2 ⟨x,d,rfl⟩)));rw[fD (by omega) (by omega)]at e;exact⟨e.1,e.2.1.1,e.2.1.2,e.2.2.1,q,zP e.2.2.2⟩
 .rintro⟨g,i,j⟩;refine⟨i,fun b c=>?_,j⟩;rcases dF.1 c with c|c
  .exact (gV f (k b c)).2.2.2.1
  .obtain⟨x,d,rfl⟩:=cX.1 c;have:=g x d;unfold obB at this;rw[bI]at this;exact (gV f this.2).2.2.2.1
theorem Qu{h:Hp}(c:cO h=true):oM h.order h.free (h.obs.map (·.b)):=by
 unfold cO uX at c;simp only[bI,bP]at c;obtain⟨d,_,_,_,e,⟨f,g⟩,_⟩:=c;obtain⟨k,i,j⟩:=(iJ _ _).1 d;refine⟨k,fun b a=>?_,j,f,g⟩;rcases dF.1 a with a|a
 .exact i b a
 .obtain⟨x,l,rfl⟩:=cX.1 a;have:=nD.1 e x l;unfold obB at this;rw[bI]at this;exact this.2
theorem Qv{h:Hp}(a:cO h=true):h.free=cC (h.obs.map (·.b)) h.order.toNat 0:=(Qu a).free_eq
def dL:List Bk→Bk→List Bk
 |[],b=>[b]
 |x::l,b=>if b.a<x.a then b::x::l else x::dL l b
def eJ(l:List Bk)(b:Bk):List Bk:=l.filter fun x=> !decide (x=b)
def eX(want:Int):List Bk→Option Bk
 |[]=>none
 |x::l=>match eX want l with
  |none=>if want≤x.o then some x else none
  |some y=>if want≤x.o∧x.o≤y.o then some x else some y
def fW(want:Int):Nat→Bk→List Bk→Bk×List Bk
 |0,b,out=>(b,out)
 |n+1,b,out=>if want<b.o then fW want n ⟨b.a,b.o-1⟩ (dL out ⟨b.a+aJ (b.o-1),b.o-1⟩) else (b,out)
def iY(want:Int)(free:List Bk):Option (Bk×List Bk):=(eX want free).map fun b=>fW want 9 b (eJ free b)
def dH(o:Int):Nat→Bk→List Bk→List Bk
 |0,b,out=>dL out b
 |n+1,b,out=>if (decide (b.o<o)&&out.any fun x=>decide (x=aY b))=true then dH o n ⟨min b.a (aY b).a,b.o+1⟩ (eJ out (aY b)) else dL out b
theorem pN:∀(l:List Bk)(b:Bk),(dL l b).Perm (b::l)
 |[],_=>.refl _
 |x::l,b=>by
  unfold dL
  split
  .exact .refl _
  .exact ((pN l b).cons x).trans (.swap b x l)
theorem Hd:∀(l:List Bk)(b:Bk),l.Pairwise (fun x y=>x.a<y.a)→(∀x∈l,b.a≠x.a)→(dL l b).Pairwise (fun x y=>x.a<y.a)
 |[],_,_,_=>by simp[dL]
 |x::l,b,f,e=>by
  have d:=eE.1 f;unfold dL
  split
  .rename_i h;refine .cons (fun y c=>?_) f;rcases bA.1 c with rfl|c
   .exact h
   .have:=d.1 y c; omega
  .refine .cons (fun y c=>?_) (Hd l b d.2 fun y c=>e y (by simp[c]));rcases bA.1 ((pN l b).mem_iff.1 c) with rfl|c
   .have:=e x (by simp); omega
   .exact d.1 y c
theorem uY:∀(l:List Bk)(b:Bk),l.Pairwise (fun x y=>x.a<y.a)→b∈l→l.Perm (b::eJ l b)
 |y::l,b,f,e=>by
  have d:=eE.1 f;unfold eJ
  by_cases h:y=b
  .subst h;rw[nA (by simp),List.filter_eq_self.2];intro x g;have:=d.1 x g;have:x≠y:=fun h=>by subst h; omega
   simpa using this
  .rw[oA (by simpa using h)];rcases bA.1 e with c|c
   .exact absurd c.symm h
   .exact ((uY l b d.2 c).cons y).trans (.swap b y _)
theorem rA(c:Int):∀(l:List Bk)(b:Bk),eX c l=some b→b∈l∧c≤b.o∧∀x∈l,c≤x.o→b.o≤x.o
 |x::l,b,h=>by
  unfold eX at h;have i:=rA c l
  cases hl:eX c l with
  |none=>
   rw[hl]at h;simp only at h
   split at h
   .rename_i e
    cases h;refine⟨by simp,e,fun y g p=>?_⟩;rcases bA.1 g with rfl|g
    .exact iQ _
    .exfalso
     have q:∀m:List Bk,y∈m→eX c m≠none:=fun m d=>by
      induction m with
      |nil=>cases d
      |cons z m i=>
       unfold eX;rcases bA.1 d with rfl|d
       .cases eX c m
        .simp[p]
        .simp only; split<;>simp
       .cases a:eX c m
        .exact absurd a (i d)
        .simp only; split<;>simp
     exact q l g hl
   .cases h
  |some y=>
   rw[hl]at h;obtain⟨k,n,j⟩:=i y hl;simp only at h
   split at h
   .rename_i e
    cases h;refine⟨by simp,e.1,fun z a f=>?_⟩;rcases bA.1 a with rfl|a
    .exact iQ _
    .have:=j z a f; omega
   .rename_i e
    cases h;refine⟨by simp[k],n,fun z a f=>?_⟩;rcases bA.1 a with rfl|a
    .omega
    .exact j z a f
def xL(want:Int)(l:List Bk)(b:Bk):Prop:=b∈l∧want≤b.o∧∀x∈l,want≤x.o→b.o<x.o∨(b.o=x.o∧b.a≤x.a)
theorem He(d:Int):∀(l:List Bk)(b:Bk),l.Pairwise (fun x y=>x.a<y.a)→eX d l=some b→xL d l b
 |x::l,b,k,h=>by
  have e:=eE.1 k;have f:=rA d _ b h;refine⟨f.1,f.2.1,fun z c i=>?_⟩;have m:=f.2.2 z c i
  by_cases j:b.o=z.o
  .refine .inr ⟨j,?_⟩;unfold eX at h
   cases hl:eX d l with
   |none=>
    rw[hl]at h;simp only at h
    split at h
    .cases h;rcases bA.1 c with rfl|c
     .exact iQ _
     .have:=e.1 z c; omega
    .cases h
   |some y=>
    rw[hl]at h;simp only at h
    split at h
    .cases h;rcases bA.1 c with rfl|c
     .exact iQ _
     .have:=e.1 z c; omega
    .rename_i n
     cases h;rcases bA.1 c with rfl|c
     .omega
     .rcases (He d l b e.2 hl).2.2 z c i with g|g
      .omega
      .exact g.2
  .exact .inl (by omega)
theorem Qw{e:Int}{l:List Bk}{b c:Bk}(a:xL e l b)(d:xL e l c):b=c:=by
 have j:=a.2.2 c d.1 d.2.1;have k:=d.2.2 b a.1 a.2.1;obtain⟨f,g⟩:=b;obtain⟨h,i⟩:=c;simp only at *;obtain rfl:g=i:=by omega
 obtain rfl:f=h:=by omega
 rfl
theorem Cd(a:Int):∀(l:List Bk),eX a l=none↔∀x∈l,x.o<a
 |[]=>by simp[eX]
 |x::l=>by
  have b:=Cd a l;unfold eX
  cases hl:eX a l with
  |none=>
   have:=b.1 hl;simp only[ite_eq_right_iff,reduceCtorEq,imp_false,bA,forall_eq_or_imp];constructor
   .intro h; exact⟨by omega,this⟩
   .intro h; omega
  |some y=>
   have:=rA a l y hl;constructor
   .intro h; simp only at h; split at h<;>cases h
   .intro h; exfalso; have:=h y (by simp[this.1]); omega
theorem Qx{l m:List Bk}(f:l.Pairwise (fun x y=>x.a<y.a))(g:m.Pairwise (fun x y=>x.a≤y.a))(h:l.Perm m):l=m:=by
 induction l generalizing m with
 |nil=>exact (List.nil_perm.1 h).symm
 |cons x l j=>
  have d:=eE.1 f
  cases m with
  |nil=>exact absurd (List.perm_nil.1 h) (by simp)
  |cons y m=>
   have e:=eE.1 g;have i:x=y:=by
    have b:x∈y::m:=h.mem_iff.1 (by simp);have c:y∈x::l:=h.mem_iff.2 (by simp);rcases bA.1 b with b|b
    .exact b
    .rcases bA.1 c with c|c
     .exact c.symm
     .have:=d.1 y c;have:=e.1 x b;omega
   subst i;rw[j d.2 e.2 (List.Perm.cons_inv h)]
def pO(o:Int)(x y:Bk):Prop:=bE x y∧(x.o<o→aY x≠y)∧(y.o<o→aY y≠x)
theorem pO.symm{o:Int}{x y:Bk}(h:pO o x y):pO o y x:=⟨h.1.symm,h.2.2,h.2.1⟩
theorem xM{o:Int}{b:Bk}(d:cP o=true)(h:bN o b=true):(2*aJ b.o ∣ b.a∧aY b=⟨b.a+aJ b.o,b.o⟩)∨(¬2*aJ b.o ∣ b.a∧aY b=⟨b.a-aJ b.o,b.o⟩):=by
 have e:=eF d;have f:=gV d h;unfold aY;rw[fD (by omega) (by omega)]
 by_cases c:b.a % (2*aJ b.o)=0
 .exact .inl ⟨zP c,by rw[aE c]⟩
 .exact .inr ⟨fun h=>c (Int.emod_eq_zero_of_dvd h),by rw[aC c]⟩
theorem Qy{s a:Int}(b:0<s)(f:s ∣ a)(c:0≤a)(g:¬2*s ∣ a):2*s ∣ a-s∧s≤a:=by
 obtain⟨p,rfl⟩:=f;have j:0≤p:=Int.nonneg_of_mul_nonneg_right c b;have i:p % 2=1:=by
  rcases Int.emod_two_eq p with h|h
  .exfalso
   apply g;obtain⟨q,rfl⟩:=zP h;exact⟨q,by rw[Int.mul_comm 2 s,Int.mul_assoc]⟩
  .exact h
 have e:s*p-s=2*s*(p / 2):=by
  have:p=2*(p / 2)+1:=by omega
  have d:s*p=s*(2*(p / 2)+1):=by rw[←this]
  rw[d,Int.mul_add,←Int.mul_assoc,Int.mul_comm s 2];omega
 refine⟨⟨_,e⟩,?_⟩;have:s*1≤s*p:=Int.mul_le_mul_of_nonneg_left (by omega) (Int.le_of_lt b);omega
theorem rB{o:Int}{b:Bk}(e:cP o=true)(h:bN o b=true)(r:b.o<o):
  bN o ⟨min b.a (aY b).a,b.o+1⟩=true∧bN o (aY b)=true∧(aY b).o=b.o∧((b.a=min b.a (aY b).a∧(aY b).a=b.a+aJ b.o)∨((aY b).a=min b.a (aY b).a∧b.a=(aY b).a+aJ b.o))∧aY (aY b)=b:=by
 have d:=gV e h;have s:=eG b.o;have k:aJ (b.o+1)=2*aJ b.o:=qZ d.1;have p:2*aJ b.o ∣ aJ o:=by rw[←k]; exact qY (by omega)
 have l:=d.2.2.2.2;rcases xM e h with⟨f,c⟩|⟨q,c⟩
 .have n:b.a+2*aJ b.o≤aJ o:=By (by omega) f p (by omega);have i:bN o (aY b)=true:=by
   rw[c,oO e];exact⟨d.1,d.2.1,by simp only; omega,by simp only; omega,uJ l (uH _)⟩
  refine⟨?_,i,by rw[c],.inl ⟨by rw[c]; simp only; omega,by rw[c]⟩,?_⟩
  .rw[c,oO e];simp only;rw[show min b.a (b.a+aJ b.o)=b.a by omega,k];exact⟨by omega,by omega,d.2.2.1,n,f⟩
  .rcases xM e i with⟨g,j⟩|⟨_,j⟩
   .exfalso
    rw[c]at g;simp only at g;have m:=Int.dvd_sub g f;rw[show b.a+aJ b.o-b.a=aJ b.o by omega]at m;have:=Int.le_of_dvd (by omega) m;omega
   .rw[j,c];simp only;rw[show b.a+aJ b.o-aJ b.o=b.a by omega]
 .obtain⟨f,n⟩:=Qy (by omega) l d.2.2.1 q;have i:bN o (aY b)=true:=by
   rw[c,oO e];exact⟨d.1,d.2.1,by simp only; omega,by simp only; omega,Int.dvd_sub l (uH _)⟩
  refine⟨?_,i,by rw[c],.inr ⟨by rw[c]; simp only; omega,by rw[c]; simp only; omega⟩,?_⟩
  .rw[c,oO e];simp only;rw[show min b.a (b.a-aJ b.o)=b.a-aJ b.o by omega,k];exact⟨by omega,by omega,by omega,by omega,f⟩
  .rcases xM e i with⟨_,j⟩|⟨g,_⟩
   .rw[j,c];simp only;rw[show b.a-aJ b.o+aJ b.o=b.a by omega]
   .exfalso
    apply g;rw[c];exact f
structure gW(o:Int)(l:List Bk):Prop where
 may:∀b∈l,bN o b=true
 sort:l.Pairwise (fun x y=>x.a<y.a)
 side:l.Pairwise (pO o)
theorem lE{o:Int}(e:cP o=true){l:List Bk}:gL o l=true↔gW o l:=by
 rw[iJ];constructor
 .rintro⟨_,a,b⟩;refine⟨a,b.imp fun h=>h.1,?_⟩;refine List.Pairwise.imp_of_mem ?_ b;intro x y i m h;refine⟨h.2.1.symm,fun j c=>?_,fun k c=>h.2.2 ⟨k,c⟩⟩;have f:=rB e (a x i) j;rw[c]at f;exact h.2.2 ⟨by omega,f.2.2.2.2⟩
 .rintro⟨g,a,b⟩;exact⟨e,g,(a.and b).imp fun h=>⟨h.1,h.2.1.symm,fun d=>h.2.2.2 d.1 d.2⟩⟩
theorem gW.perm_side{o:Int}{l m:List Bk}(h:l.Perm m):l.Pairwise (pO o)↔m.Pairwise (pO o):=h.pairwise_iff fun h=>h.symm
theorem gW.drop{o:Int}{l:List Bk}(h:gW o l)(b:Bk):gW o (eJ l b):=
 ⟨fun x a=>h.may x (List.mem_filter.1 a).1,h.sort.filter _,h.side.filter _⟩
theorem gW.with{o:Int}{l:List Bk}{b:Bk}(h:gW o l)(d:bN o b=true)(c:∀x∈l,pO o b x):gW o (dL l b):=by
 refine⟨fun x a=>?_,Hd l b h.sort fun x a e=>?_,(gW.perm_side (pN l b)).2 (.cons c h.side)⟩
 .rcases bA.1 ((pN l b).mem_iff.1 a) with rfl|a
  .exact d
  .exact h.may x a
 .have:=(c x a).1;have:=eG b.o;have:=eG x.o;unfold bE at *;omega
theorem Hg{o d:Int}(h:cP o=true)(M:0≤d)(R:List Bk):∀(n:Nat)(b:Bk)(c:List Bk),b.o-d≤n→d≤b.o→bN o b=true→gW o c→(b::(c++R)).Pairwise bE→
  (fW d n b c).1.o=d∧(fW d n b c).1.a=b.a∧bN o (fW d n b c).1=true∧gW o (fW d n b c).2∧((fW d n b c).1::((fW d n b c).2++R)).Pairwise bE∧
   aJ d+bW (fW d n b c).2=aJ b.o+bW c
 |0,b,c,O,P,l,i,m=>by
  have:b.o=d:=by omega
  exact⟨this,rfl,l,i,m,by rw[this]; rfl⟩
 |n+1,b,c,O,P,l,i,m=>by
  unfold fW
  by_cases C:d<b.o
  .rw[aE C];have s:=gV h l;obtain⟨e,k,rfl⟩:∃e k,b=⟨e,k+1⟩:=⟨b.a,b.o-1,by simp⟩
   simp only[Int.add_sub_cancel]at *;have g:aJ (k+1)=2*aJ k:=qZ (by omega);have T:=eG k;have z:aJ k ∣ e:=wJ (qY (by omega)) s.2.2.2.2;have S:bN o ⟨e,k⟩=true:=(oO h).2 ⟨by simp only; omega,by simp only; omega,s.2.2.1,by simp only; omega,z⟩;have F:bN o ⟨e+aJ k,k⟩=true:=(oO h).2 ⟨by simp only; omega,by simp only; omega,by simp only; omega,by simp only; omega,uJ z (uH _)⟩;have p:=eE.1 m;have N:∀x∈c,pO o ⟨e+aJ k,k⟩ x:=fun x f=>by
    have r:=p.1 x (dF.2 (.inl f));have U:=eG x.o;have q:aY ⟨e+aJ k,k⟩=⟨e,k⟩:=by
     have A:=s.2.2.2.2;rw[g]at A;rcases xM h F with⟨B,_⟩|⟨_,q⟩
     .exfalso
      simp only at B;have y:=Int.dvd_sub B A;rw[show e+aJ k-e=aJ k by omega]at y;have:=Int.le_of_dvd (by omega) y;omega
     .rw[q];simp
    refine⟨by unfold bE at *; simp only[g]at *; omega,fun _ j=>?_,fun Q j=>?_⟩
    .rw[q]at j;subst j;unfold bE at r;simp only[g]at *;omega
    .have D:=rB h (i.may x f) Q;rw[j,q]at D;rw[←D.2.2.2.2]at r;unfold bE at r;simp only[g]at *;omega
   have E:=pN c ⟨e+aJ k,k⟩;obtain⟨G,H,I,J,K,L⟩:=Hg h M R n ⟨e,k⟩ (dL c ⟨e+aJ k,k⟩) (by simp only; omega) (by simp only; omega) S (i.with F N) (by
    refine (oL ((E.append_right R).cons _)).2 ?_;refine .cons (fun x f=>?_) (.cons (fun x f=>?_) p.2)
    .rcases bA.1 f with rfl|f
     .unfold bE; simp
     .have:=p.1 x f; have:=eG x.o; unfold bE at *; simp only[g]at *; omega
    .have:=p.1 x f; have:=eG x.o; unfold bE at *; simp only[g]at *; omega)
   refine⟨G,H,I,J,K,?_⟩;rw[L,tF E,iU,g];simp only;omega
  .rw[aC C];have:b.o=d:=by omega
   exact⟨this,rfl,l,i,m,by rw[this]⟩
theorem Hh{o d:Int}{a R:List Bk}{b:Bk}{e:List Bk}(g:cP o=true)(r:0≤d)(f:gW o a)(x:(a++R).Pairwise bE)(h:iY d a=some (b,e)):
  b.o=d∧bN o b=true∧gW o e∧(b::(e++R)).Pairwise bE∧aJ d+bW e=bW a:=by
 unfold iY at h
 cases hb:eX d a with
 |none=>rw[hb]at h; cases h
 |some c=>
  rw[hb]at h;simp only[kL,Option.some.injEq]at h;obtain⟨n,s,y⟩:=rA d a c hb;have q:=f.may c n;have z:=eF g;have A:=gV g q;have p:=uY a c f.sort n;obtain⟨i,_,j,k,l,m⟩:=Hg g r R 9 c (eJ a c) (by omega) s q (f.drop c) ((oL (p.append_right R)).1 x);rw[h]at i j k l m;exact⟨i,j,k,l,by rw[m,tF p,iU]⟩
theorem Qz{o:Int}(p:cP o=true)(R:List Bk):∀(n:Nat)(b:Bk)(c:List Bk),o-b.o≤n→bN o b=true→gW o c→(b::(c++R)).Pairwise bE→
  gW o (dH o n b c)∧(dH o n b c++R).Pairwise bE∧bW (dH o n b c)=aJ b.o+bW c:=by
 have last:∀(b:Bk)(c:List Bk),bN o b=true→gW o c→(b::(c++R)).Pairwise bE→(b.o<o→aY b∉c)→gW o (dL c b)∧(dL c b++R).Pairwise bE∧bW (dL c b)=aJ b.o+bW c:=fun b c f d g j=>by
  have A:=pN c b;have k:=eE.1 g;refine⟨d.with f fun x e=>⟨k.1 x (dF.2 (.inl e)),fun l m=>j l (m▸e),fun K m=>?_⟩,(oL (A.append_right R)).2 g,by rw[tF A,iU]⟩;have z:=rB p (d.may x e) K;rw[m]at z;exact j (by omega) (z.2.2.2.2▸e)
 intro n
 induction n with
 |zero=>
  intro b c j f d g;exact last b c f d g fun h=>absurd h (by omega)
 |succ n L=>
  intro b c j f d g;unfold dH
  by_cases i:(decide (b.o<o)&&c.any fun x=>decide (x=aY b))=true
  .rw[aE i];simp only[bI,bP,kZ]at i;obtain⟨H,x,e,rfl⟩:=i;obtain⟨M,O,C,P,_⟩:=rB p f H;have I:=gV p f;have q:aJ (b.o+1)=2*aJ b.o:=qZ I.1;have N:=eG b.o;have r:=uY c _ d.sort e;have J:(b::aY b::(eJ c (aY b)++R)).Pairwise bE:=(oL ((r.append_right R).cons b)).1 g;have k:=eE.1 J;have s:=eE.1 k.2;obtain⟨E,F,G⟩:=L ⟨min b.a (aY b).a,b.o+1⟩ (eJ c (aY b)) (by simp only; omega) M (d.drop _) (.cons (fun y B=>by
    have e1:=k.1 y (by simp only[bA]; exact .inr B);have D:=s.1 y B;have:=eG y.o;unfold bE at *;rw[C]at D;simp only[q];omega) s.2)
   refine⟨E,F,?_⟩;rw[G,tF r,iU,C,q];omega
  .rw[aC i];refine last b c f d g fun l e=>i ?_;simp only[bI,bP,kZ];exact⟨l,_,e,rfl⟩
structure Opn where
 (k h i n m v t:Int)
deriving DecidableEq
def lF(obs:List Ob)(t:Int):Prop:=t=0∨∃x∈obs,x.h=t
theorem rC{a:List Ob}{t:Int}:dS a t=true↔lF a t:=by
 unfold dS lF;simp[kZ]
theorem Ce(next:Int):∀(l:List Ob)(last:Int),tH next last l=true↔(∀x∈l,last<x.h∧x.h<next)∧l.Pairwise (fun x y=>x.h<y.h)
 |[],_=>by simp[tH]
 |x::l,last=>by
  simp only[tH,bI,bP,Ce next l,bA,forall_eq_or_imp,eE];constructor
  .rintro⟨⟨c,d⟩,b,e⟩;exact⟨⟨⟨c,d⟩,fun y a=>by have:=b y a; omega⟩,fun y a=>(b y a).1,e⟩
  .rintro⟨⟨⟨c,d⟩,b⟩,e,f⟩;exact⟨⟨c,d⟩,fun y a=>⟨e y a,(b y a).2⟩,f⟩
structure HOk(h:Hp):Prop where
 reg:cP h.order=true
 free:gW h.order h.free
 next:1≤h.next∧h.next≤1000001
 rise:(∀x∈h.obs,0<x.h∧x.h<h.next)∧h.obs.Pairwise (fun x y=>x.h<y.h)
 each:∀x∈h.obs,bX x.ws.length x.ls.length=x.b.o∧bN h.order x.b=true
 apart:(h.free++h.obs.map (·.b)).Pairwise bE
 sum:bW h.free+bW (h.obs.map (·.b))=aJ h.order
 links:∀x∈h.obs,∀t∈x.ls,lF h.obs t
 tops:∀t∈h.tops,lF h.obs t
theorem rD(l:List Bk):(l.length:Int)≤bW l:=by
 induction l with
 |nil=>exact iQ _
 |cons x l a=>rw[iU,eV]; have:=eG x.o; omega
theorem nJ{o:Int}(h:o≤8):aJ o≤256:=by
 unfold aJ;have a:(2:Nat) ^ o.toNat≤2 ^ 8:=oX (by omega) (by omega);have e:((2 ^ o.toNat:Nat):Int)=2 ^ o.toNat:=by simp
 omega
theorem eC{h:Hp}:cO h=true↔HOk h:=by
 unfold cO uX xK obB aF;simp only[bI,bP,nD,rC,Ce];constructor
 .rintro⟨a,c,k,d,e,⟨f,g⟩,i,j⟩;have l:=((iJ _ _).1 a).1;exact⟨l,(lE l).1 a,c,d,e,f,by rw[←qX]; exact g,i,j⟩
 .rintro⟨a,c,k,d,e,f,g,i,j⟩;have m:=eF a;refine⟨(lE a).2 c,k,?_,d,e,⟨f,by unfold lX; rw[qX]; exact g⟩,i,j⟩;have:=rD (h.obs.map (·.b));have:=rD h.free;have:=nJ (o:=h.order) (by omega);rw[cW]at *;omega
def pP(obs:List Ob)(t:Int):Option Nat:=obs.findIdx? fun x=>decide (x.h=t)
def eH(t:Int)(l:List Int):List Int:=l.map fun x=>if x=t then 0 else x
def fP(h:Hp)(n k:Int):Hp×Int×Int:=
 if bX n k<0 then (h,53,0) else if 1000000<h.next then (h,2,0) else
 match (if bX n k≤h.order then iY (bX n k) h.free else none) with
 |none=>(h,50,0)
 |some (b,free)=>({h with obs:=h.obs++[⟨h.next,b,List.replicate n.toNat 0,List.replicate k.toNat 0⟩],free:=free,next:=h.next+1},0,h.next)
def nK(h:Hp)(p:Nat)(g:Ob):Hp:=
 {order:=h.order,next:=h.next,t0:=if h.t0=g.h then 0 else h.t0,t1:=if h.t1=g.h then 0 else h.t1,t2:=if h.t2=g.h then 0 else h.t2,t3:=if h.t3=g.h then 0 else h.t3,
  obs:=(h.obs.eraseIdx p).map fun x=>{x with ls:=eH g.h x.ls},free:=dH h.order 9 g.b h.free}
def iK(h:Hp)(o:Opn)(p:Nat)(g:Ob):Hp×Int×Int:=
 if o.k=2 then (nK h p g,0,0) else
 if o.k=4∨o.k=7 then
  if 0≤o.i∧o.i<g.ls.length then
   if o.k=4 then (if dS h.obs o.t=true then ({h with obs:=h.obs.set p {g with ls:=g.ls.set o.i.toNat o.t}},0,0) else (h,51,0)) else (h,0,g.ls.getD o.i.toNat 0)
  else (h,52,0)
 else
  if 0≤o.i∧o.i<g.ws.length then
   if o.k=3 then ({h with obs:=h.obs.set p {g with ws:=g.ws.set o.i.toNat o.v}},0,0) else (h,0,g.ws.getD o.i.toNat 0)
  else (h,52,0)
def pQ(h:Hp)(i:Int)(t:Int):Hp:=if i=0 then {h with t0:=t} else if i=1 then {h with t1:=t} else if i=2 then {h with t2:=t} else {h with t3:=t}
def jG(h:Hp)(o:Opn):Hp×Int×Int:=
 if 0≤o.i∧o.i<4 then
  if o.k=8 then (h,0,h.tops.getD o.i.toNat 0) else if dS h.obs o.t=true then (pQ h o.i o.t,0,0) else (h,51,0)
 else (h,52,0)
def dU(h:Hp)(o:Opn):Hp×Int×Int:=
 if o.k=1 then fP h o.n o.m else
 if o.k=2∨o.k=3∨o.k=4∨o.k=6∨o.k=7 then
  match pP h.obs o.h with
  |none=>(h,51,0)
  |some p=>match h.obs[p]? with
   |none=>(h,51,0)
   |some g=>iK h o p g
 else if o.k=5∨o.k=8 then jG h o else (h,54,0)
theorem oP{n k:Int}(h:¬bX n k<0):0≤n∧n≤32∧0≤k∧k≤16:=by
 unfold bX at h
 split at h
 .rename_i a;unfold aF at a;simp only[bI,bP]at a;omega
 .omega
theorem Ra{h:Hp}(H:HOk h)(n k:Int):HOk (fP h n k).1:=by
 unfold fP
 split
 .exact H
 split
 .exact H
 rename_i o a
 split
 .exact H
 rename_i b f c;have z:=oP o;have p:iY (bX n k) h.free=some (b,f):=by
  split at c
  .exact c
  .cases c
 obtain⟨g,j,l,m,s⟩:=Hh (R:=h.obs.map (·.b)) H.reg (by omega) H.free H.apart p;have i:∀t,lF h.obs t→lF (h.obs++[⟨h.next,b,List.replicate n.toNat 0,List.replicate k.toNat 0⟩]) t:=fun t c=>by
  rcases c with rfl|⟨x,a,rfl⟩
  .exact .inl rfl
  .exact .inr ⟨x,by simp[a],rfl⟩
 refine⟨H.reg,l,by have:=H.next; simp only; omega,⟨fun x a=>?_,?_⟩,fun x a=>?_,?_,?_,fun x a t d=>?_,fun t q=>i t (H.tops t q)⟩
 .rcases dF.1 a with a|a
  .have:=H.rise.1 x a; simp only; omega
  .rw[bQ.1 a]; have:=H.next; simp only; omega
 .rw[pB];refine⟨H.rise.2,by simp,fun x a y r=>?_⟩;rw[bQ.1 r];exact (H.rise.1 x a).2
 .rcases dF.1 a with a|a
  .exact H.each x a
  .rw[bQ.1 a];refine⟨?_,j⟩;simp only[qL];rw[g,show ((n.toNat:Nat):Int)=n by omega,show ((k.toNat:Nat):Int)=k by omega]
 .simp only[gC,kM,wM];refine (oL ?_).1 m;rw[←cR];exact (Ov (l₁:=[b]) (l₂:=f++h.obs.map (·.b)))
 .simp only[gC,kM,wM,qX,iU,g];have:=H.sum;have e:bW []=0:=rfl;omega
 .rcases dF.1 a with a|a
  .exact i t (H.links x a t d)
  .rw[bQ.1 a]at d;exact .inl (List.mem_replicate.1 d).2
theorem Hi{h:Hp}(H:HOk h){p:Nat}{g g':Ob}(z:h.obs[p]? =some g)(n:g'.h=g.h)(l:g'.b=g.b)(A:g'.ws.length=g.ws.length)(r:g'.ls.length=g.ls.length)(s:∀t∈g'.ls,lF h.obs t):HOk {h with obs:=h.obs.set p g'}:=by
 obtain⟨k,e⟩:=iH.1 z;have m:g∈h.obs:=e▸bK k;have o:(h.obs.set p g').map (·.b)=h.obs.map (·.b):=by
  rw[pD,l,←e];apply sR;intro i;rw[sS]
  split
  .rename_i d;subst d;simp[k]
  .rfl
 have q:(h.obs.set p g').map (·.h)=h.obs.map (·.h):=by
  rw[pD,n,←e];apply sR;intro i;rw[sS]
  split
  .rename_i d;subst d;simp[k]
  .rfl
 have j:∀t,lF h.obs t→lF (h.obs.set p g') t:=fun t c=>by
  rcases c with rfl|⟨x,a,rfl⟩
  .exact .inl rfl
  .have:x.h∈(h.obs.set p g').map (·.h):=by rw[q]; exact cX.2 ⟨x,a,rfl⟩
   obtain⟨y,B,d⟩:=cX.1 this;exact .inr ⟨y,B,d⟩
 refine⟨H.reg,H.free,H.next,⟨fun x a=>?_,?_⟩,fun x a=>?_,?_,?_,fun x a t c=>?_,fun t c=>j t (H.tops t c)⟩
 .rcases zN a with a|rfl
  .exact H.rise.1 x a
  .rw[n]; exact H.rise.1 g m
 .have:=H.rise.2;show (h.obs.set p g').Pairwise (fun x y=>x.h<y.h);rw[←zX (f:=fun x:Ob=>x.h) (R:=(· < ·)),q,zX];exact this
 .rcases zN a with a|rfl
  .exact H.each x a
  .rw[l,A,r]; exact H.each g m
 .show (h.free++(h.obs.set p g').map (·.b)).Pairwise bE;rw[o]; exact H.apart
 .show bW h.free+bW ((h.obs.set p g').map (·.b))=aJ h.order;rw[o]; exact H.sum
 .rcases zN a with a|rfl
  .exact j t (H.links x a t c)
  .exact j t (s t c)
theorem Hj:∀(l:List Ob)(p:Nat)(a:p<l.length),l.Perm (l[p]::l.eraseIdx p)
 |x::l,0,_=>.refl _
 |x::l,p+1,a=>((Hj l p (by simpa using a)).cons x).trans (.swap _ _ _)
theorem Rb{h:Hp}(H:HOk h){p:Nat}{g:Ob}(C:h.obs[p]? =some g):HOk (nK h p g):=by
 obtain⟨l,i⟩:=iH.1 C;have j:g∈h.obs:=i▸bK l;have F:=eF H.reg;have q:h.obs.Perm (g::h.obs.eraseIdx p):=by rw[←i]; exact Hj _ _ l
 have n:(h.free++h.obs.map (·.b)).Perm (g.b::(h.free++(h.obs.eraseIdx p).map (·.b))):=
  ((q.map (·.b)).append_left h.free).trans List.perm_middle
 have m:((h.obs.eraseIdx p).map fun x=>({x with ls:=eH g.h x.ls}:Ob)).map (·.b)=(h.obs.eraseIdx p).map (·.b):=by
  rw[pC]; rfl
 obtain⟨r,s,z⟩:=Qz H.reg ((h.obs.eraseIdx p).map (·.b)) 9 g.b h.free (by have:=gV H.reg (H.each g j).2; omega) (H.each g j).2 H.free ((oL n).1 H.apart);have k:∀t,lF h.obs t→lF ((h.obs.eraseIdx p).map fun x=>({x with ls:=eH g.h x.ls}:Ob)) (if t=g.h then 0 else t):=fun t a=>by
  split
  .exact .inl rfl
  .rename_i B;rcases a with rfl|⟨x,c,rfl⟩
   .exact .inl rfl
   .rcases bA.1 (q.mem_iff.1 c) with rfl|E
    .exact absurd rfl B
    .exact .inr ⟨_,cX.2 ⟨x,E,rfl⟩,rfl⟩
 have e:=zQ h.obs p;refine⟨H.reg,r,H.next,⟨fun x c=>?_,?_⟩,fun x c=>?_,?_,?_,fun x c t a=>?_,fun t a=>?_⟩
 .obtain⟨y,d,rfl⟩:=cX.1 c;exact H.rise.1 y (e.mem d)
 .show ((h.obs.eraseIdx p).map _).Pairwise _;rw[zX];exact H.rise.2.sublist e
 .obtain⟨y,d,rfl⟩:=cX.1 c;have:=H.each y (e.mem d);show bX y.ws.length (eH g.h y.ls).length=y.b.o∧bN h.order y.b=true;unfold eH;rw[cW];exact this
 .show (dH h.order 9 g.b h.free++((h.obs.eraseIdx p).map fun x=>({x with ls:=eH g.h x.ls}:Ob)).map (·.b)).Pairwise bE;rw[m]; exact s
 .show bW (dH h.order 9 g.b h.free)+bW (((h.obs.eraseIdx p).map fun x=>({x with ls:=eH g.h x.ls}:Ob)).map (·.b))=aJ h.order;rw[m,z];have A:=H.sum;rw[←qX,tF n,iU,qX]at A;omega
 .obtain⟨y,d,rfl⟩:=cX.1 c;simp only[eH]at a;obtain⟨u,f,rfl⟩:=cX.1 a;exact k u (H.links y (e.mem d) u f)
 .have D:∃u∈h.tops,t=if u=g.h then 0 else u:=by
   simp only[Hp.tops,nK,bA,dW,or_false]at a;rcases a with rfl|rfl|rfl|rfl
   .exact⟨h.t0,by simp[Hp.tops],rfl⟩
   .exact⟨h.t1,by simp[Hp.tops],rfl⟩
   .exact⟨h.t2,by simp[Hp.tops],rfl⟩
   .exact⟨h.t3,by simp[Hp.tops],rfl⟩
  obtain⟨u,f,rfl⟩:=D;exact k u (H.tops u f)
theorem Re{h:Hp}(H:HOk h)(o:Opn):HOk (dU h o).1:=by
 unfold dU
 split
 .exact Ra H _ _
 split
 .split
  .exact H
  .split
   .exact H
   .rename_i p _ _ g c;obtain⟨f,e⟩:=iH.1 c;have d:g∈h.obs:=e▸bK f;unfold iK
    split
    .exact Rb H c
    split
    .split
     .split
      .split
       .rename_i b;refine Hi H c rfl rfl rfl (by simp) fun t a=>?_;rcases zN a with a|rfl
        .exact H.links g d t a
        .exact rC.1 b
       .exact H
      .exact H
     .exact H
    .split
     .split
      .exact Hi H c rfl rfl (by simp) rfl fun t a=>H.links g d t a
      .exact H
     .exact H
 split
 .unfold jG
  split
  .split
   .exact H
   split
   .rename_i b;have b:=rC.1 b;have a:=H.tops;simp only[Hp.tops,bA,dW,or_false,forall_eq_or_imp,forall_eq]at a;unfold pQ
    repeat' split
    all_goals
     refine⟨H.reg,H.free,H.next,H.rise,H.each,H.apart,H.sum,H.links,?_⟩;simp only[Hp.tops,bA,dW,or_false,forall_eq_or_imp,forall_eq];simp only[a,b,and_self]
   .exact H
  .exact H
 .exact H
theorem Hk{h:Hp}(H:cO h=true)(o:Opn):cO (dU h o).1=true:=eC.2 (Re (eC.1 H) o)
end
end Go.Proofs.YthalbagblhkeaaaGreat
