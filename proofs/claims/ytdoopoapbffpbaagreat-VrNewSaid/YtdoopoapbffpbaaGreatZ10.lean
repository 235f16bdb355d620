import Derived.Test.YtdoopoapbffpbaaGreatZ06
namespace Go.Proofs.YtdoopoapbffpbaaGreat
open Go.RowKit Go.Proofs.Tryz
set_option maxRecDepth 100000
set_option maxHeartbeats 12800000
set_option linter.unusedVariables false
set_option linter.unusedSimpArgs false
section
def lJ(x y:Bk):Bool:=decide (x.o<y.o)||(decide (x.o=y.o)&&decide (x.a<y.a))
def LeB(x y:Bk):Prop:=x.o<y.o∨(x.o=y.o∧x.a≤y.a)
theorem xT{x y:Bk}:lJ x y=false↔LeB y x:=by unfold lJ LeB; simp; omega
theorem xU{x y:Bk}(h:lJ x y=true):LeB x y:=by unfold lJ at h; unfold LeB; simp at h; omega
theorem LeB.trans{x y z:Bk}(h:LeB x y)(k:LeB y z):LeB x z:=by unfold LeB at *; omega
theorem LeB.refl(x:Bk):LeB x x:=by unfold LeB; omega
def gN(p c:Nat):Prop:=c=2*p+1∨c=2*p+2
def nM(f:Nat→Bk)(i0 n:Nat):Prop:=∀p,i0≤p→∀c,gN p c→c<n→LeB (f p) (f c)
structure vI(f:Nat→Bk)(i0 n i:Nat):Prop where
 a:∀p,i0≤p→p≠i→∀c,gN p c→c<n→LeB (f p) (f c)
 b:∀p,i0≤p→gN p i→∀c,gN i c→c<n→LeB (f p) (f c)
def nN(f:Nat→Bk)(i j:Nat):Nat→Bk:=fun k=>if k=i then f j else if k=j then f i else f k
theorem Sm{f:Nat→Bk}{b n:Nat}(h:nM f (b+1) n):vI f b n b:=
 ⟨fun p e g c a d=>h p (by omega) c a d,fun p e a _ _ _=>by unfold gN at a; omega⟩
theorem xV{f:Nat→Bk}{g n i:Nat}(h:vI f g n i)(j:∀c,gN i c→c<n→LeB (f i) (f c)):nM f g n:=fun p k c b d=>by
 by_cases e:p=i
 .subst e; exact j c b d
 .exact h.a p k e c b d
theorem Cq{f:Nat→Bk}{o n i j:Nat}(h:vI f o n i)(z:o≤i)(k:gN i j)(s:j<n)(q:LeB (f j) (f i))(r:∀c,gN i c→c<n→LeB (f j) (f c)):vI (nN f i j) o n j:=by
 have A:i<j:=by unfold gN at k; omega
 refine⟨fun p m x c d g=>?_,fun p m y c d g=>?_⟩
 .have C:p<c:=by unfold gN at d; omega
  by_cases e:p=i
  .subst e;unfold nN;rw[aE rfl,aC (by omega)]
   split
   .exact q
   .exact r c d g
  .unfold nN;rw[aC e,aC x]
   by_cases l:c=i
   .rw[aE l]; subst l; exact h.b p m d j k s
   .rw[aC l,aC (by unfold gN at d k; omega)];exact h.a p m e c d g
 .have e:p=i:=by unfold gN at y k; omega
  subst e;have B:j<c:=by unfold gN at d; omega
  unfold nN;rw[aE rfl,aC (by omega),aC (by omega)];exact h.a j (by omega) (by omega) c d g
theorem Sn{f:Nat→Bk}{n:Nat}(h:nM f 0 n):∀k,k<n→LeB (f 0) (f k):=by
 intro k
 induction k using Nat.strongRecOn with
 |_ k c=>
  intro b
  by_cases a:k=0
  .subst a; exact LeB.refl _
  .exact (c ((k-1) / 2) (by omega) (by omega)).trans (h ((k-1) / 2) (by omega) k (by unfold gN; omega) b)
def lK(l:List Bk)(i j:Nat):List Bk:=(l.set i (l.getD j ⟨0,0⟩)).set j (l.getD i ⟨0,0⟩)
def atB(l:List Bk)(k:Nat):Bk:=l.getD k ⟨0,0⟩
theorem Cr(l:List Bk)(i j:Nat):(lK l i j).length=l.length:=by simp[lK]
theorem rJ{l:List Bk}{i j:Nat}(d:i<l.length)(e:j<l.length):atB (lK l i j)=nN (atB l) i j:=by
 funext k
 unfold atB lK nN;rw[kK,sS,sS];simp only[mI]
 by_cases b:j=k
 .subst b;rw[aE rfl,aE e]
  by_cases c:j=i
  .subst c; rw[aE rfl]; rfl
  .rw[aC c,aE rfl]; rfl
 .rw[aC b]
  by_cases a:i=k
  .subst a; rw[aE rfl,aE d,aE rfl]; rfl
  .rw[aC a,aC (fun h=>a h.symm),aC (fun h=>b h.symm)]; rw[kK]
theorem In(l:List Bk)(i:Nat)(y x:Bk)(a:i<l.length):(l.set i y).count x+(if l[i]=x then 1 else 0)=l.count x+(if y=x then 1 else 0):=by
 induction l generalizing i with
 |nil=>simp at a
 |cons z l b=>
  cases i with
  |zero=>
   simp only[aH,List.count_cons,Ot,beq_iff_eq];omega
  |succ i=>
   simp only[aI,List.count_cons,Et];have:=b i (by simpa using a);omega
theorem vJ{l:List Bk}{i j:Nat}(b:i<l.length)(c:j<l.length):(lK l i j).Perm l:=by
 rw[List.perm_iff_count];intro x;have d:l.getD i ⟨0,0⟩=l[i]:=by simp[kK,b]
 have e:l.getD j ⟨0,0⟩=l[j]:=by simp[kK,c]
 have f:=In l i (l[j]) x b;have a:=In (l.set i (l[j])) j (l[i]) x (by simpa using c);rw[List.getElem_set]at a;unfold lK;rw[d,e]
 by_cases h:i=j
 .subst h; rw[aE rfl]at a; omega
 .rw[aC h]at a; omega
theorem xW{l:List Bk}{k:Nat}(h:k<l.length):atB l k=l[k]:=by simp[atB,kK,h]
end
end Go.Proofs.YtdoopoapbffpbaaGreat
