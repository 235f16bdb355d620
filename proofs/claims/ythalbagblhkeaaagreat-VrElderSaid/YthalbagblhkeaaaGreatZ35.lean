import Derived.Test.YthalbagblhkeaaaGreatZ17
import Derived.Test.YthalbagblhkeaaaGreatZ24
import Derived.Test.YthalbagblhkeaaaGreatZ34
import Derived.OpenShut
namespace Go.Proofs.YthalbagblhkeaaaGreat
open Go.RowKit Go.Proofs.Tryz
set_option maxRecDepth 100000
set_option maxHeartbeats 12800000
set_option linter.unusedVariables false
set_option linter.unusedSimpArgs false
section
open Go.RowKit Go.ChangeShapes Go.WideShapes Go.ChangeAt Go.Deep
theorem zL{z:Int}(h:(Lit.int .i64 z).wf=true):inR z:=by
 simp[Lit.wf,IntKind.min,IntKind.max,IntKind.signed,IntKind.bits]at h;exact h
theorem aBl{α:Type}{enc:α→List Value}{a:List (List Value)}{l:List α}(e:l.length=a.length)(f:∀i(h:i<l.length),∃r,a[i]? =some r∧r=enc l[i]):l.map enc=a:=by
 apply List.ext_getElem
 .simp[e]
 .intro i c d;obtain⟨r,e1,b⟩:=f i (by simpa using c);rw[eK d]at e1;injection e1 with e1
  rw[kY,←b,←e1]
section
variable {H:Type}{enc:TypeId×Value→H}{w:World}{base:Nat}{spare:Nat→Bool}{held:Bool}
theorem sP{α:Type}{b:α→List Value}{q:α→Prop}{C f:TypeId}{k:Nat}(z:prog.underlying C=some (.slice f))(K:prog.cellsOf f=k)(F:0<k)
  (L:∀{n:Nat}{r:List Value}{y:DataW H×List MemPlace},DataW.trod enc prog w base spare held n f r=some y→r.length=k→∃x:α,r=b x∧q x)
  {n:Nat} {v:Value} {y:DataW H×List MemPlace} (h:DataW.trod enc prog w base spare held n C [v]=some y):∃l:List α,Sl w w.heap.size v b l∧∀x∈l,q x:=by
 have P:∃A m cap,v=.slice A m cap:=by
  rcases open_slice z h with⟨e,_⟩|⟨x,l,c,_,_,_,_,e,_⟩
  .exact⟨none,0,0,by simpa using e⟩
  .exact⟨some x,l,c,by simpa using e⟩
 obtain⟨A,m,cap,rfl⟩:=P;obtain⟨d,p⟩:=y;obtain⟨B,g,o,G,I,J⟩:=Pd (d:=d) (p:=p) z K F ⟨n,h⟩;obtain⟨l,N,s⟩:=Be (p:=fun i(x:α)=>∃r,B[i]? =some r∧r=b x∧q x) B.length (fun i a=>by
  obtain⟨D,n,y,E⟩:=J _ (bK a);obtain⟨x,j,M⟩:=L E D;exact⟨x,_,eK a,j,M⟩)
 have e:=aBl (enc:=b) N (fun i a=>let ⟨r,g,o,_⟩:=s i a; ⟨r,g,o⟩);have O:l.length=m:=by omega
 subst O;refine⟨l,⟨A,cap,rfl,?_,G,I⟩,fun x j=>?_⟩
 .show Rd w w.heap.size A (l.map b).flatten;rw[e];exact g
 .obtain⟨i,a,rfl⟩:=zU j;obtain⟨_,_,_,h⟩:=s i a;exact h
theorem aBm{n:Nat}{r:List Value}{y:DataW H×List MemPlace}(h:DataW.trod enc prog w base spare held n 3 r=some y)(_:r.length=1):∃x:Int,r=i1 x∧inR x:=by
 obtain⟨z,e,-,a⟩:=DataW.trod_int dD h;exact⟨z,e,zL a⟩
theorem Eq{n:Nat}{v:Value}{y:DataW H×List MemPlace}(h:DataW.trod enc prog w base spare held n 33 [v]=some y):∃l:List Int,Sl w w.heap.size v i1 l∧∀x∈l,inR x:=sP lT (by kernel_rfl) (by omega) aBm h
theorem aBn{n:Nat}{r:List Value}{y:DataW H×List MemPlace}(h:DataW.trod enc prog w base spare held n 26 r=some y)(q:r.length=4):∃a b c d:Int,r=[.i a,.i b,.i c,.i d]:=by
 obtain⟨xs,m,_,_,_,F,f⟩:=DataW.trod_array underlying26 h
 match r,q with
 |[B,C,D,E],_=>
  have e:prog.cellsOf 3=1:=by kernel_rfl
  rw[e]at f;have g:=f 0 (by omega);have i:=f 1 (by omega);have j:=f 2 (by omega);have k:=f 3 (by omega);rw[eK (by omega)]at g i j k;simp only[oF,dP,dO,qK,mZ]at g i j k;obtain⟨s,l,_⟩:=DataW.trod_int dD g;obtain⟨x,e1,_⟩:=DataW.trod_int dD i;obtain⟨z,o,_⟩:=DataW.trod_int dD j;obtain⟨A,p,_⟩:=DataW.trod_int dD k;simp at l e1 o p;subst l e1 o p;exact⟨s,x,z,A,rfl⟩
section
variable {t:TypeId}{fs:Array Field}{r:List Value}{xs:List (DataW H×List MemPlace)}{m:Nat}
def Fd(enc:TypeId×Value→H)(w:World)(base:Nat)(spare:Nat→Bool)(held:Bool)(fs:Array Field)(r:List Value):Prop:=∃m,∀(i:Nat)(f:Field),fs[i]? =some f→∃y,DataW.trod enc prog w base spare held m f.type ((r.drop f.offset).take (prog.cellsOf f.type))=some y
theorem lR{n:Nat}{y:DataW H×List MemPlace}(c:prog.underlying t=some (.struct fs))(h:DataW.trod enc prog w base spare held n t r=some y):Fd enc w base spare held fs r:=by
 obtain⟨xs,m,_,_,_,d,b⟩:=DataW.trod_struct c h;refine⟨m,fun i f a=>⟨xs[i]'(by have:=(fH.1 a).1; omega),?_⟩⟩;rw[b i f a,eK]
theorem iE(h:Fd enc w base spare held fs r)(i:Nat)(f:Field)(c:fs[i]? =some f)(k:Nat)(b:prog.cellsOf f.type=k):∃n y,DataW.trod enc prog w base spare held n f.type ((r.drop f.offset).take k)=some y:=by
 obtain⟨m,h⟩:=h;obtain⟨y,a⟩:=h i f c;rw[b]at a;exact⟨m,y,a⟩
theorem dZ(h:Fd enc w base spare held fs r)(i:Nat)(f:Field)(b:fs[i]? =some f)(c:prog.underlying f.type=some (.int .i64))(a:prog.cellsOf f.type=1):∃z,(r.drop f.offset).take 1=[.i z]∧inR z:=by
 obtain⟨n,y,g⟩:=iE h i f b 1 a;obtain⟨z,e,-,d⟩:=DataW.trod_int c g;exact⟨z,e,zL d⟩
theorem Oi(h:Fd enc w base spare held fs r)(i:Nat)(f:Field)(b:fs[i]? =some f)(c:prog.underlying f.type=some .string)(a:prog.cellsOf f.type=1):∃z,(r.drop f.offset).take 1=[.string z]:=by
 obtain⟨n,y,d⟩:=iE h i f b 1 a;obtain⟨z,e,-⟩:=DataW.trod_string c d;exact⟨z,e⟩
end
theorem aBo{n:Nat}{r:List Value}{y:DataW H×List MemPlace}(h:DataW.trod enc prog w base spare held n 43 r=some y)(p:r.length=7):∃a b c d e f g:Int,r=[.i a,.i b,.i c,.i d,.i e,.i f,.i g]∧inR a∧inR b∧inR c∧inR d∧inR e∧inR f∧inR g:=by
 have h:=lR underlying43 h
 match r,p with
 |[D,E,F,G,I,J,K],_=>
  obtain⟨a,i,q⟩:=dZ h 0 _ rfl underlying41 (by kernel_rfl);obtain⟨b,e1,s⟩:=dZ h 1 _ rfl dD (by kernel_rfl);obtain⟨c,j,x⟩:=dZ h 2 _ rfl dD (by kernel_rfl);obtain⟨d,k,z⟩:=dZ h 3 _ rfl dD (by kernel_rfl);obtain⟨e,l,A⟩:=dZ h 4 _ rfl dD (by kernel_rfl);obtain⟨f,m,B⟩:=dZ h 5 _ rfl dD (by kernel_rfl);obtain⟨g,o,C⟩:=dZ h 6 _ rfl dD (by kernel_rfl);simp at i e1 j k l m o;subst i e1 j k l m o;exact⟨a,b,c,d,e,f,g,rfl,q,s,x,z,A,B,C⟩
theorem aBp{n:Nat}{r:List Value}{y:DataW H×List MemPlace}(h:DataW.trod enc prog w base spare held n 93 r=some y)(f:r.length=11):∃x:En,r=x.cells∧enR x:=by
 have h:=lR underlying93 h
 match r,f with
 |[M,N,P,Q,R,S,T,U,V,W,O],_=>
  obtain⟨A,a,g⟩:=dZ h 0 _ rfl dD (by kernel_rfl);obtain⟨B,e1,i⟩:=dZ h 1 _ rfl dD (by kernel_rfl);obtain⟨D,b,k⟩:=dZ h 2 _ rfl dD (by kernel_rfl);obtain⟨E,c,l⟩:=dZ h 3 _ rfl dD (by kernel_rfl);obtain⟨_,_,e⟩:=iE h 4 _ rfl 7 (by kernel_rfl);obtain⟨F,G,I,J,K,L,C,d,m,o,p,q,s,z,j⟩:=aBo e rfl;simp at d;obtain⟨rfl,rfl,rfl,rfl,rfl,rfl,rfl⟩:=d;simp at a e1 b c;subst a e1 b c;exact⟨⟨A,B,D,E,F,G,I,J,K,L,C⟩,rfl,g,i,k,l,m,o,p,q,s,z,j⟩
theorem Oj{n:Nat}{v:Value}{y:DataW H×List MemPlace}(h:DataW.trod enc prog w base spare held n 22 [v]=some y):∃l:List En,Sl w w.heap.size v En.cells l∧∀x∈l,enR x:=sP wO (by kernel_rfl) (by omega) aBp h
theorem aBq{n:Nat}{r:List Value}{y:DataW H×List MemPlace}(h:DataW.trod enc prog w base spare held n 103 r=some y)(i:r.length=6):∃x:VoV,r=x.cells∧(mS w w.heap.size x∧VoR x.x):=by
 have h:=lR underlying103 h
 match r,i with
 |[s,z,A,B,C,e],_=>
  obtain⟨k,a,D⟩:=dZ h 0 _ rfl dD (by kernel_rfl);obtain⟨l,e1,E⟩:=dZ h 1 _ rfl dD (by kernel_rfl);obtain⟨m,b,F⟩:=dZ h 2 _ rfl dD (by kernel_rfl);obtain⟨o,c,G⟩:=dZ h 3 _ rfl dD (by kernel_rfl);obtain⟨p,d,I⟩:=dZ h 4 _ rfl dD (by kernel_rfl);obtain⟨_,_,g⟩:=iE h 5 _ rfl 1 (by kernel_rfl);obtain⟨q,f,j⟩:=Oj g;simp at a e1 b c d;subst a e1 b c d;exact⟨⟨k,l,m,o,p,q,e⟩,rfl,f,j⟩
theorem aBr{n:Nat}{v:Value}{y:DataW H×List MemPlace}(h:DataW.trod enc prog w base spare held n 34 [v]=some y):∃l:List VoV,Sl w w.heap.size v VoV.cells l∧∀x∈l,mS w w.heap.size x∧VoR x.x:=sP underlying34 (by kernel_rfl) (by omega) aBq h
theorem Ok{n:Nat}{r:List Value}{y:DataW H×List MemPlace}(h:DataW.trod enc prog w base spare held n 150 r=some y)(b:r.length=2):∃x:Bk,r=x.cells∧True:=by
 have h:=lR aC1 h
 match r,b with
 |[e,f],_=>
  obtain⟨c,a,g⟩:=dZ h 0 _ rfl dD (by kernel_rfl);obtain⟨d,e1,i⟩:=dZ h 1 _ rfl dD (by kernel_rfl);simp at a e1;subst a e1;exact⟨⟨c,d⟩,rfl,trivial⟩
theorem aBs{n:Nat}{v:Value}{y:DataW H×List MemPlace}(h:DataW.trod enc prog w base spare held n 27 [v]=some y):∃l:List Bk,Sl w w.heap.size v Bk.cells l∧∀x∈l,True:=sP fC (by kernel_rfl) (by omega) Ok h
theorem aBt{n:Nat}{r:List Value}{y:DataW H×List MemPlace}(h:DataW.trod enc prog w base spare held n 152 r=some y)(j:r.length=5):∃x:ObV,r=x.cells∧((Sl w w.heap.size x.wv i1 x.x.ws∧Sl w w.heap.size x.lv i1 x.x.ls)∧∀z∈x.x.ws,inR z):=by
 have h:=lR underlying152 h
 match r,j with
 |[s,A,B,b,c],_=>
  obtain⟨l,a,C⟩:=dZ h 0 _ rfl dD (by kernel_rfl);obtain⟨_,_,f⟩:=iE h 1 _ rfl 2 (by kernel_rfl);obtain⟨⟨m,o⟩,e1,-⟩:=Ok f rfl;simp[Bk.cells]at e1;obtain⟨rfl,rfl⟩:=e1;obtain⟨_,_,g⟩:=iE h 2 _ rfl 1 (by kernel_rfl);obtain⟨p,d,k⟩:=Eq g;obtain⟨_,_,i⟩:=iE h 3 _ rfl 1 (by kernel_rfl);obtain⟨q,e,D⟩:=Eq i;simp at a;subst a;exact⟨⟨⟨l,⟨m,o⟩,p,q⟩,b,c⟩,rfl,⟨d,e⟩,k⟩
theorem aBu{n:Nat}{v:Value}{y:DataW H×List MemPlace}(h:DataW.trod enc prog w base spare held n 25 [v]=some y):∃l:List ObV,Sl w w.heap.size v ObV.cells l∧∀x∈l,(Sl w w.heap.size x.wv i1 x.x.ws∧Sl w w.heap.size x.lv i1 x.x.ls)∧∀z∈x.x.ws,inR z:=sP nE (by kernel_rfl) (by omega) aBt h
theorem aBv{n:Nat}{r:List Value}{y:DataW H×List MemPlace}(h:DataW.trod enc prog w base spare held n 29 r=some y)(o:r.length=8):∃x:HpV,∃ps,r=x.cells∧gH w w.heap.size x ps∧hpR x.x∧inR x.x.next:=by
 have h:=lR underlying29 h
 match r,o with
 |[G,g,I,J,K,L,M,i],_=>
  obtain⟨z,b,N⟩:=dZ h 0 _ rfl dD (by kernel_rfl);obtain⟨_,_,k⟩:=iE h 1 _ rfl 1 (by kernel_rfl);obtain⟨f,e1,e⟩:=aBu k;obtain⟨A,c,s⟩:=dZ h 2 _ rfl dD (by kernel_rfl);obtain⟨_,_,l⟩:=iE h 3 _ rfl 4 (by kernel_rfl);obtain⟨B,C,D,E,d⟩:=aBn l rfl;simp at d;obtain⟨rfl,rfl,rfl,rfl⟩:=d;obtain⟨_,_,m⟩:=iE h 4 _ rfl 1 (by kernel_rfl);obtain⟨F,j,-⟩:=aBs m;simp at b c;subst b c;refine⟨⟨⟨z,A,B,C,D,E,f.map (·.x),F⟩,g,i⟩,f,rfl,⟨⟨e1,fun p a=>(e p a).1⟩,rfl,j⟩,fun x q=>?_,s⟩;obtain⟨p,a,rfl⟩:=cX.1 q;exact (e p a).2
theorem aBw{n:Nat}{r:List Value}{y:DataW H×List MemPlace}(h:DataW.trod enc prog w base spare held n 46 r=some y)(d:r.length=2):∃b a:Int,r=[.i b,.i a]∧inR a:=by
 have h:=lR underlying46 h
 match r,d with
 |[f,g],_=>
  obtain⟨b,c,i⟩:=dZ h 0 _ rfl underlying44 (by kernel_rfl);obtain⟨a,e1,e⟩:=dZ h 1 _ rfl dD (by kernel_rfl);simp at c e1;subst c e1;exact⟨b,a,rfl,e⟩
theorem aBx{n:Nat}{r:List Value}{y:DataW H×List MemPlace}(h:DataW.trod enc prog w base spare held n 117 r=some y)(d:r.length=4):∃x:Rw,r=x.cells∧inR x.v:=by
 have h:=lR underlying117 h
 match r,d with
 |[k,l,m,o],_=>
  obtain⟨f,a,p⟩:=dZ h 0 _ rfl dD (by kernel_rfl);obtain⟨g,e1,q⟩:=dZ h 1 _ rfl dD (by kernel_rfl);obtain⟨_,_,c⟩:=iE h 2 _ rfl 2 (by kernel_rfl);obtain⟨i,j,b,e⟩:=aBw c rfl;simp at b;obtain⟨rfl,rfl⟩:=b;simp at a e1;subst a e1;exact⟨⟨f,g,i,j⟩,rfl,e⟩
theorem aBy{n:Nat}{v:Value}{y:DataW H×List MemPlace}(h:DataW.trod enc prog w base spare held n 30 [v]=some y):∃l:List Rw,Sl w w.heap.size v Rw.cells l∧∀x∈l,inR x.v:=sP kO (by kernel_rfl) (by omega) aBx h
theorem aBz{n:Nat}{r:List Value}{y:DataW H×List MemPlace}(h:DataW.trod enc prog w base spare held n 32 r=some y)(A:r.length=9):∃x:StV,∃ps,r=x.cells∧fN w w.heap.size x ps∧stR x.x∧inR x.x.h.next:=by
 have h:=lR underlying32 h
 match r,A with
 |[b,c,d,e,f,g,i,j,a],_=>
  obtain⟨_,_,m⟩:=iE h 0 _ rfl 8 (by kernel_rfl);obtain⟨p,ps,k,z,q,s⟩:=aBv m rfl;obtain⟨_,_,o⟩:=iE h 1 _ rfl 1 (by kernel_rfl);obtain⟨C,l,B⟩:=aBy o;refine⟨⟨p,C,a⟩,ps,?_,⟨z,l⟩,⟨q,B⟩,s⟩;show [b,c,d,e,f,g,i,j]++[a]=p.cells++[a];rw[show [b,c,d,e,f,g,i,j]=p.cells from k]
theorem Ol{n:Nat}{r:List Value}{y:DataW H×List MemPlace}(h:DataW.trod enc prog w base spare held n 24 r=some y)(g:r.length=5):∃x:KpV,r=x.cells∧fL w w.heap.size x∧KdR x.x∧inR x.base:=by
 have h:=lR underlying24 h
 match r,g with
 |[q,s,z,A,d],_=>
  obtain⟨k,a,B⟩:=dZ h 0 _ rfl dD (by kernel_rfl);obtain⟨l,e1,C⟩:=dZ h 1 _ rfl dD (by kernel_rfl);obtain⟨m,b,i⟩:=dZ h 2 _ rfl dD (by kernel_rfl);obtain⟨o,c⟩:=Oi h 3 _ rfl oG (by kernel_rfl);obtain⟨_,_,f⟩:=iE h 4 _ rfl 1 (by kernel_rfl);obtain⟨p,e,j⟩:=Oj f;simp at a e1 b c;subst a e1 b c;exact⟨⟨k,l,m,o,p,d⟩,rfl,e,j,i⟩
theorem aBA{n:Nat}{r:List Value}{y:DataW H×List MemPlace}(h:DataW.trod enc prog w base spare held n 109 r=some y)(b:r.length=2):∃x:Ak,r=x.cells∧True:=by
 have h:=lR underlying109 h
 match r,b with
 |[e,f],_=>
  obtain⟨c,a,g⟩:=dZ h 0 _ rfl dD (by kernel_rfl);obtain⟨d,e1,i⟩:=dZ h 1 _ rfl dD (by kernel_rfl);simp at a e1;subst a e1;exact⟨⟨c,d⟩,rfl,trivial⟩
theorem aBB{n:Nat}{v:Value}{y:DataW H×List MemPlace}(h:DataW.trod enc prog w base spare held n 35 [v]=some y):∃l:List Ak,Sl w w.heap.size v Ak.cells l∧∀x∈l,True:=sP Ff (by kernel_rfl) (by omega) aBA h
theorem aBC{n:Nat}{r:List Value}{y:DataW H×List MemPlace}(h:DataW.trod enc prog w base spare held n 37 r=some y)(e:r.length=5):∃x:Pt,r=x.cells∧True:=by
 have h:=lR underlying37 h
 match r,e with
 |[l,m,o,p,q],_=>
  obtain⟨f,a,s⟩:=dZ h 0 _ rfl dD (by kernel_rfl);obtain⟨g,e1,z⟩:=dZ h 1 _ rfl dD (by kernel_rfl);obtain⟨i,b,A⟩:=dZ h 2 _ rfl dD (by kernel_rfl);obtain⟨j,c,B⟩:=dZ h 3 _ rfl dD (by kernel_rfl);obtain⟨k,d⟩:=Oi h 4 _ rfl oG (by kernel_rfl);simp at a e1 b c d;subst a e1 b c d;exact⟨⟨f,g,i,j,k⟩,rfl,trivial⟩
structure RpR(p:RpV):Prop where
 k:KdR p.k.x∧inR p.k.base
 s:stR p.s.x∧inR p.s.x.h.next
 v:∀v∈p.votes,VoR v.x
 r:inR p.id∧inR p.nodes∧inR p.commit∧inR p.timer
theorem aBD{n:Nat}{r:List Value}{y:DataW H×List MemPlace}(h:DataW.trod enc prog w base spare held n 39 r=some y)(hr:r.length=26):∃x:RpV,∃ps,r=x.cells∧eO w w.heap.size x ps∧RpR x:=by
 have h:=lR underlying39 h
 match r,hr with
 |[a0,a1,l,C,D,E,F,a7,G,I,a,b,c,d,e,f,g,q0,i,j,m,o,q,z,A,B],_=>
  obtain⟨N,J,w0⟩:=dZ h 0 _ rfl dD (by kernel_rfl);obtain⟨O,e1,w1⟩:=dZ h 1 _ rfl dD (by kernel_rfl);obtain⟨_,_,X⟩:=iE h 2 _ rfl 5 (by kernel_rfl);obtain⟨k,T,hk,b0,d0⟩:=Ol X rfl;obtain⟨Q,L,w7⟩:=dZ h 3 _ rfl dD (by kernel_rfl);obtain⟨_,_,Y⟩:=iE h 4 _ rfl 9 (by kernel_rfl);obtain⟨s,ps,W,hs,g0,j0⟩:=aBz Y rfl;obtain⟨P,K,l0⟩:=dZ h 5 _ rfl dD (by kernel_rfl);obtain⟨_,_,Z⟩:=iE h 6 _ rfl 1 (by kernel_rfl);obtain⟨m0,R,-⟩:=Eq Z;obtain⟨_,_,g7⟩:=iE h 7 _ rfl 1 (by kernel_rfl);obtain⟨o0,S,M⟩:=aBr g7;obtain⟨_,_,g8⟩:=iE h 8 _ rfl 1 (by kernel_rfl);obtain⟨p0,U,-⟩:=aBB g8;obtain⟨_,_,g9⟩:=iE h 9 _ rfl 5 (by kernel_rfl);obtain⟨t,V,-⟩:=aBC g9 rfl;simp at J e1 L K;subst J e1 L K;refine⟨⟨N,O,k,Q,s,P,m0,i,o0,j,p0,m,t⟩,ps,?_,⟨hk,hs,R,⟨S,fun p hp=>(M p hp).1⟩,U⟩,⟨⟨b0,d0⟩,⟨g0,j0⟩,fun v hv=>(M v hv).2,w0,w1,w7,l0⟩⟩;show [.i N,.i O]++[l,C,D,E,F]++[.i Q]++[G,I,a,b,c,d,e,f,g]++[.i P,i,j,m]++[o,q,z,A,B]=_;rw[show [l,C,D,E,F]=k.cells from T,show [G,I,a,b,c,d,e,f,g]=s.cells from W,show [o,q,z,A,B]=t.cells from V];rfl
theorem Om{v:Value}{d:DataW H}{p:List MemPlace}{a:Array Value}(g:v=.agg a)(b:a.size=prog.cellsOf 39)(h:DataW.Trod enc prog w base spare held 39 v d p):∃x:RpV,∃ps,v=.agg x.cells.toArray∧eO w w.heap.size x ps∧RpR x:=by
 subst g;obtain⟨n,h⟩:=h;have e:prog.cellsOf 39=26:=by kernel_rfl
 obtain⟨x,ps,c,f⟩:=aBD h (by rw[e]at b; simpa [Value.cells] using b);have:a.toList=x.cells:=c;exact⟨x,ps,by rw[←this],f⟩
end
end
section
open Go.RowKit Go.ChangeShapes Go.WideShapes Go.ChangeAt Go.Deep
structure MgA(w:World)(p:MgV):Prop where
 e:Sl w w.heap.size p.ev En.cells p.es
 r:∀x∈p.es,enR x
 m:MgR p.x
section
variable {H:Type}{enc:TypeId×Value→H}{w:World}{base:Nat}{spare:Nat→Bool}{held:Bool}
theorem aEB{n:Nat}{r:List Value}{y:DataW H×List MemPlace}(h:DataW.trod enc prog w base spare held n 48 r=some y)(C:r.length=23):∃x:MgV,r=x.cells∧MgA w x:=by
 have h:=lR underlying48 h
 match r,C with
 |[a0,a1,a2,a3,a4,a5,a6,a7,p,a9,j0,l0,m0,o0,p0,q0,y0,b1,d1,g1,j1,l1,m1],_=>
  obtain⟨O,a,w0⟩:=dZ h 0 _ rfl underlying40 (by kernel_rfl);obtain⟨P,cG,D⟩:=dZ h 1 _ rfl dD (by kernel_rfl);obtain⟨z2,e,w2⟩:=dZ h 2 _ rfl dD (by kernel_rfl);obtain⟨z3,i,w3⟩:=dZ h 3 _ rfl dD (by kernel_rfl);obtain⟨z4,j,w4⟩:=dZ h 4 _ rfl dD (by kernel_rfl);obtain⟨z5,k,w5⟩:=dZ h 5 _ rfl dD (by kernel_rfl);obtain⟨z6,l,w6⟩:=dZ h 6 _ rfl dD (by kernel_rfl);obtain⟨z7,m,w7⟩:=dZ h 7 _ rfl dD (by kernel_rfl);obtain⟨_,_,B⟩:=iE h 8 _ rfl 1 (by kernel_rfl);obtain⟨z8,q,N⟩:=Oj B;obtain⟨z9,o,w9⟩:=dZ h 9 _ rfl dD (by kernel_rfl);obtain⟨Q,Gw,o1⟩:=dZ h 10 _ rfl dD (by kernel_rfl);obtain⟨R,b⟩:=Oi h 11 _ rfl oG (by kernel_rfl);obtain⟨S,c,E⟩:=dZ h 12 _ rfl dD (by kernel_rfl);obtain⟨_,_,s⟩:=iE h 13 _ rfl 7 (by kernel_rfl);obtain⟨T,U,V,W,X,Y,Z,d,F,G,I,J,K,L,M⟩:=aBo s rfl;simp at d;obtain⟨rfl,rfl,rfl,rfl,rfl,rfl,rfl⟩:=d;obtain⟨_,_,z⟩:=iE h 14 _ rfl 2 (by kernel_rfl);obtain⟨b0,d0,f,p1⟩:=aBw z rfl;simp at f;obtain⟨rfl,rfl⟩:=f;obtain⟨_,_,A⟩:=iE h 15 _ rfl 1 (by kernel_rfl);obtain⟨g0,g,_⟩:=DataW.trod_bool aCw A;simp at a cG e i j k l m o Gw b c g;subst a cG e i j k l m o Gw b c g;exact⟨⟨O,P,z2,z3,z4,z5,z6,z7,z8,p,z9,Q,R,S,⟨T,U,V,W,X,Y,Z⟩,b0,d0,g0⟩,rfl,q,N,D,E,F,G,I,J,K,L,M⟩
theorem aEC{v:Value}{d:DataW H}{p:List MemPlace}{a:Array Value}(g:v=.agg a)(b:a.size=prog.cellsOf 48)(h:DataW.Trod enc prog w base spare held 48 v d p):∃x:MgV,v=.agg x.cells.toArray∧MgA w x:=by
 subst g;obtain⟨n,h⟩:=h;have e:prog.cellsOf 48=23:=by kernel_rfl
 obtain⟨x,c,f⟩:=aEB h (by rw[e]at b; simpa [Value.cells] using b);have:a.toList=x.cells:=c;exact⟨x,by rw[←this],f⟩
end
end
section
attribute [-go_sem] loadCellsFrom storeCells run_eql_struct run_neq_struct
attribute [local go_sem] bC
theorem aED(p:RpV)(ps:List ObV)(q:MgV)(B:Nat)(w:World)(h:eO w B p ps)(hq:Sl w B q.ev En.cells q.es)(A:B≤w.heap.size):
  Calls prog 6 #[.agg p.cells.toArray,.agg q.cells.toArray] w (NoR w (SmR p∧q.es.length≤100)):=by
 obtain⟨W1,d0,i,O,z1⟩:=par w 39 p.cells;obtain⟨N,e0,X,D,z2⟩:=par W1 48 q.cells;have y:=i.grow D;have r:=O.on D;have g:=kp r;have l:=h.below r A;have b0:=kp (aAc p.vv p.votes p.k B N l.2.2.2.1 l.1 (aB A r.size));have a0:=kp (fun(W:World)(Q:Bw' N W)=>Vj p.s ps B W (l.2.1.below Q (aB A r.size)) (aB (aB A r.size) Q.size));have V:=y.cell 19;rw[RpV.c19]at V;have l2:=y.loadOff (P:=prog) 2 5 p.k.cells rfl rfl;have C:=k'2 y X;obtain⟨A1,c1,I,-,-,-⟩:=l.2.2.1;obtain⟨A3,c3,J,-,-,-⟩:=l.2.2.2.2;obtain⟨A4,c4,K,-,-,-⟩:=hq;obtain⟨n1,E⟩:∃n,p.starts.length=n:=⟨_,rfl⟩
 obtain⟨n3,G⟩:∃n,p.acks.length=n:=⟨_,rfl⟩
 obtain⟨n4,H⟩:∃n,q.es.length=n:=⟨_,rfl⟩
 obtain⟨m,hm⟩:=nm' p.part.data.size;obtain⟨m2,o0⟩:∃m,q.data.size=m:=⟨_,rfl⟩
 rw[E]at I;rw[G]at J;rw[H]at K;have j:=k'6 I J E G K H;clear y X i O D z1 z2 r l h A I J E G K H;go_enter func6,ntmps6;go_wp2_with fail;refine (b0.o).mono ?_;rintro e w3 ⟨r3,rfl,T,R⟩;have z:=k'2 T R;clear T R l2 V d0 e0
 cases r3
 case true=>
  go_wp2_with fail;go_ret;exact NoR.of (fun h=>by cases h) (g.o.on z.B)
 have l8:=(C.a.grow z.B).loadOff (P:=prog) 8 9 p.s.cells rfl rfl;go_wp2_with fail;refine (a0.o w3 z.B).mono ?_;rintro e w4 ⟨r4,rfl,U,S⟩;have f:=k'2 U (z.B.on S);clear U S l8
 cases r4
 case true=>
  go_wp2_with fail;go_ret;exact NoR.of (fun h=>by cases h) (g.o.on f.B)
 have i:=C.a.grow f.B;have L:=C.B.grow f.B;have j0:=i.cell 18;rw[RpV.c18,j.a]at j0;have l0:=i.cell 20;rw[RpV.c20,j.b]at l0;have m0:=i.cell 25;change _=some (Value.string p.part.data)at m0;have j8:=L.cell 8;rw[show q.cells[8]? =some q.ev from rfl,j.e]at j8;have g0:=L.cell 11;change _=some (Value.string q.data)at g0;clear i L;obtain⟨y,e1⟩:∃x,decide (100<(n1:Int))=x:=⟨_,rfl⟩
 have Y:=kp e1
 cases y
 rotate_left
 .go_wp2_with fail;go_ret;exact NoR.of (fun h=>by cases h) (g.o.on f.B)
 obtain⟨x3,e3⟩:∃x,decide (100<(n3:Int))=x:=⟨_,rfl⟩
 have Z:=kp e3
 cases x3
 rotate_left
 .go_wp2_with fail;go_ret;exact NoR.of (fun h=>by cases h) (g.o.on f.B)
 obtain⟨x5,e5⟩:∃x,decide (100000<(m:Int))=x:=⟨_,rfl⟩
 have M:=k'2 hm e5
 cases x5
 rotate_left
 .go_wp2_with fail;go_ret;exact NoR.of (fun h=>by cases h) (g.o.on f.B)
 obtain⟨x7,e7⟩:∃x,decide (100<(n4:Int))=x:=⟨_,rfl⟩
 have E7:=kp e7
 cases x7
 rotate_left
 .go_wp2_with fail;go_ret;exact NoR.of (fun h=>by cases h) (g.o.on f.B)
 obtain⟨x9,e9⟩:∃x,decide (100000<(m2:Int))=x:=⟨_,rfl⟩
 cases x9
 rotate_left
 .go_wp2_with fail;go_ret;exact NoR.of (fun h=>by cases h) (g.o.on f.B)
 have HG:=kp (show SmR p∧q.es.length≤100 from⟨⟨z.a rfl,f.a rfl,by have:=of_decide_eq_false Y.o; have:=j.c; omega,by have:=of_decide_eq_false Z.o; have:=j.d; omega,by have:=of_decide_eq_false M.B; have:=M.a; omega⟩,by have:=of_decide_eq_false E7.o; have:=j.F; omega⟩);go_wp2_with fail;go_ret;exact NoR.of (fun _=>HG.o) (g.o.on f.B)
end
section
attribute [-go_sem] loadCellsFrom storeCells run_eql_struct run_neq_struct
attribute [local go_sem] bC
def OvT(t:TypeId):Prop:=t=93∨t=103∨t=117∨t=152∨t=3∨t=109
def OvS(w:World)(b i:Nat):Prop:=b≤i∧∃c t,w.heap[i]? =some (.cells c t (0,0))∧OvT t
structure OvI(w W:World)(b:Nat):Prop where
 c:Chg (OvS w b) w W
 m:∀(i:Nat)(c:Array Value)(t:TypeId),w.heap[i]? =some (.cells c t (0,0))→∃c':Array Value,W.heap[i]? =some (.cells c' t (0,0))∧c'.size=c.size∧(t=103→∀j,j % 6=5→c'[j]? =c[j]?)
def sE(w:World)(b:Nat)(t:TypeId)(k:Nat)(A:Option Addr)(n:Nat):Prop:=0<n→∃g off cur,A=some ⟨g,off,none⟩∧b≤g∧w.heap[g]? =some (.cells cur t (0,0))∧off+n*k≤cur.size
theorem sE.below{w W:World}{b:Nat}{t:TypeId}{k:Nat}{A:Option Addr}{n:Nat}(h:sE w b t k A n)(j:Bw' w W):sE W b t k A n:=fun d=>by
 obtain⟨g,l,c,e,f,a,i⟩:=h d;exact⟨g,l,c,e,f,(j.block g (fH.1 a).1).trans a,i⟩
section
variable {w W:World}{b g:Nat}{t:TypeId}{cs:List Value}
theorem OvI.refl(w:World)(b:Nat):OvI w w b:=⟨Chg.refl _ _,fun _ c _ h=>⟨c,h,rfl,fun _ _ _=>rfl⟩⟩
theorem OvI.put(h:OvI w W b){d:Array Value}(l:w.heap[g]? =some (.cells d t (0,0)))(F:OvT t)(C:b≤g){j:Nat}(D:j<d.size)(G:t=103→j % 6≠5)(z:Int):
  ∃u,W.cell? ⟨g,j,none⟩=some u∧W.frozen? ⟨g,j,none⟩=false∧OvI w (W.setCell ⟨g,j,none⟩ (.i z)) b:=by
 obtain⟨n,q,x,-⟩:=h.m g d t l;have o:Blk W g t n.toList:=q;have E:j<n.toList.length:=by simpa [x] using D
 refine⟨n.toList[j],(o.cell j).trans (eK E),o.frozen j,h.c.setCell (.inr ⟨C,d,t,l,F⟩) j _,fun i c H f=>?_⟩
 by_cases r:i=g
 .subst r;rw[l]at f;injection f with f
  injection f with B a
  subst B a;obtain⟨c2,a,y,p⟩:=h.m i d t l;rw[q]at a;injection a with a
  injection a with a
  subst a;refine⟨_,o.setCell j (.i z),by simpa using x,fun A k s=>?_⟩;rw[←p A k s,Ew,List.getElem?_set_ne (fun e:j=k=>G A (by rw[e]; exact s)),zR]
 .obtain⟨c2,a,y,p⟩:=h.m i c H f;exact⟨c2,(((Chg.refl (fun i=>i=g) W).setCell (.inr rfl) j (.i z)).block i (fH.1 a).1 r).trans a,y,p⟩
theorem OvI.keep(h:OvI w W b){a:Array Value}(d:w.heap[g]? =some (.cells a 103 (0,0))){j:Nat}(l:j % 6=5){u:Value}(c:w.cell? ⟨g,j,none⟩=some u):W.cell? ⟨g,j,none⟩=some u:=by
 obtain⟨e,k,-,n⟩:=h.m g a _ d;have f:Blk w g 103 a.toList:=d;have i:Blk W g 103 e.toList:=k;rw[f.cell,zR]at c;rw[i.cell,zR,n rfl j l];exact c
theorem OvI.box(h:OvI w W b)(d:Blk w g t cs)(e:¬OvT t):Blk W g t cs:=d.chg h.c fun⟨_,c,i,a,f⟩=>by
 rw[show w.heap[g]? =_ from d]at a;injection a with a
 injection a with _ a
 subst a;exact e f
section
variable {α:Type}{enc:α→List Value}{k:Nat}{v:Value}{l:List α}
end
end
end
section
attribute [-go_sem] loadCellsFrom storeCells run_eql_struct run_neq_struct Instr.build
attribute [local go_sem] bC qI sL
structure kX(w:World)(b:Nat)(p:WkV)(ps:List ObV):Prop where
 o:RpO w b p.r ps
 rs:Ow w b 101 17 p.rv RcV.cells p.rs
 ms:Ow w b 48 23 p.mv MgV.cells p.ms
 re:∀x∈p.rs,x.es=[]∧∃A c,x.ev=.slice A 0 c∧c≤maxLen
 me:∀x∈p.ms,x.es=[]∧∃A c,x.ev=.slice A 0 c∧c≤maxLen
 n:p.rs.length≤1000000∧p.ms.length≤1000000
section
variable {w W:World}{b:Nat}{p:WkV}{ps:List ObV}
theorem kX.below(h:kX w b p ps)(a:Bw' w W):kX W b p ps:=⟨h.o.below a,h.rs.below a,h.ms.below a,h.re,h.me,h.n⟩
theorem kX.mono{c:Nat}(h:kX w b p ps)(a:c≤b):kX w c p ps:=⟨h.o.mono a,h.rs.mono a,h.ms.mono a,h.re,h.me,h.n⟩
theorem aBi{A:Option Addr}{c:Nat}(w:World)(B:Nat)(a:c≤maxLen):Sl w B (.slice A 0 c) En.cells ([]:List En):=⟨A,c,rfl,.inl rfl,cY _,a⟩
theorem zK{v:Value}{l:List En}(w:World)(B:Nat)(h:l=[]∧∃A c,v=.slice A 0 c∧c≤maxLen):Sl w B v En.cells l:=by
 obtain⟨rfl,A,c,rfl,a⟩:=h;exact aBi w B a
theorem kX.told(h:kX w b p ps):sC w w.heap.size p.rv p.rs∧sD w w.heap.size p.mv p.ms:=⟨⟨h.rs.sl nW,fun x a=>zK _ _ (h.re x a)⟩,⟨h.ms.sl fF,fun x a=>zK _ _ (h.me x a)⟩⟩
end
structure uB(w:World)(b:Nat)(p:WkV):Prop where
 rs:Ow w b 101 17 p.rv RcV.cells p.rs
 ms:Ow w b 48 23 p.mv MgV.cells p.ms
 re:∀x∈p.rs,x.es=[]∧∃A c,x.ev=.slice A 0 c∧c≤maxLen
 me:∀x∈p.ms,x.es=[]∧∃A c,x.ev=.slice A 0 c∧c≤maxLen
theorem uB.below{w W:World}{b:Nat}{p:WkV}(h:uB w b p)(a:Bw' w W):uB W b p:=⟨h.rs.below a,h.ms.below a,h.re,h.me⟩
theorem uB.told{w:World}{b:Nat}{p:WkV}(h:uB w b p):sC w w.heap.size p.rv p.rs∧sD w w.heap.size p.mv p.ms:=⟨⟨h.rs.sl nW,fun x a=>zK _ _ (h.re x a)⟩,⟨h.ms.sl fF,fun x a=>zK _ _ (h.me x a)⟩⟩
structure sO(W:World)(g0 g1 g2 g3 g4 g5:Nat)(p q:WkV)(r o:RpV):Prop where
 h0:Blk W g0 39 p.r.cells
 h1:Blk W g1 55 [p.rv,p.mv]
 h2:Blk W g2 39 q.r.cells
 h3:Blk W g3 55 [q.rv,q.mv]
 h4:Blk W g4 39 r.cells
 h5:Blk W g5 39 o.cells
section
variable {W W':World}{b g0 g1 g2 g3 g4 g5:Nat}{p q:WkV}{r o:RpV}
theorem sO.grow(h:sO W g0 g1 g2 g3 g4 g5 p q r o)(a:Bw' W W'):sO W' g0 g1 g2 g3 g4 g5 p q r o:=⟨h.h0.grow a,h.h1.grow a,h.h2.grow a,h.h3.grow a,h.h4.grow a,h.h5.grow a⟩
end
end
section
theorem RpS.of{w:World}{B:Nat}{p:RpV}{ps:List ObV}(h:eO w B p ps)(s:SmR p)(r:RpR p):RpS p ps:=by
 have a:=SmO.of h.2.1.1 s.s.1;exact⟨⟨r.k.1,by have:=s.v.k.es; omega,by have:=s.v.k.image; omega⟩,⟨a,s.s.2,r.s.1,r.s.2⟩,⟨by have:=s.starts; omega,by have:=s.v.len; omega,by have:=s.acks; omega⟩,fun v b=>⟨by have:=s.v.es v b; omega,r.v v b⟩,r.r,fun u c=>by have:=a.rows u c; omega⟩
theorem On(w:World):(Instr.build 48 #[]).run prog w=.ok (.agg zD.cells.toArray) w:=run_build w _ _ _ (by kernel_rfl)
theorem Oq{w:World}{base:Nat}{p:WkV}{ps:List ObV}(f:kX w base p ps):
  ∃a c d b,w.alloc (.cells dN.toArray 39)=a∧a.alloc (.cells #[.slice none 0 0,.slice none 0 0] 55)=c∧Sem.run prog (storeCells ⟨w.heap.size,0,none⟩ p.r.cells 0) c=.ok () d∧Sem.run prog (storeCells ⟨a.heap.size,0,none⟩ [p.rv,p.mv] 0) d=.ok () b∧
   Blk b w.heap.size 39 p.r.cells∧Blk b a.heap.size 55 [p.rv,p.mv]∧Bw' w b:=by
 obtain⟨a,k,s,j,F⟩:=par w 39 dN;obtain⟨c,l,x,h,G⟩:=par a 55 [.slice none 0 0,.slice none 0 0];have A:=s.grow h;obtain⟨d,D,n,y,c3⟩:=A.put p.r.cells rfl (gR f.o.rpAt);have C:=x.chg c3 (by omega);obtain⟨b,E,q,z,c4⟩:=C.put [p.rv,p.mv] rfl (fun u g=>by
  rcases bA.1 g with rfl|g
  .exact f.rs.one
  .rw[bQ.1 g]; exact f.ms.one)
 have e:=j.on h;exact⟨a,c,d,b,k,l,n,q,y.chg c4 (by omega),z,e.trans ((c3.below (B:=w.heap.size) (fun i m=>by omega) e.size).trans (c4.below (B:=w.heap.size) (fun i m=>by omega) (aB e.size c3.size)))⟩
end
section
theorem aEE{w c:World}{x:Rp}{e:Ending}(h:sM w c (x,[],[]) e):∃p ps,e=.returned (.tuple #[.agg p.r.cells.toArray,.agg #[p.rv,p.mv]])∧p.r.x=x∧p.rs=[]∧p.ms=[]∧kX c w.heap.size p ps∧Bw' w c:=by
 obtain⟨⟨p,ps,j,d,f,g,l,m,o,k,n⟩,i⟩:=h;have a:p.rs=[]:=List.map_eq_nil_iff.1 f;have b:p.ms=[]:=List.map_eq_nil_iff.1 g;refine⟨p,ps,j,d,a,b,⟨l,m,k,?_,?_,?_⟩,i⟩
 .rw[a]; exact fun _ h=>(nomatch h)
 .rw[b]; exact fun _ h=>(nomatch h)
 .rw[a,b]; exact⟨cY _,cY _⟩
end
end Go.Proofs.YthalbagblhkeaaaGreat
