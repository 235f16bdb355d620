import Derived.Test.YtdoopoapbffpbaaGreatZ01
import Derived.Test.YtdoopoapbffpbaaGreatZ02
import Derived.Deep.Slices
import Derived.ChangeArms
namespace Go.Proofs.YtdoopoapbffpbaaGreat
open Go.RowKit Go.Proofs.Tryz
set_option maxRecDepth 100000
set_option maxHeartbeats 12800000
set_option linter.unusedVariables false
set_option linter.unusedSimpArgs false
section
open Go.RowKit Go.ChangeShapes Go.WideShapes Go.ChangeAt Go.Deep
theorem wV{α:Type}(k:Nat):∀(b:List (List α)),(∀r∈b,r.length=k)→∀(i t:Nat)(a:i<b.length),t<k→b.flatten[i*k+t]? =(b[i])[t]?
 |[],_,i,t,a,_=>absurd a (by simp)
 |r::e,h,0,t,_,c=>by
  rw[Fa,qR,hY,lS (by rw[h r (by simp)]; exact c)];rfl
 |r::e,h,i+1,t,a,c=>by
  have d:=h r (by simp);rw[Fa,Er (by rw[d,gE]; omega),d];rw[show (i+1)*k+t-k=i*k+t by rw[gE]; omega];exact wV k e (fun x f=>h x (by simp[f])) i t (by simpa using a) c
theorem Bd{α:Type}(k:Nat):∀(a:List (List α)),(∀r∈a,r.length=k)→a.flatten.length=a.length*k
 |[],_=>by simp
 |r::c,h=>by
  rw[Fa,bB,h r (by simp),Bd k c (fun x b=>h x (by simp[b])),eV,gE];omega
section
variable {H:Type}{enc:TypeId×Value→H}{P:Program}{w:World}{base:Nat}{spare:Nat→Bool}{held:Bool}
theorem Be{α:Type}{p:Nat→α→Prop}:∀n,(∀i,i<n→∃x,p i x)→∃l:List α,l.length=n∧∀i(h:i<l.length),p i l[i]
 |0,_=>⟨[],rfl,fun i h=>absurd h (by simp)⟩
 |n+1,h=>by
  obtain⟨l,c,d⟩:=Be n fun i a=>h i (by omega);obtain⟨x,e⟩:=h n (by omega);refine⟨l++[x],by simp[c],fun i a=>?_⟩
  by_cases b:i<l.length
  .rw[List.getElem_append_left b]; exact d i b
  .have:i=n:=by simp at a; omega
   subst this;simpa [List.getElem_append_right,c] using e
theorem Pd{t e:TypeId}{k:Nat}{a:Option Addr}{g cap:Nat}{d:DataW H}{p:List MemPlace}(Y:P.underlying t=some (.slice e))(T:P.cellsOf e=k)(L:0<k)
  (h:DataW.Trod enc P w base spare held t (.slice a g cap) d p):
  ∃f:List (List Value),Rd w w.heap.size a f.flatten∧f.length=g∧g≤cap∧cap≤maxLen∧∀r∈f,r.length=k∧∃n y,DataW.trod enc P w base spare held n e r=some y:=by
 obtain⟨a0,U⟩:=h;rcases open_slice Y U with⟨q,_⟩|⟨x,l,c,m,n,D,Pl,q,_,V,W,X,_,J⟩
 .simp[Value.cells]at q;obtain⟨rfl,rfl,rfl⟩:=q;exact⟨[],Rd.nil,rfl,aD _,by unfold maxLen; omega,by simp⟩
 .simp[Value.cells]at q;obtain⟨rfl,rfl,rfl⟩:=q;have d0:g≤m:=by rw[X]; split<;>omega
  rw[T]at J;obtain⟨f,M,A⟩:=Be (p:=fun i(r:List Value)=>(r.length=k∧∀j,j<k→w.cell? (x.add (i*k+j))=r[j]?)∧∃y,DataW.trod enc P w base spare held n e r=some y) g (fun i s=>by
   obtain⟨cs',O,Q⟩:=J i (by omega);obtain⟨_,R,S⟩:=World.cells?_some O;refine⟨cs',⟨R,fun j z=>?_⟩,_,Q⟩;have:=S j z;rw[add_add]at this;exact this)
  have I:∀r∈f,r.length=k:=fun r C=>by
   obtain⟨i,s,rfl⟩:=zU C;exact (A i s).1.1
  refine⟨f,?_,M,V,W,fun r C=>?_⟩
  .by_cases h0:g=0
   .have:f=[]:=hJ (by omega);subst this;exact .inl rfl
   .obtain⟨⟨F,B⟩,_⟩:=A 0 (by omega);have o:=B 0 L;rw[eK (by omega)]at o;simp only[qR,cF]at o;obtain⟨b,Z,rfl⟩:=Pc o ⟨_,o⟩;refine .inr ⟨b,Z,rfl,?_,fun j u N=>?_⟩
    .have:=World.block_lt_of_cell? w _ o;simpa [Addr.add] using this
    .have z:j<f.flatten.length:=(iH.1 N).1;rw[Bd k f I,M]at z;have b0:j / k<g:=Nat.div_lt_of_lt_mul (by rw[Ah]; exact z);have K:j % k<k:=Nat.mod_lt _ L;have E:j / k*k+j % k=j:=by rw[Ah]; exact Nat.div_add_mod j k
     have G:=(A (j / k) (by omega)).1.2 (j % k) K;rw[E,Addr.add_lit]at G;rw[G,←wV k f I (j / k) (j % k) (by omega) K,E];exact N
  .obtain⟨i,s,rfl⟩:=zU C;obtain⟨⟨F,_⟩,y,B⟩:=A i s;exact⟨F,n,y,B⟩
end
end
section
theorem tB(a b:Bool):(a=false∧(a&&b)=false)∨(a=true∧b=false∧(a&&b)=false)∨(a=true∧b=true∧(a&&b)=true):=by
 cases a<;>cases b<;>simp
theorem Pe(a b c:Bool):(a=false∧(a&&(b&&c))=false)∨(a=true∧b=false∧(a&&(b&&c))=false)∨(a=true∧b=true∧c=false∧(a&&(b&&c))=false)∨
  (a=true∧b=true∧c=true∧(a&&(b&&c))=true):=by
 cases a<;>cases b<;>cases c<;>simp
structure Bk where
 (a o:Int)
deriving DecidableEq
def Bk.cells(b:Bk):List Value:=[.i b.a,.i b.o]
def aQ(o:Int):Int:=if 0≤o∧o≤8 then 2 ^ o.toNat else 0
def aJ(o:Int):Int:=2 ^ o.toNat
theorem Bf{o:Int}(a:0≤o)(b:o≤8):o=0∨o=1∨o=2∨o=3∨o=4∨o=5∨o=6∨o=7∨o=8:=by omega
theorem gF(o:Int):0≤aQ o∧aQ o≤256:=by
 unfold aQ
 split
 .rename_i h;rcases Bf h.1 h.2 with rfl|rfl|rfl|rfl|rfl|rfl|rfl|rfl|rfl<;>decide
 .omega
theorem wW{o:Int}(a:0≤o)(b:o≤8):1≤aQ o:=by
 rcases Bf a b with rfl|rfl|rfl|rfl|rfl|rfl|rfl|rfl|rfl<;>decide
theorem fD{o:Int}(a:0≤o)(b:o≤8):aQ o=aJ o:=by
 unfold aQ aJ;rw[aE ⟨a,b⟩]
def cP(o:Int):Bool:=decide (3≤o)&&decide (o≤8)
theorem eF{o:Int}(h:cP o=true):3≤o∧o≤8:=by simpa [cP] using h
def bN(o:Int)(b:Bk):Bool:=decide (0≤b.o)&&(decide (b.o≤o)&&(decide (0≤b.a)&&(decide (b.a≤aQ o-aQ b.o)&&decide (b.a % aQ b.o=0))))
theorem Fu(a b c d e:Bool):(a=false∧(a&&(b&&(c&&(d&&e))))=false)∨(a=true∧b=false∧(a&&(b&&(c&&(d&&e))))=false)∨(a=true∧b=true∧c=false∧(a&&(b&&(c&&(d&&e))))=false)∨
  (a=true∧b=true∧c=true∧d=false∧(a&&(b&&(c&&(d&&e))))=false)∨(a=true∧b=true∧c=true∧d=true∧(a&&(b&&(c&&(d&&e))))=e):=by
 cases a<;>cases b<;>cases c<;>cases d<;>simp
def aY(b:Bk):Bk:=⟨if b.a % (2*aQ b.o)=0 then b.a+aQ b.o else b.a-aQ b.o,b.o⟩
theorem tC(w:World)(b:Bk)(t:TypeId):(w.alloc (.cells #[.i b.a,.i b.o] t)).cell? ⟨w.heap.size,0,none⟩=some (.i b.a)∧
  (w.alloc (.cells #[.i b.a,.i b.o] t)).cell? ⟨w.heap.size,1,none⟩=some (.i b.o):=
 ⟨(Blk.new w t b.cells).cell 0,(Blk.new w t b.cells).cell 1⟩
theorem gG{B:Nat}{a w:World}(h:Below B a w)(n:Nat):Below B a (w.drewN n):=h.trans ⟨rfl,rfl,rfl,aD _,fun _ _=>rfl⟩
theorem bR{B:Nat}{a w:World}(h:Below B a w):Below B a w.drew:=h.trans ⟨rfl,rfl,rfl,aD _,fun _ _=>rfl⟩
theorem Pf:∀k:Fin 9,∀a:Fin 257,(bits .and .i64 (a.1:Int) (aQ (k.1:Int)-1)==0)=decide ((a.1:Int) % aQ (k.1:Int)=0):=by decide+kernel
theorem Pg{a o:Int}(b:0≤a)(d:a≤256)(c:0≤o)(e:o≤8):(bits .and .i64 a (aQ o-1)==0)=decide (a % aQ o=0):=by
 have h:=Pf ⟨o.toNat,by omega⟩ ⟨a.toNat,by omega⟩;simp only[Ex b,Ex c]at h;exact h
theorem Ph:∀k:Fin 9,∀a:Fin 257,(a.1:Int) % aQ (k.1:Int)=0→bits .xor .i64 (a.1:Int) (aQ (k.1:Int))=if (a.1:Int) % (2*aQ (k.1:Int))=0 then (a.1:Int)+aQ (k.1:Int) else (a.1:Int)-aQ (k.1:Int):=by decide+kernel
theorem Pi{a o:Int}(b:0≤a)(e:a≤256)(c:0≤o)(f:o≤8)(d:a % aQ o=0):bits .xor .i64 a (aQ o)=if a % (2*aQ o)=0 then a+aQ o else a-aQ o:=by
 have h:=Ph ⟨o.toNat,by omega⟩ ⟨a.toNat,by omega⟩;simp only[Ex b,Ex c]at h;exact h d
theorem fI{o:Int}{b:Bk}(c:cP o=true)(h:bN o b=true):0≤b.o∧b.o≤o∧o≤8∧0≤b.a∧b.a≤256∧b.a+aQ b.o≤aQ o∧b.a % aQ b.o=0∧1≤aQ b.o∧aQ b.o≤256:=by
 have d:=eF c;simp only[bN,bI,bP]at h;have e:=gF o;have f:=wW h.1 (by omega);have g:=gF b.o;omega
def eW(x y:Bk):Bool:=decide (x.a<y.a+aJ y.o)&&decide (y.a<x.a+aJ x.o)
def aM{α:Type}(enc:α→List Value)(l:List α):List Value:=(l.map enc).flatten
def Sl{α:Type}(w:World)(B:Nat)(v:Value)(enc:α→List Value)(l:List α):Prop:=∃A c,v=.slice A l.length c∧Rd w B A (aM enc l)∧l.length≤c∧c≤maxLen
section
variable {α:Type}{enc:α→List Value}{w w':World}{B C:Nat}{v:Value}{l:List α}
theorem Sl.below(h:Sl w B v enc l)(e:Below C w w')(d:B≤C):Sl w' B v enc l:=by
 obtain⟨A,c,rfl,f,a,b⟩:=h;exact⟨A,c,rfl,f.below e d,a,b⟩
theorem Sl.more(h:Sl w B v enc l)(d:B≤C):Sl w C v enc l:=by
 obtain⟨A,c,rfl,e,a,b⟩:=h;exact⟨A,c,rfl,e.more d,a,b⟩
theorem eB(k:Nat)(b:∀a,(enc a).length=k)(l:List α):(aM enc l).length=l.length*k:=by
 have:=Bd k (l.map enc) (fun r c=>by obtain⟨a,_,rfl⟩:=cX.1 c; exact b a)
 rwa [cW]at this
theorem nG(c:∀a,∀u∈enc a,u.oneCell'=true)(l:List α):∀u∈aM enc l,u.oneCell'=true:=by
 intro u b;obtain⟨x,d,b⟩:=List.mem_flatten.1 b;obtain⟨a,_,rfl⟩:=cX.1 d;exact c a u b
theorem lV(l m:List α):aM enc (l++m)=aM enc l++aM enc m:=by simp[aM]
theorem bV{P:Program}{A:Option Addr}(k:Nat)(d:∀a,(enc a).length=k)(p:0<k)(e:Rd w B A (aM enc l))(i:Nat)(m:i<l.length):
  ∃b c,A=some ⟨b,c,none⟩∧b<B∧(∀t u,(enc (l[i]))[t]? =some u→w.cell? ⟨b,c+i*k+t,none⟩=some u)∧
   ∀n,Sem.run P (loadCellsFrom ⟨b,c+i*k,none⟩ 0 k #[]) (w.drewN n)=.ok (enc (l[i])).toArray (w.drewN n):=by
 have y:=eB k d l;have g:=fun t f=>wV k (l.map enc) (fun r e=>by obtain⟨a,_,rfl⟩:=cX.1 e; exact d a) i t (by simpa using m) f;simp only[kY]at g;obtain⟨b,c,q,s,x⟩:=e.at_ (k:=i*k) (by rw[y]; exact Nat.mul_lt_mul_of_pos_right m p);have h:∀t u,(enc (l[i]))[t]? =some u→w.cell? ⟨b,c+i*k+t,none⟩=some u:=fun t u o=>by
  have f:t<k:=by have:=(iH.1 o).1; rw[d]at this; exact this
  rw[oE];exact x _ _ ((g t f).trans o)
 refine⟨b,c,q,s,h,fun n=>?_⟩;have:=run_loadCells_list (P:=P) (w:=w.drewN n) ⟨b,c+i*k,none⟩ (enc (l[i])) (fun j v z=>by
  rw[Addr.add_lit];exact h j v z)
 rw[d]at this;simpa [loadCells] using this
end
theorem bM(b:Bk):b.cells.length=2:=rfl
theorem gU(b:Bk):∀u∈b.cells,u.oneCell'=true:=by
 intro u a;simp only[Bk.cells,bA,dW,or_false]at a;rcases a with rfl|rfl<;>rfl
def bW(l:List Bk):Int:=(l.map fun b=>aJ b.o).sum
end
end Go.Proofs.YtdoopoapbffpbaaGreat
