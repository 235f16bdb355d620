import Derived.Test.YtdoopoapbffpbaaGreatZ04
import Derived.Test.YtdoopoapbffpbaaGreatZ08
import Derived.Test.YtdoopoapbffpbaaGreatZ16
import Derived.Test.YtdoopoapbffpbaaGreatZ17
import Derived.Test.YtdoopoapbffpbaaGreatZ18
import Derived.Laws.StructEq
namespace Go.Proofs.YtdoopoapbffpbaaGreat
open Go.RowKit Go.Proofs.Tryz
set_option maxRecDepth 100000
set_option maxHeartbeats 12800000
set_option linter.unusedVariables false
set_option linter.unusedSimpArgs false
section
def En.op(e:En):Opn:=⟨e.k,e.h,e.i,e.m,e.j,e.u,e.t⟩
def fY(e:En):Bool:=aF e.n 1 900000000&&(aF e.v 0 900000000&&if e.c=0 then decide (e.s=0)&&decide (e.op=⟨0,0,0,0,0,0,0⟩) else aF e.c 1 4&&aF e.s 1 1000000)
def jB(c:Int)(l:List Rw):Rw:=(l.find? fun r=>decide (r.c=c)).getD ⟨0,0,0,0⟩
def jV(x:Rw):List Rw→List Rw
 |[]=>[x]
 |r::l=>if r.c<x.c then r::jV x l else if r.c=x.c then x::l else x::r::l
def jC(s:St)(e:En):St×Int×Int:=
 if e.c=0 then (s,0,0) else
 if e.s<(jB e.c s.rows).s then (s,130,0) else
 if (jB e.c s.rows).s=e.s then (s,(jB e.c s.rows).k,(jB e.c s.rows).v) else
 (⟨(dU s.h e.op).1,jV ⟨e.c,e.s,(dU s.h e.op).2.1,(dU s.h e.op).2.2⟩ s.rows⟩,(dU s.h e.op).2.1,(dU s.h e.op).2.2)
def jD(s:St)(l:List En):St:=l.foldl (fun s e=>(jC s e).1) s
theorem Ht(h:Hp)(o:Opn):aF (dU h o).2.1 0 65535=true:=by
 have a:aF 0 0 65535=true:=rfl;have b:aF 50 0 65535=true:=rfl;have c:aF 51 0 65535=true:=rfl;have d:aF 52 0 65535=true:=rfl;have e:aF 53 0 65535=true:=rfl;have f:aF 54 0 65535=true:=rfl;have g:aF 2 0 65535=true:=rfl;unfold dU fP iK jG
 repeat' split
 all_goals assumption
def enR(e:En):Prop:=inR e.n∧inR e.v∧inR e.c∧inR e.s∧inR e.k∧inR e.h∧inR e.i∧inR e.m∧inR e.j∧inR e.u∧inR e.t
theorem Hu{h:Hp}(H:HOk h){t:Int}(a:lF h.obs t):inR t:=by
 have c:=H.next;rcases a with rfl|⟨x,b,rfl⟩
 .exact⟨by omega,by omega⟩
 .have:=H.rise.1 x b; exact⟨by omega,by omega⟩
theorem Ck{α:Type}(l:List α)(i:Nat)(d:α):l.getD i d∈l∨l.getD i d=d:=by
 rw[kK]
 cases h:l[i]? with
 |none=>exact .inr rfl
 |some x=>exact .inl (oY h)
theorem Cl{α:Type}{l:List α}{i:Nat}{a x:α}(h:x∈l.set i a):x∈l∨x=a:=by
 rcases zN h with h|h
 .exact .inl h
 .exact .inr h
theorem Ry{h:Hp}(k:cO h=true)(a:hpR h)(o:Opn)(n:inR o.v):hpR (dU h o).1∧inR (dU h o).2.2:=by
 have H:=eC.1 k;have q:=H.next;have z:inR 0:=⟨by omega,by omega⟩
 have f:∀(p:Nat)(g:Ob),h.obs[p]? =some g→∀z∈g.ws,inR z:=fun p g e z j=>a g (oY e) z j;have l:∀(p:Nat)(g:Ob),h.obs[p]? =some g→∀z∈g.ls,inR z:=fun p g e z j=>Hu H (H.links g (oY e) z j);unfold dU
 split
 .unfold fP
  split
  .exact⟨a,z⟩
  split
  .exact⟨a,z⟩
  split
  .exact⟨a,z⟩
  .refine⟨fun x b y c=>?_,⟨by simp only; omega,by simp only; omega⟩⟩;rcases dF.1 b with b|b
   .exact a x b y c
   .rw[bQ.1 b]at c;rw[(List.mem_replicate.1 c).2];exact z
 split
 .split
  .exact⟨a,z⟩
  .split
   .exact⟨a,z⟩
   .rename_i p _ g e;unfold iK
    split
    .refine⟨fun x b y c=>?_,z⟩;obtain⟨u,m,rfl⟩:=cX.1 b;exact a u (List.mem_of_mem_eraseIdx m) y c
    split
    .split
     .split
      .split
       .refine⟨fun x b y c=>?_,z⟩;rcases Cl b with b|rfl
        .exact a x b y c
        .exact f _ g e y c
       .exact⟨a,z⟩
      .refine⟨a,?_⟩;rcases Ck g.ls o.i.toNat 0 with d|d
       .exact l _ g e _ d
       .simp only; rw[d]; exact z
     .exact⟨a,z⟩
    .split
     .split
      .refine⟨fun x b y c=>?_,z⟩;rcases Cl b with b|rfl
       .exact a x b y c
       .rcases Cl c with c|rfl
        .exact f _ g e y c
        .exact n
      .refine⟨a,?_⟩;rcases Ck g.ws o.i.toNat 0 with d|d
       .exact f _ g e _ d
       .simp only; rw[d]; exact z
     .exact⟨a,z⟩
 split
 .unfold jG
  split
  .split
   .refine⟨a,?_⟩;rcases Ck h.tops o.i.toNat 0 with d|d
    .exact Hu H (H.tops _ d)
    .simp only; rw[d]; exact z
   .split
    .refine⟨?_,z⟩;unfold pQ
     repeat' split
     all_goals exact a
    .exact⟨a,z⟩
  .exact⟨a,z⟩
 .exact⟨a,z⟩
theorem Rz(c:Int)(l:List Rw):(jB c l∈l∧(jB c l).c=c)∨jB c l=⟨0,0,0,0⟩:=by
 unfold jB
 cases h:l.find? fun r=>decide (r.c=c) with
 |none=>exact .inr rfl
 |some x=>
  have a:=List.find?_some h;exact .inl ⟨List.mem_of_find?_eq_some h,by simpa using a⟩
theorem jI{a:Int}{r:Rw}{l:List Rw}:eP a (r::l)=true↔a<r.c∧r.c≤4∧(1≤r.s∧r.s≤1000000)∧(0≤r.k∧r.k≤65535)∧eP r.c l=true:=by
 rw[show eP a (r::l)=((decide (a<r.c)&&decide (r.c≤4))&&(aF r.s 1 1000000&&(aF r.k 0 65535&&eP r.c l))) from rfl];unfold aF;simp only[bI,bP];constructor
 .rintro⟨⟨b,d⟩,e,f,g⟩; exact⟨b,d,e,f,g⟩
 .rintro⟨b,d,e,f,g⟩; exact⟨⟨b,d⟩,e,f,g⟩
theorem Cm{x:Rw}(d:x.c≤4)(e:1≤x.s∧x.s≤1000000)(f:0≤x.k∧x.k≤65535):∀(l:List Rw)(a:Int),a<x.c→eP a l=true→eP a (jV x l)=true
 |[],a,b,_=>jI.2 ⟨b,d,e,f,rfl⟩
 |r::l,a,b,h=>by
  obtain⟨n,i,j,m,g⟩:=jI.1 h;unfold jV
  split
  .exact jI.2 ⟨n,i,j,m,Cm d e f l r.c (by assumption) g⟩
  split
  .rename_i _ o;exact jI.2 ⟨b,d,e,f,o▸g⟩
  .exact jI.2 ⟨b,d,e,f,jI.2 ⟨by omega,i,j,m,g⟩⟩
theorem Hw{x r:Rw}:∀{l:List Rw},r∈jV x l→r=x∨r∈l
 |[],h=>.inl (bQ.1 h)
 |y::l,h=>by
  unfold jV at h
  split at h
  .rcases bA.1 h with rfl|h
   .exact .inr (by simp)
   .rcases Hw h with h|h
    .exact .inl h
    .exact .inr (by simp[h])
  split at h
  .rcases bA.1 h with rfl|h
   .exact .inl rfl
   .exact .inr (by simp[h])
  .rcases bA.1 h with rfl|h
   .exact .inl rfl
   .exact .inr h
theorem kA{s:St}:stB s=true↔cO s.h=true∧eP 0 s.rows=true:=by
 unfold stB;simp only[bI]
theorem Sa{s:St}(c:stB s=true)(b:stR s){e:En}(a:fY e=true)(k:inR e.u):stB (jC s e).1=true∧stR (jC s e).1:=by
 obtain⟨g,j⟩:=kA.1 c;unfold jC
 split
 .exact⟨c,b⟩
 rename_i i
 split
 .exact⟨c,b⟩
 split
 .exact⟨c,b⟩
 unfold fY aF at a;rw[aC i]at a;simp only[bI,bP]at a;have d:=Ht s.h e.op;unfold aF at d;simp only[bI,bP]at d;have f:=Ry g b.1 e.op k;refine⟨kA.2 ⟨Hk g e.op,Cm ?_ ?_ ?_ s.rows 0 ?_ j⟩,f.1,fun r h=>?_⟩
 .exact a.2.2.1.2
 .exact a.2.2.2
 .exact d
 .simp only; omega
 .rcases Hw h with rfl|h
  .exact f.2
  .exact b.2 r h
theorem Hy:∀(l:List En){s:St},stB s=true→stR s→(∀e∈l,fY e=true∧inR e.u)→stB (jD s l)=true∧stR (jD s l)
 |[],_,b,a,_=>⟨b,a⟩
 |e::l,s,b,a,h=>by
  have c:=h e (by simp);have d:=Sa b a c.1 c.2;exact Hy l d.1 d.2 fun x f=>h x (by simp[f])
theorem Sb(s:St)(l:List En)(e:En):jD s (l++[e])=(jC (jD s l) e).1:=by unfold jD; simp
def pT(x:Rw)(l:List Rw)(c:Int):List Rw:=(l.filter fun r=>decide (r.c=c)&& !decide (c=x.c))++if c=x.c then [x] else []
def jJ(x:Rw)(l:List Rw):Nat→Int→List Rw
 |0,_=>[]
 |n+1,c=>pT x l c++jJ x l n (c+1)
theorem pU:∀{l:List Rw}{a:Int},eP a l=true→∀r∈l,a<r.c
 |[],_,_,_,h=>by cases h
 |r::l,a,h,x,b=>by
  obtain⟨d,_,_,_,e⟩:=jI.1 h;rcases bA.1 b with rfl|b
  .exact d
  .have:=pU e x b; omega
theorem xP(x:Rw)(r:Rw)(l:List Rw):∀(n:Nat)(c:Int),r.c<c→jJ x (r::l) n c=jJ x l n c
 |0,_,_=>rfl
 |n+1,c,h=>by
  unfold jJ pT;rw[xP x r l n (c+1) (by omega),nA (by simp; omega)]
theorem vD{x:Rw}{l:List Rw}{c:Int}(h:∀r∈l,r.c≠c):pT x l c=if c=x.c then [x] else []:=by
 unfold pT;rw[List.filter_eq_nil_iff.2 fun r a=>by simp[h r a],aT]
theorem tK(x:Rw):∀(n:Nat)(c:Int)(l:List Rw),x.c<c→c+n=5→eP (c-1) l=true→jJ x l n c=l
 |0,c,l,k,j,h=>by
  cases l with
  |nil=>rfl
  |cons r l=>have:=jI.1 h; omega
 |n+1,c,l,k,j,h=>by
  unfold jJ
  cases l with
  |nil=>
   rw[vD (by simp),aC (by omega),tK x n (c+1) [] (by omega) (by omega) rfl];rfl
  |cons r l=>
   obtain⟨m,e,f,g,b⟩:=jI.1 h
   by_cases d:r.c=c
   .rw[xP x r l n (c+1) (by omega),tK x n (c+1) l (by omega) (by omega) (by rw[show c+1-1=r.c by omega]; exact b)];unfold pT;have i:(l.filter fun r=>decide (r.c=c)&& !decide (c=x.c))=[]:=List.filter_eq_nil_iff.2 fun y a=>by have:=pU b y a; simp; omega
    rw[oA (by simp[d]; omega),i,aC (by omega)];rfl
   .rw[vD (fun y a=>by
     rcases bA.1 a with rfl|a
     .exact d
     .have:=pU b y a; omega),aC (by omega),tK x n (c+1) (r::l) (by omega) (by omega) (jI.2 ⟨by omega,e,f,g,b⟩)]
    rfl
theorem xQ(x:Rw)(i:x.c≤4):∀(n:Nat)(c:Int)(l:List Rw),c≤x.c→c+n=5→eP (c-1) l=true→jJ x l n c=jV x l
 |0,c,l,q,o,h=>by omega
 |n+1,c,l,q,o,h=>by
  unfold jJ
  by_cases b:c=x.c
  .cases l with
   |nil=>
    rw[vD (by simp),aE b,tK x n (c+1) [] (by omega) (by omega) rfl];rfl
   |cons r l=>
    obtain⟨k,e,f,g,a⟩:=jI.1 h;have p:pT x (r::l) c=[x]:=by
     unfold pT;rw[aE b,List.filter_eq_nil_iff.2 fun y _=>by simp[b]];rfl
    rw[p]
    by_cases j:r.c=c
    .rw[xP x r l n (c+1) (by omega),tK x n (c+1) l (by omega) (by omega) (by rw[show c+1-1=r.c by omega]; exact a)];unfold jV;rw[aC (by omega),aE (by omega)];rfl
    .rw[tK x n (c+1) (r::l) (by omega) (by omega) (jI.2 ⟨by omega,e,f,g,a⟩)];unfold jV;rw[aC (by omega),aC (by omega)];rfl
  .cases l with
   |nil=>
    rw[vD (by simp),aC b,xQ x i n (c+1) [] (by omega) (by omega) rfl];rfl
   |cons r l=>
    obtain⟨k,e,f,g,a⟩:=jI.1 h
    by_cases j:r.c=c
    .rw[xP x r l n (c+1) (by omega),xQ x i n (c+1) l (by omega) (by omega) (by rw[show c+1-1=r.c by omega]; exact a)];unfold pT;have m:(l.filter fun r=>decide (r.c=c)&& !decide (c=x.c))=[]:=List.filter_eq_nil_iff.2 fun y d=>by have:=pU a y d; simp; omega
     rw[oA (by simp[j]; omega),m,aC b]
     conv=>rhs; unfold jV
     rw[aE (by omega)];rfl
    .rw[vD (fun y d=>by
      rcases bA.1 d with rfl|d
      .exact j
      .have:=pU a y d; omega),aC b,xQ x i n (c+1) (r::l) (by omega) (by omega) (jI.2 ⟨by omega,e,f,g,a⟩)]
     rfl
theorem Sc{x:Rw}{l:List Rw}(a:1≤x.c)(b:x.c≤4)(h:eP 0 l=true):jJ x l 4 1=jV x l:=xQ x b 4 1 l a (by decide) h
def fA(a:Int):List En→Bool
 |[]=>true
 |e::l=>decide (e.n=a+1)&&fA (a+1) l
def vwB(normal:Int):Int→List En→Bool
 |_,[]=>true
 |v,e::l=>fY e&&(aF e.v v normal&&vwB normal e.v l)
def jK(s:ByteArray):List UInt8:=s.data.toList
structure Kd where
 (view normal base:Int) (image:ByteArray) (es:List En)
deriving DecidableEq
def Kd.last(k:Kd):Int:=k.base+k.es.length
def rG(normal base:Int)(es:List En):Bool:=decide ((es.length:Int)≤4000)&&(fA base es&&vwB normal 0 es)
def dA(k:Kd):Bool:=aF k.view 0 900000000&&(aF k.normal 0 k.view&&(aF k.base 0 900000000&&(rG k.normal k.base k.es&&(dM (jK k.image)).isSome)))
def iB(k:Kd)(n:Int):Option St:=
 if dA k=true then if aF n k.base k.last=true then (dM (jK k.image)).map fun s=>jD s (k.es.take (n-k.base).toNat) else none else none
structure Vo where
 (node normal base number commit:Int) (es:List En)
deriving DecidableEq
def iC(v:Vo):Bool:=aF v.node 1 7&&(aF v.normal 0 900000000&&(aF v.base 0 900000000&&(rG v.normal v.base v.es&&(decide (v.number=v.base+v.es.length)&&aF v.commit v.base v.number))))
structure Pt where
 (src view number total:Int) (data:ByteArray)
deriving DecidableEq
structure Rp where
 (id nodes:Int) (k:Kd) (commit:Int) (st:St) (timer:Int) (starts:List Int) (votes:List Vo) (acks:List Ak) (part:Pt)
deriving DecidableEq
def kB(n:Int):Bool:=decide (n=3)||(decide (n=5)||decide (n=7))
def mM(nodes view:Int):Int:=if kB nodes=true∧aF view 0 900000000=true then 1+view % nodes else 0
def gY(r:Rp):Bool:=decide (r.k.normal=r.k.view)
def mN(r:Rp):Bool:=decide (mM r.nodes r.k.view=r.id)
def gM(r:Rp):Bool:=gY r&&mN r
def lY(nodes:Int):Int→List Int→Bool
 |_,[]=>true
 |was,n::l=>(decide (was<n)&&decide (n≤nodes))&&lY nodes n l
def lZ(nodes:Int):Int→List Vo→Bool
 |_,[]=>true
 |was,v::l=>iC v&&((decide (was<v.node)&&decide (v.node≤nodes))&&lZ nodes v.node l)
def mA(nodes id last:Int):Int→List Ak→Bool
 |_,[]=>true
 |was,a::l=>((decide (was<a.n)&&decide (a.n≤nodes))&&(!decide (a.n=id)&&aF a.k 0 last))&&mA nodes id last a.n l
def rH(r:Rp):Bool:=lY r.nodes 0 r.starts&&(lZ r.nodes 0 r.votes&&(mA r.nodes r.id r.k.last 0 r.acks&&
 if gY r=true then (r.starts.isEmpty&&r.votes.isEmpty)&&(r.acks.isEmpty||mN r) else if mN r=true then r.acks.isEmpty else r.votes.isEmpty&&r.acks.isEmpty))
def jL:Pt:=⟨0,0,0,0,ByteArray.empty⟩
def tL(r:Rp):Bool:=decide (r.part=jL)||((!gM r||decide (r.k.view<r.part.view))&&(aF r.part.src 1 r.nodes&&(!decide (r.part.src=r.id)&&(aF r.part.view r.k.view 800000000&&(aF r.part.number 1 800000000&&(aF r.part.total 1 65536&&decide ((r.part.data.size:Int)≤r.part.total)))))))
def dI(r:Rp):Bool:=kB r.nodes&&(aF r.id 1 r.nodes&&(dA r.k&&(decide (r.k.view≤800000000)&&(decide (r.k.last≤800000000)&&(aF r.timer 0 1000&&(rH r&&(tL r&&decide (iB r.k r.commit=some r.st))))))))
structure Rc where
 (kind view src number:Int) (image:ByteArray) (entry:En) (es:List En)
deriving DecidableEq
structure Mg where
 (kind src dst view normal number base commit:Int) (es:List En) (offset total:Int) (data:ByteArray) (seq:Int) (op:Opn) (code value:Int) (ok:Bool)
deriving DecidableEq
def pV:Opn:=⟨0,0,0,0,0,0,0⟩
def Cn:En:=⟨0,0,0,0,0,0,0,0,0,0,0⟩
def tM(nodes id:Int):List Int:=((List.range nodes.toNat).map fun n=>((n:Nat):Int)+1).filter fun n=> !decide (n=id)
def nL(id view d:Int):Mg:=⟨5,id,d,view,0,0,0,0,[],0,0,ByteArray.empty,0,pV,0,0,false⟩
def Hz(id view number commit d:Int):Mg:=⟨3,id,d,view,0,number,0,commit,[],0,0,ByteArray.empty,0,pV,0,0,false⟩
def vE(view:Int):Rc:=⟨1,view,0,0,ByteArray.empty,Cn,[]⟩
def rI(r:Rp):Rp:={r with k:={r.k with view:=r.k.view+1},starts:=[r.id],votes:=[],acks:=[],part:=jL,timer:=0}
def lI:Hp:=⟨0,0,0,0,0,0,[],[]⟩
def oQ:Rp:=⟨0,0,⟨0,0,0,ByteArray.empty,[]⟩,0,⟨lI,[]⟩,0,[],[],[],jL⟩
def cU(r:Rp):Rp×List Rc×List Mg:=
 if dI r=true then
  if gM r=true then
   if 3≤min (r.timer+1) 1000 then ({r with timer:=0},[],(tM r.nodes r.id).map (Hz r.id r.k.view r.k.last r.commit)) else ({r with timer:=min (r.timer+1) 1000},[],[])
  else if 10+2*r.id≤min (r.timer+1) 1000 then (rI r,[vE (r.k.view+1)],(tM r.nodes r.id).map (nL r.id (r.k.view+1))) else ({r with timer:=min (r.timer+1) 1000},[],[])
 else (oQ,[],[])
def kC(id nodes:Int)(k:Kd):Option Rp:=
 match dM (jK k.image) with
 |none=>none
 |some s=>if dI ⟨id,nodes,k,k.base,s,0,[],[],[],jL⟩=true then some ⟨id,nodes,k,k.base,s,0,[],[],[],jL⟩ else none
theorem Ia:∀{l:List Rw}{a:Int},eP a l=true→iL (fun r:Rw=>r.c) l
 |[],_,_=>trivial
 |r::l,a,h=>by
  obtain⟨_,_,_,_,b⟩:=jI.1 h;exact⟨pU b,Ia b⟩
theorem Co{x:Rw}:∀(l:List Rw)(a:Int),eP a l=true→jV x l=if (l.any fun r=>decide (r.c=x.c))=true then l.set (eT (fun r:Rw=>r.c) x.c l) x else l.take (eT (fun r:Rw=>r.c) x.c l)++x::l.drop (eT (fun r:Rw=>r.c) x.c l)
 |[],_,_=>rfl
 |r::l,a,h=>by
  obtain⟨_,_,_,_,e⟩:=jI.1 h;unfold jV eT
  by_cases b:r.c<x.c
  .rw[aE b,aE b,Co l r.c e,wK,aX (by omega),Bool.false_or]
   split<;>simp
  .rw[aC b,aC b]
   by_cases d:r.c=x.c
   .rw[aE d,aE (by simp[d])];simp
   .rw[aC d,aC]
    .simp
    .have:∀y∈l,y.c≠x.c:=fun y f=>by have:=pU e y f; omega
     simp[d];exact this
end
section
attribute [-go_sem] run_eql_struct run_neq_struct
theorem Jw(a b:Opn)(w:World):Sem.run prog (binOp .eql 44 (.agg a.cells.toArray) (.agg b.cells.toArray)) w=.ok (.bool (decide (a=b))) w:=by
 obtain⟨l,m,n,o,p,q,r⟩:=a;obtain⟨s,x,y,z,A,B,C⟩:=b;simp only[Opn.cells,Opn.mk.injEq];have j:prog.underlying 44=some (.struct (prog.fieldsOf 44)):=by kernel_rfl
 have k:prog.stoodInHeld 44=false:=by kernel_rfl
 rw[run_eql_struct,show (10000:Nat)=9999+1 from rfl,run_equalIn_agg w 9999 _ _ _ j k];simp only[Program.fieldsOf,underlying44]
 go_simp
 by_cases c:¬l=s
 .simp[c]
 replace c:=dQ.1 c
 subst c
 by_cases d:¬m=x
 .simp[d]
 replace d:=dQ.1 d
 subst d
 by_cases e:¬n=y
 .simp[e]
 replace e:=dQ.1 e
 subst e
 by_cases f:¬o=z
 .simp[f]
 replace f:=dQ.1 f
 subst f
 by_cases g:¬p=A
 .simp[g]
 replace g:=dQ.1 g
 subst g
 by_cases h:¬q=B
 .simp[h]
 replace h:=dQ.1 h
 subst h
 by_cases i:¬r=C
 .simp[i]
 replace i:=dQ.1 i
 subst i;simp
attribute [-go_sem] loadCellsFrom storeCells
attribute [local go_sem] bC
theorem Jx(n:Int)(w:World)(l:inR n):Calls prog 33 #[.i n] w fun e k=>e=.returned (.bool (kB n))∧k=w:=by
 obtain⟨r,f⟩:=nm' (kB n);have g:(decide (n.tmod 2=1)&&(decide (3≤n)&&decide (n≤7)))=r:=by
  rw[←f];unfold kB
  by_cases h:3≤n∧n≤7
  .have:n=3∨n=4∨n=5∨n=6∨n=7:=by omega
   rcases this with rfl|rfl|rfl|rfl|rfl<;>rfl
  .rw[show (decide (3≤n)&&decide (n≤7))=false by simp; omega,wI]
   symm
   simp;omega
 rw[f];obtain⟨a,d⟩:=nm' (decide (n.tmod 2=1));obtain⟨b,i⟩:=nm' (decide (3≤n));obtain⟨c,j⟩:=nm' (decide (n≤7));rw[d,i,j]at g;have m:((n.tmod 2:Int)==1)=a:=by rw[←d]; rfl
 go_enter func33,ntmps33
 cases a<;>cases b<;>cases c<;>subst g
 all_goals
  go_wp2_with fail;go_ret;exact⟨rfl,rfl⟩
theorem Jy(n:Int)(w:World):Calls prog 41 #[.i n] w fun e h=>e=.returned (.bool (kB n))∧h=w:=by
 unfold kB;obtain⟨a,d⟩:=nm' (decide (n=3));obtain⟨b,f⟩:=nm' (decide (n=5));obtain⟨c,g⟩:=nm' (decide (n=7));rw[d,f,g];have i:(n==3)=a:=d;have j:(n==5)=b:=f;have k:(n==7)=c:=g;go_enter func41,ntmps41
 cases a<;>cases b<;>cases c
 all_goals
  go_wp2_with fail;go_ret;exact⟨rfl,rfl⟩
theorem Jz:(∀(n:Int)(w:World),Calls prog 192 #[.i n] w fun e c=>e=.returned (.bool (aF n 0 900000000))∧c=w)∧(∀(n:Int)(w:World),Calls prog 153 #[.i n] w fun e c=>e=.returned (.bool (aF n 0 900000000))∧c=w):=by
 refine⟨?q0,?q1⟩
 all_goals
  intro n w;unfold aF;obtain⟨a,d⟩:=nm' (decide (0≤n));obtain⟨b,f⟩:=nm' (decide (n≤900000000));rw[d,f]
  first |go_enter func192,ntmps192|go_enter func153,ntmps153
  cases a<;>cases b
  all_goals
   go_wp2_with fail;go_ret;exact⟨rfl,rfl⟩
theorem Ka(nodes a:Int):(kB nodes=false∧mM nodes a=0)∨(kB nodes=true∧aF a 0 900000000=false∧mM nodes a=0)∨
  (kB nodes=true∧aF a 0 900000000=true∧(nodes=3∨nodes=5∨nodes=7)∧0≤a∧a≤900000000∧∃q,a.tmod nodes=q∧0≤q∧q<7∧mM nodes a=1+q):=by
 unfold mM
 cases h1:kB nodes
 .exact .inl ⟨rfl,by simp⟩
 cases h2:aF a 0 900000000
 .exact .inr (.inl ⟨rfl,rfl,by simp⟩)
 .refine .inr (.inr ⟨rfl,rfl,?_⟩);have c:nodes=3∨nodes=5∨nodes=7:=by unfold kB at h1; simpa using h1
  have b:0≤a∧a≤900000000:=by unfold aF at h2; simpa using h2
  refine⟨c,b.1,b.2,_,rfl,?_⟩;rw[aE ⟨rfl,rfl⟩,zM b.1];rcases c with rfl|rfl|rfl<;>exact⟨by omega,by omega,rfl⟩
theorem Uq(nodes h:Int)(w:World)(j:inR nodes):Calls prog 138 #[.i nodes,.i h] w fun e c=>e=.returned (.i (mM nodes h))∧c=w:=by
 have b:=kp (fun w=>Jx nodes w j);have g:=kp (Jz.1 h);rcases Ka nodes h with⟨d,f⟩|⟨d,i,f⟩|⟨d,i,j,m,n,q,s,p,r,f⟩
 .rw[d]at b;rw[f];go_enter func138,ntmps138;go_wp2_with fail;refine mb' (b.o _) fun c a=>?_;obtain rfl:=a.symm;go_wp2_with fail;go_ret;exact⟨rfl,rfl⟩
 .rw[d]at b;rw[i]at g;rw[f];go_enter func138,ntmps138;go_wp2_with fail;refine mb' (b.o _) fun c a=>?_;obtain rfl:=a.symm;go_wp2_with fail;refine mb' (g.o _) fun c a=>?_;obtain rfl:=a.symm;go_wp2_with fail;go_ret;exact⟨rfl,rfl⟩
 .rw[d]at b;rw[i]at g;rw[f];have l:¬nodes=0:=by omega
  have k:(1+q:Int)=q+1:=by omega
  rw[k];go_enter func138,ntmps138;go_wp2_with fail;refine mb' (b.o _) fun c a=>?_;obtain rfl:=a.symm;go_wp2_with fail;refine mb' (g.o _) fun c a=>?_;obtain rfl:=a.symm;go_wp2_with fail;go_ret;exact⟨rfl,rfl⟩
theorem Kb(nodes h:Int)(w:World):Calls prog 100 #[.i nodes,.i h] w fun e c=>e=.returned (.i (mM nodes h))∧c=w:=by
 have b:=kp (Jy nodes);have g:=kp (Jz.2 h);rcases Ka nodes h with⟨d,f⟩|⟨d,i,f⟩|⟨d,i,p,k,l,q,r,m,n,f⟩
 .rw[d]at b;rw[f];go_enter func100,ntmps100;go_wp2_with fail;refine mb' (b.o _) fun c a=>?_;obtain rfl:=a.symm;go_wp2_with fail;go_ret;exact⟨rfl,rfl⟩
 .rw[d]at b;rw[i]at g;rw[f];go_enter func100,ntmps100;go_wp2_with fail;refine mb' (b.o _) fun c a=>?_;obtain rfl:=a.symm;go_wp2_with fail;refine mb' (g.o _) fun c a=>?_;obtain rfl:=a.symm;go_wp2_with fail;go_ret;exact⟨rfl,rfl⟩
 .rw[d]at b;rw[i]at g;rw[f];have j:¬nodes=0:=by omega
  go_enter func100,ntmps100;go_wp2_with fail;refine mb' (b.o _) fun c a=>?_;obtain rfl:=a.symm;go_wp2_with fail;refine mb' (g.o _) fun c a=>?_;obtain rfl:=a.symm;go_wp2_with fail;go_ret;exact⟨rfl,rfl⟩
end
section
attribute [-go_sem] loadCellsFrom storeCells run_eql_struct run_neq_struct
attribute [local go_sem] bC
theorem vN:(∀(x:En)(w:World),Calls prog 91 #[.agg x.cells.toArray] w fun e f=>e=.returned (.bool (fY x))∧Bw' w f)∧(∀(x:En)(w:World),Calls prog 98 #[.agg x.cells.toArray] w fun e f=>e=.returned (.bool (fY x))∧Bw' w f):=by
 refine⟨?q0,?q1⟩
 case' q0=>have p:=True.intro
 all_goals
  intro x w;generalize G:w.alloc (.cells x.cells.toArray 46)=F;have l:Blk F w.heap.size 46 x.cells:=G▸Blk.new w 46 x.cells;have K:=kp (show Bw' w F from G▸ba' w _);have N:=l.cell 0;have O:=l.cell 1;have Q:=l.cell 2;have R:=l.cell 3;have V:=l.loadOff (P:=prog) 4 7 [.i x.k,.i x.h,.i x.i,.i x.m,.i x.j,.i x.u,.i x.t] rfl rfl;simp only[En.cells,aG,aK]at N O Q R;obtain⟨a,r⟩:=nm' (aF x.n 1 900000000);obtain⟨b,y⟩:=nm' (aF x.v 0 900000000);obtain⟨c,A⟩:=nm' (aF x.c 1 4);obtain⟨s,d⟩:=nm' (aF x.s 1 1000000);obtain⟨q,I⟩:∃q,decide (x.op=⟨0,0,0,0,0,0,0⟩)=q:=⟨_,rfl⟩
  obtain⟨z,J⟩:=nm' (decide (x.s=0));have T:∀w,Sem.run prog (binOp .eql 44 (.agg #[.i x.k,.i x.h,.i x.i,.i x.m,.i x.j,.i x.u,.i x.t]) (.agg #[.i 0,.i 0,.i 0,.i 0,.i 0,.i 0,.i 0])) w=.ok (.bool q) w:=fun w=>by
   rw[←I];exact Jw x.op ⟨0,0,0,0,0,0,0⟩ w
  first
  |(have:=p; have B:=kp (fun w=>by have:=cJ.2.2.2.1 x.n 1 900000000 w; rw[r]at this; exact this))
  |have B:=kp (fun w=>by have:=cJ.2.2.2.2.2.1 x.n 1 900000000 w; rw[r]at this; exact this)
  first
  |(have:=p; have C:=kp (fun w=>by have:=cJ.2.2.2.1 x.v 0 900000000 w; rw[y]at this; exact this))
  |have C:=kp (fun w=>by have:=cJ.2.2.2.2.2.1 x.v 0 900000000 w; rw[y]at this; exact this)
  first
  |(have:=p; have D:=kp (fun w=>by have:=cJ.2.2.2.1 x.c 1 4 w; rw[A]at this; exact this))
  |have D:=kp (fun w=>by have:=cJ.2.2.2.2.2.1 x.c 1 4 w; rw[A]at this; exact this)
  first
  |(have:=p; have E:=kp (fun w=>by have:=cJ.2.2.2.1 x.s 1 1000000 w; rw[d]at this; exact this))
  |have E:=kp (fun w=>by have:=cJ.2.2.2.2.2.1 x.s 1 1000000 w; rw[d]at this; exact this)
  have U:(x.s==0)=z:=J;obtain⟨g,H⟩:=nm' (decide (x.c=0));have S:(x.c==0)=g:=H;have M:fY x=(a&&(b&&if g=true then z&&q else c&&s)):=by
   unfold fY;rw[r,y,A,d,I,J,←H]
   by_cases h:x.c=0<;>simp[h]
  rw[M];generalize x.n=W at *;generalize x.v=X at *;generalize x.c=Y at *;generalize x.s=Z at *
  first |go_enter func91,ntmps91|go_enter func98,ntmps98
  have L:(a=false∧g=false)∨(a=false∧g=true)∨(a=true∧b=false∧g=false)∨(a=true∧b=false∧g=true)∨(a=true∧b=true∧g=false∧c=false)∨(a=true∧b=true∧g=false∧c=true∧s=false)∨(a=true∧b=true∧g=false∧c=true∧s=true)∨
    (a=true∧b=true∧g=true∧z=false)∨(a=true∧b=true∧g=true∧z=true∧q=false)∨(a=true∧b=true∧g=true∧z=true∧q=true):=by
   cases a<;>cases b<;>cases g<;>cases z<;>cases q<;>cases c<;>cases s<;>decide
  rcases L with⟨rfl,rfl⟩|⟨rfl,rfl⟩|⟨rfl,rfl,rfl⟩|⟨rfl,rfl,rfl⟩|⟨rfl,rfl,rfl,rfl⟩|⟨rfl,rfl,rfl,rfl,rfl⟩|⟨rfl,rfl,rfl,rfl,rfl⟩|⟨rfl,rfl,rfl,rfl⟩|⟨rfl,rfl,rfl,rfl,rfl⟩|⟨rfl,rfl,rfl,rfl,rfl⟩
  all_goals
   go_wp2_with (first |(with_reducible refine Calls.mono (B.o _) ?_; rintro e f ⟨rfl,d⟩; obtain rfl:=d.symm; clear d)|(with_reducible refine Calls.mono (C.o _) ?_; rintro e f ⟨rfl,d⟩; obtain rfl:=d.symm; clear d)|(with_reducible refine Calls.mono (D.o _) ?_; rintro e f ⟨rfl,d⟩; obtain rfl:=d.symm; clear d)|(with_reducible refine Calls.mono (E.o _) ?_; rintro e f ⟨rfl,d⟩; obtain rfl:=d.symm; clear d));go_ret;exact⟨rfl,K.o⟩
theorem Df{a:Int}{l:List En}(k:Nat)(b:k<l.length)(h:fA a (l.take k)=true):fA a l=(decide (l[k].n=a+k+1)&&fA (a+k+1) (l.drop (k+1))):=by
 induction k generalizing a l with
 |zero=>
  cases l with
  |nil=>simp at b
  |cons e l=>simp[fA]
 |succ k c=>
  cases l with
  |nil=>simp at b
  |cons e l=>
   simp only[qK,fA,bI,bP]at h;have:=c (a:=a+1) (l:=l) (by simpa using b) h.2;simp only[fA,dO,Et,h.1,decide_true,jF,this];rw[show a+1+(k:Int)+1=a+((k+1:Nat):Int)+1 by omega]
theorem Ke{a:Int}{l:List En}(k:Nat)(d:k<l.length)(h:fA a (l.take k)=true)(c:l[k].n=a+k+1):fA a (l.take (k+1))=true:=by
 have b:=Df (a:=a) (l:=l.take (k+1)) k (by simp; omega) (by rw[kN,oC (by omega)]; exact h);rw[b,Fb,c];simp[fA]
theorem yG:(∀(v:Value)(l:List En)(a:Int)(B:Nat)(w:World)(h:Sl w B v En.cells l)(p:B≤w.heap.size)(r:l.length≤1000000)(s:∀e∈l,inR e.n)(I:0≤a)(J:a≤900000000),Calls prog 90 #[v,.i a] w fun e F=>e=.returned (.bool (fA a l))∧Bw' w F)∧(∀(v:Value)(l:List En)(a:Int)(B:Nat)(w:World)(h:Sl w B v En.cells l)(p:B≤w.heap.size)(r:l.length≤1000000)(s:∀e∈l,inR e.n)(I:0≤a)(J:a≤900000000),Calls prog 137 #[v,.i a] w fun e F=>e=.returned (.bool (fA a l))∧Bw' w F):=by
 refine⟨?q0,?q1⟩
 all_goals
  intro v l a B w h p r s I J;obtain⟨A,c,rfl,R,V,Y⟩:=h;obtain⟨n,K⟩:=nm' l.length;rw[K]at r ⊢;have H:=k'3 R K s
  first |go_enter func90,ntmps90|go_enter func137,ntmps137
  go_wp2_with fail
  go_loopw [9] (fun i wr=>∃k:Nat,k≤n∧i=.i k∧fA a (l.take k)=true∧Bw' w wr) (fun i _=>n-(intOf i).toNat)
  case atStart=>exact⟨0,by omega,rfl,rfl,aL _ _⟩
  case round=>
   obtain⟨k,W,rfl,O,L⟩:=hrel;have m:=kp O;have d:=kp L
   by_cases X:k<n
   .have U:(k:Int)<(n:Int):=by omega
    have f:k<l.length:=by have:=H.b; omega
    obtain⟨b,b0,rfl,-,M,Q⟩:=dB (P:=prog) 11 En.cells eL (by omega) (H.a.below d.o p) k f;have q1:=M 0 _ rfl;have q0:=Q 0;change Sem.run _ _ wr=.ok _ wr at q0;simp only[cF]at q1;have y:=H.C _ (bK f);have G:=k'2 (Df (a:=a) k f m.o) (Ke (a:=a) k f m.o);generalize l[k]'f=x at *;have Z:=y.1;have a0:=y.2;have T:=kp y
    by_cases q:x.n=a+k+1
    .have N:(wrap64 (wrap64 (x.n-1)-k) != a)=false:=by rw[q]; unfold wrap64; simp; omega
     have j:=kp q;have g:=Blk.new wr 46 z'3;have S:=g.store (P:=prog) (cs':=x.cells) rfl (nI x);have D:=g.set x.cells;have E:=kp (d.o.trans (((cL (ba' wr (.cells z'3a 46)) (aD _) x.cells.toArray)).mono d.o.size));have z:=D.cell 0;change _=some (Value.i x.n)at z;go_wp2_with fail;go_roundw
     case rel=>exact⟨k+1,by omega,by go_num,G.B j.o,E.o⟩
     case measure=>simp[intOf]; omega
    .have N:(wrap64 (wrap64 (x.n-1)-k) != a)=true:=by unfold wrap64; simp; omega
     have j:=kp q;have g:=Blk.new wr 46 z'3;have S:=g.store (P:=prog) (cs':=x.cells) rfl (nI x);have D:=g.set x.cells;have E:=kp (d.o.trans (((cL (ba' wr (.cells z'3a 46)) (aD _) x.cells.toArray)).mono d.o.size));have z:=D.cell 0;change _=some (Value.i x.n)at z;go_wp2_with fail;go_ret;exact⟨by rw[G.a,aX j.o]; rfl,E.o⟩
   .obtain rfl:k=n:=by omega
    go_wp2_with fail;go_ret;have:=m.o;rw[cN (by have:=H.b; omega)]at this;exact⟨by rw[this]; rfl,d.o⟩
theorem yH:(∀(v:Value)(l:List En)(a:Int)(B:Nat)(w:World)(h:Sl w B v En.cells l)(m:B≤w.heap.size)(q:l.length≤1000000)(r:∀e∈l,inR e.n)(D:0≤a)(E:a≤900000000),Calls prog 97 #[v,.i a] w fun e y=>e=.returned (.bool (fA a l))∧Bw' w y)∧(∀(v:Value)(l:List En)(a:Int)(B:Nat)(w:World)(h:Sl w B v En.cells l)(m:B≤w.heap.size)(q:l.length≤1000000)(r:∀e∈l,inR e.n)(D:0≤a)(E:a≤900000000),Calls prog 152 #[v,.i a] w fun e y=>e=.returned (.bool (fA a l))∧Bw' w y):=by
 refine⟨?q0,?q1⟩
 all_goals
  intro v l a B w h m q r D E;obtain⟨A,c,rfl,M,Q,T⟩:=h;obtain⟨n,F⟩:=nm' l.length;rw[F]at q ⊢;have H:=k'3 M F r
  first |go_enter func97,ntmps97|go_enter func152,ntmps152
  go_wp2_with fail
  go_loopw [5] (fun i wr=>∃k:Nat,k≤n∧i=.i k∧fA a (l.take k)=true∧Bw' w wr) (fun i _=>n-(intOf i).toNat)
  case atStart=>exact⟨0,by omega,rfl,rfl,aL _ _⟩
  case round=>
   obtain⟨k,R,rfl,K,G⟩:=hrel;have j:=kp K;have f:=kp G
   by_cases S:k<n
   .have O:(k:Int)<(n:Int):=by omega
    have d:k<l.length:=by have:=H.b; omega
    obtain⟨b,W,rfl,-,I,L⟩:=dB (P:=prog) 11 En.cells eL (by omega) (H.a.below f.o m) k d;have q1:=I 0 _ rfl;have q0:=L 0;change Sem.run _ _ wr=.ok _ wr at q0;simp only[cF]at q1;have s:=H.C _ (bK d);have z:=k'2 (Df (a:=a) k d j.o) (Ke (a:=a) k d j.o);generalize l[k]'d=x at *;have U:=s.1;have V:=s.2;have N:=kp s
    by_cases p:x.n=a+k+1
    .have J:(wrap64 (wrap64 (x.n-1)-k) != a)=false:=by rw[p]; unfold wrap64; simp; omega
     have g:=kp p
     skip
     go_wp2_with fail;go_roundw
     case rel=>exact⟨k+1,by omega,by go_num,z.B g.o,f.o⟩
     case measure=>simp[intOf]; omega
    .have J:(wrap64 (wrap64 (x.n-1)-k) != a)=true:=by unfold wrap64; simp; omega
     have g:=kp p
     skip
     go_wp2_with fail;go_ret;exact⟨by rw[z.a,aX g.o]; rfl,f.o⟩
   .obtain rfl:k=n:=by omega
    go_wp2_with fail;go_ret;have:=j.o;rw[cN (by have:=H.b; omega)]at this;exact⟨by rw[this]; rfl,f.o⟩
end
section
theorem Kt{l r:List UInt8}{z:Int}(h:eY l=some (z,r)):inR z:=by
 unfold eY at h
 split at h
 .cases h;unfold aA
  split
  .exact⟨by decide,by decide⟩
  .unfold inR wrap64; omega
 .cases h
theorem yL{α:Type}{one:List UInt8→Option (α×List UInt8)}{Q:α→Prop}(b:∀l x r,one l=some (x,r)→Q x):∀(n:Nat)(l:List UInt8)(xs:List α)(r:List UInt8),aZ one n l=some (xs,r)→∀x∈xs,Q x
 |0,_,_,_,h=>by cases h; intro x e; cases e
 |n+1,l,xs,r,h=>by
  unfold aZ at h
  split at h
  .cases h
  .rename_i c
   split at h
   .cases h
   .rename_i d
    cases h;intro y a;rcases bA.1 a with rfl|a
    .exact b _ _ _ c
    .exact yL b n _ _ _ d y a
theorem Vl{l r:List UInt8}{x:Ob}(h:obP l=some (x,r)):∀z∈x.ws,inR z:=by
 unfold obP at h
 split at h
 .split at h
  .cases h
  split at h
  .cases h
  rename_i a
  split at h
  .cases h
  .cases h;exact yL (fun _ _ _ h=>Kt h) _ _ _ _ a
 .cases h
theorem Vm{l:List UInt8}{x:Hp}(h:eZ l=some x):cO x=true∧hpR x:=by
 unfold eZ at h
 split at h
 .rename_i a
  split at h
  .rename_i b
   cases h;refine⟨b,?_⟩;unfold hpP at a
   split at a
   .split at a
    .cases a
    split at a
    .cases a
    .rename_i c
     cases a;exact fun x d=>yL (Q:=fun x:Ob=>∀z∈x.ws,inR z) (fun _ _ _ h=>Vl h) _ _ _ _ c x d
   .cases a
  .cases h
 .cases h
theorem Vn{l r:List UInt8}{x:Rw}(h:rwP l=some (x,r)):inR x.v:=by
 unfold rwP at h
 split at h
 .split at h
  .cases h
  .rename_i a
   cases h;exact Kt a
 .cases h
theorem tW{l:List UInt8}{s:St}(h:dM l=some s):stB s=true∧stR s:=by
 unfold dM at h
 split at h
 .split at h
  .cases h
  rename_i a
  split at h
  .cases h
  split at h
  .cases h
  split at h
  .rename_i b
   split at h
   .rename_i c
    cases h;exact⟨c,(Vm a).2,fun x d=>yL (Q:=fun x:Rw=>inR x.v) (fun _ _ _ h=>Vn h) _ _ _ _ b x d⟩
   .cases h
  .cases h
 .cases h
theorem Ku:∀{l:List En}{a:Int},fA a l=true→∀k(b:k<l.length),(l[k]).n=a+k+1
 |[],_,_,k,b=>by simp at b
 |e::l,a,h,0,_=>by
  unfold fA at h;simp only[bI,bP]at h;simp[h.1]
 |e::l,a,h,k+1,b=>by
  unfold fA at h;simp only[bI,bP]at h;have:=Ku h.2 k (by simpa using b);simp only[Et];rw[this]
  push_cast
  omega
theorem Kv:∀{l:List En}{b v:Int},vwB b v l=true→∀e∈l,fY e=true
 |[],_,_,_,_,a=>by cases a
 |x::l,b,v,h,e,a=>by
  unfold vwB at h;simp only[bI]at h;rcases bA.1 a with rfl|a
  .exact h.1
  .exact Kv h.2.2 e a
structure KOk(k:Kd)(s:St):Prop where
 view:0≤k.view∧k.view≤900000000
 normal:0≤k.normal∧k.normal≤k.view
 base:0≤k.base∧k.base≤900000000
 len:(k.es.length:Int)≤4000
 fol:fA k.base k.es=true
 vw:vwB k.normal 0 k.es=true
 img:dM (jK k.image)=some s
theorem pZ{k:Kd}:dA k=true↔∃s,KOk k s:=by
 unfold dA rG aF;simp only[bI,bP,Option.isSome_iff_exists];constructor
 .rintro⟨a,b,c,⟨d,e,f⟩,s,g⟩; exact⟨s,a,b,c,d,e,f,g⟩
 .rintro⟨s,a,b,c,d,e,f,g⟩; exact⟨a,b,c,⟨d,e,f⟩,s,g⟩
theorem KOk.may{k:Kd}{s:St}(h:KOk k s):∀e∈k.es,fY e=true:=Kv h.vw
theorem Dk{k:Kd}{n:Int}(h:dA k=false):iB k n=none:=by unfold iB; rw[h]; rfl
theorem vO{k:Kd}{n:Int}(h:aF n k.base k.last=false):iB k n=none:=by unfold iB; rw[h]; split<;>rfl
theorem Dl{k:Kd}{n:Int}{s:St}(h:KOk k s)(a:aF n k.base k.last=true):iB k n=some (jD s (k.es.take (n-k.base).toNat)):=by
 unfold iB;rw[aE (pZ.2 ⟨s,h⟩),aE a,h.img];rfl
theorem Kw(s:St)(l:List En)(k:Nat)(a:k<l.length):jD s (l.take (k+1))=(jC (jD s (l.take k)) l[k]).1:=by
 rw[cV a,Sb]
theorem Vp{s:St}(b:stB s=true){e:En}(a:fY e=true):stB (jC s e).1=true:=by
 obtain⟨f,g⟩:=kA.1 b;unfold jC
 split
 .exact b
 rename_i d
 split
 .exact b
 split
 .exact b
 unfold fY aF at a;rw[aC d]at a;simp only[bI,bP]at a;have c:=Ht s.h e.op;unfold aF at c;simp only[bI,bP]at c;exact kA.2 ⟨Hk f e.op,Cm a.2.2.1.2 a.2.2.2 c s.rows 0 (by simp only; omega) g⟩
theorem Dm:∀{l:List En}{s:St},stB s=true→(∀e∈l,fY e=true)→stB (jD s l)=true
 |[],_,a,_=>a
 |e::l,_,a,h=>Dm (l:=l) (Vp a (h e (by simp))) fun x b=>h x (by simp[b])
theorem Dn{k:Kd}{n:Int}{s:St}(c:∀e∈k.es,inR e.u)(h:iB k n=some s):stB s=true∧stR s:=by
 cases hk:dA k
 .rw[Dk hk]at h; cases h
 obtain⟨d,H⟩:=pZ.1 hk
 cases h2:aF n k.base k.last
 .rw[vO h2]at h; cases h
 rw[Dl H h2]at h
 cases h;have a:=tW H.img;exact Hy _ a.1 a.2 fun e b=>⟨H.may e (qN b),c e (qN b)⟩
end
section
def nR(nodes:Int)(ok:Bool):Int→List Int→Bool
 |_,[]=>true
 |was,n::l=>((aF n 1 nodes&&decide (was<n))&&ok)&&nR nodes ok n l
def mT(nodes:Int)(ok:Bool):Int→List Vo→Bool
 |_,[]=>true
 |was,v::l=>(iC v&&((decide (v.node≤nodes)&&decide (was<v.node))&&ok))&&mT nodes ok v.node l
def nS(nodes id last:Int)(ok:Bool):Int→List Ak→Bool
 |_,[]=>true
 |was,a::l=>((aF a.n 1 nodes&&(!decide (a.n=id)&&aF a.k 0 last))&&(decide (was<a.n)&&ok))&&nS nodes id last ok a.n l
def yM(r:Rp):Bool:=nR r.nodes (!gY r) 0 r.starts&&(mT r.nodes (!gY r&&mN r) 0 r.votes&&nS r.nodes r.id r.k.last (gM r) 0 r.acks)
theorem Kx(nodes:Int)(b:Bool):∀(l:List Int)(a:Int),0≤a→nR nodes b a l=(lY nodes a l&&(l.isEmpty||b))
 |[],_,_=>rfl
 |n::l,a,h=>by
  unfold nR lY aF
  by_cases c:a<n
  .rw[Kx nodes b l n (by omega),bY c,bY (show 1≤n by omega)]
   cases decide (n≤nodes)<;>cases b<;>cases lY nodes n l<;>cases l<;>simp
  .rw[aX c]; simp
theorem Vq{v:Vo}(h:iC v=true):1≤v.node:=by
 unfold iC aF at h;simp only[bI,bP]at h;exact h.1.1
theorem Ky(nodes:Int)(a:Bool):∀(l:List Vo)(b:Int),mT nodes a b l=(lZ nodes b l&&(l.isEmpty||a))
 |[],_=>rfl
 |v::l,b=>by
  unfold mT lZ;rw[Ky nodes a l v.node]
  cases iC v<;>cases decide (v.node≤nodes)<;>cases decide (b<v.node)<;>cases a<;>cases lZ nodes v.node l<;>cases l<;>simp
theorem Kz(nodes id b:Int)(d:Bool):∀(l:List Ak)(c:Int),0≤c→nS nodes id b d c l=(mA nodes id b c l&&(l.isEmpty||d))
 |[],_,_=>rfl
 |a::l,c,h=>by
  unfold nS mA
  by_cases e:c<a.n
  .rw[Kz nodes id b d l a.n (by omega),bY e,show aF a.n 1 nodes=decide (a.n≤nodes) by unfold aF; rw[bY (show 1≤a.n by omega),jF]]
   cases decide (a.n≤nodes)<;>cases decide (a.n=id)<;>cases aF a.k 0 b<;>cases d<;>cases mA nodes id b a.n l<;>cases l<;>simp
  .rw[aX e]; simp
theorem Vr(r:Rp):yM r=rH r:=by
 unfold yM rH;rw[Kx _ _ _ _ (by omega),Ky,Kz _ _ _ _ _ _ (by omega)];unfold gM
 cases gY r<;>cases mN r<;>cases lY r.nodes 0 r.starts<;>cases lZ r.nodes 0 r.votes<;>cases mA r.nodes r.id r.k.last 0 r.acks<;>cases r.starts<;>cases r.votes<;>cases r.acks<;>rfl
theorem Vs(nodes:Int)(a:Bool)(b:Int)(l:List Int)(k:Nat)(c:k<l.length):nR nodes a b (l.drop k)=(((aF l[k] 1 nodes&&decide (b<l[k]))&&a)&&nR nodes a l[k] (l.drop (k+1))):=by
 rw[fG c]; rfl
theorem Vt(nodes:Int)(a:Bool)(b:Int)(l:List Vo)(k:Nat)(c:k<l.length):mT nodes a b (l.drop k)=((iC l[k]&&((decide ((l[k]).node≤nodes)&&decide (b<(l[k]).node))&&a))&&mT nodes a (l[k]).node (l.drop (k+1))):=by
 rw[fG c]; rfl
theorem Vu(nodes id a:Int)(b:Bool)(c:Int)(l:List Ak)(k:Nat)(d:k<l.length):nS nodes id a b c (l.drop k)=(((aF (l[k]).n 1 nodes&&(!decide ((l[k]).n=id)&&aF (l[k]).k 0 a))&&(decide (c<(l[k]).n)&&b))&&nS nodes id a b (l[k]).n (l.drop (k+1))):=by
 rw[fG d]; rfl
theorem Vv(nodes a:Int)(l:List Int)(k:Nat)(b:k<l.length):lY nodes a (l.drop k)=((decide (a<l[k])&&decide (l[k]≤nodes))&&lY nodes l[k] (l.drop (k+1))):=by
 rw[fG b]; rfl
theorem Vw(nodes a:Int)(l:List Vo)(k:Nat)(b:k<l.length):lZ nodes a (l.drop k)=(iC l[k]&&((decide (a<(l[k]).node)&&decide ((l[k]).node≤nodes))&&lZ nodes (l[k]).node (l.drop (k+1)))):=by
 rw[fG b]; rfl
theorem Vx(nodes id a b:Int)(l:List Ak)(k:Nat)(c:k<l.length):mA nodes id a b (l.drop k)=(((decide (b<(l[k]).n)&&decide ((l[k]).n≤nodes))&&(!decide ((l[k]).n=id)&&aF (l[k]).k 0 a))&&mA nodes id a (l[k]).n (l.drop (k+1))):=by
 rw[fG c]; rfl
theorem Vy{s t:St}(b:stB s=true)(d:stR s)(f:stR t):decide ((if stB s=true then gI s else [])=if stB t=true then gI t else [])=decide (s=t):=by
 rw[aE b]
 by_cases a:stB t=true
 .rw[aE a]
  by_cases e:s=t
  .subst e; simp
  .rw[aX e,aX fun h=>e (Rk b d a f h)]
 .rw[aC a];have c:gI s≠[]:=fun h=>by
   have:=bG List.length h;unfold gI at this;simp only[bB,gX,mH]at this;omega
  rw[aX c,aX];rintro rfl;exact a b
end
end Go.Proofs.YtdoopoapbffpbaaGreat
