import Derived.Test.YthalbagblhkeaaaGreatZ01
import Derived.Test.YthalbagblhkeaaaGreatZ02
import Derived.Test.YthalbagblhkeaaaGreatZ03
import Derived.Lib.OwnKind
import Derived.Shelf.SlSortCmp.WholeK
import Derived.Shelf.SlSortCmp.NoneTotal
import Derived.Lib.OwnBridge
import Derived.Lib.SmallJoins
namespace Go.Proofs.YthalbagblhkeaaaGreat
open Go.RowKit Go.Proofs.Tryz
set_option maxRecDepth 100000
set_option maxHeartbeats 12800000
set_option linter.unusedVariables false
set_option linter.unusedSimpArgs false
section
def En.op(e:En):Opn:=⟨e.k,e.h,e.i,e.m,e.j,e.u,e.t⟩
def fY(e:En):Bool:=aF e.n 1 900000000&&(aF e.v 0 900000000&&if e.c=0 then decide (e.s=0)&&decide (e.op=⟨0,0,0,0,0,0,0⟩) else aF e.c 1 4&&aF e.s 1 1000000)
def jB(c:Int)(l:List Rw):Rw:=(l.find? fun r=>decide (r.c=c)).getD ⟨0,0,0,0⟩
def jV(x:Rw):List Rw→List Rw
 |[]=>[x]
 |r::l=>if r.c<x.c then r::jV x l else if r.c=x.c then x::l else x::r::l
def jC(s:St)(e:En):St×Int×Int:=
 if e.c=0 then (s,0,0) else
 if e.s<(jB e.c s.rows).s then (s,130,0) else
 if (jB e.c s.rows).s=e.s then (s,(jB e.c s.rows).k,(jB e.c s.rows).v) else
 (⟨(dU s.h e.op).1,jV ⟨e.c,e.s,(dU s.h e.op).2.1,(dU s.h e.op).2.2⟩ s.rows⟩,(dU s.h e.op).2.1,(dU s.h e.op).2.2)
def jD(s:St)(l:List En):St:=l.foldl (fun s e=>(jC s e).1) s
theorem Ht(h:Hp)(o:Opn):aF (dU h o).2.1 0 65535=true:=by
 have a:aF 0 0 65535=true:=rfl;have b:aF 50 0 65535=true:=rfl;have c:aF 51 0 65535=true:=rfl;have d:aF 52 0 65535=true:=rfl;have e:aF 53 0 65535=true:=rfl;have f:aF 54 0 65535=true:=rfl;have g:aF 2 0 65535=true:=rfl;unfold dU fP iK jG
 repeat' split
 all_goals assumption
def enR(e:En):Prop:=inR e.n∧inR e.v∧inR e.c∧inR e.s∧inR e.k∧inR e.h∧inR e.i∧inR e.m∧inR e.j∧inR e.u∧inR e.t
theorem Hu{h:Hp}(H:HOk h){t:Int}(a:lF h.obs t):inR t:=by
 have c:=H.next;rcases a with rfl|⟨x,b,rfl⟩
 .exact⟨by omega,by omega⟩
 .have:=H.rise.1 x b; exact⟨by omega,by omega⟩
theorem Ck{α:Type}(l:List α)(i:Nat)(d:α):l.getD i d∈l∨l.getD i d=d:=by
 rw[kK]
 cases h:l[i]? with
 |none=>exact .inr rfl
 |some x=>exact .inl (oY h)
theorem Cl{α:Type}{l:List α}{i:Nat}{a x:α}(h:x∈l.set i a):x∈l∨x=a:=by
 rcases zN h with h|h
 .exact .inl h
 .exact .inr h
theorem Ry{h:Hp}(k:cO h=true)(a:hpR h)(o:Opn)(n:inR o.v):hpR (dU h o).1∧inR (dU h o).2.2:=by
 have H:=eC.1 k;have q:=H.next;have z:inR 0:=⟨by omega,by omega⟩
 have f:∀(p:Nat)(g:Ob),h.obs[p]? =some g→∀z∈g.ws,inR z:=fun p g e z j=>a g (oY e) z j;have l:∀(p:Nat)(g:Ob),h.obs[p]? =some g→∀z∈g.ls,inR z:=fun p g e z j=>Hu H (H.links g (oY e) z j);unfold dU
 split
 .unfold fP
  split
  .exact⟨a,z⟩
  split
  .exact⟨a,z⟩
  split
  .exact⟨a,z⟩
  .refine⟨fun x b y c=>?_,⟨by simp only; omega,by simp only; omega⟩⟩;rcases dF.1 b with b|b
   .exact a x b y c
   .rw[bQ.1 b]at c;rw[(List.mem_replicate.1 c).2];exact z
 split
 .split
  .exact⟨a,z⟩
  .split
   .exact⟨a,z⟩
   .rename_i p _ g e;unfold iK
    split
    .refine⟨fun x b y c=>?_,z⟩;obtain⟨u,m,rfl⟩:=cX.1 b;exact a u (List.mem_of_mem_eraseIdx m) y c
    split
    .split
     .split
      .split
       .refine⟨fun x b y c=>?_,z⟩;rcases Cl b with b|rfl
        .exact a x b y c
        .exact f _ g e y c
       .exact⟨a,z⟩
      .refine⟨a,?_⟩;rcases Ck g.ls o.i.toNat 0 with d|d
       .exact l _ g e _ d
       .simp only; rw[d]; exact z
     .exact⟨a,z⟩
    .split
     .split
      .refine⟨fun x b y c=>?_,z⟩;rcases Cl b with b|rfl
       .exact a x b y c
       .rcases Cl c with c|rfl
        .exact f _ g e y c
        .exact n
      .refine⟨a,?_⟩;rcases Ck g.ws o.i.toNat 0 with d|d
       .exact f _ g e _ d
       .simp only; rw[d]; exact z
     .exact⟨a,z⟩
 split
 .unfold jG
  split
  .split
   .refine⟨a,?_⟩;rcases Ck h.tops o.i.toNat 0 with d|d
    .exact Hu H (H.tops _ d)
    .simp only; rw[d]; exact z
   .split
    .refine⟨?_,z⟩;unfold pQ
     repeat' split
     all_goals exact a
    .exact⟨a,z⟩
  .exact⟨a,z⟩
 .exact⟨a,z⟩
theorem Rz(c:Int)(l:List Rw):(jB c l∈l∧(jB c l).c=c)∨jB c l=⟨0,0,0,0⟩:=by
 unfold jB
 cases h:l.find? fun r=>decide (r.c=c) with
 |none=>exact .inr rfl
 |some x=>
  have a:=List.find?_some h;exact .inl ⟨List.mem_of_find?_eq_some h,by simpa using a⟩
theorem jI{last:Int}{r:Rw}{l:List Rw}:eP last (r::l)=true↔last<r.c∧r.c≤4∧(1≤r.s∧r.s≤1000000)∧(0≤r.k∧r.k≤65535)∧eP r.c l=true:=by
 rw[show eP last (r::l)=((decide (last<r.c)&&decide (r.c≤4))&&(aF r.s 1 1000000&&(aF r.k 0 65535&&eP r.c l))) from rfl];unfold aF;simp only[bI,bP];constructor
 .rintro⟨⟨a,b⟩,d,e,f⟩; exact⟨a,b,d,e,f⟩
 .rintro⟨a,b,d,e,f⟩; exact⟨⟨a,b⟩,d,e,f⟩
theorem Cm{x:Rw}(b:x.c≤4)(d:1≤x.s∧x.s≤1000000)(e:0≤x.k∧x.k≤65535):∀(l:List Rw)(last:Int),last<x.c→eP last l=true→eP last (jV x l)=true
 |[],last,a,_=>jI.2 ⟨a,b,d,e,rfl⟩
 |r::l,last,a,h=>by
  obtain⟨m,g,i,j,f⟩:=jI.1 h;unfold jV
  split
  .exact jI.2 ⟨m,g,i,j,Cm b d e l r.c (by assumption) f⟩
  split
  .rename_i _ n;exact jI.2 ⟨a,b,d,e,n▸f⟩
  .exact jI.2 ⟨a,b,d,e,jI.2 ⟨by omega,g,i,j,f⟩⟩
theorem Hw{x r:Rw}:∀{l:List Rw},r∈jV x l→r=x∨r∈l
 |[],h=>.inl (bQ.1 h)
 |y::l,h=>by
  unfold jV at h
  split at h
  .rcases bA.1 h with rfl|h
   .exact .inr (by simp)
   .rcases Hw h with h|h
    .exact .inl h
    .exact .inr (by simp[h])
  split at h
  .rcases bA.1 h with rfl|h
   .exact .inl rfl
   .exact .inr (by simp[h])
  .rcases bA.1 h with rfl|h
   .exact .inl rfl
   .exact .inr h
theorem kA{s:St}:stB s=true↔cO s.h=true∧eP 0 s.rows=true:=by
 unfold stB;simp only[bI]
theorem Sa{s:St}(c:stB s=true)(b:stR s){e:En}(a:fY e=true)(k:inR e.u):stB (jC s e).1=true∧stR (jC s e).1:=by
 obtain⟨g,j⟩:=kA.1 c;unfold jC
 split
 .exact⟨c,b⟩
 rename_i i
 split
 .exact⟨c,b⟩
 split
 .exact⟨c,b⟩
 unfold fY aF at a;rw[aC i]at a;simp only[bI,bP]at a;have d:=Ht s.h e.op;unfold aF at d;simp only[bI,bP]at d;have f:=Ry g b.1 e.op k;refine⟨kA.2 ⟨Hk g e.op,Cm ?_ ?_ ?_ s.rows 0 ?_ j⟩,f.1,fun r h=>?_⟩
 .exact a.2.2.1.2
 .exact a.2.2.2
 .exact d
 .simp only; omega
 .rcases Hw h with rfl|h
  .exact f.2
  .exact b.2 r h
theorem Hy:∀(l:List En){s:St},stB s=true→stR s→(∀e∈l,fY e=true∧inR e.u)→stB (jD s l)=true∧stR (jD s l)
 |[],_,b,a,_=>⟨b,a⟩
 |e::l,s,b,a,h=>by
  have c:=h e (by simp);have d:=Sa b a c.1 c.2;exact Hy l d.1 d.2 fun x f=>h x (by simp[f])
theorem Sb(s:St)(l:List En)(e:En):jD s (l++[e])=(jC (jD s l) e).1:=by unfold jD; simp
theorem pU:∀{l:List Rw}{a:Int},eP a l=true→∀r∈l,a<r.c
 |[],_,_,_,h=>by cases h
 |r::l,a,h,x,b=>by
  obtain⟨d,_,_,_,e⟩:=jI.1 h;rcases bA.1 b with rfl|b
  .exact d
  .have:=pU e x b; omega
def fA(a:Int):List En→Bool
 |[]=>true
 |e::l=>decide (e.n=a+1)&&fA (a+1) l
def vwB(normal:Int):Int→List En→Bool
 |_,[]=>true
 |v,e::l=>fY e&&(aF e.v v normal&&vwB normal e.v l)
def jK(s:ByteArray):List UInt8:=s.data.toList
structure Kd where
 (view normal base:Int) (image:ByteArray) (es:List En)
deriving DecidableEq
def Kd.last(k:Kd):Int:=k.base+k.es.length
def rG(normal base:Int)(es:List En):Bool:=decide ((es.length:Int)≤4000)&&(fA base es&&vwB normal 0 es)
def dA(k:Kd):Bool:=aF k.view 0 900000000&&(aF k.normal 0 k.view&&(aF k.base 0 900000000&&(rG k.normal k.base k.es&&(dM (jK k.image)).isSome)))
def iB(k:Kd)(n:Int):Option St:=
 if dA k=true then if aF n k.base k.last=true then (dM (jK k.image)).map fun s=>jD s (k.es.take (n-k.base).toNat) else none else none
structure Vo where
 (node normal base number commit:Int) (es:List En)
deriving DecidableEq
def iC(v:Vo):Bool:=aF v.node 1 7&&(aF v.normal 0 900000000&&(aF v.base 0 900000000&&(rG v.normal v.base v.es&&(decide (v.number=v.base+v.es.length)&&aF v.commit v.base v.number))))
structure Pt where
 (src view number total:Int) (data:ByteArray)
deriving DecidableEq
structure Rp where
 (id nodes:Int) (k:Kd) (commit:Int) (st:St) (timer:Int) (starts:List Int) (votes:List Vo) (acks:List Ak) (part:Pt)
deriving DecidableEq
def kB(n:Int):Bool:=decide (n=3)||(decide (n=5)||decide (n=7))
def mM(nodes view:Int):Int:=if kB nodes=true∧aF view 0 900000000=true then 1+view % nodes else 0
def gY(r:Rp):Bool:=decide (r.k.normal=r.k.view)
def mN(r:Rp):Bool:=decide (mM r.nodes r.k.view=r.id)
def gM(r:Rp):Bool:=gY r&&mN r
def lY(nodes:Int):Int→List Int→Bool
 |_,[]=>true
 |was,n::l=>(decide (was<n)&&decide (n≤nodes))&&lY nodes n l
def lZ(nodes:Int):Int→List Vo→Bool
 |_,[]=>true
 |was,v::l=>iC v&&((decide (was<v.node)&&decide (v.node≤nodes))&&lZ nodes v.node l)
def mA(nodes id last:Int):Int→List Ak→Bool
 |_,[]=>true
 |was,a::l=>((decide (was<a.n)&&decide (a.n≤nodes))&&(!decide (a.n=id)&&aF a.k 0 last))&&mA nodes id last a.n l
def rH(r:Rp):Bool:=lY r.nodes 0 r.starts&&(lZ r.nodes 0 r.votes&&(mA r.nodes r.id r.k.last 0 r.acks&&
 if gY r=true then (r.starts.isEmpty&&r.votes.isEmpty)&&(r.acks.isEmpty||mN r) else if mN r=true then r.acks.isEmpty else r.votes.isEmpty&&r.acks.isEmpty))
def jL:Pt:=⟨0,0,0,0,ByteArray.empty⟩
def tL(r:Rp):Bool:=decide (r.part=jL)||((!gM r||decide (r.k.view<r.part.view))&&(aF r.part.src 1 r.nodes&&(!decide (r.part.src=r.id)&&(aF r.part.view r.k.view 800000000&&(aF r.part.number 1 800000000&&(aF r.part.total 1 65536&&decide ((r.part.data.size:Int)≤r.part.total)))))))
def dI(r:Rp):Bool:=kB r.nodes&&(aF r.id 1 r.nodes&&(dA r.k&&(decide (r.k.view≤800000000)&&(decide (r.k.last≤800000000)&&(aF r.timer 0 1000&&(rH r&&(tL r&&decide (iB r.k r.commit=some r.st))))))))
structure Rc where
 (kind view src number:Int) (image:ByteArray) (entry:En) (es:List En)
deriving DecidableEq
structure Mg where
 (kind src dst view normal number base commit:Int) (es:List En) (offset total:Int) (data:ByteArray) (seq:Int) (op:Opn) (code value:Int) (ok:Bool)
deriving DecidableEq
def pV:Opn:=⟨0,0,0,0,0,0,0⟩
def Cn:En:=⟨0,0,0,0,0,0,0,0,0,0,0⟩
def tM(nodes id:Int):List Int:=((List.range nodes.toNat).map fun n=>((n:Nat):Int)+1).filter fun n=> !decide (n=id)
def nL(id view d:Int):Mg:=⟨5,id,d,view,0,0,0,0,[],0,0,ByteArray.empty,0,pV,0,0,false⟩
def Hz(id view number commit d:Int):Mg:=⟨3,id,d,view,0,number,0,commit,[],0,0,ByteArray.empty,0,pV,0,0,false⟩
def vE(view:Int):Rc:=⟨1,view,0,0,ByteArray.empty,Cn,[]⟩
def rI(r:Rp):Rp:={r with k:={r.k with view:=r.k.view+1},starts:=[r.id],votes:=[],acks:=[],part:=jL,timer:=0}
def lI:Hp:=⟨0,0,0,0,0,0,[],[]⟩
def oQ:Rp:=⟨0,0,⟨0,0,0,ByteArray.empty,[]⟩,0,⟨lI,[]⟩,0,[],[],[],jL⟩
def cU(r:Rp):Rp×List Rc×List Mg:=
 if dI r=true then
  if gM r=true then
   if 3≤min (r.timer+1) 1000 then ({r with timer:=0},[],(tM r.nodes r.id).map (Hz r.id r.k.view r.k.last r.commit)) else ({r with timer:=min (r.timer+1) 1000},[],[])
  else if 10+2*r.id≤min (r.timer+1) 1000 then (rI r,[vE (r.k.view+1)],(tM r.nodes r.id).map (nL r.id (r.k.view+1))) else ({r with timer:=min (r.timer+1) 1000},[],[])
 else (oQ,[],[])
def kC(id nodes:Int)(k:Kd):Option Rp:=
 match dM (jK k.image) with
 |none=>none
 |some s=>if dI ⟨id,nodes,k,k.base,s,0,[],[],[],jL⟩=true then some ⟨id,nodes,k,k.base,s,0,[],[],[],jL⟩ else none
theorem Ia:∀{l:List Rw}{a:Int},eP a l=true→iL (fun r:Rw=>r.c) l
 |[],_,_=>trivial
 |r::l,a,h=>by
  obtain⟨_,_,_,_,b⟩:=jI.1 h;exact⟨pU b,Ia b⟩
theorem Co{x:Rw}:∀(l:List Rw)(a:Int),eP a l=true→jV x l=if (l.any fun r=>decide (r.c=x.c))=true then l.set (eT (fun r:Rw=>r.c) x.c l) x else l.take (eT (fun r:Rw=>r.c) x.c l)++x::l.drop (eT (fun r:Rw=>r.c) x.c l)
 |[],_,_=>rfl
 |r::l,a,h=>by
  obtain⟨_,_,_,_,e⟩:=jI.1 h;unfold jV eT
  by_cases b:r.c<x.c
  .rw[aE b,aE b,Co l r.c e,wK,aX (by omega),Bool.false_or]
   split<;>simp
  .rw[aC b,aC b]
   by_cases d:r.c=x.c
   .rw[aE d,aE (by simp[d])];simp
   .rw[aC d,aC]
    .simp
    .have:∀y∈l,y.c≠x.c:=fun y f=>by have:=pU e y f; omega
     simp[d];exact this
end
section
attribute [-go_sem] loadCellsFrom storeCells
attribute [local go_sem] bC
theorem vF(n:Int):0≤kT n∧kT n≤6:=by
 unfold kT
 repeat' split
 all_goals omega
theorem Ib{n k:Int}(b:0≤n)(c:n≤48)(e:0≤k)(f:k≤kT (1+n)):decide (aQ k≤n)=decide (k<kT (1+n)):=by
 have d:=vF (1+n);have g:k=0∧aQ k=1∨k=1∧aQ k=2∨k=2∧aQ k=4∨k=3∧aQ k=8∨k=4∧aQ k=16∨k=5∧aQ k=32∨k=6∧aQ k=64:=by
  rcases (show k=0∨k=1∨k=2∨k=3∨k=4∨k=5∨k=6 by omega) with rfl|rfl|rfl|rfl|rfl|rfl|rfl<;>decide
 have a:aQ k≤n↔k<kT (1+n):=by
  unfold kT at *;constructor
  .intro h
   repeat' split
   all_goals omega
  .intro h
   repeat' split at h
   all_goals omega
 simp only[a]
theorem Cp(a b:Int)(w:World):Calls prog 202 #[.i a,.i b] w fun e d=>e=.returned (.i (bX a b))∧d=w:=by
 unfold bX;rcases tB (aF a 0 32) (aF b 0 16) with⟨f,j⟩|⟨f,h,j⟩|⟨f,h,j⟩
 .rw[j,aC (by simp)];have g:=kp f;go_enter func202,ntmps202;go_wp2_with fail;refine mb' (oK.2.2.2.2 a 0 32 w) fun d c=>?_;obtain rfl:=c.symm;rw[g.o];go_wp2_with fail;go_ret;exact⟨rfl,rfl⟩
 .rw[j,aC (by simp)];have g:=kp f;have l:=kp h;go_enter func202,ntmps202;go_wp2_with fail;refine mb' (oK.2.2.2.2 a 0 32 w) fun d c=>?_;obtain rfl:=c.symm;rw[g.o];go_wp2_with fail;refine mb' (oK.2.2.2.2 b 0 16 w) fun d c=>?_;obtain rfl:=c.symm;rw[l.o];go_wp2_with fail;go_ret;exact⟨rfl,rfl⟩
 .rw[j,aE rfl];have z:0≤a∧a≤32∧0≤b∧b≤16:=by
   unfold aF at f h;simp only[bI,bP]at f h;omega
  have g:=kp f;have l:=kp h;obtain⟨m,p⟩:∃m:Nat,kT (1+a+b)=m:=⟨(kT (1+a+b)).toNat,by have:=vF (1+a+b); omega⟩
  have y:m≤6:=by have:=vF (1+a+b); omega
  rw[p];have x:=kp (show ∀k:Nat,k≤m→decide (aQ k≤a+b)=decide (k<m) from fun k r=>by
   have:=Ib (n:=a+b) (k:=k) (by omega) (by omega) (by omega) (by rw[←Ag,p]; omega);rw[this,←Ag,p];simp)
  go_enter func202,ntmps202;go_wp2_with fail;refine mb' (oK.2.2.2.2 a 0 32 w) fun d c=>?_;obtain rfl:=c.symm;rw[g.o];go_wp2_with fail;refine mb' (oK.2.2.2.2 b 0 16 w) fun d c=>?_;obtain rfl:=c.symm;rw[l.o];go_wp2_with fail
  go_loop [5] (fun i=>∃k:Nat,k≤m∧i=.i k) (fun i=>m-(intOf i).toNat)
  case atStart=>exact⟨0,by omega,rfl⟩
  case round=>
   obtain⟨k,r,rfl⟩:=hrel;have q:=x.o k r;have A:=gF k
   by_cases s:k<m
   .rw[bY s]at q;go_wp2_with fail;refine mb' (iT _ _) fun d c=>?_;obtain rfl:=c.symm;go_wp2_with fail
    go_round
    case rel=>exact⟨k+1,by omega,by go_num⟩
    case measure=>simp[intOf]; omega
   .rw[aX s]at q;obtain rfl:k=m:=by omega
    go_wp2_with fail;refine mb' (iT _ _) fun d c=>?_;obtain rfl:=c.symm;go_wp2_with fail;go_ret;exact⟨rfl,rfl⟩
theorem Sd(p:ObV)(t:Int)(w:World):Calls prog 278 (#[.agg p.cells.toArray,.i t]++#[]) w fun e a=>e=.returned (.i (fX p.x.h t))∧Bw' w a:=by
 show Calls prog 278 #[.agg p.cells.toArray,.i t] w _;have d:(w.alloc (.cells p.cells.toArray 152)).cell? ⟨w.heap.size,0,none⟩=some (.i p.x.h):=(Blk.new w 152 p.cells).cell 0;have b:=kp (ba' w (.cells p.cells.toArray 152));go_enter func278,ntmps278;go_wp2_with fail;refine mb' (tJ p.x.h t _) fun a c=>?_;obtain rfl:=c.symm;go_wp2_with fail;go_ret;exact⟨rfl,b.o⟩
theorem Ic(v:Value)(ps:List ObV)(t:Int)(B:Nat)(w:World)(h:Sl w B v ObV.cells ps)(d:B≤w.heap.size)(f:ps.length≤1000000)(g:iL (fun p=>p.x.h) ps):
  Calls prog 248 #[v,.i t] w fun e i=>e=.returned (.tuple #[.i (eT (fun p:ObV=>p.x.h) t ps:Nat),.bool (ps.any fun p=>decide (p.x.h=t))])∧Bw' w i:=by
 have c:=kp (aCm.1 v ps (fun p=>p.x.h) t 278 #[] B w h d f g (enters_of func278 (by kernel_rfl) rfl) (fun W x _ _=>Sd x t W));go_enter func248,ntmps248;go_wp2_with fail;refine mb' c.o fun j a=>?_;have b:=kp a; clear a;go_wp2_with fail;go_ret2;exact⟨rfl,b.o⟩
theorem Id(v:Value)(ps:List ObV)(t:Int)(B:Nat)(w:World)(h:Sl w B v ObV.cells ps)(g:B≤w.heap.size)(i:ps.length≤1000000)(j:iL (fun p=>p.x.h) ps):
  Calls prog 206 #[v,.i t] w fun e k=>e=.returned (.bool (dS (ps.map (·.x)) t))∧Bw' w k:=by
 have c:=kp (Ic v ps t B w h g i j);unfold dS;rw[Ai];obtain⟨y,f⟩:=nm' (ps.any fun p=>decide (p.x.h=t));have d:=kp (f▸c.o); clear c;rw[show (ps.any ((fun x:Ob=>decide (x.h=t))∘fun x:ObV=>x.x))=y from f]
 cases ht:decide (t=0)
 .have a:(t==0)=false:=by simpa using ht
  go_enter func206,ntmps206;go_wp2_with fail;refine mb' d.o fun l a=>?_;have b:=kp a; clear a;go_wp2_with fail;go_ret;exact⟨rfl,b.o⟩
 .have a:(t==0)=true:=by simpa using ht
  go_enter func206,ntmps206;go_wp2_with fail;refine mb' d.o fun l a=>?_;have b:=kp a; clear a;go_wp2_with fail;go_ret;exact⟨rfl,b.o⟩
end
section
def Ow{α:Type}(w:World)(base:Nat)(t:TypeId)(k:Nat)(v:Value)(enc:α→List Value)(l:List α):Prop:=w.ownsRow base t k v l.length (aM enc l)
section
variable {α β:Type}{enc:α→List Value}{enc2:β→List Value}{w w':World}{base base2:Nat}{t t2:TypeId}{k k2:Nat}{v v2:Value}{l:List α}{l2:List β}
theorem Ow.nil(w:World)(base:Nat)(t:TypeId)(k:Nat)(enc:α→List Value):Ow w base t k (.slice none 0 0) enc []:=World.ownsRow_nil _ _ _ _
theorem Ow.below(h:Ow w base t k v enc l)(a:Bw' w w'):Ow w' base t k v enc l:=Fo h a (aD _)
theorem Ow.alloc(h:Ow w base t k v enc l)(o:Obj):Ow (w.alloc o) base t k v enc l:=World.ownsRow.alloc h o
theorem Ow.mono(h:Ow w base t k v enc l)(a:base2≤base):Ow w base2 t k v enc l:=Fm h a
theorem Ow.sl(h:Ow w base t k v enc l)(b:∀a,(enc a).length=k):Sl w w.heap.size v enc l:=Sl.of_own b h rfl
theorem Ow.one(h:Ow w base t k v enc l):v.oneCell'=true:=by
 obtain⟨A,c,rfl,_⟩:=eD h;rfl
theorem Ow.eqv{l':List α}(h:Ow w base t k v enc l)(e:l=l'):Ow w base t k v enc l':=e▸h
theorem Ow.other(h:Ow w base t k v enc l)(b:Ow w base2 t2 k2 v2 enc2 l2)(j:t≠t2)(i:w.grownBy w' v.ownBlock):Ow w' base2 t2 k2 v2 enc2 l2:=by
 refine World.ownsRow.kept b i ?_
 cases hv:v2.ownBlock with
 |none=>exact .inl rfl
 |some a=>
  refine .inr fun g=>?_;obtain⟨c2,n,c⟩:=Lib.ownsRow_kind b a hv;obtain⟨c1,m,f⟩:=Lib.ownsRow_kind h a g.symm;rw[f]at c;injection c with e
  injection e with _ d
  exact j d
theorem Ow.grew(h:Ow w base t k v enc l)(b:w.grownBy w' v.ownBlock)(a:base≤w.heap.size):Below base w w':=uO h b a
theorem eQ(w:World)(t:TypeId)(x:α):Sl (w.alloc (.cells (enc x).toArray t)) (w.heap.size+1) (.slice (some ⟨w.heap.size,0,none⟩) 1 1) enc [x]:=by
 refine⟨_,_,rfl,.inr ⟨w.heap.size,0,rfl,by omega,fun j u a=>?_⟩,aD _,by unfold maxLen; omega⟩;rw[hY,(Blk.new w t (enc x)).cell];simpa [aM] using a
end
theorem eU{α:Type}{enc:α→List Value}{P:Program}(w:World){j:Array Oper}{k:List Oper}{o:Oper}{a:Act}{Q:Exit→Act→World→Prop}(D:o.guard=none)(s x:Operand)(t:TypeId)
  (H:o.op=.call {callee:=.builtin .append,args:=#[s,x],argTypes:=#[t,t]})
  (base:Nat) (e:TypeId) {z:Value} {size d:Nat} (E:(P.info? e).map (fun i=>(i.zero,i.size,i.bytes))=some (some z,size,d)) (N:P.underlying t=some (.slice e)) (U:z.cells.size=size) (M:0<size)
  (G:∀a,(enc a).length=size) {v:Value} {l:List α} (J:Ow w base e size v enc l) (L:a.eval s=v) {B:Nat} {v2:Value} {l2:List α} (f:Sl w B v2 enc l2) (O:a.eval x=v2) (m:∀a∈l2,∀u∈enc a,u.oneCell'=true)
  (n:l.length+l2.length≤maxLen) (y:(l.length+l2.length)*d≤140737488355328) (q:base≤w.heap.size)
  (h:∀v' w',Ow w' base e size v' enc (l++l2)→w.grownBy w' v.ownBlock→wpList P j Q k (a.put o.dst v') w'):wpList P j Q (o::k) a w:=by
 obtain⟨A,c,rfl,K,_,_⟩:=f;obtain⟨V,F,R,S,T⟩:=info_parts E;refine oJ w D s x t H base e V z size d N F R S T U M v l.length (aM enc l) J L B A l2.length c (aM enc l2) K O (eB size G l2) (fun u g=>?_) n y q fun v' w' I C=>h v' w' ?_ C
 .obtain⟨r,f,g⟩:=List.mem_flatten.1 g;obtain⟨b,p,rfl⟩:=cX.1 f;exact m b p u g
 .unfold Ow;rw[bB,lV];exact I
theorem Ie{P:Program}{w:World}{b o:Nat}(xs:List Value)(a:∀t u,xs[t]? =some u→w.cell? ⟨b,o+t,none⟩=some u):Sem.run P (loadCellsFrom ⟨b,o,none⟩ 0 xs.length #[]) w=.ok xs.toArray w:=by
 have:=run_loadCells_list (P:=P) (w:=w) ⟨b,o,none⟩ xs (fun j v c=>by
  rw[Addr.add_lit];exact a j v c)
 simpa [loadCells] using this
theorem If{P:Program}{w:World}{b o:Nat}{x y:Value}(c:w.cell? ⟨b,o,none⟩=some x)(d:w.cell? ⟨b,o+1,none⟩=some y):Sem.run P (loadCellsFrom ⟨b,o,none⟩ 0 2 #[]) w=.ok #[x,y] w:=by
 refine Ie (P:=P) [x,y] fun t u a=>?_
 match t,a with
 |0,a=>cases a; exact c
 |1,a=>cases a; exact d
structure cI(w:World)(g:Nat)(t:TypeId)(p:HpV):Prop where
 blk:Blk w g t p.cells
 c0:w.cell? ⟨g,0,none⟩=some (.i p.x.order)
 c1:w.cell? ⟨g,1,none⟩=some p.ov
 c2:w.cell? ⟨g,2,none⟩=some (.i p.x.next)
 c3:w.cell? ⟨g,3,none⟩=some (.i p.x.t0)
 c4:w.cell? ⟨g,4,none⟩=some (.i p.x.t1)
 c5:w.cell? ⟨g,5,none⟩=some (.i p.x.t2)
 c6:w.cell? ⟨g,6,none⟩=some (.i p.x.t3)
 c7:w.cell? ⟨g,7,none⟩=some p.fv
theorem cI.of{w:World}{g:Nat}{t:TypeId}{p:HpV}(h:Blk w g t p.cells):cI w g t p:=⟨h,h.cell 0,h.cell 1,h.cell 2,h.cell 3,h.cell 4,h.cell 5,h.cell 6,h.cell 7⟩
theorem cI.below{w w':World}{g:Nat}{t:TypeId}{p:HpV}(h:cI w g t p)(a:Bw' w w'):cI w' g t p:=.of (h.blk.below a h.blk.lt)
attribute [-go_sem] loadCellsFrom storeCells
attribute [local go_sem] bC
end
section
theorem Ii(a b c d:Bool):(a=true)∨(a=false∧b=true)∨(a=false∧b=false∧c=true)∨(a=false∧b=false∧c=false∧d=true)∨(a=false∧b=false∧c=false∧d=false):=by
 cases a<;>cases b<;>cases c<;>cases d<;>simp
theorem vH{w:World}{B:Nat}{v:Value}{ps:List ObV}(h:pL w B v ps)(k:Nat)(e:k<ps.length):∃b d a c,ps[k].wv=.slice b ps[k].x.ws.length d∧ps[k].lv=.slice a ps[k].x.ls.length c∧Rd w B a (aM i1 ps[k].x.ls)∧ps[k].x.ws.length≤maxLen∧ps[k].x.ls.length≤maxLen:=by
 obtain⟨⟨b,d,i,_,j,l⟩,a,c,f,g,m,n⟩:=h.2 _ (bK e);exact⟨b,d,a,c,i,f,g,by omega,by omega⟩
structure tO(h:Hp)(l:List Ob)(L:Int):Prop where
 le:∀y∈l,y.h≤L
 rise:l.Pairwise (fun x y=>x.h<y.h)
 pos:∀y∈l,1≤y.h∧y.h<h.next
 ob:∀y∈l,obB h.order y=true
 link:∀y∈l,∀t∈y.ls,dS h.obs t=true
theorem tO.snoc{h:Hp}{l:List Ob}{L:Int}(s:tO h l L){y:Ob}(d:1≤y.h)(e:y.h<h.next)(b:l=[]∨L<y.h)(f:obB h.order y=true)(g:∀t∈y.ls,dS h.obs t=true):tO h (l++[y]) y.h:=by
 have c:∀z∈l,z.h<y.h:=fun z a=>by
  rcases b with rfl|b
  .cases a
  .have:=s.le z a; omega
 refine⟨fun z a=>?_,?_,fun z a=>?_,fun z a=>?_,fun z a=>?_⟩
 .rcases dF.1 a with a|a
  .have:=c z a; omega
  .rw[bQ.1 a]; exact iQ _
 .rw[pB];exact⟨s.rise,by simp,fun z a u i=>by rw[bQ.1 i]; exact c z a⟩
 all_goals
  rcases dF.1 a with a|a
 .exact s.pos z a
 .rw[bQ.1 a]; exact⟨d,e⟩
 .exact s.ob z a
 .rw[bQ.1 a]; exact f
 .exact s.link z a
 .rw[bQ.1 a]; exact g
theorem xR{h:Hp}(H:HOk h):gL h.order h.free=true∧((h.obs.length:Int)≤256):=by
 have:=eC.2 H;unfold cO at this;simp only[bI,bP]at this;exact⟨this.1,this.2.2.1⟩
structure gJ(w:World)(g:Nat)(t:TypeId)(p:ObV):Prop where
 blk:Blk w g t p.cells
 c0:w.cell? ⟨g,0,none⟩=some (.i p.x.h)
 c1:w.cell? ⟨g,1,none⟩=some (.i p.x.b.a)
 c2:w.cell? ⟨g,2,none⟩=some (.i p.x.b.o)
 c3:w.cell? ⟨g,3,none⟩=some p.wv
 c4:w.cell? ⟨g,4,none⟩=some p.lv
theorem gJ.of{w:World}{g:Nat}{t:TypeId}{p:ObV}(h:Blk w g t p.cells):gJ w g t p:=⟨h,h.cell 0,h.cell 1,h.cell 2,h.cell 3,h.cell 4⟩
theorem gJ.below{w a:World}{g:Nat}{t:TypeId}{p:ObV}(h:gJ w g t p)(b:Bw' w a):gJ a g t p:=.of (h.blk.below b h.blk.lt)
end
section
open Go.Shelf Go.Sort Go.RowKit Go.Lib
def Sg:Go.Shelf.Ren:=⟨fun|6=>203|15=>173|14=>247|28=>228|29=>229|20=>269|21=>270|22=>271|23=>272|24=>273|25=>274|26=>275|27=>276|46=>290|47=>256|48=>257|49=>291|50=>292|57=>306|n=>n,fun|22=>27|24=>150|25=>264|3=>3|39=>209|0=>0|53=>286|55=>213|4=>4|46=>280|45=>279|50=>157|5=>5|9=>9|66=>311|70=>269|76=>342|77=>343|n=>n,fun|n=>n⟩
theorem Ik:Go.Proofs.SlLaysF0.n6 prog Sg:={
 mixed:=by kernel_rfl
 f6:=⟨f203.name,by decide,func203.trans (bG some (by kernel_rfl))⟩
 f14:=⟨f247.name,by decide,func247.trans (bG some (by kernel_rfl))⟩
 f15:=func173.trans (bG some (by kernel_rfl))
 f20:=⟨f269.name,by decide,func269.trans (bG some (by kernel_rfl))⟩
 f21:=⟨f270.name,by decide,func270.trans (bG some (by kernel_rfl))⟩
 f22:=⟨f271.name,by decide,func271.trans (bG some (by kernel_rfl))⟩
 f23:=⟨f272.name,by decide,func272.trans (bG some (by kernel_rfl))⟩
 f24:=⟨f273.name,by decide,func273.trans (bG some (by kernel_rfl))⟩
 f25:=⟨f274.name,by decide,func274.trans (bG some (by kernel_rfl))⟩
 f26:=⟨f275.name,by decide,func275.trans (bG some (by kernel_rfl))⟩
 f27:=⟨f276.name,by decide,func276.trans (bG some (by kernel_rfl))⟩
 f28:=func228.trans (bG some (by kernel_rfl))
 f29:=func229.trans (bG some (by kernel_rfl))
 f46:=⟨f290.name,by decide,func290.trans (bG some (by kernel_rfl))⟩
 f47:=func256.trans (bG some (by kernel_rfl))
 f48:=func257.trans (bG some (by kernel_rfl))
 f49:=⟨f291.name,by decide,func291.trans (bG some (by kernel_rfl))⟩
 f50:=⟨f292.name,by decide,func292.trans (bG some (by kernel_rfl))⟩
 f57:=⟨f306.name,by decide,func306.trans (bG some (by kernel_rfl))⟩
 t0:=underlying0
 a0:=isAgg0
 z0:=sizeOf0
 v0:=zeroValue0
 t3:=dD
 a3:=isAgg3
 z3:=sizeOf3
 v3:=zeroValue3
 t4:=aCw
 a4:=isAgg4
 z4:=sizeOf4
 v4:=zeroValue4
 t5:=sX
 a5:=isAgg5
 z5:=sizeOf5
 v5:=zeroValue5
 t9:=oG
 a9:=isAgg9
 z9:=sizeOf9
 v9:=zeroValue9
 t22:=fC
 a22:=isAgg27
 z22:=sizeOf27
 v22:=zeroValue27
 t25:=underlying264
 a25:=isAgg264
 z25:=sizeOf264
 v25:=zeroValue264
 t39:=underlying209
 a39:=isAgg209
 z39:=sizeOf209
 v39:=zeroValue209
 t45:=underlying279
 a45:=isAgg279
 z45:=sizeOf279
 v45:=zeroValue279
 t46:=underlying280
 a46:=isAgg280
 z46:=sizeOf280
 v46:=zeroValue280
 t50:=underlying157
 a50:=isAgg157
 z50:=sizeOf157
 v50:=zeroValue157
 t53:=underlying286
 a53:=isAgg286
 z53:=sizeOf286
 v53:=zeroValue286
 t55:=underlying213
 a55:=isAgg213
 z55:=sizeOf213
 v55:=zeroValue213
 t66:=underlying311
 a66:=isAgg311
 z66:=sizeOf311
 v66:=zeroValue311
 t70:=underlying269
 a70:=isAgg269
 z70:=sizeOf269
 v70:=zeroValue269
 t76:=underlying342
 a76:=isAgg342
 z76:=sizeOf342
 v76:=zeroValue342
 t77:=underlying343
 a77:=isAgg343
 z77:=sizeOf343
 v77:=zeroValue343}
instance bkAny:Inhabited Bk:=⟨⟨0,0⟩⟩
def oR(x y:Bk):Int:=fX x.a y.a
theorem xS(x y:Bk):ltOf oR x y=decide (x.a<y.a):=by unfold ltOf oR; exact Hr _ _
theorem Sh:SWO (ltOf oR) where
 irrefl x:=by rw[xS]; simp
 trans x y z h1 h2:=by rw[xS]at *; simp at *; omega
 ntrans x y z h1 h2:=by rw[xS]at *; simp at *; omega
theorem Il(l:List Bk):flatK Bk.cells 2 l.toArray=(aM Bk.cells l).toArray:=by
 apply Array.ext';apply sR;intro t;have c:=eB (enc:=Bk.cells) 2 bM l;unfold flatK;simp only[gT,Array.toList_map,Array.toList_range,wC]
 by_cases e:t<l.length*2
 .have b:t / 2<l.length:=by omega
  have h:=wV 2 (l.map Bk.cells) (fun r d=>by obtain⟨a,_,rfl⟩:=cX.1 d; rfl) (t / 2) (t % 2) (by simpa using b) (by omega);rw[show t / 2*2+t % 2=t by omega]at h;rw[List.getElem?_range e];show _=(l.map Bk.cells).flatten[t]?;rw[h];simp only[kL,kY];rw[List.getElem!_toArray,getElem!_pos l _ b,getElem!_pos _ _ (by rw[bM]; omega),eK (by rw[bM]; omega)]
 .rw[Ev (by simp; omega),Ev (by simp[c]; omega)];rfl
theorem Si{w:World}{base k n cap g:Nat}{e:TypeId}{xs:List Value}(h:w.ownsRow base e k (.slice (some ⟨g,0,none⟩) n cap) n xs):base≤g∧g<w.heap.size∧Holds id w g 0 xs.toArray:=by
 have l:=h.1;rcases h.2 with⟨a,_⟩|⟨g',o,c,a,d,b,q,p,r,m⟩
 .cases a
 .injection a with e1 _ _
  injection e1 with e1
  injection e1 with e1
  subst e1;refine⟨d,(fH.1 b).1,fun j f=>?_⟩;have i:j<n*k:=by simpa [l] using f
  refine⟨?_,by simp[World.frozen?,b]⟩;have e1:(c.toList.take (n*k))[j]? =xs[j]?:=by rw[m]
  rw[oB,aE i,zR,eK (by omega)]at e1;simp only[World.cell?,b,hY];simp only[Option.isSome_none,qO,if_false];rw[e1];simp[getElem!_pos,show j<xs.length by omega]
theorem Sj{w:World}{base k n cap g q:Nat}{e:TypeId}{xs a:List Value}(h:w.ownsRow base e k (.slice (some ⟨g,0,none⟩) n cap) n xs)(s:a.length=n*k):
  (putRow id (Sort.ahead w q) g 0 a.toArray).ownsRow base e k (.slice (some ⟨g,0,none⟩) n cap) n a:=by
 rcases h.2 with⟨b,_⟩|⟨g',x,c,b,l,m,f,p,r,z⟩
 .cases b
 .injection b with e1 _ i
  injection e1 with e1
  injection e1 with e1
  subst e1; subst i;refine⟨s,.inr ⟨g,cap,putCells id 0 a.toArray c,rfl,l,?_,f,p,by simpa [putCells] using r,?_⟩⟩
  .simp[putRow,mapBlock,Sort.ahead,Array.getElem?_modify,m,onCells]
  .have y:n*k≤cap*k:=dV k f;apply sR;intro j;rw[oB,zR]
   by_cases d:j<n*k
   .have o:j<c.size:=by omega
    simp only[aE d,putCells,Array.getElem?_mapIdx,zO o,kL];rw[aE (by simp; omega),eK (by omega)];simp[getElem!_pos,show j<a.length by omega]
   .rw[aC d,Ev (by omega)]
theorem Sk{w:World}{base k n:Nat}{e:TypeId}{v:Value}{xs:List Value}(h:w.ownsRow base e k v n xs)(b:Array Obj):(grow w b).ownsRow base e k v n xs:=
 Fo h ⟨rfl,rfl,rfl,by simp[grow],fun j a=>by simp[grow,Array.getElem?_append_left a]⟩ (aD _)
theorem Im(g:Nat)(s:∀args w,(callFunc g args).run prog w=.ok (.enter g args) w)
  (D:∀(x y:Bk)(W:World),Calls prog g #[.agg x.cells.toArray,.agg y.cells.toArray] W fun e d=>e=.returned (.i (oR x y))∧∃q P,d=grow (W.drewN q) P)
  (v:Value) (l:List Bk) (base:Nat) (w:World) (h:Ow w base 150 2 v Bk.cells l) (R:base≤w.heap.size) (S:l.length≤1000000):
  Calls prog 203 #[v,.func (.func g) #[] #[]] w fun e d=>e=.returned (.tuple #[])∧∃l',l.Perm l'∧l'.Pairwise (fun x y=>x.a≤y.a)∧Ow d base 150 2 v Bk.cells l'∧w.grownBy d v.ownBlock:=by
 rcases Fl h with⟨o,z,_⟩|⟨b,cap,o,_⟩
 .subst o;have K:l=[]:=hJ z;subst K;refine (AnyF.slices_SortFunc_none Ik none 0 (.func (.func g) #[] #[]) w).mono ?_;rintro e d ⟨rfl,rfl⟩;exact⟨rfl,[],.refl _,.nil,h,World.grownBy.refl _ _⟩
 .subst o;obtain⟨Q,A,B⟩:=Si h;have E:=Il l;have C:HoldsK Bk.cells 2 w b 0 l.toArray:=by unfold HoldsK; rw[E]; exact B
  have p:=AnyQ.slices_SortFunc Ik 2 isAgg150 sizeOf150 Bk.cells bM gU oR Sh g #[] b 0 cap l.toArray w s (fun _ _ _ _ x y=>D x y _) C A (by simp; omega);rw[gT]at p;refine p.mono ?_;rintro e d ⟨rfl,c,n,O,r,N,rfl⟩;have m:c.size=l.length:=by have:=r.1; simpa using this
  have M:l.Perm c.toList:=by
   have:=r.2.2;have e1:l.toArray.extract 0 l.length=l.toArray:=by simp
   have f:c.extract 0 l.length=c:=by rw[←m]; simp
   rw[e1,f]at this;exact this.symm
  refine⟨rfl,c.toList,M,?_,?_,?_⟩
  .rw[List.pairwise_iff_getElem];intro i j k I H;have F:i<c.size:=by simpa using k
   have J:j<c.size:=by simpa using I
   have:=N i j (cY _) H (by omega);rw[getElem!_pos c j J,getElem!_pos c i F,xS]at this;simp only[decide_eq_false_iff_not]at this;simp only[Array.getElem_toList];omega
  .unfold sortWorldK Ow;refine Sk ?_ O;have e1:flatK Bk.cells 2 c=(aM Bk.cells c.toList).toArray:=by
    have:=Il c.toList;simpa using this
   unfold putRowK;have f:c.toList.length=l.length:=by simp[m]
   rw[e1,f];exact Sj h (by rw[eB 2 bM]; simp[m])
  .unfold sortWorldK putRowK;refine⟨rfl,rfl,rfl,by simp[grow,putRow,mapBlock,Sort.ahead],fun i k L=>?_⟩;have G:b≠i:=fun e=>L (by simp[Value.ownBlock,e]);simp only[grow,putRow,mapBlock,Sort.ahead];rw[Array.getElem?_append_left (by simpa using k),Array.getElem?_modify,aC G]
end
section
def lJ(x y:Bk):Bool:=decide (x.o<y.o)||(decide (x.o=y.o)&&decide (x.a<y.a))
def LeB(x y:Bk):Prop:=x.o<y.o∨(x.o=y.o∧x.a≤y.a)
theorem xT{x y:Bk}:lJ x y=false↔LeB y x:=by unfold lJ LeB; simp; omega
theorem xU{x y:Bk}(h:lJ x y=true):LeB x y:=by unfold lJ at h; unfold LeB; simp at h; omega
theorem LeB.trans{x y z:Bk}(h:LeB x y)(k:LeB y z):LeB x z:=by unfold LeB at *; omega
theorem LeB.refl(x:Bk):LeB x x:=by unfold LeB; omega
def gN(p c:Nat):Prop:=c=2*p+1∨c=2*p+2
def nM(f:Nat→Bk)(i0 n:Nat):Prop:=∀p,i0≤p→∀c,gN p c→c<n→LeB (f p) (f c)
structure vI(f:Nat→Bk)(i0 n i:Nat):Prop where
 a:∀p,i0≤p→p≠i→∀c,gN p c→c<n→LeB (f p) (f c)
 b:∀p,i0≤p→gN p i→∀c,gN i c→c<n→LeB (f p) (f c)
def nN(f:Nat→Bk)(i j:Nat):Nat→Bk:=fun k=>if k=i then f j else if k=j then f i else f k
theorem Sm{f:Nat→Bk}{b n:Nat}(h:nM f (b+1) n):vI f b n b:=
 ⟨fun p e g c a d=>h p (by omega) c a d,fun p e a _ _ _=>by unfold gN at a; omega⟩
theorem xV{f:Nat→Bk}{g n i:Nat}(h:vI f g n i)(j:∀c,gN i c→c<n→LeB (f i) (f c)):nM f g n:=fun p k c b d=>by
 by_cases e:p=i
 .subst e; exact j c b d
 .exact h.a p k e c b d
theorem Cq{f:Nat→Bk}{o n i j:Nat}(h:vI f o n i)(z:o≤i)(k:gN i j)(s:j<n)(q:LeB (f j) (f i))(r:∀c,gN i c→c<n→LeB (f j) (f c)):vI (nN f i j) o n j:=by
 have A:i<j:=by unfold gN at k; omega
 refine⟨fun p m x c d g=>?_,fun p m y c d g=>?_⟩
 .have C:p<c:=by unfold gN at d; omega
  by_cases e:p=i
  .subst e;unfold nN;rw[aE rfl,aC (by omega)]
   split
   .exact q
   .exact r c d g
  .unfold nN;rw[aC e,aC x]
   by_cases l:c=i
   .rw[aE l]; subst l; exact h.b p m d j k s
   .rw[aC l,aC (by unfold gN at d k; omega)];exact h.a p m e c d g
 .have e:p=i:=by unfold gN at y k; omega
  subst e;have B:j<c:=by unfold gN at d; omega
  unfold nN;rw[aE rfl,aC (by omega),aC (by omega)];exact h.a j (by omega) (by omega) c d g
theorem Sn{f:Nat→Bk}{n:Nat}(h:nM f 0 n):∀k,k<n→LeB (f 0) (f k):=by
 intro k
 induction k using Nat.strongRecOn with
 |_ k c=>
  intro b
  by_cases a:k=0
  .subst a; exact LeB.refl _
  .exact (c ((k-1) / 2) (by omega) (by omega)).trans (h ((k-1) / 2) (by omega) k (by unfold gN; omega) b)
def lK(l:List Bk)(i j:Nat):List Bk:=(l.set i (l.getD j ⟨0,0⟩)).set j (l.getD i ⟨0,0⟩)
def atB(l:List Bk)(k:Nat):Bk:=l.getD k ⟨0,0⟩
theorem Cr(l:List Bk)(i j:Nat):(lK l i j).length=l.length:=by simp[lK]
theorem rJ{l:List Bk}{i j:Nat}(d:i<l.length)(e:j<l.length):atB (lK l i j)=nN (atB l) i j:=by
 funext k
 unfold atB lK nN;rw[kK,sS,sS];simp only[mI]
 by_cases b:j=k
 .subst b;rw[aE rfl,aE e]
  by_cases c:j=i
  .subst c; rw[aE rfl]; rfl
  .rw[aC c,aE rfl]; rfl
 .rw[aC b]
  by_cases a:i=k
  .subst a; rw[aE rfl,aE d,aE rfl]; rfl
  .rw[aC a,aC (fun h=>a h.symm),aC (fun h=>b h.symm)]; rw[kK]
theorem In(l:List Bk)(i:Nat)(y x:Bk)(a:i<l.length):(l.set i y).count x+(if l[i]=x then 1 else 0)=l.count x+(if y=x then 1 else 0):=by
 induction l generalizing i with
 |nil=>simp at a
 |cons z l b=>
  cases i with
  |zero=>
   simp only[aH,List.count_cons,Ot,beq_iff_eq];omega
  |succ i=>
   simp only[aI,List.count_cons,Et];have:=b i (by simpa using a);omega
theorem vJ{l:List Bk}{i j:Nat}(b:i<l.length)(c:j<l.length):(lK l i j).Perm l:=by
 rw[List.perm_iff_count];intro x;have d:l.getD i ⟨0,0⟩=l[i]:=by simp[kK,b]
 have e:l.getD j ⟨0,0⟩=l[j]:=by simp[kK,c]
 have f:=In l i (l[j]) x b;have a:=In (l.set i (l[j])) j (l[i]) x (by simpa using c);rw[List.getElem_set]at a;unfold lK;rw[d,e]
 by_cases h:i=j
 .subst h; rw[aE rfl]at a; omega
 .rw[aC h]at a; omega
theorem xW{l:List Bk}{k:Nat}(h:k<l.length):atB l k=l[k]:=by simp[atB,kK,h]
end
end Go.Proofs.YthalbagblhkeaaaGreat
