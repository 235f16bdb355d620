import Derived.Test.YtoncgpddjmgbfaaGreatZ01
import Derived.Test.YtoncgpddjmgbfaaGreatZ02
import Derived.Test.YtoncgpddjmgbfaaGreatZ03
import Derived.Lib.OwnKind
import Derived.Shelf.SlSortCmp.WholeK
import Derived.Shelf.SlSortCmp.NoneTotal
import Derived.Lib.OwnBridge
import Derived.Lib.SmallJoins
namespace Go.Proofs.YtoncgpddjmgbfaaGreat
open Go.RowKit Go.Proofs.Tryz
set_option maxRecDepth 100000
set_option maxHeartbeats 12800000
set_option linter.unusedVariables false
set_option linter.unusedSimpArgs false
section
def En.op(e:En):Opn:=⟨e.k,e.h,e.i,e.m,e.j,e.u,e.t⟩
def dQ(e:En):Bool:=aG e.n 1 900000000&&(aG e.v 0 900000000&&if e.c=0 then decide (e.s=0)&&decide (e.op=⟨0,0,0,0,0,0,0⟩) else aG e.c 1 4&&aG e.s 1 1000000)
def cJ(c:Int)(l:List Rw):Rw:=(l.find? fun r=>decide (r.c=c)).getD ⟨0,0,0,0⟩
def mQ(x:Rw):List Rw→List Rw
 |[]=>[x]
 |r::l=>if r.c<x.c then r::mQ x l else if r.c=x.c then x::l else x::r::l
def eE(s:St)(e:En):St×Int×Int:=
 if e.c=0 then (s,0,0) else
 if e.s<(cJ e.c s.rows).s then (s,130,0) else
 if (cJ e.c s.rows).s=e.s then (s,(cJ e.c s.rows).k,(cJ e.c s.rows).v) else
 (⟨(eB s.h e.op).1,mQ ⟨e.c,e.s,(eB s.h e.op).2.1,(eB s.h e.op).2.2⟩ s.rows⟩,(eB s.h e.op).2.1,(eB s.h e.op).2.2)
def kH(s:St)(l:List En):St:=l.foldl (fun s e=>(eE s e).1) s
theorem Fy(h:Hp)(o:Opn):aG (eB h o).2.1 0 65535=true:=by
 have a:aG 0 0 65535=true:=rfl;have b:aG 50 0 65535=true:=rfl;have c:aG 51 0 65535=true:=rfl;have d:aG 52 0 65535=true:=rfl;have e:aG 53 0 65535=true:=rfl;have f:aG 54 0 65535=true:=rfl;have g:aG 2 0 65535=true:=rfl;unfold eB jG lY qA
 repeat' split
 all_goals assumption
def enR(e:En):Prop:=inR e.n∧inR e.v∧inR e.c∧inR e.s∧inR e.k∧inR e.h∧inR e.i∧inR e.m∧inR e.j∧inR e.u∧inR e.t
theorem Fz{h:Hp}(H:HOk h){t:Int}(a:kX h.obs t):inR t:=by
 have c:=H.next;rcases a with rfl|⟨x,b,rfl⟩
 .exact⟨by omega,by omega⟩
 .have:=H.rise.1 x b; exact⟨by omega,by omega⟩
theorem Ap{α:Type}(l:List α)(i:Nat)(d:α):l.getD i d∈l∨l.getD i d=d:=by
 rw[nF]
 cases h:l[i]? with
 |none=>exact .inr rfl
 |some x=>exact .inl (nJ h)
theorem Aq{α:Type}{l:List α}{i:Nat}{a x:α}(h:x∈l.set i a):x∈l∨x=a:=by
 rcases yY h with h|h
 .exact .inl h
 .exact .inr h
theorem Pq{h:Hp}(k:cR h=true)(a:hpR h)(o:Opn)(n:inR o.v):hpR (eB h o).1∧inR (eB h o).2.2:=by
 have H:=gE.1 k;have q:=H.next;have z:inR 0:=⟨by omega,by omega⟩
 have f:∀(p:Nat)(g:Ob),h.obs[p]? =some g→∀z∈g.ws,inR z:=fun p g e z j=>a g (nJ e) z j;have l:∀(p:Nat)(g:Ob),h.obs[p]? =some g→∀z∈g.ls,inR z:=fun p g e z j=>Fz H (H.links g (nJ e) z j);unfold eB
 split
 .unfold jG
  split
  .exact⟨a,z⟩
  split
  .exact⟨a,z⟩
  split
  .exact⟨a,z⟩
  .refine⟨fun x b y c=>?_,⟨by simp only; omega,by simp only; omega⟩⟩;rcases cV.1 b with b|b
   .exact a x b y c
   .rw[bZ.1 b]at c;rw[(List.mem_replicate.1 c).2];exact z
 split
 .split
  .exact⟨a,z⟩
  .split
   .exact⟨a,z⟩
   .rename_i p _ g e;unfold lY
    split
    .refine⟨fun x b y c=>?_,z⟩;obtain⟨u,m,rfl⟩:=cP.1 b;exact a u (List.mem_of_mem_eraseIdx m) y c
    split
    .split
     .split
      .split
       .refine⟨fun x b y c=>?_,z⟩;rcases Aq b with b|rfl
        .exact a x b y c
        .exact f _ g e y c
       .exact⟨a,z⟩
      .refine⟨a,?_⟩;rcases Ap g.ls o.i.toNat 0 with d|d
       .exact l _ g e _ d
       .simp only; rw[d]; exact z
     .exact⟨a,z⟩
    .split
     .split
      .refine⟨fun x b y c=>?_,z⟩;rcases Aq b with b|rfl
       .exact a x b y c
       .rcases Aq c with c|rfl
        .exact f _ g e y c
        .exact n
      .refine⟨a,?_⟩;rcases Ap g.ws o.i.toNat 0 with d|d
       .exact f _ g e _ d
       .simp only; rw[d]; exact z
     .exact⟨a,z⟩
 split
 .unfold qA
  split
  .split
   .refine⟨a,?_⟩;rcases Ap h.tops o.i.toNat 0 with d|d
    .exact Fz H (H.tops _ d)
    .simp only; rw[d]; exact z
   .split
    .refine⟨?_,z⟩;unfold pZ
     repeat' split
     all_goals exact a
    .exact⟨a,z⟩
  .exact⟨a,z⟩
 .exact⟨a,z⟩
theorem Pr(c:Int)(l:List Rw):(cJ c l∈l∧(cJ c l).c=c)∨cJ c l=⟨0,0,0,0⟩:=by
 unfold cJ
 cases h:l.find? fun r=>decide (r.c=c) with
 |none=>exact .inr rfl
 |some x=>
  have a:=List.find?_some h;exact .inl ⟨List.mem_of_find?_eq_some h,by simpa using a⟩
theorem mR{last:Int}{r:Rw}{l:List Rw}:fL last (r::l)=true↔last<r.c∧r.c≤4∧(1≤r.s∧r.s≤1000000)∧(0≤r.k∧r.k≤65535)∧fL r.c l=true:=by
 rw[show fL last (r::l)=((decide (last<r.c)&&decide (r.c≤4))&&(aG r.s 1 1000000&&(aG r.k 0 65535&&fL r.c l))) from rfl];unfold aG;simp only[bH,bR];constructor
 .rintro⟨⟨a,b⟩,d,e,f⟩; exact⟨a,b,d,e,f⟩
 .rintro⟨a,b,d,e,f⟩; exact⟨⟨a,b⟩,d,e,f⟩
theorem Ar{x:Rw}(b:x.c≤4)(d:1≤x.s∧x.s≤1000000)(e:0≤x.k∧x.k≤65535):∀(l:List Rw)(last:Int),last<x.c→fL last l=true→fL last (mQ x l)=true
 |[],last,a,_=>mR.2 ⟨a,b,d,e,rfl⟩
 |r::l,last,a,h=>by
  obtain⟨m,g,i,j,f⟩:=mR.1 h;unfold mQ
  split
  .exact mR.2 ⟨m,g,i,j,Ar b d e l r.c (by assumption) f⟩
  split
  .rename_i _ n;exact mR.2 ⟨a,b,d,e,n▸f⟩
  .exact mR.2 ⟨a,b,d,e,mR.2 ⟨by omega,g,i,j,f⟩⟩
theorem Ga{x r:Rw}:∀{l:List Rw},r∈mQ x l→r=x∨r∈l
 |[],h=>.inl (bZ.1 h)
 |y::l,h=>by
  unfold mQ at h
  split at h
  .rcases bD.1 h with rfl|h
   .exact .inr (by simp)
   .rcases Ga h with h|h
    .exact .inl h
    .exact .inr (by simp[h])
  split at h
  .rcases bD.1 h with rfl|h
   .exact .inl rfl
   .exact .inr (by simp[h])
  .rcases bD.1 h with rfl|h
   .exact .inl rfl
   .exact .inr h
theorem jR{s:St}:stB s=true↔cR s.h=true∧fL 0 s.rows=true:=by
 unfold stB;simp only[bH]
theorem Gb{s:St}(c:stB s=true)(b:stR s){e:En}(a:dQ e=true)(k:inR e.u):stB (eE s e).1=true∧stR (eE s e).1:=by
 obtain⟨g,j⟩:=jR.1 c;unfold eE
 split
 .exact⟨c,b⟩
 rename_i i
 split
 .exact⟨c,b⟩
 split
 .exact⟨c,b⟩
 unfold dQ aG at a;rw[aF i]at a;simp only[bH,bR]at a;have d:=Fy s.h e.op;unfold aG at d;simp only[bH,bR]at d;have f:=Pq g b.1 e.op k;refine⟨jR.2 ⟨Fr g e.op,Ar ?_ ?_ ?_ s.rows 0 ?_ j⟩,f.1,fun r h=>?_⟩
 .exact a.2.2.1.2
 .exact a.2.2.2
 .exact d
 .simp only; omega
 .rcases Ga h with rfl|h
  .exact f.2
  .exact b.2 r h
theorem Gc:∀(l:List En){s:St},stB s=true→stR s→(∀e∈l,dQ e=true∧inR e.u)→stB (kH s l)=true∧stR (kH s l)
 |[],_,b,a,_=>⟨b,a⟩
 |e::l,s,b,a,h=>by
  have c:=h e (by simp);have d:=Gb b a c.1 c.2;exact Gc l d.1 d.2 fun x f=>h x (by simp[f])
theorem Ps(s:St)(l:List En)(e:En):kH s (l++[e])=(eE (kH s l) e).1:=by unfold kH; simp
theorem xF:∀{l:List Rw}{a:Int},fL a l=true→∀r∈l,a<r.c
 |[],_,_,_,h=>by cases h
 |r::l,a,h,x,b=>by
  obtain⟨d,_,_,_,e⟩:=mR.1 h;rcases bD.1 b with rfl|b
  .exact d
  .have:=xF e x b; omega
def eO(a:Int):List En→Bool
 |[]=>true
 |e::l=>decide (e.n=a+1)&&eO (a+1) l
def vwB(normal:Int):Int→List En→Bool
 |_,[]=>true
 |v,e::l=>dQ e&&(aG e.v v normal&&vwB normal e.v l)
def kZ(s:ByteArray):List UInt8:=s.data.toList
structure Kd where
 (view normal base:Int) (image:ByteArray) (es:List En)
deriving DecidableEq
def Kd.last(k:Kd):Int:=k.base+k.es.length
def qH(normal base:Int)(es:List En):Bool:=decide ((es.length:Int)≤4000)&&(eO base es&&vwB normal 0 es)
def dY(k:Kd):Bool:=aG k.view 0 900000000&&(aG k.normal 0 k.view&&(aG k.base 0 900000000&&(qH k.normal k.base k.es&&(dX (kZ k.image)).isSome)))
def kI(k:Kd)(n:Int):Option St:=
 if dY k=true then if aG n k.base k.last=true then (dX (kZ k.image)).map fun s=>kH s (k.es.take (n-k.base).toNat) else none else none
structure Vo where
 (node normal base number commit:Int) (es:List En)
deriving DecidableEq
def lP(v:Vo):Bool:=aG v.node 1 7&&(aG v.normal 0 900000000&&(aG v.base 0 900000000&&(qH v.normal v.base v.es&&(decide (v.number=v.base+v.es.length)&&aG v.commit v.base v.number))))
structure Pt where
 (src view number total:Int) (data:ByteArray)
deriving DecidableEq
structure Rp where
 (id nodes:Int) (k:Kd) (commit:Int) (st:St) (timer:Int) (starts:List Int) (votes:List Vo) (acks:List Ak) (part:Pt)
deriving DecidableEq
def iB(n:Int):Bool:=decide (n=3)||(decide (n=5)||decide (n=7))
def qI(nodes view:Int):Int:=if iB nodes=true∧aG view 0 900000000=true then 1+view % nodes else 0
def gN(r:Rp):Bool:=decide (r.k.normal=r.k.view)
def iQ(r:Rp):Bool:=decide (qI r.nodes r.k.view=r.id)
def gO(r:Rp):Bool:=gN r&&iQ r
def oX(nodes:Int):Int→List Int→Bool
 |_,[]=>true
 |was,n::l=>(decide (was<n)&&decide (n≤nodes))&&oX nodes n l
def oY(nodes:Int):Int→List Vo→Bool
 |_,[]=>true
 |was,v::l=>lP v&&((decide (was<v.node)&&decide (v.node≤nodes))&&oY nodes v.node l)
def oZ(nodes id last:Int):Int→List Ak→Bool
 |_,[]=>true
 |was,a::l=>((decide (was<a.n)&&decide (a.n≤nodes))&&(!decide (a.n=id)&&aG a.k 0 last))&&oZ nodes id last a.n l
def xG(r:Rp):Bool:=oX r.nodes 0 r.starts&&(oY r.nodes 0 r.votes&&(oZ r.nodes r.id r.k.last 0 r.acks&&
 if gN r=true then (r.starts.isEmpty&&r.votes.isEmpty)&&(r.acks.isEmpty||iQ r) else if iQ r=true then r.acks.isEmpty else r.votes.isEmpty&&r.acks.isEmpty))
def iR:Pt:=⟨0,0,0,0,ByteArray.empty⟩
def xH(r:Rp):Bool:=decide (r.part=iR)||((!gO r||decide (r.k.view<r.part.view))&&(aG r.part.src 1 r.nodes&&(!decide (r.part.src=r.id)&&(aG r.part.view r.k.view 800000000&&(aG r.part.number 1 800000000&&(aG r.part.total 1 65536&&decide ((r.part.data.size:Int)≤r.part.total)))))))
def cS(r:Rp):Bool:=iB r.nodes&&(aG r.id 1 r.nodes&&(dY r.k&&(decide (r.k.view≤800000000)&&(decide (r.k.last≤800000000)&&(aG r.timer 0 1000&&(xG r&&(xH r&&decide (kI r.k r.commit=some r.st))))))))
structure Rc where
 (kind view src number:Int) (image:ByteArray) (entry:En) (es:List En)
deriving DecidableEq
structure Mg where
 (kind src dst view normal number base commit:Int) (es:List En) (offset total:Int) (data:ByteArray) (seq:Int) (op:Opn) (code value:Int) (ok:Bool)
deriving DecidableEq
def dU:Opn:=⟨0,0,0,0,0,0,0⟩
def As:En:=⟨0,0,0,0,0,0,0,0,0,0,0⟩
def At(nodes id:Int):List Int:=((List.range nodes.toNat).map fun n=>((n:Nat):Int)+1).filter fun n=> !decide (n=id)
def qJ(id view d:Int):Mg:=⟨5,id,d,view,0,0,0,0,[],0,0,ByteArray.empty,0,dU,0,0,false⟩
def Pu(id view number commit d:Int):Mg:=⟨3,id,d,view,0,number,0,commit,[],0,0,ByteArray.empty,0,dU,0,0,false⟩
def xI(view:Int):Rc:=⟨1,view,0,0,ByteArray.empty,As,[]⟩
def sN(r:Rp):Rp:={r with k:={r.k with view:=r.k.view+1},starts:=[r.id],votes:=[],acks:=[],part:=iR,timer:=0}
def lA:Hp:=⟨0,0,0,0,0,0,[],[]⟩
def qK:Rp:=⟨0,0,⟨0,0,0,ByteArray.empty,[]⟩,0,⟨lA,[]⟩,0,[],[],[],iR⟩
def mS(r:Rp):Rp×List Rc×List Mg:=
 if cS r=true then
  if gO r=true then
   if 3≤min (r.timer+1) 1000 then ({r with timer:=0},[],(At r.nodes r.id).map (Pu r.id r.k.view r.k.last r.commit)) else ({r with timer:=min (r.timer+1) 1000},[],[])
  else if 10+2*r.id≤min (r.timer+1) 1000 then (sN r,[xI (r.k.view+1)],(At r.nodes r.id).map (qJ r.id (r.k.view+1))) else ({r with timer:=min (r.timer+1) 1000},[],[])
 else (qK,[],[])
def lZ(id nodes:Int)(k:Kd):Option Rp:=
 match dX (kZ k.image) with
 |none=>none
 |some s=>if cS ⟨id,nodes,k,k.base,s,0,[],[],[],iR⟩=true then some ⟨id,nodes,k,k.base,s,0,[],[],[],iR⟩ else none
theorem Gd:∀{l:List Rw}{a:Int},fL a l=true→iA (fun r:Rw=>r.c) l
 |[],_,_=>trivial
 |r::l,a,h=>by
  obtain⟨_,_,_,_,b⟩:=mR.1 h;exact⟨xF b,Gd b⟩
theorem Au{x:Rw}:∀(l:List Rw)(a:Int),fL a l=true→mQ x l=if (l.any fun r=>decide (r.c=x.c))=true then l.set (eD (fun r:Rw=>r.c) x.c l) x else l.take (eD (fun r:Rw=>r.c) x.c l)++x::l.drop (eD (fun r:Rw=>r.c) x.c l)
 |[],_,_=>rfl
 |r::l,a,h=>by
  obtain⟨_,_,_,_,e⟩:=mR.1 h;unfold mQ eD
  by_cases b:r.c<x.c
  .rw[aK b,aK b,Au l r.c e,wA,dR (by omega),Bool.false_or]
   split<;>simp
  .rw[aF b,aF b]
   by_cases d:r.c=x.c
   .rw[aK d,aK (by simp[d])];simp
   .rw[aF d,aF]
    .simp
    .have:∀y∈l,y.c≠x.c:=fun y f=>by have:=xF e y f; omega
     simp[d];exact this
end
section
attribute [-go_sem] loadCellsFrom storeCells
attribute [local go_sem] aX
theorem Av(n:Int):0≤lM n∧lM n≤6:=by
 unfold lM
 repeat' split
 all_goals omega
theorem Pv{n k:Int}(b:0≤n)(c:n≤48)(e:0≤k)(f:k≤lM (1+n)):decide (aU k≤n)=decide (k<lM (1+n)):=by
 have d:=Av (1+n);have g:k=0∧aU k=1∨k=1∧aU k=2∨k=2∧aU k=4∨k=3∧aU k=8∨k=4∧aU k=16∨k=5∧aU k=32∨k=6∧aU k=64:=by
  rcases (show k=0∨k=1∨k=2∨k=3∨k=4∨k=5∨k=6 by omega) with rfl|rfl|rfl|rfl|rfl|rfl|rfl<;>decide
 have a:aU k≤n↔k<lM (1+n):=by
  unfold lM at *;constructor
  .intro h
   repeat' split
   all_goals omega
  .intro h
   repeat' split at h
   all_goals omega
 simp only[a]
theorem Ax(a b:Int)(w:World):Calls prog 220 #[.i a,.i b] w fun e d=>e=.returned (.i (cQ a b))∧d=w:=by
 unfold cQ;rcases uD (aG a 0 32) (aG b 0 16) with⟨f,j⟩|⟨f,h,j⟩|⟨f,h,j⟩
 .rw[j,aF (by simp)];have g:=kp f;go_enter func220,ntmps220;go_wp2_with fail;refine mb' (cK.2.2.2.2 a 0 32 w) fun d c=>?_;obtain rfl:=c.symm;rw[g.o];go_wp2_with fail;go_ret;exact⟨rfl,rfl⟩
 .rw[j,aF (by simp)];have g:=kp f;have l:=kp h;go_enter func220,ntmps220;go_wp2_with fail;refine mb' (cK.2.2.2.2 a 0 32 w) fun d c=>?_;obtain rfl:=c.symm;rw[g.o];go_wp2_with fail;refine mb' (cK.2.2.2.2 b 0 16 w) fun d c=>?_;obtain rfl:=c.symm;rw[l.o];go_wp2_with fail;go_ret;exact⟨rfl,rfl⟩
 .rw[j,aK rfl];have z:0≤a∧a≤32∧0≤b∧b≤16:=by
   unfold aG at f h;simp only[bH,bR]at f h;omega
  have g:=kp f;have l:=kp h;obtain⟨m,p⟩:∃m:Nat,lM (1+a+b)=m:=⟨(lM (1+a+b)).toNat,by have:=Av (1+a+b); omega⟩
  have y:m≤6:=by have:=Av (1+a+b); omega
  rw[p];have x:=kp (show ∀k:Nat,k≤m→decide (aU k≤a+b)=decide (k<m) from fun k r=>by
   have:=Pv (n:=a+b) (k:=k) (by omega) (by omega) (by omega) (by rw[←Ms,p]; omega);rw[this,←Ms,p];simp)
  go_enter func220,ntmps220;go_wp2_with fail;refine mb' (cK.2.2.2.2 a 0 32 w) fun d c=>?_;obtain rfl:=c.symm;rw[g.o];go_wp2_with fail;refine mb' (cK.2.2.2.2 b 0 16 w) fun d c=>?_;obtain rfl:=c.symm;rw[l.o];go_wp2_with fail
  go_loop [5] (fun i=>∃k:Nat,k≤m∧i=.i k) (fun i=>m-(intOf i).toNat)
  case atStart=>exact⟨0,by omega,rfl⟩
  case round=>
   obtain⟨k,r,rfl⟩:=hrel;have q:=x.o k r;have A:=fX k
   by_cases s:k<m
   .rw[fA s]at q;go_wp2_with fail;refine mb' (iL _ _) fun d c=>?_;obtain rfl:=c.symm;go_wp2_with fail
    go_round
    case rel=>exact⟨k+1,by omega,by go_num⟩
    case measure=>simp[intOf]; omega
   .rw[dR s]at q;obtain rfl:k=m:=by omega
    go_wp2_with fail;refine mb' (iL _ _) fun d c=>?_;obtain rfl:=c.symm;go_wp2_with fail;go_ret;exact⟨rfl,rfl⟩
theorem Pw(p:ObV)(t:Int)(w:World):Calls prog 274 (#[.agg p.cells.toArray,.i t]++#[]) w fun e a=>e=.returned (.i (eN p.x.h t))∧Bw' w a:=by
 show Calls prog 274 #[.agg p.cells.toArray,.i t] w _;have d:(w.alloc (.cells p.cells.toArray 264)).cell? ⟨w.heap.size,0,none⟩=some (.i p.x.h):=(Blk.new w 264 p.cells).cell 0;have b:=kp (ba' w (.cells p.cells.toArray 264));go_enter func274,ntmps274;go_wp2_with fail;refine mb' (qG p.x.h t _) fun a c=>?_;obtain rfl:=c.symm;go_wp2_with fail;go_ret;exact⟨rfl,b.o⟩
theorem Ge(v:Value)(a:List ObV)(t:Int)(B:Nat)(w:World)(h:Sl w B v ObV.cells a)(f:B≤w.heap.size)(g:a.length≤1000000)(i:iA (fun p=>p.x.h) a):
  Calls prog 252 #[v,.i t] w fun e j=>e=.returned (.tuple #[.i (eD (fun p:ObV=>p.x.h) t a:Nat),.bool (a.any fun p=>decide (p.x.h=t))])∧Bw' w j:=by
 have d:=kp (Ao.1 v a (fun p=>p.x.h) t 274 #[] B w h f g i (enters_of func274 (by kernel_rfl) rfl) (fun W x _ _=>Pw x t W));go_enter func252,ntmps252;go_wp2_with fail;refine mb' d.o fun k b=>?_;have c:=kp b; clear b;go_wp2_with fail;go_ret2;exact⟨rfl,c.o⟩
theorem Gf(v:Value)(b:List ObV)(t:Int)(B:Nat)(w:World)(h:Sl w B v ObV.cells b)(i:B≤w.heap.size)(j:b.length≤1000000)(k:iA (fun p=>p.x.h) b):
  Calls prog 224 #[v,.i t] w fun e l=>e=.returned (.bool (eI (b.map (·.x)) t))∧Bw' w l:=by
 have d:=kp (Ge v b t B w h i j k);unfold eI;rw[aCh];obtain⟨y,g⟩:=nm' (b.any fun p=>decide (p.x.h=t));have f:=kp (g▸d.o); clear d;rw[show (b.any ((fun x:Ob=>decide (x.h=t))∘fun x:ObV=>x.x))=y from g]
 cases ht:decide (t=0)
 .have a:(t==0)=false:=by simpa using ht
  go_enter func224,ntmps224;go_wp2_with fail;refine mb' f.o fun m a=>?_;have c:=kp a; clear a;go_wp2_with fail;go_ret;exact⟨rfl,c.o⟩
 .have a:(t==0)=true:=by simpa using ht
  go_enter func224,ntmps224;go_wp2_with fail;refine mb' f.o fun m a=>?_;have c:=kp a; clear a;go_wp2_with fail;go_ret;exact⟨rfl,c.o⟩
end
section
def Ow{α:Type}(w:World)(base:Nat)(t:TypeId)(k:Nat)(v:Value)(enc:α→List Value)(l:List α):Prop:=w.ownsRow base t k v l.length (aO enc l)
section
variable {α β:Type}{enc:α→List Value}{enc2:β→List Value}{w w':World}{base base2:Nat}{t t2:TypeId}{k k2:Nat}{v v2:Value}{l:List α}{l2:List β}
theorem Ow.nil(w:World)(base:Nat)(t:TypeId)(k:Nat)(enc:α→List Value):Ow w base t k (.slice none 0 0) enc []:=World.ownsRow_nil _ _ _ _
theorem Ow.below(h:Ow w base t k v enc l)(a:Bw' w w'):Ow w' base t k v enc l:=Ea h a (aN _)
theorem Ow.alloc(h:Ow w base t k v enc l)(o:Obj):Ow (w.alloc o) base t k v enc l:=World.ownsRow.alloc h o
theorem Ow.mono(h:Ow w base t k v enc l)(a:base2≤base):Ow w base2 t k v enc l:=Dz h a
theorem Ow.sl(h:Ow w base t k v enc l)(b:∀a,(enc a).length=k):Sl w w.heap.size v enc l:=Sl.of_own b h rfl
theorem Ow.one(h:Ow w base t k v enc l):v.oneCell'=true:=by
 obtain⟨A,c,rfl,_⟩:=dO h;rfl
theorem Ow.eqv{l':List α}(h:Ow w base t k v enc l)(e:l=l'):Ow w base t k v enc l':=e▸h
theorem Ow.other(h:Ow w base t k v enc l)(b:Ow w base2 t2 k2 v2 enc2 l2)(i:t≠t2)(g:w.grownBy w' v.ownBlock):Ow w' base2 t2 k2 v2 enc2 l2:=by
 refine World.ownsRow.kept b g ?_
 cases hv:v2.ownBlock with
 |none=>exact .inl rfl
 |some a=>
  refine .inr fun f=>?_;obtain⟨c2,m,c⟩:=Lib.ownsRow_kind b a hv;obtain⟨c1,j,d⟩:=Lib.ownsRow_kind h a f.symm;rw[d]at c;injection c with e
  injection e with _ e2
  exact i e2
theorem Ow.grew(h:Ow w base t k v enc l)(b:w.grownBy w' v.ownBlock)(a:base≤w.heap.size):Below base w w':=sB h b a
theorem gG(w:World)(t:TypeId)(x:α):Sl (w.alloc (.cells (enc x).toArray t)) (w.heap.size+1) (.slice (some ⟨w.heap.size,0,none⟩) 1 1) enc [x]:=by
 refine⟨_,_,rfl,.inr ⟨w.heap.size,0,rfl,by omega,fun j u a=>?_⟩,aN _,by unfold maxLen; omega⟩;rw[gL,(Blk.new w t (enc x)).cell];simpa [aO] using a
end
theorem uP{α:Type}{enc:α→List Value}{P:Program}(w:World){j:Array Oper}{k:List Oper}{o:Oper}{a:Act}{Q:Exit→Act→World→Prop}(D:o.guard=none)(s x:Operand)(t:TypeId)
  (H:o.op=.call {callee:=.builtin .append,args:=#[s,x],argTypes:=#[t,t]})
  (base:Nat) (e:TypeId) {z:Value} {size d:Nat} (E:(P.info? e).map (fun i=>(i.zero,i.size,i.bytes))=some (some z,size,d)) (N:P.underlying t=some (.slice e)) (U:z.cells.size=size) (M:0<size)
  (G:∀a,(enc a).length=size) {v:Value} {l:List α} (J:Ow w base e size v enc l) (L:a.eval s=v) {B:Nat} {v2:Value} {l2:List α} (f:Sl w B v2 enc l2) (O:a.eval x=v2) (m:∀a∈l2,∀u∈enc a,u.oneCell'=true)
  (n:l.length+l2.length≤maxLen) (y:(l.length+l2.length)*d≤140737488355328) (q:base≤w.heap.size)
  (h:∀v' w',Ow w' base e size v' enc (l++l2)→w.grownBy w' v.ownBlock→wpList P j Q k (a.put o.dst v') w'):wpList P j Q (o::k) a w:=by
 obtain⟨A,c,rfl,K,_,_⟩:=f;obtain⟨V,F,R,S,T⟩:=info_parts E;refine nT w D s x t H base e V z size d N F R S T U M v l.length (aO enc l) J L B A l2.length c (aO enc l2) K O (cW size G l2) (fun u g=>?_) n y q fun v' w' I C=>h v' w' ?_ C
 .obtain⟨r,f,g⟩:=List.mem_flatten.1 g;obtain⟨b,p,rfl⟩:=cP.1 f;exact m b p u g
 .unfold Ow;rw[bF,kE];exact I
theorem xJ{P:Program}{w:World}{b o:Nat}(xs:List Value)(a:∀t u,xs[t]? =some u→w.cell? ⟨b,o+t,none⟩=some u):Sem.run P (loadCellsFrom ⟨b,o,none⟩ 0 xs.length #[]) w=.ok xs.toArray w:=by
 have:=run_loadCells_list (P:=P) (w:=w) ⟨b,o,none⟩ xs (fun j v c=>by
  rw[Addr.add_lit];exact a j v c)
 simpa [loadCells] using this
theorem Gg{P:Program}{w:World}{b o:Nat}{x y:Value}(c:w.cell? ⟨b,o,none⟩=some x)(d:w.cell? ⟨b,o+1,none⟩=some y):Sem.run P (loadCellsFrom ⟨b,o,none⟩ 0 2 #[]) w=.ok #[x,y] w:=by
 refine xJ (P:=P) [x,y] fun t u a=>?_
 match t,a with
 |0,a=>cases a; exact c
 |1,a=>cases a; exact d
structure eP(w:World)(g:Nat)(t:TypeId)(p:HpV):Prop where
 blk:Blk w g t p.cells
 c0:w.cell? ⟨g,0,none⟩=some (.i p.x.order)
 c1:w.cell? ⟨g,1,none⟩=some p.ov
 c2:w.cell? ⟨g,2,none⟩=some (.i p.x.next)
 c3:w.cell? ⟨g,3,none⟩=some (.i p.x.t0)
 c4:w.cell? ⟨g,4,none⟩=some (.i p.x.t1)
 c5:w.cell? ⟨g,5,none⟩=some (.i p.x.t2)
 c6:w.cell? ⟨g,6,none⟩=some (.i p.x.t3)
 c7:w.cell? ⟨g,7,none⟩=some p.fv
theorem eP.of{w:World}{g:Nat}{t:TypeId}{p:HpV}(h:Blk w g t p.cells):eP w g t p:=⟨h,h.cell 0,h.cell 1,h.cell 2,h.cell 3,h.cell 4,h.cell 5,h.cell 6,h.cell 7⟩
theorem eP.below{w w':World}{g:Nat}{t:TypeId}{p:HpV}(h:eP w g t p)(a:Bw' w w'):eP w' g t p:=.of (h.blk.below a h.blk.lt)
attribute [-go_sem] loadCellsFrom storeCells
attribute [local go_sem] aX
end
section
theorem Px(a b c d:Bool):(a=true)∨(a=false∧b=true)∨(a=false∧b=false∧c=true)∨(a=false∧b=false∧c=false∧d=true)∨(a=false∧b=false∧c=false∧d=false):=by
 cases a<;>cases b<;>cases c<;>cases d<;>simp
theorem Ay{w:World}{B:Nat}{v:Value}{a:List ObV}(h:oQ w B v a)(k:Nat)(f:k<a.length):∃c e b d,a[k].wv=.slice c a[k].x.ws.length e∧a[k].lv=.slice b a[k].x.ls.length d∧Rd w B b (aO i1 a[k].x.ls)∧a[k].x.ws.length≤maxLen∧a[k].x.ls.length≤maxLen:=by
 obtain⟨⟨c,e,j,_,l,m⟩,b,d,g,i,n,o⟩:=h.2 _ (cU f);exact⟨c,e,b,d,j,g,i,by omega,by omega⟩
structure Az(h:Hp)(l:List Ob)(L:Int):Prop where
 le:∀y∈l,y.h≤L
 rise:l.Pairwise (fun x y=>x.h<y.h)
 pos:∀y∈l,1≤y.h∧y.h<h.next
 ob:∀y∈l,obB h.order y=true
 link:∀y∈l,∀t∈y.ls,eI h.obs t=true
theorem Az.snoc{h:Hp}{l:List Ob}{L:Int}(s:Az h l L){y:Ob}(d:1≤y.h)(e:y.h<h.next)(b:l=[]∨L<y.h)(f:obB h.order y=true)(g:∀t∈y.ls,eI h.obs t=true):Az h (l++[y]) y.h:=by
 have c:∀z∈l,z.h<y.h:=fun z a=>by
  rcases b with rfl|b
  .cases a
  .have:=s.le z a; omega
 refine⟨fun z a=>?_,?_,fun z a=>?_,fun z a=>?_,fun z a=>?_⟩
 .rcases cV.1 a with a|a
  .have:=c z a; omega
  .rw[bZ.1 a]; exact iG _
 .rw[rP];exact⟨s.rise,by simp,fun z a u i=>by rw[bZ.1 i]; exact c z a⟩
 all_goals
  rcases cV.1 a with a|a
 .exact s.pos z a
 .rw[bZ.1 a]; exact⟨d,e⟩
 .exact s.ob z a
 .rw[bZ.1 a]; exact f
 .exact s.link z a
 .rw[bZ.1 a]; exact g
theorem Gh{h:Hp}(H:HOk h):gX h.order h.free=true∧((h.obs.length:Int)≤256):=by
 have:=gE.2 H;unfold cR at this;simp only[bH,bR]at this;exact⟨this.1,this.2.2.1⟩
structure gH(w:World)(g:Nat)(t:TypeId)(p:ObV):Prop where
 blk:Blk w g t p.cells
 c0:w.cell? ⟨g,0,none⟩=some (.i p.x.h)
 c1:w.cell? ⟨g,1,none⟩=some (.i p.x.b.a)
 c2:w.cell? ⟨g,2,none⟩=some (.i p.x.b.o)
 c3:w.cell? ⟨g,3,none⟩=some p.wv
 c4:w.cell? ⟨g,4,none⟩=some p.lv
theorem gH.of{w:World}{g:Nat}{t:TypeId}{p:ObV}(h:Blk w g t p.cells):gH w g t p:=⟨h,h.cell 0,h.cell 1,h.cell 2,h.cell 3,h.cell 4⟩
theorem gH.below{w a:World}{g:Nat}{t:TypeId}{p:ObV}(h:gH w g t p)(b:Bw' w a):gH a g t p:=.of (h.blk.below b h.blk.lt)
end
section
open Go.Shelf Go.Sort Go.RowKit Go.Lib
def Py:Go.Shelf.Ren:=⟨fun|6=>221|15=>152|14=>251|28=>203|29=>204|20=>265|21=>266|22=>267|23=>268|24=>269|25=>270|26=>271|27=>272|46=>281|47=>239|48=>240|49=>282|50=>283|57=>293|n=>n,fun|22=>38|24=>262|25=>307|3=>3|39=>231|0=>0|53=>292|55=>266|4=>4|46=>286|45=>285|50=>182|5=>5|9=>9|66=>324|70=>328|76=>344|77=>345|n=>n,fun|n=>n⟩
theorem Gi:Go.Proofs.SlLaysF0.n6 prog Py:={
 mixed:=by kernel_rfl
 f6:=⟨f221.name,by decide,func221.trans (bA some (by kernel_rfl))⟩
 f14:=⟨f251.name,by decide,func251.trans (bA some (by kernel_rfl))⟩
 f15:=func152.trans (bA some (by kernel_rfl))
 f20:=⟨f265.name,by decide,func265.trans (bA some (by kernel_rfl))⟩
 f21:=⟨f266.name,by decide,func266.trans (bA some (by kernel_rfl))⟩
 f22:=⟨f267.name,by decide,func267.trans (bA some (by kernel_rfl))⟩
 f23:=⟨f268.name,by decide,func268.trans (bA some (by kernel_rfl))⟩
 f24:=⟨f269.name,by decide,func269.trans (bA some (by kernel_rfl))⟩
 f25:=⟨f270.name,by decide,func270.trans (bA some (by kernel_rfl))⟩
 f26:=⟨f271.name,by decide,func271.trans (bA some (by kernel_rfl))⟩
 f27:=⟨f272.name,by decide,func272.trans (bA some (by kernel_rfl))⟩
 f28:=func203.trans (bA some (by kernel_rfl))
 f29:=func204.trans (bA some (by kernel_rfl))
 f46:=⟨f281.name,by decide,func281.trans (bA some (by kernel_rfl))⟩
 f47:=func239.trans (bA some (by kernel_rfl))
 f48:=func240.trans (bA some (by kernel_rfl))
 f49:=⟨f282.name,by decide,func282.trans (bA some (by kernel_rfl))⟩
 f50:=⟨f283.name,by decide,func283.trans (bA some (by kernel_rfl))⟩
 f57:=⟨f293.name,by decide,func293.trans (bA some (by kernel_rfl))⟩
 t0:=underlying0
 a0:=isAgg0
 z0:=sizeOf0
 v0:=zeroValue0
 t3:=lI
 a3:=isAgg3
 z3:=sizeOf3
 v3:=zeroValue3
 t4:=underlying4
 a4:=isAgg4
 z4:=sizeOf4
 v4:=zeroValue4
 t5:=tT
 a5:=isAgg5
 z5:=sizeOf5
 v5:=zeroValue5
 t9:=rX
 a9:=isAgg9
 z9:=sizeOf9
 v9:=zeroValue9
 t22:=iH
 a22:=isAgg38
 z22:=sizeOf38
 v22:=zeroValue38
 t25:=underlying307
 a25:=isAgg307
 z25:=sizeOf307
 v25:=zeroValue307
 t39:=underlying231
 a39:=isAgg231
 z39:=sizeOf231
 v39:=zeroValue231
 t45:=underlying285
 a45:=isAgg285
 z45:=sizeOf285
 v45:=zeroValue285
 t46:=underlying286
 a46:=isAgg286
 z46:=sizeOf286
 v46:=zeroValue286
 t50:=underlying182
 a50:=isAgg182
 z50:=sizeOf182
 v50:=zeroValue182
 t53:=underlying292
 a53:=isAgg292
 z53:=sizeOf292
 v53:=zeroValue292
 t55:=underlying266
 a55:=isAgg266
 z55:=sizeOf266
 v55:=zeroValue266
 t66:=underlying324
 a66:=isAgg324
 z66:=sizeOf324
 v66:=zeroValue324
 t70:=underlying328
 a70:=isAgg328
 z70:=sizeOf328
 v70:=zeroValue328
 t76:=underlying344
 a76:=isAgg344
 z76:=sizeOf344
 v76:=zeroValue344
 t77:=underlying345
 a77:=isAgg345
 z77:=sizeOf345
 v77:=zeroValue345}
instance bkAny:Inhabited Bk:=⟨⟨0,0⟩⟩
def nZ(x y:Bk):Int:=eN x.a y.a
theorem xK(x y:Bk):ltOf nZ x y=decide (x.a<y.a):=by unfold ltOf nZ; exact Fw _ _
theorem Pz:SWO (ltOf nZ) where
 irrefl x:=by rw[xK]; simp
 trans x y z h1 h2:=by rw[xK]at *; simp at *; omega
 ntrans x y z h1 h2:=by rw[xK]at *; simp at *; omega
theorem Gj(l:List Bk):flatK Bk.cells 2 l.toArray=(aO Bk.cells l).toArray:=by
 apply Array.ext';apply rL;intro t;have c:=cW (enc:=Bk.cells) 2 cO l;unfold flatK;simp only[fF,Array.toList_map,Array.toList_range,Md]
 by_cases e:t<l.length*2
 .have b:t / 2<l.length:=by omega
  have h:=wI 2 (l.map Bk.cells) (fun r d=>by obtain⟨a,_,rfl⟩:=cP.1 d; rfl) (t / 2) (t % 2) (by simpa using b) (by omega);rw[show t / 2*2+t % 2=t by omega]at h;rw[List.getElem?_range e];show _=(l.map Bk.cells).flatten[t]?;rw[h];simp only[oL,pQ];rw[List.getElem!_toArray,getElem!_pos l _ b,getElem!_pos _ _ (by rw[cO]; omega),jN (by rw[cO]; omega)]
 .rw[Do (by simp; omega),Do (by simp[c]; omega)];rfl
theorem Qb{w:World}{base k n cap g:Nat}{e:TypeId}{xs:List Value}(h:w.ownsRow base e k (.slice (some ⟨g,0,none⟩) n cap) n xs):base≤g∧g<w.heap.size∧Holds id w g 0 xs.toArray:=by
 have l:=h.1;rcases h.2 with⟨a,_⟩|⟨g',o,c,a,d,b,q,p,r,m⟩
 .cases a
 .injection a with e1 _ _
  injection e1 with e1
  injection e1 with e1
  subst e1;refine⟨d,(eT.1 b).1,fun j f=>?_⟩;have i:j<n*k:=by simpa [l] using f
  refine⟨?_,by simp[World.frozen?,b]⟩;have e1:(c.toList.take (n*k))[j]? =xs[j]?:=by rw[m]
  rw[nK,aK i,aCe,jN (by omega)]at e1;simp only[World.cell?,b,gL];simp only[Option.isSome_none,tL,if_false];rw[e1];simp[getElem!_pos,show j<xs.length by omega]
theorem Qc{w:World}{base k n cap g q:Nat}{e:TypeId}{xs a:List Value}(h:w.ownsRow base e k (.slice (some ⟨g,0,none⟩) n cap) n xs)(s:a.length=n*k):
  (putRow id (Sort.ahead w q) g 0 a.toArray).ownsRow base e k (.slice (some ⟨g,0,none⟩) n cap) n a:=by
 rcases h.2 with⟨b,_⟩|⟨g',x,c,b,l,m,f,p,r,z⟩
 .cases b
 .injection b with e1 _ i
  injection e1 with e1
  injection e1 with e1
  subst e1; subst i;refine⟨s,.inr ⟨g,cap,putCells id 0 a.toArray c,rfl,l,?_,f,p,by simpa [putCells] using r,?_⟩⟩
  .simp[putRow,mapBlock,Sort.ahead,Array.getElem?_modify,m,onCells]
  .have y:n*k≤cap*k:=eL k f;apply rL;intro j;rw[nK,aCe]
   by_cases d:j<n*k
   .have o:j<c.size:=by omega
    simp only[aK d,putCells,Array.getElem?_mapIdx,yZ o,oL];rw[aK (by simp; omega),jN (by omega)];simp[getElem!_pos,show j<a.length by omega]
   .rw[aF d,Do (by omega)]
theorem Qe{w:World}{base k n:Nat}{e:TypeId}{v:Value}{xs:List Value}(h:w.ownsRow base e k v n xs)(b:Array Obj):(grow w b).ownsRow base e k v n xs:=
 Ea h ⟨rfl,rfl,rfl,by simp[grow],fun j a=>by simp[grow,Array.getElem?_append_left a]⟩ (aN _)
theorem Gk(g:Nat)(r:∀args w,(callFunc g args).run prog w=.ok (.enter g args) w)
  (C:∀(x y:Bk)(W:World),Calls prog g #[.agg x.cells.toArray,.agg y.cells.toArray] W fun e d=>e=.returned (.i (nZ x y))∧∃q O,d=grow (W.drewN q) O)
  (v:Value) (l:List Bk) (base:Nat) (w:World) (h:Ow w base 262 2 v Bk.cells l) (Q:base≤w.heap.size) (R:l.length≤1000000):
  Calls prog 221 #[v,.func (.func g) #[] #[]] w fun e d=>e=.returned (.tuple #[])∧∃l',l.Perm l'∧l'.Pairwise (fun x y=>x.a≤y.a)∧Ow d base 262 2 v Bk.cells l'∧w.grownBy d v.ownBlock:=by
 rcases zK h with⟨m,s,_⟩|⟨b,cap,m,_⟩
 .subst m;have J:l=[]:=iY s;subst J;refine (AnyF.slices_SortFunc_none Gi none 0 (.func (.func g) #[] #[]) w).mono ?_;rintro e d ⟨rfl,rfl⟩;exact⟨rfl,[],.refl _,.nil,h,World.grownBy.refl _ _⟩
 .subst m;obtain⟨P,z,A⟩:=Qb h;have D:=Gj l;have B:HoldsK Bk.cells 2 w b 0 l.toArray:=by unfold HoldsK; rw[D]; exact A
  have o:=AnyQ.slices_SortFunc Gi 2 isAgg262 sizeOf262 Bk.cells cO lJ nZ Pz g #[] b 0 cap l.toArray w r (fun _ _ _ _ x y=>C x y _) B z (by simp; omega);rw[fF]at o;refine o.mono ?_;rintro e d ⟨rfl,c,n,N,p,M,rfl⟩;have k:c.size=l.length:=by have:=p.1; simpa using this
  have L:l.Perm c.toList:=by
   have:=p.2.2;have e1:l.toArray.extract 0 l.length=l.toArray:=by simp
   have e2:c.extract 0 l.length=c:=by rw[←k]; simp
   rw[e1,e2]at this;exact this.symm
  refine⟨rfl,c.toList,L,?_,?_,?_⟩
  .rw[List.pairwise_iff_getElem];intro i j f H G;have E:i<c.size:=by simpa using f
   have I:j<c.size:=by simpa using H
   have:=M i j (dJ _) G (by omega);rw[getElem!_pos c j I,getElem!_pos c i E,xK]at this;simp only[decide_eq_false_iff_not]at this;simp only[Array.getElem_toList];omega
  .unfold sortWorldK Ow;refine Qe ?_ N;have e1:flatK Bk.cells 2 c=(aO Bk.cells c.toList).toArray:=by
    have:=Gj c.toList;simpa using this
   unfold putRowK;have e2:c.toList.length=l.length:=by simp[k]
   rw[e1,e2];exact Qc h (by rw[cW 2 cO]; simp[k])
  .unfold sortWorldK putRowK;refine⟨rfl,rfl,rfl,by simp[grow,putRow,mapBlock,Sort.ahead],fun i f K=>?_⟩;have F:b≠i:=fun e=>K (by simp[Value.ownBlock,e]);simp only[grow,putRow,mapBlock,Sort.ahead];rw[Array.getElem?_append_left (by simpa using f),Array.getElem?_modify,aF F]
end
section
def lB(x y:Bk):Bool:=decide (x.o<y.o)||(decide (x.o=y.o)&&decide (x.a<y.a))
def LeB(x y:Bk):Prop:=x.o<y.o∨(x.o=y.o∧x.a≤y.a)
theorem xL{x y:Bk}:lB x y=false↔LeB y x:=by unfold lB LeB; simp; omega
theorem xM{x y:Bk}(h:lB x y=true):LeB x y:=by unfold lB at h; unfold LeB; simp at h; omega
theorem LeB.trans{x y z:Bk}(h:LeB x y)(k:LeB y z):LeB x z:=by unfold LeB at *; omega
theorem LeB.refl(x:Bk):LeB x x:=by unfold LeB; omega
def fO(p c:Nat):Prop:=c=2*p+1∨c=2*p+2
def mT(f:Nat→Bk)(i0 n:Nat):Prop:=∀p,i0≤p→∀c,fO p c→c<n→LeB (f p) (f c)
structure uQ(f:Nat→Bk)(i0 n i:Nat):Prop where
 a:∀p,i0≤p→p≠i→∀c,fO p c→c<n→LeB (f p) (f c)
 b:∀p,i0≤p→fO p i→∀c,fO i c→c<n→LeB (f p) (f c)
def mU(f:Nat→Bk)(i j:Nat):Nat→Bk:=fun k=>if k=i then f j else if k=j then f i else f k
theorem Qf{f:Nat→Bk}{b n:Nat}(h:mT f (b+1) n):uQ f b n b:=
 ⟨fun p e g c a d=>h p (by omega) c a d,fun p e a _ _ _=>by unfold fO at a; omega⟩
theorem xN{f:Nat→Bk}{g n i:Nat}(h:uQ f g n i)(j:∀c,fO i c→c<n→LeB (f i) (f c)):mT f g n:=fun p k c b d=>by
 by_cases e:p=i
 .subst e; exact j c b d
 .exact h.a p k e c b d
theorem Bb{f:Nat→Bk}{o n i j:Nat}(h:uQ f o n i)(z:o≤i)(k:fO i j)(s:j<n)(q:LeB (f j) (f i))(r:∀c,fO i c→c<n→LeB (f j) (f c)):uQ (mU f i j) o n j:=by
 have A:i<j:=by unfold fO at k; omega
 refine⟨fun p m x c d g=>?_,fun p m y c d g=>?_⟩
 .have C:p<c:=by unfold fO at d; omega
  by_cases e:p=i
  .subst e;unfold mU;rw[aK rfl,aF (by omega)]
   split
   .exact q
   .exact r c d g
  .unfold mU;rw[aF e,aF x]
   by_cases l:c=i
   .rw[aK l]; subst l; exact h.b p m d j k s
   .rw[aF l,aF (by unfold fO at d k; omega)];exact h.a p m e c d g
 .have e:p=i:=by unfold fO at y k; omega
  subst e;have B:j<c:=by unfold fO at d; omega
  unfold mU;rw[aK rfl,aF (by omega),aF (by omega)];exact h.a j (by omega) (by omega) c d g
theorem Qg{f:Nat→Bk}{n:Nat}(h:mT f 0 n):∀k,k<n→LeB (f 0) (f k):=by
 intro k
 induction k using Nat.strongRecOn with
 |_ k c=>
  intro b
  by_cases a:k=0
  .subst a; exact LeB.refl _
  .exact (c ((k-1) / 2) (by omega) (by omega)).trans (h ((k-1) / 2) (by omega) k (by unfold fO; omega) b)
def lC(l:List Bk)(i j:Nat):List Bk:=(l.set i (l.getD j ⟨0,0⟩)).set j (l.getD i ⟨0,0⟩)
def atB(l:List Bk)(k:Nat):Bk:=l.getD k ⟨0,0⟩
theorem Bc(l:List Bk)(i j:Nat):(lC l i j).length=l.length:=by simp[lC]
theorem qL{l:List Bk}{i j:Nat}(d:i<l.length)(e:j<l.length):atB (lC l i j)=mU (atB l) i j:=by
 funext k
 unfold atB lC mU;rw[nF,rM,rM];simp only[nM]
 by_cases b:j=k
 .subst b;rw[aK rfl,aK e]
  by_cases c:j=i
  .subst c; rw[aK rfl]; rfl
  .rw[aF c,aK rfl]; rfl
 .rw[aF b]
  by_cases a:i=k
  .subst a; rw[aK rfl,aK d,aK rfl]; rfl
  .rw[aF a,aF (fun h=>a h.symm),aF (fun h=>b h.symm)]; rw[nF]
theorem Gl(l:List Bk)(i:Nat)(y x:Bk)(a:i<l.length):(l.set i y).count x+(if l[i]=x then 1 else 0)=l.count x+(if y=x then 1 else 0):=by
 induction l generalizing i with
 |nil=>simp at a
 |cons z l b=>
  cases i with
  |zero=>
   simp only[aC,List.count_cons,Mo,beq_iff_eq];omega
  |succ i=>
   simp only[aD,List.count_cons,Mh];have:=b i (by simpa using a);omega
theorem uR{l:List Bk}{i j:Nat}(b:i<l.length)(c:j<l.length):(lC l i j).Perm l:=by
 rw[List.perm_iff_count];intro x;have d:l.getD i ⟨0,0⟩=l[i]:=by simp[nF,b]
 have e:l.getD j ⟨0,0⟩=l[j]:=by simp[nF,c]
 have f:=Gl l i (l[j]) x b;have a:=Gl (l.set i (l[j])) j (l[i]) x (by simpa using c);rw[List.getElem_set]at a;unfold lC;rw[d,e]
 by_cases h:i=j
 .subst h; rw[aK rfl]at a; omega
 .rw[aF h]at a; omega
theorem xO{l:List Bk}{k:Nat}(h:k<l.length):atB l k=l[k]:=by simp[atB,nF,h]
end
end Go.Proofs.YtoncgpddjmgbfaaGreat
