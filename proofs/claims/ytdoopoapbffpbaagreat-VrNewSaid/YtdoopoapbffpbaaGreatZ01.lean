import Derived.Test.YtdoopoapbffpbaaGreatZ00
import Derived.Orders
import Derived.Laws.Tables
import Derived.Laws.Cells
import Derived.Deep.Quiet
import Derived.BigQuiet
import Derived.StillTail
import Derived.ArgAppend
import Derived.Laws.CopyRow
namespace Go.Proofs.YtdoopoapbffpbaaGreat
open Go.RowKit Go.Proofs.Tryz
set_option maxRecDepth 100000
set_option maxHeartbeats 12800000
set_option linter.unusedVariables false
set_option linter.unusedSimpArgs false
section
def fV(ops:Array Oper)(i:Nat):Option Tmp:=(ops[i]?).bind (·.dst)
def iA(ops:Array Oper)(i j:Nat):Bool:=((ops[i]?).map fun o=>o.after.any fun e=>Region.binds .any e&&e.on==j).getD false
def sZ(ops:Array Oper)(i:Nat):List Tmp:=((ops[i]?).map fun o=>o.looksAt ops).getD []
def tA(ops:Array Oper):Bool:=
 Region.noSelect ops&&(List.range ops.size).all fun i=>
  ((ops[i]?).map fun o=>o.after.all fun e=> !Region.binds .any e||decide (e.on<i)).getD true&&
  (List.range ops.size).all fun j=>i==j||
   match fV ops j with
   |none=>true
   |some d=>(fV ops i != some d)&&(!(sZ ops i).contains d||(decide (j<i)&&iA ops i j)||(decide (i<j)&&iA ops j i))
def dK(ops:Array Oper)(a:Act)(x:Nat→Value)(L:Nat→Bool):Nat→Act
 |0=>a
 |k+1=>if L k then (dK ops a x L k).put (fV ops k) (x k) else dK ops a x L k
def upd(x:Nat→Value)(i:Nat)(v:Value):Nat→Value:=fun j=>if j=i then v else x j
section
variable {ops:Array Oper}{a:Act}
theorem uP(a:Act)(d:Option Tmp)(v:Value):(a.put d v).tmps.size=a.tmps.size:=by
 cases d<;>simp[Act.put]
theorem Fq(a:Act)(d:Option Tmp)(v:Value):(a.put d v).defers=a.defers:=by
 cases d<;>simp[Act.put]
theorem pH(x:Nat→Value)(L:Nat→Bool):∀k,(dK ops a x L k).tmps.size=a.tmps.size
 |0=>rfl
 |k+1=>by
  unfold dK
  split
  .rw[uP,pH x L k]
  .exact pH x L k
theorem uQ{x y:Nat→Value}{L M:Nat→Bool}:∀k,(∀j,j<k→L j=M j)→(∀j,j<k→L j=true→x j=y j)→dK ops a x L k=dK ops a y M k
 |0,_,_=>rfl
 |k+1,b,c=>by
  have f:=uQ (x:=x) (y:=y) k (fun j e=>b j (by omega)) (fun j e=>c j (by omega));unfold dK;rw[←b k (by omega),f]
  split
  .rename_i d; rw[c k (by omega) d]
  .rfl
theorem Ay{x:Nat→Value}{L:Nat→Bool}{i:Nat}{v:Value}(c:L i=false):∀k,i<k→(∀j,j<k→j≠i→∀d,fV ops j=some d→fV ops i≠some d)→
  (dK ops a x L k).put (fV ops i) v=dK ops a (upd x i v) (fun j=>j==i||L j) k
 |0,h,_=>absurd h (by omega)
 |k+1,h,f=>by
  by_cases g:i=k
  .subst g;have e:dK ops a x L i=dK ops a (upd x i v) (fun j=>j==i||L j) i:=
    uQ i (fun j l=>by simp[show j≠i by omega]) (fun j l _=>by simp[upd,show j≠i by omega])
   conv=>lhs; rw[dK,c]
   conv=>rhs; rw[dK]
   simp[e,upd]
  .have n:=Ay (x:=x) (v:=v) c k (by omega) (fun j l=>f j (by omega));have b:k≠i:=fun e=>g e.symm
   conv=>lhs; rw[dK]
   conv=>rhs; rw[dK]
   have m:(k==i||L k)=L k:=by simp[b]
   rw[m,←n]
   split
   .rw[Act.put_comm _ _ _ (f k (by omega) b)];simp[upd,b]
   .rfl
def iR(S:List Tmp)(a b:Act):Prop:=∀t,t∈S→a.tmps[t]? =b.tmps[t]?
theorem iR.put_both{S:List Tmp}{a b:Act}(h:iR S a b)(e:a.tmps.size=b.tmps.size)(d:Option Tmp)(v:Value):iR S (a.put d v) (b.put d v):=by
 intro t c
 cases d with
 |none=>exact h t c
 |some d=>
  simp only[Act.put,Or,e];rw[h t c]
theorem iR.put_left{S:List Tmp}{a b:Act}(h:iR S a b){d:Option Tmp}(f:∀t,d=some t→t∉S)(v:Value):iR S (a.put d v) b:=by
 intro t c
 cases d with
 |none=>exact h t c
 |some d=>
  have g:d≠t:=fun e=>f d rfl (e▸c);simp only[Act.put,Array.getElem?_setIfInBounds_ne g];exact h t c
theorem iR.symm{S:List Tmp}{a b:Act}(h:iR S a b):iR S b a:=fun t c=>(h t c).symm
theorem Az{S:List Tmp}{x:Nat→Value}{L M:Nat→Bool}:∀k,(∀j,j<k→L j≠M j→∀d,fV ops j=some d→d∉S)→iR S (dK ops a x L k) (dK ops a x M k)
 |0,_=>fun _ _=>rfl
 |k+1,h=>by
  have b:=Az (x:=x) k (fun j c=>h j (by omega));unfold dK
  cases hL:L k<;>cases hM:M k<;>simp only[qO,if_false,if_true]
  .exact b
  .exact (b.symm.put_left (h k (by omega) (by simp[hL,hM])) _).symm
  .exact b.put_left (h k (by omega) (by simp[hL,hM])) _
  .exact b.put_both (by rw[pH,pH]) _ _
theorem Ba{o:Oper}(d:∀c b,o.op≠.select c b){a b:Act}(h:iR (o.looksAt ops) a b):execOp a.eval o=execOp b.eval o:=
 execOp_congr o d fun x e=>by
  cases x with
  |tmp t=>
   have:=h t (List.mem_append_left _ (List.mem_filterMap.2 ⟨.tmp t,by simpa using e,rfl⟩));simp[Act.eval,this]
  |_=>rfl
theorem Bb{o:Oper}{a b:Act}(h:iR (o.looksAt ops) a b):Region.wanted o (yielded ops a.tmps)=Region.wanted o (yielded ops b.tmps):=by
 unfold Region.wanted
 cases hg:o.guard with
 |none=>rfl
 |some c=>
  obtain⟨g,e⟩:=c;have d:yielded ops a.tmps g=yielded ops b.tmps g:=by
   unfold yielded
   cases ht:(ops[g]?).bind (·.dst) with
   |none=>rfl
   |some t=>
    have:=h t (by simp[Oper.looksAt,hg,ht]);simp[this]
  simp only[d]
end
def nF(a:Act)(d:Option Tmp)(R:Value→World→Prop):Exit→Act→World→Prop:=
 fun e a' w'=>e=.normal∧∃v,a'=a.put d v∧R v w'
section
variable {P:Program}{ops:Array Oper}{Q:Exit→Act→World→Prop}{C:World→Prop}
theorem Pb{a b:Act}(h:a.tmps.size=b.tmps.size){d:Option Tmp}{v u:Value}(g:a.put d v=a.put d u):b.put d v=b.put d u:=by
 cases d with
 |none=>rfl
 |some d=>
  by_cases e:d<a.tmps.size
  .have c:=bG (fun z:Act=>z.tmps[d]?) g;simp[Act.put,e]at c;rw[c]
  .have f:¬d<b.tmps.size:=by rw[←h]; exact e
   simp[Act.put,Array.setIfInBounds,f]
theorem Bc{o:Oper}{a b:Act}{w:World}{R:Value→World→Prop}{K:Act→World→Prop}(p:execOp b.eval o=execOp a.eval o)(q:a.tmps.size=b.tmps.size)
  (h:wpList P ops (nF a o.dst R) [o] a w) (z:Region.wanted o (yielded ops b.tmps)=Region.wanted o (yielded ops a.tmps))
  (l:∀v c,R v c→K (b.put o.dst v) c):
  if Region.wanted o (yielded ops b.tmps) then o.wp P b w K Q else K (b.put o.dst undef) w:=by
 rw[z];have j:∀v c,nF a o.dst R .normal (a.put o.dst v) c→K (b.put o.dst v) c:=by
  rintro v c ⟨_,u,s,m⟩;rw[Pb q s];exact l u c m
 simp only[wpList]at h
 split
 .rename_i k;rw[aE k]at h;rcases h with h|⟨_,B,c,i⟩
  .unfold Oper.wp at h ⊢;rw[p];generalize (execOp a.eval o).run P w=r at h
   cases r with
   |ok n c=>
    cases n<;>simp only[Oper.upon]at h ⊢
    case value v=>exact j _ _ h
    case skip=>exact j _ _ h
    case defer d=>
     obtain⟨_,v,y,_⟩:=h;have:=bG Act.defers y;rw[Fq,Fq]at this;simp at this
    case enter f args=>
     refine h.mono fun e A g=>?_
     cases e with
     |returned v=>exact j _ _ g
     |panicked C=>exact absurd g.1 (by simp)
     |outgrown=>obtain⟨_,_,i,_⟩:=g; cases i
    case row r args=>exact h.mono fun v A g=>j _ _ g
   |halt x c=>
    cases x<;>simp only[Oper.upon]at h ⊢
    all_goals (exact absurd h.1 (by simp))
  .obtain⟨i,_⟩:=i; cases i
 .rename_i k;rw[aC k]at h;exact j _ _ h
def phi(φs:List (Value→World→Prop))(i:Nat):Value→World→Prop:=φs.getD i fun _ _=>True
def qT(ops:Array Oper)(φs:List (Value→World→Prop))(x:Nat→Value):Nat→Tmp→World→Prop
 |0=>fun _ _=>True
 |i+1=>fun t w=>if fV ops i=some t then phi φs i (x i) w else qT ops φs x i t w
theorem uR(a:List (Value→World→Prop))(x:Nat→Value)(t:Tmp)(w:World):∀i,(∀j,j<i→fV ops j=some t→phi a j (x j) w)→qT ops a x i t w
 |0,_=>trivial
 |i+1,h=>by
  unfold qT
  split
  .rename_i b; exact h i (by omega) b
  .exact uR a x t w i fun j c=>h j (by omega)
theorem Fr(a:Act)(x:Nat→Value)(i:Nat)(n:Nat)(h:i≤n):dK ops a x (fun j=>decide (j<i)) n=dK ops a x (fun _=>true) i:=by
 induction n with
 |zero=>
   obtain rfl:i=0:=by omega
   rfl
 |succ n d=>
  by_cases b:i=n+1
  .subst b;exact uQ _ (fun j c=>by simpa using c) (fun _ _ _=>rfl)
  .rw[dK];have:decide (n<i)=false:=by simp; omega
   rw[this];exact d (by omega)
theorem Fs(g:tA ops=true):Region.noSelect ops=true∧(∀i o,ops[i]? =some o→∀e∈o.after,Region.binds .any e=true→e.on<i)∧
  ∀i j d,i<ops.size→j<ops.size→i≠j→fV ops j=some d→fV ops i≠some d∧(d∈sZ ops i→(j<i∧iA ops i j=true)∨(i<j∧iA ops j i=true)):=by
 simp only[tA,bI,nD,List.mem_range]at g;obtain⟨k,f⟩:=g;refine⟨k,fun i o h e n l=>?_,fun i j d c p r m=>?_⟩
 .have c:i<ops.size:=(fH.1 h).1;have b:=(f i c).1;rw[h]at b;simp only[kL,uG]at b;have a:=Array.all_eq_true_iff_forall_mem.1 b e n;simpa [l] using a
 .have b:=(f i c).2 j p;simp only[sV,beq_iff_eq,r,false_or,m,bI,bne_iff_ne,ne_eq,pA,bP]at b;refine⟨b.1,fun q=>?_⟩;rcases b.2 with (a|a)|a
  .rw[List.contains_eq_mem]at a; simp[q]at a
  .exact .inl a
  .exact .inr a
theorem Ft{o:Oper}{a b:Act}{w:World}{R:Value→World→Prop}(g:∀d b,o.op≠.select d b)(c:iR (o.looksAt ops) b a)(i:a.tmps.size=b.tmps.size)
  (h:wpList P ops (nF a o.dst R) [o] a w):wpList P ops (nF b o.dst R) [o] b w:=by
 refine wpList_step fun K e=>?_;exact Bc (Ba g c) i h (Bb c) fun v j f=>e _ _ ⟨rfl,v,rfl,f⟩
def pI(d:Option Tmp)(l:List Oper):Bool:=l.all fun o=>(d.isNone||o.dst != d)&&(match o.op with |.select .. =>false|_=>true)
def isV(c:Value):Value→World→Prop:=fun v _=>v=c
theorem bO{S:List (Value→World→Prop)→Prop}(h:∃c,∃r,S (isV c::r)):∃b,S b:=let ⟨_,r,a⟩:=h; ⟨_::r,a⟩
theorem bS{S:List (Value→World→Prop)→Prop}(φ:Value→World→Prop)(h:∃r,S (φ::r)):∃b,S b:=let ⟨r,a⟩:=h; ⟨φ::r,a⟩
theorem dR{S:List (Value→World→Prop)→Prop}(h:S []):∃a,S a:=⟨[],h⟩
end
end
section
section
variable {P:Program}{ops:Array Oper}{K:Act→World→Prop}{Q:Exit→Act→World→Prop}
variable {fuel:Nat}{listed:Array Bool}{a:Act}{w:World}
end
end
section
def Blk(W:World)(g:Nat)(t:TypeId)(cs:List Value):Prop:=W.heap[g]? =some (.cells cs.toArray t (0,0))
section
variable {W W':World}{g g':Nat}{t:TypeId}{cs cs':List Value}
theorem Blk.lt(h:Blk W g t cs):g<W.heap.size:=(fH.1 h).1
theorem Blk.cell(h:Blk W g t cs)(j:Nat):W.cell? ⟨g,j,none⟩=cs[j]?:=by
 simp[World.cell?,show W.heap[g]? =_ from h]
theorem Blk.frozen(h:Blk W g t cs)(j:Nat):W.frozen? ⟨g,j,none⟩=false:=by simp[World.frozen?,show W.heap[g]? =_ from h]
theorem Blk.new(W:World)(t:TypeId)(cs:List Value):Blk (W.alloc (.cells cs.toArray t)) W.heap.size t cs:=heap_alloc_new W _
theorem Blk.alloc(h:Blk W g t cs)(o:Obj):Blk (W.alloc o) g t cs:=(Fc W o g h.lt).trans h
theorem Blk.below{C:Nat}(h:Blk W g t cs)(a:Below C W W')(b:g<C):Blk W' g t cs:=(a.block g b).trans h
theorem Blk.load{P:Program}(h:Blk W g t cs){k:Nat}(a:cs.length=k):Sem.run P (loadCellsFrom ⟨g,0,none⟩ 0 k #[]) W=.ok cs.toArray W:=by
 have:=run_loadCells_list (P:=P) (w:=W) ⟨g,0,none⟩ cs (fun j v b=>by
  rw[Addr.add_lit,hY,h.cell];exact b)
 rw[a]at this;simpa [loadCells] using this
theorem Blk.loadOff{P:Program}(h:Blk W g t cs)(o k:Nat)(xs:List Value)(c:(cs.drop o).take k=xs)(b:xs.length=k):Sem.run P (loadCellsFrom ⟨g,o,none⟩ 0 k #[]) W=.ok xs.toArray W:=by
 have:=run_loadCells_list (P:=P) (w:=W) ⟨g,o,none⟩ xs (fun j v a=>by
  rw[Addr.add_lit,h.cell];rw[←c,oB]at a
  split at a
  .rw[mG]at a; exact a
  .cases a)
 rw[b]at this;simpa [loadCells] using this
theorem Blk.store{P:Program}(h:Blk W g t cs)(b:cs'.length=cs.length)(a:∀u∈cs',u.oneCell'=true):Sem.run P (storeCells ⟨g,0,none⟩ cs' 0) W=.ok () (W.setRow g cs'.toArray):=by
 have:=run_storeCells_from (P:=P) g t cs' 0 cs.toArray W h (by simp[b]) a;simpa using this
theorem Blk.set(h:Blk W g t cs)(cs':List Value):Blk (W.setRow g cs'.toArray) g t cs':=setRow_heap W g _ _ t _ h
theorem Blk.setCell(h:Blk W g t cs)(j:Nat)(u:Value):Blk (W.setCell ⟨g,j,none⟩ u) g t (cs.set j u):=by
 have e:=setCell_eq_setRow W g j cs.toArray t (0,0) u h;rw[e];have:=setRow_heap W g _ (cs.toArray.setIfInBounds j u) t _ h;unfold Blk;rw[this];simp
theorem Blk.other(h:Blk W g t cs)(a:g≠g')(x:Array Value):Blk (W.setRow g' x) g t cs:=(setRow_other W g' g x a).trans h
theorem Blk.otherCell(h:Blk W g t cs)(a:g≠g')(j:Nat)(u:Value):Blk (W.setCell ⟨g',j,none⟩ u) g t cs:=(Below.heap_setCell W _ u g a).trans h
end
theorem cL{B:Nat}{a w:World}(h:Below B a w){g:Nat}(b:B≤g)(x:Array Value):Below B a (w.setRow g x):=
 h.trans ⟨rfl,rfl,rfl,by simp,fun k c=>setRow_other w g k x (by omega)⟩
theorem bC{P:Program}(a:Addr)(v:Value)(w:World):Sem.run P (storeCells a [v] 0) w=Sem.run P (store (a.add 0) v) w:=by
 simp only[storeCells,Sem.run_bind]
 cases Sem.run P (store (a.add 0) v) w<;>simp[Result.andThen]
structure Chg(S:Nat→Prop)(w w':World):Prop where
 os:w'.os=w.os
 tape:w'.tape=w.tape
 output:w'.output=w.output
 size:w.heap.size≤w'.heap.size
 block:∀k,k<w.heap.size→¬S k→w'.heap[k]? =w.heap[k]?
section
variable {S T:Nat→Prop}{a b c w w':World}{B g:Nat}
theorem Chg.refl(S:Nat→Prop)(w:World):Chg S w w:=⟨rfl,rfl,rfl,aD _,fun _ _ _=>rfl⟩
theorem Chg.trans(h:Chg S a b)(k:Chg T b c)(f:∀i,i<a.heap.size→T i→S i):Chg S a c:=
 ⟨k.os.trans h.os,k.tape.trans h.tape,k.output.trans h.output,aB h.size k.size,fun i d e=>(k.block i (eA d h.size) fun g=>e (f i d g)).trans (h.block i d e)⟩
theorem Chg.mono(h:Chg S a b)(d:∀i,i<a.heap.size→S i→T i):Chg T a b:=⟨h.os,h.tape,h.output,h.size,fun i c e=>h.block i c fun f=>e (d i c f)⟩
theorem Chg.of_below(h:Bw' a b):Chg S a b:=⟨h.os,h.tape,h.output,h.size,fun k c _=>h.block k c⟩
theorem Chg.below(h:Chg S a b)(c:∀i,S i→B≤i)(e:B≤a.heap.size):Below B a b:=⟨h.os,h.tape,h.output,h.size,fun k f=>h.block k (by omega) fun d=>by have:=c k d; omega⟩
theorem Chg.then(h:Chg S a b)(k:Bw' b c):Chg S a c:=h.trans (T:=S) (Chg.of_below k) fun _ _ h=>h
theorem Chg.setRow(h:Chg S a w)(b:a.heap.size≤g∨S g)(x:Array Value):Chg S a (w.setRow g x):=
 ⟨h.os,h.tape,h.output,by have:=h.size; simpa using this,fun k d c=>(setRow_other w g k x (by rintro rfl; rcases b with b|b; omega; exact c b)).trans (h.block k d c)⟩
theorem Chg.setCell(h:Chg S a w)(b:a.heap.size≤g∨S g)(j:Nat)(u:Value):Chg S a (w.setCell ⟨g,j,none⟩ u):=
 ⟨h.os,h.tape,h.output,by have:=h.size; simpa [World.setCell] using this,fun k d c=>(Below.heap_setCell w _ u k (by rintro rfl; rcases b with b|b; omega; exact c b)).trans (h.block k d c)⟩
theorem Chg.alloc(h:Chg S a w)(o:Obj):Chg S a (w.alloc o):=
 ⟨h.os,h.tape,h.output,by have:=h.size; simp; omega,fun k b c=>(Fc w o k (by have:=h.size; omega)).trans (h.block k b c)⟩
theorem Chg.drew(h:Chg S a w):Chg S a w.drew:=⟨h.os,h.tape,h.output,h.size,h.block⟩
theorem Chg.drewN(h:Chg S a w)(n:Nat):Chg S a (w.drewN n):=⟨h.os,h.tape,h.output,h.size,h.block⟩
theorem Blk.chg{t:TypeId}{cs:List Value}(h:Blk a g t cs)(c:Chg S a b)(d:¬S g):Blk b g t cs:=(c.block g h.lt d).trans h
end
end
section
structure Blw(W:World) where
 w:World
 h:Bw' W w
section
variable {P:Program}{W:World}
def Blw.at0(W:World):Blw W:=⟨W,aL _ _⟩
instance blwAny:Inhabited (Blw W):=⟨Blw.at0 W⟩
def Blw.on(p:Blw W){w:World}(h:Below p.w.heap.size p.w w):Blw W:=⟨w,p.h.on h⟩
theorem Blw.size(p:Blw W):W.heap.size≤p.w.heap.size:=p.h.size
theorem Blw.cell(p:Blw W){a:Addr}{v:Value}(b:a.block<W.heap.size)(h:W.cell? a=some v):p.w.cell? a=some v:=(p.h.cell b).trans h
theorem Blw.rd{B:Nat}{A:Option Addr}{xs:List Value}(p:Blw W)(h:Rd W B A xs)(a:B≤W.heap.size):Rd p.w B A xs:=h.below p.h a
theorem aP{a:Addr}{v:Value}(h:W.cell? a=some v):∀p:Blw W,p.w.cell? a=some v:=fun p=>p.cell (World.block_lt_of_cell? W _ h) h
theorem bU{f:FuncId}{args:Array Value}{p:Blw W}{v:Value}(h:Calls P f args p.w fun e c=>e=.returned v∧Below p.w.heap.size p.w c):Calls P f args p.w fun e d=>e=.returned v∧∃q:Blw W,d=q.w:=
 h.mono fun _ _ ⟨b,a⟩=>⟨b,p.on a,rfl⟩
theorem dG{f:FuncId}{args:Array Value}{p:Blw W}{v:Value}(h:Calls P f args p.w fun e c=>e=.returned v∧c=p.w):Calls P f args p.w fun e d=>e=.returned v∧∃q:Blw W,d=q.w:=
 h.mono fun _ _ ⟨b,a⟩=>⟨b,p,a⟩
theorem bJ{id:Nat}{Q:Exit→Act→World→Prop}{a:Act}{l:List Oper}(e:P.follows .mixedOrders=true)(d:Region.lexB .any l.toArray=true)
  (h:wpQuiet P l.toArray (fun b=>∃p:Blw W,b=p.w) (fun c=>∀b,(∃p:Blw W,b=p.w)→Q .normal c b) l a):(Code.region id l.toArray true).wp P Q a W:=
 wp_region_quiet (C:=fun b=>∃p:Blw W,b=p.w) e d ⟨⟨{W with drawn:=W.drawn+1},rfl,rfl,rfl,aD _,fun _ _=>rfl⟩,rfl⟩ (by simpa using h)
variable {ops:Array Oper}{C:World→Prop}
def uS(P:Program)(ops:Array Oper)(C:World→Prop)(n:Nat)(L:Array Bool→Act→Prop):Nat→Array Bool→Act→Prop
 |0,listed,a=>L listed a
 |f+1,listed,a=>Region.ready .any ops listed≠[]∧∀i∈Region.ready .any ops listed,i<n∧qOp P ops C i (uS P ops C n L f (listed.setIfInBounds i true)) a
theorem Pj{n g:Nat}{L:Array Bool→Act→Prop}{Q:Exit→Act→World→Prop}(k:∀b a w,C w→L b a→wpAny P .any ops Q g b a w)(f:Nat):
  ∀(b:Array Bool)(a:Act)(w:World),C w→uS P ops C n L f b a→wpAny P .any ops Q (f+g) b a w:=by
 induction f with
 |zero=>intro b a w c h; rw[hY]; exact k _ _ _ c h
 |succ f o=>
  intro b a w c h;rw[Nat.add_right_comm];exact⟨fun j=>absurd j h.1,fun i l=>wpOp_of_qOp c (fun d p m e=>o _ d p m e) (h.2 i l).2⟩
theorem Pk{n i:Nat}{r:Oper}{v:Value}{L:Array Bool→Act→Prop}(z:ops[i]? =some r)(G:∀(j:Nat)(o:Oper) q b,ops[j]? =some o→o.op≠.select q b)
  (Y:Region.sinkB .any ops n=true) (N:Region.chainB .any ops n=true) (W:n<ops.size) (R:i<n) (J:∀c a,L c a→∀j∈Region.ready .any ops c,n≤j) (f:Nat):
  ∀(c:Array Bool)(a:Act),HeadInv .any ops n c→(∀j p,ops[j]? =some p→j≠i→c.getD j true=false→(∀e∈p.after,Region.binds .any e=true→e.on≠i)→r.apart ops p=true)→
   i∈Region.ready .any ops c→YieldsIn P ops C r v a→uS P ops C n L f (c.setIfInBounds i true) (a.put r.dst v)→uS P ops C n L (f+1) c a:=by
 have x:∀(c:Array Bool),HeadInv .any ops n c→i∈Region.ready .any ops c→∀j∈Region.ready .any ops c,j<n:=fun c l d j g=>by
  rcases mJ j n with h|h
  .exact h
  .exact absurd g (tail_waits Y N W l _ i rfl R (mem_ready.1 d).1 j h)
 induction f with
 |zero=>
  intro c a l _ d s H;refine⟨fun h=>(by rw[h]at d; cases d),fun j g=>⟨x c l d j g,?_⟩⟩;rcases Nat.decEq j i with m|rfl
  .have y:=J _ _ H j (ready_mono g m);have B:=x c l d j g;omega
  .exact s.qOp z H
 |succ f ih=>
  intro c a l E d s H;refine⟨fun h=>(by rw[h]at d; cases d),fun j g=>⟨x c l d j g,?_⟩⟩;rcases Nat.decEq j i with m|rfl
  .obtain⟨F,p,A,K⟩:=mem_ready.1 g;have Z:=(mem_ready.1 d).1;have B:=qOp_put A (E j p A m F fun e O M Q=>by
    have y:=K e O M;rw[Q,getD_both Z]at y
    cases y) (fun q b=>G i r q b z) (fun q b=>G j p q b A) s (H.2 j (ready_mono g m)).2
   refine qOp_mono (fun I D=>ih (c.setIfInBounds j true) I (l.set g (x c l d j g)) (fun k ok T V U X=>?_) (ready_mono d (bL m)) D.1 (by rw[Array.setIfInBounds_comm _ _ m]; exact D.2)) B;refine E k ok T V ?_ X;rcases Nat.decEq j k with S|rfl
   .rwa [getD_set_ne true S]at U
   .exact F
  .exact s.qOp z H
theorem Pm{n g:Nat}{e:Act→Prop}(B:Region.noSelect ops=true)(A:Region.sinkB .any ops n=true)(y:Region.chainB .any ops n=true)(z:n<ops.size):
  ∀(l:List Oper)(k:Nat)(b:Array Bool)(a:Act),(∀j,j<l.length→l[j]? =ops[k+j]?)→k+l.length=n→HeadInv .any ops n b→Region.lexHead .any ops g l.length k b=true→
  wpQuiet P ops C e l a→uS P ops C n (fun r i=>Region.seqB .any ops g n r=true∧e i) l.length b a:=by
 intro l
 induction l with
 |nil=>
  intro k b a _ f _ c h;obtain rfl:k=n:=by simpa using f
  exact⟨by simpa [Region.lexHead] using c,h⟩
 |cons o l E=>
  intro k b a m f q c h;have d:ops[k]? =some o:=by simpa using (m 0 (by simp)).symm
  simp only[eV,Region.lexHead,bI]at c f;have p:k∈Region.ready .any ops b:=by simpa using c.1.1
  obtain⟨v,D,s⟩:=yieldsIn_of_qOp d (show qOp P ops C k (wpQuiet P ops C e l) a by unfold qOp; simp only[d]; exact h);refine Pk d (Region.noSelect_spec B) A y z (by omega) (fun r i x=>seqB_ready x.1) l.length b a q (Region.free_spec d c.1.2) p D ?_;exact E (k+1) _ _ (fun j F=>by have:=m (j+1) (by simp; omega); simpa [oE,Nat.add_comm 1 j] using this) (by omega) (q.set p (by omega)) c.2 s
theorem uT{id:Nat}{Q:Exit→Act→World→Prop}{a:Act}{l:List Oper}(n:Nat)(s:P.follows .mixedOrders=true)(d:Region.lexTailB .any l.toArray n=true)
  (h:wpQuiet P l.toArray (fun b=>∃p:Blw W,b=p.w) (fun c=>∀b,(∃p:Blw W,b=p.w)→wpList P l.toArray Q (l.drop n) c b) (l.take n) a):(Code.region id l.toArray true).wp P Q a W:=by
 simp only[Region.lexTailB,bI,bP]at d;obtain⟨⟨⟨⟨y,k⟩,x⟩,q⟩,r⟩:=d;have D:n<l.length:=by simpa using k
 have m:(l.take n).length=n:=by simp; omega
 have f:(l.drop n).length=l.toArray.size-n:=by simp
 have H:=Pm (g:=l.toArray.size-n) y x q k (l.take n) 0 (Array.replicate l.toArray.size false) a (fun j C=>by
  have:j<n:=by omega
  simp[this]) (by omega) ⟨by simp,fun j E _ i=>(by rw[getD_replicate_false]at i; cases i),fun t _ z=>getD_in (by simpa using z) (getD_replicate_false _ _)⟩ (by rw[m]; exact r) h
 have o:∃p:Blw W,({W with drawn:=W.drawn+1}:World)=p.w:=⟨⟨{W with drawn:=W.drawn+1},rfl,rfl,rfl,aD _,fun _ _=>rfl⟩,rfl⟩
 have T:=Pj (Q:=Q) (g:=l.toArray.size-n) (fun B c b A e=>by
  have:=wpAny_of_seq (md:=.any) (Q':=Q) (l.drop n) n B c b (fun j=>by simp[mG]) (by rw[f]; exact e.1) (e.2 b A)
  rwa [f]at this) _ _ _ _ o H
 rw[m,show n+(l.toArray.size-n)=l.toArray.size by omega]at T;exact wp_region_any s T
end
end
section
def aO(w:World)(S:Nat→Prop)(e:TypeId)(k:Nat)(v:Value)(n:Nat)(xs:List Value):Prop:=
 xs.length=n*k∧((v=.slice none 0 0∧n=0)∨
  ∃g off cap cur,v=.slice (some ⟨g,off,none⟩) n cap∧S g∧w.heap[g]? =some (.cells cur e (0,0))∧n≤cap∧cap≤maxLen∧off+cap*k≤cur.size∧(cur.toList.drop off).take (n*k)=xs)
section
variable {w w':World}{S T:Nat→Prop}{e:TypeId}{k n:Nat}{v:Value}{xs:List Value}
theorem aO.nil(w:World)(S:Nat→Prop)(e:TypeId)(k:Nat):aO w S e k (.slice none 0 0) 0 []:=⟨by simp,.inl ⟨rfl,rfl⟩⟩
theorem aO.of_own{base:Nat}(h:w.ownsRow base e k v n xs)(d:∀i,base≤i→i<w.heap.size→S i):aO w S e k v n xs:=by
 refine⟨h.1,?_⟩;rcases h.2 with c|⟨g,cap,b,o,f,a,l,j,p,m⟩
 .exact .inl c
 .exact .inr ⟨g,0,cap,b,o,d g f (fH.1 a).1,a,l,j,by omega,by simpa using m⟩
theorem aO.kept(h:aO w S e k v n xs)(m:∀i c,S i→some i=v.ownBlock→w.heap[i]? =some (.cells c e (0,0))→w'.heap[i]? =w.heap[i]?)(l:∀i,i<w.heap.size→S i→T i):aO w' T e k v n xs:=by
 refine⟨h.1,?_⟩;rcases h.2 with j|⟨g,o,cap,b,f,d,a,r⟩
 .exact .inl j
 .refine .inr ⟨g,o,cap,b,f,l g (fH.1 a).1 d,(m g b d (by rw[f]; rfl) a).trans a,r⟩
theorem aO.mono(h:aO w S e k v n xs)(a:∀i,i<w.heap.size→S i→T i):aO w T e k v n xs:=h.kept (fun _ _ _ _ _=>rfl) a
theorem aO.below(h:aO w S e k v n xs)(a:Bw' w w'):aO w' S e k v n xs:=h.kept (fun i _ _ _ b=>a.block i (fH.1 b).1) (fun _ _ h=>h)
theorem aO.chg(h:aO w S e k v n xs)(a:Chg T w w')(d:∀i,some i=v.ownBlock→¬T i):aO w' S e k v n xs:=h.kept (fun i _ _ c b=>a.block i (fH.1 b).1 (d i c)) (fun _ _ h=>h)
theorem aO.slice(h:aO w S e k v n xs):∃A c,v=.slice A n c∧n≤c∧c≤maxLen:=by
 rcases h.2 with⟨rfl,rfl⟩|⟨g,f,cap,d,rfl,_,_,b,a,_⟩
 .exact⟨none,0,rfl,aD _,by unfold maxLen; omega⟩
 .exact⟨_,cap,rfl,b,a⟩
theorem aO.rd{A:Option Addr}{c:Nat}(h:aO w S e k (.slice A n c) n xs):Rd w w.heap.size A xs:=by
 rcases h.2 with⟨d,rfl⟩|⟨g,f,cap,m,d,_,b,o,_,p,l⟩
 .exact .inl (hJ (by simpa using h.1))
 .have i:A=some ⟨g,f,none⟩:=by injection d
  subst i;refine .inr ⟨g,f,rfl,(fH.1 b).1,fun j u a=>?_⟩;rw[←l,oB]at a
  split at a
  .rw[mG]at a;simp only[World.cell?,b];simpa using a
  .cases a
theorem aO.form(h:aO w S e k v n xs)(d:0<n):∃g b cap a,v=.slice (some ⟨g,b,none⟩) n cap∧S g∧w.heap[g]? =some (.cells a e (0,0))∧n≤cap∧cap≤maxLen∧b+cap*k≤a.size∧(a.toList.drop b).take (n*k)=xs:=by
 rcases h.2 with⟨_,c⟩|h
 .omega
 .exact h
theorem aO.lt(h:aO w S e k v n xs):∀i,some i=v.ownBlock→S i∧i<w.heap.size:=by
 intro i a;rcases h.2 with⟨rfl,_⟩|⟨g,f,cap,d,rfl,c,b,_⟩
 .cases a
 .obtain rfl:i=g:=by simpa [Value.ownBlock] using a
  exact⟨c,(fH.1 b).1⟩
theorem aO.not_blk(h:aO w S e k v n xs){g:Nat}{t:TypeId}{b:List Value}(c:Blk w g t b)(f:t≠e):some g≠v.ownBlock:=by
 intro a;rcases h.2 with⟨rfl,_⟩|⟨g',l,cap,i,rfl,j,d,_⟩
 .cases a
 .obtain rfl:g=g':=by simpa [Value.ownBlock] using a
  have:=(show w.heap[g]? =_ from c).symm.trans d;simp at this;exact f this.2
theorem aO.not_row{d:Nat→Prop}{a:TypeId}{o p:Nat}{v':Value}{q:List Value}(h:aO w S e k v n xs)(f:aO w d a o v' p q)(m:e≠a):∀i,some i=v.ownBlock→some i≠v'.ownBlock:=by
 intro i b c;rcases h.2 with⟨rfl,_⟩|⟨g,A,cap,s,rfl,y,j,_⟩
 .cases b
 .rcases f.2 with⟨rfl,_⟩|⟨g',B,r,x,rfl,z,l,_⟩
  .cases c
  .obtain rfl:i=g:=by simpa [Value.ownBlock] using b
   obtain rfl:i=g':=by simpa [Value.ownBlock] using c
   have:=j.symm.trans l;simp at this;exact m this.2
theorem aO.tag(h:aO w S e k v n xs){i:Nat}(a:some i=v.ownBlock):∃c,w.heap[i]? =some (.cells c e (0,0)):=by
 rcases h.2 with⟨rfl,_⟩|⟨g,j,cap,d,rfl,f,b,_⟩
 .cases a
 .obtain rfl:i=g:=by simpa [Value.ownBlock] using a
  exact⟨_,b⟩
theorem aO.drop{j:Nat}{g b cap:Nat}(h:aO w S e k (.slice (some ⟨g,b,none⟩) n cap) n xs)(q:j≤n):aO w S e k (.slice (some ⟨g,if cap=j then b else b+j*k,none⟩) (n-j) (cap-j)) (n-j) (xs.drop (j*k)):=by
 have l:=h.1;refine⟨by rw[dX,l,iF],?_⟩;rcases h.2 with⟨a,_⟩|⟨g',y,p,f,a,m,i,s,r,x,o⟩
 .cases a
 .cases a;refine .inr ⟨g,_,cap-j,f,rfl,m,i,by omega,by omega,?_,?_⟩
  .split
   .rename_i d;rw[d,qS,qR];omega
   .have:j*k+(cap-j)*k=cap*k:=by rw[←gE]; congr 1; omega
    omega
  .rw[←o,oD]
   split
   .rename_i d;have c:n-j=0:=by omega
    rw[c,qR,mZ,show n*k-j*k=0 by rw[←iF,c,qR],mZ]
   .rw[List.drop_drop,iF]
end
section
variable {P:Program}(w:World)
theorem xX(t A e:TypeId)(i:TypeInfo)(z:P.underlying t=some (.slice e))(r:P.info? e=some i)
  (g f d k:Nat) (h:Array Value) (q:w.heap[g]? =some (.cells h e (0,0)))
  (a:Addr) (m c:Nat) (b:List Value) (s:b.length=m*i.size) (x:∀j u,b[j]? =some u→w.cell? (a.add j)=some u) (n:∀u∈b,u.oneCell'=true)
  (y:d+m≤k) (p:f+d*i.size+b.length≤h.size):
  (Builtin.append_ #[t,t] A #[.slice (some ⟨g,f,none⟩) d k,.slice (some a) m c]).run P w=
   .ok (.slice (some ⟨g,f,none⟩) (d+m) k) (w.setRow g (h.toList.take (f+d*i.size)++b++h.toList.drop (f+d*i.size+b.length)).toArray):=by
 have o:=run_firstCells_some (P:=P) w i.size m a m c b s x;have l:=run_storeCells_at P g (f+d*i.size) e b 0 h w q (by simpa using p) n;simp only[cF]at l;simp[Builtin.append_,run_underlying z,sizeOf,typeInfo,r,Builtin.lenOf,y,o,Addr.add_lit,l]
theorem Sq(t A e:TypeId)(i:TypeInfo)(z:Value)(size y:Nat)(F:P.underlying t=some (.slice e))(l:P.info? e=some i)(O:i.zero=some z)
  (E:i.size=size) (K:i.bytes=y) (Q:z.cells.size=size) (N:0<size)
  (S:Nat→Prop) (v:Value) (n:Nat) (xs:List Value) (r:aO w S e size v n xs) (J:∀i,w.heap.size≤i→S i)
  (a:Addr) (m c:Nat) (f:List Value) (q:f.length=m*size) (C:∀j u,f[j]? =some u→w.cell? (a.add j)=some u) (H:∀u∈f,u.oneCell'=true)
  (I:n+m≤maxLen) (L:(n+m)*y≤140737488355328):
  ∃v' w',(Builtin.append_ #[t,t] A #[v,.slice (some a) m c]).run P w=.ok v' w'∧aO w' S e size v' (n+m) (xs++f)∧Chg (fun k=>some k=v.ownBlock) w w'∧
   (∀k,some k=v'.ownBlock→some k=v.ownBlock∨w.heap.size≤k):=by
 have M:(xs++f).length=(n+m)*size:=by rw[bB,r.1,q,gE]
 rcases r.2 with⟨rfl,rfl⟩|⟨g,h,cap,o,rfl,V,B,W,U,R,G⟩
 .obtain⟨v',w',s,x,d,_⟩:=run_append_own (P:=P) w w.heap.size t A e i z size y F l O E K Q N (.slice none 0 0) 0 xs (by have:xs=[]:=hJ (by simpa using r.1); subst this; exact World.ownsRow_nil w _ e size) a m c f q C H I L (aD _);exact⟨v',w',s,aO.of_own x (fun i l _=>J i l),⟨d.os,d.tape,d.output,d.size,fun k b _=>d.block k b (by simp[Value.ownBlock])⟩,fun k b=>.inr (x.lt k b.symm).1⟩
 .by_cases D:n+m≤cap
  .subst E;have T:h+n*i.size+f.length≤o.size:=by
    rw[q,oE,←gE];exact aB (Nat.add_le_add_left (dV _ D) _) R
   have s:=xX (P:=P) w t A e i F l g h n cap o B a m c f q C H D T;refine⟨_,_,s,⟨M,.inr ⟨g,h,cap,_,rfl,V,setRow_heap w g o _ e _ B,D,U,?_,?_⟩⟩,?_,fun k b=>.inl b⟩
   .simp only[gT,bB,cZ,dX,hP];omega
   .have X:((o.toList.drop h).take (n*i.size)).length=n*i.size:=by rw[G,r.1]
    have Y:h+n*i.size≤o.toList.length:=by rw[hP]; omega
    rw[←M,nZ (by simp; omega),nZ (by simp; omega),oD];rw[show h+n*i.size-h=n*i.size by omega,G];exact List.take_left
   .exact⟨rfl,rfl,rfl,by simp,fun k _ b=>setRow_other w g k _ (fun e=>b (by simp[Value.ownBlock,e]))⟩
  .obtain⟨v',w',s,x,d⟩:=run_append_arg_grows (P:=P) w t A e i z size y F l O E K Q N ⟨g,h,none⟩ n cap xs r.1 (fun j u p=>by
    rw[Addr.add_lit,cell_of_row w g _ o e _ B];rw[←G,oB]at p
    split at p
    .rw[mG]at p; simpa using p
    .cases p) a m c f q C (by omega) I L
   exact⟨v',w',s,aO.of_own x (fun i l _=>J i l),⟨d.os,d.tape,d.output,d.size,fun k b _=>d.block k b (by simp)⟩,fun k b=>.inr (x.lt k b.symm).1⟩
theorem xY{g:Array Oper}{l:List Oper}{o:Oper}{a:Act}{Q:Exit→Act→World→Prop}(F:o.guard=none)(s x:Operand)(t:TypeId)
  (J:o.op=.call {callee:=.builtin .append,args:=#[s,x],argTypes:=#[t,t]})
  (e:TypeId) (i:TypeInfo) (z:Value) (size f:Nat) (T:P.underlying t=some (.slice e)) (G:P.info? e=some i) (V:i.zero=some z)
  (O:i.size=size) (D:i.bytes=f) (W:z.cells.size=size) (R:0<size)
  (S:Nat→Prop) (v:Value) (n:Nat) (xs:List Value) (N:a.eval s=v) (M:aO w S e size v n xs) (C:∀i,w.heap.size≤i→S i)
  (d:Addr) (m c:Nat) (b:List Value) (U:a.eval x=.slice (some d) m c) (H:b.length=m*size) (I:∀j u,b[j]? =some u→w.cell? (d.add j)=some u) (p:∀u∈b,u.oneCell'=true)
  (A:n+m≤maxLen) (E:(n+m)*f≤140737488355328)
  (h:∀v' w',aO w' S e size v' (n+m) (xs++b)→Chg (fun k=>some k=v.ownBlock) w w'→(∀k,some k=v'.ownBlock→some k=v.ownBlock∨w.heap.size≤k)→wpList P g Q l (a.put o.dst v') w'):
  wpList P g Q (o::l) a w:=by
 refine wpList_plain F fun K B=>?_;obtain⟨v',w',L,q,r,y⟩:=Sq (P:=P) w t o.type e i z size f T G V O D W R S v n xs M C d m c b H I p A E;unfold Oper.wp execOp;simp only[J,resolve,invoke,builtin,Sem.run_bind,Sem.run_pure,Result.andThen_ok,List.map_toArray,kM,wM,N,U,L];exact B _ _ (h v' w' q r y)
end
end
section
section
variable {P:Program}{ops:Array Oper}{C:World→Prop}{R:Nat→World→World→Prop}
def mwR(P:Program)(ops:Array Oper)(C:World→Prop)(R:Nat→World→World→Prop)(Qn:Act→World→Prop):Nat→List Oper→List (Value→World→Prop)→Act→(Tmp→World→Prop)→Prop
 |_,[],_,a,F=>∀w,C w→(∀t,F t w)→Qn a w
 |k,o::l,φs,a,F=>
  (∀w,C w→(∀t,t∈o.looksAt ops→F t w)→wpList P ops (nF a o.dst fun v w'=>C w'∧R k w w'∧(φs.headD fun _ _=>True) v w') [o] a w)∧
  ∀v,mwR P ops C R Qn (k+1) l φs.tail (a.put o.dst v) (fun t w=>if o.dst=some t then (φs.headD fun _ _=>True) v w else F t w)
theorem xZ(b:List (Value→World→Prop))(i:Nat):(b.drop i).headD (fun _ _=>True)=phi b i:=by
 unfold phi
 cases a:b.drop i with
 |nil=>simp[List.getD,Ev (show b.length≤i by simpa using a)]
 |cons p r=>
  have c:i<b.length:=by
   rcases mJ i b.length with h|h
   .exact h
   .rw[gS h]at a; cases a
  rw[fG c]at a;injection a with a _
  simp[List.getD,c,a]
theorem Ct{d:Act→World→Prop}{c:List (Value→World→Prop)}{a:Act}{L:List Oper}(e:∀j,j<L.length→L[j]? =ops[j]?)(h:mwR P ops C R d 0 L c a (fun _ _=>True))(x:Nat→Value):
  ∀i,i≤L.length→mwR P ops C R d i (L.drop i) (c.drop i) (dK ops a x (fun _=>true) i) (qT ops c x i)
 |0,_=>h
 |i+1,l=>by
  have f:=Ct e h x i (by omega);have b:i<L.length:=by omega
  rw[fG b]at f;obtain⟨_,k⟩:=f;have g:fV ops i=(L[i]).dst:=by simp[fV,←e i b,b]
  have:=k (x i);rw[xZ,List.tail_drop,←g]at this;rw[dK];simpa [qT] using this
def tP(R:Nat→World→World→Prop):Nat→List (Value→World→Prop)→Prop
 |_,[]=>True
 |k,φ::r=>(∀i v w w',i≠k→φ v w→R i w w'→φ v w')∧tP R (k+1) r
theorem Cu:∀(d:List (Value→World→Prop))(k:Nat),tP R k d→∀j i v w a,i≠k+j→phi d j v w→R i w a→phi d j v a
 |[],_,_,_,_,_,_,_,_,_,_=>by simp[phi]
 |_::_,k,h,0,i,v,w,a,e,c,b=>h.1 i v w a e c b
 |_::r,k,h,j+1,i,v,w,a,e,c,b=>Cu r (k+1) h.2 j i v w a (by omega) c b
theorem Sy{Qa:Exit→Act→World→Prop}{n:Nat}(hB:tA ops=true)(hs:Region.sinkB .any ops n=true)(hc:Region.chainB .any ops n=true)(hn:n<ops.size)
  (hq:Region.seqB .any ops (ops.size-n) n ((List.range ops.size).map fun j=>decide (j<n)).toArray=true) {F:List (Value→World→Prop)} (e1:tP R 0 F) {a:Act}
  (h:mwR P ops C R (fun a' U=>wpList P ops Qa (ops.toList.drop n) a' U) 0 (ops.toList.take n) F a (fun _ _=>True)):
  ∀(s:Nat)(b:Array Bool)(x:Nat→Value)(w:World),HeadInv .any ops n b→((List.range n).filter fun j=> !b.getD j true).length=s→
   C w→(∀j,j<n→b.getD j true=true→phi F j (x j) w)→wpAny P .any ops Qa (s+(ops.size-n)) b (dK ops a x (fun j=>b.getD j true) n) w:=by
 obtain⟨z0,j0,I⟩:=Fs hB;have e0:(ops.toList.take n).length=n:=by simp; omega
 have V:∀j,j<(ops.toList.take n).length→(ops.toList.take n)[j]? =ops[j]?:=fun j c=>by
  rw[e0]at c;simp[c]
 intro s
 induction s with
 |zero=>
  intro b x w l O G E;have z:∀j,j<n→b.getD j true=true:=fun j c=>by
   cases m:b.getD j true with
   |true=>rfl
   |false=>
    have:j∈(List.range n).filter fun j=> !b.getD j true:=List.mem_filter.2 ⟨List.mem_range.2 c,by simp only[m]; rfl⟩;rw[hJ O]at this; cases this
  have r:b=((List.range ops.size).map fun j=>decide (j<n)).toArray:=by
   apply Array.ext
   .simp[l.size]
   .intro j k h2;simp only[List.getElem_toArray,kY,List.getElem_range]
    by_cases c:j<n
    .have:=z j c; simp[k]at this; simp[this,c]
    .have:=l.tail j (by omega) (by rw[←l.size]; exact k); simp[k]at this; simp[this,c]
  have y:=Ct V h x n (by omega);rw[show (ops.toList.take n).drop n=[] from gS (by omega)]at y;have e:dK ops a x (fun j=>b.getD j true) n=dK ops a x (fun _=>true) n:=uQ _ (fun j c=>z j c) (fun _ _ _=>rfl);rw[e,hY];have f:=y w G fun t=>uR _ _ _ _ _ fun j c _=>E j c (z j c);have:=wpAny_of_seq (md:=.any) (Q':=Qa) (ops.toList.drop n) n b _ w (fun j=>by simp[mG]) (by rw[r]; simpa using hq) f;simpa using this
 |succ s ih=>
  intro b x w l O G E;obtain⟨i0,X,T⟩:∃j,j<n∧b.getD j true=false:=by
   have:0<((List.range n).filter fun j=> !b.getD j true).length:=by omega
   obtain⟨j,c⟩:=List.exists_mem_of_length_pos this;have:=List.mem_filter.1 c;exact⟨j,List.mem_range.1 this.1,by simpa using this.2⟩
  rw[Nat.add_right_comm];refine⟨fun hr=>?_,fun i L=>?_⟩
  .exfalso
   have d1:∀j,j<n→b.getD j true=true:=fun j=>by
    induction j using Nat.strongRecOn with
    |ind j b1=>
     intro c
     cases m:b.getD j true with
     |true=>rfl
     |false=>
      exfalso
      obtain⟨o,p⟩:∃o,ops[j]? =some o:=⟨_,zO (by omega)⟩
      have:j∈Region.ready .any ops b:=mem_ready.2 ⟨m,o,p,fun e r l0=>by
       have o0:=j0 j o p e r l0;have:=b1 e.on o0 (by omega);simpa [show e.on<b.size by rw[l.size]; omega] using this⟩
      rw[hr]at this
      cases this
   rw[d1 i0 X]at T
   cases T
  .obtain⟨D,o,p,z⟩:=mem_ready.1 L;have M:i<n:=by
    rcases mJ i n with q|q
    .exact q
    .exact absurd L (tail_waits hs hc hn l _ i0 rfl X T i q)
   have m0:fV ops i=o.dst:=by simp[fV,p]
   have Y:sZ ops i=o.looksAt ops:=by simp[sZ,p]
   have b0:∀j,iA ops i j=true→b.getD j true=true:=fun j c=>by
    simp only[iA,p,kL,uG]at c;obtain⟨e,r,m⟩:=Array.any_eq_true'.1 c;simp only[bI,beq_iff_eq]at m;have k:=z e r m.1;rw[m.2]at k;rcases mJ j b.size with q|q
    .simp[q]at k ⊢; exact k
    .simp[Array.getElem?_eq_none q]at k
   have a1:∀j,j<n→iA ops j i=true→b.getD j true=false:=fun j c f=>by
    cases m:b.getD j true with
    |false=>rfl
    |true=>
     exfalso
     obtain⟨oj,Z⟩:∃o,ops[j]? =some o:=⟨_,zO (by omega)⟩
     simp only[iA,Z,kL,uG]at f;obtain⟨e,r,H⟩:=Array.any_eq_true'.1 f;simp only[bI,beq_iff_eq]at H;have:=l.closed j oj Z (by simpa [show j<b.size by rw[l.size]; omega] using m) e r H.1;rw[H.2,getD_both D]at this
     cases this
   have y:=Ct V h x i (by omega);rw[fG (show i<(ops.toList.take n).length by omega)]at y;have q0:(ops.toList.take n)[i]'(by omega)=o:=by
    have:=(fH.1 p).2;simpa using this
   rw[q0]at y;have a0:=y.1 w G (fun t ht=>uR _ _ _ _ _ fun j c A=>by
    rcases (I i j t (by omega) (by omega) (by omega) A).2 (Y▸ht) with⟨_,f⟩|⟨h2,_⟩
    .exact E j (by omega) (b0 j f)
    .omega)
   rw[xZ]at a0;have W:iR (o.looksAt ops) (dK ops a x (fun j=>b.getD j true) n) (dK ops a x (fun _=>true) i):=by
    rw[←Fr a x i n (by omega)];refine Az _ fun j c S d A p0=>?_
    by_cases g:j=i
    .subst g;apply S;simp only[D];simp
    .rcases (I i j d (by omega) (by omega) (fun e=>g e.symm) A).2 (Y▸p0) with⟨k,f⟩|⟨k,f⟩
     .apply S;rw[b0 j f];simp[k]
     .apply S;rw[a1 j c f];simp; omega
   unfold wpOp;simp only[p];have B:=Bc (Q:=Qa) (K:=wpAny P .any ops Qa (s+(ops.size-n)) (b.setIfInBounds i true)) (Ba (Region.noSelect_spec z0 i o · · p) W) (by rw[pH,pH]) a0 (Bb W) (fun v U hR=>by
    obtain⟨d0,g0,y0⟩:=hR;rw[←m0,Ay (a:=a) (x:=x) (v:=v) D n M (fun j c g d A=>(I i j d (by omega) (by omega) (fun e=>g e.symm) A).1)];have J:∀j,(b.setIfInBounds i true).getD j true=(j==i||b.getD j true):=fun j=>by
     by_cases g:j=i
     .subst g; simp[show j<b.size by rw[l.size]; omega]
     .rw[getD_set_ne true (fun e=>g e.symm)]; simp[g]
    have ef:(fun j=>j==i||b.getD j true)=fun j=>(b.setIfInBounds i true).getD j true:=funext fun j=>(J j).symm;rw[ef];refine ih (b.setIfInBounds i true) (upd x i v) U (l.set L M) ?_ d0 (fun j c N=>?_)
    .have e3:((List.range n).filter fun j=> !(b.setIfInBounds i true).getD j true)=((List.range n).filter fun j=> !b.getD j true).erase i:=by
      rw[List.Nodup.erase_eq_filter (List.nodup_range.filter _),List.filter_filter];apply List.filter_congr;intro j _;rw[J j]
      cases c:(j==i)<;>simp[bne,c]
     rw[e3,List.length_erase_of_mem (List.mem_filter.2 ⟨List.mem_range.2 M,by simp only[D]; rfl⟩),O];rfl
    .by_cases g:j=i
     .subst g; simpa [upd] using y0
     .rw[J j]at N;simp only[beq_iff_eq,g,sV,false_or]at N;simp only[upd,g,if_false];exact Cu F 0 e1 j i _ _ _ (by omega) (E j c N) g0)
   split
   .rename_i f;rw[aE f]at B;exact .inl B
   .rename_i f;rw[aC f]at B;exact B
def mxB(ops:Array Oper)(n:Nat):Bool:=tA ops&&(Region.sinkB .any ops n&&(Region.chainB .any ops n&&(decide (n<ops.size)&&Region.seqB .any ops (ops.size-n) n ((List.range ops.size).map fun j=>decide (j<n)).toArray)))
theorem kU{id:Nat}{Q:Exit→Act→World→Prop}{l:List Oper}{a:Act}{w:World}(n:Nat)(C:World→Prop)(R:Nat→World→World→Prop)(x:P.follows .mixedOrders=true)(f:mxB l.toArray n=true)(s:C w.drew)
  (h:∃c:List (Value→World→Prop),tP R 0 c∧mwR P l.toArray C R (fun m B=>wpList P l.toArray Q (l.drop n) m B) 0 (l.take n) c a (fun _ _=>True)):(Code.region id l.toArray true).wp P Q a w:=by
 obtain⟨c,y,h⟩:=h;simp only[mxB,bI,bP]at f;obtain⟨o,p,q,d,r⟩:=f;refine wp_region_any x ?_;have E:n<l.length:=by simpa using d
 have i:=Sy (Qa:=Q) o p q d r y (a:=a) (by simpa using h) n (Array.replicate l.toArray.size false) (fun _=>undef) w.drew
  ⟨by simp,fun j F _ b=>(by rw[getD_replicate_false]at b; cases b),fun t _ z=>getD_in (by simpa using z) (getD_replicate_false _ _)⟩
  (by rw[List.filter_eq_self.2 (fun j g=>by simp only[List.mem_range]at g; simp[show j<l.length by omega])]; simp) s
  (fun j g b=>by simp[show j<l.length by omega]at b)
 have e:∀k,k≤n→dK l.toArray a (fun _=>undef) (fun j=>(Array.replicate l.toArray.size false).getD j true) k=a:=by
  intro k
  induction k with
  |zero=>intro _; rfl
  |succ k A=>
   intro D;rw[dK];have:(Array.replicate l.toArray.size false).getD k true=false:=by simp[show k<l.length by omega]
   rw[this];exact A (by omega)
 rw[e n (aD _),show n+(l.toArray.size-n)=l.toArray.size by omega]at i;exact i
theorem Ip{x:Act→World→Prop}{d:Option Tmp}{c v:Value}:∀(k:Nat)(l:List Oper)(m:List (Value→World→Prop))(a:Act)(F G:Tmp→World→Prop),pI d l=true→
  (∀t w,G t w→F t w)→(∀t w,d=some t→G t w→v=c)→(∀t w,d≠some t→F t w→G t w)→(d=none→v=c)→
  mwR P ops C R x k l m (a.put d c) F→mwR P ops C R x k l m (a.put d v) G
 |_,[],m,a,F,G,_,p,n,_,r,h=>fun w s E=>by
  have:v=c:=by
   cases d with
   |none=>exact r rfl
   |some t=>exact n t w rfl (E t)
  rw[this];exact h w s fun t=>p t w (E t)
 |k,o::l,m,a,F,G,D,p,n,L,r,h=>by
  simp only[pI,List.all_cons,bI,sV]at D;obtain⟨⟨i,J⟩,N⟩:=D;have Q:∀y b,o.op≠.select y b:=fun y b e=>by rw[e]at J; simp at J
  have H:∀t,d=some t→o.dst≠some t:=fun t f e=>by
   rcases i with i|i
   .rw[f]at i; simp at i
   .rw[f,e]at i; simp at i
  refine⟨fun w s B=>?_,fun u=>?_⟩
  .have A:=h.1 w s fun t f=>p t w (B t f)
   by_cases K:v=c
   .rw[K]; exact A
   .refine Ft Q ?_ (by rw[uP,uP]) A;have M:iR (o.looksAt ops) a a:=fun _ _=>rfl;have I:∀t,d=some t→t∉o.looksAt ops:=fun t f O=>K (n t w f (B t O));exact ((M.put_left I v).symm.put_left I c).symm
  .have e:∀z,(a.put d z).put o.dst u=(a.put o.dst u).put d z:=fun z=>Act.put_comm a z u fun t f=>H t f;rw[e];refine Ip (k+1) l m.tail (a.put o.dst u) (fun t w=>if o.dst=some t then (m.headD fun _ _=>True) u w else F t w) _ N (fun t w j=>?_) (fun t w f j=>?_) (fun t w f q=>?_) r ?_
   .split
    .rename_i g; rw[aE g]at j; exact j
    .rename_i g; rw[aC g]at j; exact p t w j
   .rw[aC (H t f)]at j;exact n t w f j
   .split
    .rename_i g; rw[aE g]at q; exact q
    .rename_i g; rw[aC g]at q; exact L t w f q
   .rw[←e]; exact h.2 u
theorem Sz{k:Nat}{f:Act→World→Prop}{o:Oper}{l:List Oper}{e:List (Value→World→Prop)}{a:Act}{F:Tmp→World→Prop}{c:Value}(p:pI o.dst l=true)(n:∀t w,o.dst=some t→F t w)
  (g:o.dst.isSome=true)
  (j:∀w,C w→(∀t,t∈o.looksAt ops→F t w)→wpList P ops (nF a o.dst fun v i=>C i∧R k w i∧v=c) [o] a w)
  (m:mwR P ops C R f (k+1) l e (a.put o.dst c) F):mwR P ops C R f k (o::l) (isV c::e) a F:=by
 refine⟨j,fun v=>?_⟩;refine Ip (k+1) l e a F _ p (fun t w b=>?_) (fun t w d b=>?_) (fun t w d q=>?_) (fun h=>by rw[h]at g; simp at g) m
 .split at b
  .rename_i h; exact n t w h
  .exact b
 .simpa [d,isV] using b
 .rw[aC d];exact q
end
end
section
section
variable {P:Program}{ops:Array Oper}{C:(Nat→Option Value)→World→Prop}{R:Nat→World→World→Prop}
def bD(X:Nat→Option Value)(k:Nat)(v:Value)(j:Nat):Option Value:=if j=k then some v else X j
def mwS(P:Program)(ops:Array Oper)(C:(Nat→Option Value)→World→Prop)(R:Nat→World→World→Prop)(Qn:Act→World→Prop):Nat→List Oper→List (Value→World→Prop)→List Value→Act→(Tmp→World→Prop)→Prop
 |_,[],_,vs,a,F=>∀w,C (fun j=>vs[j]?) w→(∀t,F t w)→Qn a w
 |k,o::l,φs,vs,a,F=>
  (∀X w,C X w→X k=none→(∀j,iA ops k j=true→(X j).isSome=true)→(∀j t z,iA ops k j=true→fV ops j=some t→t∈o.looksAt ops→a.tmps[t]? =some z→X j=some z)→(∀t,t∈o.looksAt ops→F t w)→wpList P ops (nF a o.dst fun v w'=>C (bD X k v) w'∧R k w w'∧(φs.headD fun _ _=>True) v w') [o] a w)∧
  ∀v,mwS P ops C R Qn (k+1) l φs.tail (vs++[v]) (a.put o.dst v) (fun t w=>if o.dst=some t then (φs.headD fun _ _=>True) v w else F t w)
theorem Da{d:Act→World→Prop}{c:List (Value→World→Prop)}{a:Act}{L:List Oper}(e:∀j,j<L.length→L[j]? =ops[j]?)(h:mwS P ops C R d 0 L c [] a (fun _ _=>True))(x:Nat→Value):
  ∀i,i≤L.length→mwS P ops C R d i (L.drop i) (c.drop i) ((List.range i).map x) (dK ops a x (fun _=>true) i) (qT ops c x i)
 |0,_=>h
 |i+1,l=>by
  have f:=Da e h x i (by omega);have b:i<L.length:=by omega
  rw[fG b]at f;obtain⟨_,k⟩:=f;have g:fV ops i=(L[i]).dst:=by simp[fV,←e i b,b]
  have:=k (x i);rw[xZ,List.tail_drop,←g]at this;rw[dK];simpa [qT,Ac] using this
theorem Ji{a:Act}{x:Nat→Value}{j t:Nat}{z:Value}:∀i,j<i→fV ops j=some t→(∀c,c<i→c≠j→fV ops c≠some t)→(dK ops a x (fun _=>true) i).tmps[t]? =some z→z=x j
 |0,h,_,_,_=>absurd h (by omega)
 |i+1,h,f,l,b=>by
  unfold dK at b;rw[aE rfl]at b
  by_cases g:j=i
  .subst g;rw[f]at b;simp only[Act.put,Or]at b
   split at b
   .split at b
    .injection b with e; exact e.symm
    .cases b
   .rename_i m; exact absurd trivial m
  .refine Ji (a:=a) (x:=x) i (by omega) f (fun c n=>l c (by omega)) ?_;have k:=l i (by omega) (fun e=>g e.symm)
   cases hdi:fV ops i with
   |none=>rw[hdi]at b; exact b
   |some d=>
    rw[hdi]at b k;simp only[Act.put,Or]at b;rw[aC (fun e=>k (by rw[e]))]at b;exact b
theorem Uf{Qa:Exit→Act→World→Prop}{n:Nat}(hB:tA ops=true)(j1:n=ops.size∨(Region.sinkB .any ops n=true∧Region.chainB .any ops n=true∧n<ops.size))(hn:n≤ops.size)
  (hq:Region.seqB .any ops (ops.size-n) n ((List.range ops.size).map fun j=>decide (j<n)).toArray=true) {O:List (Value→World→Prop)} (q1:tP R 0 O) {a:Act}
  (h:mwS P ops C R (fun a' Z=>wpList P ops Qa (ops.toList.drop n) a' Z) 0 (ops.toList.take n) O [] a (fun _ _=>True)):
  ∀(A:Nat)(c:Array Bool)(x:Nat→Value)(w:World),HeadInv .any ops n c→((List.range n).filter fun j=> !c.getD j true).length=A→
   C (fun j=>if j<n∧c.getD j true=true then some (x j) else none) w→(∀j,j<n→c.getD j true=true→phi O j (x j) w)→wpAny P .any ops Qa (A+(ops.size-n)) c (dK ops a x (fun j=>c.getD j true) n) w:=by
 obtain⟨l1,T,H⟩:=Fs hB;have m0:(ops.toList.take n).length=n:=by simp; omega
 have b0:∀j,j<(ops.toList.take n).length→(ops.toList.take n)[j]? =ops[j]?:=fun j b=>by
  rw[m0]at b;simp[b]
 intro A
 induction A with
 |zero=>
  intro c x w p X G N;have B:∀j,j<n→c.getD j true=true:=fun j b=>by
   cases q:c.getD j true with
   |true=>rfl
   |false=>
    have:j∈(List.range n).filter fun j=> !c.getD j true:=List.mem_filter.2 ⟨List.mem_range.2 b,by simp only[q]; rfl⟩;rw[hJ X]at this; cases this
  have l:c=((List.range ops.size).map fun j=>decide (j<n)).toArray:=by
   apply Array.ext
   .simp[p.size]
   .intro j m S;simp only[List.getElem_toArray,kY,List.getElem_range]
    by_cases b:j<n
    .have:=B j b; simp[m]at this; simp[this,b]
    .have:=p.tail j (by omega) (by rw[←p.size]; exact m); simp[m]at this; simp[this,b]
  have D:=Da b0 h x n (by omega);rw[show (ops.toList.take n).drop n=[] from gS (by omega)]at D;have e:dK ops a x (fun j=>c.getD j true) n=dK ops a x (fun _=>true) n:=uQ _ (fun j b=>B j b) (fun _ _ _=>rfl);rw[e,hY];have o0:(fun j=>if j<n∧c.getD j true=true then some (x j) else none)=fun j=>((List.range n).map x)[j]?:=funext fun j=>by
   by_cases b:j<n
   .rw[aE ⟨b,B j b⟩]; simp[b]
   .rw[aC fun h=>b h.1]; simp[b]
  rw[o0]at G;have k:=D w G fun t=>uR _ _ _ _ _ fun j b _=>N j b (B j b);have:=wpAny_of_seq (md:=.any) (Q':=Qa) (ops.toList.drop n) n c _ w (fun j=>by simp[mG]) (by rw[l]; simpa using hq) k;simpa using this
 |succ A ih=>
  intro c x w p X G N;obtain⟨i0,e0,Y⟩:∃j,j<n∧c.getD j true=false:=by
   have:0<((List.range n).filter fun j=> !c.getD j true).length:=by omega
   obtain⟨j,b⟩:=List.exists_mem_of_length_pos this;have:=List.mem_filter.1 b;exact⟨j,List.mem_range.1 this.1,by simpa using this.2⟩
  rw[Nat.add_right_comm];refine⟨fun hr=>?_,fun i V=>?_⟩
  .exfalso
   have p1:∀j,j<n→c.getD j true=true:=fun j=>by
    induction j using Nat.strongRecOn with
    |ind j o1=>
     intro b
     cases q:c.getD j true with
     |true=>rfl
     |false=>
      exfalso
      obtain⟨o,g⟩:∃o,ops[j]? =some o:=⟨_,zO (by omega)⟩
      have:j∈Region.ready .any ops c:=mem_ready.2 ⟨q,o,g,fun e l y=>by
       have a1:=T j o g e l y;have:=o1 e.on a1 (by omega);simpa [show e.on<c.size by rw[p.size]; omega] using this⟩
      rw[hr]at this
      cases this
   rw[p1 i0 e0]at Y
   cases Y
  .obtain⟨F,o,g,B⟩:=mem_ready.1 V;have J:i<n:=by
    rcases mJ i n with s|s
    .exact s
    .rcases j1 with l|⟨hs,hc,d1⟩
     .have:=(fH.1 g).1; omega
     .exact absurd V (tail_waits hs hc d1 p _ i0 rfl e0 Y i s)
   have y0:fV ops i=o.dst:=by simp[fV,g]
   have g0:sZ ops i=o.looksAt ops:=by simp[sZ,g]
   have M:∀j,iA ops i j=true→c.getD j true=true:=fun j b=>by
    simp only[iA,g,kL,uG]at b;obtain⟨e,l,q⟩:=Array.any_eq_true'.1 b;simp only[bI,beq_iff_eq]at q;have m:=B e l q.1;rw[q.2]at m;rcases mJ j c.size with s|s
    .simp[s]at m ⊢; exact m
    .simp[Array.getElem?_eq_none s]at m
   have m1:∀j,j<n→iA ops j i=true→c.getD j true=false:=fun j b k=>by
    cases q:c.getD j true with
    |false=>rfl
    |true=>
     exfalso
     obtain⟨oj,j0⟩:∃o,ops[j]? =some o:=⟨_,zO (by omega)⟩
     simp only[iA,j0,kL,uG]at k;obtain⟨e,l,U⟩:=Array.any_eq_true'.1 k;simp only[bI,beq_iff_eq]at U;have:=p.closed j oj j0 (by simpa [show j<c.size by rw[p.size]; omega] using q) e l U.1;rw[U.2,getD_both F]at this
     cases this
   have D:=Da b0 h x i (by omega);rw[fG (show i<(ops.toList.take n).length by omega)]at D;have e1:(ops.toList.take n)[i]'(by omega)=o:=by
    have:=(fH.1 g).2;simpa using this
   rw[e1]at D;have l0:=D.1 _ w G (aC fun h=>by rw[F]at h; simp at h) (fun j b=>by
    obtain⟨e,l,y⟩:∃e∈o.after,(Region.binds .any e&&e.on==j)=true:=by
     simp only[iA,g,kL,uG]at b;exact Array.any_eq_true'.1 b
    simp only[bI,beq_iff_eq]at y;have:=T i o g e l y.1;rw[aE ⟨by omega,M j b⟩];rfl) (fun j t z b r _ hz=>by
    have z0:=M j b;have f:j<i:=by
     simp only[iA,g,kL,uG]at b;obtain⟨e,l,y⟩:=Array.any_eq_true'.1 b;simp only[bI,beq_iff_eq]at y;have:=T i o g e l y.1;omega
    rw[aE ⟨by omega,z0⟩,Ji i f r (fun j' y1 E S=>(H j' j t (by omega) (by omega) E r).1 S) hz]) (fun t ht=>uR _ _ _ _ _ fun j b r=>by
    rcases (H i j t (by omega) (by omega) (by omega) r).2 (g0▸ht) with⟨_,k⟩|⟨S,_⟩
    .exact N j (by omega) (M j k)
    .omega)
   rw[xZ]at l0;have d0:iR (o.looksAt ops) (dK ops a x (fun j=>c.getD j true) n) (dK ops a x (fun _=>true) i):=by
    rw[←Fr a x i n (by omega)];refine Az _ fun j b E d r b1=>?_
    by_cases f:j=i
    .subst f;apply E;simp only[F];simp
    .rcases (H i j d (by omega) (by omega) (fun e=>f e.symm) r).2 (g0▸b1) with⟨m,k⟩|⟨m,k⟩
     .apply E;rw[M j k];simp[m]
     .apply E;rw[m1 j b k];simp; omega
   unfold wpOp;simp only[g];have L:=Bc (Q:=Qa) (K:=wpAny P .any ops Qa (A+(ops.size-n)) (c.setIfInBounds i true)) (Ba (Region.noSelect_spec l1 i o · · g) d0) (by rw[pH,pH]) l0 (Bb d0) (fun v Z hR=>by
    obtain⟨a0,q0,g1⟩:=hR;rw[←y0,Ay (a:=a) (x:=x) (v:=v) F n J (fun j b f d r=>(H i j d (by omega) (by omega) (fun e=>f e.symm) r).1)];have I:∀j,(c.setIfInBounds i true).getD j true=(j==i||c.getD j true):=fun j=>by
     by_cases f:j=i
     .subst f; simp[show j<c.size by rw[p.size]; omega]
     .rw[getD_set_ne true (fun e=>f e.symm)]; simp[f]
    have ef:(fun j=>j==i||c.getD j true)=fun j=>(c.setIfInBounds i true).getD j true:=funext fun j=>(I j).symm;rw[ef];have p0:(fun j=>if j<n∧(c.setIfInBounds i true).getD j true=true then some (upd x i v j) else none)=bD (fun j=>if j<n∧c.getD j true=true then some (x j) else none) i v:=funext fun j=>by
     unfold bD;rw[I j]
     by_cases f:j=i
     .subst f; simp[upd,J]
     .simp[upd,f]
    rw[←p0]at a0;refine ih (c.setIfInBounds i true) (upd x i v) Z (p.set V J) ?_ a0 (fun j b W=>?_)
    .have e3:((List.range n).filter fun j=> !(c.setIfInBounds i true).getD j true)=((List.range n).filter fun j=> !c.getD j true).erase i:=by
      rw[List.Nodup.erase_eq_filter (List.nodup_range.filter _),List.filter_filter];apply List.filter_congr;intro j _;rw[I j]
      cases b:(j==i)<;>simp[bne,b]
     rw[e3,List.length_erase_of_mem (List.mem_filter.2 ⟨List.mem_range.2 J,by simp only[F]; rfl⟩),X];rfl
    .by_cases f:j=i
     .subst f; simpa [upd] using g1
     .rw[I j]at W;simp only[beq_iff_eq,f,sV,false_or]at W;simp only[upd,f,if_false];exact Cu O 0 q1 j i _ _ _ (by omega) (N j b W) q0)
   split
   .rename_i k;rw[aE k]at L;exact .inl L
   .rename_i k;rw[aC k]at L;exact L
def myB(ops:Array Oper)(n:Nat):Bool:=tA ops&&((n==ops.size||(Region.sinkB .any ops n&&(Region.chainB .any ops n&&decide (n<ops.size))))&&(decide (n≤ops.size)&&Region.seqB .any ops (ops.size-n) n ((List.range ops.size).map fun j=>decide (j<n)).toArray))
theorem fR{id:Nat}{Q:Exit→Act→World→Prop}{l:List Oper}{a:Act}{w:World}(n:Nat)(C:(Nat→Option Value)→World→Prop)(R:Nat→World→World→Prop)(y:P.follows .mixedOrders=true)(f:myB l.toArray n=true)(s:C (fun _=>none) w.drew)
  (h:∃c:List (Value→World→Prop),tP R 0 c∧mwS P l.toArray C R (fun m D=>wpList P l.toArray Q (l.drop n) m D) 0 (l.take n) c [] a (fun _ _=>True)):(Code.region id l.toArray true).wp P Q a w:=by
 obtain⟨c,z,h⟩:=h;simp only[myB,bI,sV,beq_iff_eq,bP]at f;obtain⟨o,p,d,q⟩:=f;refine wp_region_any y ?_;have G:n≤l.length:=by simpa using d
 have i:=Uf (Qa:=Q) o p d q z (a:=a) (by simpa using h) n (Array.replicate l.toArray.size false) (fun _=>undef) w.drew
  ⟨by simp,fun j H _ b=>(by rw[getD_replicate_false]at b; cases b),fun t _ A=>getD_in (by simpa using A) (getD_replicate_false _ _)⟩
  (by rw[List.filter_eq_self.2 (fun j g=>by simp only[List.mem_range]at g; simp[show j<l.length by omega])]; simp) (by
   have x:(fun j=>if j<n∧(Array.replicate l.toArray.size false).getD j true=true then some undef else none)=fun _=>none:=funext fun j=>aC fun⟨E,r⟩=>by simp[show j<l.length by omega]at r
   rw[x]; exact s)
  (fun j g b=>by simp[show j<l.length by omega]at b)
 have e:∀k,k≤n→dK l.toArray a (fun _=>undef) (fun j=>(Array.replicate l.toArray.size false).getD j true) k=a:=by
  intro k
  induction k with
  |zero=>intro _; rfl
  |succ k B=>
   intro F;rw[dK];have:(Array.replicate l.toArray.size false).getD k true=false:=by simp[show k<l.length by omega]
   rw[this];exact B (by omega)
 rw[e n (aD _),show n+(l.toArray.size-n)=l.toArray.size by omega]at i;exact i
theorem Jj{M:Act→World→Prop}{d:Option Tmp}{c v:Value}:∀(k:Nat)(l:List Oper)(n:List (Value→World→Prop))(x s:List Value)(a:Act)(F G:Tmp→World→Prop),pI d l=true→(v=c→x=s)→
  (∀t w,G t w→F t w)→(∀t w,d=some t→G t w→v=c)→(∀t w,d≠some t→F t w→G t w)→(d=none→v=c)→
  mwS P ops C R M k l n x (a.put d c) F→mwS P ops C R M k l n s (a.put d v) G
 |_,[],n,x,s,a,F,G,_,L,y,p,_,K,h=>fun w B T=>by
  have:v=c:=by
   cases d with
   |none=>exact K rfl
   |some t=>exact p t w rfl (T t)
  rw[←L this]at B;rw[this];exact h w B fun t=>y t w (T t)
 |k,o::l,n,x,s,a,F,G,S,L,y,p,Y,K,h=>by
  simp only[pI,List.all_cons,bI,sV]at S;obtain⟨⟨g,W⟩,a0⟩:=S;have hs:∀N b,o.op≠.select N b:=fun N b e=>by rw[e]at W; simp at W
  have V:∀t,d=some t→o.dst≠some t:=fun t f e=>by
   rcases g with g|g
   .rw[f]at g; simp at g
   .rw[f,e]at g; simp at g
  refine⟨fun X w B hX Z Q E=>?_,fun u=>?_⟩
  .have O:=h.1 X w B hX Z (fun j t z U g I D=>by
    by_cases r:v=c
    .rw[←r]at D; exact Q j t z U g I D
    .have q:∀t,d=some t→t∉o.looksAt ops:=fun t f J=>r (p t w f (E t J));have H:iR (o.looksAt ops) a a:=fun _ _=>rfl;have:=((H.put_left q v).symm.put_left q c) t I;exact Q j t z U g I (by first |exact this.symm.trans D|exact this.trans D)) fun t f=>y t w (E t f)
   by_cases r:v=c
   .rw[r]; exact O
   .refine Ft hs ?_ (by rw[uP,uP]) O;have H:iR (o.looksAt ops) a a:=fun _ _=>rfl;have q:∀t,d=some t→t∉o.looksAt ops:=fun t f J=>r (p t w f (E t J));exact ((H.put_left q v).symm.put_left q c).symm
  .have e:∀z,(a.put d z).put o.dst u=(a.put o.dst u).put d z:=fun z=>Act.put_comm a z u fun t f=>V t f;rw[e];refine Jj (k+1) l n.tail (x++[u]) (s++[u]) (a.put o.dst u) (fun t w=>if o.dst=some t then (n.headD fun _ _=>True) u w else F t w) _ a0 (fun e=>by rw[L e]) (fun t w m=>?_) (fun t w f m=>?_) (fun t w f A=>?_) K ?_
   .split
    .rename_i i; rw[aE i]at m; exact m
    .rename_i i; rw[aC i]at m; exact y t w m
   .rw[aC (V t f)]at m;exact p t w f m
   .split
    .rename_i i; rw[aE i]at A; exact A
    .rename_i i; rw[aC i]at A; exact Y t w f A
   .rw[←e]; exact h.2 u
theorem Ug{k:Nat}{i:Act→World→Prop}{o:Oper}{l:List Oper}{g:List (Value→World→Prop)}{d:List Value}{a:Act}{F:Tmp→World→Prop}{c:Value}(s:pI o.dst l=true)(r:∀t w,o.dst=some t→F t w)
  (m:o.dst.isSome=true)
  (p:∀X w,C X w→X k=none→(∀j,iA ops k j=true→(X j).isSome=true)→(∀j t z,iA ops k j=true→fV ops j=some t→t∈o.looksAt ops→a.tmps[t]? =some z→X j=some z)→(∀t,t∈o.looksAt ops→F t w)→wpList P ops (nF a o.dst fun v n=>C (bD X k v) n∧R k w n∧v=c) [o] a w)
  (q:mwS P ops C R i (k+1) l g (d++[c]) (a.put o.dst c) F):mwS P ops C R i k (o::l) (isV c::g) d a F:=by
 refine⟨p,fun v=>?_⟩;refine Jj (k+1) l g (d++[c]) (d++[v]) a F _ s (fun e=>by rw[e]) (fun t w b=>?_) (fun t w f b=>?_) (fun t w f x=>?_) (fun h=>by rw[h]at m; simp at m) q
 .split at b
  .rename_i h; exact r t w h
  .exact b
 .simpa [f,isV] using b
 .rw[aC f];exact x
end
end
end Go.Proofs.YtdoopoapbffpbaaGreat
