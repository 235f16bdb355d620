import Derived.Test.YtoncgpddjmgbfaaGreatZ00
import Derived.Test.YtoncgpddjmgbfaaGreatZ04
import Derived.ArgAppend
import Derived.Laws.CopyRow
namespace Go.Proofs.YtoncgpddjmgbfaaGreat
open Go.RowKit Go.Proofs.Tryz
set_option maxRecDepth 100000
set_option maxHeartbeats 12800000
set_option linter.unusedVariables false
set_option linter.unusedSimpArgs false
section
def aM(w:World)(S:Nat→Prop)(e:TypeId)(k:Nat)(v:Value)(n:Nat)(xs:List Value):Prop:=
 xs.length=n*k∧((v=.slice none 0 0∧n=0)∨
  ∃g off cap cur,v=.slice (some ⟨g,off,none⟩) n cap∧S g∧w.heap[g]? =some (.cells cur e (0,0))∧n≤cap∧cap≤maxLen∧off+cap*k≤cur.size∧(cur.toList.drop off).take (n*k)=xs)
section
variable {w w':World}{S T:Nat→Prop}{e:TypeId}{k n:Nat}{v:Value}{xs:List Value}
theorem aM.nil(w:World)(S:Nat→Prop)(e:TypeId)(k:Nat):aM w S e k (.slice none 0 0) 0 []:=⟨by simp,.inl ⟨rfl,rfl⟩⟩
theorem aM.of_own{base:Nat}(h:w.ownsRow base e k v n xs)(d:∀i,base≤i→i<w.heap.size→S i):aM w S e k v n xs:=by
 refine⟨h.1,?_⟩;rcases h.2 with c|⟨g,cap,b,o,f,a,l,j,p,m⟩
 .exact .inl c
 .exact .inr ⟨g,0,cap,b,o,d g f (eT.1 a).1,a,l,j,by omega,by simpa using m⟩
theorem aM.kept(h:aM w S e k v n xs)(m:∀i c,S i→some i=v.ownBlock→w.heap[i]? =some (.cells c e (0,0))→w'.heap[i]? =w.heap[i]?)(l:∀i,i<w.heap.size→S i→T i):aM w' T e k v n xs:=by
 refine⟨h.1,?_⟩;rcases h.2 with j|⟨g,o,cap,b,f,d,a,r⟩
 .exact .inl j
 .refine .inr ⟨g,o,cap,b,f,l g (eT.1 a).1 d,(m g b d (by rw[f]; rfl) a).trans a,r⟩
theorem aM.mono(h:aM w S e k v n xs)(a:∀i,i<w.heap.size→S i→T i):aM w T e k v n xs:=h.kept (fun _ _ _ _ _=>rfl) a
theorem aM.below(h:aM w S e k v n xs)(a:Bw' w w'):aM w' S e k v n xs:=h.kept (fun i _ _ _ b=>a.block i (eT.1 b).1) (fun _ _ h=>h)
theorem aM.chg(h:aM w S e k v n xs)(a:Chg T w w')(d:∀i,some i=v.ownBlock→¬T i):aM w' S e k v n xs:=h.kept (fun i _ _ c b=>a.block i (eT.1 b).1 (d i c)) (fun _ _ h=>h)
theorem aM.slice(h:aM w S e k v n xs):∃A c,v=.slice A n c∧n≤c∧c≤maxLen:=by
 rcases h.2 with⟨rfl,rfl⟩|⟨g,f,cap,d,rfl,_,_,b,a,_⟩
 .exact⟨none,0,rfl,aN _,by unfold maxLen; omega⟩
 .exact⟨_,cap,rfl,b,a⟩
theorem aM.rd{A:Option Addr}{c:Nat}(h:aM w S e k (.slice A n c) n xs):Rd w w.heap.size A xs:=by
 rcases h.2 with⟨d,rfl⟩|⟨g,f,cap,m,d,_,b,o,_,p,l⟩
 .exact .inl (iY (by simpa using h.1))
 .have i:A=some ⟨g,f,none⟩:=by injection d
  subst i;refine .inr ⟨g,f,rfl,(eT.1 b).1,fun j u a=>?_⟩;rw[←l,nK]at a
  split at a
  .rw[lG]at a;simp only[World.cell?,b];simpa using a
  .cases a
theorem aM.form(h:aM w S e k v n xs)(d:0<n):∃g b cap a,v=.slice (some ⟨g,b,none⟩) n cap∧S g∧w.heap[g]? =some (.cells a e (0,0))∧n≤cap∧cap≤maxLen∧b+cap*k≤a.size∧(a.toList.drop b).take (n*k)=xs:=by
 rcases h.2 with⟨_,c⟩|h
 .omega
 .exact h
theorem aM.lt(h:aM w S e k v n xs):∀i,some i=v.ownBlock→S i∧i<w.heap.size:=by
 intro i a;rcases h.2 with⟨rfl,_⟩|⟨g,f,cap,d,rfl,c,b,_⟩
 .cases a
 .obtain rfl:i=g:=by simpa [Value.ownBlock] using a
  exact⟨c,(eT.1 b).1⟩
theorem aM.not_blk(h:aM w S e k v n xs){g:Nat}{t:TypeId}{b:List Value}(c:Blk w g t b)(f:t≠e):some g≠v.ownBlock:=by
 intro a;rcases h.2 with⟨rfl,_⟩|⟨g',l,cap,i,rfl,j,d,_⟩
 .cases a
 .obtain rfl:g=g':=by simpa [Value.ownBlock] using a
  have:=(show w.heap[g]? =_ from c).symm.trans d;simp at this;exact f this.2
theorem aM.not_row{d:Nat→Prop}{a:TypeId}{o p:Nat}{v':Value}{q:List Value}(h:aM w S e k v n xs)(f:aM w d a o v' p q)(m:e≠a):∀i,some i=v.ownBlock→some i≠v'.ownBlock:=by
 intro i b c;rcases h.2 with⟨rfl,_⟩|⟨g,A,cap,s,rfl,y,j,_⟩
 .cases b
 .rcases f.2 with⟨rfl,_⟩|⟨g',B,r,x,rfl,z,l,_⟩
  .cases c
  .obtain rfl:i=g:=by simpa [Value.ownBlock] using b
   obtain rfl:i=g':=by simpa [Value.ownBlock] using c
   have:=j.symm.trans l;simp at this;exact m this.2
theorem aM.tag(h:aM w S e k v n xs){i:Nat}(a:some i=v.ownBlock):∃c,w.heap[i]? =some (.cells c e (0,0)):=by
 rcases h.2 with⟨rfl,_⟩|⟨g,j,cap,d,rfl,f,b,_⟩
 .cases a
 .obtain rfl:i=g:=by simpa [Value.ownBlock] using a
  exact⟨_,b⟩
theorem aM.drop{j:Nat}{g b cap:Nat}(h:aM w S e k (.slice (some ⟨g,b,none⟩) n cap) n xs)(q:j≤n):aM w S e k (.slice (some ⟨g,if cap=j then b else b+j*k,none⟩) (n-j) (cap-j)) (n-j) (xs.drop (j*k)):=by
 have l:=h.1;refine⟨by rw[dM,l,gT],?_⟩;rcases h.2 with⟨a,_⟩|⟨g',y,p,f,a,m,i,s,r,x,o⟩
 .cases a
 .cases a;refine .inr ⟨g,_,cap-j,f,rfl,m,i,by omega,by omega,?_,?_⟩
  .split
   .rename_i d;rw[d,tO,nQ];omega
   .have:j*k+(cap-j)*k=cap*k:=by rw[←fH]; congr 1; omega
    omega
  .rw[←o,nP]
   split
   .rename_i d;have c:n-j=0:=by omega
    rw[c,nQ,kB,show n*k-j*k=0 by rw[←gT,c,nQ],kB]
   .rw[List.drop_drop,gT]
end
section
variable {P:Program}(w:World)
theorem xP(t A e:TypeId)(i:TypeInfo)(z:P.underlying t=some (.slice e))(r:P.info? e=some i)
  (g f d k:Nat) (h:Array Value) (q:w.heap[g]? =some (.cells h e (0,0)))
  (a:Addr) (m c:Nat) (b:List Value) (s:b.length=m*i.size) (x:∀j u,b[j]? =some u→w.cell? (a.add j)=some u) (n:∀u∈b,u.oneCell'=true)
  (y:d+m≤k) (p:f+d*i.size+b.length≤h.size):
  (Builtin.append_ #[t,t] A #[.slice (some ⟨g,f,none⟩) d k,.slice (some a) m c]).run P w=
   .ok (.slice (some ⟨g,f,none⟩) (d+m) k) (w.setRow g (h.toList.take (f+d*i.size)++b++h.toList.drop (f+d*i.size+b.length)).toArray):=by
 have o:=run_firstCells_some (P:=P) w i.size m a m c b s x;have l:=run_storeCells_at P g (f+d*i.size) e b 0 h w q (by simpa using p) n;simp only[dW]at l;simp[Builtin.append_,run_underlying z,sizeOf,typeInfo,r,Builtin.lenOf,y,o,Addr.add_lit,l]
theorem Qh(t A e:TypeId)(i:TypeInfo)(z:Value)(size y:Nat)(F:P.underlying t=some (.slice e))(l:P.info? e=some i)(O:i.zero=some z)
  (E:i.size=size) (K:i.bytes=y) (Q:z.cells.size=size) (N:0<size)
  (S:Nat→Prop) (v:Value) (n:Nat) (xs:List Value) (r:aM w S e size v n xs) (J:∀i,w.heap.size≤i→S i)
  (a:Addr) (m c:Nat) (f:List Value) (q:f.length=m*size) (C:∀j u,f[j]? =some u→w.cell? (a.add j)=some u) (H:∀u∈f,u.oneCell'=true)
  (I:n+m≤maxLen) (L:(n+m)*y≤140737488355328):
  ∃v' w',(Builtin.append_ #[t,t] A #[v,.slice (some a) m c]).run P w=.ok v' w'∧aM w' S e size v' (n+m) (xs++f)∧Chg (fun k=>some k=v.ownBlock) w w'∧
   (∀k,some k=v'.ownBlock→some k=v.ownBlock∨w.heap.size≤k):=by
 have M:(xs++f).length=(n+m)*size:=by rw[bF,r.1,q,fH]
 rcases r.2 with⟨rfl,rfl⟩|⟨g,h,cap,o,rfl,V,B,W,U,R,G⟩
 .obtain⟨v',w',s,x,d,_⟩:=run_append_own (P:=P) w w.heap.size t A e i z size y F l O E K Q N (.slice none 0 0) 0 xs (by have:xs=[]:=iY (by simpa using r.1); subst this; exact World.ownsRow_nil w _ e size) a m c f q C H I L (aN _);exact⟨v',w',s,aM.of_own x (fun i l _=>J i l),⟨d.os,d.tape,d.output,d.size,fun k b _=>d.block k b (by simp[Value.ownBlock])⟩,fun k b=>.inr (x.lt k b.symm).1⟩
 .by_cases D:n+m≤cap
  .subst E;have T:h+n*i.size+f.length≤o.size:=by
    rw[q,lW,←fH];exact aB (Nat.add_le_add_left (eL _ D) _) R
   have s:=xP (P:=P) w t A e i F l g h n cap o B a m c f q C H D T;refine⟨_,_,s,⟨M,.inr ⟨g,h,cap,_,rfl,V,setRow_heap w g o _ e _ B,D,U,?_,?_⟩⟩,?_,fun k b=>.inl b⟩
   .simp only[fF,bF,cL,dM,gK];omega
   .have X:((o.toList.drop h).take (n*i.size)).length=n*i.size:=by rw[G,r.1]
    have Y:h+n*i.size≤o.toList.length:=by rw[gK]; omega
    rw[←M,nG (by simp; omega),nG (by simp; omega),nP];rw[show h+n*i.size-h=n*i.size by omega,G];exact List.take_left
   .exact⟨rfl,rfl,rfl,by simp,fun k _ b=>setRow_other w g k _ (fun e=>b (by simp[Value.ownBlock,e]))⟩
  .obtain⟨v',w',s,x,d⟩:=run_append_arg_grows (P:=P) w t A e i z size y F l O E K Q N ⟨g,h,none⟩ n cap xs r.1 (fun j u p=>by
    rw[Addr.add_lit,cell_of_row w g _ o e _ B];rw[←G,nK]at p
    split at p
    .rw[lG]at p; simpa using p
    .cases p) a m c f q C (by omega) I L
   exact⟨v',w',s,aM.of_own x (fun i l _=>J i l),⟨d.os,d.tape,d.output,d.size,fun k b _=>d.block k b (by simp)⟩,fun k b=>.inr (x.lt k b.symm).1⟩
theorem uS{g:Array Oper}{l:List Oper}{o:Oper}{a:Act}{Q:Exit→Act→World→Prop}(F:o.guard=none)(s x:Operand)(t:TypeId)
  (J:o.op=.call {callee:=.builtin .append,args:=#[s,x],argTypes:=#[t,t]})
  (e:TypeId) (i:TypeInfo) (z:Value) (size f:Nat) (T:P.underlying t=some (.slice e)) (G:P.info? e=some i) (V:i.zero=some z)
  (O:i.size=size) (D:i.bytes=f) (W:z.cells.size=size) (R:0<size)
  (S:Nat→Prop) (v:Value) (n:Nat) (xs:List Value) (N:a.eval s=v) (M:aM w S e size v n xs) (C:∀i,w.heap.size≤i→S i)
  (d:Addr) (m c:Nat) (b:List Value) (U:a.eval x=.slice (some d) m c) (H:b.length=m*size) (I:∀j u,b[j]? =some u→w.cell? (d.add j)=some u) (p:∀u∈b,u.oneCell'=true)
  (A:n+m≤maxLen) (E:(n+m)*f≤140737488355328)
  (h:∀v' w',aM w' S e size v' (n+m) (xs++b)→Chg (fun k=>some k=v.ownBlock) w w'→(∀k,some k=v'.ownBlock→some k=v.ownBlock∨w.heap.size≤k)→wpList P g Q l (a.put o.dst v') w'):
  wpList P g Q (o::l) a w:=by
 refine wpList_plain F fun K B=>?_;obtain⟨v',w',L,q,r,y⟩:=Qh (P:=P) w t o.type e i z size f T G V O D W R S v n xs M C d m c b H I p A E;unfold Oper.wp execOp;simp only[J,resolve,invoke,builtin,Sem.run_bind,Sem.run_pure,Result.andThen_ok,List.map_toArray,mJ,tQ,N,U,L];exact B _ _ (h v' w' q r y)
end
end
section
structure Que(w:World)(base g:Nat)(v:Value)(l:List Bk):Prop where
 blk:Blk w g 373 [v]
 row:Ow w base 262 2 v Bk.cells l
 lo:base≤g
structure QTo(w w':World)(g:Nat)(v v':Value):Prop where
 chg:Chg (fun i=>i=g∨v.ownBlock=some i) w w'
 own:∀i,v'.ownBlock=some i→v.ownBlock=some i∨w.heap.size≤i
section
variable {w w' w2:World}{base g:Nat}{v v' v2:Value}{l l':List Bk}
theorem QTo.of(h:Bw' w w'):QTo w w' g v v:=⟨Chg.of_below h,fun _ h=>.inl h⟩
theorem QTo.trans(h:QTo w w' g v v')(k:QTo w' w2 g v' v2):QTo w w2 g v v2:=
 ⟨h.chg.trans k.chg fun i a d=>d.elim .inl fun b=>(h.own i b).elim .inr fun e=>absurd a (by omega),fun i a=>(k.own i a).elim (h.own i) fun c=>.inr (aB h.chg.size c)⟩
theorem Que.below(h:Que w base g v l)(a:Bw' w w'):Que w' base g v l:=⟨h.blk.below a h.blk.lt,h.row.below a,h.lo⟩
theorem Ow.qto{α:Type}{enc:α→List Value}{t:TypeId}{k base2:Nat}{u:Value}{m:List α}(h:Ow w base2 t k u enc m)(o:QTo w w' g v v')(n:u.ownBlock≠some g)(q:∀i,u.ownBlock=some i→v.ownBlock≠some i):Ow w' base2 t k u enc m:=by
 refine⟨h.1,?_⟩;rcases h.2 with j|⟨b,cap,f,d,l,a,r⟩
 .exact .inl j
 .refine .inr ⟨b,cap,f,d,l,?_,r⟩;have c:u.ownBlock=some b:=by rw[d]; rfl
  rw[o.chg.block b (eT.1 a).1 (fun p=>p.elim (fun e=>n (e▸c)) (q b c))];exact a
end
def qV(g:Nat):Value:=.iface 367 (.agg #[.pointer (some ⟨g,0,none⟩)])
def orI(x y:Int):Int:=if x=0 then y else x
theorem Qi(x y:Int)(b j:Nat)(w:World)(l:w.cell? ⟨b,j,none⟩=some (.i x))(m:w.cell? ⟨b,j+1,none⟩=some (.i y)):
  Calls prog 247 #[.slice (some ⟨b,j,none⟩) 2 2] w fun e w'=>e=.returned (.i (orI x y))∧w'=w:=by
 go_enter func247,ntmps247;go_wp2_with fail
 go_loop [8] (fun i=>∃k:Nat,k≤2∧i=.i k∧(1≤k→x=0)∧(2≤k→y=0)) (fun i=>2-(intOf i).toNat)
 case atStart=>exact⟨0,by omega,rfl,by omega,by omega⟩
 case round=>
  obtain⟨k,n,rfl,g,h⟩:=hrel;rcases (show k=0∨k=1∨k=2 by omega) with rfl|rfl|rfl
  .clear g h
   by_cases c:x=0
   .have e1:(x != 0)=false:=by simp[c]
    have d:=kp c;clear c;go_wp2_with fail
    go_round
    case rel=>exact⟨1,by omega,rfl,fun _=>d.o,by omega⟩
    case measure=>simp[intOf]
   .have e1:(x != 0)=true:=by simp[c]
    have d:=kp c;clear c;go_wp2_with fail;go_ret;exact⟨jO (wG (by unfold orI; rw[aF d.o])),rfl⟩
  .have f:=kp (g (by omega));clear g h
   by_cases c:y=0
   .have e1:(y != 0)=false:=by simp[c]
    have d:=kp c;clear c;go_wp2_with fail
    go_round
    case rel=>exact⟨2,by omega,rfl,fun _=>f.o,fun _=>d.o⟩
    case measure=>simp[intOf]
   .have e1:(y != 0)=true:=by simp[c]
    have d:=kp c;clear c;go_wp2_with fail;go_ret;exact⟨jO (wG (by unfold orI; rw[aK f.o])),rfl⟩
  .have f:=k'2 (g (by omega)) (h (by omega));clear g h;go_wp2_with fail;go_ret;exact⟨jO (wG (by unfold orI; rw[aK f.a,f.B])),rfl⟩
theorem Qj(x y:Bk):decide (orI (eN x.o y.o) (eN x.a y.a)<0)=lB x y:=by
 unfold orI eN lB;rcases Int.lt_trichotomy x.o y.o with h|h|h<;>rcases Int.lt_trichotomy x.a y.a with k|k|k<;>(repeat' split)<;>simp<;>omega
theorem Que.at_{w:World}{base g:Nat}{v:Value}{l:List Bk}(h:Que w base g v l)(i:Nat)(f:i<l.length):∃b c,v=.slice (some ⟨b,0,none⟩) l.length c∧base≤b∧b<w.heap.size∧l.length≤c∧c≤maxLen∧
  ∀i,i<l.length→w.cell? ⟨b,i*2,none⟩=some (.i (atB l i).a)∧w.cell? ⟨b,i*2+1,none⟩=some (.i (atB l i).o)∧w.frozen? ⟨b,i*2,none⟩=false∧w.frozen? ⟨b,i*2+1,none⟩=false:=by
 rcases h.row.2 with⟨_,C⟩|⟨b,c,B,m,s,d,y,x,D,E⟩
 .omega
 .refine⟨b,c,m,s,(eT.1 d).1,y,x,fun i f=>?_⟩;have j:Rd w w.heap.size (some ⟨b,0,none⟩) (aO Bk.cells l):=by
   have:=h.row.sl cO;obtain⟨A,c',n,j,_⟩:=this;rw[m]at n;injection n with e
   subst e;exact j
  obtain⟨z,F,r,_,k,_⟩:=dS (P:=prog) 2 cO (by omega) j i f
  cases r;have p:=k 0 _ rfl;have q:=k 1 _ rfl;rw[xO f];simp only[gL,dW]at p q;exact⟨p,q,by simp[World.frozen?,d],by simp[World.frozen?,d]⟩
theorem Qk{base g:Nat}{v:Value}{l:List Bk}(i j:Nat)(w:World)(h:Que w base g v l)(f:i<l.length)(p:j<l.length):
  Calls prog 326 #[.pointer (some ⟨g,0,none⟩),.i i,.i j] w fun e w'=>e=.returned (.bool (lB (atB l i) (atB l j)))∧Bw' w w':=by
 obtain⟨b,c,rfl,I,J,B,K,d⟩:=h.at_ i f;have C:=bG (d i f).1;have D:=bG (d i f).2.1;have E:=bG (d j p).1;have F:=bG (d j p).2.1;have r:=bG (h.blk.cell 0);generalize atB l i=x at *;generalize atB l j=y at *;obtain⟨n,q⟩:=nm' l.length;rw[q]at f p B r;have G:(i:Int)<(n:Int):=by omega
 have H:(j:Int)<(n:Int):=by omega
 clear d h q;go_enter func326,ntmps326;go_wp2_with fail;refine mO 34 (by kernel_rfl) (by kernel_rfl) ?_;simp only[lV,kB,bS,bU]
 repeat (go_big_quiet_step ((go_at_call 105; with_reducible refine dP (qG _ _ _))))
 refine cI ?_;rintro k ⟨⟨_,m⟩,rfl⟩;clear C D E F r;have s:=kp (m.trans ((ba' k (.cells #[.i (eN x.o y.o),.i (eN x.a y.a)] 3)).mono m.size));have z:=(Blk.new k 3 [.i (eN x.o y.o),.i (eN x.a y.a)]).cell 0;have A:=(Blk.new k 3 [.i (eN x.o y.o),.i (eN x.a y.a)]).cell 1;clear m;go_wp2_with fail;refine (Qi _ _ _ 0 _ z A).mono ?_;rintro e w' ⟨rfl,rfl⟩;go_wp2_with fail;go_ret;exact⟨jO (bA Value.bool (Qj x y)),s.o⟩
theorem Bd{w:World}{base k n c b:Nat}{e:TypeId}{xs:List Value}(h:w.ownsRow base e k (.slice (some ⟨b,0,none⟩) n c) n xs)(j:Nat)(u:Value):(w.setCell ⟨b,j,none⟩ u).ownsRow base e k (.slice (some ⟨b,0,none⟩) n c) n (xs.set j u):=by
 rcases h.2 with⟨a,_⟩|⟨g',cap,d,a,g,f,l,i,m,o⟩
 .cases a
 .cases a;refine⟨by simpa using h.1,.inr ⟨b,c,d.setIfInBounds j u,rfl,g,?_,l,i,by simpa using m,?_⟩⟩
  .rw[setCell_eq_setRow w b j d e (0,0) u f];exact setRow_heap w b _ _ e _ f
  .rw[Array.toList_setIfInBounds,List.take_set,o]
theorem Gm:∀(l:List Bk)(i:Nat)(y:Bk),((aO Bk.cells l).set (i*2) (.i y.a)).set (i*2+1) (.i y.o)=aO Bk.cells (l.set i y)
 |[],_,_=>rfl
 |_::_,0,_=>rfl
 |x::l,i+1,y=>by
  have b:=Gm l i y;have e1:aO Bk.cells (x::l)=.i x.a:: .i x.o::aO Bk.cells l:=rfl;rw[e1,show (i+1)*2=i*2+1+1 by omega];show Value.i x.a::Value.i x.o::(((aO Bk.cells l).set (i*2) _).set (i*2+1) _)=_;rw[b];rfl
theorem Que.ne{w:World}{base g b n c:Nat}{l:List Bk}(h:Que w base g (.slice (some ⟨b,0,none⟩) n c) l):b≠g:=by
 rintro rfl;obtain⟨c1,d,a⟩:=Lib.ownsRow_kind h.row b rfl;have:=(show w.heap[b]? =_ from h.blk).symm.trans a;simp at this
theorem Que.put{w:World}{base g b n c:Nat}{l:List Bk}(h:Que w base g (.slice (some ⟨b,0,none⟩) n c) l)(i:Nat)(y:Bk):
  Que ((w.setCell ⟨b,i*2,none⟩ (.i y.a)).setCell ⟨b,i*2+1,none⟩ (.i y.o)) base g (.slice (some ⟨b,0,none⟩) n c) (l.set i y):=by
 have d:n=l.length:=by
  rcases h.row.2 with⟨e,_⟩|⟨_,_,_,e,_⟩
  .cases e
  .injection e
 subst d;refine⟨(h.blk.otherCell (bM h.ne) _ _).otherCell (bM h.ne) _ _,?_,h.lo⟩;have:=Bd (Bd h.row (i*2) (.i y.a)) (i*2+1) (.i y.o);rw[Gm]at this;unfold Ow;rw[nM];exact this
theorem Chg.own2{g b n c:Nat}{a w:World}(h:Chg (fun i=>i=g∨(Value.slice (some ⟨b,0,none⟩) n c).ownBlock=some i) a w)(j:Nat)(u:Value):Chg (fun i=>i=g∨(Value.slice (some ⟨b,0,none⟩) n c).ownBlock=some i) a (w.setCell ⟨b,j,none⟩ u):=h.setCell (.inr (.inr rfl)) j u
theorem Ql{base g:Nat}{v:Value}{l:List Bk}(i j:Nat)(w:World)(h:Que w base g v l)(k:i<l.length)(p:j<l.length):
  Calls prog 329 #[.pointer (some ⟨g,0,none⟩),.i i,.i j] w fun e w'=>e=.returned (.tuple #[])∧Que w' base g v (lC l i j)∧QTo w w' g v v:=by
 obtain⟨b,c,rfl,m,D,z,E,f⟩:=h.at_ i k;obtain⟨n,q⟩:=nm' l.length;have H:=kp (show ∀d,Bw' w d→Que ((((d.setCell ⟨b,i*2,none⟩ (.i (atB l j).a)).setCell ⟨b,i*2+1,none⟩ (.i (atB l j).o)).setCell ⟨b,j*2,none⟩ (.i (atB l i).a)).setCell ⟨b,j*2+1,none⟩ (.i (atB l i).o)) base g (.slice (some ⟨b,0,none⟩) n c) (lC l i j) from fun d m=>by
  rw[q]at h;exact (((h.below m).put i (atB l j)).put j (atB l i)))
 obtain⟨K,L,M,N⟩:=f i k;obtain⟨O,P,Q,R⟩:=f j p;have r:=h.blk.cell 0;simp only[aP]at r;have s:=kp (show i=j→atB l j=atB l i from fun e=>by rw[e]);generalize atB l i=x at *;generalize atB l j=y at *;rw[q]at k p z r ⊢;have B:(i:Int)<(n:Int):=by omega
 have C:(j:Int)<(n:Int):=by omega
 clear f h
 by_cases A:i=j
 .subst A;obtain rfl:=s.o rfl;go_enter func329,ntmps329;go_wp2_with fail
  go_region
  go_end0;exact⟨rfl,H.o w.drew (bL (aH _ _)),(((((Chg.refl _ _).own2 _ _).own2 _ _).own2 _ _).own2 _ _).drew,fun _ h=>.inl h⟩
 .have F:¬i*2=j*2:=by omega
  have G:¬i*2+1=j*2:=by omega
  have I:¬i*2=j*2+1:=by omega
  have J:¬i*2+1=j*2+1:=by omega
  go_enter func329,ntmps329;go_wp2_with fail
  go_region
  go_end0;exact⟨rfl,H.o w.drew (bL (aH _ _)),(((((Chg.refl _ _).own2 _ _).own2 _ _).own2 _ _).own2 _ _).drew,fun _ h=>.inl h⟩
end
section
section
variable {P:Program}{ops:Array Oper}{C:World→Prop}{R:Nat→World→World→Prop}
def mwR(P:Program)(ops:Array Oper)(C:World→Prop)(R:Nat→World→World→Prop)(Qn:Act→World→Prop):Nat→List Oper→List (Value→World→Prop)→Act→(Tmp→World→Prop)→Prop
 |_,[],_,a,F=>∀w,C w→(∀t,F t w)→Qn a w
 |k,o::l,φs,a,F=>
  (∀w,C w→(∀t,t∈o.looksAt ops→F t w)→wpList P ops (oN a o.dst fun v w'=>C w'∧R k w w'∧(φs.headD fun _ _=>True) v w') [o] a w)∧
  ∀v,mwR P ops C R Qn (k+1) l φs.tail (a.put o.dst v) (fun t w=>if o.dst=some t then (φs.headD fun _ _=>True) v w else F t w)
theorem xQ(b:List (Value→World→Prop))(i:Nat):(b.drop i).headD (fun _ _=>True)=phi b i:=by
 unfold phi
 cases a:b.drop i with
 |nil=>simp[List.getD,Do (show b.length≤i by simpa using a)]
 |cons p r=>
  have c:i<b.length:=by
   rcases nN i b.length with h|h
   .exact h
   .rw[kA h]at a; cases a
  rw[iF c]at a;injection a with a _
  simp[List.getD,c,a]
theorem Be{d:Act→World→Prop}{c:List (Value→World→Prop)}{a:Act}{L:List Oper}(e:∀j,j<L.length→L[j]? =ops[j]?)(h:mwR P ops C R d 0 L c a (fun _ _=>True))(x:Nat→Value):
  ∀i,i≤L.length→mwR P ops C R d i (L.drop i) (c.drop i) (cM ops a x (fun _=>true) i) (pU ops c x i)
 |0,_=>h
 |i+1,k=>by
  have f:=Be e h x i (by omega);have b:i<L.length:=by omega
  rw[iF b]at f;obtain⟨_,g⟩:=f;have e1:fI ops i=(L[i]).dst:=by simp[fI,←e i b,b]
  have:=g (x i);rw[xQ,List.tail_drop,←e1]at this;rw[cM];simpa [pU] using this
def sO(R:Nat→World→World→Prop):Nat→List (Value→World→Prop)→Prop
 |_,[]=>True
 |k,φ::r=>(∀i v w w',i≠k→φ v w→R i w w'→φ v w')∧sO R (k+1) r
theorem Bf:∀(d:List (Value→World→Prop))(k:Nat),sO R k d→∀j i v w a,i≠k+j→phi d j v w→R i w a→phi d j v a
 |[],_,_,_,_,_,_,_,_,_,_=>by simp[phi]
 |_::_,k,h,0,i,v,w,a,e,c,b=>h.1 i v w a e c b
 |_::r,k,h,j+1,i,v,w,a,e,c,b=>Bf r (k+1) h.2 j i v w a (by omega) c b
theorem Qm{Qa:Exit→Act→World→Prop}{n:Nat}(hB:sD ops=true)(hs:Region.sinkB .any ops n=true)(hc:Region.chainB .any ops n=true)(hn:n<ops.size)
  (hq:Region.seqB .any ops (ops.size-n) n ((List.range ops.size).map fun j=>decide (j<n)).toArray=true) {F:List (Value→World→Prop)} (g1:sO R 0 F) {a:Act}
  (h:mwR P ops C R (fun a' U=>wpList P ops Qa (ops.toList.drop n) a' U) 0 (ops.toList.take n) F a (fun _ _=>True)):
  ∀(s:Nat)(b:Array Bool)(x:Nat→Value)(w:World),HeadInv .any ops n b→((List.range n).filter fun j=> !b.getD j true).length=s→
   C w→(∀j,j<n→b.getD j true=true→phi F j (x j) w)→wpAny P .any ops Qa (s+(ops.size-n)) b (cM ops a x (fun j=>b.getD j true) n) w:=by
 obtain⟨z0,j0,I⟩:=Ef hB;have e0:(ops.toList.take n).length=n:=by simp; omega
 have V:∀j,j<(ops.toList.take n).length→(ops.toList.take n)[j]? =ops[j]?:=fun j c=>by
  rw[e0]at c;simp[c]
 intro s
 induction s with
 |zero=>
  intro b x w l O G E;have z:∀j,j<n→b.getD j true=true:=fun j c=>by
   cases m:b.getD j true with
   |true=>rfl
   |false=>
    have:j∈(List.range n).filter fun j=> !b.getD j true:=List.mem_filter.2 ⟨List.mem_range.2 c,by simp only[m]; rfl⟩;rw[iY O]at this; cases this
  have r:b=((List.range ops.size).map fun j=>decide (j<n)).toArray:=by
   apply Array.ext
   .simp[l.size]
   .intro j k h2;simp only[List.getElem_toArray,pQ,List.getElem_range]
    by_cases c:j<n
    .have:=z j c; simp[k]at this; simp[this,c]
    .have:=l.tail j (by omega) (by rw[←l.size]; exact k); simp[k]at this; simp[this,c]
  have y:=Be V h x n (by omega);rw[show (ops.toList.take n).drop n=[] from kA (by omega)]at y;have e:cM ops a x (fun j=>b.getD j true) n=cM ops a x (fun _=>true) n:=uB _ (fun j c=>z j c) (fun _ _ _=>rfl);rw[e,gL];have f:=y w G fun t=>uC _ _ _ _ _ fun j c _=>E j c (z j c);have:=wpAny_of_seq (md:=.any) (Q':=Qa) (ops.toList.drop n) n b _ w (fun j=>by simp[lG]) (by rw[r]; simpa using hq) f;simpa using this
 |succ s ih=>
  intro b x w l O G E;obtain⟨i0,X,T⟩:∃j,j<n∧b.getD j true=false:=by
   have:0<((List.range n).filter fun j=> !b.getD j true).length:=by omega
   obtain⟨j,c⟩:=List.exists_mem_of_length_pos this;have:=List.mem_filter.1 c;exact⟨j,List.mem_range.1 this.1,by simpa using this.2⟩
  rw[Nat.add_right_comm];refine⟨fun hr=>?_,fun i L=>?_⟩
  .exfalso
   have d1:∀j,j<n→b.getD j true=true:=fun j=>by
    induction j using Nat.strongRecOn with
    |ind j b1=>
     intro c
     cases m:b.getD j true with
     |true=>rfl
     |false=>
      exfalso
      obtain⟨o,p⟩:∃o,ops[j]? =some o:=⟨_,yZ (by omega)⟩
      have:j∈Region.ready .any ops b:=mem_ready.2 ⟨m,o,p,fun e r l0=>by
       have o0:=j0 j o p e r l0;have:=b1 e.on o0 (by omega);simpa [show e.on<b.size by rw[l.size]; omega] using this⟩
      rw[hr]at this
      cases this
   rw[d1 i0 X]at T
   cases T
  .obtain⟨D,o,p,z⟩:=mem_ready.1 L;have M:i<n:=by
    rcases nN i n with q|q
    .exact q
    .exact absurd L (tail_waits hs hc hn l _ i0 rfl X T i q)
   have m0:fI ops i=o.dst:=by simp[fI,p]
   have Y:sC ops i=o.looksAt ops:=by simp[sC,p]
   have b0:∀j,iJ ops i j=true→b.getD j true=true:=fun j c=>by
    simp only[iJ,p,oL,rQ]at c;obtain⟨e,r,m⟩:=Array.any_eq_true'.1 c;simp only[bH,beq_iff_eq]at m;have k:=z e r m.1;rw[m.2]at k;rcases nN j b.size with q|q
    .simp[q]at k ⊢; exact k
    .simp[Array.getElem?_eq_none q]at k
   have a1:∀j,j<n→iJ ops j i=true→b.getD j true=false:=fun j c f=>by
    cases m:b.getD j true with
    |false=>rfl
    |true=>
     exfalso
     obtain⟨oj,Z⟩:∃o,ops[j]? =some o:=⟨_,yZ (by omega)⟩
     simp only[iJ,Z,oL,rQ]at f;obtain⟨e,r,H⟩:=Array.any_eq_true'.1 f;simp only[bH,beq_iff_eq]at H;have:=l.closed j oj Z (by simpa [show j<b.size by rw[l.size]; omega] using m) e r H.1;rw[H.2,getD_both D]at this
     cases this
   have y:=Be V h x i (by omega);rw[iF (show i<(ops.toList.take n).length by omega)]at y;have q0:(ops.toList.take n)[i]'(by omega)=o:=by
    have:=(eT.1 p).2;simpa using this
   rw[q0]at y;have a0:=y.1 w G (fun t ht=>uC _ _ _ _ _ fun j c A=>by
    rcases (I i j t (by omega) (by omega) (by omega) A).2 (Y▸ht) with⟨_,f⟩|⟨h2,_⟩
    .exact E j (by omega) (b0 j f)
    .omega)
   rw[xQ]at a0;have W:iK (o.looksAt ops) (cM ops a x (fun j=>b.getD j true) n) (cM ops a x (fun _=>true) i):=by
    rw[←Ee a x i n (by omega)];refine zM _ fun j c S d A p0=>?_
    by_cases g:j=i
    .subst g;apply S;simp only[D];simp
    .rcases (I i j d (by omega) (by omega) (fun e=>g e.symm) A).2 (Y▸p0) with⟨k,f⟩|⟨k,f⟩
     .apply S;rw[b0 j f];simp[k]
     .apply S;rw[a1 j c f];simp; omega
   unfold wpOp;simp only[p];have B:=zP (Q:=Qa) (K:=wpAny P .any ops Qa (s+(ops.size-n)) (b.setIfInBounds i true)) (zN (Region.noSelect_spec z0 i o · · p) W) (by rw[oM,oM]) a0 (zO W) (fun v U hR=>by
    obtain⟨d0,g0,y0⟩:=hR;rw[←m0,zL (a:=a) (x:=x) (v:=v) D n M (fun j c g d A=>(I i j d (by omega) (by omega) (fun e=>g e.symm) A).1)];have J:∀j,(b.setIfInBounds i true).getD j true=(j==i||b.getD j true):=fun j=>by
     by_cases g:j=i
     .subst g; simp[show j<b.size by rw[l.size]; omega]
     .rw[getD_set_ne true (fun e=>g e.symm)]; simp[g]
    have ef:(fun j=>j==i||b.getD j true)=fun j=>(b.setIfInBounds i true).getD j true:=funext fun j=>(J j).symm;rw[ef];refine ih (b.setIfInBounds i true) (upd x i v) U (l.set L M) ?_ d0 (fun j c N=>?_)
    .have e3:((List.range n).filter fun j=> !(b.setIfInBounds i true).getD j true)=((List.range n).filter fun j=> !b.getD j true).erase i:=by
      rw[List.Nodup.erase_eq_filter (List.nodup_range.filter _),List.filter_filter];apply List.filter_congr;intro j _;rw[J j]
      cases c:(j==i)<;>simp[bne,c]
     rw[e3,List.length_erase_of_mem (List.mem_filter.2 ⟨List.mem_range.2 M,by simp only[D]; rfl⟩),O];rfl
    .by_cases g:j=i
     .subst g; simpa [upd] using y0
     .rw[J j]at N;simp only[beq_iff_eq,g,pS,false_or]at N;simp only[upd,g,if_false];exact Bf F 0 g1 j i _ _ _ (by omega) (E j c N) g0)
   split
   .rename_i f;rw[aK f]at B;exact .inl B
   .rename_i f;rw[aF f]at B;exact B
def mxB(ops:Array Oper)(n:Nat):Bool:=sD ops&&(Region.sinkB .any ops n&&(Region.chainB .any ops n&&(decide (n<ops.size)&&Region.seqB .any ops (ops.size-n) n ((List.range ops.size).map fun j=>decide (j<n)).toArray)))
theorem fM{id:Nat}{Q:Exit→Act→World→Prop}{l:List Oper}{a:Act}{w:World}(n:Nat)(C:World→Prop)(R:Nat→World→World→Prop)(x:P.follows .mixedOrders=true)(f:mxB l.toArray n=true)(s:C w.drew)
  (h:∃c:List (Value→World→Prop),sO R 0 c∧mwR P l.toArray C R (fun m B=>wpList P l.toArray Q (l.drop n) m B) 0 (l.take n) c a (fun _ _=>True)):(Code.region id l.toArray true).wp P Q a w:=by
 obtain⟨c,y,h⟩:=h;simp only[mxB,bH,bR]at f;obtain⟨o,p,q,d,r⟩:=f;refine wp_region_any x ?_;have E:n<l.length:=by simpa using d
 have i:=Qm (Qa:=Q) o p q d r y (a:=a) (by simpa using h) n (Array.replicate l.toArray.size false) (fun _=>undef) w.drew
  ⟨by simp,fun j F _ b=>(by rw[getD_replicate_false]at b; cases b),fun t _ z=>getD_in (by simpa using z) (getD_replicate_false _ _)⟩
  (by rw[List.filter_eq_self.2 (fun j g=>by simp only[List.mem_range]at g; simp[show j<l.length by omega])]; simp) s
  (fun j g b=>by simp[show j<l.length by omega]at b)
 have e:∀k,k≤n→cM l.toArray a (fun _=>undef) (fun j=>(Array.replicate l.toArray.size false).getD j true) k=a:=by
  intro k
  induction k with
  |zero=>intro _; rfl
  |succ k A=>
   intro D;rw[cM];have:(Array.replicate l.toArray.size false).getD k true=false:=by simp[show k<l.length by omega]
   rw[this];exact A (by omega)
 rw[e n (aN _),show n+(l.toArray.size-n)=l.toArray.size by omega]at i;exact i
theorem Gp{x:Act→World→Prop}{d:Option Tmp}{c v:Value}:∀(k:Nat)(l:List Oper)(m:List (Value→World→Prop))(a:Act)(F G:Tmp→World→Prop),sE d l=true→
  (∀t w,G t w→F t w)→(∀t w,d=some t→G t w→v=c)→(∀t w,d≠some t→F t w→G t w)→(d=none→v=c)→
  mwR P ops C R x k l m (a.put d c) F→mwR P ops C R x k l m (a.put d v) G
 |_,[],m,a,F,G,_,p,n,_,r,h=>fun w s E=>by
  have:v=c:=by
   cases d with
   |none=>exact r rfl
   |some t=>exact n t w rfl (E t)
  rw[this];exact h w s fun t=>p t w (E t)
 |k,o::l,m,a,F,G,D,p,n,L,r,h=>by
  simp only[sE,List.all_cons,bH,pS]at D;obtain⟨⟨i,J⟩,N⟩:=D;have Q:∀y b,o.op≠.select y b:=fun y b e=>by rw[e]at J; simp at J
  have H:∀t,d=some t→o.dst≠some t:=fun t f e=>by
   rcases i with i|i
   .rw[f]at i; simp at i
   .rw[f,e]at i; simp at i
  refine⟨fun w s B=>?_,fun u=>?_⟩
  .have A:=h.1 w s fun t f=>p t w (B t f)
   by_cases K:v=c
   .rw[K]; exact A
   .refine Eg Q ?_ (by rw[uA,uA]) A;have M:iK (o.looksAt ops) a a:=fun _ _=>rfl;have I:∀t,d=some t→t∉o.looksAt ops:=fun t f O=>K (n t w f (B t O));exact ((M.put_left I v).symm.put_left I c).symm
  .have e:∀z,(a.put d z).put o.dst u=(a.put o.dst u).put d z:=fun z=>Act.put_comm a z u fun t f=>H t f;rw[e];refine Gp (k+1) l m.tail (a.put o.dst u) (fun t w=>if o.dst=some t then (m.headD fun _ _=>True) u w else F t w) _ N (fun t w j=>?_) (fun t w f j=>?_) (fun t w f q=>?_) r ?_
   .split
    .rename_i g; rw[aK g]at j; exact j
    .rename_i g; rw[aF g]at j; exact p t w j
   .rw[aF (H t f)]at j;exact n t w f j
   .split
    .rename_i g; rw[aK g]at q; exact q
    .rename_i g; rw[aF g]at q; exact L t w f q
   .rw[←e]; exact h.2 u
theorem bB{k:Nat}{f:Act→World→Prop}{o:Oper}{l:List Oper}{e:List (Value→World→Prop)}{a:Act}{F:Tmp→World→Prop}{c:Value}(p:sE o.dst l=true)(n:∀t w,o.dst=some t→F t w)
  (g:o.dst.isSome=true)
  (j:∀w,C w→(∀t,t∈o.looksAt ops→F t w)→wpList P ops (oN a o.dst fun v i=>C i∧R k w i∧v=c) [o] a w)
  (m:mwR P ops C R f (k+1) l e (a.put o.dst c) F):mwR P ops C R f k (o::l) (isV c::e) a F:=by
 refine⟨j,fun v=>?_⟩;refine Gp (k+1) l e a F _ p (fun t w b=>?_) (fun t w d b=>?_) (fun t w d q=>?_) (fun h=>by rw[h]at g; simp at g) m
 .split at b
  .rename_i h; exact n t w h
  .exact b
 .simpa [d,isV] using b
 .rw[aF d];exact q
end
end
section
theorem Qo{P:Program}(w:World)(base:Nat)(t o e:TypeId)(i:TypeInfo)(z:Value)(size p:Nat)(B:P.underlying t=some (.slice e))(q:P.info? e=some i)(K:i.zero=some z)
  (A:i.size=size) (H:i.bytes=p) (L:z.cells.size=size) (J:0<size) (v:Value) (n:Nat) (xs:List Value) (x:w.ownsRow base e size v n xs)
  (a:Addr) (m c:Nat) (d:List Value) (r:d.length=m*size) (s:∀j u,d[j]? =some u→w.cell? (a.add j)=some u) (F:∀u∈d,u.oneCell'=true)
  (G:n+m≤maxLen) (I:(n+m)*p≤140737488355328) (W:base≤w.heap.size):
  ∃v' C,(Builtin.append_ #[t,t] o #[v,.slice (some a) m c]).run P w=.ok v' C∧C.ownsRow base e size v' (n+m) (xs++d)∧C.ownsRow base e size v n xs∧w.grownBy C v.ownBlock∧
   ∀k,v'.ownBlock=some k→v.ownBlock=some k∨w.heap.size≤k:=by
 obtain⟨v',C,y,Z,r2,_⟩:=run_append_own (P:=P) w base t o e i z size p B q K A H L J v n xs x a m c d r s F G I W;refine⟨v',C,y,Z,?_,r2,?_⟩
 .refine⟨x.1,?_⟩;rcases x.2 with V|⟨g,cap,l,rfl,N,h,R,Q,T,E⟩
  .exact .inl V
  .by_cases D:n+m≤cap
   .subst A;have X:(n+m)*i.size≤cap*i.size:=eL _ D;have Y:(n+m)*i.size=n*i.size+m*i.size:=fH ..;have b:=xP (P:=P) w t o e i B q g 0 n cap l h a m c d r s F D (by omega);rw[y]at b;injection b with e1 e2
    subst e2;refine .inr ⟨g,cap,_,rfl,N,setRow_heap w g l _ e _ h,R,Q,?_,?_⟩
    .simp only[fF,bF,cL,dM,gK];omega
    .simp only[gL,cH];rw[rG (by simp; omega),kC,Nat.min_self];exact E
   .obtain⟨v2,U,b,M,S⟩:=run_append_arg_grows (P:=P) w t o e i z size p B q K A H L J ⟨g,0,none⟩ n cap xs x.1 (fun j u f=>by
     rw[Addr.add_lit,cell_of_row w g _ l e _ h];rw[←E,nK]at f
     split at f
     .simpa using f
     .cases f) a m c d r s (by omega) G I
    rw[y]at b;injection b with e1 e2
    subst e2;exact .inr ⟨g,cap,l,rfl,N,(S.block g (eT.1 h).1 (by simp)).trans h,R,Q,T,E⟩
 .intro k O;rcases x.2 with⟨rfl,rfl⟩|⟨g,cap,l,rfl,N,h,R,Q,T,E⟩
  .obtain⟨v2,U,b,M,S,_⟩:=run_append_own (P:=P) w w.heap.size t o e i z size p B q K A H L J _ 0 [] (World.ownsRow_nil w _ e size) a m c d r s F G I (aN _);rw[y]at b;injection b with e1 e2;subst e1;exact .inr (M.lt k O).1
  .by_cases D:n+m≤cap
   .subst A;have X:(n+m)*i.size≤cap*i.size:=eL _ D;have Y:(n+m)*i.size=n*i.size+m*i.size:=fH ..;have b:=xP (P:=P) w t o e i B q g 0 n cap l h a m c d r s F D (by omega);rw[y]at b;injection b with e1 e2
    subst e1;exact .inl O
   .obtain⟨v2,U,b,M,S⟩:=run_append_arg_grows (P:=P) w t o e i z size p B q K A H L J ⟨g,0,none⟩ n cap xs x.1 (fun j u f=>by
     rw[Addr.add_lit,cell_of_row w g _ l e _ h];rw[←E,nK]at f
     split at f
     .simpa using f
     .cases f) a m c d r s (by omega) G I
    rw[y]at b;injection b with e1 e2
    subst e1;exact .inr (M.lt k O).1
theorem jD{α:Type}{enc:α→List Value}{P:Program}(w:World){M:Array Oper}{N:List Oper}{o:Oper}{a:Act}{Q:Exit→Act→World→Prop}(Y:o.guard=none)(s x:Operand)(t:TypeId)
  (ho:o.op=.call {callee:=.builtin .append,args:=#[s,x],argTypes:=#[t,t]})
  (base:Nat) (e:TypeId) {z:Value} {size p:Nat} (Z:(P.info? e).map (fun i=>(i.zero,i.size,i.bytes))=some (some z,size,p)) (E:P.underlying t=some (.slice e)) (j0:z.cells.size=size) (L:0<size)
  (hk:∀a,(enc a).length=size) {v:Value} {l:List α} (n:Ow w base e size v enc l) (hs:a.eval s=v) {B:Nat} {v2:Value} {l2:List α} (D:Sl w B v2 enc l2) (hx:a.eval x=v2) (R:∀a∈l2,∀u∈enc a,u.oneCell'=true)
  (S:l.length+l2.length≤maxLen) (W:(l.length+l2.length)*p≤140737488355328) (V:base≤w.heap.size)
  (h:∀v' d,Ow d base e size v' enc (l++l2)→Ow d base e size v enc l→w.grownBy d v.ownBlock→(∀k,v'.ownBlock=some k→v.ownBlock=some k∨w.heap.size≤k)→wpList P M Q N (a.put o.dst v') d):wpList P M Q (o::N) a w:=by
 obtain⟨A,c,rfl,J,_,_⟩:=D;obtain⟨i0,C,d0,e0,g0⟩:=info_parts Z;have y:=cW size hk l2;have b0:∀u∈aO enc l2,u.oneCell'=true:=fun u f=>by
  obtain⟨r,D,f⟩:=List.mem_flatten.1 f;obtain⟨b,U,rfl⟩:=cP.1 D;exact R b U u f
 refine wpList_plain Y fun K T=>?_;have m:∃v' d,(Builtin.append_ #[t,t] o.type #[v,.slice A l2.length c]).run P w=.ok v' d∧Ow d base e size v' enc (l++l2)∧Ow d base e size v enc l∧w.grownBy d v.ownBlock∧(∀k,v'.ownBlock=some k→v.ownBlock=some k∨w.heap.size≤k):=by
  cases A with
  |some O=>
   obtain⟨v',d,m,F,G,H,I⟩:=Qo (P:=P) w base t o.type e i0 z size p E C d0 e0 g0 j0 L v l.length (aO enc l) n O l2.length c (aO enc l2) y (fun j u f=>by
    rcases J with h|⟨b,l0,e,_,X⟩
    .rw[h]at f; cases f
    .injection e with e
     subst e;rw[Addr.add_lit];exact X j u f) b0 S W V
   exact⟨v',d,m,by unfold Ow; rw[bF,kE]; exact F,G,H,I⟩
  |none=>
   have hn:aO enc l2=[]:=by
    rcases J with h|⟨b,l0,e,_⟩
    .exact h
    .cases e
   have hm:l2=[]:=by
    rcases Dn l2.length with q|q
    .exact iY q
    .have h2:=Nat.mul_pos q L;rw[hn]at y;simp at y;omega
   subst hm;refine⟨v,w,?_,by simpa using n,n,World.grownBy.refl _ _,fun _ h=>.inl h⟩;rcases n.2 with⟨rfl,_⟩|⟨g,cap,m0,rfl,_,_,a0,_⟩
   .simp[Builtin.append_,run_underlying E,sizeOf,typeInfo,C,Builtin.lenOf,Builtin.firstCells]
   .simp[Builtin.append_,run_underlying E,sizeOf,typeInfo,C,Builtin.lenOf,Builtin.firstCells,a0,storeCells]
 obtain⟨v',d,m,F,G,H,I⟩:=m;unfold Oper.wp;simp[execOp,ho,resolve,invoke,builtin,hs,hx,m,Result.andThen];exact T _ _ (h v' d F G H I)
def jJ(e:Nat)(S:Nat→Prop)(k:Nat)(w w':World):Prop:=if k=e then Chg S w w' else Bw' w w'
theorem cN{e k:Nat}{S:Nat→Prop}{w a:World}(h:k≠e)(b:Bw' w a):jJ e S k w a:=by unfold jJ; rw[aF h]; exact b
theorem pA{e:Nat}{S:Nat→Prop}{w a:World}(h:Chg S w a):jJ e S e w a:=by unfold jJ; rw[aK rfl]; exact h
theorem lQ{e k:Nat}{S:Nat→Prop}{w a:World}(h:jJ e S k w a):Chg S w a:=by
 unfold jJ at h
 split at h
 .exact h
 .exact Chg.of_below h
theorem pB{e k:Nat}{S:Nat→Prop}{w a:World}(h:jJ e S k w a)(b:k≠e):Bw' w a:=by unfold jJ at h; rwa [aF b]at h
theorem aCj(c:Value)(R:Nat→World→World→Prop)(k:Nat):∀i v w a,i≠k→isV c v w→R i w a→isV c v a:=fun _ _ _ _ _ h _=>h
theorem pv'{c:Value}{R:Nat→World→World→Prop}{k:Nat}:∀i v w a,i≠k→isV c v w→R i w a→isV c v a:=fun _ _ _ _ _ h _=>h
theorem eX{w a:World}{v:Value}(h:w.grownBy a v.ownBlock):Chg (fun i=>v.ownBlock=some i) w a:=⟨h.os,h.tape,h.output,h.size,fun k b c=>h.block k b fun e=>c e.symm⟩
end
end Go.Proofs.YtoncgpddjmgbfaaGreat
