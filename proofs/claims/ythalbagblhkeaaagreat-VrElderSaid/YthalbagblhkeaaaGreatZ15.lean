import Derived.Test.YthalbagblhkeaaaGreatZ04
import Derived.Test.YthalbagblhkeaaaGreatZ12
import Derived.Test.YthalbagblhkeaaaGreatZ14
namespace Go.Proofs.YthalbagblhkeaaaGreat
open Go.RowKit Go.Proofs.Tryz
set_option maxRecDepth 100000
set_option maxHeartbeats 12800000
set_option linter.unusedVariables false
set_option linter.unusedSimpArgs false
section
attribute [-go_sem] loadCellsFrom storeCells run_eql_struct run_neq_struct
attribute [local go_sem] bC
theorem aB7(x:En)(w:World):Calls prog 55 #[.agg x.cells.toArray] w fun e l=>e=.returned (.bool (fY x))∧Bw' w l:=by
 generalize r:w.alloc (.cells x.cells.toArray 93)=p;have f:Blk p w.heap.size 93 x.cells:=r▸Blk.new w 93 x.cells;have G:=kp (show Bw' w p from r▸ba' w _);have M:=f.cell 0;have N:=f.cell 1;have O:=f.cell 2;have Q:=f.cell 3;have U:=f.loadOff (P:=prog) 4 7 [.i x.k,.i x.h,.i x.i,.i x.m,.i x.j,.i x.u,.i x.t] rfl rfl;simp only[En.cells,aG,aK]at M N O Q;obtain⟨a,y⟩:=nm' (aF x.n 1 900000000);obtain⟨b,A⟩:=nm' (aF x.v 0 900000000);obtain⟨c,B⟩:=nm' (aF x.c 1 4);obtain⟨s,d⟩:=nm' (aF x.s 1 1000000);obtain⟨q,D⟩:∃q,decide (x.op=⟨0,0,0,0,0,0,0⟩)=q:=⟨_,rfl⟩
 obtain⟨z,E⟩:=nm' (decide (x.s=0));have S:∀w,Sem.run prog (binOp .eql 43 (.agg #[.i x.k,.i x.h,.i x.i,.i x.m,.i x.j,.i x.u,.i x.t]) (.agg #[.i 0,.i 0,.i 0,.i 0,.i 0,.i 0,.i 0])) w=.ok (.bool q) w:=fun w=>by
  rw[←D];exact Jw x.op ⟨0,0,0,0,0,0,0⟩ w
 have F:=kp (fun w=>by have:=oK.2.2.1 x.n 1 900000000 w; rw[y]at this; exact this);have H:=kp (fun w=>by have:=oK.2.2.1 x.v 0 900000000 w; rw[A]at this; exact this);have I:=kp (fun w=>by have:=oK.2.2.1 x.c 1 4 w; rw[B]at this; exact this);have J:=kp (fun w=>by have:=oK.2.2.1 x.s 1 1000000 w; rw[d]at this; exact this);have T:(x.s==0)=z:=E;obtain⟨g,C⟩:=nm' (decide (x.c=0));have R:(x.c==0)=g:=C;have L:fY x=(a&&(b&&if g=true then z&&q else c&&s)):=by
  unfold fY;rw[y,A,B,d,D,E,←C]
  by_cases h:x.c=0<;>simp[h]
 rw[L];generalize x.n=V at *;generalize x.v=W at *;generalize x.c=X at *;generalize x.s=Y at *;go_enter func55,ntmps55;have K:(a=false∧g=false)∨(a=false∧g=true)∨(a=true∧b=false∧g=false)∨(a=true∧b=false∧g=true)∨(a=true∧b=true∧g=false∧c=false)∨(a=true∧b=true∧g=false∧c=true∧s=false)∨(a=true∧b=true∧g=false∧c=true∧s=true)∨
   (a=true∧b=true∧g=true∧z=false)∨(a=true∧b=true∧g=true∧z=true∧q=false)∨(a=true∧b=true∧g=true∧z=true∧q=true):=by
  cases a<;>cases b<;>cases g<;>cases z<;>cases q<;>cases c<;>cases s<;>decide
 rcases K with⟨rfl,rfl⟩|⟨rfl,rfl⟩|⟨rfl,rfl,rfl⟩|⟨rfl,rfl,rfl⟩|⟨rfl,rfl,rfl,rfl⟩|⟨rfl,rfl,rfl,rfl,rfl⟩|⟨rfl,rfl,rfl,rfl,rfl⟩|⟨rfl,rfl,rfl,rfl⟩|⟨rfl,rfl,rfl,rfl,rfl⟩|⟨rfl,rfl,rfl,rfl,rfl⟩
 all_goals
  go_wp2_with (first |(with_reducible refine Calls.mono (F.o _) ?_; rintro e l ⟨rfl,d⟩; obtain rfl:=d.symm; clear d)|(with_reducible refine Calls.mono (H.o _) ?_; rintro e l ⟨rfl,d⟩; obtain rfl:=d.symm; clear d)|(with_reducible refine Calls.mono (I.o _) ?_; rintro e l ⟨rfl,d⟩; obtain rfl:=d.symm; clear d)|(with_reducible refine Calls.mono (J.o _) ?_; rintro e l ⟨rfl,d⟩; obtain rfl:=d.symm; clear d));go_ret;exact⟨rfl,G.o⟩
theorem Df{a:Int}{l:List En}(k:Nat)(b:k<l.length)(h:fA a (l.take k)=true):fA a l=(decide (l[k].n=a+k+1)&&fA (a+k+1) (l.drop (k+1))):=by
 induction k generalizing a l with
 |zero=>
  cases l with
  |nil=>simp at b
  |cons e l=>simp[fA]
 |succ k c=>
  cases l with
  |nil=>simp at b
  |cons e l=>
   simp only[qK,fA,bI,bP]at h;have:=c (a:=a+1) (l:=l) (by simpa using b) h.2;simp only[fA,dO,Et,h.1,decide_true,jF,this];rw[show a+1+(k:Int)+1=a+((k+1:Nat):Int)+1 by omega]
theorem Ke{a:Int}{l:List En}(k:Nat)(d:k<l.length)(h:fA a (l.take k)=true)(c:l[k].n=a+k+1):fA a (l.take (k+1))=true:=by
 have b:=Df (a:=a) (l:=l.take (k+1)) k (by simp; omega) (by rw[kN,oC (by omega)]; exact h);rw[b,Fb,c];simp[fA]
theorem vN:(∀(v:Value)(l:List En)(a:Int)(B:Nat)(w:World)(h:Sl w B v En.cells l)(p:B≤w.heap.size)(r:l.length≤1000000)(s:∀e∈l,inR e.n)(I:0≤a)(J:a≤900000000),Calls prog 54 #[v,.i a] w fun e F=>e=.returned (.bool (fA a l))∧Bw' w F)∧(∀(v:Value)(l:List En)(a:Int)(B:Nat)(w:World)(h:Sl w B v En.cells l)(p:B≤w.heap.size)(r:l.length≤1000000)(s:∀e∈l,inR e.n)(I:0≤a)(J:a≤900000000),Calls prog 100 #[v,.i a] w fun e F=>e=.returned (.bool (fA a l))∧Bw' w F):=by
 refine⟨?q0,?q1⟩
 all_goals
  intro v l a B w h p r s I J;obtain⟨A,c,rfl,R,V,Y⟩:=h;obtain⟨n,K⟩:=nm' l.length;rw[K]at r ⊢;have H:=k'3 R K s
  first |go_enter func54,ntmps54|go_enter func100,ntmps100
  go_wp2_with fail
  go_loopw [9] (fun i wr=>∃k:Nat,k≤n∧i=.i k∧fA a (l.take k)=true∧Bw' w wr) (fun i _=>n-(intOf i).toNat)
  case atStart=>exact⟨0,by omega,rfl,rfl,aL _ _⟩
  case round=>
   obtain⟨k,W,rfl,O,L⟩:=hrel;have m:=kp O;have d:=kp L
   by_cases X:k<n
   .have U:(k:Int)<(n:Int):=by omega
    have f:k<l.length:=by have:=H.b; omega
    obtain⟨b,b0,rfl,-,M,Q⟩:=dB (P:=prog) 11 En.cells eL (by omega) (H.a.below d.o p) k f;have q1:=M 0 _ rfl;have q0:=Q 0;change Sem.run _ _ wr=.ok _ wr at q0;simp only[cF]at q1;have y:=H.C _ (bK f);have G:=k'2 (Df (a:=a) k f m.o) (Ke (a:=a) k f m.o);generalize l[k]'f=x at *;have Z:=y.1;have a0:=y.2;have T:=kp y
    by_cases q:x.n=a+k+1
    .have N:(wrap64 (wrap64 (x.n-1)-k) != a)=false:=by rw[q]; unfold wrap64; simp; omega
     have j:=kp q;have g:=Blk.new wr 93 z'3;have S:=g.store (P:=prog) (cs':=x.cells) rfl (nI x);have D:=g.set x.cells;have E:=kp (d.o.trans (((cL (ba' wr (.cells z'3a 93)) (aD _) x.cells.toArray)).mono d.o.size));have z:=D.cell 0;change _=some (Value.i x.n)at z;go_wp2_with fail;go_roundw
     case rel=>exact⟨k+1,by omega,by go_num,G.B j.o,E.o⟩
     case measure=>simp[intOf]; omega
    .have N:(wrap64 (wrap64 (x.n-1)-k) != a)=true:=by unfold wrap64; simp; omega
     have j:=kp q;have g:=Blk.new wr 93 z'3;have S:=g.store (P:=prog) (cs':=x.cells) rfl (nI x);have D:=g.set x.cells;have E:=kp (d.o.trans (((cL (ba' wr (.cells z'3a 93)) (aD _) x.cells.toArray)).mono d.o.size));have z:=D.cell 0;change _=some (Value.i x.n)at z;go_wp2_with fail;go_ret;exact⟨by rw[G.a,aX j.o]; rfl,E.o⟩
   .obtain rfl:k=n:=by omega
    go_wp2_with fail;go_ret;have:=m.o;rw[cN (by have:=H.b; omega)]at this;exact⟨by rw[this]; rfl,d.o⟩
end
section
attribute [-go_sem] run_eql_struct run_neq_struct
end
section
attribute [-go_sem] run_eql_struct run_neq_struct
end
section
structure CT(W:World)(b:Bk)(c:Int)(out:List Bk)(X:Nat→Option Value)(W':World):Prop where
 chg:Bw' W W'
 res:∀u,X 11=some u→∃v',u=.tuple #[.agg #[.i b.a,.i b.o],v',.i c]∧Ow W' W.heap.size 150 2 v' Bk.cells out∧∀s,X 16=some (.pointer (some ⟨s,0,none⟩))→v'.ownBlock≠some s
 mv:∀z,X 12=some z→X 11=some z
 ex:∀z,X 14=some z→X 11=some (.tuple #[.agg #[.i b.a,.i b.o],z,.i c])
 as_:∀z,X 18=some z→X 14=some z
 var:∀z,X 16=some z→∃s,z=.pointer (some ⟨s,0,none⟩)∧W.heap.size≤s∧(X 17=none→Blk W' s 150 [.i 0,.i 0])∧((X 17).isSome=true→Blk W' s 150 b.cells)
 dep:X 16=none→X 17=none
section
variable {W W' W2:World}{b:Bk}{c:Int}{out:List Bk}{X:Nat→Option Value}{v z:Value}
theorem CT.other(h:CT W b c out X W')(j:Nat)(v:Value)(a:j≠11)(g:j≠12)(e:j≠14)(d:j≠16)(f:j≠17)(i:j≠18):CT W b c out (bD X j v) W':=by
 refine⟨h.chg,?_,?_,?_,?_,?_,?_⟩
 .rw[aR (bL a),aR (bL d)]; exact h.res
 .rw[aR (bL g),aR (bL a)]; exact h.mv
 .rw[aR (bL e),aR (bL a)]; exact h.ex
 .rw[aR (bL i),aR (bL e)]; exact h.as_
 .rw[aR (bL d),aR (bL f)]; exact h.var
 .rw[aR (bL d),aR (bL f)]; exact h.dep
theorem CT.blk_lt(h:CT W b c out X W'){s:Nat}(f:X 16=some (.pointer (some ⟨s,0,none⟩))):s<W'.heap.size:=by
 obtain⟨g,e,_,a,d⟩:=h.var _ f
 cases e
 cases hx:X 17 with
 |none=>exact (a hx).lt
 |some u=>exact (d (by rw[hx]; rfl)).lt
theorem CT.call(h:CT W b c out X W')(l:X 11=none)(m:Ow W2 W'.heap.size 150 2 v Bk.cells out)(i:Bw' W' W2):CT W b c out (bD X 11 (.tuple #[.agg #[.i b.a,.i b.o],v,.i c])) W2:=by
 refine⟨h.chg.on i,fun u n=>?_,fun z d=>?_,fun z d=>?_,h.as_,fun z d=>?_,h.dep⟩
 .cases n;refine⟨v,rfl,m.mono h.chg.size,fun s g e=>?_⟩;rw[aR (by decide)]at g;have:=h.blk_lt g;have:=(m.lt e).1;omega
 .rw[aR (by decide)]at d; have:=h.mv z d; rw[l]at this; cases this
 .rw[aR (by decide)]at d; have:=h.ex z d; rw[l]at this; cases this
 .rw[aR (by decide)]at d;obtain⟨s,e,g,j,k⟩:=h.var z d;rw[aR (by decide)];exact⟨s,e,g,fun f=>(j f).below i (j f).lt,fun f=>(k f).below i (k f).lt⟩
theorem CT.move(h:CT W b c out X W')(a:X 11=some z):CT W b c out (bD X 12 z) W':=
 ⟨h.chg,h.res,fun y d=>by cases d; rw[aR (by decide)]; exact a,h.ex,h.as_,h.var,h.dep⟩
theorem CT.extr(h:CT W b c out X W')(f:X 14=none)(e:X 11=some (.tuple #[.agg #[.i b.a,.i b.o],z,.i c])):CT W b c out (bD X 14 z) W':=by
 refine⟨h.chg,h.res,h.mv,fun y d=>?_,fun y d=>?_,h.var,h.dep⟩
 .cases d; rw[aR (by decide)]; exact e
 .rw[aR (by decide)]at d; have:=h.as_ y d; rw[f]at this; cases this
theorem CT.assign(h:CT W b c out X W')(a:X 14=some z):CT W b c out (bD X 18 z) W':=
 ⟨h.chg,h.res,h.mv,h.ex,fun y d=>by cases d; rw[aR (by decide)]; exact a,h.var,h.dep⟩
theorem CT.alloc(h:CT W b c out X W')(j:X 16=none):CT W b c out (bD X 16 (.pointer (some ⟨W'.heap.size,0,none⟩))) (W'.alloc (.cells #[.i 0,.i 0] 150)):=by
 have i:=h.dep j;have d:=ba' W' (.cells #[.i 0,.i 0] 150);refine⟨h.chg.on d,fun u g=>?_,h.mv,h.ex,h.as_,fun z m=>?_,fun a=>by cases a⟩
 .rw[aR (by decide)]at g;obtain⟨v',e,f,_⟩:=h.res u g;refine⟨v',e,f.below d,fun s l k=>?_⟩
  cases l;have:=(f.lt k).2;omega
 .cases m;rw[aR (by decide)];exact⟨_,rfl,h.chg.size,fun _=>Blk.new W' _ [.i 0,.i 0],fun a=>by rw[i]at a; cases a⟩
theorem CT.store(h:CT W b c out X W'){s:Nat}(p:X 17=none)(d:X 16=some (.pointer (some ⟨s,0,none⟩))):CT W b c out (bD X 17 v) ((W'.setCell ⟨s,0,none⟩ (.i b.a)).setCell ⟨s,1,none⟩ (.i b.o)):=by
 obtain⟨y,e,k,n,_⟩:=h.var _ d
 cases e;have r:=n p;have j:=((Chg.refl (fun i=>i=s) W').setCell (.inr rfl) 0 (.i b.a)).setCell (.inr rfl) 1 (.i b.o);refine⟨h.chg.trans (j.below (fun i e=>e▸k) h.chg.size),fun u m=>?_,h.mv,h.ex,h.as_,fun z g=>?_,fun f=>by rw[aR (by decide),d]at f; cases f⟩
 .rw[aR (by decide)]at m;obtain⟨v',e,x,l⟩:=h.res u m;exact⟨v',e,x.chg j fun i q e=>l s d (e▸q),by rw[aR (by decide)]; exact l⟩
 .rw[aR (by decide)]at g;rw[d]at g
  cases g;exact⟨s,rfl,k,fun f=>(by cases f),fun _=>(r.setCell 0 _).setCell 1 _⟩
end
structure CM(W:World)(nx:Int)(b:Bk)(n m:Nat)(X:Nat→Option Value)(W':World):Prop where
 chg:Bw' W W'
 ws:∀u,X 8=some u→Ow W' W.heap.size 3 1 u i1 (List.replicate n 0)∧∀u',X 11=some u'→Apt u u'
 ls:∀u,X 11=some u→Ow W' W.heap.size 3 1 u i1 (List.replicate m 0)
 bd:∀z,X 12=some z→∃u u',X 8=some u∧X 11=some u'∧z=.agg #[.i nx,.i b.a,.i b.o,u,u']
 var:∀z,X 13=some z→∃s,z=.pointer (some ⟨s,0,none⟩)∧W.heap.size≤s∧Blk W' s 152 z'5
section
variable {W W' W2:World}{nx:Int}{b:Bk}{n m:Nat}{X:Nat→Option Value}{v z:Value}
theorem CM.other(h:CM W nx b n m X W')(j:Nat)(v:Value)(c:j≠8)(a:j≠11)(d:j≠12)(e:j≠13):CM W nx b n m (bD X j v) W':=by
 refine⟨h.chg,?_,?_,?_,?_⟩
 .rw[aR (bL c),aR (bL a)]; exact h.ws
 .rw[aR (bL a)]; exact h.ls
 .rw[aR (bL d),aR (bL c),aR (bL a)]; exact h.bd
 .rw[aR (bL e)]; exact h.var
theorem CM.grow(h:CM W nx b n m X W')(a:Bw' W' W2):CM W nx b n m X W2:=
 ⟨h.chg.on a,fun u c=>⟨(h.ws u c).1.below a,(h.ws u c).2⟩,fun u c=>(h.ls u c).below a,h.bd,fun z g=>by
  obtain⟨s,e,f,d⟩:=h.var z g;exact⟨s,e,f,d.below a d.lt⟩⟩
theorem CM.first(h:CM W nx b n m X W')(j:X 8=none)(k:Bw' W' W2)(d:Ow W2 W'.heap.size 3 1 v i1 (List.replicate n 0)):CM W nx b n m (bD X 8 v) W2:=by
 have c:=h.grow k;refine⟨c.chg,fun u a=>?_,c.ls,fun z f=>?_,c.var⟩
 .cases a;refine⟨d.mono h.chg.size,fun g e i l o=>?_⟩;rw[aR (by decide)]at e;have:=((h.ls g e).lt o).2;have:=(d.lt l).1;omega
 .rw[aR (by decide)]at f;obtain⟨u,g,a,_⟩:=h.bd z f;rw[j]at a
  cases a
theorem CM.second(h:CM W nx b n m X W')(f:X 11=none)(g:Bw' W' W2)(d:Ow W2 W'.heap.size 3 1 v i1 (List.replicate m 0)):CM W nx b n m (bD X 11 v) W2:=by
 have c:=h.grow g;refine⟨c.chg,fun u a=>⟨(c.ws u a).1,fun o l i j k=>?_⟩,fun u a=>by cases a; exact d.mono h.chg.size,fun z e=>?_,c.var⟩
 .cases l;rw[aR (by decide)]at a;have:=((h.ws u a).1.lt j).2;have:=(d.lt k).1;omega
 .rw[aR (by decide)]at e;obtain⟨u,o,_,a,_⟩:=h.bd z e;rw[f]at a
  cases a
theorem CM.build{u c:Value}(h:CM W nx b n m X W')(e:X 8=some u)(d:X 11=some c):CM W nx b n m (bD X 12 (.agg #[.i nx,.i b.a,.i b.o,u,c])) W':=
 ⟨h.chg,h.ws,h.ls,fun z f=>by cases f; exact⟨u,c,e,d,rfl⟩,h.var⟩
theorem CM.alloc(h:CM W nx b n m X W'):CM W nx b n m (bD X 13 (.pointer (some ⟨W'.heap.size,0,none⟩))) (W'.alloc (.cells z'5a 152)):=by
 have a:=h.grow (ba' W' (.cells z'5a 152));exact⟨a.chg,a.ws,a.ls,a.bd,fun z c=>by cases c; exact⟨_,rfl,h.chg.size,Blk.new W' _ z'5⟩⟩
end
theorem yI(n:Nat):(madeCells #[Value.i 0] n).toList=aM i1 (List.replicate n 0):=by
 rw[pK];unfold madeCells iv;rw[List.map_replicate,Array.toList_map,Array.toList_range,List.eq_replicate_iff];refine⟨by simp,fun z a=>?_⟩;obtain⟨k,_,rfl⟩:=cX.1 a;simp[Nat.mod_one]
structure CA(W:World)(base g:Nat)(p:HpV)(ps:List ObV)(q:ObV)(X:Nat→Option Value)(W':World):Prop where
 chg:Chg (fun i=>some i=p.ov.ownBlock∨i=g) W W'
 two:∀u,X 8=some u→∃bb,u=.slice (some ⟨bb,0,none⟩) 1 1∧W.heap.size≤bb∧Blk W' bb 152 q.cells
 row:X 9=none→Ow W' base 152 5 p.ov ObV.cells ps
 app:∀u,X 9=some u→Ow W' base 152 5 u ObV.cells (ps++[q])
 no:X 14=none→Blk W' g 208 p.cells
 st:(X 14).isSome=true→∃u,X 9=some u∧Blk W' g 208 (HpV.cells ⟨p.x,u,p.fv⟩)
 dep:(X 9).isSome=true→(X 6).isSome=true
section
variable {W W' W2:World}{base g:Nat}{p:HpV}{ps:List ObV}{q:ObV}{X:Nat→Option Value}{v z:Value}
theorem CA.other(h:CA W base g p ps q X W')(j:Nat)(v:Value)(d:j≠8)(a:j≠9)(b:j≠14):CA W base g p ps q (bD X j v) W':=by
 refine⟨h.chg,?_,?_,?_,?_,?_,?_⟩
 .rw[aR (bL d)]; exact h.two
 .rw[aR (bL a)]; exact h.row
 .rw[aR (bL a)]; exact h.app
 .rw[aR (bL b)]; exact h.no
 .rw[aR (bL b),aR (bL a)]; exact h.st
 .rw[aR (bL a)];intro e
  by_cases c:6=j
  .subst c; unfold bD; rw[aE rfl]; rfl
  .rw[aR c]; exact h.dep e
theorem CA.early(h:CA W base g p ps q X W')(b:X 9=none):X 14=none:=by
 cases hx:X 14 with
 |none=>rfl
 |some u=>
  obtain⟨z,a,_⟩:=h.st (by rw[hx]; rfl);rw[b]at a
  cases a
theorem CA.early6(h:CA W base g p ps q X W')(a:X 6=none):X 14=none:=by
 refine h.early ?_
 cases hx:X 9 with
 |none=>rfl
 |some u=>have:=h.dep (by rw[hx]; rfl); rw[a]at this; cases this
theorem CA.build(h:CA W base g p ps q X W'){d:Array Value}(f:d=q.cells.toArray):CA W base g p ps q (bD X 8 (.slice (some ⟨W'.heap.size,0,none⟩) 1 1)) (W'.alloc (.cells d 152)):=by
 subst f;have b:=ba' W' (.cells q.cells.toArray 152);refine⟨h.chg.then b,fun u c=>?_,fun a=>(h.row a).below b,fun u c=>(h.app u c).below b,fun a=>(h.no a).below b (h.no a).lt,fun a=>?_,h.dep⟩
 .cases c;exact⟨_,rfl,h.chg.size,Blk.new W' _ q.cells⟩
 .obtain⟨u,c,e⟩:=h.st a;exact⟨u,c,e.below b e.lt⟩
theorem CA.append{Wn:World}(h:CA W base g p ps q X W')(x:∀i,some i=p.ov.ownBlock→i<W.heap.size)(j:X 9=none)(l:(X 6).isSome=true)(s:Ow Wn base 152 5 v ObV.cells (ps++[q]))(n:W'.grownBy Wn p.ov.ownBlock):CA W base g p ps q (bD X 9 v) Wn:=by
 have d:=fZ n;have r:∀{b t k},Blk W' b t k→t≠152→¬p.ov.ownBlock=some b:=fun m z=>(h.row j).ne_blk m (fun e=>z e.symm);refine⟨h.chg.trans d fun i _ e=>.inl e.symm,fun u c=>?_,fun a=>(by cases a),fun u c=>by cases c; exact s,fun a=>(h.no a).chg d (r (h.no a) (by decide)),fun a=>?_,fun _=>l⟩
 .rw[aR (by decide)]at c;obtain⟨f,e,y,o⟩:=h.two u c;exact⟨f,e,y,o.chg d fun e=>by have:=x f e.symm; omega⟩
 .rw[aR (by decide),h.early j]at a
  cases a
theorem CA.store(h:CA W base g p ps q X W')(l:X 14=none)(f:X 9=some z):CA W base g p ps q (bD X 14 v) (W'.setCell ⟨g,1,none⟩ z):=by
 have d:=h.no l;have c:=(Chg.refl (fun i=>i=g) W').setCell (.inr rfl) 1 z;refine⟨h.chg.trans c fun i _ e=>.inr e,fun u a=>?_,fun b=>?_,fun u a=>?_,fun b=>(by cases b),fun _=>⟨z,by rw[aR (by decide)]; exact f,d.setCell 1 z⟩,h.dep⟩
 .rw[aR (by decide)]at a;obtain⟨k,e,n,j⟩:=h.two u a;exact⟨k,e,n,j.chg c (j.ne d (by decide))⟩
 .rw[aR (by decide),f]at b; cases b
 .rw[aR (by decide)]at a;exact (h.app u a).chg c fun i m e=>(h.app u a).ne_blk d (by decide) (e▸m)
end
theorem Hb.grew{w W W':World}{base g r:Nat}{p p':HpV}{ps:List ObV}{o:Opn}{q:ObV}{F:List Bk}(h:Hb w base g p ps o W)(c:Chg (fun i=>some i=p.ov.ownBlock∨i=g) W W')(H:Blk W' g 208 p'.cells)
  (I:Ow W' base 152 5 p'.ov ObV.cells (ps++[q])) (m:Rws W base (ps++[q])) (x:Ow W r 150 2 p'.fv Bk.cells F) (G:base≤r):bZ W' (w.heap.size+1) 0 0∧Bw base w W'∧Hx W' base g (w.heap.size+1) p' F (ps++[q]):=by
 have E:base≤W.heap.size:=aB h.h0 h.bw.bel.size;have z:∀{b t d},Blk W b t d→152≠t→t≠208→¬(some b=p.ov.ownBlock∨b=g):=fun s f j e=>by
  rcases e with e|e
  .exact h.wk.obs.tagF s f e
  .exact s.ne h.wk.blk j e
 have n:∀{D:Nat}{t:TypeId}{k:Nat}{α:Type}{enc:α→List Value}{v:Value}{l:List α},Ow W D t k v enc l→152≠t→t≠208→∀i,v.ownBlock=some i→¬(some i=p.ov.ownBlock∨i=g):=fun C f j i a e=>by
  rcases e with e|e
  .exact h.wk.obs.apt C f i e.symm a
  .exact C.tagF h.wk.blk j (e▸a.symm)
 have B:bZ W' (w.heap.size+1) 0 0:=Blk.chg h.res c (z h.res (by decide) (by decide));refine⟨B,⟨h.bw.bel.trans (c.below (fun i e=>?_) E),fun i d y=>(h.bw.keep i d y).chg c (z (h.bw.keep i d y) (by decide) (by decide))⟩,H,h.wk.lo,B,aB h.h0 (Nat.le_succ _),OR.of_ow I fun _ h _=>h,m.chg c fun q A i e=>⟨fun a=>n (m.row q A).1 (by decide) (by decide) i a e,fun a=>n (m.row q A).2 (by decide) (by decide) i a e⟩,
  OR.of_ow (x.chg c (n x (by decide) (by decide))) fun _ h _=>aB G h⟩
 rcases e with e|rfl
 .exact (h.wk.obs.lt e.symm).1
 .exact h.wk.lo
theorem Uv{α:Type}{enc:α→List Value}{w:World}{b:Nat}{t:TypeId}{x:α}(h:Blk w b t (enc x)):Sl w (b+1) (.slice (some ⟨b,0,none⟩) 1 1) enc [x]:=by
 refine⟨_,_,rfl,.inr ⟨b,0,rfl,by omega,fun j u a=>?_⟩,aD _,by unfold maxLen; omega⟩;rw[hY,h.cell];simpa [aM] using a
theorem Kg{h:Hp}(H:HOk h)(n k:Int)(d:¬bX n k<0):∃c b out,gZ h.order (bX n k) h.free=(c,b,out)∧(c≠0→(if bX n k≤h.order then iY (bX n k) h.free else none)=none)∧(c=0→(if bX n k≤h.order then iY (bX n k) h.free else none)=some (b,out)):=by
 unfold gZ;rw[(lE H.reg).2 H.free,bY (show 0≤bX n k by omega)]
 by_cases a:bX n k≤h.order
 .rw[bY a];simp only[aE a,Bool.and_self,if_true]
  cases ht:iY (bX n k) h.free with
  |none=>exact⟨40,_,_,rfl,fun _=>rfl,fun h=>by cases h⟩
  |some x=>exact⟨0,x.1,x.2,rfl,fun h=>absurd rfl h,fun _=>rfl⟩
 .rw[aC a,aX a,aC (by simp)];exact⟨1,_,_,rfl,fun _=>rfl,fun h=>by cases h⟩
theorem Uw{base g:Nat}{p:HpV}{ps:List ObV}(o:Opn)(w:World)(h:Wk w base g 208 p ps)(hb:base≤w.heap.size)(H:HOk p.x):
  Calls prog 209 #[.pointer (some ⟨g,0,none⟩),.agg o.cells.toArray] w fun e w'=>e=.returned (.agg #[.i (fP p.x o.n o.m).2.1,.i (fP p.x o.n o.m).2.2])∧Wo base g (fP p.x o.n o.m).1 w w':=by
 show Calls _ _ #[_,.agg #[.i o.k,.i o.h,.i o.i,.i o.n,.i o.m,.i o.v,.i o.t]] _ _;have a5:ps.length≤256:=by have:=H.len.1; have:=bG List.length h.eq; rw[cW]at this; omega
 have p3:=Hb.of o h hb;obtain⟨W2,m6⟩:=nm' ((w.alloc (.cells #[.i o.k,.i o.h,.i o.i,.i o.n,.i o.m,.i o.v,.i o.t] 43)).alloc (.cells #[.i 0,.i 0] 46));rw[m6]at p3;have U:=kp p3;have HE:=kp h.eq;have HH:=kp H;have z3:=kp a5;obtain⟨R,hR⟩:=nm' (fP p.x o.n o.m);rw[hR];have HR:=kp hR;have o3:=U.o.op.c3;have o4:=U.o.op.c4;have q2:=U.o.hx.hp.c2;clear a5 p3 h H hb hR;go_enter func209,ntmps209;go_wp2_with fail;refine ms' (Cp o.n o.m W2) ?_
 by_cases hn:bX o.n o.m<0
 .obtain rfl:R=(p.x,53,0):=by rw[←HR.o]; unfold fP; rw[aE hn]
  clear o3 o4 q2;go_wp2_with fail;refine mb' (mR 53 _) fun w4 b0=>?_;have Y:=kp (U.o.below b0);have E:=kp Y.o.res;clear b0;have S:=Blk.cell E.o 0;have T:=Blk.cell E.o 1;have y0:=Blk.frozen E.o 0;have y1:=Blk.frozen E.o 1;simp only[aG,aK]at S T;have O:=kp ((Blk.setCell E.o 0 (.i (53))).setCell 1 (.i (0)));go_wp2_with fail;clear S T y0 y1;have P:=O.o.cell 0;have Q:=O.o.cell 1;simp only[aH,aI,aG,aK]at P Q;exact aU (v:=.agg #[.i (53),.i (0)]) (by simp[results,aCx,go_sem,P,Q]) rfl ⟨rfl,Y.o.o 53 0⟩
 by_cases hx:1000000<p.x.next
 .obtain rfl:R=(p.x,2,0):=by rw[←HR.o]; unfold fP; rw[aC hn,aE hx]
  go_wp2_with fail;refine mb' (mR 2 _) fun w4 b0=>?_;have Y:=kp (U.o.below b0);have E:=kp Y.o.res;clear b0 o3 o4 q2;have S:=Blk.cell E.o 0;have T:=Blk.cell E.o 1;have y0:=Blk.frozen E.o 0;have y1:=Blk.frozen E.o 1;simp only[aG,aK]at S T;have O:=kp ((Blk.setCell E.o 0 (.i (2))).setCell 1 (.i (0)));go_wp2_with fail;clear S T y0 y1;have P:=O.o.cell 0;have Q:=O.o.cell 1;simp only[aH,aI,aG,aK]at P Q;exact aU (v:=.agg #[.i (2),.i (0)]) (by simp[results,aCx,go_sem,P,Q]) rfl ⟨rfl,Y.o.o 2 0⟩
 obtain⟨c,b,out,m5,q4,y4⟩:=Kg HH.o o.n o.m hn;have e4:=kp (show R=match (if bX o.n o.m≤p.x.order then iY (bX o.n o.m) p.x.free else none) with
  |none=>(p.x,50,0)
  |some (b,free)=>({p.x with obs:=p.x.obs++[⟨p.x.next,b,List.replicate o.n.toNat 0,List.replicate o.m.toNat 0⟩],free:=free,next:=p.x.next+1},0,p.x.next) by rw[←HR.o]; unfold fP; rw[aC hn,aC hx]; rfl)
 have HC:=k'2 q4 y4;have g4:=kp (fun(W':World)(hb:Bw' W2 W')=>by
  have:=To p.x.order (bX o.n o.m) p.fv W2.heap.size p.x.free W' ((OR.sl U.o.wk.free).below hb (aD _)) hb.size (by have:=HH.o.len.2; omega);rw[m5]at this;exact this)
 obtain⟨nd,l3⟩:=nm' (bX o.n o.m);have j0:=k'2 l3 (oP hn);have b7:=kp hx;rw[l3]at hn g4 ⊢;clear q4 y4 m5 HR;go_wp2_with fail;clear hn hx o3 o4 q2 l3;refine fR 20 (CT W2 b c out) (fun _=>fK) (by kernel_rfl) (by kernel_rfl) ⟨bR (aL _ _),(fun _ h=>by cases h),(fun _ h=>by cases h),(fun _ h=>by cases h),(fun _ h=>by cases h),(fun _ h=>by cases h),fun _=>rfl⟩ ?_
 iterate 11 (refine bO ?_; apply Exists.intro)
 iterate 2 (refine bS eM ?_)
 refine bO ?_; apply Exists.intro;refine bS eM ?_;refine bO ?_; apply Exists.intro
 iterate 3 (refine bS eM ?_)
 refine bO ?_; apply Exists.intro;refine dR ⟨?pers,?walk⟩
 case walk=>
  iterate 11
   apply Ug (by kernel_rfl) (by intro t w h; cases h; exact trivial) rfl
   .intro X W' f l y j r; have hh:=cI.of (U.o.wk.blk.below f.chg U.o.wk.blk.lt); have q0:=hh.c0; have q7:=hh.c7; clear hh; go_wp2_with fail;exact⟨rfl,_,rfl,f.other _ _ (by decide) (by decide) (by decide) (by decide) (by decide) (by decide),aV,rfl⟩
   simp only[Act.put,aN,aH,aI,aT,aW]
  refine⟨fun X W' f l y j r=>?_,fun y5=>?_⟩
  .go_wp2_with fail;refine (g4.o W' f.chg).mono ?_;rintro e w5 ⟨v5,rfl,m2,q6⟩;go_wp2_with fail;exact⟨rfl,_,rfl,f.call l m2 q6,aV,trivial⟩
  simp only[Act.put,aN,aH,aI,aT,aW];refine⟨fun X W' f l y j r=>?_,fun N=>?_⟩
  .have a0:X 11=some y5:=j 11 39 y5 (by kernel_rfl) (by kernel_rfl) (bT (by kernel_rfl)) rfl;go_wp2_with fail;exact⟨rfl,_,rfl,f.move a0,aV,trivial⟩
  simp only[Act.put,aN,aH,aI,aT,aW];apply Ug (by kernel_rfl) (by intro t w h; cases h; exact trivial) rfl
  .intro X W' f l y j r;have d1:X 12=some N:=j 12 27 N (by kernel_rfl) (by kernel_rfl) (bT (by kernel_rfl)) rfl;obtain⟨v',rfl,-⟩:=f.res N (f.mv N d1);go_wp2_with fail;exact⟨rfl,_,rfl,f.other _ _ (by decide) (by decide) (by decide) (by decide) (by decide) (by decide),aV,rfl⟩
  simp only[Act.put,aN,aH,aI,aT,aW];refine⟨fun X W' f l y j r=>?_,fun l0=>?_⟩
  .have d1:X 12=some N:=j 12 27 N (by kernel_rfl) (by kernel_rfl) (bT (by kernel_rfl)) rfl;have a0:=f.mv N d1;obtain⟨v',rfl,-⟩:=f.res N a0;go_wp2_with fail;exact⟨rfl,_,rfl,f.extr l a0,aV,trivial⟩
  simp only[Act.put,aN,aH,aI,aT,aW];apply Ug (by kernel_rfl) (by intro t w h; cases h; exact trivial) rfl
  .intro X W' f l y j r;have d1:X 12=some N:=j 12 27 N (by kernel_rfl) (by kernel_rfl) (bT (by kernel_rfl)) rfl;obtain⟨v',rfl,-⟩:=f.res N (f.mv N d1);go_wp2_with fail;exact⟨rfl,_,rfl,f.other _ _ (by decide) (by decide) (by decide) (by decide) (by decide) (by decide),aV,rfl⟩
  simp only[Act.put,aN,aH,aI,aT,aW];refine⟨fun X W' f l y j r=>?_,fun y2=>?_⟩
  .go_wp2_with fail;exact⟨rfl,_,rfl,f.alloc l,aV,trivial⟩
  simp only[Act.put,aN,aH,aI,aT,aW];refine⟨fun X W' f l y j r=>?_,fun l7=>?_⟩
  .have l4:X 16=some y2:=j 16 6 y2 (by kernel_rfl) (by kernel_rfl) (bT (by kernel_rfl)) rfl;obtain⟨s,rfl,hs,h0,-⟩:=f.var y2 l4;have A:=h0 l;have s0:=A.cell 0;have s1:=A.cell 1;have f0:=A.frozen 0;have f1:=A.frozen 1;simp only[aG,aK]at s0 s1;have HS:=kp (f.store (v:=undef) l l4);clear f j r y A h0 hs;go_wp2_with fail;exact⟨rfl,undef,rfl,HS.o,aV,trivial⟩
  simp only[Act.put,aT,aW];refine⟨fun X W' f l y j r=>?_,fun z5=>?_⟩
  .have j6:X 14=some l0:=j 14 41 l0 (by kernel_rfl) (by kernel_rfl) (bT (by kernel_rfl)) rfl;go_wp2_with fail;exact⟨rfl,_,rfl,f.assign j6,aV,trivial⟩
  simp only[Act.put,aN,aH,aI,aT,aW];apply Ug (by kernel_rfl) (by intro t w h; cases h; exact trivial) rfl
  .intro X W' f l y j r;go_wp2_with fail;exact⟨rfl,_,rfl,f.other _ _ (by decide) (by decide) (by decide) (by decide) (by decide) (by decide),aV,rfl⟩
  simp only[Act.put,aN,aH,aI,aT,aW];intro W5 f r;clear r;simp only[dO,List.drop_nil];obtain rfl:l0=z5:=by have:=f.as_ z5 rfl; cases this; rfl
  obtain⟨v5,e5,m2,l5⟩:=f.res _ (f.ex l0 rfl);obtain rfl:l0=v5:=by cases e5; rfl
  obtain⟨s,rfl,hs,-,p4⟩:=f.var y2 rfl;have y3:=kp (p4 rfl);have d4:=k'3 m2 (l5 s rfl) hs;have W:=kp (U.o.below f.chg);clear f e5 m2 l5 hs p4
  by_cases hc:c=0
  rotate_left
  .have gc:(c==0)=false:=by simp[hc]
   obtain rfl:R=(p.x,50,0):=by rw[e4.o,HC.a hc]
   clear hc;go_wp2_with fail;refine mb' (mR 50 _) fun w4 b0=>?_;have Y:=kp (W.o.below b0);have E:=kp Y.o.res;clear b0;have S:=Blk.cell E.o 0;have T:=Blk.cell E.o 1;have y0:=Blk.frozen E.o 0;have y1:=Blk.frozen E.o 1;simp only[aG,aK]at S T;have O:=kp ((Blk.setCell E.o 0 (.i (50))).setCell 1 (.i (0)));go_wp2_with fail;clear S T y0 y1;have P:=O.o.cell 0;have Q:=O.o.cell 1;simp only[aH,aI,aG,aK]at P Q;exact aU (v:=.agg #[.i (50),.i (0)]) (by simp[results,aCx,go_sem,P,Q]) rfl ⟨rfl,Y.o.o 50 0⟩
  subst hc;have g6:=kp (show R=({p.x with obs:=p.x.obs++[⟨p.x.next,b,List.replicate o.n.toNat 0,List.replicate o.m.toNat 0⟩],free:=out,next:=p.x.next+1},0,p.x.next) by rw[e4.o,HC.B rfl]);obtain⟨K,d5⟩:∃K:Nat,o.n=K:=⟨o.n.toNat,by have:=j0.o; omega⟩
  obtain⟨J,b5⟩:∃J:Nat,o.m=J:=⟨o.m.toNat,by have:=j0.o; omega⟩
  have V:=k'2 d5 b5;obtain⟨i0,z4,o5,p5,q5⟩:=info_parts mL;have Z:=k'4 z4 o5 p5 q5;go_wp2_with fail;clear d5 b5 z4 o5 p5 q5;refine fR 14 (CM W5 p.x.next b K J) (fun _=>fK) (by kernel_rfl) (by kernel_rfl) ⟨bR (aL _ _),(fun _ h=>by cases h),(fun _ h=>by cases h),(fun _ h=>by cases h),fun _ h=>by cases h⟩ ?_
  iterate 8 (refine bO ?_; apply Exists.intro)
  refine bS eM ?_
  iterate 2 (refine bO ?_; apply Exists.intro)
  iterate 3 (refine bS eM ?_)
  refine dR ⟨?pers2,?walk2⟩
  case walk2=>
   iterate 8
    apply Ug (by kernel_rfl) (by intro t w h; cases h; exact trivial) rfl
    .intro X W' f l y j r; have hh:=W.o.below f.chg; have q2:=hh.hx.hp.c2; have o3:=hh.op.c3; have A:=y3.o.below f.chg y3.o.lt; have s0:=A.cell 0; have s1:=A.cell 1; simp only[Bk.cells,aG,aK]at s0 s1; clear hh A; go_wp2_with fail;exact⟨rfl,_,rfl,f.other _ _ (by decide) (by decide) (by decide) (by decide),aV,rfl⟩
    simp only[Act.put,aN,aH,aI,aT,aW]
   refine⟨fun X W' f l y j r=>?_,fun v8=>?_⟩
   .go_wp2_with (at_make; refine wpList_make_full _ rfl _ _ 33 rfl W'.heap.size 3 i0 (.i 0) 1 lT Z.a Z.b Z.c .i64 .i64 _ _ K rfl rfl V.a V.a ?_ ?_ (aD _) ?_)
    .rw[Z.D]; have:=j0.o; have:=V.o; omega
    .have:=j0.o; have:=V.o; unfold maxLen; omega
    intro w6 o1 d3;rw[yI]at o1;go_wp2_with fail;exact⟨rfl,_,rfl,f.first l ((aL _ _).grown d3 (aD _) (by simp)) (by unfold Ow; rw[qL]; exact o1),aV,trivial⟩
   simp only[Act.put,aN,aH,aI,aT,aW]
   iterate 2
    apply Ug (by kernel_rfl) (by intro t w h; cases h; exact trivial) rfl
    .intro X W' f l y j r; have o4:=(W.o.below f.chg).op.c4; go_wp2_with fail;exact⟨rfl,_,rfl,f.other _ _ (by decide) (by decide) (by decide) (by decide),aV,rfl⟩
    simp only[Act.put,aN,aH,aI,aT,aW]
   refine⟨fun X W' f l y j r=>?_,fun m0=>?_⟩
   .go_wp2_with (at_make; refine wpList_make_full _ rfl _ _ 33 rfl W'.heap.size 3 i0 (.i 0) 1 lT Z.a Z.b Z.c .i64 .i64 _ _ J rfl rfl V.B V.B ?_ ?_ (aD _) ?_)
    .rw[Z.D]; have:=j0.o; have:=V.o; omega
    .have:=j0.o; have:=V.o; unfold maxLen; omega
    intro w6 o1 d3;rw[yI]at o1;go_wp2_with fail;exact⟨rfl,_,rfl,f.second l ((aL _ _).grown d3 (aD _) (by simp)) (by unfold Ow; rw[qL]; exact o1),aV,trivial⟩
   simp only[Act.put,aN,aH,aI,aT,aW];refine⟨fun X W' f l y j r=>?_,fun z6=>?_⟩
   .have h8:X 8=some v8:=j 8 54 v8 (by kernel_rfl) (by kernel_rfl) (bT (by kernel_rfl)) rfl;have a0:X 11=some m0:=j 11 57 m0 (by kernel_rfl) (by kernel_rfl) (bT (by kernel_rfl)) rfl;obtain⟨A8,c8,rfl,-⟩:=(f.ws v8 h8).1.sl cS;obtain⟨d0,c11,rfl,-⟩:=(f.ls m0 a0).sl cS;have b3:=f.build h8 a0;simp only[qL]at b3;have b6:=kp b3;clear b3;clear h8 a0 f j r y;go_wp2_with fail;exact⟨rfl,_,rfl,b6.o,aV,trivial⟩
   simp only[Act.put,aN,aH,aI,aT,aW];refine⟨fun X W' f l y j r=>?_,fun a7=>?_⟩
   .go_wp2_with fail;exact⟨rfl,_,rfl,f.alloc,aV,trivial⟩
   simp only[Act.put,aN,aH,aI,aT,aW];intro W6 f r;clear r;simp only[dO,dP];obtain⟨z,z',e8,j4,rfl⟩:=f.bd z6 rfl;obtain rfl:v8=z:=by cases e8; rfl
   obtain rfl:m0=z':=by cases j4; rfl
   obtain⟨t,rfl,ht,M⟩:=f.var a7 rfl;obtain⟨p2,g1⟩:=f.ws v8 rfl;have g1:=g1 m0 rfl;have o2:=f.ls m0 rfl;obtain⟨A8,c8,rfl,-⟩:=p2.sl cS;obtain⟨d0,c11,rfl,-⟩:=o2.sl cS;simp only[qL]at p2 g1 o2 ⊢;have t0:=M.cell 0;have t1:=M.cell 1;have t2:=M.cell 2;have t3:=M.cell 3;have t4:=M.cell 4;have f0:=M.frozen 0;have f1:=M.frozen 1;have f2:=M.frozen 2;have f3:=M.frozen 3;have f4:=M.frozen 4;simp only[aG,aK]at t0 t1 t2 t3 t4;have L:=k'6 f.chg p2 g1 o2 ht M;clear f p2 g1 o2 ht M e8 j4;have j1:=((((Chg.refl (fun i=>i=t) W6).setCell (.inr rfl) 0 (.i p.x.next)).setCell (.inr rfl) 1 (.i b.a)).setCell (.inr rfl) 2 (.i b.o)).setCell (.inr rfl) 3 (.slice A8 K c8)|>.setCell (.inr rfl) 4 (.slice d0 J c11);have e3:=((((L.F.setCell 0 (.i p.x.next)).setCell 1 (.i b.a)).setCell 2 (.i b.o)).setCell 3 (.slice A8 K c8)).setCell 4 (.slice d0 J c11);obtain⟨W7,o6⟩:=nm' (((((W6.setCell ⟨t,0,none⟩ (.i p.x.next)).setCell ⟨t,1,none⟩ (.i b.a)).setCell ⟨t,2,none⟩ (.i b.o)).setCell ⟨t,3,none⟩ (.slice A8 K c8)).setCell ⟨t,4,none⟩ (.slice d0 J c11));rw[o6]at j1 e3;have a3:Bw' W5 W7:=L.a.trans (j1.below (fun i e=>e▸L.e) L.a.size);have a1:=kp (show Blk W7 t 152 (ObV.cells ⟨⟨p.x.next,b,List.replicate K 0,List.replicate J 0⟩,.slice A8 K c8,.slice d0 J c11⟩) from e3);have I:=kp (W.o.below a3);have e0:=k'3 (d4.a.below a3) (L.b.chg j1 fun i G e=>L.b.tagF L.F (by decide) (e▸G.symm)) (L.d.chg j1 fun i G e=>L.d.tagF L.F (by decide) (e▸G.symm));have a4:=kp (show ∀i,some i=p.ov.ownBlock→i<t from fun i G=>by have:=(W.o.wk.obs.lt G.symm).2; have:=L.e; omega);have d6:=kp (show ∀i,some i=p.ov.ownBlock→i<W7.heap.size from fun i G=>(I.o.wk.obs.lt G.symm).2);obtain⟨o0,c14,rfl,-⟩:=d4.a.sl bM;clear j1 e3 a3;go_wp2_with fail;clear t0 t1 t2 t3 t4 f0 f1 f2 f3 f4;obtain⟨q,hq⟩:∃q:ObV,(⟨⟨p.x.next,b,List.replicate K 0,List.replicate J 0⟩,.slice A8 K c8,.slice d0 J c11⟩:ObV)=q:=⟨_,rfl⟩
   have e6:=kp hq;rw[hq]at a1;have g5:q.cells=[.i p.x.next,.i b.a,.i b.o,.slice A8 K c8,.slice d0 J c11]:=by rw[←hq]; rfl
   have a2:=kp g5;clear hq g5;refine fR 18 (CA W7 base g p ps q) (fun _=>fK) (by kernel_rfl) (by kernel_rfl) ⟨(Chg.refl _ _).drew,(fun _ h=>by cases h),(fun _=>I.o.wk.obs),(fun _ h=>by cases h),(fun _=>I.o.wk.blk),(fun h=>by cases h),fun h=>by cases h⟩ ?_
   iterate 8 (refine bO ?_; apply Exists.intro)
   iterate 2 (refine bS eM ?_)
   iterate 4 (refine bO ?_; apply Exists.intro)
   refine bS eM ?_
   iterate 3 (refine bO ?_; apply Exists.intro)
   refine dR ⟨?pers3,?walk3⟩
   case walk3=>
    iterate 6
     apply Ug (by kernel_rfl) (by intro t w h; cases h; exact trivial) rfl
     .intro X W' f l y j r; go_wp2_with fail;exact⟨rfl,_,rfl,f.other _ _ (by decide) (by decide) (by decide),aV,rfl⟩
     simp only[Act.put,aN,aH,aI,aT,aW]
    apply Ug (by kernel_rfl) (by intro t w h; cases h; exact trivial) rfl
    .intro X W' f l y j r; have q1:W'.cell? ⟨g,1,none⟩=some p.ov:=(f.no (f.early6 l)).cell 1; go_wp2_with fail;exact⟨rfl,_,rfl,f.other _ _ (by decide) (by decide) (by decide),aV,rfl⟩
    simp only[Act.put,aN,aH,aI,aT,aW];apply Ug (by kernel_rfl) (by intro t w h; cases h; exact trivial) rfl
    .intro X W' f l y j r;have A:=a1.o.chg f.chg fun e=>by
      rcases e with e|e
      .have:=a4.o t e; omega
      .exact a1.o.ne I.o.wk.blk (by decide) e
     rw[a2.o]at A;have t0:=A.cell 0;have t1:=A.cell 1;have t2:=A.cell 2;have t3:=A.cell 3;have t4:=A.cell 4;simp only[aG,aK]at t0 t1 t2 t3 t4;clear A;go_wp2_with fail;exact⟨rfl,_,rfl,f.other _ _ (by decide) (by decide) (by decide),aV,rfl⟩
    simp only[Act.put,aN,aH,aI,aT,aW];refine⟨fun X W' f l y j r=>?_,fun u8=>?_⟩
    .go_wp2_with fail;exact⟨rfl,_,rfl,f.build (by rw[a2.o]),aV,trivial⟩
    simp only[Act.put,aN,aH,aI,aT,aW];refine⟨fun X W' f l y j r=>?_,fun u9=>?_⟩
    .have h8:X 8=some u8:=j 8 67 u8 (by kernel_rfl) (by kernel_rfl) (bT (by kernel_rfl)) rfl;obtain⟨bb,rfl,e7,A⟩:=f.two u8 h8;have a6:=kp (fun v Wn ho hg=>f.append (v:=v) (Wn:=Wn) d6.o l (y 6 (by kernel_rfl)) ho hg);have z2:=k'3 (f.row l) (Uv A) (aB I.o.h0 (aB I.o.bw.bel.size f.chg.size));clear f j r y A;go_wp2_with (at_builtin; refine mO (enc:=ObV.cells) W' rfl (.tmp 65) (.tmp 67) 25 rfl base 152 pS nE rfl (by omega) cM z2.a rfl z2.b rfl (fun a ha=>?_) ?_ ?_ z2.C ?_)
     .rw[bQ.1 ha,a2.o];intro u hu;simp only[bA,dW,or_false]at hu;rcases hu with rfl|rfl|rfl|rfl|rfl<;>rfl
     .have:=z3.o; unfold maxLen; show ps.length+1≤_; omega
     .have:=z3.o; show (ps.length+1)*72≤_; omega
     intro v' Wn ho j7 hg g7;exact⟨rfl,_,rfl,a6.o v' Wn ho hg,aV,trivial⟩
    simp only[Act.put,aN,aH,aI,aT,aW]
    iterate 4
     apply Ug (by kernel_rfl) (by intro t w h; cases h; exact trivial) rfl
     .intro X W' f l y j r; go_wp2_with fail;exact⟨rfl,_,rfl,f.other _ _ (by decide) (by decide) (by decide),aV,rfl⟩
     simp only[Act.put,aN,aH,aI,aT,aW]
    refine⟨fun X W' f l y j r=>?_,fun l0=>?_⟩
    .have h9:X 9=some u9:=j 9 68 u9 (by kernel_rfl) (by kernel_rfl) (bT (by kernel_rfl)) rfl;obtain⟨A9,c9,rfl,-⟩:=(f.app u9 h9).sl cM;have hg:=f.no l;have k1:W'.cell? ⟨g,1,none⟩=some p.ov:=hg.cell 1;have f1:=hg.frozen 1;have m3:=f.store (v:=undef) l h9;simp only[bB,eV,mH,hY]at m3;have HS:=kp m3;clear f j r y hg h9 m3;go_wp2_with fail;exact⟨rfl,undef,rfl,HS.o,aV,trivial⟩
    simp only[Act.put,aT,aW]
    iterate 3
     apply Ug (by kernel_rfl) (by intro t w h; cases h; exact trivial) rfl
     .intro X W' f l y j r; go_wp2_with fail;exact⟨rfl,_,rfl,f.other _ _ (by decide) (by decide) (by decide),aV,rfl⟩
     simp only[Act.put,aN,aH,aI,aT,aW]
    intro W8 f r;clear r;simp only[dO,dP];obtain⟨z,e9,g0⟩:=f.st rfl;obtain rfl:u9=z:=by cases e9; rfl
    have d2:=f.app u9 rfl;obtain⟨A9,c9,rfl,-⟩:=d2.sl cM;have g3:=a1.o.chg f.chg fun e=>by
     rcases e with e|e
     .have:=a4.o t e; omega
     .exact a1.o.ne I.o.wk.blk (by decide) e
    have e2:=((Chg.refl (fun i=>i=g) W8).setCell (.inr rfl) 7 (.slice o0 out.length c14)).setCell (.inr rfl) 2 (.i (p.x.next+1));have g2:=(g0.setCell 7 (.slice o0 out.length c14)).setCell 2 (.i (p.x.next+1));have l1:=g3.chg e2 (g3.ne g0 (by decide));have l2:=d2.chg e2 fun i G e=>d2.ne_blk g0 (by decide) (e▸G);have b2:Chg (fun i=>some i=p.ov.ownBlock∨i=g) W7 _:=f.chg.trans e2 fun i _ e=>.inr e;have k7:=g0.cell 7;have f7:=g0.frozen 7;obtain⟨W9,p6⟩:=nm' (W8.setCell ⟨g,7,none⟩ (.slice o0 out.length c14));have j2:=g0.setCell 7 (.slice o0 out.length c14);rw[p6]at j2 g2 l1 l2 b2;have k2:=j2.cell 2;have f2:=j2.frozen 2;obtain⟨d7,l6⟩:=nm' (W9.setCell ⟨g,2,none⟩ (.i (p.x.next+1)));rw[l6]at g2 l1 l2 b2;rw[a2.o]at l1;have t0:=l1.cell 0;simp only[HpV.cells,aH,aI,aG,aK]at k7 k2 t0;have q3:=e6.o;have j5:Rws W7 base (ps++[q]):=by
     rw[←q3];refine I.o.wk.rws.snoc (e0.b.mono (aB I.o.h0 W.o.bw.bel.size)) (e0.C.mono (aB I.o.h0 W.o.bw.bel.size)) L.c fun x hx=>?_;have h1:=(W.o.wk.rws.row x hx).1;have h2:=(W.o.wk.rws.row x hx).2;refine⟨fun i G hj=>?_,fun i G hj=>?_,fun i G hj=>?_,fun i G hj=>?_⟩
     .have:=(h1.lt G).2; have:=(e0.b.lt hj).1; omega
     .have:=(h1.lt G).2; have:=(e0.C.lt hj).1; omega
     .have:=(h2.lt G).2; have:=(e0.b.lt hj).1; omega
     .have:=(h2.lt G).2; have:=(e0.C.lt hj).1; omega
    have hG:=I.o.grew (p':=⟨{p.x with obs:=p.x.obs++[⟨p.x.next,b,List.replicate K 0,List.replicate J 0⟩],free:=out,next:=p.x.next+1},.slice A9 (ps++[q]).length c9,.slice o0 out.length c14⟩) b2 g2 l2 j5 e0.a (aB I.o.h0 U.o.bw.bel.size);have b1:=kp hG.1;have HG:=kp (hG.2.2.o hG.2.1 I.o.h0 (Nat.le_succ _) (by rw[gC,←HE.o,←q3]; rfl) rfl 0 p.x.next);have y6:=HH.o.next;have g8: -9223372036854775808≤p.x.next+1:=by omega
    have g9:p.x.next+1≤9223372036854775807:=by omega
    have j3:=V.o;have m4:=g6.o;rw[j3.1,j3.2,eR,eR]at m4;subst m4;simp only[bB,eV,mH,hY];clear g2 l1 l2 b2 j5 hG y6 j3 q3 d2 e2 g3 g0 j2 e9 f;have S:=Blk.cell b1.o 0;have T:=Blk.cell b1.o 1;have y0:=Blk.frozen b1.o 0;have y1:=Blk.frozen b1.o 1;simp only[aG,aK]at S T;have O:=kp ((Blk.setCell b1.o 0 (.i (0))).setCell 1 (.i (p.x.next)));go_wp2_with fail;clear S T y0 y1;have P:=O.o.cell 0;have Q:=O.o.cell 1;simp only[aH,aI,aG,aK]at P Q;exact aU (v:=.agg #[.i (0),.i (p.x.next)]) (by simp[results,aCx,go_sem,P,Q]) rfl ⟨rfl,HG.o⟩
   case pers3=>exact⟨pv',pv',pv',pv',pv',pv',pv',pv',fun _ _ _ _ _ h _=>h,fun _ _ _ _ _ h _=>h,pv',pv',pv',pv',fun _ _ _ _ _ h _=>h,pv',pv',pv',trivial⟩
  case pers2=>exact⟨pv',pv',pv',pv',pv',pv',pv',pv',fun _ _ _ _ _ h _=>h,pv',pv',fun _ _ _ _ _ h _=>h,fun _ _ _ _ _ h _=>h,fun _ _ _ _ _ h _=>h,trivial⟩
 case pers=>exact⟨pv',pv',pv',pv',pv',pv',pv',pv',pv',pv',pv',fun _ _ _ _ _ h _=>h,fun _ _ _ _ _ h _=>h,pv',fun _ _ _ _ _ h _=>h,pv',fun _ _ _ _ _ h _=>h,fun _ _ _ _ _ h _=>h,fun _ _ _ _ _ h _=>h,pv',trivial⟩
end
end Go.Proofs.YthalbagblhkeaaaGreat
