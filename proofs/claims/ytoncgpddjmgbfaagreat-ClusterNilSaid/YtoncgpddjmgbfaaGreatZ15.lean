import Derived.Test.YtoncgpddjmgbfaaGreatZ14
namespace Go.Proofs.YtoncgpddjmgbfaaGreat
open Go.RowKit Go.Proofs.Tryz
set_option maxRecDepth 100000
set_option maxHeartbeats 12800000
set_option linter.unusedVariables false
set_option linter.unusedSimpArgs false
section
structure CT(W:World)(b:Bk)(c:Int)(out:List Bk)(X:Nat→Option Value)(W':World):Prop where
 chg:Bw' W W'
 res:∀u,X 11=some u→∃v',u=.tuple #[.agg #[.i b.a,.i b.o],v',.i c]∧Ow W' W.heap.size 262 2 v' Bk.cells out∧∀s,X 16=some (.pointer (some ⟨s,0,none⟩))→v'.ownBlock≠some s
 mv:∀z,X 12=some z→X 11=some z
 ex:∀z,X 14=some z→X 11=some (.tuple #[.agg #[.i b.a,.i b.o],z,.i c])
 as_:∀z,X 18=some z→X 14=some z
 var:∀z,X 16=some z→∃s,z=.pointer (some ⟨s,0,none⟩)∧W.heap.size≤s∧(X 17=none→Blk W' s 262 [.i 0,.i 0])∧((X 17).isSome=true→Blk W' s 262 b.cells)
 dep:X 16=none→X 17=none
section
variable {W W' W2:World}{b:Bk}{c:Int}{out:List Bk}{X:Nat→Option Value}{v z:Value}
theorem CT.other(h:CT W b c out X W')(j:Nat)(v:Value)(a:j≠11)(g:j≠12)(e:j≠14)(d:j≠16)(f:j≠17)(i:j≠18):CT W b c out (aY X j v) W':=by
 refine⟨h.chg,?_,?_,?_,?_,?_,?_⟩
 .rw[aI (bM a),aI (bM d)]; exact h.res
 .rw[aI (bM g),aI (bM a)]; exact h.mv
 .rw[aI (bM e),aI (bM a)]; exact h.ex
 .rw[aI (bM i),aI (bM e)]; exact h.as_
 .rw[aI (bM d),aI (bM f)]; exact h.var
 .rw[aI (bM d),aI (bM f)]; exact h.dep
theorem CT.blk_lt(h:CT W b c out X W'){s:Nat}(f:X 16=some (.pointer (some ⟨s,0,none⟩))):s<W'.heap.size:=by
 obtain⟨g,e,_,a,d⟩:=h.var _ f
 cases e
 cases hx:X 17 with
 |none=>exact (a hx).lt
 |some u=>exact (d (by rw[hx]; rfl)).lt
theorem CT.call(h:CT W b c out X W')(l:X 11=none)(m:Ow W2 W'.heap.size 262 2 v Bk.cells out)(i:Bw' W' W2):CT W b c out (aY X 11 (.tuple #[.agg #[.i b.a,.i b.o],v,.i c])) W2:=by
 refine⟨h.chg.on i,fun u n=>?_,fun z d=>?_,fun z d=>?_,h.as_,fun z d=>?_,h.dep⟩
 .cases n;refine⟨v,rfl,m.mono h.chg.size,fun s g e=>?_⟩;rw[aI (by decide)]at g;have:=h.blk_lt g;have:=(m.lt e).1;omega
 .rw[aI (by decide)]at d; have:=h.mv z d; rw[l]at this; cases this
 .rw[aI (by decide)]at d; have:=h.ex z d; rw[l]at this; cases this
 .rw[aI (by decide)]at d;obtain⟨s,e,g,j,k⟩:=h.var z d;rw[aI (by decide)];exact⟨s,e,g,fun f=>(j f).below i (j f).lt,fun f=>(k f).below i (k f).lt⟩
theorem CT.move(h:CT W b c out X W')(a:X 11=some z):CT W b c out (aY X 12 z) W':=
 ⟨h.chg,h.res,fun y d=>by cases d; rw[aI (by decide)]; exact a,h.ex,h.as_,h.var,h.dep⟩
theorem CT.extr(h:CT W b c out X W')(f:X 14=none)(e:X 11=some (.tuple #[.agg #[.i b.a,.i b.o],z,.i c])):CT W b c out (aY X 14 z) W':=by
 refine⟨h.chg,h.res,h.mv,fun y d=>?_,fun y d=>?_,h.var,h.dep⟩
 .cases d; rw[aI (by decide)]; exact e
 .rw[aI (by decide)]at d; have:=h.as_ y d; rw[f]at this; cases this
theorem CT.assign(h:CT W b c out X W')(a:X 14=some z):CT W b c out (aY X 18 z) W':=
 ⟨h.chg,h.res,h.mv,h.ex,fun y d=>by cases d; rw[aI (by decide)]; exact a,h.var,h.dep⟩
theorem CT.alloc(h:CT W b c out X W')(j:X 16=none):CT W b c out (aY X 16 (.pointer (some ⟨W'.heap.size,0,none⟩))) (W'.alloc (.cells #[.i 0,.i 0] 262)):=by
 have i:=h.dep j;have d:=ba' W' (.cells #[.i 0,.i 0] 262);refine⟨h.chg.on d,fun u g=>?_,h.mv,h.ex,h.as_,fun z m=>?_,fun a=>by cases a⟩
 .rw[aI (by decide)]at g;obtain⟨v',e,f,_⟩:=h.res u g;refine⟨v',e,f.below d,fun s l k=>?_⟩
  cases l;have:=(f.lt k).2;omega
 .cases m;rw[aI (by decide)];exact⟨_,rfl,h.chg.size,fun _=>Blk.new W' _ [.i 0,.i 0],fun a=>by rw[i]at a; cases a⟩
theorem CT.store(h:CT W b c out X W'){s:Nat}(p:X 17=none)(d:X 16=some (.pointer (some ⟨s,0,none⟩))):CT W b c out (aY X 17 v) ((W'.setCell ⟨s,0,none⟩ (.i b.a)).setCell ⟨s,1,none⟩ (.i b.o)):=by
 obtain⟨y,e,k,n,_⟩:=h.var _ d
 cases e;have r:=n p;have j:=((Chg.refl (fun i=>i=s) W').setCell (.inr rfl) 0 (.i b.a)).setCell (.inr rfl) 1 (.i b.o);refine⟨h.chg.trans (j.below (fun i e=>e▸k) h.chg.size),fun u m=>?_,h.mv,h.ex,h.as_,fun z g=>?_,fun f=>by rw[aI (by decide),d]at f; cases f⟩
 .rw[aI (by decide)]at m;obtain⟨v',e,x,l⟩:=h.res u m;exact⟨v',e,x.chg j fun i q e=>l s d (e▸q),by rw[aI (by decide)]; exact l⟩
 .rw[aI (by decide)]at g;rw[d]at g
  cases g;exact⟨s,rfl,k,fun f=>(by cases f),fun _=>(r.setCell 0 _).setCell 1 _⟩
end
structure CM(W:World)(nx:Int)(b:Bk)(n m:Nat)(X:Nat→Option Value)(W':World):Prop where
 chg:Bw' W W'
 ws:∀u,X 8=some u→Ow W' W.heap.size 3 1 u i1 (List.replicate n 0)∧∀u',X 11=some u'→Apt u u'
 ls:∀u,X 11=some u→Ow W' W.heap.size 3 1 u i1 (List.replicate m 0)
 bd:∀z,X 12=some z→∃u u',X 8=some u∧X 11=some u'∧z=.agg #[.i nx,.i b.a,.i b.o,u,u']
 var:∀z,X 13=some z→∃s,z=.pointer (some ⟨s,0,none⟩)∧W.heap.size≤s∧Blk W' s 264 z'5
section
variable {W W' W2:World}{nx:Int}{b:Bk}{n m:Nat}{X:Nat→Option Value}{v z:Value}
theorem CM.other(h:CM W nx b n m X W')(j:Nat)(v:Value)(c:j≠8)(a:j≠11)(d:j≠12)(e:j≠13):CM W nx b n m (aY X j v) W':=by
 refine⟨h.chg,?_,?_,?_,?_⟩
 .rw[aI (bM c),aI (bM a)]; exact h.ws
 .rw[aI (bM a)]; exact h.ls
 .rw[aI (bM d),aI (bM c),aI (bM a)]; exact h.bd
 .rw[aI (bM e)]; exact h.var
theorem CM.grow(h:CM W nx b n m X W')(a:Bw' W' W2):CM W nx b n m X W2:=
 ⟨h.chg.on a,fun u c=>⟨(h.ws u c).1.below a,(h.ws u c).2⟩,fun u c=>(h.ls u c).below a,h.bd,fun z g=>by
  obtain⟨s,e,f,d⟩:=h.var z g;exact⟨s,e,f,d.below a d.lt⟩⟩
theorem CM.first(h:CM W nx b n m X W')(j:X 8=none)(k:Bw' W' W2)(d:Ow W2 W'.heap.size 3 1 v i1 (List.replicate n 0)):CM W nx b n m (aY X 8 v) W2:=by
 have c:=h.grow k;refine⟨c.chg,fun u a=>?_,c.ls,fun z f=>?_,c.var⟩
 .cases a;refine⟨d.mono h.chg.size,fun g e i l o=>?_⟩;rw[aI (by decide)]at e;have:=((h.ls g e).lt o).2;have:=(d.lt l).1;omega
 .rw[aI (by decide)]at f;obtain⟨u,g,a,_⟩:=h.bd z f;rw[j]at a
  cases a
theorem CM.second(h:CM W nx b n m X W')(f:X 11=none)(g:Bw' W' W2)(d:Ow W2 W'.heap.size 3 1 v i1 (List.replicate m 0)):CM W nx b n m (aY X 11 v) W2:=by
 have c:=h.grow g;refine⟨c.chg,fun u a=>⟨(c.ws u a).1,fun o l i j k=>?_⟩,fun u a=>by cases a; exact d.mono h.chg.size,fun z e=>?_,c.var⟩
 .cases l;rw[aI (by decide)]at a;have:=((h.ws u a).1.lt j).2;have:=(d.lt k).1;omega
 .rw[aI (by decide)]at e;obtain⟨u,o,_,a,_⟩:=h.bd z e;rw[f]at a
  cases a
theorem CM.build{u c:Value}(h:CM W nx b n m X W')(e:X 8=some u)(d:X 11=some c):CM W nx b n m (aY X 12 (.agg #[.i nx,.i b.a,.i b.o,u,c])) W':=
 ⟨h.chg,h.ws,h.ls,fun z f=>by cases f; exact⟨u,c,e,d,rfl⟩,h.var⟩
theorem CM.alloc(h:CM W nx b n m X W'):CM W nx b n m (aY X 13 (.pointer (some ⟨W'.heap.size,0,none⟩))) (W'.alloc (.cells z'5a 264)):=by
 have a:=h.grow (ba' W' (.cells z'5a 264));exact⟨a.chg,a.ws,a.ls,a.bd,fun z c=>by cases c; exact⟨_,rfl,h.chg.size,Blk.new W' _ z'5⟩⟩
end
theorem Hz(n:Nat):(madeCells #[Value.i 0] n).toList=aO i1 (List.replicate n 0):=by
 rw[oO];unfold madeCells iv;rw[List.map_replicate,Array.toList_map,Array.toList_range,List.eq_replicate_iff];refine⟨by simp,fun z a=>?_⟩;obtain⟨k,_,rfl⟩:=cP.1 a;simp[Nat.mod_one]
structure CA(W:World)(base g:Nat)(p:HpV)(ps:List ObV)(q:ObV)(X:Nat→Option Value)(W':World):Prop where
 chg:Chg (fun i=>some i=p.ov.ownBlock∨i=g) W W'
 two:∀u,X 8=some u→∃bb,u=.slice (some ⟨bb,0,none⟩) 1 1∧W.heap.size≤bb∧Blk W' bb 264 q.cells
 row:X 9=none→Ow W' base 264 5 p.ov ObV.cells ps
 app:∀u,X 9=some u→Ow W' base 264 5 u ObV.cells (ps++[q])
 no:X 14=none→Blk W' g 320 p.cells
 st:(X 14).isSome=true→∃u,X 9=some u∧Blk W' g 320 (HpV.cells ⟨p.x,u,p.fv⟩)
 dep:(X 9).isSome=true→(X 6).isSome=true
section
variable {W W' W2:World}{base g:Nat}{p:HpV}{ps:List ObV}{q:ObV}{X:Nat→Option Value}{v z:Value}
theorem CA.other(h:CA W base g p ps q X W')(j:Nat)(v:Value)(d:j≠8)(a:j≠9)(b:j≠14):CA W base g p ps q (aY X j v) W':=by
 refine⟨h.chg,?_,?_,?_,?_,?_,?_⟩
 .rw[aI (bM d)]; exact h.two
 .rw[aI (bM a)]; exact h.row
 .rw[aI (bM a)]; exact h.app
 .rw[aI (bM b)]; exact h.no
 .rw[aI (bM b),aI (bM a)]; exact h.st
 .rw[aI (bM a)];intro e
  by_cases c:6=j
  .subst c; unfold aY; rw[aK rfl]; rfl
  .rw[aI c]; exact h.dep e
theorem CA.early(h:CA W base g p ps q X W')(b:X 9=none):X 14=none:=by
 cases hx:X 14 with
 |none=>rfl
 |some u=>
  obtain⟨z,a,_⟩:=h.st (by rw[hx]; rfl);rw[b]at a
  cases a
theorem CA.early6(h:CA W base g p ps q X W')(a:X 6=none):X 14=none:=by
 refine h.early ?_
 cases hx:X 9 with
 |none=>rfl
 |some u=>have:=h.dep (by rw[hx]; rfl); rw[a]at this; cases this
theorem CA.build(h:CA W base g p ps q X W'){d:Array Value}(f:d=q.cells.toArray):CA W base g p ps q (aY X 8 (.slice (some ⟨W'.heap.size,0,none⟩) 1 1)) (W'.alloc (.cells d 264)):=by
 subst f;have b:=ba' W' (.cells q.cells.toArray 264);refine⟨h.chg.then b,fun u c=>?_,fun a=>(h.row a).below b,fun u c=>(h.app u c).below b,fun a=>(h.no a).below b (h.no a).lt,fun a=>?_,h.dep⟩
 .cases c;exact⟨_,rfl,h.chg.size,Blk.new W' _ q.cells⟩
 .obtain⟨u,c,e⟩:=h.st a;exact⟨u,c,e.below b e.lt⟩
theorem CA.append{Wn:World}(h:CA W base g p ps q X W')(x:∀i,some i=p.ov.ownBlock→i<W.heap.size)(j:X 9=none)(l:(X 6).isSome=true)(s:Ow Wn base 264 5 v ObV.cells (ps++[q]))(n:W'.grownBy Wn p.ov.ownBlock):CA W base g p ps q (aY X 9 v) Wn:=by
 have d:=eX n;have r:∀{b t k},Blk W' b t k→t≠264→¬p.ov.ownBlock=some b:=fun m z=>(h.row j).ne_blk m (fun e=>z e.symm);refine⟨h.chg.trans d fun i _ e=>.inl e.symm,fun u c=>?_,fun a=>(by cases a),fun u c=>by cases c; exact s,fun a=>(h.no a).chg d (r (h.no a) (by decide)),fun a=>?_,fun _=>l⟩
 .rw[aI (by decide)]at c;obtain⟨f,e,y,o⟩:=h.two u c;exact⟨f,e,y,o.chg d fun e=>by have:=x f e.symm; omega⟩
 .rw[aI (by decide),h.early j]at a
  cases a
theorem CA.store(h:CA W base g p ps q X W')(l:X 14=none)(f:X 9=some z):CA W base g p ps q (aY X 14 v) (W'.setCell ⟨g,1,none⟩ z):=by
 have d:=h.no l;have c:=(Chg.refl (fun i=>i=g) W').setCell (.inr rfl) 1 z;refine⟨h.chg.trans c fun i _ e=>.inr e,fun u a=>?_,fun b=>?_,fun u a=>?_,fun b=>(by cases b),fun _=>⟨z,by rw[aI (by decide)]; exact f,d.setCell 1 z⟩,h.dep⟩
 .rw[aI (by decide)]at a;obtain⟨k,e,n,j⟩:=h.two u a;exact⟨k,e,n,j.chg c (j.ne d (by decide))⟩
 .rw[aI (by decide),f]at b; cases b
 .rw[aI (by decide)]at a;exact (h.app u a).chg c fun i m e=>(h.app u a).ne_blk d (by decide) (e▸m)
end
theorem Hb.grew{w W W':World}{base g r:Nat}{p p':HpV}{ps:List ObV}{o:Opn}{q:ObV}{F:List Bk}(h:Hb w base g p ps o W)(c:Chg (fun i=>some i=p.ov.ownBlock∨i=g) W W')(H:Blk W' g 320 p'.cells)
  (I:Ow W' base 264 5 p'.ov ObV.cells (ps++[q])) (m:Rws W base (ps++[q])) (x:Ow W r 262 2 p'.fv Bk.cells F) (G:base≤r):cG W' (w.heap.size+1) 0 0∧Bw base w W'∧Hx W' base g (w.heap.size+1) p' F (ps++[q]):=by
 have E:base≤W.heap.size:=aB h.h0 h.bw.bel.size;have z:∀{b t d},Blk W b t d→264≠t→t≠320→¬(some b=p.ov.ownBlock∨b=g):=fun s f j e=>by
  rcases e with e|e
  .exact h.wk.obs.tagF s f e
  .exact s.ne h.wk.blk j e
 have n:∀{D:Nat}{t:TypeId}{k:Nat}{α:Type}{enc:α→List Value}{v:Value}{l:List α},Ow W D t k v enc l→264≠t→t≠320→∀i,v.ownBlock=some i→¬(some i=p.ov.ownBlock∨i=g):=fun C f j i a e=>by
  rcases e with e|e
  .exact h.wk.obs.apt C f i e.symm a
  .exact C.tagF h.wk.blk j (e▸a.symm)
 have B:cG W' (w.heap.size+1) 0 0:=Blk.chg h.res c (z h.res (by decide) (by decide));refine⟨B,⟨h.bw.bel.trans (c.below (fun i e=>?_) E),fun i d y=>(h.bw.keep i d y).chg c (z (h.bw.keep i d y) (by decide) (by decide))⟩,H,h.wk.lo,B,aB h.h0 (Nat.le_succ _),OR.of_ow I fun _ h _=>h,m.chg c fun q A i e=>⟨fun a=>n (m.row q A).1 (by decide) (by decide) i a e,fun a=>n (m.row q A).2 (by decide) (by decide) i a e⟩,
  OR.of_ow (x.chg c (n x (by decide) (by decide))) fun _ h _=>aB G h⟩
 rcases e with e|rfl
 .exact (h.wk.obs.lt e.symm).1
 .exact h.wk.lo
theorem Ss{α:Type}{enc:α→List Value}{w:World}{b:Nat}{t:TypeId}{x:α}(h:Blk w b t (enc x)):Sl w (b+1) (.slice (some ⟨b,0,none⟩) 1 1) enc [x]:=by
 refine⟨_,_,rfl,.inr ⟨b,0,rfl,by omega,fun j u a=>?_⟩,aN _,by unfold maxLen; omega⟩;rw[gL,h.cell];simpa [aO] using a
theorem Su{h:Hp}(H:HOk h)(n k:Int)(d:¬cQ n k<0):∃c b out,jS h.order (cQ n k) h.free=(c,b,out)∧(c≠0→(if cQ n k≤h.order then kG (cQ n k) h.free else none)=none)∧(c=0→(if cQ n k≤h.order then kG (cQ n k) h.free else none)=some (b,out)):=by
 unfold jS;rw[(oU H.reg).2 H.free,fA (show 0≤cQ n k by omega)]
 by_cases a:cQ n k≤h.order
 .rw[fA a];simp only[aK a,Bool.and_self,if_true]
  cases ht:kG (cQ n k) h.free with
  |none=>exact⟨40,_,_,rfl,fun _=>rfl,fun h=>by cases h⟩
  |some x=>exact⟨0,x.1,x.2,rfl,fun h=>absurd rfl h,fun _=>rfl⟩
 .rw[aF a,dR a,aF (by simp)];exact⟨1,_,_,rfl,fun _=>rfl,fun h=>by cases h⟩
theorem Sw{base g:Nat}{p:HpV}{ps:List ObV}(o:Opn)(w:World)(h:Wk w base g 320 p ps)(hb:base≤w.heap.size)(H:HOk p.x):
  Calls prog 259 #[.pointer (some ⟨g,0,none⟩),.agg o.cells.toArray] w fun e w'=>e=.returned (.agg #[.i (jG p.x o.n o.m).2.1,.i (jG p.x o.n o.m).2.2])∧Wo base g (jG p.x o.n o.m).1 w w':=by
 show Calls _ _ #[_,.agg #[.i o.k,.i o.h,.i o.i,.i o.n,.i o.m,.i o.v,.i o.t]] _ _;have b5:ps.length≤256:=by have:=H.len.1; have:=bA List.length h.eq; rw[dD]at this; omega
 have q3:=Hb.of o h hb;obtain⟨W2,o6⟩:=nm' ((w.alloc (.cells #[.i o.k,.i o.h,.i o.i,.i o.n,.i o.m,.i o.v,.i o.t] 25)).alloc (.cells #[.i 0,.i 0] 73));rw[o6]at q3;have U:=kp q3;have HE:=kp h.eq;have HH:=kp H;have a4:=kp b5;obtain⟨R,hR⟩:=nm' (jG p.x o.n o.m);rw[hR];have HR:=kp hR;have o3:=U.o.op.c3;have o4:=U.o.op.c4;have q2:=U.o.hx.hp.c2;clear b5 q3 h H hb hR;go_enter func259,ntmps259;go_wp2_with fail;refine ms' (Ax o.n o.m W2) ?_
 by_cases hn:cQ o.n o.m<0
 .obtain rfl:R=(p.x,53,0):=by rw[←HR.o]; unfold jG; rw[aK hn]
  clear o3 o4 q2;go_wp2_with fail;refine mb' (mC 53 _) fun w4 b0=>?_;have Y:=kp (U.o.below b0);have E:=kp Y.o.res;clear b0;have S:=Blk.cell E.o 0;have T:=Blk.cell E.o 1;have y0:=Blk.frozen E.o 0;have y1:=Blk.frozen E.o 1;simp only[aP,aZ]at S T;have O:=kp ((Blk.setCell E.o 0 (.i (53))).setCell 1 (.i (0)));go_wp2_with fail;clear S T y0 y1;have P:=O.o.cell 0;have Q:=O.o.cell 1;simp only[aC,aD,aP,aZ]at P Q;exact bI (v:=.agg #[.i (53),.i (0)]) (by simp[results,Dy,go_sem,P,Q]) rfl ⟨rfl,Y.o.o 53 0⟩
 by_cases hx:1000000<p.x.next
 .obtain rfl:R=(p.x,2,0):=by rw[←HR.o]; unfold jG; rw[aF hn,aK hx]
  go_wp2_with fail;refine mb' (mC 2 _) fun w4 b0=>?_;have Y:=kp (U.o.below b0);have E:=kp Y.o.res;clear b0 o3 o4 q2;have S:=Blk.cell E.o 0;have T:=Blk.cell E.o 1;have y0:=Blk.frozen E.o 0;have y1:=Blk.frozen E.o 1;simp only[aP,aZ]at S T;have O:=kp ((Blk.setCell E.o 0 (.i (2))).setCell 1 (.i (0)));go_wp2_with fail;clear S T y0 y1;have P:=O.o.cell 0;have Q:=O.o.cell 1;simp only[aC,aD,aP,aZ]at P Q;exact bI (v:=.agg #[.i (2),.i (0)]) (by simp[results,Dy,go_sem,P,Q]) rfl ⟨rfl,Y.o.o 2 0⟩
 obtain⟨c,b,out,o5,y4,z4⟩:=Su HH.o o.n o.m hn;have g4:=kp (show R=match (if cQ o.n o.m≤p.x.order then kG (cQ o.n o.m) p.x.free else none) with
  |none=>(p.x,50,0)
  |some (b,free)=>({p.x with obs:=p.x.obs++[⟨p.x.next,b,List.replicate o.n.toNat 0,List.replicate o.m.toNat 0⟩],free:=free,next:=p.x.next+1},0,p.x.next) by rw[←HR.o]; unfold jG; rw[aF hn,aF hx]; rfl)
 have HC:=k'2 y4 z4;have j4:=kp (fun(W':World)(hb:Bw' W2 W')=>by
  have:=Re p.x.order (cQ o.n o.m) p.fv W2.heap.size p.x.free W' ((OR.sl U.o.wk.free).below hb (aN _)) hb.size (by have:=HH.o.len.2; omega);rw[o5]at this;exact this)
 obtain⟨nd,m3⟩:=nm' (cQ o.n o.m);have j0:=k'2 m3 (qB hn);have d7:=kp hx;rw[m3]at hn j4 ⊢;clear y4 z4 o5 HR;go_wp2_with fail;clear hn hx o3 o4 q2 m3;refine eY 20 (CT W2 b c out) (fun _=>eQ) (by kernel_rfl) (by kernel_rfl) ⟨bL (aH _ _),(fun _ h=>by cases h),(fun _ h=>by cases h),(fun _ h=>by cases h),(fun _ h=>by cases h),(fun _ h=>by cases h),fun _=>rfl⟩ ?_
 iterate 11 (refine bE ?_; apply Exists.intro)
 iterate 2 (refine bJ dV ?_)
 refine bE ?_; apply Exists.intro;refine bJ dV ?_;refine bE ?_; apply Exists.intro
 iterate 3 (refine bJ dV ?_)
 refine bE ?_; apply Exists.intro;refine cC ⟨?pers,?walk⟩
 case walk=>
  iterate 11
   apply bQ (by kernel_rfl) (by intro t w h; cases h; exact trivial) rfl
   .intro X W' f l y j r; have hh:=eP.of (U.o.wk.blk.below f.chg U.o.wk.blk.lt); have q0:=hh.c0; have q7:=hh.c7; clear hh; go_wp2_with fail;exact⟨rfl,_,rfl,f.other _ _ (by decide) (by decide) (by decide) (by decide) (by decide) (by decide),aV,rfl⟩
   simp only[Act.put,aE,aC,aD,aS,aT]
  refine⟨fun X W' f l y j r=>?_,fun z5=>?_⟩
  .go_wp2_with fail;refine (j4.o W' f.chg).mono ?_;rintro e w5 ⟨v5,rfl,o2,y6⟩;go_wp2_with fail;exact⟨rfl,_,rfl,f.call l o2 y6,aV,trivial⟩
  simp only[Act.put,aE,aC,aD,aS,aT];refine⟨fun X W' f l y j r=>?_,fun N=>?_⟩
  .have a0:X 11=some z5:=j 11 39 z5 (by kernel_rfl) (by kernel_rfl) (bO (by kernel_rfl)) rfl;go_wp2_with fail;exact⟨rfl,_,rfl,f.move a0,aV,trivial⟩
  simp only[Act.put,aE,aC,aD,aS,aT];apply bQ (by kernel_rfl) (by intro t w h; cases h; exact trivial) rfl
  .intro X W' f l y j r;have d1:X 12=some N:=j 12 27 N (by kernel_rfl) (by kernel_rfl) (bO (by kernel_rfl)) rfl;obtain⟨v',rfl,-⟩:=f.res N (f.mv N d1);go_wp2_with fail;exact⟨rfl,_,rfl,f.other _ _ (by decide) (by decide) (by decide) (by decide) (by decide) (by decide),aV,rfl⟩
  simp only[Act.put,aE,aC,aD,aS,aT];refine⟨fun X W' f l y j r=>?_,fun l0=>?_⟩
  .have d1:X 12=some N:=j 12 27 N (by kernel_rfl) (by kernel_rfl) (bO (by kernel_rfl)) rfl;have a0:=f.mv N d1;obtain⟨v',rfl,-⟩:=f.res N a0;go_wp2_with fail;exact⟨rfl,_,rfl,f.extr l a0,aV,trivial⟩
  simp only[Act.put,aE,aC,aD,aS,aT];apply bQ (by kernel_rfl) (by intro t w h; cases h; exact trivial) rfl
  .intro X W' f l y j r;have d1:X 12=some N:=j 12 27 N (by kernel_rfl) (by kernel_rfl) (bO (by kernel_rfl)) rfl;obtain⟨v',rfl,-⟩:=f.res N (f.mv N d1);go_wp2_with fail;exact⟨rfl,_,rfl,f.other _ _ (by decide) (by decide) (by decide) (by decide) (by decide) (by decide),aV,rfl⟩
  simp only[Act.put,aE,aC,aD,aS,aT];refine⟨fun X W' f l y j r=>?_,fun z2=>?_⟩
  .go_wp2_with fail;exact⟨rfl,_,rfl,f.alloc l,aV,trivial⟩
  simp only[Act.put,aE,aC,aD,aS,aT];refine⟨fun X W' f l y j r=>?_,fun m7=>?_⟩
  .have m4:X 16=some z2:=j 16 6 z2 (by kernel_rfl) (by kernel_rfl) (bO (by kernel_rfl)) rfl;obtain⟨s,rfl,hs,h0,-⟩:=f.var z2 m4;have A:=h0 l;have s0:=A.cell 0;have s1:=A.cell 1;have f0:=A.frozen 0;have f1:=A.frozen 1;simp only[aP,aZ]at s0 s1;have HS:=kp (f.store (v:=undef) l m4);clear f j r y A h0 hs;go_wp2_with fail;exact⟨rfl,undef,rfl,HS.o,aV,trivial⟩
  simp only[Act.put,aS,aT];refine⟨fun X W' f l y j r=>?_,fun a6=>?_⟩
  .have l6:X 14=some l0:=j 14 41 l0 (by kernel_rfl) (by kernel_rfl) (bO (by kernel_rfl)) rfl;go_wp2_with fail;exact⟨rfl,_,rfl,f.assign l6,aV,trivial⟩
  simp only[Act.put,aE,aC,aD,aS,aT];apply bQ (by kernel_rfl) (by intro t w h; cases h; exact trivial) rfl
  .intro X W' f l y j r;go_wp2_with fail;exact⟨rfl,_,rfl,f.other _ _ (by decide) (by decide) (by decide) (by decide) (by decide) (by decide),aV,rfl⟩
  simp only[Act.put,aE,aC,aD,aS,aT];intro W5 f r;clear r;simp only[bS,List.drop_nil];obtain rfl:l0=a6:=by have:=f.as_ a6 rfl; cases this; rfl
  obtain⟨v5,e5,o2,m5⟩:=f.res _ (f.ex l0 rfl);obtain rfl:l0=v5:=by cases e5; rfl
  obtain⟨s,rfl,hs,-,q4⟩:=f.var z2 rfl;have z3:=kp (q4 rfl);have e4:=k'3 o2 (m5 s rfl) hs;have W:=kp (U.o.below f.chg);clear f e5 o2 m5 hs q4
  by_cases hc:c=0
  rotate_left
  .have gc:(c==0)=false:=by simp[hc]
   obtain rfl:R=(p.x,50,0):=by rw[g4.o,HC.a hc]
   clear hc;go_wp2_with fail;refine mb' (mC 50 _) fun w4 b0=>?_;have Y:=kp (W.o.below b0);have E:=kp Y.o.res;clear b0;have S:=Blk.cell E.o 0;have T:=Blk.cell E.o 1;have y0:=Blk.frozen E.o 0;have y1:=Blk.frozen E.o 1;simp only[aP,aZ]at S T;have O:=kp ((Blk.setCell E.o 0 (.i (50))).setCell 1 (.i (0)));go_wp2_with fail;clear S T y0 y1;have P:=O.o.cell 0;have Q:=O.o.cell 1;simp only[aC,aD,aP,aZ]at P Q;exact bI (v:=.agg #[.i (50),.i (0)]) (by simp[results,Dy,go_sem,P,Q]) rfl ⟨rfl,Y.o.o 50 0⟩
  subst hc;have j6:=kp (show R=({p.x with obs:=p.x.obs++[⟨p.x.next,b,List.replicate o.n.toNat 0,List.replicate o.m.toNat 0⟩],free:=out,next:=p.x.next+1},0,p.x.next) by rw[g4.o,HC.B rfl]);obtain⟨K,g5⟩:∃K:Nat,o.n=K:=⟨o.n.toNat,by have:=j0.o; omega⟩
  obtain⟨J,d5⟩:∃J:Nat,o.m=J:=⟨o.m.toNat,by have:=j0.o; omega⟩
  have V:=k'2 g5 d5;obtain⟨i0,a5,p5,q5,y5⟩:=info_parts xA;have Z:=k'4 a5 p5 q5 y5;go_wp2_with fail;clear g5 d5 a5 p5 q5 y5;refine eY 14 (CM W5 p.x.next b K J) (fun _=>eQ) (by kernel_rfl) (by kernel_rfl) ⟨bL (aH _ _),(fun _ h=>by cases h),(fun _ h=>by cases h),(fun _ h=>by cases h),fun _ h=>by cases h⟩ ?_
  iterate 8 (refine bE ?_; apply Exists.intro)
  refine bJ dV ?_
  iterate 2 (refine bE ?_; apply Exists.intro)
  iterate 3 (refine bJ dV ?_)
  refine cC ⟨?pers2,?walk2⟩
  case walk2=>
   iterate 8
    apply bQ (by kernel_rfl) (by intro t w h; cases h; exact trivial) rfl
    .intro X W' f l y j r; have hh:=W.o.below f.chg; have q2:=hh.hx.hp.c2; have o3:=hh.op.c3; have A:=z3.o.below f.chg z3.o.lt; have s0:=A.cell 0; have s1:=A.cell 1; simp only[Bk.cells,aP,aZ]at s0 s1; clear hh A; go_wp2_with fail;exact⟨rfl,_,rfl,f.other _ _ (by decide) (by decide) (by decide) (by decide),aV,rfl⟩
    simp only[Act.put,aE,aC,aD,aS,aT]
   refine⟨fun X W' f l y j r=>?_,fun v8=>?_⟩
   .go_wp2_with (at_make; refine wpList_make_full _ rfl _ _ 44 rfl W'.heap.size 3 i0 (.i 0) 1 rY Z.a Z.b Z.c .i64 .i64 _ _ K rfl rfl V.a V.a ?_ ?_ (aN _) ?_)
    .rw[Z.D]; have:=j0.o; have:=V.o; omega
    .have:=j0.o; have:=V.o; unfold maxLen; omega
    intro w6 o1 e3;rw[Hz]at o1;go_wp2_with fail;exact⟨rfl,_,rfl,f.first l ((aH _ _).grown e3 (aN _) (by simp)) (by unfold Ow; rw[yX]; exact o1),aV,trivial⟩
   simp only[Act.put,aE,aC,aD,aS,aT]
   iterate 2
    apply bQ (by kernel_rfl) (by intro t w h; cases h; exact trivial) rfl
    .intro X W' f l y j r; have o4:=(W.o.below f.chg).op.c4; go_wp2_with fail;exact⟨rfl,_,rfl,f.other _ _ (by decide) (by decide) (by decide) (by decide),aV,rfl⟩
    simp only[Act.put,aE,aC,aD,aS,aT]
   refine⟨fun X W' f l y j r=>?_,fun m0=>?_⟩
   .go_wp2_with (at_make; refine wpList_make_full _ rfl _ _ 44 rfl W'.heap.size 3 i0 (.i 0) 1 rY Z.a Z.b Z.c .i64 .i64 _ _ J rfl rfl V.B V.B ?_ ?_ (aN _) ?_)
    .rw[Z.D]; have:=j0.o; have:=V.o; omega
    .have:=j0.o; have:=V.o; unfold maxLen; omega
    intro w6 o1 e3;rw[Hz]at o1;go_wp2_with fail;exact⟨rfl,_,rfl,f.second l ((aH _ _).grown e3 (aN _) (by simp)) (by unfold Ow; rw[yX]; exact o1),aV,trivial⟩
   simp only[Act.put,aE,aC,aD,aS,aT];refine⟨fun X W' f l y j r=>?_,fun a7=>?_⟩
   .have h8:X 8=some v8:=j 8 54 v8 (by kernel_rfl) (by kernel_rfl) (bO (by kernel_rfl)) rfl;have a0:X 11=some m0:=j 11 57 m0 (by kernel_rfl) (by kernel_rfl) (bO (by kernel_rfl)) rfl;obtain⟨A8,c8,rfl,-⟩:=(f.ws v8 h8).1.sl eG;obtain⟨d0,c11,rfl,-⟩:=(f.ls m0 a0).sl eG;have d3:=f.build h8 a0;simp only[yX]at d3;have d6:=kp d3;clear d3;clear h8 a0 f j r y;go_wp2_with fail;exact⟨rfl,_,rfl,d6.o,aV,trivial⟩
   simp only[Act.put,aE,aC,aD,aS,aT];refine⟨fun X W' f l y j r=>?_,fun b7=>?_⟩
   .go_wp2_with fail;exact⟨rfl,_,rfl,f.alloc,aV,trivial⟩
   simp only[Act.put,aE,aC,aD,aS,aT];intro W6 f r;clear r;simp only[bS,bU];obtain⟨z,z',e8,l4,rfl⟩:=f.bd a7 rfl;obtain rfl:v8=z:=by cases e8; rfl
   obtain rfl:m0=z':=by cases l4; rfl
   obtain⟨t,rfl,ht,M⟩:=f.var b7 rfl;obtain⟨y2,g1⟩:=f.ws v8 rfl;have g1:=g1 m0 rfl;have p2:=f.ls m0 rfl;obtain⟨A8,c8,rfl,-⟩:=y2.sl eG;obtain⟨d0,c11,rfl,-⟩:=p2.sl eG;simp only[yX]at y2 g1 p2 ⊢;have t0:=M.cell 0;have t1:=M.cell 1;have t2:=M.cell 2;have t3:=M.cell 3;have t4:=M.cell 4;have f0:=M.frozen 0;have f1:=M.frozen 1;have f2:=M.frozen 2;have f3:=M.frozen 3;have f4:=M.frozen 4;simp only[aP,aZ]at t0 t1 t2 t3 t4;have L:=k'6 f.chg y2 g1 p2 ht M;clear f y2 g1 p2 ht M e8 l4;have j1:=((((Chg.refl (fun i=>i=t) W6).setCell (.inr rfl) 0 (.i p.x.next)).setCell (.inr rfl) 1 (.i b.a)).setCell (.inr rfl) 2 (.i b.o)).setCell (.inr rfl) 3 (.slice A8 K c8)|>.setCell (.inr rfl) 4 (.slice d0 J c11);have g3:=((((L.F.setCell 0 (.i p.x.next)).setCell 1 (.i b.a)).setCell 2 (.i b.o)).setCell 3 (.slice A8 K c8)).setCell 4 (.slice d0 J c11);obtain⟨W7,p6⟩:=nm' (((((W6.setCell ⟨t,0,none⟩ (.i p.x.next)).setCell ⟨t,1,none⟩ (.i b.a)).setCell ⟨t,2,none⟩ (.i b.o)).setCell ⟨t,3,none⟩ (.slice A8 K c8)).setCell ⟨t,4,none⟩ (.slice d0 J c11));rw[p6]at j1 g3;have b3:Bw' W5 W7:=L.a.trans (j1.below (fun i e=>e▸L.e) L.a.size);have a1:=kp (show Blk W7 t 264 (ObV.cells ⟨⟨p.x.next,b,List.replicate K 0,List.replicate J 0⟩,.slice A8 K c8,.slice d0 J c11⟩) from g3);have I:=kp (W.o.below b3);have e0:=k'3 (e4.a.below b3) (L.b.chg j1 fun i G e=>L.b.tagF L.F (by decide) (e▸G.symm)) (L.d.chg j1 fun i G e=>L.d.tagF L.F (by decide) (e▸G.symm));have d4:=kp (show ∀i,some i=p.ov.ownBlock→i<t from fun i G=>by have:=(W.o.wk.obs.lt G.symm).2; have:=L.e; omega);have e6:=kp (show ∀i,some i=p.ov.ownBlock→i<W7.heap.size from fun i G=>(I.o.wk.obs.lt G.symm).2);obtain⟨o0,c14,rfl,-⟩:=e4.a.sl cO;clear j1 g3 b3;go_wp2_with fail;clear t0 t1 t2 t3 t4 f0 f1 f2 f3 f4;obtain⟨q,hq⟩:∃q:ObV,(⟨⟨p.x.next,b,List.replicate K 0,List.replicate J 0⟩,.slice A8 K c8,.slice d0 J c11⟩:ObV)=q:=⟨_,rfl⟩
   have g6:=kp hq;rw[hq]at a1;have j5:q.cells=[.i p.x.next,.i b.a,.i b.o,.slice A8 K c8,.slice d0 J c11]:=by rw[←hq]; rfl
   have a2:=kp j5;clear hq j5;refine eY 18 (CA W7 base g p ps q) (fun _=>eQ) (by kernel_rfl) (by kernel_rfl) ⟨(Chg.refl _ _).drew,(fun _ h=>by cases h),(fun _=>I.o.wk.obs),(fun _ h=>by cases h),(fun _=>I.o.wk.blk),(fun h=>by cases h),fun h=>by cases h⟩ ?_
   iterate 8 (refine bE ?_; apply Exists.intro)
   iterate 2 (refine bJ dV ?_)
   iterate 4 (refine bE ?_; apply Exists.intro)
   refine bJ dV ?_
   iterate 3 (refine bE ?_; apply Exists.intro)
   refine cC ⟨?pers3,?walk3⟩
   case walk3=>
    iterate 6
     apply bQ (by kernel_rfl) (by intro t w h; cases h; exact trivial) rfl
     .intro X W' f l y j r; go_wp2_with fail;exact⟨rfl,_,rfl,f.other _ _ (by decide) (by decide) (by decide),aV,rfl⟩
     simp only[Act.put,aE,aC,aD,aS,aT]
    apply bQ (by kernel_rfl) (by intro t w h; cases h; exact trivial) rfl
    .intro X W' f l y j r; have q1:W'.cell? ⟨g,1,none⟩=some p.ov:=(f.no (f.early6 l)).cell 1; go_wp2_with fail;exact⟨rfl,_,rfl,f.other _ _ (by decide) (by decide) (by decide),aV,rfl⟩
    simp only[Act.put,aE,aC,aD,aS,aT];apply bQ (by kernel_rfl) (by intro t w h; cases h; exact trivial) rfl
    .intro X W' f l y j r;have A:=a1.o.chg f.chg fun e=>by
      rcases e with e|e
      .have:=d4.o t e; omega
      .exact a1.o.ne I.o.wk.blk (by decide) e
     rw[a2.o]at A;have t0:=A.cell 0;have t1:=A.cell 1;have t2:=A.cell 2;have t3:=A.cell 3;have t4:=A.cell 4;simp only[aP,aZ]at t0 t1 t2 t3 t4;clear A;go_wp2_with fail;exact⟨rfl,_,rfl,f.other _ _ (by decide) (by decide) (by decide),aV,rfl⟩
    simp only[Act.put,aE,aC,aD,aS,aT];refine⟨fun X W' f l y j r=>?_,fun u8=>?_⟩
    .go_wp2_with fail;exact⟨rfl,_,rfl,f.build (by rw[a2.o]),aV,trivial⟩
    simp only[Act.put,aE,aC,aD,aS,aT];refine⟨fun X W' f l y j r=>?_,fun u9=>?_⟩
    .have h8:X 8=some u8:=j 8 67 u8 (by kernel_rfl) (by kernel_rfl) (bO (by kernel_rfl)) rfl;obtain⟨bb,rfl,g7,A⟩:=f.two u8 h8;have b6:=kp (fun v Wn ho hg=>f.append (v:=v) (Wn:=Wn) e6.o l (y 6 (by kernel_rfl)) ho hg);have a3:=k'3 (f.row l) (Ss A) (aB I.o.h0 (aB I.o.bw.bel.size f.chg.size));clear f j r y A;go_wp2_with (at_builtin; refine jD (enc:=ObV.cells) W' rfl (.tmp 65) (.tmp 67) 36 rfl base 264 xC tW rfl (by omega) eV a3.a rfl a3.b rfl (fun a ha=>?_) ?_ ?_ a3.C ?_)
     .rw[bZ.1 ha,a2.o];intro u hu;simp only[bD,dF,or_false]at hu;rcases hu with rfl|rfl|rfl|rfl|rfl<;>rfl
     .have:=a4.o; unfold maxLen; show ps.length+1≤_; omega
     .have:=a4.o; show (ps.length+1)*72≤_; omega
     intro v' Wn ho l7 hg j7;exact⟨rfl,_,rfl,b6.o v' Wn ho hg,aV,trivial⟩
    simp only[Act.put,aE,aC,aD,aS,aT]
    iterate 4
     apply bQ (by kernel_rfl) (by intro t w h; cases h; exact trivial) rfl
     .intro X W' f l y j r; go_wp2_with fail;exact⟨rfl,_,rfl,f.other _ _ (by decide) (by decide) (by decide),aV,rfl⟩
     simp only[Act.put,aE,aC,aD,aS,aT]
    refine⟨fun X W' f l y j r=>?_,fun l0=>?_⟩
    .have h9:X 9=some u9:=j 9 68 u9 (by kernel_rfl) (by kernel_rfl) (bO (by kernel_rfl)) rfl;obtain⟨A9,c9,rfl,-⟩:=(f.app u9 h9).sl eV;have hg:=f.no l;have k1:W'.cell? ⟨g,1,none⟩=some p.ov:=hg.cell 1;have f1:=hg.frozen 1;have p3:=f.store (v:=undef) l h9;simp only[bF,eS,nL,gL]at p3;have HS:=kp p3;clear f j r y hg h9 p3;go_wp2_with fail;exact⟨rfl,undef,rfl,HS.o,aV,trivial⟩
    simp only[Act.put,aS,aT]
    iterate 3
     apply bQ (by kernel_rfl) (by intro t w h; cases h; exact trivial) rfl
     .intro X W' f l y j r; go_wp2_with fail;exact⟨rfl,_,rfl,f.other _ _ (by decide) (by decide) (by decide),aV,rfl⟩
     simp only[Act.put,aE,aC,aD,aS,aT]
    intro W8 f r;clear r;simp only[bS,bU];obtain⟨z,e9,g0⟩:=f.st rfl;obtain rfl:u9=z:=by cases e9; rfl
    have d2:=f.app u9 rfl;obtain⟨A9,c9,rfl,-⟩:=d2.sl eV;have j3:=a1.o.chg f.chg fun e=>by
     rcases e with e|e
     .have:=d4.o t e; omega
     .exact a1.o.ne I.o.wk.blk (by decide) e
    have g2:=((Chg.refl (fun i=>i=g) W8).setCell (.inr rfl) 7 (.slice o0 out.length c14)).setCell (.inr rfl) 2 (.i (p.x.next+1));have j2:=(g0.setCell 7 (.slice o0 out.length c14)).setCell 2 (.i (p.x.next+1));have l1:=j3.chg g2 (j3.ne g0 (by decide));have m2:=d2.chg g2 fun i G e=>d2.ne_blk g0 (by decide) (e▸G);have b2:Chg (fun i=>some i=p.ov.ownBlock∨i=g) W7 _:=f.chg.trans g2 fun i _ e=>.inr e;have k7:=g0.cell 7;have f7:=g0.frozen 7;obtain⟨W9,q6⟩:=nm' (W8.setCell ⟨g,7,none⟩ (.slice o0 out.length c14));have l2:=g0.setCell 7 (.slice o0 out.length c14);rw[q6]at l2 j2 l1 m2 b2;have k2:=l2.cell 2;have f2:=l2.frozen 2;obtain⟨e7,m6⟩:=nm' (W9.setCell ⟨g,2,none⟩ (.i (p.x.next+1)));rw[m6]at j2 l1 m2 b2;rw[a2.o]at l1;have t0:=l1.cell 0;simp only[HpV.cells,aC,aD,aP,aZ]at k7 k2 t0;have y3:=g6.o;have l5:Rws W7 base (ps++[q]):=by
     rw[←y3];refine I.o.wk.rws.snoc (e0.b.mono (aB I.o.h0 W.o.bw.bel.size)) (e0.C.mono (aB I.o.h0 W.o.bw.bel.size)) L.c fun x hx=>?_;have h1:=(W.o.wk.rws.row x hx).1;have h2:=(W.o.wk.rws.row x hx).2;refine⟨fun i G hj=>?_,fun i G hj=>?_,fun i G hj=>?_,fun i G hj=>?_⟩
     .have:=(h1.lt G).2; have:=(e0.b.lt hj).1; omega
     .have:=(h1.lt G).2; have:=(e0.C.lt hj).1; omega
     .have:=(h2.lt G).2; have:=(e0.b.lt hj).1; omega
     .have:=(h2.lt G).2; have:=(e0.C.lt hj).1; omega
    have hG:=I.o.grew (p':=⟨{p.x with obs:=p.x.obs++[⟨p.x.next,b,List.replicate K 0,List.replicate J 0⟩],free:=out,next:=p.x.next+1},.slice A9 (ps++[q]).length c9,.slice o0 out.length c14⟩) b2 j2 m2 l5 e0.a (aB I.o.h0 U.o.bw.bel.size);have b1:=kp hG.1;have HG:=kp (hG.2.2.o hG.2.1 I.o.h0 (Nat.le_succ _) (by rw[fW,←HE.o,←y3]; rfl) rfl 0 p.x.next);have z6:=HH.o.next;have g8: -9223372036854775808≤p.x.next+1:=by omega
    have g9:p.x.next+1≤9223372036854775807:=by omega
    have l3:=V.o;have p4:=j6.o;rw[l3.1,l3.2,gS,gS]at p4;subst p4;simp only[bF,eS,nL,gL];clear j2 l1 m2 b2 l5 hG z6 l3 y3 d2 g2 j3 g0 l2 e9 f;have S:=Blk.cell b1.o 0;have T:=Blk.cell b1.o 1;have y0:=Blk.frozen b1.o 0;have y1:=Blk.frozen b1.o 1;simp only[aP,aZ]at S T;have O:=kp ((Blk.setCell b1.o 0 (.i (0))).setCell 1 (.i (p.x.next)));go_wp2_with fail;clear S T y0 y1;have P:=O.o.cell 0;have Q:=O.o.cell 1;simp only[aC,aD,aP,aZ]at P Q;exact bI (v:=.agg #[.i (0),.i (p.x.next)]) (by simp[results,Dy,go_sem,P,Q]) rfl ⟨rfl,HG.o⟩
   case pers3=>exact⟨pv',pv',pv',pv',pv',pv',pv',pv',fun _ _ _ _ _ h _=>h,fun _ _ _ _ _ h _=>h,pv',pv',pv',pv',fun _ _ _ _ _ h _=>h,pv',pv',pv',trivial⟩
  case pers2=>exact⟨pv',pv',pv',pv',pv',pv',pv',pv',fun _ _ _ _ _ h _=>h,pv',pv',fun _ _ _ _ _ h _=>h,fun _ _ _ _ _ h _=>h,fun _ _ _ _ _ h _=>h,trivial⟩
 case pers=>exact⟨pv',pv',pv',pv',pv',pv',pv',pv',pv',pv',pv',fun _ _ _ _ _ h _=>h,fun _ _ _ _ _ h _=>h,pv',fun _ _ _ _ _ h _=>h,pv',fun _ _ _ _ _ h _=>h,fun _ _ _ _ _ h _=>h,fun _ _ _ _ _ h _=>h,pv',trivial⟩
end
end Go.Proofs.YtoncgpddjmgbfaaGreat
