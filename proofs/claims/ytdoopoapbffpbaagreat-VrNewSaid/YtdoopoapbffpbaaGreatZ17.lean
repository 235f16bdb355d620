import Derived.Test.YtdoopoapbffpbaaGreatZ15
namespace Go.Proofs.YtdoopoapbffpbaaGreat
open Go.RowKit Go.Proofs.Tryz
set_option maxRecDepth 100000
set_option maxHeartbeats 12800000
set_option linter.unusedVariables false
set_option linter.unusedSimpArgs false
section
structure Hx(w:World)(base g r:Nat)(p:HpV)(F:List Bk)(ps:List ObV):Prop where
 blk:Blk w g 228 p.cells
 lo:base≤g
 res:bZ w r 0 0
 lr:base≤r
 obs:OR w (fun i=>base≤i) 90 5 p.ov ObV.cells ps
 rws:Rws w base ps
 free:OR w (fun i=>base≤i) 88 2 p.fv Bk.cells F
structure Bw(base:Nat)(w w':World):Prop where
 bel:Below base w w'
 keep:∀i cs,Blk w i 53 cs→Blk w' i 53 cs
section
variable {α:Type}{enc:α→List Value}{w0 w w':World}{base b k:Nat}{t:TypeId}{cs:List Value}{S:Nat→Prop}{v:Value}{l:List α}
theorem Bw.of(b:base≤w.heap.size)(h:Bw' w w'):Bw base w w':=⟨h.mono b,fun _ _ a=>a.below h a.lt⟩
theorem Bw.below(h:Bw base w0 w)(c:base≤w0.heap.size)(a:Bw' w w'):Bw base w0 w':=⟨h.bel.trans (a.mono (aB c h.bel.size)),fun i cs b=>(h.keep i cs b).below a (h.keep i cs b).lt⟩
theorem Bw.chg(h:Bw base w0 w)(d:base≤w0.heap.size)(f:Blk w b t cs)(g:base≤b)(j:53≠t)(a:Chg (fun i=>i=b) w w'):Bw base w0 w':=
 ⟨h.bel.trans (a.below (fun _ e=>e▸g) (aB d h.bel.size)),fun i cs c=>(h.keep i cs c).chg a ((h.keep i cs c).ne f j)⟩
theorem Bw.row(h:Bw base w0 w)(d:base≤w0.heap.size)(c:OR w S t k v enc l)(f:∀i,S i→base≤i)(g:53≠t)(a:Chg (fun i=>some i=v.ownBlock) w w'):Bw base w0 w':=
 ⟨h.bel.trans (a.below (fun i e=>f i (aO.lt c i e).1) (aB d h.bel.size)),fun i cs b=>(h.keep i cs b).chg a (aO.not_blk c (h.keep i cs b) g)⟩
end
structure Wx(w:World)(base g:Nat)(p:HpV)(ps:List ObV):Prop where
 blk:Blk w g 228 p.cells
 lo:base≤g
 obs:OR w (fun i=>base≤i) 90 5 p.ov ObV.cells ps
 rws:Rws w base ps
 free:OR w (fun i=>base≤i) 88 2 p.fv Bk.cells p.x.free
 eq:p.x.obs=ps.map (·.x)
def Wo(base g:Nat)(x:Hp)(w w':World):Prop:=∃p ps,p.x=x∧Wx w' base g p ps∧Bw base w w'
section
variable {w w':World}{base g r:Nat}{p:HpV}{F:List Bk}{ps qs:List ObV}
theorem Hx.of(h:Wk w base g 228 p ps)(b:base≤w.heap.size):Hx (w.alloc (.cells #[.i 0,.i 0] 53)) base g w.heap.size p p.x.free ps:=by
 have a:=h.below (ba' w (.cells #[.i 0,.i 0] 53));exact⟨a.blk,a.lo,bZ.new w,b,OR.of_ow a.obs fun i h _=>h,a.rws,a.free⟩
theorem Hx.below(h:Hx w base g r p F ps)(a:Bw' w w'):Hx w' base g r p F ps:=
 ⟨h.blk.below a h.blk.lt,h.lo,h.res.below a,h.lr,h.obs.below a,h.rws.below a,h.free.below a⟩
theorem Hx.hp(h:Hx w base g r p F ps):cI w g 228 p:=.of h.blk
theorem Ow.tagF{α:Type}{enc:α→List Value}{k:Nat}{t d:TypeId}{v:Value}{l:List α}{cs:List Value}{b:Nat}(h:Ow w base t k v enc l)(g:Blk w b d cs)(i:t≠d):some b≠v.ownBlock:=fun e=>by
 obtain⟨c,f,a⟩:=h.tag e.symm;rw[show w.heap[b]? =_ from g]at a
 cases a;exact i rfl
theorem Hx.chg(h:Hx w base g r p F ps){b:Nat}{t:TypeId}{cs:List Value}(c:Blk w b t cs)(d:Chg (fun i=>i=b) w w')(k:t≠90)(l:t≠88)(f:t≠3):
  OR w' (fun i=>base≤i) 90 5 p.ov ObV.cells ps∧Rws w' base ps∧OR w' (fun i=>base≤i) 88 2 p.fv Bk.cells F:=
 ⟨aO.chg h.obs d fun _ a e=>aO.not_blk h.obs c k (e▸a),h.rws.chg d fun q j _ e=>⟨fun a=>(h.rws.row q j).1.tagF c (fun e=>f e.symm) (e▸a.symm),fun a=>(h.rws.row q j).2.tagF c (fun e=>f e.symm) (e▸a.symm)⟩,aO.chg h.free d fun _ a e=>aO.not_blk h.free c l (e▸a)⟩
theorem Hx.put(h:Hx w base g r p F ps)(j:Nat)(u:Value){p':HpV}(e:p'.cells=p.cells.set j u)(k:p'.ov=p.ov)(f:p'.fv=p.fv):Hx (w.setCell ⟨g,j,none⟩ u) base g r p' F ps:=by
 have a:=(Chg.refl (fun i=>i=g) w).setCell (.inr rfl) j u;obtain⟨b,c,d⟩:=h.chg h.blk a (by decide) (by decide) (by decide);refine⟨by rw[e]; exact h.blk.setCell j u,h.lo,Blk.chg h.res a (Blk.ne h.res h.blk (by decide)),h.lr,by rw[k]; exact b,c,by rw[f]; exact d⟩
theorem Hx.row(h:Hx w base g r p F ps){v:Value}{t:List Int}(b:Ow w base 3 1 v i1 t)(a:Chg (fun i=>some i=v.ownBlock) w w')(k:Rws w' base qs)(f:aM ObV.cells qs=aM ObV.cells ps)(j:qs.length=ps.length):Hx w' base g r p F qs:=by
 refine⟨h.blk.chg a (b.tagF h.blk (by decide)),h.lo,Blk.chg h.res a (b.tagF h.res (by decide)),h.lr,?_,k,aO.chg h.free a fun i d e=>?_⟩
 .unfold OR;rw[f,j];refine aO.chg h.obs a fun i d e=>?_;obtain⟨c,a⟩:=aO.tag h.obs d;exact b.tagF a (by decide) e
 .obtain⟨c,a⟩:=aO.tag h.free d;exact b.tagF a (by decide) e
theorem Hx.del{f:Value}(h:Hx w base g r p F ps)(j:Chg (fun k=>some k=p.ov.ownBlock) w w')(y:OR w' (fun i=>base≤i) 90 5 f ObV.cells qs)(d:qs.Sublist ps):
  Blk w' g 228 p.cells∧Hx (w'.setCell ⟨g,1,none⟩ f) base g r ⟨p.x,f,p.fv⟩ F qs:=by
 have b:=h.blk.chg j (aO.not_blk h.obs h.blk (by decide));have o:bZ w' r 0 0:=Blk.chg h.res j (aO.not_blk h.obs h.res (by decide));have m:=(h.rws.sub d).chg j fun q z i e=>⟨fun a=>by
  obtain⟨c,n⟩:=aO.tag h.obs e;exact (h.rws.row q (d.mem z)).1.tagF n (by decide) a.symm,fun a=>by
  obtain⟨c,n⟩:=aO.tag h.obs e;exact (h.rws.row q (d.mem z)).2.tagF n (by decide) a.symm⟩
 have s:=aO.chg h.free j fun i a e=>aO.not_row h.obs h.free (by decide) i e a;have l:=(Chg.refl (fun i=>i=g) w').setCell (.inr rfl) 1 f;refine⟨b,b.setCell 1 f,h.lo,Blk.chg o l (Blk.ne o b (by decide)),h.lr,?_,?_,?_⟩
 .exact aO.chg y l fun _ a e=>aO.not_blk y b (by decide) (e▸a)
 .exact m.chg l fun q d _ e=>⟨fun a=>(m.row q d).1.tagF b (by decide) (e▸a.symm),fun a=>(m.row q d).2.tagF b (by decide) (e▸a.symm)⟩
 .exact aO.chg s l fun _ a e=>aO.not_blk s b (by decide) (e▸a)
theorem Rws.ones(h:Rws w base ps):∀u∈aM ObV.cells ps,u.oneCell'=true:=fun u a=>by
 obtain⟨r,b,a⟩:=List.mem_flatten.1 a;obtain⟨x,c,rfl⟩:=cX.1 b;have:=h.row x c;unfold ObV.cells at a;simp only[bA,dW,or_false]at a;rcases a with rfl|rfl|rfl|rfl|rfl
 .rfl
 .rfl
 .rfl
 .exact this.1.one
 .exact this.2.one
theorem Hx.o(h:Hx w base g r p F ps){w0:World}(b:Bw base w0 w)(j:base≤w0.heap.size)(s:w0.heap.size≤r)(q:p.x.obs=ps.map (·.x))(n:p.x.free=F)(c d:Int):Wo base g p.x w0 ((w.setCell ⟨r,0,none⟩ (.i c)).setCell ⟨r,1,none⟩ (.i d)):=by
 have a:=((Chg.refl (fun i=>i=r) w).setCell (.inr rfl) 0 (.i c)).setCell (.inr rfl) 1 (.i d);obtain⟨k,l,m⟩:=h.chg h.res a (by decide) (by decide) (by decide);refine⟨p,ps,rfl,⟨h.blk.chg a (h.blk.ne h.res (by decide)),h.lo,k,l,by rw[n]; exact m,q⟩,b.bel.trans (a.below (fun i e=>e▸h.lr) (aB j b.bel.size)),fun i cs f=>(b.keep i cs f).chg a fun e=>by have:=f.lt; omega⟩
theorem Wx.hpAt(h:Wx w base g p ps):gH w w.heap.size p ps:=⟨⟨h.obs.sl,fun q a=>⟨(h.rws.row q a).1.sl cS,(h.rws.row q a).2.sl cS⟩⟩,h.eq,h.free.sl⟩
theorem Wx.hx(h:Wx w base g p ps)(b:bZ w r 0 0)(a:base≤r):Hx w base g r p p.x.free ps:=⟨h.blk,h.lo,b,a,h.obs,h.rws,h.free⟩
theorem Wk.wx(h:Wk w base g 228 p ps):Wx w base g p ps:=⟨h.blk,h.lo,OR.of_ow h.obs fun _ h _=>h,h.rws,h.free,h.eq⟩
theorem Wo.fin{w0:World}{x:Hp}(h:Wo base g x w w')(e:Bw base w0 w)(b:base≤w0.heap.size)(m:bZ w r 0 0)(f:w0.heap.size≤r)(c d:Int):
  bZ w' r 0 0∧Wo base g x w0 ((w'.setCell ⟨r,0,none⟩ (.i c)).setCell ⟨r,1,none⟩ (.i d)):=by
 obtain⟨p,ps,rfl,k,a⟩:=h;have j:=a.keep _ _ m;exact⟨j,(k.hx j (aB b f)).o ⟨e.bel.trans a.bel,fun i cs l=>a.keep i cs (e.keep i cs l)⟩ b f k.eq rfl c d⟩
end
theorem yE{α β:Type}(f:α→β):∀(l:List α)(q:Nat),(l.map f).eraseIdx q=(l.eraseIdx q).map f
 |[],_=>rfl
 |_::_,0=>rfl
 |x::l,q+1=>bG (f x::·) (yE f l q)
def iM(t:Int)(y:ObV):ObV:=⟨{y.x with ls:=eH t y.x.ls},y.wv,y.lv⟩
def gO(t:Int)(ps:List ObV)(k:Nat):List ObV:=(ps.take k).map (iM t)++ps.drop k
theorem Jq(t:Int)(ps:List ObV)(k:Nat):(gO t ps k).length=ps.length:=by unfold gO; simp; omega
theorem Jr(t:Int)(ps:List ObV)(k:Nat)(a:k<ps.length):(gO t ps k)[k]? =some ps[k]:=by
 unfold gO;rw[Er (by simp; omega)];simp[show min k ps.length=k by omega,a]
theorem Js(t:Int)(ps:List ObV)(k:Nat)(a:k<ps.length):(gO t ps k).set k (iM t ps[k])=gO t ps (k+1):=by
 unfold gO;have b:((ps.take k).map (iM t)).length=k:=by simp; omega
 rw[qM _ _ (by omega),b,qS,fG a,aH,cV a,gC,cR]; rfl
theorem Jt(t:Int)(ps:List ObV)(k:Nat):aM ObV.cells (gO t ps k)=aM ObV.cells ps:=by
 unfold gO
 conv=>rhs; rw[←wB k ps]
 rw[lV,lV]
 congr 1
 unfold aM;rw[pC]; rfl
structure CG(W:World)(g:Nat)(p:HpV)(F:List Bk)(X:Nat→Option Value)(W':World):Prop where
 chg:Chg (fun i=>i=g) W W'
 res:∀u,X 13=some u→∃v',u=.tuple #[v',.i 0]∧OR W' (fun i=>W.heap.size≤i) 88 2 v' Bk.cells F
 mv:∀z,X 14=some z→X 13=some z
 ex:∀z,X 15=some z→X 13=some (.tuple #[z,.i 0])
 no:X 20=none→Blk W' g 228 p.cells
 st:(X 20).isSome=true→∃z,X 15=some z∧Blk W' g 228 (HpV.cells ⟨p.x,p.ov,z⟩)
 dep:(X 13).isSome=true→(X 10).isSome=true
section
variable {W W' W2:World}{g:Nat}{p:HpV}{F:List Bk}{X:Nat→Option Value}{v z:Value}
theorem aR{j i:Nat}(h:i≠j):bD X j v i=X i:=aC h
theorem CG.other(h:CG W g p F X W')(j:Nat)(v:Value)(a:j≠13)(e:j≠14)(b:j≠15)(c:j≠20):CG W g p F (bD X j v) W':=by
 refine⟨h.chg,?_,?_,?_,?_,?_,?_⟩
 .rw[aR (bL a)]; exact h.res
 .rw[aR (bL e),aR (bL a)]; exact h.mv
 .rw[aR (bL b),aR (bL a)]; exact h.ex
 .rw[aR (bL c)]; exact h.no
 .rw[aR (bL c),aR (bL b)]; exact h.st
 .rw[aR (bL a)];intro f
  by_cases d:10=j
  .subst d; unfold bD; rw[aE rfl]; rfl
  .rw[aR d]; exact h.dep f
theorem CG.early(h:CG W g p F X W')(b:X 10=none):X 20=none∧X 13=none:=by
 have a:X 13=none:=by
  cases hx:X 13 with
  |none=>rfl
  |some u=>have:=h.dep (by rw[hx]; rfl); rw[b]at this; cases this
 refine⟨?_,a⟩
 cases hx:X 20 with
 |none=>rfl
 |some u=>
  obtain⟨z,c,_⟩:=h.st (by rw[hx]; rfl);have:=h.ex z c;rw[a]at this
  cases this
theorem CG.at0(h:CG W g p F X W'):W'.cell? ⟨g,0,none⟩=some (.i p.x.order):=by
 cases hx:X 20 with
 |none=>exact (h.no hx).cell 0
 |some u=>obtain⟨z,_,a⟩:=h.st (by rw[hx]; rfl); exact a.cell 0
theorem CG.call(h:CG W g p F X W')(d:X 13=none)(f:(X 10).isSome=true)(j:OR W2 (fun i=>W.heap.size≤i) 88 2 v Bk.cells F)(c:Bw' W' W2):CG W g p F (bD X 13 (.tuple #[v,.i 0])) W2:=by
 refine⟨h.chg.then c,fun u k=>?_,fun z a=>?_,fun z a=>?_,fun b=>?_,fun b=>?_,fun _=>by rw[aR (by decide)]; exact f⟩
 .cases k; exact⟨v,rfl,j⟩
 .rw[aR (by decide)]at a; have:=h.mv z a; rw[d]at this; cases this
 .rw[aR (by decide)]at a; have:=h.ex z a; rw[d]at this; cases this
 .rw[aR (by decide)]at b; exact (h.no b).below c (h.no b).lt
 .rw[aR (by decide)]at b;obtain⟨z,a,e⟩:=h.st b;exact⟨z,by rw[aR (by decide)]; exact a,e.below c e.lt⟩
theorem CG.move(h:CG W g p F X W')(a:X 13=some z):CG W g p F (bD X 14 z) W':=by
 refine⟨h.chg,h.res,fun y b=>?_,h.ex,h.no,h.st,h.dep⟩
 cases b; rw[aR (by decide)]; exact a
theorem CG.extr(h:CG W g p F X W')(d:X 15=none)(c:X 13=some (.tuple #[z,.i 0])):CG W g p F (bD X 15 z) W':=by
 refine⟨h.chg,h.res,h.mv,fun y a=>?_,h.no,fun b=>?_,h.dep⟩
 .cases a; rw[aR (by decide)]; exact c
 .rw[aR (by decide)]at b;obtain⟨y,a,_⟩:=h.st b;rw[d]at a
  cases a
theorem CG.store(h:CG W g p F X W')(f:X 20=none)(d:X 15=some z):CG W g p F (bD X 20 v) (W'.setCell ⟨g,7,none⟩ z):=by
 have a:=h.no f;have j:=(Chg.refl (fun i=>i=g) W').setCell (.inr rfl) 7 z;refine⟨h.chg.setCell (.inr rfl) _ _,fun u c=>?_,h.mv,h.ex,(fun l=>by cases l),fun _=>⟨z,by rw[aR (by decide)]; exact d,a.setCell 7 z⟩,h.dep⟩;rw[aR (by decide)]at c;obtain⟨v',e,b⟩:=h.res u c;exact⟨v',e,aO.chg b j fun _ k e=>aO.not_blk b a (by decide) (e▸k)⟩
end
theorem Un{base g:Nat}{p:HpV}{ps:List ObV}(q:Nat)(w:World)(h:Wk w base g 228 p ps)(W:base≤w.heap.size)(H:HOk p.x)(N:q<ps.length):
  Calls prog 254 #[.pointer (some ⟨g,0,none⟩),.i q] w fun e w'=>e=.returned (.agg #[.i 0,.i 0])∧Wo base g (nK p.x q ps[q].x) w w':=by
 have hL:=H.len;have o5:=H.give (show p.x.obs[q]? =some ps[q].x by rw[h.eq]; simp[N]);have HX:=kp (Hx.of h W);have HE:=kp h.eq;have HY:=kp (show ps[q]∈ps from bK N);have HQ:=kp N;have b3:=kp (show ps.length≤256 by have:=bG List.length h.eq; rw[cW]at this; omega);have e4:=kp hL.2;have D:=kp W;have o3:=kp (ba' w (.cells #[.i 0,.i 0] 53));have HG:=kp o5;have j4:=kp (fun(x:ObV)(hx:x∈ps)=>H.lens (show x.x∈p.x.obs by rw[h.eq]; exact cX.2 ⟨x,hx,rfl⟩));obtain⟨y,E⟩:=nm' (ps[q]);rw[E]at HG ⊢;have z6:=kp E;obtain⟨A,c,e2,j2,y5,-⟩:=(Hx.of h W).obs.sl;obtain⟨b,e7,rfl,-,s,-⟩:=bV (P:=prog) 5 cM (by omega) j2 q N;obtain⟨n,hn⟩:=nm' ps.length;have HN:=kp hn;rw[E]at s;obtain⟨⟨Aw,cw,l2,-,-,-⟩,⟨Al,cl,d2,-,-,-⟩⟩:=(jQ ((h.rws.row _ (bK N)).1.sl cS) ((h.rws.row _ (bK N)).2.sl cS))
 rw[E]at l2 d2;have x0:=s 0 _ rfl;have x1:=s 1 _ rfl;have x2:=s 2 _ rfl;have x3:=s 3 _ rfl;have x4:=s 4 _ rfl;simp only[cF]at x0;rw[l2]at x3;rw[d2]at x4;have HV:=k'2 l2 d2;have q1:=HX.o.hp.c1;rw[e2]at q1;rw[hn]at e2 y5 N q1;have b1:=kp e2;have g1:(q:Int)<n:=by omega
 have o1:=(aL _ (w.alloc (.cells #[.i 0,.i 0] 53))).alloc (aD _) (.cells #[.i y.x.h,.i y.x.b.a,.i y.x.b.o,.slice Aw y.x.ws.length cw,.slice Al y.x.ls.length cl] 90);have j3:gJ ((w.alloc (.cells #[.i 0,.i 0] 53)).alloc (.cells #[.i y.x.h,.i y.x.b.a,.i y.x.b.o,.slice Aw y.x.ws.length cw,.slice Al y.x.ls.length cl] 90)) (w.heap.size+1) 90 y:=.of (by
  have:=Blk.new (w.alloc (.cells #[.i 0,.i 0] 53)) 90 y.cells;unfold ObV.cells at this ⊢;rw[HV.a,HV.B]at this ⊢;simpa using this)
 obtain⟨W2,j5⟩:=nm' ((w.alloc (.cells #[.i 0,.i 0] 53)).alloc (.cells #[.i y.x.h,.i y.x.b.a,.i y.x.b.o,.slice Aw y.x.ws.length cw,.slice Al y.x.ls.length cl] 90));rw[j5]at o1 j3;have p3:=kp ((Bw.of D.o o3.o).below D.o o1);have V:=kp (HX.o.below o1);have m4:=kp j3;have q2:=V.o.hp.c1;rw[b1.o]at q2;have HD:=Tq q (q+1) W2 V.o.obs V.o.rws.ones (by have:=HN.o; omega) rfl;rw[show ((q+1:Nat):Int)=(q:Int)+1 from rfl,b1.o]at HD;have d4:=kp HD;have g5:(q:Int)+1≤9223372036854775807:=by have:=b3.o; omega
 go_enter func254,ntmps254;go_wp2_with fail;refine (d4.o).mono ?_;rintro e w3 ⟨v3,rfl,g3,e0,b7⟩;dsimp only;rw[←b1.o]at e0;obtain⟨M,c3,rfl,-,-,-⟩:=g3.sl;have l3:gJ w3 (w.heap.size+1) 90 y:=.of (m4.o.blk.chg e0 fun e=>by have:=(HX.o.obs.lt _ e).2; simp at this);obtain⟨j0,m2⟩:=V.o.del e0 g3 (zQ ps q);have g0:=(Chg.refl (fun i=>i=g) w3).setCell (.inr rfl) 1 (.slice M (ps.eraseIdx q).length c3);have o2:gJ _ (w.heap.size+1) 90 y:=.of (l3.blk.chg g0 (l3.blk.ne j0 (by decide)));have a2:=(p3.o.row D.o V.o.obs (fun _ h=>h) (by decide) e0).chg D.o j0 HX.o.lo (by decide) g0;have k1:=j0.cell 1;have f1:=j0.frozen 1;simp only[HpV.cells,aK,aG]at k1;obtain⟨m,hm⟩:=nm' ((ps.eraseIdx q).length);rw[hm]at m2 g0 o2 a2 ⊢;obtain⟨W4,l5⟩:=nm' (w3.setCell ⟨g,1,none⟩ (.slice M m c3));rw[l5]at m2 g0 o2 a2;have HM:=kp hm;have f:=kp m2;have a0:=kp o2;have p2:=kp a2;have g4:=kp (fun(W':World)(hc:Chg (fun i=>i=g) W4 W')=>by
  have:=Tz p.x.order p.fv W'.heap.size p.x.free y.x.b W' (OR.sl (aO.chg f.o.free hc fun _ hi e=>aO.not_blk f.o.free f.o.blk (by decide) (e▸hi))) (aD _) (by have:=e4.o; omega);rw[HG.o]at this;exact this)
 go_wp2_with fail;refine fR 21 (CG W4 g ⟨p.x,.slice M m c3,p.fv⟩ (dH p.x.order 9 y.x.b p.x.free)) (fun _=>fK) (by kernel_rfl) (by kernel_rfl) ⟨(Chg.refl _ _).drew,(fun _ h=>by cases h),(fun _ h=>by cases h),(fun _ h=>by cases h),(fun _=>f.o.blk),(fun h=>by cases h),fun h=>by cases h⟩ ?_
 iterate 13 (refine bO ?_; apply Exists.intro)
 iterate 3 (refine bS eM ?_)
 iterate 4 (refine bO ?_; apply Exists.intro)
 refine bS eM ?_;refine dR ⟨?pers,?walk⟩
 case walk=>
  iterate 10
   apply Ug (by kernel_rfl) (by intro t w h; cases h; exact trivial) rfl
   .intro X W' d r I C F; have q0:=d.at0; go_wp2_with fail;exact⟨rfl,_,rfl,d.other _ _ (by decide) (by decide) (by decide) (by decide),aV,rfl⟩
   simp only[Act.put,aN,aH,aI,aT,aW]
  apply Ug (by kernel_rfl) (by intro t w h; cases h; exact trivial) rfl
  .intro X W' d r I C F; have q7:W'.cell? ⟨g,7,none⟩=some p.fv:=(d.no (d.early r).1).cell 7; go_wp2_with fail;exact⟨rfl,_,rfl,d.other _ _ (by decide) (by decide) (by decide) (by decide),aV,rfl⟩
  simp only[Act.put,aN,aH,aI,aT,aW]
  iterate 2
   apply Ug (by kernel_rfl) (by intro t w h; cases h; exact trivial) rfl
   .intro X W' d r I C F; have E:=gJ.of (a0.o.blk.chg d.chg (a0.o.blk.ne f.o.blk (by decide))); have s1:=E.c1; have s2:=E.c2; clear E; go_wp2_with fail;exact⟨rfl,_,rfl,d.other _ _ (by decide) (by decide) (by decide) (by decide),aV,rfl⟩
   simp only[Act.put,aN,aH,aI,aT,aW]
  refine⟨fun X W' d r I C F=>?_,fun m3=>?_⟩
  .go_wp2_with fail;refine (g4.o W' d.chg).mono ?_;rintro e w5 ⟨v5,rfl,j6,m5⟩;go_wp2_with fail;exact⟨rfl,_,rfl,d.call r (I 10 (by kernel_rfl)) (j6.mono fun i _ h=>aB d.chg.size h) m5,aV,trivial⟩
  simp only[Act.put,aN,aH,aI,aT,aW];refine⟨fun X W' d r I C F=>?_,fun L=>?_⟩
  .have d0:X 13=some m3:=C 13 44 m3 (by kernel_rfl) (by kernel_rfl) (bT (by kernel_rfl)) rfl;go_wp2_with fail;exact⟨rfl,_,rfl,d.move d0,aV,trivial⟩
  simp only[Act.put,aN,aH,aI,aT,aW];refine⟨fun X W' d r I C F=>?_,fun O=>?_⟩
  .have m1:X 14=some L:=C 14 30 L (by kernel_rfl) (by kernel_rfl) (bT (by kernel_rfl)) rfl;have d0:=d.mv L m1;obtain⟨v',rfl,-⟩:=d.res L d0;go_wp2_with fail;exact⟨rfl,_,rfl,d.extr r d0,aV,trivial⟩
  simp only[Act.put,aN,aH,aI,aT,aW];apply Ug (by kernel_rfl) (by intro t w h; cases h; exact trivial) rfl
  .intro X W' d r I C F;have m1:X 14=some L:=C 14 30 L (by kernel_rfl) (by kernel_rfl) (bT (by kernel_rfl)) rfl;obtain⟨v',rfl,-⟩:=d.res L (d.mv L m1);go_wp2_with fail;exact⟨rfl,_,rfl,d.other _ _ (by decide) (by decide) (by decide) (by decide),aV,rfl⟩
  simp only[Act.put,aN,aH,aI,aT,aW]
  iterate 3
   apply Ug (by kernel_rfl) (by intro t w h; cases h; exact trivial) rfl
   .intro X W' d r I C F; go_wp2_with fail;exact⟨rfl,_,rfl,d.other _ _ (by decide) (by decide) (by decide) (by decide),aV,rfl⟩
   simp only[Act.put,aN,aH,aI,aT,aW]
  refine⟨fun X W' d r I C F=>?_,fun j7=>?_⟩
  .have e3:X 15=some O:=C 15 45 O (by kernel_rfl) (by kernel_rfl) (bT (by kernel_rfl)) rfl;obtain⟨v',e,ho⟩:=d.res _ (d.ex O e3);obtain rfl:O=v':=by cases e; rfl
   obtain⟨R,c5,rfl,-,-,-⟩:=OR.sl ho;have hg:=d.no r;have k7:W'.cell? ⟨g,7,none⟩=some p.fv:=hg.cell 7;have f7:=hg.frozen 7;have HS:=kp (d.store (v:=undef) r e3);go_wp2_with fail;exact⟨rfl,undef,rfl,HS.o,aV,trivial⟩
  simp only[Act.put,aT,aW];intro W5 d F;simp only[dO,List.drop_nil];obtain⟨z,q4,z5⟩:=d.st rfl;obtain rfl:O=z:=by cases q4; rfl
  obtain⟨v',e,ho⟩:=d.res _ (d.ex O rfl);obtain rfl:O=v':=by cases e; rfl
  obtain⟨R,c5,rfl,-,-,-⟩:=OR.sl ho;obtain⟨y4,z4,-⟩:=f.o.chg f.o.blk d.chg (by decide) (by decide) (by decide);have p5:base≤W4.heap.size:=aB D.o p2.o.bel.size;have d3:=kp (show Hx W5 base g w.heap.size ⟨p.x,.slice M m c3,.slice R (dH p.x.order 9 y.x.b p.x.free).length c5⟩ (dH p.x.order 9 y.x.b p.x.free) (ps.eraseIdx q) from
   ⟨z5,f.o.lo,Blk.chg f.o.res d.chg (Blk.ne f.o.res f.o.blk (by decide)),f.o.lr,y4,z4,aO.mono ho fun i _ h=>aB p5 h⟩)
  have o4:=kp (gJ.of (a0.o.blk.chg d.chg (a0.o.blk.ne f.o.blk (by decide))));have q3:=kp (p2.o.chg D.o f.o.blk f.o.lo (by decide) d.chg);have k1:=d3.o.hp.c1;go_wp2_with fail
  go_loopw [57] (fun i wr=>∃k:Nat,i=.i k∧k≤m∧Hx wr base g w.heap.size ⟨p.x,.slice M m c3,.slice R (dH p.x.order 9 y.x.b p.x.free).length c5⟩ (dH p.x.order 9 y.x.b p.x.free) (gO y.x.h (ps.eraseIdx q) k)∧gJ wr (w.heap.size+1) 90 y∧Bw base w wr) (fun i _=>m-(intOf i).toNat)
  case atStart=>exact⟨0,rfl,by omega,d3.o,o4.o,q3.o⟩
  case round=>
   obtain⟨k,rfl,hk,hx,E,W⟩:=hrel;have l:=kp hx;have j1:=kp E;have y2:=kp W;have a7:m≤256:=by have:=HM.o; have:=b3.o; have:=(zQ ps q).length_le; omega
   by_cases e6:k<m
   .have l0:k<(ps.eraseIdx q).length:=by rw[HM.o]; exact e6
    have d6:=Jr y.x.h (ps.eraseIdx q) k l0;have l4:=kp (Js y.x.h (ps.eraseIdx q) k l0);have a3:=kp (fun j=>Jq y.x.h (ps.eraseIdx q) j);have z2:=kp (fun j=>Jt y.x.h (ps.eraseIdx q) j);have y6:(ps.eraseIdx q)[k]∈ps:=(zQ ps q).mem (bK l0);generalize (ps.eraseIdx q)[k]'l0=z at *;obtain⟨Q,J⟩:=iH.1 d6;obtain⟨A6,c6,o6,j2,-,-⟩:=l.o.obs.sl;obtain⟨rfl,-,rfl⟩:=Value.slice.inj o6;obtain⟨b6,g7,e5,-,s,-⟩:=bV (P:=prog) 5 cM (by omega) j2 k Q;subst e5;rw[J]at s;have m0:=l.o.rws.row z (J▸bK Q);obtain⟨o0,l1,p6,-,-,-⟩:=m0.1.sl cS;obtain⟨Z,b0,b2,-,-,-⟩:=m0.2.sl cS;have x0:=s 0 _ rfl;have x1:=s 1 _ rfl;have x2:=s 2 _ rfl;have x3:=s 3 _ rfl;have x4:=s 4 _ rfl;simp only[cF]at x0;rw[p6]at x3;rw[b2]at x4;have g2:(k:Int)<m:=by omega
    have Y:=ba' wr (.cells #[.i z.x.h,.i z.x.b.a,.i z.x.b.o,.slice o0 z.x.ws.length l1,.slice Z z.x.ls.length b0] 90);have d7:(wr.alloc (.cells #[.i z.x.h,.i z.x.b.a,.i z.x.b.o,.slice o0 z.x.ws.length l1,.slice Z z.x.ls.length b0] 90)).cell? ⟨wr.heap.size,3+1,none⟩=some (.slice Z z.x.ls.length b0):=(Blk.new wr 90 [.i z.x.h,.i z.x.b.a,.i z.x.b.o,.slice o0 z.x.ws.length l1,.slice Z z.x.ls.length b0]).cell 4;have d1:=kp (l.o.below Y);have e1:=kp (j1.o.below Y);have y3:=kp (y2.o.below D.o Y);have U:=k'2 (m0.1.below Y) (m0.2.below Y);have a4:=kp (by have:=Um _ U.B e1.o (by have:=j4.o z y6; omega); rw[b2]at this; exact this);have HZ:=k'2 (show ∃h:k<(gO y.x.h (ps.eraseIdx q) k).length,(gO y.x.h (ps.eraseIdx q) k)[k]=z from⟨Q,J⟩) b2;go_wp2_with fail;refine (a4.o).mono ?_;rintro e w8 ⟨rfl,q5,g6⟩;have G:=q5.mono (T:=fun i=>some i=z.lv.ownBlock) fun i _ e=>by rw[HZ.B]; exact e
    have l6:Ow w8 base 3 1 z.lv i1 (eH y.x.h z.x.ls):=by rw[HZ.B]; exact g6
    have m6:Rws w8 base (gO y.x.h (ps.eraseIdx q) (k+1)):=by
     obtain⟨Q,J⟩:=HZ.a;have q6:=U.a.chg G fun i hi e=>by
      have:=d1.o.rws.self Q;rw[J]at this;exact this i hi e.symm
     have h9:=d1.o.rws.upd Q (v:=z.lv) (.inr (by rw[J])) G (ws:=z.x.ws) (ls:=eH y.x.h z.x.ls) (by rw[J]; exact q6) (by rw[J]; exact l6);rw[J]at h9;rw[←l4.o];exact h9
    have K:=kp (d1.o.row U.B G m6 (by rw[z2.o,z2.o]) (by rw[a3.o,a3.o]));have p4:=kp (gJ.of (e1.o.blk.chg G (U.B.tagF e1.o.blk (by decide))));have a1:=kp (y3.o.row D.o (OR.of_ow (S:=fun i=>base≤i) U.B fun i h _=>h) (fun _ h=>h) (by decide) G);go_wp2_with fail;go_roundw
    case rel=>exact⟨k+1,by go_num,by omega,K.o,p4.o,a1.o⟩
    case measure=>simp[intOf]; omega
   .obtain rfl:k=m:=by omega
    have z3:=kp (Jm (pre:=[.i p.x.order,.slice M k c3,.i p.x.next]) (post:=[.slice R (dH p.x.order 9 y.x.b p.x.free).length c5]) (xs:=[p.x.t0,p.x.t1,p.x.t2,p.x.t3]) (c:=4) wr j1.o l.o.blk rfl (j1.o.blk.ne l.o.blk (by decide)) (by simp) (by simp));go_wp2_with fail;refine (z3.o).mono ?_;rintro e w8 ⟨rfl,G,a6⟩;obtain⟨a5,b5,d5⟩:=l.o.chg l.o.blk G (by decide) (by decide) (by decide);have K:=kp (show Hx w8 base g w.heap.size ⟨nK p.x q y.x,.slice M k c3,.slice R (dH p.x.order 9 y.x.b p.x.free).length c5⟩ (dH p.x.order 9 y.x.b p.x.free) (gO y.x.h (ps.eraseIdx q) k) from
     ⟨a6,l.o.lo,Blk.chg l.o.res G (Blk.ne l.o.res l.o.blk (by decide)),l.o.lr,a5,b5,d5⟩)
    have a1:=kp (y2.o.chg D.o l.o.blk l.o.lo (by decide) G);have HO:=kp (show (nK p.x q y.x).obs=(gO y.x.h (ps.eraseIdx q) k).map (·.x) by
     unfold gO nK;rw[cN (by rw[HM.o]; exact aD _),gS (by rw[HM.o]; exact aD _),fS,pC];simp only[HE.o,yE,pC];rfl)
    have z0:=Blk.cell K.o.res 0;have z1:=Blk.cell K.o.res 1;have y0:=Blk.frozen K.o.res 0;have y1:=Blk.frozen K.o.res 1;simp only[aG,aK]at z0 z1;have HP:=kp ((Blk.setCell K.o.res 0 (.i 0)).setCell 1 (.i 0));go_wp2_with fail;have p0:=HP.o.cell 0;have p1:=HP.o.cell 1;simp only[aH,aI,aG,aK]at p0 p1;exact aU (v:=.agg #[.i 0,.i 0]) (by simp[results,results254,go_sem,p0,p1]) rfl ⟨rfl,K.o.o a1.o D.o (aD _) HO.o rfl 0 0⟩
 case pers=>exact⟨pv',pv',pv',pv',pv',pv',pv',pv',pv',pv',pv',pv',pv',fun _ _ _ _ _ h _=>h,fun _ _ _ _ _ h _=>h,fun _ _ _ _ _ h _=>h,pv',pv',pv',pv',fun _ _ _ _ _ h _=>h,trivial⟩
end
section
def Opn.cells(o:Opn):List Value:=[.i o.k,.i o.h,.i o.i,.i o.n,.i o.m,.i o.v,.i o.t]
structure jM(w:World)(g:Nat)(o:Opn):Prop where
 blk:Blk w g 44 o.cells
 c0:w.cell? ⟨g,0,none⟩=some (.i o.k)
 c1:w.cell? ⟨g,1,none⟩=some (.i o.h)
 c2:w.cell? ⟨g,2,none⟩=some (.i o.i)
 c3:w.cell? ⟨g,3,none⟩=some (.i o.n)
 c4:w.cell? ⟨g,4,none⟩=some (.i o.m)
 c5:w.cell? ⟨g,5,none⟩=some (.i o.v)
 c6:w.cell? ⟨g,6,none⟩=some (.i o.t)
theorem jM.of{w:World}{g:Nat}{o:Opn}(h:Blk w g 44 o.cells):jM w g o:=⟨h,h.cell 0,h.cell 1,h.cell 2,h.cell 3,h.cell 4,h.cell 5,h.cell 6⟩
theorem jM.below{w a:World}{g:Nat}{o:Opn}(h:jM w g o)(b:Bw' w a):jM a g o:=.of (h.blk.below b h.blk.lt)
def atI(h:Hp)(o:Opn):Hp×Int×Int:=
 match pP h.obs o.h with
 |none=>(h,51,0)
 |some p=>match h.obs[p]? with
  |none=>(h,51,0)
  |some g=>iK h o p g
structure CL(W:World)(e b:Nat)(t:TypeId)(cs cs':List Value)(X:Nat→Option Value)(W':World):Prop where
 chg:Chg (fun i=>i=b) W W'
 pre:X e=none→W'=W.drew
 post:(X e).isSome=true→Blk W' b t cs'
theorem CL.other{W W':World}{e b j:Nat}{t:TypeId}{a cs':List Value}{X:Nat→Option Value}{v:Value}(h:CL W e b t a cs' X W')(c:j≠e):CL W e b t a cs' (bD X j v) W':=by
 refine⟨h.chg,?_,?_⟩
 .rw[aR (bL c)]; exact h.pre
 .rw[aR (bL c)]; exact h.post
theorem CL.at_{W W' a:World}{e b:Nat}{t:TypeId}{c cs':List Value}{X:Nat→Option Value}{v:Value}(h:CL W e b t c cs' X W')(f:Chg (fun i=>i=b) W' a)(d:Blk a b t cs'):CL W e b t c cs' (bD X e v) a:=
 ⟨h.chg.trans f fun _ _ h=>h,fun h=>by simp[bD]at h,fun _=>d⟩
structure Hb(w:World)(base g:Nat)(p:HpV)(ps:List ObV)(o:Opn)(W:World):Prop where
 wk:Wk W base g 228 p ps
 res:bZ W (w.heap.size+1) 0 0
 op:jM W w.heap.size o
 bw:Bw base w W
 h0:base≤w.heap.size
section
variable {w W W':World}{base g:Nat}{p:HpV}{ps:List ObV}{y:Opn}
theorem Hb.below(h:Hb w base g p ps y W)(a:Bw' W W'):Hb w base g p ps y W':=⟨h.wk.below a,h.res.below a,h.op.below a,h.bw.below h.h0 a,h.h0⟩
theorem Hb.hx(h:Hb w base g p ps y W):Hx W base g (w.heap.size+1) p p.x.free ps:=h.wk.wx.hx h.res (aB h.h0 (Nat.le_succ _))
theorem Hb.o(h:Hb w base g p ps y W)(c d:Int):Wo base g p.x w ((W.setCell ⟨w.heap.size+1,0,none⟩ (.i c)).setCell ⟨w.heap.size+1,1,none⟩ (.i d)):=h.hx.o h.bw h.h0 (Nat.le_succ _) h.wk.eq rfl c d
theorem Hb.fin{x:Hp}(h:Hb w base g p ps y W)(a:Wo base g x W W')(c d:Int):bZ W' (w.heap.size+1) 0 0∧Wo base g x w ((W'.setCell ⟨w.heap.size+1,0,none⟩ (.i c)).setCell ⟨w.heap.size+1,1,none⟩ (.i d)):=a.fin h.bw h.h0 h.res (Nat.le_succ _) c d
theorem Hb.of(o:Opn)(h:Wk w base g 228 p ps)(a:base≤w.heap.size):Hb w base g p ps o ((w.alloc (.cells #[.i o.k,.i o.h,.i o.i,.i o.n,.i o.m,.i o.v,.i o.t] 44)).alloc (.cells #[.i 0,.i 0] 53)):=by
 have c:=ba' w (.cells #[.i o.k,.i o.h,.i o.i,.i o.n,.i o.m,.i o.v,.i o.t] 44);have b:=(aL _ (w.alloc (.cells #[.i o.k,.i o.h,.i o.i,.i o.n,.i o.m,.i o.v,.i o.t] 44))).alloc (aD _) (.cells #[.i 0,.i 0] 53);have d:=bZ.new (w.alloc (.cells #[.i o.k,.i o.h,.i o.i,.i o.n,.i o.m,.i o.v,.i o.t] 44));rw[show (w.alloc (.cells #[.i o.k,.i o.h,.i o.i,.i o.n,.i o.m,.i o.v,.i o.t] 44)).heap.size=w.heap.size+1 by simp]at d;exact⟨(h.below c).below b,d,(jM.of (Blk.new w 44 o.cells)).below b,(Bw.of a c).below a b,a⟩
end
theorem Uo{α:Type}{l:List α}{n:Nat}{y:α}(h:l[n]? =some y):l.set n y=l:=by
 apply sR;intro i;rw[sS]
 split
 .rename_i e; subst e; rw[h]; simp[(iH.1 h).1]
 .rfl
theorem Ju{ps:List ObV}{n:Nat}{q:ObV}:(ps.set n q).map (·.x)=(ps.map (·.x)).set n q.x:=pD
theorem Jv{ps:List ObV}{n:Nat}{q:ObV}(h:n<ps.length)(a:q.cells=ps[n].cells):aM ObV.cells (ps.set n q)=aM ObV.cells ps:=by
 unfold aM;rw[pD,a]
 congr 1
 apply sR;intro i;rw[sS]
 split
 .rename_i e; subst e; simp[h]
 .rfl
theorem Hb.row{w W W':World}{base g b:Nat}{p:HpV}{ps:List ObV}{o:Opn}{n:Nat}{y:ObV}{v:Value}{ws ls:List Int}(h:Hb w base g p ps o W)(r:∃a:n<ps.length,ps[n]=y)(f:v=y.wv∨v=y.lv)(q:v.ownBlock=some b)
  (m:Chg (fun i=>i=b) W W') (k:Ow W' base 3 1 y.wv i1 ws) (l:Ow W' base 3 1 y.lv i1 ls):
  Wo base g {p.x with obs:=p.x.obs.set n {y.x with ws:=ws,ls:=ls}} W W':=by
 obtain⟨a,rfl⟩:=r;have d:Chg (fun i=>some i=v.ownBlock) W W':=m.mono fun i _ e=>by rw[q,e]
 have z:∃t,Ow W base 3 1 v i1 t:=by
  rcases f with rfl|rfl
  .exact⟨_,(h.wk.rws.row _ (bK a)).1⟩
  .exact⟨_,(h.wk.rws.row _ (bK a)).2⟩
 obtain⟨t,j⟩:=z;have s:=h.wk.rws.upd a f d k l;have c:=h.hx.row j d s (Jv a rfl) (mI ..);refine⟨⟨{p.x with obs:=p.x.obs.set n {ps[n].x with ws:=ws,ls:=ls}},p.ov,p.fv⟩,_,rfl,⟨c.blk,c.lo,c.obs,c.rws,c.free,?_⟩,(Bw.of (aB h.h0 h.bw.bel.size) (aL _ _)).row (aB h.h0 h.bw.bel.size) (OR.of_ow (S:=fun i=>base≤i) j fun i h _=>h) (fun _ h=>h) (by decide) d⟩;rw[Ju,←h.wk.eq]
theorem Up{base g:Nat}{p:HpV}{ps:List ObV}(o:Opn)(w:World)(h:Wk w base g 228 p ps)(hb:base≤w.heap.size)(H:HOk p.x):
  Calls prog 228 #[.pointer (some ⟨g,0,none⟩),.agg o.cells.toArray] w fun e w'=>e=.returned (.agg #[.i (atI p.x o).2.1,.i (atI p.x o).2.2])∧Wo base g (atI p.x o).1 w w':=by
 show Calls _ _ #[_,.agg #[.i o.k,.i o.h,.i o.i,.i o.n,.i o.m,.i o.v,.i o.t]] _ _;have hs:iL (fun p:ObV=>p.x.h) ps:=Jp (by rw[←h.eq]; exact H.rise.2);have b2:=Jn o.h ps hs;have q2:=Jo o.h ps hs;rw[←h.eq]at b2;have q3:ps.length≤256:=by have:=H.len.1; have:=bG List.length h.eq; rw[cW]at this; omega
 have a3:=Hb.of o h hb;obtain⟨W2,o3⟩:=nm' ((w.alloc (.cells #[.i o.k,.i o.h,.i o.i,.i o.n,.i o.m,.i o.v,.i o.t] 44)).alloc (.cells #[.i 0,.i 0] 53));rw[o3]at a3;have HW:=kp a3;have HE:=kp h.eq;have HH:=kp H;have j3:=kp q3;have HS:=kp hs;have e2:=kp (fun q:Blw W2=>Ic p.ov ps o.h W2.heap.size q.w (Sl.blw q (HW.o.hx.obs.sl) (aD _)) q.h.size (by omega) hs);obtain⟨n,hn⟩:=nm' (eT (fun p:ObV=>p.x.h) o.h ps);obtain⟨a,ha⟩:=nm' (ps.any fun p=>decide (p.x.h=o.h));obtain⟨R,hR⟩:=nm' (atI p.x o);rw[hn,ha]at b2 e2;rw[ha,hn]at q2;rw[hR];have HR:=kp hR;have l2:=kp b2;have e3:=kp q2;have q1:=aP HW.o.hx.hp.c1;have o1:=aP HW.o.op.c1;go_enter func228,ntmps228;go_wp2_with fail;refine bJ (by kernel_rfl) (by kernel_rfl) ?_
 repeat (go_big_quiet_step ((go_at_call 223; with_reducible refine bU (e2.o _))))
 refine bH ?_;rintro W3 ⟨⟨_,p3⟩,rfl⟩;have f:=kp (HW.o.below p3)
 cases a
 .obtain rfl:R=(p.x,51,0):=by rw[←HR.o]; unfold atI; rw[l2.o]; rfl
  go_wp2_with fail;refine mb' (mR 51 _) fun w4 a0=>?_;have O:=kp (f.o.below a0);have d:=kp O.o.res;have E:=Blk.cell d.o 0;have F:=Blk.cell d.o 1;have y0:=Blk.frozen d.o 0;have y1:=Blk.frozen d.o 1;simp only[aG,aK]at E F;have l:=kp ((Blk.setCell d.o 0 (.i (51))).setCell 1 (.i (0)));go_wp2_with fail;have s:=l.o.cell 0;have z:=l.o.cell 1;simp only[aH,aI,aG,aK]at s z;exact aU (v:=.agg #[.i (51),.i (0)]) (by simp[results,oH,go_sem,s,z]) rfl ⟨rfl,O.o.o 51 0⟩
 obtain⟨Q,p4⟩:=e3.o rfl;obtain⟨y,hy⟩:=nm' (ps[n]);have HY:=kp (show ∃Q:n<ps.length,ps[n]=y from⟨Q,hy⟩);have a2:p.x.obs[n]? =some y.x:=by rw[HE.o]; simp[Q,hy]
 have HO:=kp a2;have l0:=kp (show R=iK p.x o n y.x by rw[←HR.o]; unfold atI; rw[l2.o]; simp only[if_true]; rw[a2]);have j2:=kp (HH.o.lens (oY a2));have o0:=f.o.op.c0
 by_cases k2:o.k=2
 .have g2:(o.k==2)=true:=by simp[k2]
  obtain rfl:R=(nK p.x n y.x,0,0):=by rw[l0.o]; unfold iK; rw[aE k2]
  have S:=kp (Un n W3 f.o.wk (aB f.o.h0 f.o.bw.bel.size) HH.o Q);rw[hy]at S;go_wp2_with fail;refine mb' (S.o) fun w4 d4=>?_;obtain⟨z3,e4⟩:=f.o.fin d4 0 0;have d:=kp z3;have m3:=kp e4;have E:=Blk.cell d.o 0;have F:=Blk.cell d.o 1;have y0:=Blk.frozen d.o 0;have y1:=Blk.frozen d.o 1;simp only[aG,aK]at E F;have l:=kp ((Blk.setCell d.o 0 (.i (0))).setCell 1 (.i (0)));go_wp2_with fail;have s:=l.o.cell 0;have z:=l.o.cell 1;simp only[aH,aI,aG,aK]at s z;exact aU (v:=.agg #[.i (0),.i (0)]) (by simp[results,oH,go_sem,s,z]) rfl ⟨rfl,m3.o⟩
 have g2:(o.k==2)=false:=by simp[k2]
 obtain⟨A,c,y3,a4,-,-⟩:=f.o.wk.wx.obs.sl;obtain⟨b,q4,rfl,-,l1,-⟩:=bV (P:=prog) 5 cM (by omega) a4 n Q;rw[hy]at l1;have d2:=f.o.wk.rws.row y (hy▸bK Q);have x3:=l1 3 _ rfl;have x4:=l1 4 _ rfl;have q1:=f.o.wk.blk.cell 1;simp only[HpV.cells,aK,aG]at q1;rw[y3]at q1;obtain⟨N,hN⟩:=nm' ps.length;rw[hN]at q1;have g1:(n:Int)<N:=by omega
 have b0:=kp d2;obtain⟨Aw,cw,b3,-,l4,o4⟩:=d2.1.sl cS;obtain⟨Al,cl,y2,-,j4,m4⟩:=d2.2.sl cS;have q0:=k'2 b3 y2;rw[b3]at x3;rw[y2]at x4;have o2:=f.o.op.c2;have o5:=f.o.op.c5;have o6:=f.o.op.c6;have m2:=j2.a;have p2:=j2.B
 by_cases k4:o.k=4
 .have g4:(o.k==4)=true:=by rw[k4]; rfl
  have g3:(o.k==3)=false:=by rw[k4]; rfl
  obtain⟨m,V⟩:=nm' y.x.ls.length;have g8: -9223372036854775808≤(m:Int)-1:=by omega
  have g9:(m:Int)-1≤9223372036854775807:=by omega
  have HM:=kp V;have D:=kp (show R=if 0≤o.i∧o.i<m then (if dS p.x.obs o.t=true then ({p.x with obs:=p.x.obs.set n {y.x with ls:=y.x.ls.set o.i.toNat o.t}},0,0) else (p.x,51,0)) else (p.x,52,0) by
   rw[l0.o,←HM.o]; unfold iK; rw[aC k2,aE (.inl k4)]
   by_cases h:0≤o.i∧o.i<y.x.ls.length
   .rw[aE h,aE h]; rw[aE k4]
   .rw[aC h,aC h])
  rw[V]at p2 x4
  by_cases L:0≤o.i∧o.i<m
  rotate_left
  .obtain rfl:R=(p.x,52,0):=by rw[D.o,aC L]
   have G:=kp (fun W=>by
    have:=cJ.2.2.2.2.2.2.2.2 o.i 0 ((m:Int)-1) W;rw[show aF o.i 0 ((m:Int)-1)=false by unfold aF; simp; omega]at this;exact this)
   go_wp2_with fail;refine mb' (G.o _) fun w' M=>?_;obtain rfl:=M.symm;go_wp2_with fail;refine mb' (mR 52 _) fun w4 a0=>?_;have O:=kp (f.o.below a0);have d:=kp O.o.res;have E:=Blk.cell d.o 0;have F:=Blk.cell d.o 1;have y0:=Blk.frozen d.o 0;have y1:=Blk.frozen d.o 1;simp only[aG,aK]at E F;have l:=kp ((Blk.setCell d.o 0 (.i (52))).setCell 1 (.i (0)));go_wp2_with fail;have s:=l.o.cell 0;have z:=l.o.cell 1;simp only[aH,aI,aG,aK]at s z;exact aU (v:=.agg #[.i (52),.i (0)]) (by simp[results,oH,go_sem,s,z]) rfl ⟨rfl,O.o.o 52 0⟩
  rw[aE L]at D;have G:=kp (fun W=>by
   have:=cJ.2.2.2.2.2.2.2.2 o.i 0 ((m:Int)-1) W;rw[show aF o.i 0 ((m:Int)-1)=true by unfold aF; simp; omega]at this;exact this)
  obtain⟨i,U⟩:∃i:Nat,o.i=i:=⟨o.i.toNat,by omega⟩
  rw[U]at L o2 D G;rw[eR]at D;have m1:i<m:=by omega
  have g0:(i:Int)<m:=by omega
  obtain⟨b',c',post,Z,e1,b1,K,e0⟩:=b0.B.blk (by omega);have J:=k'3 Z K e0;have d0:(iv y.x.ls++post)[i]? =some (.i (y.x.ls.getD i 0)):=by
   rw[lS (by rw[fM]; omega),lU _ _ (by omega),kK,eK (by omega)]; rfl
  have z2:=K.cell i;have f2:=K.frozen i;rw[d0]at z2;obtain⟨zv,j0⟩:=nm' (y.x.ls.getD i 0);rw[j0]at z2;obtain⟨rfl,-,rfl⟩:=Value.slice.inj (Z.symm.trans q0.B);have HI:=kp U;have HD:=kp (f.o.below (bR (aL _ _)));have d3:=kp (show Blk W3.drew b' 3 (iv y.x.ls++post) from J.b);have a1:=kp (Jl o.t W3.drew (cI.of HD.o.wk.blk) HD.o.wk.wx.obs.sl (by have:=j3.o; omega) HS.o d3.o (j:=i) (by rw[bB,fM,HM.o]; omega));obtain⟨r,hr⟩:=nm' (dS (ps.map (·.x)) o.t);rw[hr]at a1;rw[HE.o,hr]at D;have l3:=kp (show ({p.x with obs:=p.x.obs.set n {y.x with ls:=y.x.ls}}:Hp)=p.x by rw[Uo HO.o]);rw[←HE.o]at D;go_wp2_with fail;refine mb' (G.o _) fun w' M=>?_;obtain rfl:=M.symm
  cases r
  .go_wp2_with fail;refine fR 8 (CL W3 7 b' 3 (iv y.x.ls++post) (iv y.x.ls++post)) (fun _=>fK) (by kernel_rfl) (by kernel_rfl) ⟨(Chg.refl _ _).drew,fun _=>rfl,fun h=>by cases h⟩ ?_
   iterate 8 (refine bO ?_; apply Exists.intro)
   refine dR ⟨?pers51,?walk51⟩
   case walk51=>
    iterate 7
     apply Ug (by kernel_rfl) (by intro t w h; cases h; exact trivial) rfl
     .intro X W' I hX hw hV hF; have ho:=jM.of (f.o.op.blk.chg I.chg (f.o.op.blk.ne J.b (by decide))); have o2:=ho.c2; have o6:=ho.c6; rw[HI.o]at o2; clear ho; go_wp2_with fail;exact⟨rfl,_,rfl,I.other (by decide),aV,rfl⟩
     simp only[Act.put,aN,aH,aI,aT,aW]
    apply Ug (by kernel_rfl) (by intro t w h; cases h; exact trivial) rfl
    .intro X W' I hX hw hV hF;obtain rfl:=I.pre hX;go_wp2_with fail;refine (a1.o).mono ?_;rintro e w5 ⟨rfl,j1,d1⟩;go_wp2_with fail;exact⟨rfl,_,rfl,I.at_ j1 d1,aV,rfl⟩
    simp only[Act.put,aN,aH,aI,aT,aW];intro W5 I hF;simp only[dO,dP];have m0:=kp (f.o.row HY.o (.inr rfl) (by rw[J.a]; rfl) I.chg (ws:=y.x.ws) (ls:=y.x.ls) (b0.a.chg I.chg fun j hj e=>by
     obtain⟨Q,rfl⟩:=HY.o;exact f.o.wk.rws.self Q j hj (by rw[J.a,e]; rfl)) (J.C _ _ (by simp) (by
     have:=I.post rfl;exact this)))
    have S:=kp (f.o.fin m0.o 51 0);have d:=kp S.a;have Y:=D.o;simp only[if_false,qO]at Y;subst Y;have E:=Blk.cell d.o 0;have F:=Blk.cell d.o 1;have y0:=Blk.frozen d.o 0;have y1:=Blk.frozen d.o 1;simp only[aG,aK]at E F;have l:=kp ((Blk.setCell d.o 0 (.i (51))).setCell 1 (.i (0)));go_wp2_with fail;have s:=l.o.cell 0;have z:=l.o.cell 1;simp only[aH,aI,aG,aK]at s z;exact aU (v:=.agg #[.i (51),.i (0)]) (by simp[results,oH,go_sem,s,z]) rfl ⟨rfl,by have:=S.B; rw[l3.o]at this; exact this⟩
   case pers51=>exact⟨pv',pv',pv',pv',pv',pv',pv',pv',trivial⟩
  .go_wp2_with fail;refine fR 8 (CL W3 7 b' 3 (iv y.x.ls++post) ((iv y.x.ls++post).set i (.i o.t))) (fun _=>fK) (by kernel_rfl) (by kernel_rfl) ⟨(Chg.refl _ _).drew,fun _=>rfl,fun h=>by cases h⟩ ?_
   iterate 8 (refine bO ?_; apply Exists.intro)
   refine dR ⟨?pers0,?walk0⟩
   case walk0=>
    iterate 7
     apply Ug (by kernel_rfl) (by intro t w h; cases h; exact trivial) rfl
     .intro X W' I hX hw hV hF; have ho:=jM.of (f.o.op.blk.chg I.chg (f.o.op.blk.ne J.b (by decide))); have o2:=ho.c2; have o6:=ho.c6; rw[HI.o]at o2; clear ho; go_wp2_with fail;exact⟨rfl,_,rfl,I.other (by decide),aV,rfl⟩
     simp only[Act.put,aN,aH,aI,aT,aW]
    apply Ug (by kernel_rfl) (by intro t w h; cases h; exact trivial) rfl
    .intro X W' I hX hw hV hF;obtain rfl:=I.pre hX;go_wp2_with fail;refine (a1.o).mono ?_;rintro e w5 ⟨rfl,j1,d1⟩;go_wp2_with fail;exact⟨rfl,_,rfl,I.at_ j1 d1,aV,rfl⟩
    simp only[Act.put,aN,aH,aI,aT,aW];intro W5 I hF;simp only[dO,dP];have m0:=kp (f.o.row HY.o (.inr rfl) (by rw[J.a]; rfl) I.chg (ws:=y.x.ws) (ls:=y.x.ls.set i o.t) (b0.a.chg I.chg fun j hj e=>by
     obtain⟨Q,rfl⟩:=HY.o;exact f.o.wk.rws.self Q j hj (by rw[J.a,e]; rfl)) (J.C _ _ (by simp) (by
     have:=I.post rfl;rw[zT _ _ (by rw[fM,HM.o]; omega)]at this;unfold iv at *
     rwa [pD])))
    have S:=kp (f.o.fin m0.o 0 0);have d:=kp S.a;have Y:=D.o;simp only[if_true]at Y;subst Y;have E:=Blk.cell d.o 0;have F:=Blk.cell d.o 1;have y0:=Blk.frozen d.o 0;have y1:=Blk.frozen d.o 1;simp only[aG,aK]at E F;have l:=kp ((Blk.setCell d.o 0 (.i (0))).setCell 1 (.i (0)));go_wp2_with fail;have s:=l.o.cell 0;have z:=l.o.cell 1;simp only[aH,aI,aG,aK]at s z;exact aU (v:=.agg #[.i (0),.i (0)]) (by simp[results,oH,go_sem,s,z]) rfl ⟨rfl,S.B⟩
   case pers0=>exact⟨pv',pv',pv',pv',pv',pv',pv',pv',trivial⟩
 by_cases k7:o.k=7
 .have g4:(o.k==4)=false:=by rw[k7]; rfl
  have g7:(o.k==7)=true:=by rw[k7]; rfl
  have g3:(o.k==3)=false:=by rw[k7]; rfl
  obtain⟨m,V⟩:=nm' y.x.ls.length;have g8: -9223372036854775808≤(m:Int)-1:=by omega
  have g9:(m:Int)-1≤9223372036854775807:=by omega
  have HM:=kp V;have D:=kp (show R=if 0≤o.i∧o.i<m then (p.x,0,y.x.ls.getD o.i.toNat 0) else (p.x,52,0) by
   rw[l0.o,←HM.o]; unfold iK; rw[aC k2,aE (.inr k7)]
   by_cases h:0≤o.i∧o.i<y.x.ls.length
   .rw[aE h,aE h]; rw[aC k4]
   .rw[aC h,aC h])
  rw[V]at p2 x4
  by_cases L:0≤o.i∧o.i<m
  rotate_left
  .obtain rfl:R=(p.x,52,0):=by rw[D.o,aC L]
   have G:=kp (fun W=>by
    have:=cJ.2.2.2.2.2.2.2.2 o.i 0 ((m:Int)-1) W;rw[show aF o.i 0 ((m:Int)-1)=false by unfold aF; simp; omega]at this;exact this)
   go_wp2_with fail;refine mb' (G.o _) fun w' M=>?_;obtain rfl:=M.symm;go_wp2_with fail;refine mb' (mR 52 _) fun w4 a0=>?_;have O:=kp (f.o.below a0);have d:=kp O.o.res;have E:=Blk.cell d.o 0;have F:=Blk.cell d.o 1;have y0:=Blk.frozen d.o 0;have y1:=Blk.frozen d.o 1;simp only[aG,aK]at E F;have l:=kp ((Blk.setCell d.o 0 (.i (52))).setCell 1 (.i (0)));go_wp2_with fail;have s:=l.o.cell 0;have z:=l.o.cell 1;simp only[aH,aI,aG,aK]at s z;exact aU (v:=.agg #[.i (52),.i (0)]) (by simp[results,oH,go_sem,s,z]) rfl ⟨rfl,O.o.o 52 0⟩
  rw[aE L]at D;have G:=kp (fun W=>by
   have:=cJ.2.2.2.2.2.2.2.2 o.i 0 ((m:Int)-1) W;rw[show aF o.i 0 ((m:Int)-1)=true by unfold aF; simp; omega]at this;exact this)
  obtain⟨i,U⟩:∃i:Nat,o.i=i:=⟨o.i.toNat,by omega⟩
  rw[U]at L o2 D G;rw[eR]at D;have m1:i<m:=by omega
  have g0:(i:Int)<m:=by omega
  obtain⟨b',c',post,Z,e1,b1,K,e0⟩:=b0.B.blk (by omega);have J:=k'3 Z K e0;have d0:(iv y.x.ls++post)[i]? =some (.i (y.x.ls.getD i 0)):=by
   rw[lS (by rw[fM]; omega),lU _ _ (by omega),kK,eK (by omega)]; rfl
  have z2:=K.cell i;have f2:=K.frozen i;rw[d0]at z2;obtain⟨zv,j0⟩:=nm' (y.x.ls.getD i 0);rw[j0]at z2 D;obtain⟨rfl,-,rfl⟩:=Value.slice.inj (Z.symm.trans q0.B);have HI:=kp U;have T:=kp f.o.res;go_wp2_with fail;refine mb' (G.o _) fun w' M=>?_;obtain rfl:=M.symm;have Y:=D.o;subst Y;have E:=Blk.cell T.o 0;have F:=Blk.cell T.o 1;have y0:=Blk.frozen T.o 0;have y1:=Blk.frozen T.o 1;simp only[aG,aK]at E F;have l:=kp ((Blk.setCell T.o 0 (.i (0))).setCell 1 (.i (zv)));go_wp2_with fail;have s:=l.o.cell 0;have z:=l.o.cell 1;simp only[aH,aI,aG,aK]at s z;exact aU (v:=.agg #[.i (0),.i (zv)]) (by simp[results,oH,go_sem,s,z]) rfl ⟨rfl,f.o.o 0 _⟩
 by_cases k3:o.k=3
 .have g4:(o.k==4)=false:=by rw[k3]; rfl
  have g7:(o.k==7)=false:=by rw[k3]; rfl
  have g3:(o.k==3)=true:=by rw[k3]; rfl
  obtain⟨m,V⟩:=nm' y.x.ws.length;have g8: -9223372036854775808≤(m:Int)-1:=by omega
  have g9:(m:Int)-1≤9223372036854775807:=by omega
  have HM:=kp V;have D:=kp (show R=if 0≤o.i∧o.i<m then ({p.x with obs:=p.x.obs.set n {y.x with ws:=y.x.ws.set o.i.toNat o.v}},0,0) else (p.x,52,0) by
   rw[l0.o,←HM.o]; unfold iK; rw[aC k2,aC (by omega)]
   by_cases h:0≤o.i∧o.i<y.x.ws.length
   .rw[aE h,aE h]; rw[aE k3]
   .rw[aC h,aC h])
  rw[V]at m2 x3
  by_cases L:0≤o.i∧o.i<m
  rotate_left
  .obtain rfl:R=(p.x,52,0):=by rw[D.o,aC L]
   have G:=kp (fun W=>by
    have:=cJ.2.2.2.2.2.2.2.2 o.i 0 ((m:Int)-1) W;rw[show aF o.i 0 ((m:Int)-1)=false by unfold aF; simp; omega]at this;exact this)
   go_wp2_with fail;refine mb' (G.o _) fun w' M=>?_;obtain rfl:=M.symm;go_wp2_with fail;refine mb' (mR 52 _) fun w4 a0=>?_;have O:=kp (f.o.below a0);have d:=kp O.o.res;have E:=Blk.cell d.o 0;have F:=Blk.cell d.o 1;have y0:=Blk.frozen d.o 0;have y1:=Blk.frozen d.o 1;simp only[aG,aK]at E F;have l:=kp ((Blk.setCell d.o 0 (.i (52))).setCell 1 (.i (0)));go_wp2_with fail;have s:=l.o.cell 0;have z:=l.o.cell 1;simp only[aH,aI,aG,aK]at s z;exact aU (v:=.agg #[.i (52),.i (0)]) (by simp[results,oH,go_sem,s,z]) rfl ⟨rfl,O.o.o 52 0⟩
  rw[aE L]at D;have G:=kp (fun W=>by
   have:=cJ.2.2.2.2.2.2.2.2 o.i 0 ((m:Int)-1) W;rw[show aF o.i 0 ((m:Int)-1)=true by unfold aF; simp; omega]at this;exact this)
  obtain⟨i,U⟩:∃i:Nat,o.i=i:=⟨o.i.toNat,by omega⟩
  rw[U]at L o2 D G;rw[eR]at D;have m1:i<m:=by omega
  have g0:(i:Int)<m:=by omega
  obtain⟨b',c',post,Z,e1,b1,K,e0⟩:=b0.a.blk (by omega);have J:=k'3 Z K e0;have d0:(iv y.x.ws++post)[i]? =some (.i (y.x.ws.getD i 0)):=by
   rw[lS (by rw[fM]; omega),lU _ _ (by omega),kK,eK (by omega)]; rfl
  have z2:=K.cell i;have f2:=K.frozen i;rw[d0]at z2;obtain⟨zv,j0⟩:=nm' (y.x.ws.getD i 0);rw[j0]at z2;obtain⟨rfl,-,rfl⟩:=Value.slice.inj (Z.symm.trans q0.a);have HI:=kp U;have m0:=kp (f.o.row HY.o (.inl rfl) (by rw[J.a]; rfl) ((Chg.refl (fun i=>i=b') W3).setCell (.inr rfl) i (.i o.v)) (ws:=y.x.ws.set i o.v) (ls:=y.x.ls) (J.C _ _ (mI ..) (by
   have:=J.b.setCell i (.i o.v);rw[zT _ _ (by rw[fM,HM.o]; omega)]at this;unfold iv at *
   rwa [pD])) (b0.B.chg ((Chg.refl (fun i=>i=b') W3).setCell (.inr rfl) i (.i o.v)) fun j hj e=>by
    obtain⟨Q,rfl⟩:=HY.o;exact f.o.wk.rws.self Q j (by rw[J.a,e]; rfl) hj))
  have S:=kp (f.o.fin m0.o 0 0);have d:=kp S.a;go_wp2_with fail;refine mb' (G.o _) fun w' M=>?_;obtain rfl:=M.symm;have Y:=D.o;subst Y;have E:=Blk.cell d.o 0;have F:=Blk.cell d.o 1;have y0:=Blk.frozen d.o 0;have y1:=Blk.frozen d.o 1;simp only[aG,aK]at E F;have l:=kp ((Blk.setCell d.o 0 (.i (0))).setCell 1 (.i (0)));go_wp2_with fail;have s:=l.o.cell 0;have z:=l.o.cell 1;simp only[aH,aI,aG,aK]at s z;exact aU (v:=.agg #[.i (0),.i (0)]) (by simp[results,oH,go_sem,s,z]) rfl ⟨rfl,S.B⟩
 .have g4:(o.k==4)=false:=by simp[k4]
  have g7:(o.k==7)=false:=by simp[k7]
  have g3:(o.k==3)=false:=by simp[k3]
  obtain⟨m,V⟩:=nm' y.x.ws.length;have g8: -9223372036854775808≤(m:Int)-1:=by omega
  have g9:(m:Int)-1≤9223372036854775807:=by omega
  have HM:=kp V;have D:=kp (show R=if 0≤o.i∧o.i<m then (p.x,0,y.x.ws.getD o.i.toNat 0) else (p.x,52,0) by
   rw[l0.o,←HM.o]; unfold iK; rw[aC k2,aC (by omega)]
   by_cases h:0≤o.i∧o.i<y.x.ws.length
   .rw[aE h,aE h]; rw[aC k3]
   .rw[aC h,aC h])
  rw[V]at m2 x3
  by_cases L:0≤o.i∧o.i<m
  rotate_left
  .obtain rfl:R=(p.x,52,0):=by rw[D.o,aC L]
   have G:=kp (fun W=>by
    have:=cJ.2.2.2.2.2.2.2.2 o.i 0 ((m:Int)-1) W;rw[show aF o.i 0 ((m:Int)-1)=false by unfold aF; simp; omega]at this;exact this)
   go_wp2_with fail;refine mb' (G.o _) fun w' M=>?_;obtain rfl:=M.symm;go_wp2_with fail;refine mb' (mR 52 _) fun w4 a0=>?_;have O:=kp (f.o.below a0);have d:=kp O.o.res;have E:=Blk.cell d.o 0;have F:=Blk.cell d.o 1;have y0:=Blk.frozen d.o 0;have y1:=Blk.frozen d.o 1;simp only[aG,aK]at E F;have l:=kp ((Blk.setCell d.o 0 (.i (52))).setCell 1 (.i (0)));go_wp2_with fail;have s:=l.o.cell 0;have z:=l.o.cell 1;simp only[aH,aI,aG,aK]at s z;exact aU (v:=.agg #[.i (52),.i (0)]) (by simp[results,oH,go_sem,s,z]) rfl ⟨rfl,O.o.o 52 0⟩
  rw[aE L]at D;have G:=kp (fun W=>by
   have:=cJ.2.2.2.2.2.2.2.2 o.i 0 ((m:Int)-1) W;rw[show aF o.i 0 ((m:Int)-1)=true by unfold aF; simp; omega]at this;exact this)
  obtain⟨i,U⟩:∃i:Nat,o.i=i:=⟨o.i.toNat,by omega⟩
  rw[U]at L o2 D G;rw[eR]at D;have m1:i<m:=by omega
  have g0:(i:Int)<m:=by omega
  obtain⟨b',c',post,Z,e1,b1,K,e0⟩:=b0.a.blk (by omega);have J:=k'3 Z K e0;have d0:(iv y.x.ws++post)[i]? =some (.i (y.x.ws.getD i 0)):=by
   rw[lS (by rw[fM]; omega),lU _ _ (by omega),kK,eK (by omega)]; rfl
  have z2:=K.cell i;have f2:=K.frozen i;rw[d0]at z2;obtain⟨zv,j0⟩:=nm' (y.x.ws.getD i 0);rw[j0]at z2 D;obtain⟨rfl,-,rfl⟩:=Value.slice.inj (Z.symm.trans q0.a);have HI:=kp U;have T:=kp f.o.res;go_wp2_with fail;refine mb' (G.o _) fun w' M=>?_;obtain rfl:=M.symm;have Y:=D.o;subst Y;have E:=Blk.cell T.o 0;have F:=Blk.cell T.o 1;have y0:=Blk.frozen T.o 0;have y1:=Blk.frozen T.o 1;simp only[aG,aK]at E F;have l:=kp ((Blk.setCell T.o 0 (.i (0))).setCell 1 (.i (zv)));go_wp2_with fail;have s:=l.o.cell 0;have z:=l.o.cell 1;simp only[aH,aI,aG,aK]at s z;exact aU (v:=.agg #[.i (0),.i (zv)]) (by simp[results,oH,go_sem,s,z]) rfl ⟨rfl,f.o.o 0 _⟩
end
end Go.Proofs.YtdoopoapbffpbaaGreat
