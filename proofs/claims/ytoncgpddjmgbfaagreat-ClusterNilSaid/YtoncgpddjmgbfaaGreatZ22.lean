import Derived.Test.YtoncgpddjmgbfaaGreatZ09
import Derived.Test.YtoncgpddjmgbfaaGreatZ14
import Derived.Test.YtoncgpddjmgbfaaGreatZ16
import Derived.Test.YtoncgpddjmgbfaaGreatZ17
import Derived.Test.YtoncgpddjmgbfaaGreatZ19
import Derived.Test.YtoncgpddjmgbfaaGreatZ20
import Derived.Test.YtoncgpddjmgbfaaGreatZ21
namespace Go.Proofs.YtoncgpddjmgbfaaGreat
open Go.RowKit Go.Proofs.Tryz
set_option maxRecDepth 100000
set_option maxHeartbeats 12800000
set_option linter.unusedVariables false
set_option linter.unusedSimpArgs false
section
attribute [-go_sem] loadCellsFrom storeCells Instr.build
attribute [local go_sem] aX
theorem Wc(x:Rw)(t:Int)(w:World):Calls prog 190 #[.agg x.cells.toArray,.i t] w fun e f=>e=.returned (.i (eN x.c t))∧Bw' w f:=by
 obtain⟨h,i,b,a,-⟩:=par w 141 x.cells;have g:=b.cell 0;change _=some (Value.i x.c)at g;have d:=kp a;clear b a;go_enter func190,ntmps190;go_wp2_with fail;refine ms' (qG x.c t _) ?_;go_wp2_with fail;go_ret;exact⟨rfl,d.o⟩
theorem Wx.wv{w:World}{base g:Nat}{p:HpV}{a:List ObV}(h:Wx w base g p a):Wv w base p a:=⟨h.obs,h.rws,h.eq,h.free⟩
theorem Wd(h:Hp):(eB h dU).1=h:=by
 unfold eB;rw[aF (by decide),aF (by decide),aF (by decide)]
theorem We{l:List Rw}{i:Nat}{x:Rw}(a:i<l.length):(aO Rw.cells l).take (i*4)++x.cells++(aO Rw.cells l).drop ((i+1)*4)=aO Rw.cells (l.set i x):=by
 have e:l=l.take i++l[i]::l.drop (i+1):=by rw[←iF a,tM]
 have b:(aO Rw.cells (l.take i)).length=i*4:=by rw[cW 4 jP]; simp; omega
 have e2:aO Rw.cells l=aO Rw.cells (l.take i)++((l[i]).cells++aO Rw.cells (l.drop (i+1))):=by
  conv=>lhs; rw[e]
  rw[kE];rfl
 have f:((l[i]).cells).length=4:=rfl;have c:(aO Rw.cells l).take (i*4)=aO Rw.cells (l.take i):=by rw[e2,vX b]
 have d:(aO Rw.cells l).drop ((i+1)*4)=aO Rw.cells (l.drop (i+1)):=by rw[e2,←cH,vY (by rw[bF,b,f]; omega)]
 rw[c,d,List.set_eq_take_append_cons_drop,aK a,kE,cH];rfl
theorem Iu{l:List Rw}(h:fL 0 l=true):cJ 0 l=⟨0,0,0,0⟩:=by
 rcases Pr 0 l with⟨a,b⟩|a
 .have:=xF h _ a; omega
 .exact a
theorem aM.put{P:Program}{w:World}{S:Nat→Prop}{e:TypeId}{k n g a cap:Nat}{xs:List Value}(h:aM w S e k (.slice (some ⟨g,a,none⟩) n cap) n xs)(i:Nat)(m:i<n)(b:List Value)(r:b.length=k)(l:∀u∈b,u.oneCell'=true):
  ∃X,Sem.run P (storeCells ⟨g,a+i*k,none⟩ b 0) w=.ok () (w.setRow g X)∧aM (w.setRow g X) S e k (.slice (some ⟨g,a,none⟩) n cap) n (xs.take (i*k)++b++xs.drop ((i+1)*k)):=by
 obtain⟨g',C,s,c,e2,p,d,f,o,A,q⟩:=h.form (by omega)
 cases e2;have B:=h.1;have x:(i+1)*k≤n*k:=eL _ m;have y:n*k≤cap*k:=eL _ f;have z:(i+1)*k=i*k+k:=by rw[fH,Nat.one_mul]
 have j:=run_storeCells_at P g (a+i*k) e b 0 c w d (by omega) l;simp only[dW]at j;refine⟨_,j,?_,.inr ⟨g,a,cap,_,rfl,p,setRow_heap w g c _ _ _ d,f,o,?_,?_⟩⟩
 .simp only[bF,cL,dM];omega
 .simp only[fF,bF,cL,dM,gK];omega
 .subst q;simp only[cH];rw[nG (by simp; omega),nP,show a+i*k-a=i*k by omega,pR,kC,pR,cL,dM,gK,r,
   show min (i*k) (c.size-a)=i*k by omega,show min (n*k) (i*k)=i*k by omega,kC,show min (i*k) (n*k)=i*k by omega,eF (show b.length≤n*k-i*k by omega)]
  congr 2
  rw[nP,List.drop_drop]
  congr 1
  .omega
  .congr 1; omega
theorem jT{g a n c:Nat}{w:World}{X:Array Value}:Chg (fun k=>some k=(Value.slice (some ⟨g,a,none⟩) n c).ownBlock) w (w.setRow g X):=(Chg.refl (fun k=>some k=(Value.slice (some ⟨g,a,none⟩) n c).ownBlock) w).setRow (.inr rfl) X
theorem OR.set_row{w:World}{S:Nat→Prop}{v:Value}{l:List Rw}{i:Nat}{x:Rw}(h:aM w S 141 4 v l.length ((aO Rw.cells l).take (i*4)++x.cells++(aO Rw.cells l).drop ((i+1)*4)))(a:i<l.length):OR w S 141 4 v Rw.cells (l.set i x):=by
 unfold OR;rw[nM,←We a];exact h
theorem Iv{α:Type}{r:Result α}{a:α}{w:World}(h:r=.ok a w):∃b,b=a∧r=.ok b w:=⟨a,rfl,h⟩
theorem Iw(t:Int):∀l:List Rw,(l.any fun r=>decide (r.c=t))=true→eD (fun r:Rw=>r.c) t l<l.length
 |[],h=>by simp at h
 |r::l,h=>by
  unfold eD
  split
  .rename_i a;rw[wA,dR (by omega),Bool.false_or]at h;have:=Iw t l h;simp only[eS]; omega
  .simp
theorem Wg{α:Type}(l:List α)(i:Nat)(a:i≤l.length)(z y:α):(l.take i++[z]++l.drop i).set i y=l.take i++y::l.drop i:=by
 rw[cH,vU _ _ (by simp; omega)];simp[nO a]
structure ApF(w W:World)(g0 g1 gs gr g9 g11:Nat)(cs:List Value)(x:En)(q:HpV)(qs:List ObV)(v:Value)(l:List Rw)(c d:Int):Prop where
 df:DoF w W g0 g1 gs gr cs x
 hq:Blk W g9 40 q.cells
 rc:cG W g11 c d
 sv:Ws W w.heap.size ⟨q,l,v⟩ qs
 lo:w.heap.size≤g9∧w.heap.size≤g11∧g11≠gr
section
variable {w W W':World}{g0 g1 gs gr g9 g11:Nat}{cs:List Value}{x:En}{q q':HpV}{qs qs':List ObV}{v:Value}{l:List Rw}{c d:Int}
theorem ApF.below(h:ApF w W g0 g1 gs gr g9 g11 cs x q qs v l c d)(a:Bw' W W'):ApF w W' g0 g1 gs gr g9 g11 cs x q qs v l c d:=
 ⟨h.df.below a,h.hq.grow a,h.rc.below a,h.sv.below a,h.lo⟩
theorem DoF.blk(h:DoF w W g0 g1 gs gr cs x){b:Nat}(a:Chg (fun i=>i=b) W W')(k:w.heap.size≤b)(c:g0≠b)(d:g1≠b)(f:gs≠b)(g:gr≠b):DoF w W' g0 g1 gs gr cs x:=
 ⟨h.st.chg a c,h.e.chg a d,h.s.chg a f,Blk.chg h.r a g,h.ne,h.lo,h.b.trans (a.below (fun i j=>by omega) h.b.size)⟩
theorem ApF.res(h:ApF w W g0 g1 gs gr g9 g11 cs x q qs v l c d)(c' a:Int):∃W',W.setRow g11 #[.i c',.i a]=W'∧Sem.run prog (storeCells ⟨g11,0,none⟩ [.i c',.i a] 0) W=.ok () W'∧ApF w W' g0 g1 gs gr g9 g11 cs x q qs v l c' a:=by
 have b:=(Chg.refl (fun i=>i=g11) W).setRow (.inr rfl) #[.i c',.i a];exact⟨_,rfl,h.rc.store c' a,h.df.blk b h.lo.2.1 (h.df.st.ne h.rc (by decide)) (h.df.e.ne h.rc (by decide)) (h.df.s.ne h.rc (by decide)) (bM h.lo.2.2),h.hq.chg b (h.hq.ne h.rc (by decide)),h.rc.set c' a,h.sv.chg h.rc b (by decide) (by decide) (by decide) (by decide),h.lo⟩
theorem ApF.code(h:ApF w W g0 g1 gs gr g9 g11 cs x q qs v l c d)(c':Int):∃W',W.setCell ⟨g11,0,none⟩ (.i c')=W'∧ApF w W' g0 g1 gs gr g9 g11 cs x q qs v l c' d:=by
 have a:=(Chg.refl (fun i=>i=g11) W).setCell (g:=g11) (.inr rfl) 0 (.i c');exact⟨_,rfl,h.df.blk a h.lo.2.1 (h.df.st.ne h.rc (by decide)) (h.df.e.ne h.rc (by decide)) (h.df.s.ne h.rc (by decide)) (bM h.lo.2.2),h.hq.chg a (h.hq.ne h.rc (by decide)),Blk.setCell h.rc 0 _,h.sv.chg h.rc a (by decide) (by decide) (by decide) (by decide),h.lo⟩
theorem ApF.heap(h:ApF w W g0 g1 gs gr g9 g11 cs x q qs v l c d)(b:Wv W w.heap.size q' qs'):∃W',W.setRow g9 q'.cells.toArray=W'∧Sem.run prog (storeCells ⟨g9,0,none⟩ q'.cells 0) W=.ok () W'∧ApF w W' g0 g1 gs gr g9 g11 cs x q' qs' v l c d:=by
 have a:=(Chg.refl (fun i=>i=g9) W).setRow (.inr rfl) q'.cells.toArray;exact⟨_,rfl,h.hq.store rfl b.one,h.df.blk a h.lo.1 (h.df.st.ne h.hq (by decide)) (h.df.e.ne h.hq (by decide)) (h.df.s.ne h.hq (by decide)) (Blk.ne h.df.r h.hq (by decide)),h.hq.set _,Blk.chg h.rc a (Blk.ne h.rc h.hq (by decide)),⟨b.chg h.hq a (by decide) (by decide) (by decide),(h.sv.chg h.hq a (by decide) (by decide) (by decide) (by decide)).rows⟩,h.lo⟩
theorem ApF.fin(h:ApF w W g0 g1 gs gr g9 g11 cs x q qs v l c d):
  ∃b a,b=W.drew.setRow gs (StV.cells ⟨q,l,v⟩).toArray∧Sem.run prog (storeCells ⟨gs,0,none⟩ (StV.cells ⟨q,l,v⟩) 0) W.drew=.ok () b∧Sem.run prog (storeCells ⟨gr,0,none⟩ [.i c,.i d] 0) b=.ok () a∧
   Sem.run prog (loadCellsFrom ⟨gs,0,none⟩ 0 9 #[]) a=.ok (StV.cells ⟨q,l,v⟩).toArray a∧Sem.run prog (loadCellsFrom ⟨gr,0,none⟩ 0 2 #[]) a=.ok #[.i c,.i d] a∧Ws a w.heap.size ⟨q,l,v⟩ qs∧Bw' w a:=
 h.df.drew.fin (h.sv.below (bL (aH _ W))) c d
theorem ApF.rows(h:ApF w W g0 g1 gs gr g9 g11 cs x q qs v l c d){v':Value}{l':List Rw}(a:Chg (fun i=>some i=v.ownBlock) W W')(z:OR W' (fun i=>w.heap.size≤i) 141 4 v' Rw.cells l'):ApF w W' g0 g1 gs gr g9 g11 cs x q qs v' l' c d:=by
 have k:=h.sv.rows;have m:∀{g:Nat}{t:TypeId}{xs:List Value},Blk W g t xs→t≠141→some g≠v.ownBlock:=fun y A=>aM.not_blk k y A;have o:Below w.heap.size W W':=a.below (fun i f=>(aM.lt k i f).1) h.df.b.size;refine⟨⟨h.df.st.chg a (m h.df.st (by decide)),h.df.e.chg a (m h.df.e (by decide)),h.df.s.chg a (m h.df.s (by decide)),Blk.chg h.df.r a (m h.df.r (by decide)),h.df.ne,h.df.lo,h.df.b.trans o⟩,h.hq.chg a (m h.hq (by decide)),Blk.chg h.rc a (m h.rc (by decide)),⟨?_,z⟩,h.lo⟩;have j:=h.sv.h;exact⟨aM.chg j.obs a fun i f e=>aM.not_row j.obs k (by decide) i f e,j.rws.chg a fun p n i f=>⟨fun e=>(j.rws.row p n).1.apt_or k (by decide) i e f.symm,fun e=>(j.rws.row p n).2.apt_or k (by decide) i e f.symm⟩,j.eq,aM.chg j.free a fun i f e=>aM.not_row j.free k (by decide) i f e⟩
theorem ApF.make(p:DoF w W g0 g1 gs gr cs x)(F:Wv W w.heap.size q qs)(E:OR W (fun i=>w.heap.size≤i) 141 4 v Rw.cells l)(M:gr<W.heap.size)(c0 j:Int):
  ∃a d e c g,W.alloc (.cells z'1a 40)=a∧a.alloc (.cells #[.i 0,.i 0] 73)=d∧
   Sem.run prog (storeCells ⟨W.heap.size,0,none⟩ q.cells 0) d=.ok () e∧Sem.run prog (storeCells ⟨a.heap.size,0,none⟩ [.i c0,.i j] 0) e=.ok () c∧c.alloc (.cells #[.i 0,.i 0] 73)=g∧
   ApF w g g0 g1 gs gr W.heap.size c.heap.size cs x q qs v l 0 0∧Bw' W g:=by
 obtain⟨a,C,I,s,K⟩:=par W 40 z'1;obtain⟨d,D,J,n,N⟩:=par a 73 [.i 0,.i 0];have f:=s.on n;have o:w.heap.size≤W.heap.size:=p.b.size;have A:ApF w d g0 g1 gs gr W.heap.size a.heap.size cs x ⟨⟨0,0,0,0,0,0,[],[]⟩,.slice none 0 0,.slice none 0 0⟩ [] v l 0 0:=
  ⟨p.below f,I.grow n,J,⟨⟨aM.nil _ _ _ _,⟨fun _ h=>(nomatch h),.nil⟩,rfl,aM.nil _ _ _ _⟩,aM.below E f⟩,⟨o,by omega,by omega⟩⟩
 obtain⟨e,y,G,B⟩:=A.heap (F.below f);obtain⟨c,z,H,k⟩:=B.res c0 j;have aQ:=eU (eU f (aN _) q.cells.toArray) (dK K) #[.i c0,.i j];rw[y,z]at aQ;have m:=k.below (ba' c (.cells #[.i 0,.i 0] 73));have L:=Blk.lt k.df.r;exact⟨a,d,e,c,_,C,D,G,H,rfl,⟨m.df,m.hq,cG.new c,m.sv,⟨o,by have:=k.df.b.size; omega,by omega⟩⟩,aQ.alloc aQ.size _⟩
end
theorem Ck(p:StV)(ps:List ObV)(x:En)(B:Nat)(w:World)(h:gW w B p ps)(hB:B≤w.heap.size)(H:stB p.x=true)(hm:dQ x=true):
  Calls prog 143 #[.agg p.cells.toArray,.agg x.cells.toArray] w (Vs w (eE p.x x)):=by
 obtain⟨R,hR⟩:=nm' (eE p.x x);rw[hR];obtain⟨hh,V⟩:=jR.1 H;have HH:=gE.1 hh;have y3:p.rows.length≤4:=by have:=qR V (by omega); have e:p.x.rows=p.rows:=rfl; rw[e]at this; omega
 obtain⟨W1,W2,W3,W4,b5,e5,g5,j5,U⟩:=DoF.of w p.cells x;have d:=SmO.ok h.1 HH;have j4:=kp (by have:=yF p ps B W4 (h.below U.b hB) (aB hB U.b.size) (by have:=d.obs; omega) (by have:=d.free; omega) (by omega); rw[H,show dG 60 true=0 from rfl]at this; exact this);have n:=k'3 U (h.below U.b hB) (aB hB U.b.size);have z:=k'4 hR hh V y3;have HM:=kp hm;have Y:=U.st.load (P:=prog) (k:=9) rfl;clear h hB U hR y3 V HH hh H hm d;go_enter func143,ntmps143;go_wp2_with fail;refine mb' (j4.o) fun w5 j1=>?_;have e0:=k'3 (n.a.below j1) (n.b.below j1 n.C) (aB n.C j1.size);clear j1 Y b5 e5 g5 j5;have Y:=e0.a.e.load (P:=prog) (k:=11) rfl;have l4:=kp (by have:=xU x w5; rw[HM.o]at this; exact this);go_wp2_with fail;refine mb' (l4.o) fun w6 m1=>?_;have I:=k'3 (e0.a.below m1) (e0.b.below m1 e0.C) (aB e0.C m1.size);clear m1 Y;have Y:=I.a.st.load (P:=prog) (k:=9) rfl;have e2:=I.a.e.cell 2;change _=some (Value.i x.c)at e2;go_wp2_with fail;refine (It p ps x.c B w6 I.b I.C (by have:=z.D; omega)).mono ?_;rintro e w7 ⟨bb,rfl,b2⟩;obtain⟨f,hf⟩:=nm' (cJ x.c p.rows);rw[hf];clear Y e2;obtain⟨W8,l5,b6,nb,e4,-⟩:=eJ w7 141 z'4 f.cells rfl (mP f);have z1:=kp (b2.on e4);have q4:=kp (aB I.a.b.size b2.size);have Q:=k'3 (I.a.below z1.o) (I.b.below z1.o I.C) (aB I.C z1.o.size);have p2:=kp nb;have HF:=kp hf;have s8:=Q.a.st.cell 8;rw[StV.c8]at s8;clear hf b2 nb e4;go_wp2_with fail;refine (fam'3.2.2.1 p.rv p.rows B W8 Q.b.2 Q.C (by have:=z.D; omega)).mono ?_;rintro e w9 ⟨v,rfl,g2,j0⟩;have J:=k'3 (Q.a.below j0) (Q.b.below j0 Q.C) (aB Q.C j0.size);have p4:=kp (p2.o.grow j0);obtain⟨A,cc,rfl,-⟩:=dO g2;obtain⟨nv,d2⟩:=nm' p.rows.length;have m4:=kp (show OR w9 (fun i=>w7.heap.size+1≤i) 141 4 (.slice A nv cc) Rw.cells p.rows from d2▸OR.of_ow g2 fun i hi _=>by have:=p2.o.lt; omega);have Y:=J.a.st.loadOff (P:=prog) 0 8 p.p.cells rfl rfl;rw[d2];clear s8 b6 j0 g2 l5 d2;go_wp2_with fail;refine (Ia p.p ps dU B w9 J.b.1 J.C z.b).mono ?_;rintro e d6 ⟨q,qs,rfl,b0,⟨base,g,m0,o0⟩,T⟩;rw[Wd]at b0;obtain⟨cd,a0⟩:=nm' ((eB p.p.x dU).2);rw[a0];clear a0 Y;obtain⟨c0,d0⟩:=cd;have d4:=o0.wv.mono (aB J.a.b.size m0);obtain⟨A1,A2,A3,A4,A5,g6,j6,s3,s4,l6,b1,d1⟩:=ApF.make (J.a.below T) d4 ((aM.below m4.o T).mono fun i _ hi=>by have:=q4.o; omega) (Blk.lt (J.a.below T).r) c0 d0;have E:=kp b1;have HX:=kp (p4.o.grow (T.on d1));have o2:=k'2 (J.b.below (T.on d1) J.C) (aB J.C (T.on d1).size);have f1:=HX.o.cell 1;change _=some (Value.i f.s)at f1;have e3:=b1.df.e.cell 3;change _=some (Value.i x.s)at e3;have e2:=b1.df.e.cell 2;change _=some (Value.i x.c)at e2;have q3:=b0;clear o0 d4 T d1 b1 m0;have q0:=kp (by have:=z.a; unfold eE at this; rw[show p.x.rows=p.rows from rfl,HF.o]at this; exact this);obtain⟨g9,o5⟩:=nm' d6.heap.size;rw[o5]at E s3;have HQ:=kp (show (⟨q.x,p.rows⟩:St)=p.x by rw[q3]; rfl);clear q3 b0;have m5:(x.c≠0∧x.s<f.s)∨(¬x.s<f.s∧x.c=0)∨(¬x.s<f.s∧x.c≠0∧f.s=x.s)∨(¬x.s<f.s∧x.c≠0∧f.s≠x.s):=by
  by_cases d:x.s<f.s
  .refine .inl ⟨fun h=>?_,d⟩;have h2:=HF.o;rw[h,Iu (show fL 0 p.rows=true from z.c)]at h2;have h3:=HM.o;unfold dQ at h3;rw[aK h]at h3;simp only[bH,bR]at h3;rw[←h2,h3.2.2.1]at d;simp at d
  .by_cases l:x.c=0
   .exact .inr (.inl ⟨d,l⟩)
   .by_cases F:f.s=x.s
    .exact .inr (.inr (.inl ⟨d,l,F⟩))
    .exact .inr (.inr (.inr ⟨d,l,F⟩))
 rcases m5 with⟨l,d⟩|⟨d,l⟩|⟨d,l,F⟩|⟨d,l,F⟩
 case' inl=>
  have c1:decide (x.s<f.s)=true:=by simp[d]
  have g0:=kp (show R=(⟨q.x,p.rows⟩,130,0) by have:=q0.o; rw[aF l,aK d]at this; rw[←this,HQ.o]);have z0:=Blk.cell E.o.rc 0;have y0:=Blk.frozen E.o.rc 0;simp only[aP]at z0;obtain⟨A6,S,O⟩:=E.o.code 130;have j:=kp O;clear l d O;go_wp2_with fail;clear z0 y0 S
 case' inr.inl=>
  have c1:decide (x.s<f.s)=false:=by simp[d]
  have c2:(x.c==0)=true:=by simp[l]
  have j3:f=⟨0,0,0,0⟩:=by rw[←HF.o,l]; exact Iu z.c
  have g0:=kp (show R=(⟨q.x,p.rows⟩,f.k,f.v) by have:=q0.o; rw[aK l]at this; rw[←this,HQ.o,j3])
 case' inr.inr.inl=>
  have c1:decide (x.s<f.s)=false:=by simp[d]
  have c2:(x.c==0)=false:=by simp[l]
  have c3:(f.s==x.s)=true:=by simp[F]
  have g0:=kp (show R=(⟨q.x,p.rows⟩,f.k,f.v) by have:=q0.o; rw[aF l,aF d,aK F]at this; rw[←this,HQ.o])
 case' inr.inl=>
  have l2:=HX.o.loadOff (P:=prog) 2 2 [.i f.k,.i f.v] rfl rfl;obtain⟨A6,S,s6,O⟩:=E.o.res f.k f.v;have j:=kp O;clear l d S O j3;go_wp2_with fail;clear l2 s6
 case' inr.inr.inl=>
  have l2:=HX.o.loadOff (P:=prog) 2 2 [.i f.k,.i f.v] rfl rfl;obtain⟨A6,S,s6,O⟩:=E.o.res f.k f.v;have j:=kp O;clear l d S O F;go_wp2_with fail;clear l2 s6
 case' inr.inr.inr=>
  have c1:decide (x.s<f.s)=false:=by simp[d]
  have c2:(x.c==0)=false:=by simp[l]
  have c3:(f.s==x.s)=false:=by simp[F]
  have l2:=E.o.df.st.loadOff (P:=prog) 0 8 p.p.cells rfl rfl;have l3:=E.o.df.e.loadOff (P:=prog) 4 7 x.op.cells rfl rfl;have o4:=kp (by have:=q0.o; rw[aF l,aF d,aF F]at this; exact this);have HC:=kp l;clear l d F;go_wp2_with fail;refine (Ia p.p ps x.op B A5 o2.a.1 o2.B z.b).mono ?_;rintro e o6 ⟨q,qs,rfl,b0,⟨base,g,m0,o0⟩,hb⟩;obtain⟨cd,a0⟩:=nm' ((eB p.p.x x.op).2);rw[a0];obtain⟨M,N⟩:=cd;have m2:=k'2 b0 a0;have y2:=E.o.below hb;obtain⟨B1,z4,s1,z2⟩:=y2.heap (o0.wv.mono (aB E.o.df.b.size m0));obtain⟨B2,a5,s2,a2⟩:=z2.res M N;have j:=kp a2;have e2:=a2.df.e.cell 2;change _=some (Value.i x.c)at e2;clear l2 l3 b0 a0 hb o0 m0 y2 z4 z2 a5 a2 f1 e3 c1 c2 c3;have j2:=kp (Ao.2.1 (.slice A nv cc) p.rows (·.c) x.c 190 #[] B2.heap.size B2 (OR.sl j.o.sv.rows) (aN _) (by have:=z.D; omega) (Gd z.c) (enters_of func190 (by kernel_rfl) rfl) (fun W y _ _=>Wc y x.c W));have m3:=An (fun r:Rw=>r.c) x.c p.rows;obtain⟨t,ht⟩:=nm' (p.rows.any fun r=>decide (r.c=x.c));obtain⟨i,hi⟩:=nm' (eD (fun r:Rw=>r.c) x.c p.rows);rw[ht,hi]at j2;have K:=k'3 ht hi (hi▸m3);clear ht m3 hi;go_wp2_with fail;refine mb' (j2.o) fun y1 b3=>?_;have j:=kp (j.o.below b3);clear b3 s1 s2 e2
  cases t
  case' false=>
   obtain⟨y4,d5,g4,q2,p6⟩:=par y1 141 z'4;have a1:=j.o.below q2;have HI:=kp (Ri (l2:=[⟨0,0,0,0⟩]) i y1.heap.size y4 a1.sv.rows g4 (fun e=>by have:=(aM.lt j.o.sv.rows _ e).2; omega) K.C (by simp) (fun k hk=>by have:=a1.df.b.size; omega) (by simp; have:=z.D; omega));have j:=kp a1;clear g4 q2 a1;go_wp2_with fail;refine (HI.o).mono ?_;rintro e y1 ⟨v,rfl,ho,l,-⟩;have j:=kp (j.o.rows l ho);obtain⟨G,L⟩:=nm' (p.rows.take i++[⟨0,0,0,0⟩]++p.rows.drop i);have Z:=kp (show i<G.length∧∀y:Rw,y.c=x.c→mQ y p.rows=G.set i y from⟨by rw[←L]; simp[nO K.C],fun y hy=>by rw[←L,Au p.rows 0 z.c,hy,K.a,K.b,Wg _ _ K.C]; rfl⟩);rw[L]at j;clear ho l L d5
  case' true=>
   obtain⟨G,L⟩:=nm' p.rows;have Z:=kp (show i<G.length∧∀y:Rw,y.c=x.c→mQ y p.rows=G.set i y from⟨by rw[←L,←K.b]; exact Iw _ _ K.a,fun y hy=>by rw[←L,Au p.rows 0 z.c,hy,K.a,K.b]; rfl⟩);rw[L]at j;clear L
  all_goals
   have V:aM _ (fun i=>w.heap.size≤i) 141 4 _ G.length (aO Rw.cells G):=j.o.sv.rows;obtain⟨g1,q1,cap,e6,a4,-,-,q5,-,-,-⟩:=aM.form V (by have:=Z.a; omega)
   first |subst a4|(cases a4)
   obtain⟨X,sx,ho⟩:=aM.put (P:=prog) V i Z.a [.i x.c,.i x.s,.i M,.i N] rfl (mP ⟨x.c,x.s,M,N⟩);have o3:=OR.set_row (x:=⟨x.c,x.s,M,N⟩) ho Z.a;have e2:=j.o.df.e.cell 2;change _=some (Value.i x.c)at e2;have e3:=j.o.df.e.cell 3;change _=some (Value.i x.s)at e3;have l2:=j.o.rc.load;have j:=kp (j.o.rows jT o3);have g3:(i:Int)<(G.length:Int):=by have:=Z.a; omega
   obtain⟨A6,S⟩:=nm' (y1.setRow g1 X);rw[S]at sx j;obtain⟨n1,p5⟩:=nm' G.length;rw[p5]at j q5 g3;have g0:=kp (show R=(⟨q.x,G.set i ⟨x.c,x.s,M,N⟩⟩,M,N) by
    rw[←o4.o,←Z.B ⟨x.c,x.s,M,N⟩ rfl,m2.a,show p.x.h=p.p.x from rfl,m2.B])
   clear ho o3 V;go_wp2_with fail;clear e2 e3 l2 sx
 all_goals
  obtain⟨V8,V9,a3,z3,m6,o1,p1,p3,d3⟩:=j.o.fin;have a6:=z3;change Sem.run _ (storeCells _ (StV.cells ⟨q,[],_⟩) 0) _=_ at a6;obtain⟨rS,z5,o1⟩:=Iv o1;obtain⟨rR,y5,p1⟩:=Iv p1;have n:=kp (j.o.below (bL (aH _ A6)));have p0:=k'3 p3 d3 a3;have HL:=k'2 o1 p1;clear p3 d3 a3 z3 o1 p1;refine eY 5 (Two 4 A6.drew V8) (fun _=>eQ) (by kernel_rfl) (by kernel_rfl) (Two.start _ _ _) ?_
  iterate 4 (refine bE ?_; apply Exists.intro)
  refine bJ dV ?_;refine cC ⟨?_,?_⟩
  rotate_left
  .apply bQ (by kernel_rfl) (by intro t w h; cases h; exact trivial) rfl
   .intro X W' m hX hw hV hF;have hg:=(m.all (P:=fun W=>Blk W g9 40 q.cells) n.o.hq (by rw[p0.C]; exact Blk.other n.o.hq (n.o.hq.ne n.o.df.s (by decide)) _)).load (P:=prog) (k:=8) rfl;go_wp2_with fail;exact⟨rfl,.agg q.cells.toArray,rfl,m.other (by decide),aV,rfl⟩
   simp only[Act.put,aE,aC,aD,aS];apply bQ (by kernel_rfl) (by intro t w h; cases h; exact trivial) rfl
   .intro X W' m hX hw hV hF;go_wp2_with fail
    first |exact⟨rfl,.slice (some ⟨g1,q1,none⟩) n1 cap,rfl,m.other (by decide),aV,rfl⟩|exact⟨rfl,.slice (some ⟨g1,q1,none⟩) n1 cc,rfl,m.other (by decide),aV,rfl⟩|exact⟨rfl,.slice A nv cc,rfl,m.other (by decide),aV,rfl⟩
   simp only[Act.put,aE,aC,aD,aS,aT];apply bQ (by kernel_rfl) (by intro t w h; cases h; exact trivial) rfl
   .intro X W' m hX hw hV hF;go_wp2_with fail
    first |exact⟨rfl,.agg (StV.cells ⟨q,[],.slice (some ⟨g1,q1,none⟩) n1 cap⟩).toArray,rfl,m.other (by decide),aV,rfl⟩|exact⟨rfl,.agg (StV.cells ⟨q,[],.slice (some ⟨g1,q1,none⟩) n1 cc⟩).toArray,rfl,m.other (by decide),aV,rfl⟩|exact⟨rfl,.agg (StV.cells ⟨q,[],.slice A nv cc⟩).toArray,rfl,m.other (by decide),aV,rfl⟩
   simp only[Act.put,aE,aC,aD,aS,aT];apply bQ (by kernel_rfl) (by intro t w h; cases h; exact trivial) rfl
   .intro X W' m hX hw hV hF;have hr:=(m.all (P:=fun W=>cG W A4.heap.size _ _) n.o.rc (by rw[p0.C]; exact Blk.other n.o.rc (Blk.ne n.o.rc n.o.df.s (by decide)) _)).load;go_wp2_with fail
    first |exact⟨rfl,.agg #[.i M,.i N],rfl,m.other (by decide),aV,rfl⟩|exact⟨rfl,.agg #[.i f.k,.i f.v],rfl,m.other (by decide),aV,rfl⟩|exact⟨rfl,.agg #[.i 130,.i 0],rfl,m.other (by decide),aV,rfl⟩
   simp only[Act.put,aE,aC,aD,aS,aT];refine⟨fun X W' m hX hw hV hF=>?_,fun u5=>?_⟩
   .obtain rfl:=m.1 hX;go_wp2_with fail;exact⟨rfl,undef,rfl,Two.at_,aV,trivial⟩
   simp only[Act.put,aS,aT];intro W9 m hF;clear hF;obtain rfl:=m.2 rfl;simp only[bS,bU];go_wp2_with fail;exact bI (v:=.tuple #[.agg rS,.agg rR]) (by simp[results,results143,go_sem,HL.a,HL.B]) rfl ⟨_,_,by rw[z5,y5,g0.o],by rw[g0.o]; rfl,p0.a,p0.b⟩
  .exact⟨pv',pv',pv',pv',fun _ _ _ _ _ h _=>h,trivial⟩
end
section
attribute [-go_sem] loadCellsFrom storeCells Instr.build
attribute [local go_sem] aX
theorem Iy(A:Option Addr)(n c m:Nat)(w:World)(e:m≤c):Sem.run prog (Instr.slice 33 (.slice A n c) none (some (.i (m:Int))) none) w=.ok (.slice A m c) w:=by
 have b:(0:Int)≤(m:Int)∧(m:Int)≤(c:Int):=by omega
 obtain⟨i,d,-,-,-⟩:=info_parts xB
 cases A with
 |none=>simp[Instr.slice,run_underlying tV,Instr.sliceBounds,Instr.sliceBound,asIntOf,b,sizeOf,typeInfo,d,e]
 |some a=>simp[Instr.slice,run_underlying tV,Instr.sliceBounds,Instr.sliceBound,asIntOf,b,sizeOf,typeInfo,d,e,Addr.add]
def vC(w:World)(o:Option St)(e:Ending)(w':World):Prop:=
 ∃q qs c,e=.returned (.tuple #[.agg q.cells.toArray,.i c])∧(∀s,o=some s→c=0∧q.x=s)∧(o=none→c≠0)∧Ws w' w.heap.size q qs∧Bw' w w'
def oD:StV:=⟨⟨lA,.slice none 0 0,.slice none 0 0⟩,[],.slice none 0 0⟩
theorem yH(w:World)(base:Nat):Ws w base oD []:=(Sv.no w base).ws
theorem vC.fin{w W:World}{a:Nat}{q:StV}{g:List ObV}(f:Blk W a 43 iU)(h:Bw' w W)(i:w.heap.size≤a)(d:Ws W w.heap.size q g):
  ∃W',Sem.run prog (storeCells ⟨a,0,none⟩ q.cells 0) W=.ok () W'∧Sem.run prog (loadCellsFrom ⟨a,0,none⟩ 0 9 #[]) W'=.ok q.cells.toArray W'∧Ws W' w.heap.size q g∧Bw' w W':=by
 obtain⟨W',e,s,b,c⟩:=f.put q.cells rfl (StV.one d.st);exact⟨W',s,b.load rfl,d.chg f c (by decide) (by decide) (by decide) (by decide),e▸eU h i _⟩
def Wh(w wr:World)(g:Nat)(s:St):Prop:=∃q qs,Blk wr g 43 q.cells∧q.x=s∧Ws wr w.heap.size q qs
theorem Wi(p:KpV)(n:Int)(B:Nat)(w:World)(h:kJ w B p)(hB:B≤w.heap.size)(hn:p.es.length≤1000000)(hr:KdR p.x)(hi:p.image.size≤maxLen)(hN:inR n):
  Calls prog 90 #[.agg p.cells.toArray,.i n] w (vC w (kI p.x n)):=by
 obtain⟨R,hR⟩:=nm' (kI p.x n);rw[hR];obtain⟨W1,m3,x1,b1,z1⟩:=par w 35 p.cells;obtain⟨T,p3,x2,V,z2⟩:=par W1 43 z'2;have hb:=b1.on V;have f:=k'4 (x1.grow V) x2 hb (dK z1);have r:=k'2 (Sl.below h hb hB) (aB hB hb.size);have HC:=kp (pI p B T r.a r.B hn hr hi);have HL:=kp (fun W b1 V=>xV p W B b1 V hn);have l0:=f.a.load (P:=prog) (k:=5) rfl;have z:=k'5 hR hr hi hn hN;go_enter func90,ntmps90;go_wp2_with fail;refine mb' (HC.o) fun w3 g0=>?_;have H:=kp g0
 cases Z:dY p.x
 .have hZ:=(f.b.below g0 f.b.lt)
  obtain⟨U,s4,N,O,aQ⟩:=vC.fin hZ (f.c.on g0) f.D (yH _ _);have e3:Sem.run prog (storeCells ⟨W1.heap.size,0,none⟩ iU 0) w3=.ok () U:=s4;have g:=k'4 O aQ Z (Ie (n:=n) Z);rw[show dG 1 false=1 from rfl];go_wp2_with fail;exact bI (v:=.tuple #[.agg oD.cells.toArray,.i 1]) (by simp[results,results90,go_sem,N]) rfl ⟨oD,[],1,rfl,(fun s l=>by rw[←z.a,g.D]at l; cases l),(fun _=>by decide),g.a,g.b⟩
 obtain⟨G,HOk⟩:=mW.1 Z;have J:=kp HOk;rw[show dG 1 true=0 from rfl];have k2:=(f.a.grow H.o).cell 2;change _=some (Value.i p.base)at k2;have l0:=(f.a.grow H.o).load (P:=prog) (k:=5) rfl;obtain⟨L,m0⟩:=nm' p.x.last;have e0:=k'2 m0 (show L=p.base+p.es.length from m0.symm);have p0:=kp (by have:=HL.o w3 (Sl.below r.a H.o r.B) J.o.base; rw[m0]at this; exact this);have p1:n<p.base∨(¬n<p.base∧L<n)∨(¬n<p.base∧¬L<n):=by omega
 rcases p1 with K|⟨K,Y⟩|⟨K,Y⟩
 case' inl=>
  have c1:decide (n<p.base)=true:=by simp[K]
  have j:=kp (show R=none by rw[←z.a]; exact xY (by show aG n p.base p.x.last=false; unfold aG; rw[dR (by omega)]; rfl));obtain⟨w4,a1⟩:=nm' w3;have I:=kp (show Bw' T w4 from a1▸H.o);subst a1
 case' inr.inl=>
  have c1:decide (n<p.base)=false:=by simp[K]
  have c2:decide (L<n)=true:=by simp[Y]
  have j:=kp (show R=none by rw[←z.a]; exact xY (by show aG n p.base p.x.last=false; unfold aG; rw[e0.a,dR (show ¬n≤L by omega),Mk]));go_wp2_with fail;refine mb' (p0.o) fun w4 j0=>?_;have I:=kp (H.o.on j0)
 case' inr.inr=>
  have c1:decide (n<p.base)=false:=by simp[K]
  have c2:decide (L<n)=false:=by simp[Y]
  have j:=k'2 K Y;go_wp2_with fail;refine mb' (p0.o) fun w4 j0=>?_;have I:=kp (H.o.on j0)
 rotate_left
 iterate 2
  .obtain⟨U,s4,N,O,aQ⟩:=vC.fin (f.b.below I.o f.b.lt) (f.c.on I.o) f.D (yH _ _);have e3:Sem.run prog (storeCells ⟨W1.heap.size,0,none⟩ iU 0) _=.ok () U:=s4;have g:=k'2 O aQ;go_wp2_with fail;exact bI (v:=.tuple #[.agg oD.cells.toArray,.i 140]) (by simp[results,results90,go_sem,N]) rfl ⟨oD,[],140,rfl,(fun s l=>by rw[j.o]at l; cases l),(fun _=>by decide),g.a,g.B⟩
 obtain⟨m,hm⟩:∃m:Nat,n-p.base=m:=⟨(n-p.base).toNat,by have:=j.a; omega⟩
 have g2:m≤p.es.length:=by have:=j.B; have:=e0.B; omega
 have y0:=kp (show R=some (kH G (p.es.take m)) by
  rw[←z.a,If J.o (by show aG n p.base p.x.last=true; unfold aG; rw[e0.a]; have:=j.o; simp; omega)];show some (kH G (p.es.take (n-p.base).toNat))=_;rw[hm]; rfl)
 have M:=k'2 hm g2;have k3:=(f.a.below I.o f.a.lt).cell 3;change _=some (Value.string p.image)at k3;obtain⟨c5,W5,d4,m1,o2,q2,j2,d2⟩:=vB w4 p.image z.c;have y:=k'5 (I.o.on m1) o2 q2 j2 d2;go_wp2_with fail;refine (yG _ _ _ _ p.image.data.toList W5 y.b y.c (pH _) y.d y.E).mono ?_;rintro e w6 ⟨q,qs,rfl,o0,hv,z0⟩;have y1:dX p.image.data.toList=some G:=J.o.img;rw[y1]at o0 ⊢;change q.x=G at o0;obtain⟨W7,q3,s7,x7,b7,z7⟩:=eJ w6 43 z'2 q.cells rfl (StV.one hv.st);have b0:=kp (y.a.on (z0.on b7));have S:=k'4 x7 o0 ((hv.ws.mono (aB f.c.size y.a.size)).below b7) (aB y.a.size z0.size);have k4:=(f.a.below b0.o f.a.lt).cell 4;change _=some p.ev at k4;have k2:=(f.a.below b0.o f.a.lt).cell 2;change _=some (Value.i p.base)at k2;have HS:=kp r.a;obtain⟨A,c,q1,p2,z3,a4⟩:=r.a;rw[q1]at k4;have y2:=Iy A p.es.length c m W7 (by have:=M.B; omega);have j4:wrap64 (n-p.base)=(m:Int):=by rw[M.a]; have:=M.B; have:=z.d; unfold wrap64; omega
 have l1:=kp p2;obtain⟨nl,l2⟩:=nm' p.es.length;rw[l2]at k4 y2;go_wp2_with fail;have g4:m≤1000000:=by have:=M.B; have:=z.d; omega
 go_loopw [42] (fun i wr=>∃k:Nat,k≤m∧i=.i k∧Bw' T wr∧Wh w wr w6.heap.size (kH G (p.es.take k))) (fun i _=>m-(intOf i).toNat)
 case atStart=>exact⟨0,by omega,rfl,b0.o,⟨q,qs,S.a,S.b,S.c⟩⟩
 case round=>
  obtain⟨k,Z,rfl,o1,⟨q,qs,x6,m2,a3⟩⟩:=hrel;have Q:=kp o1;have F:=k'3 x6 m2 a3
  by_cases e4:k<m
  .have g3:(k:Int)<(m:Int):=by omega
   have a0:k<p.es.length:=by have:=M.B; omega
   obtain⟨b,m4,rfl,-,-,a2⟩:=iS (P:=prog) 11 En.cells eM (by omega) (l1.o.below Q.o r.B) k a0;have q0:=a2 0;change Sem.run _ _ wr=.ok _ wr at q0;have HT:=k'2 (Tf G p.es k a0) (J.o.may _ (cU a0));generalize p.es[k]'a0=x at *;obtain⟨W8,y3,s8,x8,dH,z8⟩:=eJ wr 122 z'3 x.cells rfl (kV x);have d0:=kp (Q.o.on dH);have y6:=F.a.grow dH;have l6:=y6.load (P:=prog) (k:=9) rfl;have l8:=x8.load (P:=prog) (k:=11) rfl;have g1:=kp (Ck q qs x W8.heap.size W8 (F.C.below dH).st (aN _) (by rw[F.b]; exact Ig (uY J.o.img).1 fun e he=>J.o.may e (rI he)) HT.B);have HY:=kp y6;go_wp2_with fail;refine (g1.o).mono ?_;rintro e w9 ⟨q',d3,rfl,b3,d1,X⟩;obtain⟨l3,o3,o4,j3,c10⟩:=(HY.o.grow X).put q'.cells rfl (StV.one d1.st);have j:=k'3 j3 (show q'.x=kH G (p.es.take (k+1)) by rw[HT.a,b3,F.b]) ((d1.mono (aB f.c.size d0.o.size)).chg (HY.o.grow X) c10 (by decide) (by decide) (by decide) (by decide));have j1:=kp ((d0.o.on X).trans (c10.below (B:=T.heap.size) (fun i hi=>by have:=S.D; omega) (d0.o.on X).size));go_wp2_with fail;go_roundw
   case rel=>exact⟨k+1,by omega,by go_num,j1.o,⟨q',d3,j.o⟩⟩
   case measure=>simp[intOf]; omega
  .obtain rfl:m=k:=by omega
   have l6:=F.a.load (P:=prog) (k:=9) rfl;obtain⟨U,s4,N,O,aQ⟩:=vC.fin (f.b.below Q.o f.b.lt) (f.c.on Q.o) f.D F.C;have g:=k'2 O aQ;go_wp2_with fail;exact bI (v:=.tuple #[.agg q.cells.toArray,.i 0]) (by simp[results,results90,go_sem,N]) rfl ⟨q,qs,0,rfl,(fun s l=>by rw[y0.o]at l; cases l; exact⟨rfl,F.b⟩),(fun h=>by rw[y0.o]at h; cases h),g.a,g.B⟩
end
section
theorem Rd.le{w:World}{B a:Nat}{A:Option Addr}{xs:List Value}(h:Rd w B A xs)(c:B≤a):Rd w a A xs:=by
 rcases h with h|⟨b,f,e,d,h⟩
 .exact .inl h
 .exact .inr ⟨b,f,e,cY d c,h⟩
theorem Cl{w:World}{base k n:Nat}{t:TypeId}{v:Value}{xs:List Value}(h:w.ownsRow base t k v n xs):∃A c,v=.slice A n c:=by
 rcases h.2 with⟨e,a⟩|⟨b,c,d,e,_⟩
 .exact⟨none,0,by rw[e,a]⟩
 .exact⟨_,c,e⟩
structure eR(w:World)(g:Nat)(l:List UInt8):Prop where
 o:∃A c,Blk w g 209 [.slice A l.length c]∧Rd w w.heap.size A (bv l)∧∀b off,A=some ⟨b,off,none⟩→bv l≠[]→∃cs,w.heap[b]? =some (.cells cs 5 (0,0))
theorem eR.lt{w:World}{g:Nat}{l:List UInt8}(h:eR w g l):g<w.heap.size:=by obtain⟨A,c,a,-⟩:=h.o; exact a.lt
theorem eR.nil{w:World}{g:Nat}{A:Option Addr}{c:Nat}(h:Blk w g 209 [.slice A 0 c]):eR w g []:=⟨A,c,h,.inl rfl,fun _ _ _ h=>absurd rfl h⟩
theorem eR.below{w i:World}{g:Nat}{l:List UInt8}(h:eR w g l)(a:Bw' w i):eR i g l:=by
 obtain⟨A,c,f,m,n⟩:=h.o;exact⟨A,c,f.below a f.lt,Rd.le (m.below a (aN _)) a.size,fun b p e k=>by
  obtain⟨j,d⟩:=n b p e k;exact⟨j,(a.block b (eT.1 d).1).trans d⟩⟩
theorem eR.put{w:World}{g base n:Nat}{v:Value}{l:List UInt8}{i:List Value}(h:Blk w g 209 i)(o:i.length=1)(z:w.ownsRow base 5 1 v n (bv l))(r:n=l.length):eR (w.setCell ⟨g,0,none⟩ v) g l:=by
 subst r;have k:=h.setCell 0 v;rw[show i.set 0 v=[v] by cases i with |nil=>simp at o|cons a t=>cases t with |nil=>rfl|cons _ _=>simp at o]at k;have D:=tY l;rcases z.2 with⟨m,e⟩|⟨b,c,s,m,C,d,r,E,F,A⟩
 .have e1:l=[]:=List.length_eq_zero_iff.1 e;subst e1;subst m;exact .nil k
 .subst m;have y:g≠b:=fun e=>by
   subst e;have x:w.heap[g]? =_:=h;rw[x]at d;have:=(Option.some.inj d)
   simp only[Obj.cells.injEq]at this;exact absurd this.2.1 (by decide)
  have q:(w.setCell ⟨g,0,none⟩ (.slice (some ⟨b,0,none⟩) l.length c)).heap[b]? =w.heap[b]?:=Below.heap_setCell w _ _ b (fun e=>y e.symm);refine⟨_,c,k,.inr ⟨b,0,rfl,?_,fun j u f=>?_⟩,fun B G e _=>by cases e; exact⟨s,q.trans d⟩⟩
  .have:=(eT.1 d).1;simpa [World.setCell] using this
  .rw[gL];have p:w.cell? ⟨b,j,none⟩=some u:=by
    rw[←A]at f;rw[nK]at f
    split at f
    .simp only[World.cell?,d]; simpa using f
    .cases f
   rw[World.cell?]at p ⊢;rw[q];exact p
def InN(ns:List Int):Prop:=∀n∈ns,okN n
theorem Wj(g B:Nat)(l:List UInt8)(v:Value)(ns:List Int)(w:World)(h:eR w g l)(hv:Sl w B v i1 ns)(U:B≤w.heap.size)(Y:∀A n c b a,v=.slice A n c→A=some ⟨b,a,none⟩→ns≠[]→b≠g)(hn:InN ns)(Z:l.length+4*ns.length≤1000000):
  Calls prog 127 #[.pointer (some ⟨g,0,none⟩),v] w fun e H=>e=.returned (.tuple #[])∧eR H g (l++ns.flatMap aQ)∧Chg (fun i=>i=g) w H:=by
 obtain⟨A,c,rfl,hr,hc,hm⟩:=hv;obtain⟨n,C⟩:=nm' ns.length;have f:=kp C;rw[C]at Z ⊢;have S:=kp hr;have K:=kp U;have M:=kp (fun b a(e:A=some ⟨b,a,none⟩)(q:ns≠[])=>Y A _ c b a rfl e q);have N:=kp hn;have O:=kp h;go_enter func127,ntmps127;go_wp2_with fail
 go_loopw [8] (fun i wr=>∃k:Nat,k≤n∧i=.i k∧eR wr g (l++(ns.take k).flatMap aQ)∧Chg (fun i=>i=g) w wr) (fun i _=>n-(intOf i).toNat)
 case atStart=>exact⟨0,by omega,rfl,by simpa using O.o,Chg.refl _ _⟩
 case round=>
  obtain⟨k,hk,rfl,ho,E⟩:=hrel;have HOk:=kp ho;have y:=kp E
  by_cases d0:k<n
  .have g3:(k:Int)<n:=by omega
   have d:k<ns.length:=by have:=f.o; omega
   have G:=N.o _ (cU d);have q:ns≠[]:=fun e=>by rw[e]at d; simp at d
   obtain⟨b,a,z,hb,X,-⟩:=dS (P:=prog) 1 eG (by omega) S.o k d;have V:=M.o b a z q;subst z;have j:=X 0 _ rfl;simp only[dW,tN]at j;have W:wr.heap[b]? =w.heap[b]?:=E.block b (by have:=K.o; omega) V;have j:wr.cell? ⟨b,a+k,none⟩=some (.i ns[k]):=by
    rw[World.cell?]at j ⊢;rw[W]; exact j
   have b0:ns.take (k+1)=ns.take k++[ns[k]]:=fE d;generalize ns[k]'d=x at *;obtain⟨u,hu⟩:∃u:Nat,x=u:=⟨x.toNat,by have:=G.1; omega⟩
   subst hu;have T:=kp b0;obtain⟨I,c1,m,a0,-⟩:=HOk.o.o;have F:(l++(ns.take k).flatMap aQ).length=l.length+4*k:=by rw[bF,jI _ 4 fU,cL]; have:=f.o; omega
   rw[F]at m;have y0:=m.cell 0;have s:=kp m;simp only[aP]at y0;have R:=kp (Nj I (l.length+4*k) c1 (l++(ns.take k).flatMap aQ) u wr a0 F (by omega) (by have:=G.2; omega));go_wp2_with fail;refine (R.o).mono ?_;rintro e w2 ⟨v2,rfl,r,D⟩;have p:=s.o.below D s.o.lt;have z0:=p.cell 0;have f0:=p.frozen 0;simp only[aP]at z0;obtain⟨J,c2,rfl⟩:=Cl r;rw[←zH]at r;have Q:=kp (eR.put p rfl r (by rw[bF,jQ,bF,jI _ 4 fU,cL]; have:=f.o; omega));have L:=kp ((y.o.then D).setCell (.inr rfl) 0 (.slice J (l.length+4*k+4) c2));go_wp2_with fail;go_roundw
   case rel=>exact⟨k+1,by omega,by go_num,by rw[T.o,zC,Dm,←cH]; exact Q.o,L.o⟩
   case measure=>simp[intOf]; omega
  .obtain rfl:k=n:=by omega
   rw[eF (by have:=f.o; omega)]at HOk;go_wp2_with fail;go_end0;exact⟨rfl,HOk.o,y.o⟩
theorem Wl(g B:Nat)(l:List UInt8)(v:Value)(ns:List Int)(w:World)(h:eR w g l)(hv:Sl w B v i1 ns)(S:B≤w.heap.size)(W:∀A n c b a,v=.slice A n c→A=some ⟨b,a,none⟩→ns≠[]→b≠g)(X:l.length+8*ns.length≤1000000):
  Calls prog 128 #[.pointer (some ⟨g,0,none⟩),v] w fun e G=>e=.returned (.tuple #[])∧eR G g (l++ns.flatMap dH)∧Chg (fun i=>i=g) w G:=by
 obtain⟨A,c,rfl,Z,hc,hm⟩:=hv;obtain⟨n,C⟩:=nm' ns.length;have f:=kp C;rw[C]at X ⊢;have Q:=kp Z;have J:=kp S;have L:=kp (fun b a(e:A=some ⟨b,a,none⟩)(q:ns≠[])=>W A _ c b a rfl e q);have M:=kp h;go_enter func128,ntmps128;go_wp2_with fail
 go_loopw [8] (fun i wr=>∃k:Nat,k≤n∧i=.i k∧eR wr g (l++(ns.take k).flatMap dH)∧Chg (fun i=>i=g) w wr) (fun i _=>n-(intOf i).toNat)
 case atStart=>exact⟨0,by omega,rfl,by simpa using M.o,Chg.refl _ _⟩
 case round=>
  obtain⟨k,hk,rfl,Y,E⟩:=hrel;have HOk:=kp Y;have y:=kp E
  by_cases d0:k<n
  .have g3:(k:Int)<n:=by omega
   have d:k<ns.length:=by have:=f.o; omega
   have q:ns≠[]:=fun e=>by rw[e]at d; simp at d
   obtain⟨b,a,z,hb,V,-⟩:=dS (P:=prog) 1 eG (by omega) Q.o k d;have T:=L.o b a z q;subst z;have j:=V 0 _ rfl;simp only[dW,tN]at j;have U:wr.heap[b]? =w.heap[b]?:=E.block b (by have:=J.o; omega) T;have j:wr.cell? ⟨b,a+k,none⟩=some (.i ns[k]):=by
    rw[World.cell?]at j ⊢;rw[U]; exact j
   have b0:ns.take (k+1)=ns.take k++[ns[k]]:=fE d;generalize ns[k]'d=x at *;have R:=kp b0;obtain⟨H,c1,m,a0,-⟩:=HOk.o.o;have F:(l++(ns.take k).flatMap dH).length=l.length+8*k:=by rw[bF,jI _ 8 uM,cL]; have:=f.o; omega
   rw[F]at m;have y0:=m.cell 0;have s:=kp m;simp only[aP]at y0;have O:=kp (Nl H (l.length+8*k) c1 (l++(ns.take k).flatMap dH) x wr a0 F (by omega));go_wp2_with fail;refine (O.o).mono ?_;rintro e w2 ⟨v2,rfl,r,D⟩;have p:=s.o.below D s.o.lt;have z0:=p.cell 0;have f0:=p.frozen 0;simp only[aP]at z0;obtain⟨I,c2,rfl⟩:=Cl r;rw[←zH]at r;have N:=kp (eR.put p rfl r (by rw[bF,jQ,bF,jI _ 8 uM,cL]; have:=f.o; omega));have K:=kp ((y.o.then D).setCell (.inr rfl) 0 (.slice I (l.length+8*k+8) c2));go_wp2_with fail;go_roundw
   case rel=>exact⟨k+1,by omega,by go_num,by rw[R.o,zC,Dm,←cH]; exact N.o,K.o⟩
   case measure=>simp[intOf]; omega
  .obtain rfl:k=n:=by omega
   rw[eF (by have:=f.o; omega)]at HOk;go_wp2_with fail;go_end0;exact⟨rfl,HOk.o,y.o⟩
end
end Go.Proofs.YtoncgpddjmgbfaaGreat
