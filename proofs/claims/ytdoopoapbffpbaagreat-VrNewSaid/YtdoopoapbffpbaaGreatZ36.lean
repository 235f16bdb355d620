import Derived.Test.YtdoopoapbffpbaaGreatZ13
import Derived.Test.YtdoopoapbffpbaaGreatZ19
import Derived.Test.YtdoopoapbffpbaaGreatZ21
import Derived.Test.YtdoopoapbffpbaaGreatZ27
import Derived.Test.YtdoopoapbffpbaaGreatZ30
import Derived.Test.YtdoopoapbffpbaaGreatZ35
namespace Go.Proofs.YtdoopoapbffpbaaGreat
open Go.RowKit Go.Proofs.Tryz
set_option maxRecDepth 100000
set_option maxHeartbeats 12800000
set_option linter.unusedVariables false
set_option linter.unusedSimpArgs false
section
attribute [-go_sem] loadCellsFrom storeCells Instr.build
attribute [local go_sem] bC
theorem Zf(x:Rw)(t:Int)(w:World):Calls prog 143 #[.agg x.cells.toArray,.i t] w fun e f=>e=.returned (.i (fX x.c t))∧Bw' w f:=by
 obtain⟨h,i,b,a,-⟩:=par w 86 x.cells;have g:=b.cell 0;change _=some (Value.i x.c)at g;have d:=kp a;clear b a;go_enter func143,ntmps143;go_wp2_with fail;refine ms' (tJ x.c t _) ?_;go_wp2_with fail;go_ret;exact⟨rfl,d.o⟩
theorem Wx.wv{w:World}{base g:Nat}{p:HpV}{ps:List ObV}(h:Wx w base g p ps):Wv w base p ps:=⟨h.obs,h.rws,h.eq,h.free⟩
theorem Zg(h:Hp):(dU h pV).1=h:=by
 unfold dU;rw[aC (by decide),aC (by decide),aC (by decide)]
theorem Zh{l:List Rw}{i:Nat}{x:Rw}(b:i<l.length):(aM Rw.cells l).take (i*4)++x.cells++(aM Rw.cells l).drop ((i+1)*4)=aM Rw.cells (l.set i x):=by
 have e:l=l.take i++l[i]::l.drop (i+1):=by rw[←fG b,wB]
 have c:(aM Rw.cells (l.take i)).length=i*4:=by rw[eB 4 fJ]; simp; omega
 have a:aM Rw.cells l=aM Rw.cells (l.take i)++((l[i]).cells++aM Rw.cells (l.drop (i+1))):=by
  conv=>lhs; rw[e]
  rw[lV];rfl
 have g:((l[i]).cells).length=4:=rfl;have d:(aM Rw.cells l).take (i*4)=aM Rw.cells (l.take i):=by rw[a,wD c]
 have f:(aM Rw.cells l).drop ((i+1)*4)=aM Rw.cells (l.drop (i+1)):=by rw[a,←cR,wG (by rw[bB,c,g]; omega)]
 rw[d,f,List.set_eq_take_append_cons_drop,aE b,lV,cR];rfl
theorem Mk{l:List Rw}(h:eP 0 l=true):jB 0 l=⟨0,0,0,0⟩:=by
 rcases Rz 0 l with⟨a,b⟩|a
 .have:=pU h _ a; omega
 .exact a
theorem aO.put{P:Program}{w:World}{S:Nat→Prop}{e:TypeId}{k n g a cap:Nat}{xs:List Value}(h:aO w S e k (.slice (some ⟨g,a,none⟩) n cap) n xs)(i:Nat)(o:i<n)(b:List Value)(s:b.length=k)(m:∀u∈b,u.oneCell'=true):
  ∃X,Sem.run P (storeCells ⟨g,a+i*k,none⟩ b 0) w=.ok () (w.setRow g X)∧aO (w.setRow g X) S e k (.slice (some ⟨g,a,none⟩) n cap) n (xs.take (i*k)++b++xs.drop ((i+1)*k)):=by
 obtain⟨g',D,x,c,l,q,d,f,p,B,r⟩:=h.form (by omega)
 cases l;have C:=h.1;have y:(i+1)*k≤n*k:=dV _ o;have z:n*k≤cap*k:=dV _ f;have A:(i+1)*k=i*k+k:=by rw[gE,Nat.one_mul]
 have j:=run_storeCells_at P g (a+i*k) e b 0 c w d (by omega) m;simp only[cF]at j;refine⟨_,j,?_,.inr ⟨g,a,cap,_,rfl,q,setRow_heap w g c _ _ _ d,f,p,?_,?_⟩⟩
 .simp only[bB,cZ,dX];omega
 .simp only[gT,bB,cZ,dX,hP];omega
 .subst r;simp only[cR];rw[nZ (by simp; omega),oD,show a+i*k-a=i*k by omega,qP,kN,qP,cZ,dX,hP,s,
   show min (i*k) (c.size-a)=i*k by omega,show min (n*k) (i*k)=i*k by omega,kN,show min (i*k) (n*k)=i*k by omega,cN (show b.length≤n*k-i*k by omega)]
  congr 2
  rw[oD,List.drop_drop]
  congr 1
  .omega
  .congr 1; omega
theorem gQ{g a n c:Nat}{w:World}{X:Array Value}:Chg (fun k=>some k=(Value.slice (some ⟨g,a,none⟩) n c).ownBlock) w (w.setRow g X):=(Chg.refl (fun k=>some k=(Value.slice (some ⟨g,a,none⟩) n c).ownBlock) w).setRow (.inr rfl) X
theorem OR.set_row{w:World}{S:Nat→Prop}{v:Value}{l:List Rw}{i:Nat}{x:Rw}(h:aO w S 86 4 v l.length ((aM Rw.cells l).take (i*4)++x.cells++(aM Rw.cells l).drop ((i+1)*4)))(a:i<l.length):OR w S 86 4 v Rw.cells (l.set i x):=by
 unfold OR;rw[mI,←Zh a];exact h
theorem Ml{α:Type}{r:Result α}{a:α}{w:World}(h:r=.ok a w):∃b,b=a∧r=.ok b w:=⟨a,rfl,h⟩
theorem Mm(t:Int):∀l:List Rw,(l.any fun r=>decide (r.c=t))=true→eT (fun r:Rw=>r.c) t l<l.length
 |[],h=>by simp at h
 |r::l,h=>by
  unfold eT
  split
  .rename_i a;rw[wK,aX (by omega),Bool.false_or]at h;have:=Mm t l h;simp only[eV]; omega
  .simp
theorem Zi{α:Type}(l:List α)(i:Nat)(a:i≤l.length)(z y:α):(l.take i++[z]++l.drop i).set i y=l.take i++y::l.drop i:=by
 rw[cR,qM _ _ (by simp; omega)];simp[oC a]
structure ApF(w W:World)(g0 g1 gs gr g9 g11:Nat)(cs:List Value)(x:En)(q:HpV)(qs:List ObV)(v:Value)(l:List Rw)(c d:Int):Prop where
 df:DoF w W g0 g1 gs gr cs x
 hq:Blk W g9 29 q.cells
 rc:bZ W g11 c d
 sv:Ws W w.heap.size ⟨q,l,v⟩ qs
 lo:w.heap.size≤g9∧w.heap.size≤g11∧g11≠gr
section
variable {w W W':World}{g0 g1 gs gr g9 g11:Nat}{cs:List Value}{x:En}{q q':HpV}{qs qs':List ObV}{v:Value}{l:List Rw}{c d:Int}
theorem ApF.below(h:ApF w W g0 g1 gs gr g9 g11 cs x q qs v l c d)(a:Bw' W W'):ApF w W' g0 g1 gs gr g9 g11 cs x q qs v l c d:=
 ⟨h.df.below a,h.hq.grow a,h.rc.below a,h.sv.below a,h.lo⟩
theorem DoF.blk(h:DoF w W g0 g1 gs gr cs x){b:Nat}(a:Chg (fun i=>i=b) W W')(k:w.heap.size≤b)(c:g0≠b)(d:g1≠b)(f:gs≠b)(g:gr≠b):DoF w W' g0 g1 gs gr cs x:=
 ⟨h.st.chg a c,h.e.chg a d,h.s.chg a f,Blk.chg h.r a g,h.ne,h.lo,h.b.trans (a.below (fun i j=>by omega) h.b.size)⟩
theorem ApF.res(h:ApF w W g0 g1 gs gr g9 g11 cs x q qs v l c d)(a b:Int):∃W',W.setRow g11 #[.i a,.i b]=W'∧Sem.run prog (storeCells ⟨g11,0,none⟩ [.i a,.i b] 0) W=.ok () W'∧ApF w W' g0 g1 gs gr g9 g11 cs x q qs v l a b:=by
 have f:=(Chg.refl (fun i=>i=g11) W).setRow (.inr rfl) #[.i a,.i b];exact⟨_,rfl,h.rc.store a b,h.df.blk f h.lo.2.1 (h.df.st.ne h.rc (by decide)) (h.df.e.ne h.rc (by decide)) (h.df.s.ne h.rc (by decide)) (bL h.lo.2.2),h.hq.chg f (h.hq.ne h.rc (by decide)),h.rc.set a b,h.sv.chg h.rc f (by decide) (by decide) (by decide) (by decide),h.lo⟩
theorem ApF.code(h:ApF w W g0 g1 gs gr g9 g11 cs x q qs v l c d)(a:Int):∃W',W.setCell ⟨g11,0,none⟩ (.i a)=W'∧ApF w W' g0 g1 gs gr g9 g11 cs x q qs v l a d:=by
 have b:=(Chg.refl (fun i=>i=g11) W).setCell (g:=g11) (.inr rfl) 0 (.i a);exact⟨_,rfl,h.df.blk b h.lo.2.1 (h.df.st.ne h.rc (by decide)) (h.df.e.ne h.rc (by decide)) (h.df.s.ne h.rc (by decide)) (bL h.lo.2.2),h.hq.chg b (h.hq.ne h.rc (by decide)),Blk.setCell h.rc 0 _,h.sv.chg h.rc b (by decide) (by decide) (by decide) (by decide),h.lo⟩
theorem ApF.heap(h:ApF w W g0 g1 gs gr g9 g11 cs x q qs v l c d)(b:Wv W w.heap.size q' qs'):∃W',W.setRow g9 q'.cells.toArray=W'∧Sem.run prog (storeCells ⟨g9,0,none⟩ q'.cells 0) W=.ok () W'∧ApF w W' g0 g1 gs gr g9 g11 cs x q' qs' v l c d:=by
 have a:=(Chg.refl (fun i=>i=g9) W).setRow (.inr rfl) q'.cells.toArray;exact⟨_,rfl,h.hq.store rfl b.one,h.df.blk a h.lo.1 (h.df.st.ne h.hq (by decide)) (h.df.e.ne h.hq (by decide)) (h.df.s.ne h.hq (by decide)) (Blk.ne h.df.r h.hq (by decide)),h.hq.set _,Blk.chg h.rc a (Blk.ne h.rc h.hq (by decide)),⟨b.chg h.hq a (by decide) (by decide) (by decide),(h.sv.chg h.hq a (by decide) (by decide) (by decide) (by decide)).rows⟩,h.lo⟩
theorem ApF.fin(h:ApF w W g0 g1 gs gr g9 g11 cs x q qs v l c d):
  ∃b a,b=W.drew.setRow gs (StV.cells ⟨q,l,v⟩).toArray∧Sem.run prog (storeCells ⟨gs,0,none⟩ (StV.cells ⟨q,l,v⟩) 0) W.drew=.ok () b∧Sem.run prog (storeCells ⟨gr,0,none⟩ [.i c,.i d] 0) b=.ok () a∧
   Sem.run prog (loadCellsFrom ⟨gs,0,none⟩ 0 9 #[]) a=.ok (StV.cells ⟨q,l,v⟩).toArray a∧Sem.run prog (loadCellsFrom ⟨gr,0,none⟩ 0 2 #[]) a=.ok #[.i c,.i d] a∧Ws a w.heap.size ⟨q,l,v⟩ qs∧Bw' w a:=
 h.df.drew.fin (h.sv.below (bR (aL _ W))) c d
theorem ApF.rows(h:ApF w W g0 g1 gs gr g9 g11 cs x q qs v l c d){v':Value}{l':List Rw}(a:Chg (fun i=>some i=v.ownBlock) W W')(z:OR W' (fun i=>w.heap.size≤i) 86 4 v' Rw.cells l'):ApF w W' g0 g1 gs gr g9 g11 cs x q qs v' l' c d:=by
 have k:=h.sv.rows;have m:∀{g:Nat}{t:TypeId}{xs:List Value},Blk W g t xs→t≠86→some g≠v.ownBlock:=fun y A=>aO.not_blk k y A;have o:Below w.heap.size W W':=a.below (fun i f=>(aO.lt k i f).1) h.df.b.size;refine⟨⟨h.df.st.chg a (m h.df.st (by decide)),h.df.e.chg a (m h.df.e (by decide)),h.df.s.chg a (m h.df.s (by decide)),Blk.chg h.df.r a (m h.df.r (by decide)),h.df.ne,h.df.lo,h.df.b.trans o⟩,h.hq.chg a (m h.hq (by decide)),Blk.chg h.rc a (m h.rc (by decide)),⟨?_,z⟩,h.lo⟩;have j:=h.sv.h;exact⟨aO.chg j.obs a fun i f e=>aO.not_row j.obs k (by decide) i f e,j.rws.chg a fun p n i f=>⟨fun e=>(j.rws.row p n).1.apt_or k (by decide) i e f.symm,fun e=>(j.rws.row p n).2.apt_or k (by decide) i e f.symm⟩,j.eq,aO.chg j.free a fun i f e=>aO.not_row j.free k (by decide) i f e⟩
theorem ApF.make(p:DoF w W g0 g1 gs gr cs x)(F:Wv W w.heap.size q qs)(E:OR W (fun i=>w.heap.size≤i) 86 4 v Rw.cells l)(M:gr<W.heap.size)(c0 j:Int):
  ∃a d e c g,W.alloc (.cells z'1a 29)=a∧a.alloc (.cells #[.i 0,.i 0] 53)=d∧
   Sem.run prog (storeCells ⟨W.heap.size,0,none⟩ q.cells 0) d=.ok () e∧Sem.run prog (storeCells ⟨a.heap.size,0,none⟩ [.i c0,.i j] 0) e=.ok () c∧c.alloc (.cells #[.i 0,.i 0] 53)=g∧
   ApF w g g0 g1 gs gr W.heap.size c.heap.size cs x q qs v l 0 0∧Bw' W g:=by
 obtain⟨a,C,I,s,K⟩:=par W 29 z'1;obtain⟨d,D,J,n,N⟩:=par a 53 [.i 0,.i 0];have f:=s.on n;have o:w.heap.size≤W.heap.size:=p.b.size;have A:ApF w d g0 g1 gs gr W.heap.size a.heap.size cs x ⟨⟨0,0,0,0,0,0,[],[]⟩,.slice none 0 0,.slice none 0 0⟩ [] v l 0 0:=
  ⟨p.below f,I.grow n,J,⟨⟨aO.nil _ _ _ _,⟨fun _ h=>(nomatch h),.nil⟩,rfl,aO.nil _ _ _ _⟩,aO.below E f⟩,⟨o,by omega,by omega⟩⟩
 obtain⟨e,y,G,B⟩:=A.heap (F.below f);obtain⟨c,z,H,k⟩:=B.res c0 j;have aS:=cL (cL f (aD _) q.cells.toArray) (dY K) #[.i c0,.i j];rw[y,z]at aS;have m:=k.below (ba' c (.cells #[.i 0,.i 0] 53));have L:=Blk.lt k.df.r;exact⟨a,d,e,c,_,C,D,G,H,rfl,⟨m.df,m.hq,bZ.new c,m.sv,⟨o,by have:=k.df.b.size; omega,by omega⟩⟩,aS.alloc aS.size _⟩
end
theorem Zj(p:StV)(ps:List ObV)(x:En)(B:Nat)(w:World)(h:fN w B p ps)(hB:B≤w.heap.size)(H:stB p.x=true)(hm:fY x=true):
  Calls prog 95 #[.agg p.cells.toArray,.agg x.cells.toArray] w (Mj w (jC p.x x)):=by
 obtain⟨R,hR⟩:=nm' (jC p.x x);rw[hR];obtain⟨hh,Y⟩:=kA.1 H;have HH:=eC.1 hh;have q3:p.rows.length≤4:=by have:=rZ Y (by omega); have e:p.x.rows=p.rows:=rfl; rw[e]at this; omega
 obtain⟨W1,W2,W3,W4,a5,d5,e5,g5,V⟩:=DoF.of w p.cells x;have d:=SmO.ok h.1 HH;have g4:=kp (by have:=Dt p ps B W4 (h.below V.b hB) (aB hB V.b.size) (by have:=d.obs; omega) (by have:=d.free; omega) (by omega); rw[H,show eN 60 true=0 from rfl]at this; exact this);have n:=k'3 V (h.below V.b hB) (aB hB V.b.size);have z:=k'4 hR hh Y q3;have HM:=kp hm;have Z:=V.st.load (P:=prog) (k:=9) rfl;clear h hB V hR q3 Y HH hh H hm d;go_enter func95,ntmps95;go_wp2_with fail;refine mb' (g4.o) fun w5 e1=>?_;have e0:=k'3 (n.a.below e1) (n.b.below e1 n.C) (aB n.C e1.size);clear e1 Z a5 d5 e5 g5;have Z:=e0.a.e.load (P:=prog) (k:=11) rfl;have j4:=kp (by have:=vN.1 x w5; rw[HM.o]at this; exact this);go_wp2_with fail;refine mb' (j4.o) fun w6 j1=>?_;have J:=k'3 (e0.a.below j1) (e0.b.below j1 e0.C) (aB e0.C j1.size);clear j1 Z;have Z:=J.a.st.load (P:=prog) (k:=9) rfl;have F:=J.a.e.cell 2;change _=some (Value.i x.c)at F;go_wp2_with fail;refine (Yu p ps x.c B w6 J.b J.C (by have:=z.D; omega)).mono ?_;rintro e w7 ⟨bb,rfl,a2⟩;obtain⟨f,hf⟩:=nm' (jB x.c p.rows);rw[hf];clear Z F;obtain⟨W8,j5,a6,nb,d4,-⟩:=fB w7 86 z'4 f.cells rfl (jR f);have y1:=kp (a2.on d4);have p4:=kp (aB J.a.b.size a2.size);have S:=k'3 (J.a.below y1.o) (J.b.below y1.o J.C) (aB J.C y1.o.size);have o2:=kp nb;have HF:=kp hf;have s8:=S.a.st.cell 8;rw[StV.c8]at s8;clear hf a2 nb d4;go_wp2_with fail;refine (fam'6.2.2.1 p.rv p.rows B W8 S.b.2 S.C (by have:=z.D; omega)).mono ?_;rintro e w9 ⟨v,rfl,d2,j0⟩;have K:=k'3 (S.a.below j0) (S.b.below j0 S.C) (aB S.C j0.size);have o4:=kp (o2.o.grow j0);obtain⟨A,cc,rfl,-⟩:=eD d2;obtain⟨nv,b2⟩:=nm' p.rows.length;have l4:=kp (show OR w9 (fun i=>w7.heap.size+1≤i) 86 4 (.slice A nv cc) Rw.cells p.rows from b2▸OR.of_ow d2 fun i hi _=>by have:=o2.o.lt; omega);have Z:=K.a.st.loadOff (P:=prog) 0 8 p.p.cells rfl rfl;rw[b2];clear s8 a6 j0 d2 j5 b2;go_wp2_with fail;refine (Kj p.p ps pV B w9 K.b.1 K.C z.b).mono ?_;rintro e b6 ⟨q,qs,rfl,b0,⟨base,g,m0,o0⟩,U⟩;rw[Zg]at b0;obtain⟨cd,a0⟩:=nm' ((dU p.p.x pV).2);rw[a0];clear a0 Z;obtain⟨c0,d0⟩:=cd;have a4:=o0.wv.mono (aB K.a.b.size m0);obtain⟨A1,A2,A3,A4,A5,e6,g6,s3,s4,j6,b1,d1⟩:=ApF.make (K.a.below U) a4 ((aO.below l4.o U).mono fun i _ hi=>by have:=p4.o; omega) (Blk.lt (K.a.below U).r) c0 d0;have E:=kp b1;have HX:=kp (o4.o.grow (U.on d1));have m2:=k'2 (K.b.below (U.on d1) K.C) (aB K.C (U.on d1).size);have f1:=HX.o.cell 1;change _=some (Value.i f.s)at f1;have e3:=b1.df.e.cell 3;change _=some (Value.i x.s)at e3;have F:=b1.df.e.cell 2;change _=some (Value.i x.c)at F;have p3:=b0;clear o0 a4 U d1 b1 m0;have q0:=kp (by have:=z.a; unfold jC at this; rw[show p.x.rows=p.rows from rfl,HF.o]at this; exact this);obtain⟨g9,m5⟩:=nm' b6.heap.size;rw[m5]at E s3;have HQ:=kp (show (⟨q.x,p.rows⟩:St)=p.x by rw[p3]; rfl);clear p3 b0;have l5:(x.c≠0∧x.s<f.s)∨(¬x.s<f.s∧x.c=0)∨(¬x.s<f.s∧x.c≠0∧f.s=x.s)∨(¬x.s<f.s∧x.c≠0∧f.s≠x.s):=by
  by_cases d:x.s<f.s
  .refine .inl ⟨fun h=>?_,d⟩;have h2:=HF.o;rw[h,Mk (show eP 0 p.rows=true from z.c)]at h2;have h3:=HM.o;unfold fY at h3;rw[aE h]at h3;simp only[bI,bP]at h3;rw[←h2,h3.2.2.1]at d;simp at d
  .by_cases l:x.c=0
   .exact .inr (.inl ⟨d,l⟩)
   .by_cases G:f.s=x.s
    .exact .inr (.inr (.inl ⟨d,l,G⟩))
    .exact .inr (.inr (.inr ⟨d,l,G⟩))
 rcases l5 with⟨l,d⟩|⟨d,l⟩|⟨d,l,G⟩|⟨d,l,G⟩
 case' inl=>
  have c1:decide (x.s<f.s)=true:=by simp[d]
  have g0:=kp (show R=(⟨q.x,p.rows⟩,130,0) by have:=q0.o; rw[aC l,aE d]at this; rw[←this,HQ.o]);have z0:=Blk.cell E.o.rc 0;have y0:=Blk.frozen E.o.rc 0;simp only[aG]at z0;obtain⟨A6,T,Q⟩:=E.o.code 130;have j:=kp Q;clear l d Q;go_wp2_with fail;clear z0 y0 T
 case' inr.inl=>
  have c1:decide (x.s<f.s)=false:=by simp[d]
  have c2:(x.c==0)=true:=by simp[l]
  have d3:f=⟨0,0,0,0⟩:=by rw[←HF.o,l]; exact Mk z.c
  have g0:=kp (show R=(⟨q.x,p.rows⟩,f.k,f.v) by have:=q0.o; rw[aE l]at this; rw[←this,HQ.o,d3])
 case' inr.inr.inl=>
  have c1:decide (x.s<f.s)=false:=by simp[d]
  have c2:(x.c==0)=false:=by simp[l]
  have c3:(f.s==x.s)=true:=by simp[G]
  have g0:=kp (show R=(⟨q.x,p.rows⟩,f.k,f.v) by have:=q0.o; rw[aC l,aC d,aE G]at this; rw[←this,HQ.o])
 case' inr.inl=>
  have l2:=HX.o.loadOff (P:=prog) 2 2 [.i f.k,.i f.v] rfl rfl;obtain⟨A6,T,s6,Q⟩:=E.o.res f.k f.v;have j:=kp Q;clear l d T Q d3;go_wp2_with fail;clear l2 s6
 case' inr.inr.inl=>
  have l2:=HX.o.loadOff (P:=prog) 2 2 [.i f.k,.i f.v] rfl rfl;obtain⟨A6,T,s6,Q⟩:=E.o.res f.k f.v;have j:=kp Q;clear l d T Q G;go_wp2_with fail;clear l2 s6
 case' inr.inr.inr=>
  have c1:decide (x.s<f.s)=false:=by simp[d]
  have c2:(x.c==0)=false:=by simp[l]
  have c3:(f.s==x.s)=false:=by simp[G]
  have l2:=E.o.df.st.loadOff (P:=prog) 0 8 p.p.cells rfl rfl;have l3:=E.o.df.e.loadOff (P:=prog) 4 7 x.op.cells rfl rfl;have m4:=kp (by have:=q0.o; rw[aC l,aC d,aC G]at this; exact this);have HC:=kp l;clear l d G;go_wp2_with fail;refine (Kj p.p ps x.op B A5 m2.a.1 m2.B z.b).mono ?_;rintro e m6 ⟨q,qs,rfl,b0,⟨base,g,m0,o0⟩,hb⟩;obtain⟨cd,a0⟩:=nm' ((dU p.p.x x.op).2);rw[a0];obtain⟨N,O⟩:=cd;have j2:=k'2 b0 a0;have q2:=E.o.below hb;obtain⟨B1,y4,s1,y2⟩:=q2.heap (o0.wv.mono (aB E.o.df.b.size m0));obtain⟨B2,z4,s2,z1⟩:=y2.res N O;have j:=kp z1;have F:=z1.df.e.cell 2;change _=some (Value.i x.c)at F;clear l2 l3 b0 a0 hb o0 m0 q2 y4 y2 z4 z1 f1 e3 c1 c2 c3;have g2:=kp (Cj.2.1 (.slice A nv cc) p.rows (·.c) x.c 143 #[] B2.heap.size B2 (OR.sl j.o.sv.rows) (aD _) (by have:=z.D; omega) (Ia z.c) (enters_of func143 (by kernel_rfl) rfl) (fun W y _ _=>Zf y x.c W));have j3:=Ci (fun r:Rw=>r.c) x.c p.rows;obtain⟨t,ht⟩:=nm' (p.rows.any fun r=>decide (r.c=x.c));obtain⟨i,hi⟩:=nm' (eT (fun r:Rw=>r.c) x.c p.rows);rw[ht,hi]at g2;have L:=k'3 ht hi (hi▸j3);clear ht j3 hi;go_wp2_with fail;refine mb' (g2.o) fun q1 a3=>?_;have j:=kp (j.o.below a3);clear a3 s1 s2 F
  cases t
  case' false=>
   obtain⟨q4,b5,e4,p2,o6⟩:=par q1 86 z'4;have a1:=j.o.below p2;have HI:=kp (Ts (l2:=[⟨0,0,0,0⟩]) i q1.heap.size q4 a1.sv.rows e4 (fun e=>by have:=(aO.lt j.o.sv.rows _ e).2; omega) L.C (by simp) (fun k hk=>by have:=a1.df.b.size; omega) (by simp; have:=z.D; omega));have j:=kp a1;clear e4 p2 a1;go_wp2_with fail;refine (HI.o).mono ?_;rintro e q1 ⟨v,rfl,ho,l,-⟩;have j:=kp (j.o.rows l ho);obtain⟨I,M⟩:=nm' (p.rows.take i++[⟨0,0,0,0⟩]++p.rows.drop i);have HP:=kp (show i<I.length∧∀y:Rw,y.c=x.c→jV y p.rows=I.set i y from⟨by rw[←M]; simp[oC L.C],fun y hy=>by rw[←M,Co p.rows 0 z.c,hy,L.a,L.b,Zi _ _ L.C]; rfl⟩);rw[M]at j;clear ho l M b5
  case' true=>
   obtain⟨I,M⟩:=nm' p.rows;have HP:=kp (show i<I.length∧∀y:Rw,y.c=x.c→jV y p.rows=I.set i y from⟨by rw[←M,←L.b]; exact Mm _ _ L.a,fun y hy=>by rw[←M,Co p.rows 0 z.c,hy,L.a,L.b]; rfl⟩);rw[M]at j;clear M
  all_goals
   have Y:aO _ (fun i=>w.heap.size≤i) 86 4 _ I.length (aM Rw.cells I):=j.o.sv.rows;obtain⟨g1,p1,cap,d6,z3,-,-,p5,-,-,-⟩:=aO.form Y (by have:=HP.a; omega)
   first |subst z3|(cases z3)
   obtain⟨X,sx,ho⟩:=aO.put (P:=prog) Y i HP.a [.i x.c,.i x.s,.i N,.i O] rfl (jR ⟨x.c,x.s,N,O⟩);have m3:=OR.set_row (x:=⟨x.c,x.s,N,O⟩) ho HP.a;have F:=j.o.df.e.cell 2;change _=some (Value.i x.c)at F;have e3:=j.o.df.e.cell 3;change _=some (Value.i x.s)at e3;have l2:=j.o.rc.load;have j:=kp (j.o.rows gQ m3);have g3:(i:Int)<(I.length:Int):=by have:=HP.a; omega
   obtain⟨A6,T⟩:=nm' (q1.setRow g1 X);rw[T]at sx j;obtain⟨n1,o5⟩:=nm' I.length;rw[o5]at j p5 g3;have g0:=kp (show R=(⟨q.x,I.set i ⟨x.c,x.s,N,O⟩⟩,N,O) by
    rw[←m4.o,←HP.B ⟨x.c,x.s,N,O⟩ rfl,j2.a,show p.x.h=p.p.x from rfl,j2.B])
   clear ho m3 Y;go_wp2_with fail;clear F e3 l2 sx
 all_goals
  obtain⟨V8,V9,z2,y3,l6,m1,o1,o3,b3⟩:=j.o.fin;have z5:=y3;change Sem.run _ (storeCells _ (StV.cells ⟨q,[],_⟩) 0) _=_ at z5;obtain⟨rS,y5,m1⟩:=Ml m1;obtain⟨rR,q5,o1⟩:=Ml o1;have n:=kp (j.o.below (bR (aL _ A6)));have p0:=k'3 o3 b3 z2;have HL:=k'2 m1 o1;clear o3 b3 z2 y3 m1 o1;refine fR 5 (Two 4 A6.drew V8) (fun _=>fK) (by kernel_rfl) (by kernel_rfl) (Two.start _ _ _) ?_
  iterate 4 (refine bO ?_; apply Exists.intro)
  refine bS eM ?_;refine dR ⟨?_,?_⟩
  rotate_left
  .apply Ug (by kernel_rfl) (by intro t w h; cases h; exact trivial) rfl
   .intro X W' m hX hw hV hF;have hg:=(m.all (P:=fun W=>Blk W g9 29 q.cells) n.o.hq (by rw[p0.C]; exact Blk.other n.o.hq (n.o.hq.ne n.o.df.s (by decide)) _)).load (P:=prog) (k:=8) rfl;go_wp2_with fail;exact⟨rfl,.agg q.cells.toArray,rfl,m.other (by decide),aV,rfl⟩
   simp only[Act.put,aN,aH,aI,aT];apply Ug (by kernel_rfl) (by intro t w h; cases h; exact trivial) rfl
   .intro X W' m hX hw hV hF;go_wp2_with fail
    first |exact⟨rfl,.slice (some ⟨g1,p1,none⟩) n1 cap,rfl,m.other (by decide),aV,rfl⟩|exact⟨rfl,.slice (some ⟨g1,p1,none⟩) n1 cc,rfl,m.other (by decide),aV,rfl⟩|exact⟨rfl,.slice A nv cc,rfl,m.other (by decide),aV,rfl⟩
   simp only[Act.put,aN,aH,aI,aT,aW];apply Ug (by kernel_rfl) (by intro t w h; cases h; exact trivial) rfl
   .intro X W' m hX hw hV hF;go_wp2_with fail
    first |exact⟨rfl,.agg (StV.cells ⟨q,[],.slice (some ⟨g1,p1,none⟩) n1 cap⟩).toArray,rfl,m.other (by decide),aV,rfl⟩|exact⟨rfl,.agg (StV.cells ⟨q,[],.slice (some ⟨g1,p1,none⟩) n1 cc⟩).toArray,rfl,m.other (by decide),aV,rfl⟩|exact⟨rfl,.agg (StV.cells ⟨q,[],.slice A nv cc⟩).toArray,rfl,m.other (by decide),aV,rfl⟩
   simp only[Act.put,aN,aH,aI,aT,aW];apply Ug (by kernel_rfl) (by intro t w h; cases h; exact trivial) rfl
   .intro X W' m hX hw hV hF;have hr:=(m.all (P:=fun W=>bZ W A4.heap.size _ _) n.o.rc (by rw[p0.C]; exact Blk.other n.o.rc (Blk.ne n.o.rc n.o.df.s (by decide)) _)).load;go_wp2_with fail
    first |exact⟨rfl,.agg #[.i N,.i O],rfl,m.other (by decide),aV,rfl⟩|exact⟨rfl,.agg #[.i f.k,.i f.v],rfl,m.other (by decide),aV,rfl⟩|exact⟨rfl,.agg #[.i 130,.i 0],rfl,m.other (by decide),aV,rfl⟩
   simp only[Act.put,aN,aH,aI,aT,aW];refine⟨fun X W' m hX hw hV hF=>?_,fun u5=>?_⟩
   .obtain rfl:=m.1 hX;go_wp2_with fail;exact⟨rfl,undef,rfl,Two.at_,aV,trivial⟩
   simp only[Act.put,aT,aW];intro W9 m hF;clear hF;obtain rfl:=m.2 rfl;simp only[dO,dP];go_wp2_with fail;exact aU (v:=.tuple #[.agg rS,.agg rR]) (by simp[results,results95,go_sem,HL.a,HL.B]) rfl ⟨_,_,by rw[y5,q5,g0.o],by rw[g0.o]; rfl,p0.a,p0.b⟩
  .exact⟨pv',pv',pv',pv',fun _ _ _ _ _ h _=>h,trivial⟩
end
end Go.Proofs.YtdoopoapbffpbaaGreat
