import Derived.Test.YthalbagblhkeaaaGreatZ09
import Derived.Test.YthalbagblhkeaaaGreatZ15
import Derived.Test.YthalbagblhkeaaaGreatZ16
import Derived.Test.YthalbagblhkeaaaGreatZ17
import Derived.Test.YthalbagblhkeaaaGreatZ20
import Derived.Test.YthalbagblhkeaaaGreatZ21
namespace Go.Proofs.YthalbagblhkeaaaGreat
open Go.RowKit Go.Proofs.Tryz
set_option maxRecDepth 100000
set_option maxHeartbeats 12800000
set_option linter.unusedVariables false
set_option linter.unusedSimpArgs false
section
attribute [-go_sem] loadCellsFrom storeCells
attribute [local go_sem] bC
def mF:List Value:=z'2
structure Ws(w:World)(base:Nat)(p:StV)(ps:List ObV):Prop where
 h:Wv w base p.p ps
 rows:OR w (fun i=>base≤i) 117 4 p.rv Rw.cells p.rows
structure DoF(w W:World)(g0 g1 gs gr:Nat)(cs:List Value)(x:En):Prop where
 st:Blk W g0 32 cs
 e:Blk W g1 93 x.cells
 s:Blk W gs 32 mF
 r:bZ W gr 0 0
 ne:g0≠gs
 lo:w.heap.size≤g0∧w.heap.size≤gs∧w.heap.size≤gr
 b:Bw' w W
section
variable {w w' W W':World}{base base2 g0 g1 gs gr b:Nat}{cs cs':List Value}{x:En}{p p':StV}{ps ps':List ObV}{t:TypeId}
theorem Ws.st(h:Ws w base p ps):fN w w.heap.size p ps:=⟨h.h.hpAt,h.rows.sl⟩
theorem Ws.below(h:Ws w base p ps)(a:Bw' w w'):Ws w' base p ps:=⟨h.h.below a,h.rows.below a⟩
theorem Ws.mono(h:Ws w base p ps)(a:base2≤base):Ws w base2 p ps:=⟨h.h.mono a,aO.mono h.rows fun _ _ h=>aB a h⟩
theorem Ws.chg(h:Ws w base p ps)(a:Blk w b t cs)(c:Chg (fun i=>i=b) w w')(d:t≠152)(f:t≠150)(g:t≠3)(j:t≠117):Ws w' base p ps:=
 ⟨h.h.chg a c d f g,aO.chg h.rows c fun _ k e=>aO.not_blk h.rows a j (e▸k)⟩
theorem Sv.ws(h:Sv w base p ps):Ws w base p ps:=⟨h.h.wv,OR.of_ow h.rows fun _ h _=>h⟩
theorem DoF.below(h:DoF w W g0 g1 gs gr cs x)(a:Bw' W W'):DoF w W' g0 g1 gs gr cs x:=
 ⟨h.st.below a h.st.lt,h.e.below a h.e.lt,h.s.below a h.s.lt,h.r.below a,h.ne,h.lo,h.b.on a⟩
theorem DoF.drew(h:DoF w W g0 g1 gs gr cs x):DoF w W.drew g0 g1 gs gr cs x:=h.below (bR (aL _ _))
theorem DoF.put(h:DoF w W g0 g1 gs gr cs x)(cs':List Value):DoF w (W.setRow g0 cs'.toArray) g0 g1 gs gr cs' x:=
 ⟨h.st.set cs',h.e.other (h.e.ne h.st (by decide)) _,h.s.other (bL h.ne) _,Blk.other h.r (Blk.ne h.r h.st (by decide)) _,h.ne,h.lo,cL h.b h.lo.1 _⟩
theorem DoF.of(w:World)(cs:List Value)(x:En):∃a b c h,w.alloc (.cells cs.toArray 32)=a∧a.alloc (.cells x.cells.toArray 93)=b∧
  b.alloc (.cells z'2a 32)=c∧c.alloc (.cells #[.i 0,.i 0] 46)=h∧DoF w h w.heap.size a.heap.size b.heap.size c.heap.size cs x:=by
 refine⟨_,_,_,_,rfl,rfl,rfl,rfl,?_⟩;generalize k:w.alloc (.cells cs.toArray 32)=a;generalize l:a.alloc (.cells x.cells.toArray 93)=b;generalize m:b.alloc (.cells z'2a 32)=c;have e:Blk a w.heap.size 32 cs:=k▸Blk.new w _ cs;have i:Blk b a.heap.size 93 x.cells:=l▸Blk.new a _ x.cells;have j:Blk c b.heap.size 32 mF:=m▸Blk.new b _ mF;have e1:Bw' w a:=k▸ba' w _;have d:Bw' a b:=l▸ba' a _;have f:Bw' b c:=m▸ba' b _;have g:=ba' c (.cells #[.i 0,.i 0] 46);have c0:=(e.below d e.lt).below f (e.below d e.lt).lt;have c1:=i.below f i.lt;exact⟨c0.below g c0.lt,c1.below g c1.lt,j.below g j.lt,bZ.new c,by have:=e.lt; have:=d.size; omega,⟨aD _,aB e1.size d.size,aB (aB e1.size d.size) f.size⟩,
  ((e1.on d).trans (f.mono (aB e1.size d.size))).trans (g.mono (aB (aB e1.size d.size) f.size))⟩
theorem DoF.fin(h:DoF w W g0 g1 gs gr cs x)(j:Ws W w.heap.size p ps)(c d:Int):
  ∃e a,e=W.setRow gs p.cells.toArray∧Sem.run prog (storeCells ⟨gs,0,none⟩ p.cells 0) W=.ok () e∧Sem.run prog (storeCells ⟨gr,0,none⟩ [.i c,.i d] 0) e=.ok () a∧
   Sem.run prog (loadCellsFrom ⟨gs,0,none⟩ 0 9 #[]) a=.ok p.cells.toArray a∧Sem.run prog (loadCellsFrom ⟨gr,0,none⟩ 0 2 #[]) a=.ok #[.i c,.i d] a∧Ws a w.heap.size p ps∧Bw' w a:=by
 have m:=(Chg.refl (fun i=>i=gs) W).setRow (.inr rfl) p.cells.toArray;have l:=j.chg h.s m (by decide) (by decide) (by decide) (by decide);have f:bZ (W.setRow gs p.cells.toArray) gr 0 0:=Blk.other h.r (Blk.ne h.r h.s (by decide)) _;have k:=h.s.set p.cells;have cD:=cL h.b h.lo.2.1 p.cells.toArray;have n:=h.s.store (P:=prog) (cs':=p.cells) rfl (StV.one j.st);generalize W.setRow gs p.cells.toArray=e at *;have g:=(Chg.refl (fun i=>i=gr) e).setRow (.inr rfl) #[.i c,.i d];exact⟨e,_,rfl,n,f.store c d,(k.chg g (k.ne f (by decide))).load rfl,(f.set c d).load,l.chg f g (by decide) (by decide) (by decide) (by decide),cL cD h.lo.2.2 _⟩
end
theorem SmO.ok{w:World}{B:Nat}{p:HpV}{ps:List ObV}(h:gH w B p ps)(H:HOk p.x):SmO p ps:=SmO.of h ⟨by have:=H.len; omega,by have:=H.len; omega,fun x a=>by have:=H.lens a; omega⟩
theorem rZ:∀{l:List Rw}{a:Int},eP a l=true→a≤4→(l.length:Int)≤4-a
 |[],_,_,h=>by simp; omega
 |r::l,a,h,_=>by
  obtain⟨d,b,_,_,c⟩:=jI.1 h;have:=rZ c b;simp only[eV]; omega
def Mj(w:World)(R:St×Int×Int)(e:Ending)(w':World):Prop:=
 ∃p ps,e=.returned (.tuple #[.agg p.cells.toArray,.agg #[.i R.2.1,.i R.2.2]])∧p.x=R.1∧Ws w' w.heap.size p ps∧Bw' w w'
theorem Yx(q:HpV)(A:Option Addr)(n c:Nat)(w:World):(Instr.build 32 #[(0,.agg q.cells.toArray),(1,.slice A n c)]).run prog w=.ok (.agg (StV.cells ⟨q,[],.slice A n c⟩).toArray) w:=run_build w _ _ _ (by kernel_rfl)
theorem Yy(w:World):(Instr.build 46 #[]).run prog w=.ok (.agg #[.i 0,.i 0]) w:=run_build w _ _ _ (by kernel_rfl)
theorem Yz(c:Int)(w:World):(Instr.build 46 #[(0,.i c)]).run prog w=.ok (.agg #[.i c,.i 0]) w:=run_build w _ _ _ (by kernel_rfl)
theorem Za(a b c d:Int)(w:World):(Instr.build 117 #[(0,.i a),(1,.i b),(2,.agg #[.i c,.i d])]).run prog w=.ok (.agg #[.i a,.i b,.i c,.i d]) w:=run_build w _ _ _ (by kernel_rfl)
theorem Zb(w:World):(Instr.build 117 #[]).run prog w=.ok (.agg z'4a) w:=run_build w _ _ _ (by kernel_rfl)
theorem Zc(w:World):(Instr.build 32 #[]).run prog w=.ok (.agg mF.toArray) w:=run_build w _ _ _ (by kernel_rfl)
theorem Zd(w:World):(Instr.build 43 #[]).run prog w=.ok (.agg #[.i 0,.i 0,.i 0,.i 0,.i 0,.i 0,.i 0]) w:=run_build w _ _ _ (by kernel_rfl)
attribute [-go_sem] Instr.build Instr.fill
attribute [go_sem] Yx Yy Yz Za Zb Zc Zd
structure DnC(Wa:World)(gs:Nat)(q:HpV)(l:List Rw)(X:Nat→Option Value)(W:World):Prop where
 pre:X 9=none→X 12=none→W=Wa
 post:∀v,X 9=some v→X 12=none→Ow W Wa.heap.size 117 4 v Rw.cells l∧Bw' Wa W
 b10:∀z,X 10=some z→∃v,X 9=some v∧z=.agg (StV.cells ⟨q,l,v⟩).toArray
 fin:∀u,X 12=some u→∃v W0,X 10=some (.agg (StV.cells ⟨q,l,v⟩).toArray)∧Ow W0 Wa.heap.size 117 4 v Rw.cells l∧Bw' Wa W0∧W=W0.setRow gs (StV.cells ⟨q,l,v⟩).toArray
section
variable {Wa W W':World}{gs g:Nat}{q:HpV}{l:List Rw}{X:Nat→Option Value}{t:TypeId}{cs:List Value}
theorem DnC.blk(h:DnC Wa gs q l X W)(a:Blk Wa g t cs)(c:g≠gs):Blk W g t cs:=by
 cases h2:X 12 with
 |some u=>
  obtain⟨v,d,-,-,b,rfl⟩:=h.fin u h2;exact (a.below b a.lt).other c _
 |none=>
  cases h1:X 9 with
  |none=>rw[h.pre h1 h2]; exact a
  |some v=>exact a.below (h.post v h1 h2).2 a.lt
theorem DnC.other{j:Nat}{u:Value}(h:DnC Wa gs q l X W)(d:j≠9)(e:j≠10)(f:j≠12):DnC Wa gs q l (bD X j u) W:=by
 have b:bD X j u 9=X 9:=aR (bL d);have c:bD X j u 10=X 10:=aR (bL e);have a:bD X j u 12=X 12:=aR (bL f);exact⟨by rw[b,a]; exact h.pre,by rw[b,a]; exact h.post,by rw[b,c]; exact h.b10,by rw[c,a]; exact h.fin⟩
theorem DnC.build{v:Value}(h:DnC Wa gs q l X W)(g:X 9=some v):DnC Wa gs q l (bD X 10 (.agg (StV.cells ⟨q,l,v⟩).toArray)) W:=by
 have b:bD X 10 (.agg (StV.cells ⟨q,l,v⟩).toArray) 9=X 9:=aR (by decide);have c:bD X 10 (.agg (StV.cells ⟨q,l,v⟩).toArray) 10=some (.agg (StV.cells ⟨q,l,v⟩).toArray):=by simp[bD]
 have a:bD X 10 (.agg (StV.cells ⟨q,l,v⟩).toArray) 12=X 12:=aR (by decide);refine⟨by rw[b,a]; exact h.pre,by rw[b,a]; exact h.post,fun z i=>?_,fun u f=>?_⟩
 .rw[c]at i; cases i; exact⟨v,by rw[b]; exact g,rfl⟩
 .rw[a]at f;obtain⟨v',j,e,m,n,o⟩:=h.fin u f;obtain⟨v2,d,k⟩:=h.b10 _ e;rw[g]at d
  cases d;exact⟨v,j,c,by
   have:v'=v:=by
    have s:(StV.cells ⟨q,l,v'⟩).toArray=(StV.cells ⟨q,l,v⟩).toArray:=by injection k
    have r:StV.cells ⟨q,l,v'⟩=StV.cells ⟨q,l,v⟩:=by simpa using s
    have p:=List.append_cancel_left r;simpa using p
   subst this;exact⟨m,n,o⟩⟩
theorem DnC.store{v u:Value}(h:DnC Wa gs q l X W)(e:X 10=some (.agg (StV.cells ⟨q,l,v⟩).toArray))(c:Ow W Wa.heap.size 117 4 v Rw.cells l∧Bw' Wa W):DnC Wa gs q l (bD X 12 u) (W.setRow gs (StV.cells ⟨q,l,v⟩).toArray):=by
 have d:bD X 12 u 9=X 9:=aR (by decide);have a:bD X 12 u 10=X 10:=aR (by decide);have b:bD X 12 u 12=some u:=by simp[bD]
 refine⟨fun _ h=>(by rw[b]at h; cases h),fun _ _ h=>(by rw[b]at h; cases h),by rw[d,a]; exact h.b10,fun _ _=>⟨v,W,by rw[a]; exact e,c.1,c.2,rfl⟩⟩
theorem DnC.call{v:Value}(i:X 12=none)(j:X 10=none)(g:Ow W' Wa.heap.size 117 4 v Rw.cells l)(f:Bw' Wa W'):DnC Wa gs q l (bD X 9 v) W':=by
 have b:bD X 9 v 9=some v:=by simp[bD]
 have d:bD X 9 v 10=X 10:=aR (by decide);have e:bD X 9 v 12=X 12:=aR (by decide);refine⟨fun h=>(by rw[b]at h; cases h),fun u a _=>?_,fun z c=>?_,fun u a=>?_⟩
 .rw[b]at a; cases a; exact⟨g,f⟩
 .rw[d,j]at c; cases c
 .rw[e,i]at a; cases a
end
end
section
attribute [-go_sem] loadCellsFrom storeCells Instr.build
attribute [local go_sem] bC
theorem Zf(x:Rw)(t:Int)(w:World):Calls prog 105 #[.agg x.cells.toArray,.i t] w fun e f=>e=.returned (.i (fX x.c t))∧Bw' w f:=by
 obtain⟨h,i,b,a,-⟩:=par w 117 x.cells;have g:=b.cell 0;change _=some (Value.i x.c)at g;have d:=kp a;clear b a;go_enter func105,ntmps105;go_wp2_with fail;refine ms' (tJ x.c t _) ?_;go_wp2_with fail;go_ret;exact⟨rfl,d.o⟩
theorem Wx.wv{w:World}{base g:Nat}{p:HpV}{ps:List ObV}(h:Wx w base g p ps):Wv w base p ps:=⟨h.obs,h.rws,h.eq,h.free⟩
theorem Zg(h:Hp):(dU h pV).1=h:=by
 unfold dU;rw[aC (by decide),aC (by decide),aC (by decide)]
theorem Zh{l:List Rw}{i:Nat}{x:Rw}(b:i<l.length):(aM Rw.cells l).take (i*4)++x.cells++(aM Rw.cells l).drop ((i+1)*4)=aM Rw.cells (l.set i x):=by
 have e:l=l.take i++l[i]::l.drop (i+1):=by rw[←fG b,wB]
 have c:(aM Rw.cells (l.take i)).length=i*4:=by rw[eB 4 fJ]; simp; omega
 have a:aM Rw.cells l=aM Rw.cells (l.take i)++((l[i]).cells++aM Rw.cells (l.drop (i+1))):=by
  conv=>lhs; rw[e]
  rw[lV];rfl
 have g:((l[i]).cells).length=4:=rfl;have d:(aM Rw.cells l).take (i*4)=aM Rw.cells (l.take i):=by rw[a,wD c]
 have f:(aM Rw.cells l).drop ((i+1)*4)=aM Rw.cells (l.drop (i+1)):=by rw[a,←cR,wG (by rw[bB,c,g]; omega)]
 rw[d,f,List.set_eq_take_append_cons_drop,aE b,lV,cR];rfl
theorem Mk{l:List Rw}(h:eP 0 l=true):jB 0 l=⟨0,0,0,0⟩:=by
 rcases Rz 0 l with⟨a,b⟩|a
 .have:=pU h _ a; omega
 .exact a
theorem aO.put{P:Program}{w:World}{S:Nat→Prop}{e:TypeId}{k n g a cap:Nat}{xs:List Value}(h:aO w S e k (.slice (some ⟨g,a,none⟩) n cap) n xs)(i:Nat)(o:i<n)(b:List Value)(s:b.length=k)(m:∀u∈b,u.oneCell'=true):
  ∃X,Sem.run P (storeCells ⟨g,a+i*k,none⟩ b 0) w=.ok () (w.setRow g X)∧aO (w.setRow g X) S e k (.slice (some ⟨g,a,none⟩) n cap) n (xs.take (i*k)++b++xs.drop ((i+1)*k)):=by
 obtain⟨g',D,x,c,l,q,d,f,p,B,r⟩:=h.form (by omega)
 cases l;have C:=h.1;have y:(i+1)*k≤n*k:=dV _ o;have z:n*k≤cap*k:=dV _ f;have A:(i+1)*k=i*k+k:=by rw[gE,Nat.one_mul]
 have j:=run_storeCells_at P g (a+i*k) e b 0 c w d (by omega) m;simp only[cF]at j;refine⟨_,j,?_,.inr ⟨g,a,cap,_,rfl,q,setRow_heap w g c _ _ _ d,f,p,?_,?_⟩⟩
 .simp only[bB,cZ,dX];omega
 .simp only[gT,bB,cZ,dX,hP];omega
 .subst r;simp only[cR];rw[nZ (by simp; omega),oD,show a+i*k-a=i*k by omega,qP,kN,qP,cZ,dX,hP,s,
   show min (i*k) (c.size-a)=i*k by omega,show min (n*k) (i*k)=i*k by omega,kN,show min (i*k) (n*k)=i*k by omega,cN (show b.length≤n*k-i*k by omega)]
  congr 2
  rw[oD,List.drop_drop]
  congr 1
  .omega
  .congr 1; omega
theorem gQ{g a n c:Nat}{w:World}{X:Array Value}:Chg (fun k=>some k=(Value.slice (some ⟨g,a,none⟩) n c).ownBlock) w (w.setRow g X):=(Chg.refl (fun k=>some k=(Value.slice (some ⟨g,a,none⟩) n c).ownBlock) w).setRow (.inr rfl) X
theorem OR.set_row{w:World}{S:Nat→Prop}{v:Value}{l:List Rw}{i:Nat}{x:Rw}(h:aO w S 117 4 v l.length ((aM Rw.cells l).take (i*4)++x.cells++(aM Rw.cells l).drop ((i+1)*4)))(a:i<l.length):OR w S 117 4 v Rw.cells (l.set i x):=by
 unfold OR;rw[mI,←Zh a];exact h
theorem Ml{α:Type}{r:Result α}{a:α}{w:World}(h:r=.ok a w):∃b,b=a∧r=.ok b w:=⟨a,rfl,h⟩
theorem Mm(t:Int):∀l:List Rw,(l.any fun r=>decide (r.c=t))=true→eT (fun r:Rw=>r.c) t l<l.length
 |[],h=>by simp at h
 |r::l,h=>by
  unfold eT
  split
  .rename_i a;rw[wK,aX (by omega),Bool.false_or]at h;have:=Mm t l h;simp only[eV]; omega
  .simp
theorem Zi{α:Type}(l:List α)(i:Nat)(a:i≤l.length)(z y:α):(l.take i++[z]++l.drop i).set i y=l.take i++y::l.drop i:=by
 rw[cR,qM _ _ (by simp; omega)];simp[oC a]
structure ApF(w W:World)(g0 g1 gs gr g9 g11:Nat)(cs:List Value)(x:En)(q:HpV)(qs:List ObV)(v:Value)(l:List Rw)(c d:Int):Prop where
 df:DoF w W g0 g1 gs gr cs x
 hq:Blk W g9 29 q.cells
 rc:bZ W g11 c d
 sv:Ws W w.heap.size ⟨q,l,v⟩ qs
 lo:w.heap.size≤g9∧w.heap.size≤g11∧g11≠gr
section
variable {w W W':World}{g0 g1 gs gr g9 g11:Nat}{cs:List Value}{x:En}{q q':HpV}{qs qs':List ObV}{v:Value}{l:List Rw}{c d:Int}
theorem ApF.below(h:ApF w W g0 g1 gs gr g9 g11 cs x q qs v l c d)(a:Bw' W W'):ApF w W' g0 g1 gs gr g9 g11 cs x q qs v l c d:=
 ⟨h.df.below a,h.hq.grow a,h.rc.below a,h.sv.below a,h.lo⟩
theorem DoF.blk(h:DoF w W g0 g1 gs gr cs x){b:Nat}(a:Chg (fun i=>i=b) W W')(k:w.heap.size≤b)(c:g0≠b)(d:g1≠b)(f:gs≠b)(g:gr≠b):DoF w W' g0 g1 gs gr cs x:=
 ⟨h.st.chg a c,h.e.chg a d,h.s.chg a f,Blk.chg h.r a g,h.ne,h.lo,h.b.trans (a.below (fun i j=>by omega) h.b.size)⟩
theorem ApF.res(h:ApF w W g0 g1 gs gr g9 g11 cs x q qs v l c d)(a b:Int):∃W',W.setRow g11 #[.i a,.i b]=W'∧Sem.run prog (storeCells ⟨g11,0,none⟩ [.i a,.i b] 0) W=.ok () W'∧ApF w W' g0 g1 gs gr g9 g11 cs x q qs v l a b:=by
 have f:=(Chg.refl (fun i=>i=g11) W).setRow (.inr rfl) #[.i a,.i b];exact⟨_,rfl,h.rc.store a b,h.df.blk f h.lo.2.1 (h.df.st.ne h.rc (by decide)) (h.df.e.ne h.rc (by decide)) (h.df.s.ne h.rc (by decide)) (bL h.lo.2.2),h.hq.chg f (h.hq.ne h.rc (by decide)),h.rc.set a b,h.sv.chg h.rc f (by decide) (by decide) (by decide) (by decide),h.lo⟩
theorem ApF.code(h:ApF w W g0 g1 gs gr g9 g11 cs x q qs v l c d)(a:Int):∃W',W.setCell ⟨g11,0,none⟩ (.i a)=W'∧ApF w W' g0 g1 gs gr g9 g11 cs x q qs v l a d:=by
 have b:=(Chg.refl (fun i=>i=g11) W).setCell (g:=g11) (.inr rfl) 0 (.i a);exact⟨_,rfl,h.df.blk b h.lo.2.1 (h.df.st.ne h.rc (by decide)) (h.df.e.ne h.rc (by decide)) (h.df.s.ne h.rc (by decide)) (bL h.lo.2.2),h.hq.chg b (h.hq.ne h.rc (by decide)),Blk.setCell h.rc 0 _,h.sv.chg h.rc b (by decide) (by decide) (by decide) (by decide),h.lo⟩
theorem ApF.heap(h:ApF w W g0 g1 gs gr g9 g11 cs x q qs v l c d)(b:Wv W w.heap.size q' qs'):∃W',W.setRow g9 q'.cells.toArray=W'∧Sem.run prog (storeCells ⟨g9,0,none⟩ q'.cells 0) W=.ok () W'∧ApF w W' g0 g1 gs gr g9 g11 cs x q' qs' v l c d:=by
 have a:=(Chg.refl (fun i=>i=g9) W).setRow (.inr rfl) q'.cells.toArray;exact⟨_,rfl,h.hq.store rfl b.one,h.df.blk a h.lo.1 (h.df.st.ne h.hq (by decide)) (h.df.e.ne h.hq (by decide)) (h.df.s.ne h.hq (by decide)) (Blk.ne h.df.r h.hq (by decide)),h.hq.set _,Blk.chg h.rc a (Blk.ne h.rc h.hq (by decide)),⟨b.chg h.hq a (by decide) (by decide) (by decide),(h.sv.chg h.hq a (by decide) (by decide) (by decide) (by decide)).rows⟩,h.lo⟩
theorem ApF.fin(h:ApF w W g0 g1 gs gr g9 g11 cs x q qs v l c d):
  ∃b a,b=W.drew.setRow gs (StV.cells ⟨q,l,v⟩).toArray∧Sem.run prog (storeCells ⟨gs,0,none⟩ (StV.cells ⟨q,l,v⟩) 0) W.drew=.ok () b∧Sem.run prog (storeCells ⟨gr,0,none⟩ [.i c,.i d] 0) b=.ok () a∧
   Sem.run prog (loadCellsFrom ⟨gs,0,none⟩ 0 9 #[]) a=.ok (StV.cells ⟨q,l,v⟩).toArray a∧Sem.run prog (loadCellsFrom ⟨gr,0,none⟩ 0 2 #[]) a=.ok #[.i c,.i d] a∧Ws a w.heap.size ⟨q,l,v⟩ qs∧Bw' w a:=
 h.df.drew.fin (h.sv.below (bR (aL _ W))) c d
theorem ApF.rows(h:ApF w W g0 g1 gs gr g9 g11 cs x q qs v l c d){v':Value}{l':List Rw}(a:Chg (fun i=>some i=v.ownBlock) W W')(z:OR W' (fun i=>w.heap.size≤i) 117 4 v' Rw.cells l'):ApF w W' g0 g1 gs gr g9 g11 cs x q qs v' l' c d:=by
 have k:=h.sv.rows;have m:∀{g:Nat}{t:TypeId}{xs:List Value},Blk W g t xs→t≠117→some g≠v.ownBlock:=fun y A=>aO.not_blk k y A;have o:Below w.heap.size W W':=a.below (fun i f=>(aO.lt k i f).1) h.df.b.size;refine⟨⟨h.df.st.chg a (m h.df.st (by decide)),h.df.e.chg a (m h.df.e (by decide)),h.df.s.chg a (m h.df.s (by decide)),Blk.chg h.df.r a (m h.df.r (by decide)),h.df.ne,h.df.lo,h.df.b.trans o⟩,h.hq.chg a (m h.hq (by decide)),Blk.chg h.rc a (m h.rc (by decide)),⟨?_,z⟩,h.lo⟩;have j:=h.sv.h;exact⟨aO.chg j.obs a fun i f e=>aO.not_row j.obs k (by decide) i f e,j.rws.chg a fun p n i f=>⟨fun e=>(j.rws.row p n).1.apt_or k (by decide) i e f.symm,fun e=>(j.rws.row p n).2.apt_or k (by decide) i e f.symm⟩,j.eq,aO.chg j.free a fun i f e=>aO.not_row j.free k (by decide) i f e⟩
theorem ApF.make(p:DoF w W g0 g1 gs gr cs x)(F:Wv W w.heap.size q qs)(E:OR W (fun i=>w.heap.size≤i) 117 4 v Rw.cells l)(M:gr<W.heap.size)(c0 j:Int):
  ∃a d e c g,W.alloc (.cells z'1a 29)=a∧a.alloc (.cells #[.i 0,.i 0] 46)=d∧
   Sem.run prog (storeCells ⟨W.heap.size,0,none⟩ q.cells 0) d=.ok () e∧Sem.run prog (storeCells ⟨a.heap.size,0,none⟩ [.i c0,.i j] 0) e=.ok () c∧c.alloc (.cells #[.i 0,.i 0] 46)=g∧
   ApF w g g0 g1 gs gr W.heap.size c.heap.size cs x q qs v l 0 0∧Bw' W g:=by
 obtain⟨a,C,I,s,K⟩:=par W 29 z'1;obtain⟨d,D,J,n,N⟩:=par a 46 [.i 0,.i 0];have f:=s.on n;have o:w.heap.size≤W.heap.size:=p.b.size;have A:ApF w d g0 g1 gs gr W.heap.size a.heap.size cs x ⟨⟨0,0,0,0,0,0,[],[]⟩,.slice none 0 0,.slice none 0 0⟩ [] v l 0 0:=
  ⟨p.below f,I.grow n,J,⟨⟨aO.nil _ _ _ _,⟨fun _ h=>(nomatch h),.nil⟩,rfl,aO.nil _ _ _ _⟩,aO.below E f⟩,⟨o,by omega,by omega⟩⟩
 obtain⟨e,y,G,B⟩:=A.heap (F.below f);obtain⟨c,z,H,k⟩:=B.res c0 j;have aS:=cL (cL f (aD _) q.cells.toArray) (dY K) #[.i c0,.i j];rw[y,z]at aS;have m:=k.below (ba' c (.cells #[.i 0,.i 0] 46));have L:=Blk.lt k.df.r;exact⟨a,d,e,c,_,C,D,G,H,rfl,⟨m.df,m.hq,bZ.new c,m.sv,⟨o,by have:=k.df.b.size; omega,by omega⟩⟩,aS.alloc aS.size _⟩
end
theorem Zj(p:StV)(ps:List ObV)(x:En)(B:Nat)(w:World)(h:fN w B p ps)(hB:B≤w.heap.size)(H:stB p.x=true)(hm:fY x=true):
  Calls prog 59 #[.agg p.cells.toArray,.agg x.cells.toArray] w (Mj w (jC p.x x)):=by
 obtain⟨R,hR⟩:=nm' (jC p.x x);rw[hR];obtain⟨hh,Y⟩:=kA.1 H;have HH:=eC.1 hh;have y3:p.rows.length≤4:=by have:=rZ Y (by omega); have e:p.x.rows=p.rows:=rfl; rw[e]at this; omega
 obtain⟨W1,W2,W3,W4,b5,e5,g5,j5,V⟩:=DoF.of w p.cells x;have d:=SmO.ok h.1 HH;have j4:=kp (by have:=Dt p ps B W4 (h.below V.b hB) (aB hB V.b.size) (by have:=d.obs; omega) (by have:=d.free; omega) (by omega); rw[H,show eN 60 true=0 from rfl]at this; exact this);have n:=k'3 V (h.below V.b hB) (aB hB V.b.size);have z:=k'4 hR hh Y y3;have HM:=kp hm;have Z:=V.st.load (P:=prog) (k:=9) rfl;clear h hB V hR y3 Y HH hh H hm d;go_enter func59,ntmps59;go_wp2_with fail;refine mb' (j4.o) fun w5 j1=>?_;have e0:=k'3 (n.a.below j1) (n.b.below j1 n.C) (aB n.C j1.size);clear j1 Z b5 e5 g5 j5;have Z:=e0.a.e.load (P:=prog) (k:=11) rfl;have l4:=kp (by have:=aB7 x w5; rw[HM.o]at this; exact this);go_wp2_with fail;refine mb' (l4.o) fun w6 m1=>?_;have J:=k'3 (e0.a.below m1) (e0.b.below m1 e0.C) (aB e0.C m1.size);clear m1 Z;have Z:=J.a.st.load (P:=prog) (k:=9) rfl;have F:=J.a.e.cell 2;change _=some (Value.i x.c)at F;go_wp2_with fail;refine (Yu p ps x.c B w6 J.b J.C (by have:=z.D; omega)).mono ?_;rintro e w7 ⟨bb,rfl,b2⟩;obtain⟨f,hf⟩:=nm' (jB x.c p.rows);rw[hf];clear Z F;obtain⟨W8,l5,b6,nb,e4,-⟩:=fB w7 117 z'4 f.cells rfl (jR f);have z1:=kp (b2.on e4);have q4:=kp (aB J.a.b.size b2.size);have S:=k'3 (J.a.below z1.o) (J.b.below z1.o J.C) (aB J.C z1.o.size);have p2:=kp nb;have HF:=kp hf;have s8:=S.a.st.cell 8;rw[StV.c8]at s8;clear hf b2 nb e4;go_wp2_with fail;refine (fam'4.2.2.1 p.rv p.rows B W8 S.b.2 S.C (by have:=z.D; omega)).mono ?_;rintro e w9 ⟨v,rfl,g2,j0⟩;have K:=k'3 (S.a.below j0) (S.b.below j0 S.C) (aB S.C j0.size);have p4:=kp (p2.o.grow j0);obtain⟨A,cc,rfl,-⟩:=eD g2;obtain⟨nv,d2⟩:=nm' p.rows.length;have m4:=kp (show OR w9 (fun i=>w7.heap.size+1≤i) 117 4 (.slice A nv cc) Rw.cells p.rows from d2▸OR.of_ow g2 fun i hi _=>by have:=p2.o.lt; omega);have Z:=K.a.st.loadOff (P:=prog) 0 8 p.p.cells rfl rfl;rw[d2];clear s8 b6 j0 g2 l5 d2;go_wp2_with fail;refine (Kj p.p ps pV B w9 K.b.1 K.C z.b).mono ?_;rintro e d6 ⟨q,qs,rfl,b0,⟨base,g,m0,o0⟩,U⟩;rw[Zg]at b0;obtain⟨cd,a0⟩:=nm' ((dU p.p.x pV).2);rw[a0];clear a0 Z;obtain⟨c0,d0⟩:=cd;have d4:=o0.wv.mono (aB K.a.b.size m0);obtain⟨A1,A2,A3,A4,A5,g6,j6,s3,s4,l6,b1,d1⟩:=ApF.make (K.a.below U) d4 ((aO.below m4.o U).mono fun i _ hi=>by have:=q4.o; omega) (Blk.lt (K.a.below U).r) c0 d0;have E:=kp b1;have HX:=kp (p4.o.grow (U.on d1));have o2:=k'2 (K.b.below (U.on d1) K.C) (aB K.C (U.on d1).size);have f1:=HX.o.cell 1;change _=some (Value.i f.s)at f1;have e3:=b1.df.e.cell 3;change _=some (Value.i x.s)at e3;have F:=b1.df.e.cell 2;change _=some (Value.i x.c)at F;have q3:=b0;clear o0 d4 U d1 b1 m0;have q0:=kp (by have:=z.a; unfold jC at this; rw[show p.x.rows=p.rows from rfl,HF.o]at this; exact this);obtain⟨g9,o5⟩:=nm' d6.heap.size;rw[o5]at E s3;have HQ:=kp (show (⟨q.x,p.rows⟩:St)=p.x by rw[q3]; rfl);clear q3 b0;have m5:(x.c≠0∧x.s<f.s)∨(¬x.s<f.s∧x.c=0)∨(¬x.s<f.s∧x.c≠0∧f.s=x.s)∨(¬x.s<f.s∧x.c≠0∧f.s≠x.s):=by
  by_cases d:x.s<f.s
  .refine .inl ⟨fun h=>?_,d⟩;have h2:=HF.o;rw[h,Mk (show eP 0 p.rows=true from z.c)]at h2;have h3:=HM.o;unfold fY at h3;rw[aE h]at h3;simp only[bI,bP]at h3;rw[←h2,h3.2.2.1]at d;simp at d
  .by_cases l:x.c=0
   .exact .inr (.inl ⟨d,l⟩)
   .by_cases G:f.s=x.s
    .exact .inr (.inr (.inl ⟨d,l,G⟩))
    .exact .inr (.inr (.inr ⟨d,l,G⟩))
 rcases m5 with⟨l,d⟩|⟨d,l⟩|⟨d,l,G⟩|⟨d,l,G⟩
 case' inl=>
  have c1:decide (x.s<f.s)=true:=by simp[d]
  have g0:=kp (show R=(⟨q.x,p.rows⟩,130,0) by have:=q0.o; rw[aC l,aE d]at this; rw[←this,HQ.o]);have z0:=Blk.cell E.o.rc 0;have y0:=Blk.frozen E.o.rc 0;simp only[aG]at z0;obtain⟨A6,T,Q⟩:=E.o.code 130;have j:=kp Q;clear l d Q;go_wp2_with fail;clear z0 y0 T
 case' inr.inl=>
  have c1:decide (x.s<f.s)=false:=by simp[d]
  have c2:(x.c==0)=true:=by simp[l]
  have j3:f=⟨0,0,0,0⟩:=by rw[←HF.o,l]; exact Mk z.c
  have g0:=kp (show R=(⟨q.x,p.rows⟩,f.k,f.v) by have:=q0.o; rw[aE l]at this; rw[←this,HQ.o,j3])
 case' inr.inr.inl=>
  have c1:decide (x.s<f.s)=false:=by simp[d]
  have c2:(x.c==0)=false:=by simp[l]
  have c3:(f.s==x.s)=true:=by simp[G]
  have g0:=kp (show R=(⟨q.x,p.rows⟩,f.k,f.v) by have:=q0.o; rw[aC l,aC d,aE G]at this; rw[←this,HQ.o])
 case' inr.inl=>
  have l2:=HX.o.loadOff (P:=prog) 2 2 [.i f.k,.i f.v] rfl rfl;obtain⟨A6,T,s6,Q⟩:=E.o.res f.k f.v;have j:=kp Q;clear l d T Q j3;go_wp2_with fail;clear l2 s6
 case' inr.inr.inl=>
  have l2:=HX.o.loadOff (P:=prog) 2 2 [.i f.k,.i f.v] rfl rfl;obtain⟨A6,T,s6,Q⟩:=E.o.res f.k f.v;have j:=kp Q;clear l d T Q G;go_wp2_with fail;clear l2 s6
 case' inr.inr.inr=>
  have c1:decide (x.s<f.s)=false:=by simp[d]
  have c2:(x.c==0)=false:=by simp[l]
  have c3:(f.s==x.s)=false:=by simp[G]
  have l2:=E.o.df.st.loadOff (P:=prog) 0 8 p.p.cells rfl rfl;have l3:=E.o.df.e.loadOff (P:=prog) 4 7 x.op.cells rfl rfl;have o4:=kp (by have:=q0.o; rw[aC l,aC d,aC G]at this; exact this);have HC:=kp l;clear l d G;go_wp2_with fail;refine (Kj p.p ps x.op B A5 o2.a.1 o2.B z.b).mono ?_;rintro e o6 ⟨q,qs,rfl,b0,⟨base,g,m0,o0⟩,hb⟩;obtain⟨cd,a0⟩:=nm' ((dU p.p.x x.op).2);rw[a0];obtain⟨N,O⟩:=cd;have m2:=k'2 b0 a0;have y2:=E.o.below hb;obtain⟨B1,z4,s1,z2⟩:=y2.heap (o0.wv.mono (aB E.o.df.b.size m0));obtain⟨B2,a5,s2,a2⟩:=z2.res N O;have j:=kp a2;have F:=a2.df.e.cell 2;change _=some (Value.i x.c)at F;clear l2 l3 b0 a0 hb o0 m0 y2 z4 z2 a5 a2 f1 e3 c1 c2 c3;have j2:=kp (aCm.2.1 (.slice A nv cc) p.rows (·.c) x.c 105 #[] B2.heap.size B2 (OR.sl j.o.sv.rows) (aD _) (by have:=z.D; omega) (Ia z.c) (enters_of func105 (by kernel_rfl) rfl) (fun W y _ _=>Zf y x.c W));have m3:=Ci (fun r:Rw=>r.c) x.c p.rows;obtain⟨t,ht⟩:=nm' (p.rows.any fun r=>decide (r.c=x.c));obtain⟨i,hi⟩:=nm' (eT (fun r:Rw=>r.c) x.c p.rows);rw[ht,hi]at j2;have L:=k'3 ht hi (hi▸m3);clear ht m3 hi;go_wp2_with fail;refine mb' (j2.o) fun y1 b3=>?_;have j:=kp (j.o.below b3);clear b3 s1 s2 F
  cases t
  case' false=>
   obtain⟨y4,d5,g4,q2,p6⟩:=par y1 117 z'4;have a1:=j.o.below q2;have HI:=kp (Ts (l2:=[⟨0,0,0,0⟩]) i y1.heap.size y4 a1.sv.rows g4 (fun e=>by have:=(aO.lt j.o.sv.rows _ e).2; omega) L.C (by simp) (fun k hk=>by have:=a1.df.b.size; omega) (by simp; have:=z.D; omega));have j:=kp a1;clear g4 q2 a1;go_wp2_with fail;refine (HI.o).mono ?_;rintro e y1 ⟨v,rfl,ho,l,-⟩;have j:=kp (j.o.rows l ho);obtain⟨I,M⟩:=nm' (p.rows.take i++[⟨0,0,0,0⟩]++p.rows.drop i);have HP:=kp (show i<I.length∧∀y:Rw,y.c=x.c→jV y p.rows=I.set i y from⟨by rw[←M]; simp[oC L.C],fun y hy=>by rw[←M,Co p.rows 0 z.c,hy,L.a,L.b,Zi _ _ L.C]; rfl⟩);rw[M]at j;clear ho l M d5
  case' true=>
   obtain⟨I,M⟩:=nm' p.rows;have HP:=kp (show i<I.length∧∀y:Rw,y.c=x.c→jV y p.rows=I.set i y from⟨by rw[←M,←L.b]; exact Mm _ _ L.a,fun y hy=>by rw[←M,Co p.rows 0 z.c,hy,L.a,L.b]; rfl⟩);rw[M]at j;clear M
  all_goals
   have Y:aO _ (fun i=>w.heap.size≤i) 117 4 _ I.length (aM Rw.cells I):=j.o.sv.rows;obtain⟨g1,q1,cap,e6,a4,-,-,q5,-,-,-⟩:=aO.form Y (by have:=HP.a; omega)
   first |subst a4|(cases a4)
   obtain⟨X,sx,ho⟩:=aO.put (P:=prog) Y i HP.a [.i x.c,.i x.s,.i N,.i O] rfl (jR ⟨x.c,x.s,N,O⟩);have o3:=OR.set_row (x:=⟨x.c,x.s,N,O⟩) ho HP.a;have F:=j.o.df.e.cell 2;change _=some (Value.i x.c)at F;have e3:=j.o.df.e.cell 3;change _=some (Value.i x.s)at e3;have l2:=j.o.rc.load;have j:=kp (j.o.rows gQ o3);have g3:(i:Int)<(I.length:Int):=by have:=HP.a; omega
   obtain⟨A6,T⟩:=nm' (y1.setRow g1 X);rw[T]at sx j;obtain⟨n1,p5⟩:=nm' I.length;rw[p5]at j q5 g3;have g0:=kp (show R=(⟨q.x,I.set i ⟨x.c,x.s,N,O⟩⟩,N,O) by
    rw[←o4.o,←HP.B ⟨x.c,x.s,N,O⟩ rfl,m2.a,show p.x.h=p.p.x from rfl,m2.B])
   clear ho o3 Y;go_wp2_with fail;clear F e3 l2 sx
 all_goals
  obtain⟨V8,V9,a3,z3,m6,o1,p1,p3,d3⟩:=j.o.fin;have a6:=z3;change Sem.run _ (storeCells _ (StV.cells ⟨q,[],_⟩) 0) _=_ at a6;obtain⟨rS,z5,o1⟩:=Ml o1;obtain⟨rR,y5,p1⟩:=Ml p1;have n:=kp (j.o.below (bR (aL _ A6)));have p0:=k'3 p3 d3 a3;have HL:=k'2 o1 p1;clear p3 d3 a3 z3 o1 p1;refine fR 5 (Two 4 A6.drew V8) (fun _=>fK) (by kernel_rfl) (by kernel_rfl) (Two.start _ _ _) ?_
  iterate 4 (refine bO ?_; apply Exists.intro)
  refine bS eM ?_;refine dR ⟨?_,?_⟩
  rotate_left
  .apply Ug (by kernel_rfl) (by intro t w h; cases h; exact trivial) rfl
   .intro X W' m hX hw hV hF;have hg:=(m.all (P:=fun W=>Blk W g9 29 q.cells) n.o.hq (by rw[p0.C]; exact Blk.other n.o.hq (n.o.hq.ne n.o.df.s (by decide)) _)).load (P:=prog) (k:=8) rfl;go_wp2_with fail;exact⟨rfl,.agg q.cells.toArray,rfl,m.other (by decide),aV,rfl⟩
   simp only[Act.put,aN,aH,aI,aT];apply Ug (by kernel_rfl) (by intro t w h; cases h; exact trivial) rfl
   .intro X W' m hX hw hV hF;go_wp2_with fail
    first |exact⟨rfl,.slice (some ⟨g1,q1,none⟩) n1 cap,rfl,m.other (by decide),aV,rfl⟩|exact⟨rfl,.slice (some ⟨g1,q1,none⟩) n1 cc,rfl,m.other (by decide),aV,rfl⟩|exact⟨rfl,.slice A nv cc,rfl,m.other (by decide),aV,rfl⟩
   simp only[Act.put,aN,aH,aI,aT,aW];apply Ug (by kernel_rfl) (by intro t w h; cases h; exact trivial) rfl
   .intro X W' m hX hw hV hF;go_wp2_with fail
    first |exact⟨rfl,.agg (StV.cells ⟨q,[],.slice (some ⟨g1,q1,none⟩) n1 cap⟩).toArray,rfl,m.other (by decide),aV,rfl⟩|exact⟨rfl,.agg (StV.cells ⟨q,[],.slice (some ⟨g1,q1,none⟩) n1 cc⟩).toArray,rfl,m.other (by decide),aV,rfl⟩|exact⟨rfl,.agg (StV.cells ⟨q,[],.slice A nv cc⟩).toArray,rfl,m.other (by decide),aV,rfl⟩
   simp only[Act.put,aN,aH,aI,aT,aW];apply Ug (by kernel_rfl) (by intro t w h; cases h; exact trivial) rfl
   .intro X W' m hX hw hV hF;have hr:=(m.all (P:=fun W=>bZ W A4.heap.size _ _) n.o.rc (by rw[p0.C]; exact Blk.other n.o.rc (Blk.ne n.o.rc n.o.df.s (by decide)) _)).load;go_wp2_with fail
    first |exact⟨rfl,.agg #[.i N,.i O],rfl,m.other (by decide),aV,rfl⟩|exact⟨rfl,.agg #[.i f.k,.i f.v],rfl,m.other (by decide),aV,rfl⟩|exact⟨rfl,.agg #[.i 130,.i 0],rfl,m.other (by decide),aV,rfl⟩
   simp only[Act.put,aN,aH,aI,aT,aW];refine⟨fun X W' m hX hw hV hF=>?_,fun u5=>?_⟩
   .obtain rfl:=m.1 hX;go_wp2_with fail;exact⟨rfl,undef,rfl,Two.at_,aV,trivial⟩
   simp only[Act.put,aT,aW];intro W9 m hF;clear hF;obtain rfl:=m.2 rfl;simp only[dO,dP];go_wp2_with fail;exact aU (v:=.tuple #[.agg rS,.agg rR]) (by simp[results,results59,go_sem,HL.a,HL.B]) rfl ⟨_,_,by rw[z5,y5,g0.o],by rw[g0.o]; rfl,p0.a,p0.b⟩
  .exact⟨pv',pv',pv',pv',fun _ _ _ _ _ h _=>h,trivial⟩
end
section
attribute [-go_sem] loadCellsFrom storeCells Instr.build
attribute [local go_sem] bC
theorem Zk(A:Option Addr)(n c m:Nat)(w:World)(e:m≤c):Sem.run prog (Instr.slice 22 (.slice A n c) none (some (.i (m:Int))) none) w=.ok (.slice A m c) w:=by
 have b:(0:Int)≤(m:Int)∧(m:Int)≤(c:Int):=by omega
 obtain⟨i,d,-,-,-⟩:=info_parts Ch
 cases A with
 |none=>simp[Instr.slice,run_underlying wO,Instr.sliceBounds,Instr.sliceBound,asIntOf,b,sizeOf,typeInfo,d,e]
 |some a=>simp[Instr.slice,run_underlying wO,Instr.sliceBounds,Instr.sliceBound,asIntOf,b,sizeOf,typeInfo,d,e,Addr.add]
def oU(w:World)(o:Option St)(e:Ending)(w':World):Prop:=
 ∃q qs c,e=.returned (.tuple #[.agg q.cells.toArray,.i c])∧(∀s,o=some s→c=0∧q.x=s)∧(o=none→c≠0)∧Ws w' w.heap.size q qs∧Bw' w w'
def lP:StV:=⟨⟨lI,.slice none 0 0,.slice none 0 0⟩,[],.slice none 0 0⟩
theorem tY(w:World)(base:Nat):Ws w base lP []:=(Sv.no w base).ws
theorem oU.fin{w W:World}{a:Nat}{q:StV}{g:List ObV}(f:Blk W a 32 mF)(h:Bw' w W)(i:w.heap.size≤a)(d:Ws W w.heap.size q g):
  ∃W',Sem.run prog (storeCells ⟨a,0,none⟩ q.cells 0) W=.ok () W'∧Sem.run prog (loadCellsFrom ⟨a,0,none⟩ 0 9 #[]) W'=.ok q.cells.toArray W'∧Ws W' w.heap.size q g∧Bw' w W':=by
 obtain⟨W',e,s,b,c⟩:=f.put q.cells rfl (StV.one d.st);exact⟨W',s,b.load rfl,d.chg f c (by decide) (by decide) (by decide) (by decide),e▸cL h i _⟩
def Mn(w wr:World)(g:Nat)(s:St):Prop:=∃q qs,Blk wr g 32 q.cells∧q.x=s∧Ws wr w.heap.size q qs
theorem Zl(p:KpV)(n:Int)(B:Nat)(w:World)(h:fL w B p)(hB:B≤w.heap.size)(hn:p.es.length≤1000000)(hr:KdR p.x)(hi:p.image.size≤maxLen)(hN:inR n):
  Calls prog 27 #[.agg p.cells.toArray,.i n] w (oU w (iB p.x n)):=by
 obtain⟨R,hR⟩:=nm' (iB p.x n);rw[hR];obtain⟨W1,l3,x1,b1,z1⟩:=par w 24 p.cells;obtain⟨T,o3,x2,V,z2⟩:=par W1 32 z'2;have hb:=b1.on V;have f:=k'4 (x1.grow V) x2 hb (dY z1);have r:=k'2 (Sl.below h hb hB) (aB hB hb.size);have HC:=kp (yU p B T r.a r.B hn hr hi);have HL:=kp (fun W b1 V=>aB8 p W B b1 V hn);have l0:=f.a.load (P:=prog) (k:=5) rfl;have z:=k'5 hR hr hi hn hN;go_enter func27,ntmps27;go_wp2_with fail;refine mb' (HC.o) fun w3 g0=>?_;have H:=kp g0
 cases Z:dA p.x
 .have hZ:=(f.b.below g0 f.b.lt)
  obtain⟨U,s4,N,O,aS⟩:=oU.fin hZ (f.c.on g0) f.D (tY _ _);have d3:Sem.run prog (storeCells ⟨W1.heap.size,0,none⟩ mF 0) w3=.ok () U:=s4;have g:=k'4 O aS Z (Dk (n:=n) Z);rw[show eN 1 false=1 from rfl];go_wp2_with fail;exact aU (v:=.tuple #[.agg lP.cells.toArray,.i 1]) (by simp[results,results27,go_sem,N]) rfl ⟨lP,[],1,rfl,(fun s l=>by rw[←z.a,g.D]at l; cases l),(fun _=>by decide),g.a,g.b⟩
 obtain⟨G,HOk⟩:=pZ.1 Z;have J:=kp HOk;rw[show eN 1 true=0 from rfl];have k2:=(f.a.grow H.o).cell 2;change _=some (Value.i p.base)at k2;have l0:=(f.a.grow H.o).load (P:=prog) (k:=5) rfl;obtain⟨L,m0⟩:=nm' p.x.last;have e0:=k'2 m0 (show L=p.base+p.es.length from m0.symm);have p0:=kp (by have:=HL.o w3 (Sl.below r.a H.o r.B) J.o.base; rw[m0]at this; exact this);have p1:n<p.base∨(¬n<p.base∧L<n)∨(¬n<p.base∧¬L<n):=by omega
 rcases p1 with K|⟨K,Y⟩|⟨K,Y⟩
 case' inl=>
  have c1:decide (n<p.base)=true:=by simp[K]
  have j:=kp (show R=none by rw[←z.a]; exact vO (by show aF n p.base p.x.last=false; unfold aF; rw[aX (by omega)]; rfl));obtain⟨w4,a1⟩:=nm' w3;have I:=kp (show Bw' T w4 from a1▸H.o);subst a1
 case' inr.inl=>
  have c1:decide (n<p.base)=false:=by simp[K]
  have c2:decide (L<n)=true:=by simp[Y]
  have j:=kp (show R=none by rw[←z.a]; exact vO (by show aF n p.base p.x.last=false; unfold aF; rw[e0.a,aX (show ¬n≤L by omega),wI]));go_wp2_with fail;refine mb' (p0.o) fun w4 j0=>?_;have I:=kp (H.o.on j0)
 case' inr.inr=>
  have c1:decide (n<p.base)=false:=by simp[K]
  have c2:decide (L<n)=false:=by simp[Y]
  have j:=k'2 K Y;go_wp2_with fail;refine mb' (p0.o) fun w4 j0=>?_;have I:=kp (H.o.on j0)
 rotate_left
 iterate 2
  .obtain⟨U,s4,N,O,aS⟩:=oU.fin (f.b.below I.o f.b.lt) (f.c.on I.o) f.D (tY _ _);have d3:Sem.run prog (storeCells ⟨W1.heap.size,0,none⟩ mF 0) _=.ok () U:=s4;have g:=k'2 O aS;go_wp2_with fail;exact aU (v:=.tuple #[.agg lP.cells.toArray,.i 140]) (by simp[results,results27,go_sem,N]) rfl ⟨lP,[],140,rfl,(fun s l=>by rw[j.o]at l; cases l),(fun _=>by decide),g.a,g.B⟩
 obtain⟨m,hm⟩:∃m:Nat,n-p.base=m:=⟨(n-p.base).toNat,by have:=j.a; omega⟩
 have e2:m≤p.es.length:=by have:=j.B; have:=e0.B; omega
 have y0:=kp (show R=some (jD G (p.es.take m)) by
  rw[←z.a,Dl J.o (by show aF n p.base p.x.last=true; unfold aF; rw[e0.a]; have:=j.o; simp; omega)];show some (jD G (p.es.take (n-p.base).toNat))=_;rw[hm]; rfl)
 have M:=k'2 hm e2;have k3:=(f.a.below I.o f.a.lt).cell 3;change _=some (Value.string p.image)at k3;obtain⟨c5,W5,a4,m1,m2,p2,g2,d2⟩:=oT w4 p.image z.c;have y:=k'5 (I.o.on m1) m2 p2 g2 d2;go_wp2_with fail;refine (yT _ _ _ _ p.image.data.toList W5 y.b y.c (mD _) y.d y.E).mono ?_;rintro e w6 ⟨q,qs,rfl,o0,hv,z0⟩;have y1:dM p.image.data.toList=some G:=J.o.img;rw[y1]at o0 ⊢;change q.x=G at o0;obtain⟨W7,p3,s7,x7,b7,z7⟩:=fB w6 32 z'2 q.cells rfl (StV.one hv.st);have b0:=kp (y.a.on (z0.on b7));have S:=k'4 x7 o0 ((hv.ws.mono (aB f.c.size y.a.size)).below b7) (aB y.a.size z0.size);have k4:=(f.a.below b0.o f.a.lt).cell 4;change _=some p.ev at k4;have k2:=(f.a.below b0.o f.a.lt).cell 2;change _=some (Value.i p.base)at k2;have HS:=kp r.a;obtain⟨A,c,q1,o2,y3,z3⟩:=r.a;rw[q1]at k4;have q2:=Zk A p.es.length c m W7 (by have:=M.B; omega);have g4:wrap64 (n-p.base)=(m:Int):=by rw[M.a]; have:=M.B; have:=z.d; unfold wrap64; omega
 have l1:=kp o2;obtain⟨nl,j2⟩:=nm' p.es.length;rw[j2]at k4 q2;go_wp2_with fail;have e4:m≤1000000:=by have:=M.B; have:=z.d; omega
 go_loopw [42] (fun i wr=>∃k:Nat,k≤m∧i=.i k∧Bw' T wr∧Mn w wr w6.heap.size (jD G (p.es.take k))) (fun i _=>m-(intOf i).toNat)
 case atStart=>exact⟨0,by omega,rfl,b0.o,⟨q,qs,S.a,S.b,S.c⟩⟩
 case round=>
  obtain⟨k,Z,rfl,o1,⟨q,qs,x6,l2,y2⟩⟩:=hrel;have Q:=kp o1;have F:=k'3 x6 l2 y2
  by_cases d4:k<m
  .have g3:(k:Int)<(m:Int):=by omega
   have a0:k<p.es.length:=by have:=M.B; omega
   obtain⟨b,j4,rfl,-,-,a2⟩:=dB (P:=prog) 11 En.cells eL (by omega) (l1.o.below Q.o r.B) k a0;have q0:=a2 0;change Sem.run _ _ wr=.ok _ wr at q0;have HT:=k'2 (Kw G p.es k a0) (J.o.may _ (bK a0));generalize p.es[k]'a0=x at *;obtain⟨W8,q3,s8,x8,cD,z8⟩:=fB wr 93 z'3 x.cells rfl (nI x);have d0:=kp (Q.o.on cD);have y6:=F.a.grow cD;have l6:=y6.load (P:=prog) (k:=9) rfl;have l8:=x8.load (P:=prog) (k:=11) rfl;have g1:=kp (Zj q qs x W8.heap.size W8 (F.C.below cD).st (aD _) (by rw[F.b]; exact Dm (tW J.o.img).1 fun e he=>J.o.may e (qN he)) HT.B);have HY:=kp y6;go_wp2_with fail;refine (g1.o).mono ?_;rintro e w9 ⟨q',b3,rfl,a3,d1,X⟩;obtain⟨j3,m3,m4,e3,c10⟩:=(HY.o.grow X).put q'.cells rfl (StV.one d1.st);have j:=k'3 e3 (show q'.x=jD G (p.es.take (k+1)) by rw[HT.a,a3,F.b]) ((d1.mono (aB f.c.size d0.o.size)).chg (HY.o.grow X) c10 (by decide) (by decide) (by decide) (by decide));have j1:=kp ((d0.o.on X).trans (c10.below (B:=T.heap.size) (fun i hi=>by have:=S.D; omega) (d0.o.on X).size));go_wp2_with fail;go_roundw
   case rel=>exact⟨k+1,by omega,by go_num,j1.o,⟨q',b3,j.o⟩⟩
   case measure=>simp[intOf]; omega
  .obtain rfl:m=k:=by omega
   have l6:=F.a.load (P:=prog) (k:=9) rfl;obtain⟨U,s4,N,O,aS⟩:=oU.fin (f.b.below Q.o f.b.lt) (f.c.on Q.o) f.D F.C;have g:=k'2 O aS;go_wp2_with fail;exact aU (v:=.tuple #[.agg q.cells.toArray,.i 0]) (by simp[results,results27,go_sem,N]) rfl ⟨q,qs,0,rfl,(fun s l=>by rw[y0.o]at l; cases l; exact⟨rfl,F.b⟩),(fun h=>by rw[y0.o]at h; cases h),g.a,g.B⟩
end
end Go.Proofs.YthalbagblhkeaaaGreat
