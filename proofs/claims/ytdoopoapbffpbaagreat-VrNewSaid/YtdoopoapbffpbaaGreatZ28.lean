import Derived.Test.YtdoopoapbffpbaaGreatZ25
import Derived.Test.YtdoopoapbffpbaaGreatZ26
import Derived.Test.YtdoopoapbffpbaaGreatZ27
import Derived.Lib.ConvBytes
import Derived.Defers
import Derived.Recover
namespace Go.Proofs.YtdoopoapbffpbaaGreat
open Go.RowKit Go.Proofs.Tryz
set_option maxRecDepth 100000
set_option maxHeartbeats 12800000
set_option linter.unusedVariables false
set_option linter.unusedSimpArgs false
section
attribute [-go_sem] loadCellsFrom storeCells
attribute [local go_sem] bC
theorem mD(s:ByteArray):s.data.toList.length=s.size:=hP
theorem oT(W:World)(s:ByteArray)(e:s.size≤maxLen):∃c W',Sem.run prog (convert 9 78 (.string s)) W=.ok (.slice (some ⟨W.heap.size,0,none⟩) s.size c) W'∧Bw' W W'∧Rd W' (W.heap.size+1) (some ⟨W.heap.size,0,none⟩) (bv s.data.toList)∧W.heap.size+1≤W'.heap.size∧s.size≤c∧c≤maxLen:=by
 refine⟨_,_,Lib.run_convert_string_bytes W _ _ 5 s oG pG sX,?_,?_,?_,grownCap_ge _ _ _ _,grownCap_le_maxLen _ _ _ _ e⟩
 .refine⟨?_,?_,?_,by rw[Lib.bytesWorld_size]; omega,fun k d=>Lib.bytesWorld_at_old _ _ _ k d⟩
  .simp[Lib.bytesWorld,World.freeze];rfl
  .simp[Lib.bytesWorld,World.freeze]
  .simp[Lib.bytesWorld,World.freeze];rfl
 .refine .inr ⟨_,_,rfl,by omega,fun j u b=>?_⟩;have a:j<s.size:=by
   have:=(iH.1 b).1;rw[lB]at this
   rwa [mD]at this
  rw[hY,Lib.bytesWorld_cell _ _ _ _ a];rw[wU _ _ (by rw[mD]; exact a)]at b;rw[←b]
  congr 4
  rw[kK,eK (by rw[mD]; exact a)];rfl
 .rw[Lib.bytesWorld_size];exact aD _
theorem Xm(p:HpV)(w:World)(j:∀u∈p.cells,u.oneCell'=true):Calls prog 69 #[.agg p.cells.toArray,.i 0] w fun e n=>e=.returned (.agg p.cells.toArray)∧Bw' w n:=by
 have b:=ba' w (.cells p.cells.toArray 29);have c:=Blk.new w 29 p.cells;obtain⟨a,m⟩:=nm' (w.alloc (.cells p.cells.toArray 29));rw[m]at b c;have d:=ba' a (.cells z'1a 29);have f:=Blk.new a 29 z'1;have q:=(c.below d c.lt).load (P:=prog) (k:=8) rfl;have r:=f.store (P:=prog) (cs':=p.cells) rfl j;have i:=kp (f.set p.cells);have h:=kp (cL (b.on d) (g:=a.heap.size) b.size p.cells.toArray);go_enter func69,ntmps69;go_wp2_with fail;have l:=i.o.load (P:=prog) (k:=8) rfl;exact aU (v:=.agg p.cells.toArray) (by simp[results,results69,go_sem,l]) rfl ⟨rfl,h.o⟩
theorem Xn(p:HpV)(w:World):Calls prog 69 #[.agg p.cells.toArray,.i 60] w fun e c=>e=.panicked iD∧Bw' w c:=by
 have a:=ba' w (.cells p.cells.toArray 29);have b:=kp (a.alloc a.size (.cells z'1a 29));go_enter func69,ntmps69;go_wp2_with fail;exact⟨rfl,rfl,b.o⟩
def stP(l:List UInt8):Option (St×List UInt8):=
 if (dJ l).2.2=0 then
  match eZ (dJ l).1.data.toList with
  |none=>none
  |some h=>match bF (l.drop (dJ l).2.1) with
   |none=>none
   |some (n,r)=>if 4<n then none else
    match aZ rwP n.toNat r with
    |none=>none
    |some (rows,r2)=>if stB ⟨h,rows⟩=true then some (⟨h,rows⟩,r2) else none
 else none
theorem Du(l:List UInt8):dM l=match stP l with
  |some (s,[])=>some s
  |_=>none:=by
 unfold dM stP
 by_cases b:(dJ l).2.2=0
 .rw[aE b,aE b]
  cases eZ (dJ l).1.data.toList with
  |none=>rfl
  |some h=>
   cases bF (l.drop (dJ l).2.1) with
   |none=>rfl
   |some p=>
    obtain⟨n,r⟩:=p
    by_cases d:4<n
    .simp[d]
    .simp only[aC d]
     cases aZ rwP n.toNat r with
     |none=>rfl
     |some q=>
      obtain⟨f,e⟩:=q
      cases e with
      |nil=>by_cases c:stB ⟨h,f⟩=true<;>simp[c]
      |cons a e=>by_cases c:stB ⟨h,f⟩=true<;>simp[c]
 .rw[aC b,aC b]
theorem Ls{l:List UInt8}{h:Hp}(b:eZ l=some h):cO h=true:=by
 unfold eZ at b
 cases hp:hpP l with
 |none=>simp[hp]at b
 |some p=>
  obtain⟨x,r⟩:=p
  cases r with
  |cons a r=>simp[hp]at b
  |nil=>
   simp only[hp]at b
   by_cases c:cO x=true
   .rw[aE c]at b
    cases b;exact c
   .rw[aC c]at b
    cases b
def mE(w:World)(gi gr:Nat)(o:Option (St×List UInt8))(e:Ending)(w':World):Prop:=
 Chg (fun i=>i=gr) w w'∧match o with
  |some (s,r)=>∃p ps,e=.returned (.agg p.cells.toArray)∧p.x=s∧Sv w' w.heap.size p ps∧cK w' gi gr r
  |none=>e=.panicked iD
theorem mE.none{w b:World}{c a:Nat}{o:Option (St×List UInt8)}(e:o=none)(d:Chg (fun i=>i=a) w b):mE w c a o (.panicked iD) b:=by
 subst e;exact⟨d,rfl⟩
theorem mE.some{w a:World}{c b:Nat}{o:Option (St×List UInt8)}{r:List UInt8}{p:StV}{ps:List ObV}(g:o=some (p.x,r))(d:Chg (fun i=>i=b) w a)(e:Sv a w.heap.size p ps)(f:cK a c b r):mE w c b o (.returned (.agg p.cells.toArray)) a:=by
 subst g;exact⟨d,p,ps,rfl,rfl,e,f⟩
theorem Rs.all{w W:World}{b c:Nat}{t:TypeId}{l:List UInt8}{d e:List Value}(h:Rs w b c t l d e W)(a:List Value):Rs w b c t l d a (W.setRow (w.heap.size+1) a.toArray):=
 ⟨h.inn.at_ (cL (aL (w.heap.size+1) W) (aD _) _) (uF h.lti) (uF h.ltr),h.res.other (by omega) _,h.blk.set a,h.chg.setRow (.inl (by omega)) _,h.lti,h.ltr⟩
theorem Hv.few{w:World}{base:Nat}{p:HpV}{ps:List ObV}(h:Hv w base p ps)(a:cO p.x=true):ps.length≤256∧p.x.free.length≤256:=by
 have H:=eC.1 a;have b:=H.len;have c:ps.length=p.x.obs.length:=by rw[h.eq,cW]
 omega
theorem Xo{w:World}{N O:Nat}{l:List UInt8}(h:cK w N O l):Calls prog 68 #[.pointer (some ⟨N,0,none⟩)] w (mE w N O (stP l)):=by
 have q2:∀(fn:Fn)(first cap:Array Value)(w:World),(Instr.makeFunc fn first cap).run prog w=.ok (.func fn first cap) w:=fun _ _ _ _=>rfl;have A:=kp (Rs.new h 32 z'2);have HT:=kp rO;have HF:=kp rP;have e1:=kp We;have q0:=A.o.inn.blk.cell 0;simp only[aG]at q0;have L:=kp (Px O l _ A.o.inn.rd);go_enter func68,ntmps68
 by_cases j:(dJ l).2.2=0
 rotate_left
 .have f:=kp j;have d1:=kp (fun W=>Wg (dJ l).1 (dJ l).2.2 j W);go_wp2_with fail;refine (L.o).mono ?_;rintro e w2 ⟨rfl,h2,S⟩;have b1:=kp (oS S);go_wp2_with fail;refine (d1.o _).mono ?_;rintro e w3 ⟨rfl,rfl⟩;exact⟨rfl,mE.none (by unfold stP; rw[aC f.o]) (A.o.end_ b1.o)⟩
 have f:=kp j;rw[j]at L;have g0:=kp (Bq l f.o);obtain⟨s,hs⟩:=nm' ((dJ l).1);obtain⟨k,hk⟩:=nm' ((dJ l).2.1);rw[hs,hk]at L;rw[hs]at g0;have d:=k'2 hs hk;go_wp2_with fail;refine (L.o).mono ?_;rintro e w2 ⟨rfl,h2,S⟩;have K2:=kp (A.o.call (A.o.inn.step h2 (oS S)) (oS S));go_wp2_with fail;refine mb' (e1.o _ _) fun w' b0=>?_;obtain rfl:=b0.symm;obtain⟨c6,W6,o2,m1,a2,b2,y1,q1⟩:=oT w2 s (by have:=g0.a; unfold maxLen; omega);have Z:=kp (K2.o.grow m1);have I:=kp (Xg (some ⟨w2.heap.size,0,none⟩) s.size c6 _ s.data.toList W6 a2 b2 (mD s) y1 q1)
 cases hg:eZ s.data.toList with
 |none=>
  rw[hg]at I;have g:=kp hg;go_wp2_with fail;refine (I.o).mono ?_;rintro e w7 ⟨p,ps,rfl,-,-,a0⟩;have K7:=kp (Z.o.grow a0);go_wp2_with fail;refine mb' (Xn p _) fun w8 R=>?_;exact⟨rfl,mE.none (by unfold stP; rw[aE f.o,d.a,g.o]) (K7.o.chg.then R)⟩
 |some D=>
 rw[hg]at I;have g:=kp hg;go_wp2_with fail;refine (I.o).mono ?_;rintro e w7 ⟨p,ps,rfl,z1,d0,a0⟩;have K7:=kp (Z.o.grow a0);have X:=k'2 (d0.mono Z.o.chg.size) (HpV.one d0.obs.one d0.free.sl.one);have K:=kp (show p.x=D from z1);go_wp2_with fail;refine mb' (Xm p _ X.B) fun w8 R=>?_;have K8:=kp (K7.o.grow R);have j1:=kp (X.a.below R);have hS:=K8.o.blk.storeOff (P:=prog) 0 p.cells (by show 0+8≤9; omega) X.B;have C:=kp (K8.o.all (p.cells++[Value.slice none 0 0]));rw[show pY z'2 0 p.cells=p.cells++[Value.slice none 0 0] from rfl]at hS;have l1:=kp (j1.o.chg K8.o.blk ((Chg.refl (fun i=>i=w.heap.size+1) w8).setRow (.inr rfl) (p.cells++[Value.slice none 0 0]).toArray) (by decide) (by decide) (by decide));go_wp2_with fail
 cases hn:bF (l.drop k) with
 |none=>
  go_wp2_with fail;refine mb' (lL C.o.inn hn) fun m2 j=>?_;exact⟨rfl,mE.none (by unfold stP; rw[aE f.o,d.a,g.o,d.B]; simp only[]; rw[hn]) (C.o.end_ j)⟩
 |some j2=>
 obtain⟨y2,y0⟩:=j2;obtain⟨E,rfl,p2⟩:=rQ hn;have y:=kp hn;go_wp2_with fail;refine (iN C.o.inn y.o).mono ?_;rintro e m2 ⟨rfl,o1,m0⟩;have n:=kp (C.o.call o1 m0);obtain⟨vr,e2⟩:=C.o.inn.rd.rblk;have g1:=kp (l1.o.chg e2 m0 (by decide) (by decide) (by decide))
 by_cases l0:4<(E:Int)
 .have m:=kp l0;go_wp2_with fail;refine (Wp E 4 m.o _ _).mono ?_;rintro e F ⟨rfl,rfl⟩;exact⟨rfl,mE.none (by unfold stP; rw[aE f.o,d.a,g.o,d.B]; simp only[]; rw[y.o]; simp only[]; rw[aE m.o]) n.o.chg⟩
 have m:=kp l0;have J:=kp (Dp.2 E 4 (by omega) (by omega) 75 rwP n.o.inn (fun _ _=>rfl) (fun W l h=>Wm h))
 cases hm:aZ rwP E y0 with
 |none=>
  rw[hm]at J;have q:=kp hm;go_wp2_with fail;refine (J.o).mono ?_;rintro e F ⟨j,rfl⟩;exact⟨rfl,mE.none (by unfold stP; rw[aE f.o,d.a,g.o,d.B]; simp only[]; rw[y.o]; simp only[]; rw[aC m.o,eR,q.o]) (n.o.end_ j)⟩
 |some l2=>
 obtain⟨b,e0⟩:=l2;rw[hm]at J;have q:=kp hm;go_wp2_with fail;refine (J.o).mono ?_;rintro e F ⟨o0,z2,rfl,p0,p1⟩;obtain⟨c,c11,rfl,-⟩:=eD p0;have z:=kp (n.o.call p1 o0);obtain⟨a3,g2⟩:=n.o.inn.rd.rblk;have d2:=g1.o.chg g2 o0 (by decide) (by decide) (by decide);have U:=kp (show Sv (F.setCell ⟨w.heap.size+1,8,none⟩ (.slice c b.length c11)) w.heap.size ⟨p,b,.slice c b.length c11⟩ ps from⟨d2.chg z.o.blk ((Chg.refl (fun i=>i=w.heap.size+1) F).setCell (.inr rfl) 8 _) (by decide) (by decide) (by decide),(p0.mono n.o.chg.size).blk_set z.o.blk (by decide) 8 _⟩);have e3:=(z.o.blk.cell 8).trans (show (p.cells++[Value.slice none 0 0])[8]? =some (.slice none 0 0) from rfl);have d3:=z.o.blk.frozen 8;have Y:=kp (show Rs w N O 32 e0 _ (StV.cells ⟨p,b,.slice c b.length c11⟩) (F.setCell ⟨w.heap.size+1,8,none⟩ (.slice c b.length c11)) from z.o.put 8 (.slice c b.length c11));have T:=k'2 (U.o.h.few (show cO p.x=true from by rw[K.o]; exact Ls g.o)) (qC (P:=fun _=>True) (fun _ _ _ _=>trivial) E y0 b e0 q.o).2;have hL:=Y.o.blk.load (P:=prog) (k:=9) rfl;have G:=kp (Dt ⟨p,b,.slice c b.length c11⟩ ps _ _ U.o.st (aD _) (by have:=T.a.1; omega) (aB (show p.x.free.length≤256 from T.a.2) (by omega)) (by have:=T.B; have:=m.o; show b.length≤_; omega))
 cases hst:stB ⟨D,b⟩ with
 |false=>
  have V:=kp hst;rw[show stB (StV.x ⟨p,b,.slice c b.length c11⟩)=false from by rw[show StV.x ⟨p,b,.slice c b.length c11⟩=⟨D,b⟩ from by show (⟨p.x,b⟩:St)=_; rw[K.o]]; exact hst]at G;go_wp2_with fail;refine mb' (G.o) fun z0 Q=>?_;rw[show eN 60 false=60 from rfl];have a1:=kp Q;go_wp2_with fail;refine (HF.o _).mono ?_;rintro e b3 ⟨rfl,rfl⟩;exact⟨rfl,mE.none (by unfold stP; rw[aE f.o,d.a,g.o,d.B]; simp only[]; rw[y.o]; simp only[]; rw[aC m.o,eR,q.o]; simp only[]; rw[aC (by rw[V.o]; decide)]) (Y.o.chg.then a1.o)⟩
 |true=>
  have V:=kp hst;rw[show stB (StV.x ⟨p,b,.slice c b.length c11⟩)=true from by rw[show StV.x ⟨p,b,.slice c b.length c11⟩=⟨D,b⟩ from by show (⟨p.x,b⟩:St)=_; rw[K.o]]; exact hst]at G;go_wp2_with fail;refine mb' (G.o) fun z0 Q=>?_;rw[show eN 60 true=0 from rfl];have M:=kp (Y.o.grow Q);have j0:=kp (U.o.below Q);go_wp2_with fail;refine mb' (HT.o _) fun w' b0=>?_;obtain rfl:=b0.symm;have hL:=M.o.blk.load (P:=prog) (k:=9) rfl;have hS:=M.o.res.store (P:=prog) (cs':=StV.cells ⟨p,b,.slice c b.length c11⟩) rfl (StV.one j0.o.st);have H:=k'2 (M.o.fin (StV.cells ⟨p,b,.slice c b.length c11⟩)) (j0.o.chg M.o.res ((Chg.refl (fun i=>i=w.heap.size) z0).setRow (.inr rfl) (StV.cells ⟨p,b,.slice c b.length c11⟩).toArray) (by decide) (by decide) (by decide) (by decide));go_wp2_with fail;have hR:=H.a.1.load (P:=prog) (k:=9) rfl;exact aU (v:=.agg (StV.cells ⟨p,b,.slice c b.length c11⟩).toArray) (by simp[results,results68,go_sem,hR]) rfl (mE.some (p:=⟨p,b,.slice c b.length c11⟩) (r:=e0) (by unfold stP; rw[aE f.o,d.a,g.o,d.B]; simp only[]; rw[y.o]; simp only[]; rw[aC m.o,eR,q.o]; simp only[]; rw[aE V.o,show StV.x ⟨p,b,.slice c b.length c11⟩=⟨D,b⟩ from by show (⟨p.x,b⟩:St)=_; rw[K.o]]) H.a.2.2 H.B H.a.2.1)
end
section
attribute [-go_sem] loadCellsFrom storeCells
attribute [local go_sem] bC
def kF:St:=⟨lI,[]⟩
theorem Sv.no(w:World)(base:Nat):Sv w base ⟨⟨lI,.slice none 0 0,.slice none 0 0⟩,[],.slice none 0 0⟩ []:=⟨Hv.no _ _,Ow.nil _ _ _ _ _⟩
theorem rY:∀u∈(z'2:List Value),u.oneCell'=true:=StV.one (p:=⟨⟨lI,.slice none 0 0,.slice none 0 0⟩,[],.slice none 0 0⟩) (Sv.no default 0).st
theorem Lt(d b a:Nat)(xs:List Value)(c:Int)(u:TypeId)(h:Value)(g:List PanicEntry)(w:World)(o:Blk w d 32 z'2)(r:Blk w b 32 xs)(m:Blk w a 51 [.i c])(n:xs.length=9)(p:a≠b):
  CallsD prog 115 #[.pointer (some ⟨d,0,none⟩),.pointer (some ⟨b,0,none⟩),.pointer (some ⟨a,0,none⟩)] (.panicking ({v:=.iface u h,recovered:=false}::g)) w fun e s x=>
   e=.returned (.tuple #[])∧s=.panicking ({v:=.iface u h,recovered:=true}::g)∧x=(w.setRow b z'2a).setCell ⟨a,0,none⟩ (.i 60):=by
 have j:=o.load (P:=prog) (k:=9) rfl;have l:=r.store (P:=prog) (cs':=z'2) (by rw[n]; rfl) rY;have f:=m.other p (List.toArray z'2);have c2:=f.cell 0;have i:=f.frozen 0;simp only[aG]at c2;refine callsD_of_wpS func115 rfl fun z y q=>?_;apply wpS_seq;apply wpS_region;simp[wpOpsS,go_sem,recoverD,q,ntmps115,Exit.thenS];apply wpS_seq;apply wpS_region;simp[wpOpsS,go_sem,Exit.thenS];refine wpS_cond (t:=true) (by simp[Act.eval,Array.replicate]) ?_;simp only[if_true];apply wpS_region;simp[wpOpsS,go_sem,j,l,c2,i,bodyPostS,results,results115]
theorem Xp(a b c:Value)(w:World):
  CallsD prog 115 #[a,b,c] .returning w fun e g h=>e=.returned (.tuple #[])∧g=.returning∧h=w:=by
 refine callsD_of_wpS func115 rfl fun d i f=>?_;apply wpS_seq;apply wpS_region;simp[wpOpsS,go_sem,recoverD,f,ntmps115,Exit.thenS];apply wpS_seq;apply wpS_region;simp[wpOpsS,go_sem,Exit.thenS];refine wpS_cond (t:=false) (by simp[Act.eval,Array.replicate]) ?_;simp only[qO,if_false];refine wpS_of_wp (wp_skip ?_)
 cases d
 simp_all [bodyPostS,results,results115]
def jN(w:World)(o:Option St)(e:Ending)(w':World):Prop:=
 ∃p ps,e=.returned (.tuple #[.agg p.cells.toArray,.i (if o.isSome then 0 else 60)])∧p.x=o.getD kF∧Sv w' w.heap.size p ps∧Bw' w w'
structure WhS(w:World)(xs:List Value)(c:Int)(W:World):Prop where
 x:Blk W w.heap.size 32 xs
 e:Blk W (w.heap.size+1) 51 [.i c]
 n:Blk W (w.heap.size+1+1) 32 z'2
 b:Bw' w W
section
variable {w W W':World}{xs:List Value}{c:Int}
theorem WhS.new(w:World):WhS w z'2 0 (((w.alloc (.cells z'2a 32)).alloc (.cells #[.i 0] 51)).alloc (.cells z'2a 32)):=by
 have a:=ba' w (.cells z'2a 32);have b:=Blk.new w 32 z'2;have c:=Blk.new (w.alloc (.cells z'2a 32)) 51 [.i 0];have d:=Blk.new ((w.alloc (.cells z'2a 32)).alloc (.cells #[.i 0] 51)) 32 z'2;exact⟨(b.alloc _).alloc _,(by simpa using c.alloc _),(by simpa using d),((a.alloc (by simp) _).alloc (by simp; omega) _)⟩
theorem WhS.grow(h:WhS w xs c W)(a:Bw' W W'):WhS w xs c W':=⟨h.x.below a h.x.lt,h.e.below a h.e.lt,h.n.below a h.n.lt,h.b.on a⟩
theorem WhS.chg{g:Nat}(h:WhS w xs c W)(a:Chg (fun i=>i=g) W W')(d:w.heap.size+1+1<g):WhS w xs c W':=⟨h.x.chg a (by omega),h.e.chg a (by omega),h.n.chg a (by omega),h.b.trans (a.below (fun i f=>by omega) h.b.size)⟩
theorem WhS.put(h:WhS w xs c W)(a:List Value):WhS w a c (W.setRow w.heap.size a.toArray):=⟨h.x.set a,h.e.other (by omega) _,h.n.other (by omega) _,cL h.b (aD _) _⟩
theorem WhS.err(h:WhS w xs c W)(d:Int):WhS w xs d (W.setCell ⟨w.heap.size+1,0,none⟩ (.i d)):=⟨h.x.otherCell (by omega) _ _,h.e.setCell 0 _,h.n.otherCell (by omega) _ _,h.b.setCell (p:=⟨w.heap.size+1,0,none⟩) (by simp only; omega) _⟩
end
theorem jN.no{w a:World}{o:Option St}(c:o=none)(b:Bw' w a):jN w o (.returned (.tuple #[.agg z'2a,.i 60])) a:=by
 subst c;exact⟨⟨⟨lI,.slice none 0 0,.slice none 0 0⟩,[],.slice none 0 0⟩,[],rfl,rfl,Sv.no _ _,b⟩
theorem jN.yes{w a:World}{o:Option St}{p:StV}{ps:List ObV}(c:o=some p.x)(d:Sv a w.heap.size p ps)(b:Bw' w a):jN w o (.returned (.tuple #[.agg p.cells.toArray,.i 0])) a:=by
 subst c;exact⟨p,ps,rfl,rfl,d,b⟩
theorem Xq(A:Option Addr)(n c B:Nat)(l:List UInt8)(w:World)(hr:Rd w B A (bv l))(V:B≤w.heap.size)(hl:l.length=n)(hc:n≤c)(hm:c≤maxLen):
  Calls prog 67 #[.slice A n c,.func (.func 68) #[] #[]] w (jN w (dM l)):=by
 have j1:∀(U:Fn)(first cap:Array Value)(w:World),(Instr.makeFunc U first cap).run prog w=.ok (.func U first cap) w:=fun _ _ _ _=>rfl;have HT:=kp rO;have HF:=kp rP;have y:=kp (WhS.new w);have HR:=kp (Ga A n c l _ (((hr.below y.o.b V).more (aB V y.o.b.size))) hl hc hm)
 go_enter_defers func67,ntmps67
 go_wp2_with fail;refine (HR.o).mono ?_;rintro e q ⟨g,rfl,y0,K,p0⟩;have K4:=kp (y.o.grow p0);have F:=kp (show w.heap.size+1+1<g from eA y.o.n.lt y0);have S:=ba' q (.cells #[.pointer (some ⟨g,0,none⟩)] 129);have n5:=Blk.new q 129 [.pointer (some ⟨g,0,none⟩)];have I:=kp (K4.o.grow S);have HI:=kp (show cK (q.alloc (.cells #[.pointer (some ⟨g,0,none⟩)] 129)) q.heap.size g l from⟨n5,K.below S,by have:=K.lt; omega⟩);have s:=kp (Xo HI.o);have a0:=kp (show g<q.heap.size from K.lt)
 cases hp:stP l with
 |none=>
  rw[hp]at s;have H:=kp (show dM l=none by rw[Du,hp]);go_wp2_with fail;refine (s.o).mono ?_;rintro e E ⟨J,rfl⟩;have h:=kp (I.o.chg J F.o);refine leaves_cons (f:=115) (args:=#[.pointer (some ⟨w.heap.size+1+1,0,none⟩),.pointer (some ⟨w.heap.size,0,none⟩),.pointer (some ⟨w.heap.size+1,0,none⟩)]) (by simp) (by simp[go_sem]) ?_;refine (Lt _ _ _ _ 0 _ _ [] _ h.o.n h.o.x h.o.e rfl (by omega)).mono ?_;rintro e Y Z ⟨rfl,rfl,rfl⟩;have d:=(h.o.put z'2).err 60;have C:=d.x.load (P:=prog) (k:=9) rfl;have j:=d.e.cell 0;have G:=jN.no H.o d.b;simp only[aG]at j;simp[Leaves,settle,results,results67,go_sem,C,j,G]
 |some p=>
  obtain⟨hh,r⟩:=p;rw[hp]at s;have Q:=kp hp;go_wp2_with fail;refine (s.o).mono ?_;rintro e E ⟨J,p,ps,rfl,d1,X,W⟩;have h:=kp (I.o.chg J F.o);have hS:=h.o.x.store (P:=prog) (cs':=p.cells) rfl (StV.one X.st);have d:=kp (h.o.put p.cells);obtain⟨N,D,T,z0,-,b1,-,-⟩:=W.rd;have a1:=I.o.b;have e1:=F.o;have g1:=a0.o;have d0:=kp ((show Blk E g 171 [.slice N D T] from z0).other (g':=w.heap.size) (by omega) p.cells.toArray);have q0:=(W.blk.other (g':=w.heap.size) (by omega) p.cells.toArray).cell 0;simp only[aG]at q0;have O:=kp b1;have R:=kp ((X.mono a1.size).chg h.o.x ((Chg.refl (fun i=>i=w.heap.size) E).setRow (.inr rfl) p.cells.toArray) (by decide) (by decide) (by decide) (by decide));have b0:=kp d1;go_wp2_with fail;generalize E.setRow w.heap.size p.cells.toArray=W7 at *;go_wp2_with fail;refine mb' (Lo g N D T _ d0.o) fun w' M=>?_;obtain rfl:=M.symm
  by_cases L:D=0
  .subst L;obtain rfl:r=[]:=hJ O.o;have l0:=kp (show dM l=some hh by rw[Du,Q.o]);go_wp2_with fail;refine mb' (HT.o _) fun w' M=>?_;obtain rfl:=M.symm;have C:=d.o.x.load (P:=prog) (k:=9) rfl;have hS:=d.o.x.store (P:=prog) (cs':=p.cells) rfl (StV.one R.o.st);have z:=kp (d.o.put p.cells);have e0:=kp (R.o.chg d.o.x ((Chg.refl (fun i=>i=w.heap.size) W7).setRow (.inr rfl) p.cells.toArray) (by decide) (by decide) (by decide) (by decide));have z8:=z.o.e.cell 0;have y8:=z.o.e.frozen 0;simp only[aG]at z8;have m:=kp (z.o.err 0);have j0:=kp (e0.o.chg z.o.e ((Chg.refl (fun i=>i=w.heap.size+1) _).setCell (.inr rfl) 0 (.i 0)) (by decide) (by decide) (by decide) (by decide));go_wp2_with fail;refine leaves_cons (f:=115) (args:=#[.pointer (some ⟨w.heap.size+1+1,0,none⟩),.pointer (some ⟨w.heap.size,0,none⟩),.pointer (some ⟨w.heap.size+1,0,none⟩)]) (by simp) (by simp[go_sem]) ?_;refine (Xp _ _ _ _).mono ?_;rintro e Y Z ⟨rfl,rfl,rfl⟩;have o0:=m.o.x.load (P:=prog) (k:=9) rfl;have j:=m.o.e.cell 0;have m0:=jN.yes (o:=dM l) (p:=p) (by rw[l0.o,b0.o]) j0.o m.o.b;simp only[aG]at j;simp[Leaves,settle,results,results67,go_sem,o0,j,m0]
  .have g0:((D:Int)==0)=false:=by simpa using L
   have H:=kp (show dM l=none by
    rw[Du,Q.o]
    cases r with
    |nil=>exact absurd O.o.symm L
    |cons a r=>rfl)
   go_wp2_with fail;refine (HF.o _).mono ?_;rintro e w8 ⟨rfl,rfl⟩;refine leaves_cons (f:=115) (args:=#[.pointer (some ⟨w.heap.size+1+1,0,none⟩),.pointer (some ⟨w.heap.size,0,none⟩),.pointer (some ⟨w.heap.size+1,0,none⟩)]) (by simp) (by simp[go_sem]) ?_;refine (Lt _ _ _ _ 0 _ _ [] _ d.o.n d.o.x d.o.e rfl (by omega)).mono ?_;rintro e Y Z ⟨rfl,rfl,rfl⟩;have m:=(d.o.put z'2).err 60;have C:=m.x.load (P:=prog) (k:=9) rfl;have j:=m.e.cell 0;have G:=jN.no H.o m.b;simp only[aG]at j;simp[Leaves,settle,results,results67,go_sem,C,j,G]
theorem yT(A:Option Addr)(n c B:Nat)(l:List UInt8)(w:World)(I:Rd w B A (bv l))(h:B≤w.heap.size)(F:l.length=n)(E:n≤c)(G:c≤maxLen):
  Calls prog 26 #[.slice A n c] w (jN w (dM l)):=by
 have d:=ba' w (.cells z'2a 32);have K:=Blk.new w 32 z'2;have z:=kp (Xq A n c B l _ (I.below d h) (aB h d.size) F E G);have b:=k'2 d K;go_enter func26,ntmps26;go_wp2_with fail;refine (z.o).mono ?_;rintro e J ⟨p,ps,rfl,H,q,j⟩;obtain⟨f,m⟩:∃f:Int,(if (dM l).isSome=true then (0:Int) else 60)=f:=⟨_,rfl⟩
 rw[m];have s:=kp m;have g:=b.B.below j b.B.lt;have L:=g.store (P:=prog) (cs':=p.cells) rfl (StV.one q.st);have r:=kp (cL (b.a.on j) (aD _) p.cells.toArray);have y:=kp ((q.mono (base2:=w.heap.size) (by simp)).chg g ((Chg.refl (fun i=>i=w.heap.size) J).setRow (.inr rfl) p.cells.toArray) (by decide) (by decide) (by decide) (by decide));have C:=kp (g.set p.cells);have x:=kp H;go_wp2_with fail;have D:=C.o.load (P:=prog) (k:=9) rfl;exact aU (v:=.tuple #[.agg p.cells.toArray,.i f]) (by simp[results,results26,go_sem,D]) rfl ⟨p,ps,by rw[s.o],x.o,y.o,r.o⟩
end
section
def kG:RF Rw:=fun l b=>
 let c:=cQ l b
 let s:=cQ c.2.1 c.2.2
 let k:=cQ s.2.1 s.2.2
 let v:=gA k.2.1 k.2.2
 (⟨c.1,s.1,k.1,v.1⟩,v.2)
theorem Ma{l f l2 g h:List UInt8}{b a d e aS:Bool}{c s k v:Int}(i:cQ l b=(c,f,a))(j:cQ f a=(s,l2,d))(m:cQ l2 d=(k,g,e))(n:gA g e=(v,h,aS)):kG l b=(⟨c,s,k,v⟩,h,aS):=by
 unfold kG;simp only[i,j,m,n]
theorem Mb:nT kG rwP:=by
 have e:=mV.bad;have g:=nU.bad;have d:=mV.ok;have j:=mV.no;have n:∀l,(kG l true).2.2=true:=fun l=>by
  unfold kG;simp only;rw[e,e,e,g]
 have m:∀l,(∃x r,rwP l=some (x,r)∧kG l false=(x,r,false))∨(rwP l=none∧(kG l false).2.2=true):=fun l=>by
  cases hp:rwP l with
  |some p=>
   obtain⟨x,r⟩:=p;obtain⟨o,q,z,a,b,f,i⟩:=Lg hp;exact .inl ⟨x,r,rfl,Ma (d _ _ _ a) (d _ _ _ b) (d _ _ _ f) (nU.ok _ _ _ i)⟩
  |none=>
   refine .inr ⟨rfl,?_⟩;unfold kG;simp only;rcases Lh hp with a|⟨c,o,a,b|⟨s,q,b,f|⟨k,z,f,i⟩⟩⟩
   .rw[j l a,e,e,g]
   .rw[d _ _ _ a];simp only;rw[j _ b,e,g]
   .rw[d _ _ _ a];simp only;rw[d _ _ _ b];simp only;rw[j _ f,g]
   .rw[d _ _ _ a];simp only;rw[d _ _ _ b];simp only;rw[d _ _ _ f];simp only;rw[nU.no _ i]
 refine⟨n,fun l x r h=>?_,fun l h=>?_⟩
 .rcases m l with⟨y,s,a,b⟩|⟨a,_⟩
  .rw[h]at a; cases a; exact b
  .rw[h]at a; cases a
 .rcases m l with⟨y,s,a,_⟩|⟨_,b⟩
  .rw[h]at a; cases a
  .exact b
theorem Yg{s:St}(h:stB s=true):s.rows.length≤4:=by
 unfold stB at h;simp only[bI]at h;have:=(vA s.rows 0 (by omega) h.2).2;omega
def vV(h:Hp)(l:List UInt8):Option St:=
 let n:=cQ l false
 let q:=gP kG (min n.1.toNat 5) n.2.1 n.2.2
 if q.2.2=true∨q.2.1≠[]∨n.1≠q.1.length∨stB ⟨h,q.1⟩=false then none else some ⟨h,q.1⟩
theorem Yh(h:Hp)(l:List UInt8):vV h l=match bF l with
  |none=>none
  |some (n,r)=>if 4<n then none else
   match aZ rwP n.toNat r with
   |some (c,[])=>if stB ⟨h,c⟩=true then some ⟨h,c⟩ else none
   |_=>none:=by
 unfold vV
 cases hn:bF l with
 |none=>
  have g:=mV.no l hn;generalize cQ l false=z at *;obtain⟨n,r,b⟩:=z;change b=true at g;subst g;simp only[];rw[vR,aE (.inl rfl)]
 |some p=>
  obtain⟨n,r⟩:=p;rw[mV.ok l n r hn];obtain⟨u,rfl,q⟩:=rQ hn;simp only[eR]
  cases hm:aZ rwP (min u 5) r with
  |none=>
   have g:=(Mb.till (min u 5)).no r hm;rw[aE (.inl g)]
   by_cases e:4<(u:Int)
   .rw[aE e]
   .rw[aC e];rw[show min u 5=u by omega]at hm;rw[hm]
  |some m=>
   obtain⟨c,f⟩:=m;rw[(Mb.till (min u 5)).ok r c f hm];have o:=(qC (P:=fun _=>True) (fun _ _ _ _=>trivial) _ r c f hm).2;simp only[]
   by_cases e:4<(u:Int)
   .rw[aE e]
    by_cases i:(false=true∨f≠[]∨(u:Int)≠c.length∨stB ⟨h,c⟩=false)
    .rw[aE i]
    .exfalso
     have k:stB ⟨h,c⟩=true:=by
      cases hs:stB ⟨h,c⟩ with
      |true=>rfl
      |false=>exact absurd (.inr (.inr (.inr hs))) i
     have d:=Yg k;simp only at d;have j:(u:Int)=c.length:=by
      apply Classical.byContradiction;intro j;exact i (.inr (.inr (.inl j)))
     omega
   .rw[aC e];rw[show min u 5=u by omega]at hm;rw[hm]
    cases f with
    |cons a f=>rw[aE (.inr (.inl (by simp)))]
    |nil=>
     simp only[]
     cases hs:stB ⟨h,c⟩ with
     |true=>
      rw[aC,aE rfl];rintro (d|d|d|d)
      .cases d
      .exact d rfl
      .omega
      .cases d
     |false=>rw[aE (.inr (.inr (.inr rfl))),aC (by decide)]
theorem Yi(l:List UInt8):dM l=if (dJ l).2.2=0 then match eZ (dJ l).1.data.toList with
  |none=>none
  |some h=>vV h (l.drop (dJ l).2.1)
 else none:=by
 unfold dM
 by_cases a:(dJ l).2.2=0
 .rw[aE a,aE a]
  cases eZ (dJ l).1.data.toList with
  |none=>rfl
  |some h=>
   simp only[];rw[Yh];rfl
 .rw[aC a,aC a]
end
end Go.Proofs.YtdoopoapbffpbaaGreat
