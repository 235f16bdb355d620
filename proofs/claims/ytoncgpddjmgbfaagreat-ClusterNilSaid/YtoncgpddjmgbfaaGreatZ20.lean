import Derived.Test.YtoncgpddjmgbfaaGreatZ03
import Derived.Test.YtoncgpddjmgbfaaGreatZ04
import Derived.Test.YtoncgpddjmgbfaaGreatZ17
import Derived.Test.YtoncgpddjmgbfaaGreatZ18
import Derived.Test.YtoncgpddjmgbfaaGreatZ19
import Derived.Lib.ConvBytes
import Derived.Defers
import Derived.Recover
import Derived.WalkMore
import Derived.ScopeJumps
namespace Go.Proofs.YtoncgpddjmgbfaaGreat
open Go.RowKit Go.Proofs.Tryz
set_option maxRecDepth 100000
set_option maxHeartbeats 12800000
set_option linter.unusedVariables false
set_option linter.unusedSimpArgs false
section
attribute [-go_sem] loadCellsFrom storeCells
attribute [local go_sem] aX
theorem pH(s:ByteArray):s.data.toList.length=s.size:=gK
theorem vB(W:World)(s:ByteArray)(e:s.size≤maxLen):∃c W',Sem.run prog (convert 9 154 (.string s)) W=.ok (.slice (some ⟨W.heap.size,0,none⟩) s.size c) W'∧Bw' W W'∧Rd W' (W.heap.size+1) (some ⟨W.heap.size,0,none⟩) (bv s.data.toList)∧W.heap.size+1≤W'.heap.size∧s.size≤c∧c≤maxLen:=by
 refine⟨_,_,Lib.run_convert_string_bytes W _ _ 5 s rX rW tT,?_,?_,?_,grownCap_ge _ _ _ _,grownCap_le_maxLen _ _ _ _ e⟩
 .refine⟨?_,?_,?_,by rw[Lib.bytesWorld_size]; omega,fun k d=>Lib.bytesWorld_at_old _ _ _ k d⟩
  .simp[Lib.bytesWorld,World.freeze];rfl
  .simp[Lib.bytesWorld,World.freeze]
  .simp[Lib.bytesWorld,World.freeze];rfl
 .refine .inr ⟨_,_,rfl,by omega,fun j u b=>?_⟩;have a:j<s.size:=by
   have:=(iZ.1 b).1;rw[tY]at this
   rwa [pH]at this
  rw[gL,Lib.bytesWorld_cell _ _ _ _ a];rw[zI _ _ (by rw[pH]; exact a)]at b;rw[←b]
  congr 4
  rw[nF,jN (by rw[pH]; exact a)];rfl
 .rw[Lib.bytesWorld_size];exact aN _
theorem Uv(p:HpV)(w:World)(j:∀u∈p.cells,u.oneCell'=true):Calls prog 131 #[.agg p.cells.toArray,.i 0] w fun e n=>e=.returned (.agg p.cells.toArray)∧Bw' w n:=by
 have b:=ba' w (.cells p.cells.toArray 40);have c:=Blk.new w 40 p.cells;obtain⟨a,m⟩:=nm' (w.alloc (.cells p.cells.toArray 40));rw[m]at b c;have d:=ba' a (.cells z'1a 40);have f:=Blk.new a 40 z'1;have q:=(c.below d c.lt).load (P:=prog) (k:=8) rfl;have r:=f.store (P:=prog) (cs':=p.cells) rfl j;have i:=kp (f.set p.cells);have h:=kp (eU (b.on d) (g:=a.heap.size) b.size p.cells.toArray);go_enter func131,ntmps131;go_wp2_with fail;have l:=i.o.load (P:=prog) (k:=8) rfl;exact bI (v:=.agg p.cells.toArray) (by simp[results,results131,go_sem,l]) rfl ⟨rfl,h.o⟩
theorem Uw(p:HpV)(w:World):Calls prog 131 #[.agg p.cells.toArray,.i 60] w fun e c=>e=.panicked gP∧Bw' w c:=by
 have a:=ba' w (.cells p.cells.toArray 40);have b:=kp (a.alloc a.size (.cells z'1a 40));go_enter func131,ntmps131;go_wp2_with fail;exact⟨rfl,rfl,b.o⟩
def stP(l:List UInt8):Option (St×List UInt8):=
 if (eH l).2.2=0 then
  match gZ (eH l).1.data.toList with
  |none=>none
  |some h=>match bW (l.drop (eH l).2.1) with
   |none=>none
   |some (n,r)=>if 4<n then none else
    match bN rwP n.toNat r with
    |none=>none
    |some (rows,r2)=>if stB ⟨h,rows⟩=true then some (⟨h,rows⟩,r2) else none
 else none
theorem Ci(l:List UInt8):dX l=match stP l with
  |some (s,[])=>some s
  |_=>none:=by
 unfold dX stP
 by_cases b:(eH l).2.2=0
 .rw[aK b,aK b]
  cases gZ (eH l).1.data.toList with
  |none=>rfl
  |some h=>
   cases bW (l.drop (eH l).2.1) with
   |none=>rfl
   |some p=>
    obtain⟨n,r⟩:=p
    by_cases d:4<n
    .simp[d]
    .simp only[aF d]
     cases bN rwP n.toNat r with
     |none=>rfl
     |some q=>
      obtain⟨f,e⟩:=q
      cases e with
      |nil=>by_cases c:stB ⟨h,f⟩=true<;>simp[c]
      |cons a e=>by_cases c:stB ⟨h,f⟩=true<;>simp[c]
 .rw[aF b,aF b]
theorem Ux{l:List UInt8}{h:Hp}(b:gZ l=some h):cR h=true:=by
 unfold gZ at b
 cases hp:hpP l with
 |none=>simp[hp]at b
 |some p=>
  obtain⟨x,r⟩:=p
  cases r with
  |cons a r=>simp[hp]at b
  |nil=>
   simp only[hp]at b
   by_cases c:cR x=true
   .rw[aK c]at b
    cases b;exact c
   .rw[aF c]at b
    cases b
def lS(w:World)(gi gr:Nat)(o:Option (St×List UInt8))(e:Ending)(w':World):Prop:=
 Chg (fun i=>i=gr) w w'∧match o with
  |some (s,r)=>∃p ps,e=.returned (.agg p.cells.toArray)∧p.x=s∧Sv w' w.heap.size p ps∧bX w' gi gr r
  |none=>e=.panicked gP
theorem lS.none{w b:World}{c a:Nat}{o:Option (St×List UInt8)}(e:o=none)(d:Chg (fun i=>i=a) w b):lS w c a o (.panicked gP) b:=by
 subst e;exact⟨d,rfl⟩
theorem lS.some{w a:World}{c b:Nat}{o:Option (St×List UInt8)}{r:List UInt8}{p:StV}{d:List ObV}(h:o=some (p.x,r))(e:Chg (fun i=>i=b) w a)(f:Sv a w.heap.size p d)(g:bX a c b r):lS w c b o (.returned (.agg p.cells.toArray)) a:=by
 subst h;exact⟨e,p,d,rfl,rfl,f,g⟩
theorem Rs.all{w W:World}{b c:Nat}{t:TypeId}{l:List UInt8}{zs d:List Value}(h:Rs w b c t l zs d W)(a:List Value):Rs w b c t l zs a (W.setRow (w.heap.size+1) a.toArray):=
 ⟨h.inn.at_ (eU (aH (w.heap.size+1) W) (aN _) _) (Dj h.lti) (Dj h.ltr),h.res.other (by omega) _,h.blk.set a,h.chg.setRow (.inl (by omega)) _,h.lti,h.ltr⟩
theorem Hv.few{w:World}{base:Nat}{p:HpV}{a:List ObV}(h:Hv w base p a)(b:cR p.x=true):a.length≤256∧p.x.free.length≤256:=by
 have H:=gE.1 b;have c:=H.len;have d:a.length=p.x.obs.length:=by rw[h.eq,dD]
 omega
theorem Uy{w:World}{N O:Nat}{l:List UInt8}(h:bX w N O l):Calls prog 130 #[.pointer (some ⟨N,0,none⟩)] w (lS w N O (stP l)):=by
 have z2:∀(fn:Fn)(first cap:Array Value)(w:World),(Instr.makeFunc fn first cap).run prog w=.ok (.func fn first cap) w:=fun _ _ _ _=>rfl;have A:=kp (Rs.new h 43 z'2);have HT:=kp qN;have HF:=kp qO;have g1:=kp Tp;have q0:=A.o.inn.blk.cell 0;simp only[aP]at q0;have L:=kp (Ns O l _ A.o.inn.rd);go_enter func130,ntmps130
 by_cases j:(eH l).2.2=0
 rotate_left
 .have f:=kp j;have d1:=kp (fun W=>Tq (eH l).1 (eH l).2.2 j W);go_wp2_with fail;refine (L.o).mono ?_;rintro e w2 ⟨rfl,h2,S⟩;have b1:=kp (oA S);go_wp2_with fail;refine (d1.o _).mono ?_;rintro e w3 ⟨rfl,rfl⟩;exact⟨rfl,lS.none (by unfold stP; rw[aF f.o]) (A.o.end_ b1.o)⟩
 have f:=kp j;rw[j]at L;have g0:=kp (Oc l f.o);obtain⟨s,hs⟩:=nm' ((eH l).1);obtain⟨k,hk⟩:=nm' ((eH l).2.1);rw[hs,hk]at L;rw[hs]at g0;have d:=k'2 hs hk;go_wp2_with fail;refine (L.o).mono ?_;rintro e w2 ⟨rfl,h2,S⟩;have K2:=kp (A.o.call (A.o.inn.step h2 (oA S)) (oA S));go_wp2_with fail;refine mb' (g1.o _ _) fun w' b0=>?_;obtain rfl:=b0.symm;obtain⟨c6,W6,q2,o1,b2,d2,z1,y1⟩:=vB w2 s (by have:=g0.a; unfold maxLen; omega);have Z:=kp (K2.o.grow o1);have I:=kp (Uq (some ⟨w2.heap.size,0,none⟩) s.size c6 _ s.data.toList W6 b2 d2 (pH s) z1 y1)
 cases hg:gZ s.data.toList with
 |none=>
  rw[hg]at I;have g:=kp hg;go_wp2_with fail;refine (I.o).mono ?_;rintro e w7 ⟨p,ps,rfl,-,-,a0⟩;have K7:=kp (Z.o.grow a0);go_wp2_with fail;refine mb' (Uw p _) fun w8 R=>?_;exact⟨rfl,lS.none (by unfold stP; rw[aK f.o,d.a,g.o]) (K7.o.chg.then R)⟩
 |some D=>
 rw[hg]at I;have g:=kp hg;go_wp2_with fail;refine (I.o).mono ?_;rintro e w7 ⟨p,ps,rfl,a2,d0,a0⟩;have K7:=kp (Z.o.grow a0);have X:=k'2 (d0.mono Z.o.chg.size) (HpV.one d0.obs.one d0.free.sl.one);have K:=kp (show p.x=D from a2);go_wp2_with fail;refine mb' (Uv p _ X.B) fun w8 R=>?_;have K8:=kp (K7.o.grow R);have l1:=kp (X.a.below R);have hS:=K8.o.blk.storeOff (P:=prog) 0 p.cells (by show 0+8≤9; omega) X.B;have C:=kp (K8.o.all (p.cells++[Value.slice none 0 0]));rw[show iT z'2 0 p.cells=p.cells++[Value.slice none 0 0] from rfl]at hS;have m1:=kp (l1.o.chg K8.o.blk ((Chg.refl (fun i=>i=w.heap.size+1) w8).setRow (.inr rfl) (p.cells++[Value.slice none 0 0]).toArray) (by decide) (by decide) (by decide));go_wp2_with fail
 cases hn:bW (l.drop k) with
 |none=>
  go_wp2_with fail;refine mb' (lE C.o.inn hn) fun p2 j=>?_;exact⟨rfl,lS.none (by unfold stP; rw[aK f.o,d.a,g.o,d.B]; simp only[]; rw[hn]) (C.o.end_ j)⟩
 |some m2=>
 obtain⟨a3,y0⟩:=m2;obtain⟨E,rfl,y2⟩:=vA hn;have y:=kp hn;go_wp2_with fail;refine (iC C.o.inn y.o).mono ?_;rintro e p2 ⟨rfl,p1,m0⟩;have n:=kp (C.o.call p1 m0);obtain⟨vr,j2⟩:=C.o.inn.rd.rblk;have j1:=kp (m1.o.chg j2 m0 (by decide) (by decide) (by decide))
 by_cases l0:4<(E:Int)
 .have m:=kp l0;go_wp2_with fail;refine (Ty E 4 m.o _ _).mono ?_;rintro e F ⟨rfl,rfl⟩;exact⟨rfl,lS.none (by unfold stP; rw[aK f.o,d.a,g.o,d.B]; simp only[]; rw[y.o]; simp only[]; rw[aK m.o]) n.o.chg⟩
 have m:=kp l0;have J:=kp (Cd.2 E 4 (by omega) (by omega) 137 rwP n.o.inn (fun _ _=>rfl) (fun W l h=>Tx h))
 cases hm:bN rwP E y0 with
 |none=>
  rw[hm]at J;have q:=kp hm;go_wp2_with fail;refine (J.o).mono ?_;rintro e F ⟨j,rfl⟩;exact⟨rfl,lS.none (by unfold stP; rw[aK f.o,d.a,g.o,d.B]; simp only[]; rw[y.o]; simp only[]; rw[aF m.o,gS,q.o]) (n.o.end_ j)⟩
 |some o2=>
 obtain⟨b,e0⟩:=o2;rw[hm]at J;have q:=kp hm;go_wp2_with fail;refine (J.o).mono ?_;rintro e F ⟨o0,b3,rfl,p0,q1⟩;obtain⟨c,c11,rfl,-⟩:=dO p0;have z:=kp (n.o.call q1 o0);obtain⟨d3,l2⟩:=n.o.inn.rd.rblk;have g2:=j1.o.chg l2 o0 (by decide) (by decide) (by decide);have U:=kp (show Sv (F.setCell ⟨w.heap.size+1,8,none⟩ (.slice c b.length c11)) w.heap.size ⟨p,b,.slice c b.length c11⟩ ps from⟨g2.chg z.o.blk ((Chg.refl (fun i=>i=w.heap.size+1) F).setCell (.inr rfl) 8 _) (by decide) (by decide) (by decide),(p0.mono n.o.chg.size).blk_set z.o.blk (by decide) 8 _⟩);have j3:=(z.o.blk.cell 8).trans (show (p.cells++[Value.slice none 0 0])[8]? =some (.slice none 0 0) from rfl);have g3:=z.o.blk.frozen 8;have Y:=kp (show Rs w N O 43 e0 _ (StV.cells ⟨p,b,.slice c b.length c11⟩) (F.setCell ⟨w.heap.size+1,8,none⟩ (.slice c b.length c11)) from z.o.put 8 (.slice c b.length c11));have T:=k'2 (U.o.h.few (show cR p.x=true from by rw[K.o]; exact Ux g.o)) (yB (P:=fun _=>True) (fun _ _ _ _=>trivial) E y0 b e0 q.o).2;have hL:=Y.o.blk.load (P:=prog) (k:=9) rfl;have G:=kp (yF ⟨p,b,.slice c b.length c11⟩ ps _ _ U.o.st (aN _) (by have:=T.a.1; omega) (aB (show p.x.free.length≤256 from T.a.2) (by omega)) (by have:=T.B; have:=m.o; show b.length≤_; omega))
 cases hst:stB ⟨D,b⟩ with
 |false=>
  have V:=kp hst;rw[show stB (StV.x ⟨p,b,.slice c b.length c11⟩)=false from by rw[show StV.x ⟨p,b,.slice c b.length c11⟩=⟨D,b⟩ from by show (⟨p.x,b⟩:St)=_; rw[K.o]]; exact hst]at G;go_wp2_with fail;refine mb' (G.o) fun z0 Q=>?_;rw[show dG 60 false=60 from rfl];have a1:=kp Q;go_wp2_with fail;refine (HF.o _).mono ?_;rintro e e3 ⟨rfl,rfl⟩;exact⟨rfl,lS.none (by unfold stP; rw[aK f.o,d.a,g.o,d.B]; simp only[]; rw[y.o]; simp only[]; rw[aF m.o,gS,q.o]; simp only[]; rw[aF (by rw[V.o]; decide)]) (Y.o.chg.then a1.o)⟩
 |true=>
  have V:=kp hst;rw[show stB (StV.x ⟨p,b,.slice c b.length c11⟩)=true from by rw[show StV.x ⟨p,b,.slice c b.length c11⟩=⟨D,b⟩ from by show (⟨p.x,b⟩:St)=_; rw[K.o]]; exact hst]at G;go_wp2_with fail;refine mb' (G.o) fun z0 Q=>?_;rw[show dG 60 true=0 from rfl];have M:=kp (Y.o.grow Q);have j0:=kp (U.o.below Q);go_wp2_with fail;refine mb' (HT.o _) fun w' b0=>?_;obtain rfl:=b0.symm;have hL:=M.o.blk.load (P:=prog) (k:=9) rfl;have hS:=M.o.res.store (P:=prog) (cs':=StV.cells ⟨p,b,.slice c b.length c11⟩) rfl (StV.one j0.o.st);have H:=k'2 (M.o.fin (StV.cells ⟨p,b,.slice c b.length c11⟩)) (j0.o.chg M.o.res ((Chg.refl (fun i=>i=w.heap.size) z0).setRow (.inr rfl) (StV.cells ⟨p,b,.slice c b.length c11⟩).toArray) (by decide) (by decide) (by decide) (by decide));go_wp2_with fail;have hR:=H.a.1.load (P:=prog) (k:=9) rfl;exact bI (v:=.agg (StV.cells ⟨p,b,.slice c b.length c11⟩).toArray) (by simp[results,results130,go_sem,hR]) rfl (lS.some (p:=⟨p,b,.slice c b.length c11⟩) (r:=e0) (by unfold stP; rw[aK f.o,d.a,g.o,d.B]; simp only[]; rw[y.o]; simp only[]; rw[aF m.o,gS,q.o]; simp only[]; rw[aK V.o,show StV.x ⟨p,b,.slice c b.length c11⟩=⟨D,b⟩ from by show (⟨p.x,b⟩:St)=_; rw[K.o]]) H.a.2.2 H.B H.a.2.1)
end
section
attribute [-go_sem] loadCellsFrom storeCells
attribute [local go_sem] aX
def mY:St:=⟨lA,[]⟩
theorem Sv.no(w:World)(base:Nat):Sv w base ⟨⟨lA,.slice none 0 0,.slice none 0 0⟩,[],.slice none 0 0⟩ []:=⟨Hv.no _ _,Ow.nil _ _ _ _ _⟩
theorem Uz:∀u∈(z'2:List Value),u.oneCell'=true:=StV.one (p:=⟨⟨lA,.slice none 0 0,.slice none 0 0⟩,[],.slice none 0 0⟩) (Sv.no default 0).st
theorem Ir(d b a:Nat)(xs:List Value)(c:Int)(u:TypeId)(h:Value)(g:List PanicEntry)(w:World)(o:Blk w d 43 z'2)(r:Blk w b 43 xs)(m:Blk w a 30 [.i c])(n:xs.length=9)(p:a≠b):
  CallsD prog 177 #[.pointer (some ⟨d,0,none⟩),.pointer (some ⟨b,0,none⟩),.pointer (some ⟨a,0,none⟩)] (.panicking ({v:=.iface u h,recovered:=false}::g)) w fun e s x=>
   e=.returned (.tuple #[])∧s=.panicking ({v:=.iface u h,recovered:=true}::g)∧x=(w.setRow b z'2a).setCell ⟨a,0,none⟩ (.i 60):=by
 have j:=o.load (P:=prog) (k:=9) rfl;have l:=r.store (P:=prog) (cs':=z'2) (by rw[n]; rfl) Uz;have f:=m.other p (List.toArray z'2);have c2:=f.cell 0;have i:=f.frozen 0;simp only[aP]at c2;refine callsD_of_wpS func177 rfl fun z y q=>?_;apply wpS_seq;apply wpS_region;simp[wpOpsS,go_sem,recoverD,q,ntmps177,Exit.thenS];apply wpS_seq;apply wpS_region;simp[wpOpsS,go_sem,Exit.thenS];refine wpS_cond (t:=true) (by simp[Act.eval,Array.replicate]) ?_;simp only[if_true];apply wpS_region;simp[wpOpsS,go_sem,j,l,c2,i,bodyPostS,results,results177]
theorem Vb(a b c:Value)(w:World):
  CallsD prog 177 #[a,b,c] .returning w fun e g h=>e=.returned (.tuple #[])∧g=.returning∧h=w:=by
 refine callsD_of_wpS func177 rfl fun d i f=>?_;apply wpS_seq;apply wpS_region;simp[wpOpsS,go_sem,recoverD,f,ntmps177,Exit.thenS];apply wpS_seq;apply wpS_region;simp[wpOpsS,go_sem,Exit.thenS];refine wpS_cond (t:=false) (by simp[Act.eval,Array.replicate]) ?_;simp only[tL,if_false];refine wpS_of_wp (wp_skip ?_)
 cases d
 simp_all [bodyPostS,results,results177]
def oC(w:World)(o:Option St)(e:Ending)(w':World):Prop:=
 ∃p ps,e=.returned (.tuple #[.agg p.cells.toArray,.i (if o.isSome then 0 else 60)])∧p.x=o.getD mY∧Sv w' w.heap.size p ps∧Bw' w w'
structure WhS(w:World)(xs:List Value)(c:Int)(W:World):Prop where
 x:Blk W w.heap.size 43 xs
 e:Blk W (w.heap.size+1) 30 [.i c]
 n:Blk W (w.heap.size+1+1) 43 z'2
 b:Bw' w W
section
variable {w W W':World}{xs:List Value}{c:Int}
theorem WhS.new(w:World):WhS w z'2 0 (((w.alloc (.cells z'2a 43)).alloc (.cells #[.i 0] 30)).alloc (.cells z'2a 43)):=by
 have a:=ba' w (.cells z'2a 43);have b:=Blk.new w 43 z'2;have c:=Blk.new (w.alloc (.cells z'2a 43)) 30 [.i 0];have d:=Blk.new ((w.alloc (.cells z'2a 43)).alloc (.cells #[.i 0] 30)) 43 z'2;exact⟨(b.alloc _).alloc _,(by simpa using c.alloc _),(by simpa using d),((a.alloc (by simp) _).alloc (by simp; omega) _)⟩
theorem WhS.grow(h:WhS w xs c W)(a:Bw' W W'):WhS w xs c W':=⟨h.x.below a h.x.lt,h.e.below a h.e.lt,h.n.below a h.n.lt,h.b.on a⟩
theorem WhS.chg{g:Nat}(h:WhS w xs c W)(a:Chg (fun i=>i=g) W W')(d:w.heap.size+1+1<g):WhS w xs c W':=⟨h.x.chg a (by omega),h.e.chg a (by omega),h.n.chg a (by omega),h.b.trans (a.below (fun i f=>by omega) h.b.size)⟩
theorem WhS.put(h:WhS w xs c W)(a:List Value):WhS w a c (W.setRow w.heap.size a.toArray):=⟨h.x.set a,h.e.other (by omega) _,h.n.other (by omega) _,eU h.b (aN _) _⟩
theorem WhS.err(h:WhS w xs c W)(d:Int):WhS w xs d (W.setCell ⟨w.heap.size+1,0,none⟩ (.i d)):=⟨h.x.otherCell (by omega) _ _,h.e.setCell 0 _,h.n.otherCell (by omega) _ _,h.b.setCell (p:=⟨w.heap.size+1,0,none⟩) (by simp only; omega) _⟩
end
theorem oC.no{w a:World}{o:Option St}(c:o=none)(b:Bw' w a):oC w o (.returned (.tuple #[.agg z'2a,.i 60])) a:=by
 subst c;exact⟨⟨⟨lA,.slice none 0 0,.slice none 0 0⟩,[],.slice none 0 0⟩,[],rfl,rfl,Sv.no _ _,b⟩
theorem oC.yes{w a:World}{o:Option St}{p:StV}{b:List ObV}(d:o=some p.x)(e:Sv a w.heap.size p b)(c:Bw' w a):oC w o (.returned (.tuple #[.agg p.cells.toArray,.i 0])) a:=by
 subst d;exact⟨p,b,rfl,rfl,e,c⟩
theorem Vc(A:Option Addr)(n c B:Nat)(l:List UInt8)(w:World)(hr:Rd w B A (bv l))(U:B≤w.heap.size)(hl:l.length=n)(hc:n≤c)(hm:c≤maxLen):
  Calls prog 129 #[.slice A n c,.func (.func 130) #[] #[]] w (oC w (dX l)):=by
 have l1:∀(T:Fn)(first cap:Array Value)(w:World),(Instr.makeFunc T first cap).run prog w=.ok (.func T first cap) w:=fun _ _ _ _=>rfl;have HT:=kp qN;have Z:=kp qO;have y:=kp (WhS.new w);have HR:=kp (Em A n c l _ (((hr.below y.o.b U).more (aB U y.o.b.size))) hl hc hm)
 go_enter_defers func129,ntmps129
 go_wp2_with fail;refine (HR.o).mono ?_;rintro e q ⟨g,rfl,y0,K,p0⟩;have K4:=kp (y.o.grow p0);have F:=kp (show w.heap.size+1+1<g from cY y.o.n.lt y0);have S:=ba' q (.cells #[.pointer (some ⟨g,0,none⟩)] 219);have n5:=Blk.new q 219 [.pointer (some ⟨g,0,none⟩)];have I:=kp (K4.o.grow S);have HI:=kp (show bX (q.alloc (.cells #[.pointer (some ⟨g,0,none⟩)] 219)) q.heap.size g l from⟨n5,K.below S,by have:=K.lt; omega⟩);have s:=kp (Uy HI.o);have a0:=kp (show g<q.heap.size from K.lt)
 cases hp:stP l with
 |none=>
  rw[hp]at s;have H:=kp (show dX l=none by rw[Ci,hp]);go_wp2_with fail;refine (s.o).mono ?_;rintro e E ⟨J,rfl⟩;have h:=kp (I.o.chg J F.o);refine leaves_cons (f:=177) (args:=#[.pointer (some ⟨w.heap.size+1+1,0,none⟩),.pointer (some ⟨w.heap.size,0,none⟩),.pointer (some ⟨w.heap.size+1,0,none⟩)]) (by simp) (by simp[go_sem]) ?_;refine (Ir _ _ _ _ 0 _ _ [] _ h.o.n h.o.x h.o.e rfl (by omega)).mono ?_;rintro e X Y ⟨rfl,rfl,rfl⟩;have d:=(h.o.put z'2).err 60;have C:=d.x.load (P:=prog) (k:=9) rfl;have j:=d.e.cell 0;have G:=oC.no H.o d.b;simp only[aP]at j;simp[Leaves,settle,results,results129,go_sem,C,j,G]
 |some p=>
  obtain⟨hh,r⟩:=p;rw[hp]at s;have Q:=kp hp;go_wp2_with fail;refine (s.o).mono ?_;rintro e E ⟨J,p,ps,rfl,d1,W,V⟩;have h:=kp (I.o.chg J F.o);have hS:=h.o.x.store (P:=prog) (cs':=p.cells) rfl (StV.one W.st);have d:=kp (h.o.put p.cells);obtain⟨N,D,c',z0,-,b1,-,-⟩:=V.rd;have a1:=I.o.b;have g1:=F.o;have j1:=a0.o;have d0:=kp ((show Blk E g 276 [.slice N D c'] from z0).other (g':=w.heap.size) (by omega) p.cells.toArray);have q0:=(V.blk.other (g':=w.heap.size) (by omega) p.cells.toArray).cell 0;simp only[aP]at q0;have O:=kp b1;have R:=kp ((W.mono a1.size).chg h.o.x ((Chg.refl (fun i=>i=w.heap.size) E).setRow (.inr rfl) p.cells.toArray) (by decide) (by decide) (by decide) (by decide));have b0:=kp d1;go_wp2_with fail;generalize E.setRow w.heap.size p.cells.toArray=W7 at *;go_wp2_with fail;refine mb' (Ip g N D c' _ d0.o) fun w' M=>?_;obtain rfl:=M.symm
  by_cases L:D=0
  .subst L;obtain rfl:r=[]:=iY O.o;have l0:=kp (show dX l=some hh by rw[Ci,Q.o]);go_wp2_with fail;refine mb' (HT.o _) fun w' M=>?_;obtain rfl:=M.symm;have C:=d.o.x.load (P:=prog) (k:=9) rfl;have hS:=d.o.x.store (P:=prog) (cs':=p.cells) rfl (StV.one R.o.st);have z:=kp (d.o.put p.cells);have e0:=kp (R.o.chg d.o.x ((Chg.refl (fun i=>i=w.heap.size) W7).setRow (.inr rfl) p.cells.toArray) (by decide) (by decide) (by decide) (by decide));have z8:=z.o.e.cell 0;have y8:=z.o.e.frozen 0;simp only[aP]at z8;have m:=kp (z.o.err 0);have j0:=kp (e0.o.chg z.o.e ((Chg.refl (fun i=>i=w.heap.size+1) _).setCell (.inr rfl) 0 (.i 0)) (by decide) (by decide) (by decide) (by decide));go_wp2_with fail;refine leaves_cons (f:=177) (args:=#[.pointer (some ⟨w.heap.size+1+1,0,none⟩),.pointer (some ⟨w.heap.size,0,none⟩),.pointer (some ⟨w.heap.size+1,0,none⟩)]) (by simp) (by simp[go_sem]) ?_;refine (Vb _ _ _ _).mono ?_;rintro e X Y ⟨rfl,rfl,rfl⟩;have o0:=m.o.x.load (P:=prog) (k:=9) rfl;have j:=m.o.e.cell 0;have m0:=oC.yes (o:=dX l) (p:=p) (by rw[l0.o,b0.o]) j0.o m.o.b;simp only[aP]at j;simp[Leaves,settle,results,results129,go_sem,o0,j,m0]
  .have g0:((D:Int)==0)=false:=by simpa using L
   have H:=kp (show dX l=none by
    rw[Ci,Q.o]
    cases r with
    |nil=>exact absurd O.o.symm L
    |cons a r=>rfl)
   go_wp2_with fail;refine (Z.o _).mono ?_;rintro e w8 ⟨rfl,rfl⟩;refine leaves_cons (f:=177) (args:=#[.pointer (some ⟨w.heap.size+1+1,0,none⟩),.pointer (some ⟨w.heap.size,0,none⟩),.pointer (some ⟨w.heap.size+1,0,none⟩)]) (by simp) (by simp[go_sem]) ?_;refine (Ir _ _ _ _ 0 _ _ [] _ d.o.n d.o.x d.o.e rfl (by omega)).mono ?_;rintro e X Y ⟨rfl,rfl,rfl⟩;have m:=(d.o.put z'2).err 60;have C:=m.x.load (P:=prog) (k:=9) rfl;have j:=m.e.cell 0;have G:=oC.no H.o m.b;simp only[aP]at j;simp[Leaves,settle,results,results129,go_sem,C,j,G]
theorem yG(A:Option Addr)(n c B:Nat)(l:List UInt8)(w:World)(I:Rd w B A (bv l))(h:B≤w.heap.size)(F:l.length=n)(E:n≤c)(G:c≤maxLen):
  Calls prog 78 #[.slice A n c] w (oC w (dX l)):=by
 have d:=ba' w (.cells z'2a 43);have L:=Blk.new w 43 z'2;have z:=kp (Vc A n c B l _ (I.below d h) (aB h d.size) F E G);have b:=k'2 d L;go_enter func78,ntmps78;go_wp2_with fail;refine (z.o).mono ?_;rintro e K ⟨p,J,rfl,H,q,j⟩;obtain⟨f,m⟩:∃f:Int,(if (dX l).isSome=true then (0:Int) else 60)=f:=⟨_,rfl⟩
 rw[m];have s:=kp m;have g:=b.B.below j b.B.lt;have M:=g.store (P:=prog) (cs':=p.cells) rfl (StV.one q.st);have r:=kp (eU (b.a.on j) (aN _) p.cells.toArray);have y:=kp ((q.mono (base2:=w.heap.size) (by simp)).chg g ((Chg.refl (fun i=>i=w.heap.size) K).setRow (.inr rfl) p.cells.toArray) (by decide) (by decide) (by decide) (by decide));have C:=kp (g.set p.cells);have x:=kp H;go_wp2_with fail;have D:=C.o.load (P:=prog) (k:=9) rfl;exact bI (v:=.tuple #[.agg p.cells.toArray,.i f]) (by simp[results,results78,go_sem,D]) rfl ⟨p,J,by rw[s.o],x.o,y.o,r.o⟩
end
section
attribute [-go_sem] loadCellsFrom storeCells
attribute [local go_sem] aX
theorem Cj(a v:Int)(l:List En)(k:Nat)(b:k<l.length):vwB a v (l.drop k)=(dQ l[k]&&(aG (l[k]).v v a&&vwB a (l[k]).v (l.drop (k+1)))):=by
 rw[iF b];rfl
theorem Vd{P:Program}{a:Act}{w:World}{Q:Exit→Act→World→Prop}{c b:Code}(l:Nat)(f:findLabel c l=some b)(first:c.wp P (Exit.jump l (fun a w=>b.wp P (Exit.noGoto Q) a w) Q) a w):(Code.scope c).wp P Q a w:=by
 refine wp_scope_jumps l (fun a w=>b.wp P (Exit.noGoto Q) a w) (fun _ _=>0) f first fun a w h=>wp_mono h fun e a w d=>?_
 cases e<;>first |exact d|exact d.elim
theorem Exit.jump_ret{l:Nat}{J:Act→World→Prop}{Q:Exit→Act→World→Prop}{a:Act}{w:World}:Exit.jump l J Q .ret a w=Q .ret a w:=rfl
attribute [local go_sem] Exit.jump_ret
theorem Exit.jump_normal{l:Nat}{J:Act→World→Prop}{Q:Exit→Act→World→Prop}{a:Act}{w:World}:Exit.jump l J Q .normal a w=Q .normal a w:=rfl
attribute [local go_sem] Exit.jump_normal
theorem Exit.jump_exit{l n:Nat}{J:Act→World→Prop}{Q:Exit→Act→World→Prop}{a:Act}{w:World}:Exit.jump l J Q (.exit n) a w=Q (.exit n) a w:=rfl
attribute [local go_sem] Exit.jump_exit
theorem Ve(k:Kd):(aG k.view 0 900000000=false∧dY k=false)∨(aG k.view 0 900000000=true∧aG k.normal 0 k.view=false∧dY k=false)∨
  (aG k.view 0 900000000=true∧aG k.normal 0 k.view=true∧aG k.base 0 900000000=false∧dY k=false)∨
  (aG k.view 0 900000000=true∧aG k.normal 0 k.view=true∧aG k.base 0 900000000=true∧¬(k.es.length:Int)≤4000∧dY k=false)∨
  (aG k.view 0 900000000=true∧aG k.normal 0 k.view=true∧aG k.base 0 900000000=true∧(k.es.length:Int)≤4000∧eO k.base k.es=false∧dY k=false)∨
  (aG k.view 0 900000000=true∧aG k.normal 0 k.view=true∧aG k.base 0 900000000=true∧(k.es.length:Int)≤4000∧eO k.base k.es=true∧dY k=(vwB k.normal 0 k.es&&(dX (kZ k.image)).isSome)):=by
 unfold dY qH
 cases aG k.view 0 900000000
 .exact .inl ⟨rfl,rfl⟩
 cases aG k.normal 0 k.view
 .exact .inr (.inl ⟨rfl,rfl,rfl⟩)
 cases aG k.base 0 900000000
 .exact .inr (.inr (.inl ⟨rfl,rfl,rfl,rfl⟩))
 by_cases a:(k.es.length:Int)≤4000
 .cases eO k.base k.es
  .exact .inr (.inr (.inr (.inr (.inl ⟨rfl,rfl,rfl,a,rfl,by simp⟩))))
  .exact .inr (.inr (.inr (.inr (.inr ⟨rfl,rfl,rfl,a,rfl,by simp[a]⟩))))
 .exact .inr (.inr (.inr (.inl ⟨rfl,rfl,rfl,a,by simp[a]⟩)))
theorem pI(p:KpV)(B:Nat)(w:World)(h:kJ w B p)(hB:B≤w.heap.size)(hn:p.es.length≤1000000)(hr:KdR p.x)(hi:p.image.size≤maxLen):
  Calls prog 81 #[.agg p.cells.toArray] w fun e w'=>e=.returned (.i (dG 1 (dY p.x)))∧Bw' w w':=by
 obtain⟨R,hR⟩:=nm' (dY p.x);rw[hR];have M:=ba' w (.cells p.cells.toArray 35);have J:=Blk.new w 35 p.cells;obtain⟨W1,d1⟩:=nm' (w.alloc (.cells p.cells.toArray 35));rw[d1]at M J;have y:=k'2 M (aB hB M.size);have L:=kp J;have Z:=kp (Sl.below h M hB);have HI:=kp hi;have z0:=kp hr;have k0:=J.cell 0;have V:=J.cell 1;have k2:=J.cell 2;have Q:=J.cell 4;change _=some (Value.i p.view)at k0;change _=some (Value.i p.normal)at V;change _=some (Value.i p.base)at k2;obtain⟨A,c,I,-,-,-⟩:=h;obtain⟨n,U⟩:=nm' p.es.length;rw[U]at I hn;rw[show p.cells[4]? =some p.ev from rfl,I]at Q;have D:=k'2 I U;have g:=kp cK.2.1;have d0:=Ve p.x;rw[hR,show (p.x.es.length:Int)=(n:Int) from by rw[show p.x.es=p.es from rfl,U]]at d0;clear M J I U hB hi hr hR;simp only[KpV.x]at d0;have HX:=kp (show p.x=⟨p.view,p.normal,p.base,p.image,p.es⟩ from rfl);go_enter func81,ntmps81;go_wp2_with fail;refine Vd 0 rfl ?_;rcases d0 with⟨f,rfl⟩|⟨f,m,rfl⟩|⟨f,m,j,rfl⟩|⟨f,m,j,h4,rfl⟩|⟨f,m,j,h4,N,rfl⟩|⟨f,m,j,h4,N,h6⟩
 .have s:=kp (fun W=>by have:=g.o p.view 0 900000000 W; rw[f]at this; exact this);clear f;go_wp2_with fail;refine ms' (s.o _) ?_;go_wp2_with fail;apply wp_goto;refine⟨rfl,?_⟩;go_wp2_with fail;rw[Exit.noGoto_ret];go_ret;exact⟨rfl,y.a⟩
 .have s:=kp (fun W=>by have:=g.o p.view 0 900000000 W; rw[f]at this; exact this);have C:=kp (fun W=>by have:=g.o p.normal 0 p.view W; rw[m]at this; exact this);clear f m;go_wp2_with fail;refine ms' (s.o _) ?_;go_wp2_with fail;refine ms' (C.o _) ?_;go_wp2_with fail;apply wp_goto;refine⟨rfl,?_⟩;go_wp2_with fail;rw[Exit.noGoto_ret];go_ret;exact⟨rfl,y.a⟩
 .have s:=kp (fun W=>by have:=g.o p.view 0 900000000 W; rw[f]at this; exact this);have C:=kp (fun W=>by have:=g.o p.normal 0 p.view W; rw[m]at this; exact this);have G:=kp (fun W=>by have:=g.o p.base 0 900000000 W; rw[j]at this; exact this);clear f m j;go_wp2_with fail;refine ms' (s.o _) ?_;go_wp2_with fail;refine ms' (C.o _) ?_;go_wp2_with fail;refine ms' (G.o _) ?_;go_wp2_with fail;apply wp_goto;refine⟨rfl,?_⟩;go_wp2_with fail;rw[Exit.noGoto_ret];go_ret;exact⟨rfl,y.a⟩
 .have s:=kp (fun W=>by have:=g.o p.view 0 900000000 W; rw[f]at this; exact this);have C:=kp (fun W=>by have:=g.o p.normal 0 p.view W; rw[m]at this; exact this);have G:=kp (fun W=>by have:=g.o p.base 0 900000000 W; rw[j]at this; exact this);clear f m j;go_wp2_with fail;refine ms' (s.o _) ?_;go_wp2_with fail;refine ms' (C.o _) ?_;go_wp2_with fail;refine ms' (G.o _) ?_;go_wp2_with fail;apply wp_goto;refine⟨rfl,?_⟩;go_wp2_with fail;rw[Exit.noGoto_ret];go_ret;exact⟨rfl,y.a⟩
 .have s:=kp (fun W=>by have:=g.o p.view 0 900000000 W; rw[f]at this; exact this);have C:=kp (fun W=>by have:=g.o p.normal 0 p.view W; rw[m]at this; exact this);have l:0≤p.base∧p.base≤900000000:=by unfold aG at j; simpa using j
  have G:=kp (fun W=>by have:=g.o p.base 0 900000000 W; rw[j]at this; exact this);have Y:=kp (by have:=uV.1 p.ev p.es p.base B W1 Z.o y.B (by have:=D.B; omega) (fun e he=>(z0.o e he).1) l.1 l.2; rw[N,D.a]at this; exact this);clear f m j l N;go_wp2_with fail;refine ms' (s.o _) ?_;go_wp2_with fail;refine ms' (C.o _) ?_;go_wp2_with fail;refine ms' (G.o _) ?_;go_wp2_with fail;refine mb' (Y.o) fun w3 l=>?_;have S:=kp (y.a.on l);clear l;go_wp2_with fail;apply wp_goto;refine⟨rfl,?_⟩;go_wp2_with fail;rw[Exit.noGoto_ret];go_ret;exact⟨rfl,S.o⟩
 .have s:=kp (fun W=>by have:=g.o p.view 0 900000000 W; rw[f]at this; exact this);have C:=kp (fun W=>by have:=g.o p.normal 0 p.view W; rw[m]at this; exact this);have l:0≤p.base∧p.base≤900000000:=by unfold aG at j; simpa using j
  have G:=kp (fun W=>by have:=g.o p.base 0 900000000 W; rw[j]at this; exact this);have Y:=kp (by have:=uV.1 p.ev p.es p.base B W1 Z.o y.B (by have:=D.B; omega) (fun e he=>(z0.o e he).1) l.1 l.2; rw[N,D.a]at this; exact this);obtain⟨rv,j0⟩:=nm' (vwB p.normal 0 p.es);rw[j0]at h6;have T:=k'2 j0 h6;clear f m j l N h6 j0;go_wp2_with fail;refine ms' (s.o _) ?_;go_wp2_with fail;refine ms' (C.o _) ?_;go_wp2_with fail;refine ms' (G.o _) ?_;go_wp2_with fail;refine mb' (Y.o) fun w3 l=>?_;have S:=k'2 l (y.a.on l);clear k0 V k2 Q;have Q:=(L.o.below l L.o.lt).cell 4;rw[show p.cells[4]? =some p.ev from rfl,D.a]at Q;clear l d1;go_wp2_with fail;clear Q;have HZ:=kp (show (z'3:List Value).length=11 from rfl)
  go_loopw [3,43] (fun v i wr=>∃k:Nat,k≤n∧i=.i k∧∃z:Int,v=.i z∧vwB p.normal z (p.es.drop k)=rv∧Bw' w wr∧Bw' W1 wr) (fun _ i _=>n-(intOf i).toNat)
  case atStart=>exact⟨0,by omega,rfl,0,rfl,T.a,S.B,S.a⟩
  case round=>
   obtain⟨k,hk,rfl,z,rfl,hf,l1,m1⟩:=hrel;have HF:=kp hf;have r:=k'2 l1 m1;clear hf l1 m1
   by_cases z2:k<n
   .have g3:(k:Int)<(n:Int):=by omega
    have g0:k<p.es.length:=by have:=D.B; omega
    have b2:=(Z.o.below r.B y.B)
    have j2:=kp b2;clear b2;obtain⟨A2,c2,d2,z1,-,-⟩:=j2.o;obtain⟨b,a3,hA,-,o2,o1⟩:=iS (P:=prog) 11 En.cells eM (by omega) z1 k g0;have m2:A2=A:=by have:=D.a; rw[d2]at this; cases this; rfl
    subst m2;subst hA;have q0:=o1 0;change Sem.run _ _ wr=.ok _ wr at q0;have HT:=kp (Cj p.normal z p.es k g0);clear o2 o1 d2 z1;generalize p.es[k]'g0=x at *;have nz:=Blk.new wr 122 z'3;have g2:=nz.store (P:=prog) (cs':=x.cells) rfl (kV x);have nb:=nz.set x.cells;have m0:=(((eU (ba' wr (.cells z'3a 122)) (aN _) x.cells.toArray)))
    have NB:=kp nb;have X:=k'2 (r.a.on m0) (r.B.on m0);have l0:=nb.load (P:=prog) (k:=11) rfl;clear nb nz m0;have HM:=kp (fun W=>xU x W);have a0:=kp (HT.o.symm.trans HF.o);clear g3;have g3:(k:Int)<(n:Int):=by omega
    cases hm:dQ x
    .go_wp2_with fail;clear q0 g2 l0;refine (HM.o _).mono ?_;rw[hm];rintro e w4 ⟨rfl,H⟩;have K:=kp (X.a.trans (H.mono (aB r.a.size (by simp))));clear H;go_wp2_with fail;apply wp_goto;refine⟨rfl,?_⟩;go_wp2_with fail;rw[Exit.noGoto_ret];go_ret;exact⟨by rw[T.B,←a0.o,hm]; rfl,K.o⟩
    .go_wp2_with fail;clear q0 g2 l0;refine (HM.o _).mono ?_;rw[hm];rintro e w4 ⟨rfl,H⟩;have K:=k'2 (X.a.trans (H.mono (aB r.a.size (by simp)))) (X.B.trans (H.mono (aB r.B.size (by simp))));have V:=(L.o.below K.B L.o.lt).cell 1;change _=some (Value.i p.normal)at V;have l2:=kp (NB.o.below H NB.o.lt);have j1:=l2.o.cell 1;change _=some (Value.i x.v)at j1;clear H;have y0:=kp hm;clear hm;have a1:=kp (fun W=>g.o x.v z p.normal W)
     cases hwi:aG x.v z p.normal
     .go_wp2_with fail;refine (a1.o _).mono ?_;rw[hwi];rintro e w' ⟨rfl,O⟩;obtain rfl:=O.symm;clear O;have b0:=kp hwi;clear hwi;go_wp2_with fail;apply wp_goto;refine⟨rfl,?_⟩;go_wp2_with fail;rw[Exit.noGoto_ret];go_ret;exact⟨by rw[T.B,←a0.o,y0.o,b0.o]; rfl,K.a⟩
     .go_wp2_with fail;refine (a1.o _).mono ?_;rw[hwi];rintro e w' ⟨rfl,O⟩;obtain rfl:=O.symm;clear O;have b0:=kp hwi;clear hwi;go_wp2_with fail;go_roundw
      case rel=>exact⟨k+1,by omega,by go_num,x.v,rfl,by rw[←a0.o,y0.o,b0.o]; rfl,K.a,K.B⟩
      case measure=>simp[intOf]; omega
   .obtain rfl:k=n:=by omega
    have q2:rv=true:=by
     have:=HF.o;rw[aCi.2 (by have:=D.B; omega)]at this;exact this.symm
    subst q2;have k3:=(L.o.below r.B L.o.lt).cell 3;change _=some (Value.string p.image)at k3;obtain⟨c6,W6,p2,g1,y1,a2,q1,p1⟩:=vB wr p.image HI.o;have F:=k'5 g1 y1 a2 q1 p1;clear g1 y1 a2 q1 p1;go_wp2_with fail;clear k3 p2;refine (yG _ _ _ _ p.image.data.toList W6 F.b F.c (pH _) F.d F.E).mono ?_;rintro e w7 ⟨q,qs,rfl,y2,I,e0⟩;obtain⟨o,ho⟩:=nm' ((dX p.image.data.toList).isSome);rw[ho];have HO:=kp ho;clear ho y2;have n0:=Blk.new w7 43 z'2;have hS:=n0.store (P:=prog) (cs':=q.cells) rfl (StV.one I.st);have o0:=kp (r.a.trans ((F.a.mono r.a.size).trans ((e0.mono (aB r.a.size F.a.size)).trans (eU (ba' w7 (.cells z'2a 43)) (aN _) q.cells.toArray|>.mono (aB r.a.size (aB F.a.size e0.size))))));clear n0 I e0;have HE:dG 1 R=if o then 0 else 1:=by rw[T.B,show kZ p.image=p.image.data.toList from rfl,HO.o]; cases o<;>rfl
    have p0:=kp HE;clear HE
    cases o
    .simp only[tL,if_false];go_wp2_with fail;apply wp_label;go_wp2_with fail;rw[Exit.jump_ret];go_ret;exact⟨by rw[p0.o]; rfl,o0.o⟩
    .simp only[if_true];go_wp2_with fail;rw[Exit.jump_ret];go_ret;exact⟨by rw[p0.o]; rfl,o0.o⟩
end
section

end
section

end
section
attribute [-go_sem] loadCellsFrom storeCells
attribute [local go_sem] aX
section
variable {w w' W W':World}{g B:Nat}{l:List UInt8}{b:Bool}
end
section
variable {w W W':World}{g:Nat}{t:TypeId}{l l':List UInt8}{b b':Bool}{zs cs:List Value}
end
end
section

end
section

end
section
attribute [-go_sem] loadCellsFrom storeCells
attribute [local go_sem] aX
section
variable {w W W':World}{l l':List UInt8}{b b':Bool}{cs:List Value}
end
theorem Rws.grown{α:Type}{enc:α→List Value}{k base:Nat}{t:TypeId}{v:Value}{xs:List α}{W W':World}{base2:Nat}{e:List ObV}(b:Ow W base t k v enc xs)(h:Rws W base2 e)(c:t≠3)(a:W.grownBy W' v.ownBlock):Rws W' base2 e:=
 ⟨fun z d=>⟨b.other (h.row z d).1 c a,b.other (h.row z d).2 c a⟩,h.sep⟩
end
section

end
section
attribute [-go_sem] loadCellsFrom storeCells
attribute [local go_sem] aX
section
variable {w W W':World}{g sb:Nat}{l l':List UInt8}{b b':Bool}{cs:List Value}
end
section
variable {w wr W W':World}{g sb:Nat}{l l':List UInt8}{b b':Bool}{cs rc:List Value}
end
theorem Hv.row{w W':World}{base base2 k:Nat}{p:HpV}{f:List ObV}{v:Value}{xs:List Rw}(h:Hv w base p f)(b:Ow w base2 141 k v Rw.cells xs)(a:w.grownBy W' v.ownBlock):Hv W' base p f:=
 ⟨b.other h.obs (by decide) a,Rws.grown b h.rws (by decide) a,h.eq,aM.chg h.free (eX a) fun i j e=>by
  obtain⟨c,g⟩:=aM.tag h.free j;obtain⟨c2,l,d⟩:=b.tag e;rw[g]at d
  cases d⟩
end
section
attribute [-go_sem] loadCellsFrom storeCells
attribute [local go_sem] aX
theorem Vf(v:Vo):(aG v.node 1 7=false∧lP v=false)∨(aG v.node 1 7=true∧aG v.normal 0 900000000=false∧lP v=false)∨
  (aG v.node 1 7=true∧aG v.normal 0 900000000=true∧aG v.base 0 900000000=false∧lP v=false)∨
  (aG v.node 1 7=true∧aG v.normal 0 900000000=true∧aG v.base 0 900000000=true∧¬(v.es.length:Int)≤4000∧lP v=false)∨
  (aG v.node 1 7=true∧aG v.normal 0 900000000=true∧aG v.base 0 900000000=true∧(v.es.length:Int)≤4000∧eO v.base v.es=false∧lP v=false)∨
  (aG v.node 1 7=true∧aG v.normal 0 900000000=true∧aG v.base 0 900000000=true∧(v.es.length:Int)≤4000∧eO v.base v.es=true∧lP v=(vwB v.normal 0 v.es&&(decide (v.number=v.base+v.es.length)&&aG v.commit v.base v.number))):=by
 unfold lP qH
 cases aG v.node 1 7
 .exact .inl ⟨rfl,rfl⟩
 cases aG v.normal 0 900000000
 .exact .inr (.inl ⟨rfl,rfl,rfl⟩)
 cases aG v.base 0 900000000
 .exact .inr (.inr (.inl ⟨rfl,rfl,rfl,rfl⟩))
 by_cases a:(v.es.length:Int)≤4000
 .cases eO v.base v.es
  .exact .inr (.inr (.inr (.inr (.inl ⟨rfl,rfl,rfl,a,rfl,by simp⟩))))
  .exact .inr (.inr (.inr (.inr (.inr ⟨rfl,rfl,rfl,a,rfl,by simp[a]⟩))))
 .exact .inr (.inr (.inr (.inl ⟨rfl,rfl,rfl,a,by simp[a]⟩)))
end
end Go.Proofs.YtoncgpddjmgbfaaGreat
