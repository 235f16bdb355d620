import Derived.Test.YthalbagblhkeaaaGreatZ26
import Derived.Test.YthalbagblhkeaaaGreatZ27
namespace Go.Proofs.YthalbagblhkeaaaGreat
open Go.RowKit Go.Proofs.Tryz
set_option maxRecDepth 100000
set_option maxHeartbeats 12800000
set_option linter.unusedVariables false
set_option linter.unusedSimpArgs false
section
attribute [-go_sem] loadCellsFrom storeCells run_eql_struct run_neq_struct
attribute [local go_sem] bC RcV.fold nW
def aBR(B:Nat)(p:KpV)(x:En)(z:Value)(W:World):Prop:=∃v,z=.tuple #[.agg (p.more v x).cells.toArray,.i 0]∧Ow W B 93 11 v En.cells (p.es++[x])
theorem aBR.stab(B:Nat)(p:KpV)(x:En):qE 24 (aBR B p x):=
 ⟨fun _ _ _ ⟨v,e,h⟩ b=>⟨v,e,h.below b⟩,fun _ W a _ cs' ⟨v,e,h⟩ c=>⟨v,e,h.chg_blk c ((Chg.refl (fun i=>i=a) W).setRow (.inr rfl) cs') (by decide)⟩⟩
theorem aDg{tl:List Value}{g base:Nat}(p:WkV)(ps:List ObV)(c:RcV)(w:World)(h:WkO w base g 79 tl p ps)(hm:Ow w base 93 11 c.ev En.cells c.es)(hn:p.rs.length<1000000)(j:base≤w.heap.size)(H:SvE p.r.k c):
  Calls prog 66 #[.pointer (some ⟨g,0,none⟩),.agg c.cells.toArray] w fun e w'=>e=.returned (.tuple #[])∧∃v v',WkO w' base g 79 tl ⟨p.r.kept (p.r.k.more v c.entry),p.rs++[c],v',p.ms,p.mv⟩ ps∧Chg (fun i=>i=g∨p.rv.ownBlock=some i) w w'∧(∀k,v'.ownBlock=some k→p.rv.ownBlock=some k∨w.heap.size≤k):=by
 obtain⟨E,j1,x1,b1,z1⟩:=par w 101 c.cells;have C:=k'4 (h.below b1) b1 x1 (hm.below b1);have J:=k'4 h.blk.lt (fun i T=>(h.rs.lt (i:=i) T).2) j hn;have HL:=kp (fun(W:World)(j:Bw' E W)=>(C.a.blk.grow j).loadOff (P:=prog) 2 5 p.r.k.cells rfl rfl);have HM:=kp (fun(W:World)(j:Bw' E W)=>aDf p.r.k c W W.heap.size ((C.a.rep.es.below j).sl eL) (aD _) H);clear x1 b1 z1 h hm hn j H;go_enter func66,ntmps66;go_wp2_with fail;have M:=kp (show Bw' E E.drew from bR (aL _ _));refine fR 12 (CAl E.drew 24 mY 46 [] (aBR E.drew.heap.size p.r.k c.entry) vY 6 7 8 10 1000 11) (fun _=>fK) (by kernel_rfl) (by kernel_rfl) CAl.start ?_
 iterate 6 (refine bO ?_; apply Exists.intro)
 iterate 3 (refine bS eM ?_)
 refine bS zH ?_
 iterate 2 (refine bS eM ?_)
 refine dR ⟨?_,?_⟩
 rotate_left
 .iterate 6
   apply Ug (by kernel_rfl) (by intro t w h; cases h; exact trivial) rfl
   .intro X W' d n A l f;have l1:=HL.o W' (M.o.on d.bel);have l2:=(C.c.grow (M.o.on d.bel)).load (P:=prog) (k:=17) rfl;go_wp2_with fail;exact⟨rfl,_,rfl,d.other (by decide),aV,rfl⟩
   simp only[Act.put,aN,aH,aI,aT,aW]
  refine⟨fun X W' d n A l f=>?_,fun u6=>?_⟩
  .go_wp2_with fail;refine (HM.o W' (M.o.on d.bel)).mono ?_;rintro e p1 ⟨v,rfl,s,e0⟩;have I:=d.doCall (aBR.stab _ _ _) n e0 ⟨v,rfl,s.mono d.bel.size⟩ (by decide);clear s e0;go_wp2_with fail;exact⟨rfl,_,rfl,I,aV,trivial⟩
  simp only[Act.put,aN,aH,aI,aT,aW];refine⟨fun X W' d n A l f=>?_,fun Y=>?_⟩
  .have O:X 6=some u6:=l 6 13 u6 (by kernel_rfl) (by kernel_rfl) (bT (by kernel_rfl)) rfl;go_wp2_with fail;exact⟨rfl,_,rfl,d.doMv O (by decide),aV,trivial⟩
  simp only[Act.put,aN,aH,aI,aT,aW];refine⟨fun X W' d n A l f=>?_,fun L=>?_⟩
  .have Q:X 7=some Y:=l 7 6 Y (by kernel_rfl) (by kernel_rfl) (bT (by kernel_rfl)) rfl;have O:=d.mv _ Q;obtain⟨v,rfl,-⟩:=d.call _ O;have I:=d.doExt n O ⟨_,rfl⟩ (by decide);clear O Q;go_wp2_with fail;exact⟨rfl,_,rfl,I,aV,trivial⟩
  simp only[Act.put,aN,aH,aI,aT,aW];refine⟨fun X W' d n A l f=>?_,fun u9=>?_⟩
  .have Q:X 7=some Y:=l 7 6 Y (by kernel_rfl) (by kernel_rfl) (bT (by kernel_rfl)) rfl;obtain⟨v,rfl,-⟩:=d.call _ (d.mv _ Q);clear Q;go_wp2_with fail;exact⟨rfl,_,rfl,d.other (by decide),aV,rfl⟩
  simp only[Act.put,aN,aH,aI,aT,aW];refine⟨fun X W' d n A l f=>?_,fun a0=>?_⟩
  .have I:=d.doAlloc (aBR.stab _ _ _) n (by decide);go_wp2_with fail;exact⟨rfl,_,rfl,I,aV,trivial⟩
  simp only[Act.put,aN,aH,aI,aT,aW];refine⟨fun X W' d n A l f=>?_,fun g1=>?_⟩
  .have h7:X 10=some a0:=l 10 4 a0 (by kernel_rfl) (by kernel_rfl) (bT (by kernel_rfl)) rfl;have h5:X 8=some L:=l 8 14 L (by kernel_rfl) (by kernel_rfl) (bT (by kernel_rfl)) rfl;obtain⟨u,U,y,F⟩:=d.ext _ h5;obtain⟨v,G,s⟩:=d.call _ U;rw[F]at G;obtain⟨rfl,-⟩:L=.agg (p.r.k.more v c.entry).cells.toArray∧y=.i 0:=by simpa using G
   obtain⟨a,cs,rfl,-⟩:=d.al _ h7;obtain⟨hk,I⟩:=d.doStore (u:=undef) (aBR.stab _ _ _) (by decide) n h7 h5 (by decide);have o1:=hk.store (P:=prog) (cs':=(p.r.k.more v c.entry).cells) rfl (mW (p:=p.r.k.more v c.entry) s.one);clear hk F G U h7 h5 s;go_wp2_with fail;exact⟨rfl,undef,rfl,I,aV,trivial⟩
  simp only[Act.put,aT,aW];intro W9 d f;have z:zH u9 W9:=f 15
  cases z;clear f;simp only[dO,dP];obtain⟨u,U,y,F⟩:=d.ext L rfl;obtain⟨v,G,s⟩:=d.call _ U;rw[F]at G;obtain⟨rfl,-⟩:L=.agg (p.r.k.more v c.entry).cells.toArray∧y=.i 0:=by simpa using G
  obtain⟨a,cs,rfl,q0,l0,-,g0⟩:=d.al a0 rfl;obtain rfl:(p.r.k.more v c.entry).cells=cs:=by have:=g0 g1 rfl; simpa using this
  have l9:=l0.load (P:=prog) (k:=5) rfl;have R:=M.o.on d.bel;have h9:=C.a.below R;have x9:=C.c.grow R;have m9:=C.D.below R;have hd:base≤E.drew.heap.size:=aB J.c (aB C.b.size M.o.size);obtain⟨d0,d1,K,c10⟩:=h9.keep (.inl rfl) (k:=p.r.k.more v c.entry) (s.mono hd);have b0:=x9.chg c10 (by have:=J.a; omega);have m0:=m9.chg_blk h9.blk c10 (by decide);obtain⟨k',j0⟩:=nm' (p.r.k.more v c.entry);rw[j0]at K d1 l9;have m:=k'4 K b0 m0 ((Chg.of_below (S:=fun i=>i=g) (C.b.on R)).trans c10 fun _ _ h=>h);have Z:=kp (fun W(d:Chg (fun i=>p.rv.ownBlock=some i) d0 W∧Ow W base 101 17 p.rv RcV.cells p.rs)=>jQ (K.blk.chg d.1 (K.rs.ne_blk K.blk (by decide))) (b0.chg d.1 fun T=>wH _ (J.b _ T)));have HE:=kp j0;clear d F G U q0 l0 g0 s R h9 x9 m9 hd K c10 b0 m0;go_wp2_with fail;refine kU 12 (fun W=>Chg (fun i=>p.rv.ownBlock=some i) d0 W∧Ow W base 101 17 p.rv RcV.cells p.rs) (kD 8 fun i=>p.rv.ownBlock=some i) (by kernel_rfl) (by kernel_rfl) ⟨(Chg.refl _ _).drew,m.a.rs.below (bR (aL _ _))⟩ ?_
  iterate 7 (refine bO ?_; apply Exists.intro)
  refine bS (fun u W=>∃b,u=.slice (some ⟨b,0,none⟩) 1 1∧(b<W.heap.size∧p.rv.ownBlock≠some b)∧Sl W (b+1) u RcV.cells [c]) ?_;refine bS (fun u W=>Ow W base 101 17 u RcV.cells (p.rs++[c])∧∀k,u.ownBlock=some k→p.rv.ownBlock=some k∨w.heap.size≤k) ?_
  iterate 3 (refine bO ?_; apply Exists.intro)
  refine dR ⟨?pers,?walk⟩
  case walk=>
   iterate 5
    apply Sz (by kernel_rfl) (by intro t w h; cases h; exact trivial) rfl
    .intro W d f; go_wp2_with fail;exact⟨rfl,_,rfl,d,fQ (by decide) (aL _ _),rfl⟩
    simp only[Act.put,aN,aH,aI]
   apply Sz (by kernel_rfl) (by intro t w h; cases h; exact trivial) rfl
   .intro W d f; have q:=(Z.o W d).1.cell 26; rw[Np]at q; go_wp2_with fail;exact⟨rfl,_,rfl,d,fQ (by decide) (aL _ _),rfl⟩
   simp only[Act.put,aN,aH,aI];apply Sz (by kernel_rfl) (by intro t w h; cases h; exact trivial) rfl
   .intro W d f; have q:=(Z.o W d).2.load (P:=prog) (k:=17) rfl; go_wp2_with fail;exact⟨rfl,_,rfl,d,fQ (by decide) (aL _ _),rfl⟩
   simp only[Act.put,aN,aH,aI];refine⟨fun W d f=>?_,fun Y=>?_⟩
   .go_wp2_with fail;have H:=eQ (enc:=RcV.cells) W 101 c;have hc:=jQ (d.1.alloc (.cells c.cells.toArray 101)) (d.2.alloc (.cells c.cells.toArray 101));have z:=fQ (e:=8) (k:=7) (S:=fun i=>p.rv.ownBlock=some i) (by decide) (ba' W (.cells c.cells.toArray 101));have j:W.heap.size<(W.alloc (.cells c.cells.toArray 101)).heap.size:=by simp
    have hn:¬p.rv.ownBlock=some W.heap.size:=fun F=>by have:=(d.2.lt F).2; omega
    generalize W.alloc (.cells c.cells.toArray 101)=W' at H hc z j ⊢;exact⟨rfl,_,rfl,hc,z,_,rfl,⟨j,hn⟩,H⟩
   simp only[Act.put,aN,aH,aI];refine⟨fun W d f=>?_,fun L=>?_⟩
   .have f7:=f 32 (bT (by kernel_rfl));obtain⟨b,rfl,m1,a1⟩:=f7;have o0:base≤W.heap.size:=aB J.c (aB m.D.size d.1.size);go_wp2_with (at_builtin; refine mO (enc:=RcV.cells) W rfl (.tmp 30) (.tmp 32) 52 rfl base 101 Nn underlying52 rfl (by omega) nW d.2 rfl a1 rfl (fun a ha=>by rw[bQ.1 ha]; exact No (Ow.one m.c)) ?_ ?_ o0 ?_)
    .have:=J.D; unfold maxLen; show p.rs.length+1≤_; omega
    .have:=J.D; show (p.rs.length+1)*160≤_; omega
    intro v' W3 s z0 hg p0;exact⟨rfl,_,rfl,⟨d.1.trans (fZ hg) (fun _ _ h=>h),z0⟩,rK (fZ hg),s,fun k hk=>(p0 k hk).imp id (aB (aB m.D.size d.1.size))⟩
   simp only[Act.put,aN,aH,aI]
   iterate 3
    apply Sz (by kernel_rfl) (by intro t w h; cases h; exact trivial) rfl
    .intro W d f; go_wp2_with fail;exact⟨rfl,_,rfl,d,fQ (by decide) (aL _ _),rfl⟩
    simp only[Act.put,aN,aH,aI]
   intro W d f;have N:=f 33;obtain⟨N,f9⟩:=N;have q:=(Z.o W d).1.cell 26;have qf:=(Z.o W d).1.frozen 26;rw[Np]at q;have A:=m.a.saved (.inl rfl) d.1 N (fun x V=>by
    rcases dF.1 V with V|V
    .exact (m.a.rse x V).chg_row m.a.rs d.1 (by decide)
    .rw[bQ.1 V];exact (m.c).chg_row m.a.rs d.1 (by decide))
   have HW:=kp A;have H9:=kp f9;obtain⟨A8,c8,rfl,_,_⟩:=eD N;rw[bB,uC]at HW H9;clear f d N f9 A;go_wp2_with fail;go_end0;refine⟨rfl,v,_,?_,?_,H9.o⟩
   .rw[HE.o]; exact HW.a
   .exact (m.D.mono fun i _ T=>.inl T).trans HW.B fun _ _ h=>h
  case pers=>
   refine⟨pv',pv',pv',pv',pv',pv',pv',?_,?_,pv',pv',pv',trivial⟩
   .rintro i u W W' _ ⟨b,rfl,j,H⟩ z;exact⟨b,rfl,⟨eA j.1 (nO z).size,j.2⟩,vK H (nO z) j.2 j.1⟩
   .rintro i u W W' y0 ⟨h1,h2⟩ z;exact⟨h1.below (rL z y0),h2⟩
 .exact⟨pv',pv',pv',pv',pv',pv',fun _ _ _ _ _ h _=>h,fun _ _ _ _ _ h _=>h,fun _ _ _ _ _ h _=>h,fun _ _ _ _ _ h _=>h,fun _ _ _ _ _ h _=>h,fun _ _ _ _ _ h _=>h,trivial⟩
def sG(e:En):RcV:=⟨2,0,0,0,⟨#[]⟩,e,[],.slice none 0 0⟩
theorem aCz{g base:Nat}(p:WkV)(ps:List ObV)(x:En)(w:World)(h:WkO w base g 79 [] p ps)(j:base≤w.heap.size)(S:WpS p.x)(a:So p.r.k.x x=true)(f:enR x):
  Calls prog 66 #[.pointer (some ⟨g,0,none⟩),.agg (sG x).cells.toArray] w fun e d=>e=.returned (.tuple #[])∧∃p',aEG w d base g p p' ps∧p'.x=p.x.keep x:=by
 have c:=S.log;have s:=S.top;have q:=S.rs;have b:=S.img;rw[show p.x.rs.length=p.rs.length from cW _]at q;unfold So at a;simp only[bI,bP]at a;refine (aDg p ps (sG x) w h (Ow.nil _ _ _ _ _) (by omega) j ⟨rfl,a.1,c.1,⟨c.2.2.1,s⟩,a.2.1,by unfold maxLen; exact aB b (by decide),S.kr,f,S.kept,a.2.2⟩).mono ?_;rintro e d ⟨rfl,v,v',o,l,n⟩;refine⟨rfl,_,⟨o,l.mono fun i _ b=>b.imp id .inl,n,fun k m=>.inl m⟩,?_⟩;unfold WkV.x aEF.keep;simp only[gC];rfl
end
section
attribute [-go_sem] loadCellsFrom storeCells run_eql_struct run_neq_struct
attribute [local go_sem] bC Ei
theorem aDh(v:Value)(l:List En)(p:En→Bool)(g:Nat)(O:Array Value)(B:Nat)(w:World)(h:Sl w B v En.cells l)(S:B≤w.heap.size)(V:l.length≤1000000)
  (Z:∀args w,(callFunc g args).run prog w=.ok (.enter g args) w)
  (M:∀(W:World)(x:En),x∈l→Bw' w W→Calls prog g (#[(.agg (En.cells x).toArray)]++O) W fun e E=>e=.returned (.bool (p x))∧Bw' W E):
  Calls prog 118 #[v,.func (.func g) #[] O] w fun e E=>e=.returned (.i (eI p l))∧Bw' w E:=by
 obtain⟨A,c,rfl,N,I,U⟩:=h;obtain⟨n,D⟩:=nm' l.length;rw[D]at I V ⊢;have H:=k'2 N D; clear N I U D;have Q:=kp M; clear M;go_enter func118,ntmps118;go_wp2_with fail
 go_loopw [5,8] (fun _ i wr=>∃k:Nat,k≤n∧i=.i k∧(∀y∈l.take k,p y=false)∧Bw' w wr) (fun _ i _=>n-(intOf i).toNat)
 case atStart=>exact⟨0,by omega,rfl,by simp,aL _ _⟩
 case round=>
  obtain⟨k,hk,rfl,K,G⟩:=hrel;have s:=kp K;have f:=kp G;clear K G
  by_cases a0:k<n
  .have g3:(k:Int)<(n:Int):=by omega
   have q:k<l.length:=by have:=H.B; omega
   obtain⟨b,b0,R,_,T,L⟩:=bV (P:=prog) 11 eL (by omega) (H.a.below f.o S) k q;subst R;have X:=L 0;change Sem.run _ _ wr=.ok _ wr at X;clear T L;have z:=k'3 (cV q) (rF p l k q) (bK q);generalize l[k]'q=x at *;have J:=Q.o wr x z.C f.o;have F:=kp J; clear J
   cases hpx:p x
   .have j:=kp hpx; clear hpx;go_wp2_with (go_at_fn g; refine F.o.mono ?_; rintro e Y ⟨rfl,m⟩; rw[j.o]);have r:=kp (f.o.on m); clear m;go_roundw
    case rel=>
     refine⟨k+1,by omega,by go_num,fun y d=>?_,r.o⟩;rw[z.a]at d;rcases dF.1 d with d|d
     .exact s.o y d
     .rw[bQ.1 d]; exact j.o
    case measure=>simp[intOf]; omega
   .have j:=kp hpx; clear hpx;go_wp2_with (go_at_fn g; refine F.o.mono ?_; rintro e Y ⟨rfl,m⟩; rw[j.o]);have r:=kp (f.o.on m); clear m;go_ret;exact⟨by rw[z.b j.o s.o]; rfl,r.o⟩
  .obtain rfl:k=n:=by omega
   go_wp2_with fail;go_ret;exact⟨by rw[vB p l (fun y d=>s.o y (by rw[cN (by have:=H.B; omega)]; exact d))]; rfl,f.o⟩
theorem aCp(v:Value)(l:List En)(p:En→Bool)(g:Nat)(c:Array Value)(B:Nat)(w:World)(h:Sl w B v En.cells l)(s:B≤w.heap.size)(y:l.length≤1000000)
  (f:∀args w,(callFunc g args).run prog w=.ok (.enter g args) w)
  (k:∀(W:World)(x:En),x∈l→Bw' w W→Calls prog g (#[(.agg (En.cells x).toArray)]++c) W fun e d=>e=.returned (.bool (p x))∧Bw' W d):
  Calls prog 67 #[v,.func (.func g) #[] c] w fun e d=>e=.returned (.bool (l.any p))∧Bw' w d:=by
 have j:=aDh v l p g c B w h s y f k;have q:=kp j;obtain⟨z,b⟩:=nm' (eI p l);have a:=tI p l;rw[b]at a;have m:=kp a;have r:=kp b;clear j k h b a f;go_enter func67,ntmps67;go_wp2_with fail;refine mb' q.o fun A i=>?_;rw[r.o];have n:=kp i; clear i;go_wp2_with fail;go_ret;exact⟨mK (bG Value.bool m.o),n.o⟩
theorem vC:(∀(x:En)(w:World),Calls prog 68 #[.agg x.cells.toArray] w fun e a=>e=.returned (.bool (!fY x))∧Bw' w a)∧(∀(x:En)(w:World),Calls prog 170 #[.agg x.cells.toArray] w fun e a=>e=.returned (.bool (!fY x))∧Bw' w a):=by
 refine⟨?q0,?q1⟩
 all_goals
  intro x w;obtain⟨h,l,f,c,j⟩:=par w 93 x.cells;have m:=f.load (P:=prog) (k:=11) rfl;have b:=kp (aB7 x h);have g:=kp c;clear f c j;obtain⟨z,d⟩:=nm' (fY x);rw[d]at b ⊢;clear d
  first |go_enter func68,ntmps68|go_enter func170,ntmps170
  go_wp2_with fail;refine mb' (b.o) fun n i=>?_;go_wp2_with fail;go_ret;exact⟨rfl,g.o.on i⟩
def aB0(commit c s:Int)(e:En):Bool:=decide (commit<e.n)&&(decide (e.c=c)&&decide (s≤e.s))
theorem aDi(x:En)(a c s:Int)(k l m:Nat)(w:World)(q:Blk w k 3 [.i a])(r:Blk w l 3 [.i c])(y:Blk w m 3 [.i s]):
  Calls prog 116 #[.agg x.cells.toArray,.pointer (some ⟨k,0,none⟩),.pointer (some ⟨l,0,none⟩),.pointer (some ⟨m,0,none⟩)] w fun e C=>e=.returned (.bool (aB0 a c s x))∧Bw' w C:=by
 obtain⟨b,E,g,f,D⟩:=par w 93 x.cells;have F:b.cell? ⟨w.heap.size,0,none⟩=some (.i x.n):=g.cell 0;have G:b.cell? ⟨w.heap.size,2,none⟩=some (.i x.c):=g.cell 2;have H:b.cell? ⟨w.heap.size,3,none⟩=some (.i x.s):=g.cell 3;have I:b.cell? ⟨k,0,none⟩=some (.i a):=(q.grow f).cell 0;have J:b.cell? ⟨l,0,none⟩=some (.i c):=(r.grow f).cell 0;have K:b.cell? ⟨m,0,none⟩=some (.i s):=(y.grow f).cell 0;have j:=kp f;clear g f D q r y;unfold aB0;generalize x.n=n at *;generalize x.c=p at *;generalize x.s=xs at *
 by_cases A:a<n
 .by_cases d:p=c
  .have z:(p==c)=true:=by simp[d]
   have i:=kp d
   by_cases B:s≤xs
   all_goals
    clear d;go_enter func116,ntmps116;go_wp2_with fail;go_ret;refine⟨mK (bG Value.bool ?_),j.o⟩;simp[A,i.o,B]
  .have z:(p==c)=false:=by simp[d]
   have i:=kp d;clear d;go_enter func116,ntmps116;go_wp2_with fail;go_ret;refine⟨mK (bG Value.bool ?_),j.o⟩;simp[i.o]
 .go_enter func116,ntmps116;go_wp2_with fail;go_ret;refine⟨mK (bG Value.bool ?_),j.o⟩;simp;intro h;omega
theorem aDj(p:KpV)(a c s:Int)(B:Nat)(w:World)(h:fL w B p)(n:B≤w.heap.size)(y:p.es.length≤1000000)(K:KdR p.x)(I:p.image.size≤maxLen)(J:dA p.x=true):
  Calls prog 65 #[.agg p.cells.toArray,.i a,.i c,.i s] w fun e U=>e=.returned (.bool (p.es.any (aB0 a c s)))∧Bw' w U:=by
 obtain⟨C,a0,z,H,V⟩:=par w 24 p.cells;obtain⟨D,b0,M,j,X⟩:=par C 3 [.i a];obtain⟨F,d0,N,g,Y⟩:=par D 3 [.i c];obtain⟨G,e0,O,aS,Z⟩:=par F 3 [.i s];have b:=H.on (j.on (g.on aS));have m:=Sl.below h b n;have l:=aB n b.size;have R:=kp (by have:=yU p B G m l y K I; rw[J]at this; exact this);have T:=(z.grow (j.on (g.on aS))).load (P:=prog) (k:=5) rfl;have f:=k'5 (z.grow (j.on (g.on aS))) (M.grow (g.on aS)) (N.grow aS) O b;have Q:=kp (fun(W:World)(i:Bw' G W)=>aCp p.ev p.es (aB0 a c s) 116 #[.pointer (some ⟨C.heap.size,0,none⟩),.pointer (some ⟨D.heap.size,0,none⟩),.pointer (some ⟨F.heap.size,0,none⟩)] B W (Sl.below m i l) (aB l i.size) y
  (enters_of func116 (by kernel_rfl) rfl) fun W' x _ q=>aDi x a c s _ _ _ W' ((f.b.grow i).grow q) ((f.c.grow i).grow q) ((f.d.grow i).grow q))
 clear z M N O H j g aS V X Y Z b m l h n y K I J;go_enter func65,ntmps65;go_wp2_with fail;refine mb' (R.o) fun L r=>?_;have k4:L.cell? ⟨w.heap.size,4,none⟩=some p.ev:=(f.a.grow r).cell 4;have A:=kp r;clear r T;unfold eN;go_wp2_with fail;refine mb' (Q.o L A.o) fun w6 S=>?_;go_wp2_with fail;go_ret;exact⟨rfl,f.E.on (A.o.on S)⟩
end
section
attribute [-go_sem] loadCellsFrom storeCells run_eql_struct run_neq_struct
attribute [local go_sem] bC
structure qH(W0:World)(a:Nat)(cs:List Value)(X:Nat→Option Value)(W:World):Prop where
 c:Chg (fun i=>i=a) W0 W
 b:∃ds,Blk W a 39 ds∧ds.length=cs.length∧∀s,X 8=some s→ds=cs
section
variable {W0 W:World}{a:Nat}{cs:List Value}{X:Nat→Option Value}
theorem qH.other{j:Nat}{u:Value}(h:qH W0 a cs X W)(g:8≠j):qH W0 a cs (bD X j u) W:=
 ⟨h.c,h.b.imp fun _ ⟨d,e,f⟩=>⟨d,e,by rw[aR g]; exact f⟩⟩
theorem qH.put{u:Value}(h:qH W0 a cs X W):qH W0 a cs (bD X 8 u) (W.setRow a cs.toArray):=by
 obtain⟨e,d,-,-⟩:=h.b;exact⟨h.c.trans ((Chg.refl (fun i=>i=a) W).setRow (.inr rfl) _) fun _ _ h=>h,cs,d.set cs,rfl,fun _ _=>rfl⟩
end
end
section
attribute [-go_sem] loadCellsFrom storeCells run_eql_struct run_neq_struct Instr.build
attribute [local go_sem] bC
structure TkV(r:Rp):Prop where
 nodes:3≤r.nodes∧r.nodes≤7
 id:1≤r.id∧r.id≤r.nodes
 kept:dA r.k=true
 view:0≤r.k.view∧r.k.view≤800000000
 base:0≤r.k.base∧r.k.base≤900000000
 len:r.k.es.length≤4000
 timer:0≤r.timer∧r.timer≤1000
theorem vZ{r:Rp}(h:dI r=true):TkV r:=by
 simp only[dI,dA,rG,kB,aF,bI,sV,bP]at h;obtain⟨l,⟨b,c⟩,a,d,m,⟨e,f⟩,-⟩:=h;have g:=a;obtain⟨⟨i,n⟩,⟨o,p⟩,⟨j,k⟩,⟨q,-⟩,-⟩:=a;refine⟨by omega,⟨b,c⟩,?_,⟨i,d⟩,⟨j,k⟩,by omega,⟨e,f⟩⟩;simp only[dA,rG,aF,bI,bP];exact g
theorem qI(w:World):(Instr.build 55 #[]).run prog w=.ok (.agg #[.slice none 0 0,.slice none 0 0]) w:=run_build w _ _ _ (by kernel_rfl)
theorem sL(w:World):(Instr.build 39 #[]).run prog w=.ok (.agg jX.cells.toArray) w:=run_build w _ _ _ (by kernel_rfl)
def Ek(last commit:Int):MgV:=⟨3,0,0,0,0,last,0,commit,[],.slice none 0 0,0,0,⟨#[]⟩,0,pV,0,0,false⟩
theorem El(last a:Int)(w:World):(Instr.build 48 #[(0,.i 3),(5,.i last),(7,.i a)]).run prog w=.ok (.agg (Ek last a).cells.toArray) w:=run_build w _ _ _ (by kernel_rfl)
attribute [local go_sem] qI sL El
def RpV.timed(r:RpV)(t:Int):RpV:=⟨r.id,r.nodes,r.k,r.commit,r.s,t,r.starts,r.sv,r.votes,r.vv,r.acks,r.av,r.part⟩
theorem WkO.clock{w:World}{base g:Nat}{t:TypeId}{a:List Value}{p:WkV}{ps:List ObV}(h:WkO w base g t a p ps)(b:qG t)(u:Int):
  WkO (w.setCell ⟨g,17,none⟩ (.i u)) base g t a ⟨p.r.timed u,p.rs,p.rv,p.ms,p.mv⟩ ps∧Chg (fun i=>i=g) w (w.setCell ⟨g,17,none⟩ (.i u)):=by
 have c:=(Chg.refl (fun i=>i=g) w).setCell (.inr rfl) 17 (.i u);exact⟨h.put b (h.blk.setCell 17 _) c ⟨h.rep.es,h.rep.st,h.rep.starts,h.rep.votes,h.rep.ves,h.rep.acks⟩,c⟩
structure sM(w w':World)(R:Rp×List Rc×List Mg)(e:Ending):Prop where
 o:∃(p:WkV)(ps:List ObV),e=.returned (.tuple #[.agg p.r.cells.toArray,.agg #[p.rv,p.mv]])∧p.r.x=R.1∧p.rs.map (·.x)=R.2.1∧p.ms.map (·.x)=R.2.2∧RpO w' w.heap.size p.r ps∧
  Ow w' w.heap.size 101 17 p.rv RcV.cells p.rs∧(∀x∈p.rs,Ow w' w.heap.size 93 11 x.ev En.cells x.es)∧Ow w' w.heap.size 48 23 p.mv MgV.cells p.ms∧∀x∈p.ms,Ow w' w.heap.size 93 11 x.ev En.cells x.es
 bel:Bw' w w'
end
section
attribute [-go_sem] loadCellsFrom storeCells run_eql_struct run_neq_struct Instr.build
attribute [local go_sem] bC qI sL El
theorem Nw{w:World}{base g:Nat}{t:TypeId}{b:List Value}{p:WkV}{ps:List ObV}(h:WkO w base g t b p ps):∀u∈[p.rv,p.mv],u.oneCell'=true:=fun u a=>by
 rcases bA.1 a with rfl|a
 .exact h.rs.one
 .rw[bQ.1 a]; exact h.ms.one
end
section
attribute [-go_sem] loadCellsFrom storeCells run_eql_struct run_neq_struct Instr.build
attribute [local go_sem] bC qI sL El Ei
def aA1(g:Nat)(u:Value)(W:World):Prop:=∃b,u=.func (.func 81) #[] #[.pointer (some ⟨b,0,none⟩)]∧Blk W b 77 [.pointer (some ⟨g,0,none⟩)]
end
end Go.Proofs.YthalbagblhkeaaaGreat
