import Derived.Test.YtoncgpddjmgbfaaGreatZ26
import Derived.Test.YtoncgpddjmgbfaaGreatZ29
namespace Go.Proofs.YtoncgpddjmgbfaaGreat
open Go.RowKit Go.Proofs.Tryz
set_option maxRecDepth 100000
set_option maxHeartbeats 12800000
set_option linter.unusedVariables false
set_option linter.unusedSimpArgs false
section
attribute [-go_sem] loadCellsFrom storeCells run_eql_struct run_neq_struct Instr.build
attribute [local go_sem] aX
def Kj(m:MgV)(number offset:Int):MgV:=⟨8,0,m.src,m.view,0,number,0,0,[],.slice none 0 0,offset,0,⟨#[]⟩,0,dU,0,0,false⟩
def okV(d0 number:Int):MgV:=⟨4,0,d0,0,0,number,0,0,[],.slice none 0 0,0,0,⟨#[]⟩,0,dU,0,0,false⟩
theorem Zm(a d b c:Int)(w:World):(Instr.build 75 #[(0,.i 8),(2,.i a),(3,.i d),(5,.i b),(9,.i c)]).run prog w=.ok (.agg (MgV.cells ⟨8,0,a,d,0,b,0,0,[],.slice none 0 0,c,0,⟨#[]⟩,0,dU,0,0,false⟩).toArray) w:=run_build w _ _ _ (by kernel_rfl)
theorem Zn(a b:Int)(w:World):(Instr.build 75 #[(0,.i 4),(2,.i a),(5,.i b)]).run prog w=.ok (.agg (okV a b).cells.toArray) w:=run_build w _ _ _ (by kernel_rfl)
attribute [local go_sem] Zm Zn
theorem Kk{g base:Nat}(p:WkV)(i:List ObV)(m:MgV)(d f:Int)(w:World)(h:WkO w base g 101 [] p i)(q:base≤w.heap.size)(y:p.ms.length≤100000):
  Calls prog 101 #[.pointer (some ⟨g,0,none⟩),.agg m.cells.toArray,.i d,.i f] w fun e z=>e=.returned (.tuple #[])∧∃p',Gn w z base g p p' i∧p'.x=p.x.of (vH m.x d f):=by
 obtain⟨c,C,j,b,A⟩:=par w 75 m.cells;have D:c.cell? ⟨w.heap.size,1,none⟩=some (.i m.src):=j.cell 1;have E:c.cell? ⟨w.heap.size,3,none⟩=some (.i m.view):=j.cell 3;have l:=kp (Xz p i (Kj m d f) c (h.below b) (Ow.nil _ _ _ _ _) (by omega) (aB q b.size) (by show (8:Int)≠0; decide) (dJ _));have s:=kp b;unfold Kj at l;clear j b A h q y;go_enter func101,ntmps101;go_wp2_with fail;refine (l.o).mono ?_;rintro e F ⟨rfl,p',n,r⟩;have k:=k'2 (n.pre s.o) r;clear n r;go_wp2_with fail;go_end0;exact⟨rfl,p',k.a,k.B⟩
theorem Kl(id a:Int):∀(l:List En)(s:St),(gI id a s l).2.length≤l.length
 |[],_=>aN _
 |e::l,s=>by
  have:=Kl id a l (eE s e).1;unfold gI;simp only[bF,eS]
  split<;>simp<;>omega
theorem Wp.reach_keeps{q r:Wp}{n:Int}(h:q.reach n=some r):r.r.k=q.r.k∧r.ms.length≤q.ms.length+q.r.k.es.length:=by
 unfold Wp.reach at h
 split at h
 .cases h; exact⟨rfl,by omega⟩
 split at h
 .cases h
 .cases h;refine⟨rfl,?_⟩;simp only[bF]
  split
  .have a:=Kl q.r.id q.r.k.view (kN q.r.k q.r.commit (n-q.r.commit)) q.r.st;have b:=Cx q.r.k q.r.commit (n-q.r.commit);omega
  .simp
theorem Zo{g base:Nat}(p:WkV)(T:List ObV)(m:MgV)(w:World)(q:Wp)(h:WkO w base g 101 [] p T)(hb:base≤w.heap.size)(S:WpS p.x)(hc:p.r.k.base≤p.r.commit)(hr:stR p.r.s.x)(hn:inR m.commit)(y:p.x.agree m.x=some q)(Q:p.ms.length≤1000):
  Calls prog 145 #[.pointer (some ⟨g,0,none⟩),.agg m.cells.toArray] w fun e w'=>e=.returned (.tuple #[])∧pM w w' base g p q:=by
 obtain⟨l,b0,z0⟩:∃l,p.x.reach (min m.commit p.r.k.x.last)=some l∧l.send (okM m.src l.r.k.last)=q:=by
  unfold Wp.agree at y
  cases hx:p.x.reach (min m.commit p.r.k.x.last) with
  |none=>rw[show p.x.reach (min m.x.commit p.x.r.k.last)=none from hx]at y; cases y
  |some l=>rw[show p.x.reach (min m.x.commit p.x.r.k.last)=some l from hx]at y; exact⟨l,rfl,Option.some.inj y⟩
 obtain⟨i,a1,x1,F,z1⟩:=par w 75 m.cells;have E:=kp (show Bw' i i.drew from bL (aH _ _));have L:=S.log;have d0:=S.top;have K:=(h.below F).below E.o;have J:=k'4 K (x1.grow E.o) (F.on E.o) (aB hb (F.on E.o).size);have U:=k'2 h F;have m0:=kp (fun(W:World)(u:Below i.drew.heap.size i.drew W)=>qU p T W (K.below u) L.1 (aB L.2.1 (by decide)));have a0:inR (min m.commit p.r.k.x.last):=by
  have P:0≤p.r.k.x.last:=L.2.2.1;have h4:p.r.k.x.last≤900000000:=d0;obtain⟨h5,h6⟩:=hn;constructor<;>omega
 have q0:=kp (fun(W:World)(u:Below i.drew.heap.size i.drew W)=>Ki p T (min m.commit p.r.k.x.last) W l (K.below u) (aB J.D u.size) S hc hr a0 b0 Q);have HQ:=kp z0;have O:=k'2 S Q;clear x1 F z1 L d0 K h hb S hc hr hn y Q a0;go_enter func145,ntmps145;go_wp2_with fail;refine fM 6 (fun W'=>Below i.drew.heap.size i.drew W') (fun _=>jK) (by kernel_rfl) (by kernel_rfl) (aH _ _) ?_
 iterate 6 (refine bE ?_; apply Exists.intro)
 refine cC ⟨?_,?_⟩
 rotate_left
 iterate 2
  apply bB (by kernel_rfl) (by intro t w h; cases h; exact trivial) rfl
  .intro W' d f; go_wp2_with fail;exact⟨rfl,_,rfl,d,aH _ _,rfl⟩
  simp only[Act.put,aE,aC,aD]
 apply bB (by kernel_rfl) (by intro t w h; cases h; exact trivial) rfl
 .intro W' d f; have q7:W'.cell? ⟨w.heap.size,7,none⟩=some (.i m.commit):=(J.b.grow d).cell 7; go_wp2_with fail;exact⟨rfl,_,rfl,d,aH _ _,rfl⟩
 simp only[Act.put,aE,aC,aD];apply bB (by kernel_rfl) (by intro t w h; cases h; exact trivial) rfl
 .intro W' d f; go_wp2_with fail;exact⟨rfl,_,rfl,d,aH _ _,rfl⟩
 simp only[Act.put,aE,aC,aD];apply bB (by kernel_rfl) (by intro t w h; cases h; exact trivial) rfl
 .intro W' d f;go_wp2_with fail;refine mb' (m0.o W' d) fun w2 H=>?_;go_wp2_with fail;exact⟨rfl,_,rfl,d.on H,H,rfl⟩
 simp only[Act.put,aE,aC,aD];apply bB (by kernel_rfl) (by intro t w h; cases h; exact trivial) rfl
 .intro W' d f; go_wp2_with fail;exact⟨rfl,_,rfl,d,aH _ _,rfl⟩
 simp only[Act.put,aE,aC,aD];intro W2 d f;clear f;simp only[bS,bU];have p0:=kp (q0.o W2 d);have M:=kp d;clear d;go_wp2_with fail;refine (p0.o).mono ?_;rintro e z ⟨rfl,j,j0,G,e0⟩;have R:=e0;have n:=Wp.reach_keeps b0;rw[←R]at n;have N:=k'3 (show j.r.k.x=p.r.k.x from n.1) (show j.ms.length≤5000 by have X:=n.2; have P:=O.a.log.2.1; have h4:=O.B; simp only[WkV.x,dD]at X P; change _≤_+p.r.k.es.length at X; change p.r.k.es.length≤_ at P; omega) R;have Z:=G.pre (U.B.on (E.o.on M.o));have x3:=G.blk U.a (aN _) (J.b.grow M.o);have I:=kp (show Bw' z z.drew from bL (aH _ _));have A:=k'4 (G.o.below I.o) (x3.grow I.o) (Z.post I.o) (aB (aB J.D M.o.size) (aB G.size I.o.size));clear e0 R n Z x3 G;have o0:=kp (fun(W:World)(u:Below z.drew.heap.size z.drew W)=>by
  have hl:=O.a.log;have n:j.r.k.x=p.r.k.x:=N.a;have:=qU j j0 W (A.a.below u) (by have e:j.r.k.base=p.r.k.base:=bA Kd.base n; rw[e]; exact hl.1) (by have e:j.r.k.es=p.r.k.es:=bA Kd.es n; rw[e]; exact aB hl.2.1 (by decide));exact this)
 go_wp2_with fail;refine fM 6 (fun W'=>Below z.drew.heap.size z.drew W') (fun _=>jK) (by kernel_rfl) (by kernel_rfl) (aH _ _) ?_
 iterate 6 (refine bE ?_; apply Exists.intro)
 refine cC ⟨?_,?_⟩
 rotate_left
 iterate 2
  apply bB (by kernel_rfl) (by intro t w h; cases h; exact trivial) rfl
  .intro W' d f; go_wp2_with fail;exact⟨rfl,_,rfl,d,aH _ _,rfl⟩
  simp only[Act.put,aE,aC,aD]
 apply bB (by kernel_rfl) (by intro t w h; cases h; exact trivial) rfl
 .intro W' d f; have q7:W'.cell? ⟨w.heap.size,1,none⟩=some (.i m.src):=(A.b.grow d).cell 1; go_wp2_with fail;exact⟨rfl,_,rfl,d,aH _ _,rfl⟩
 simp only[Act.put,aE,aC,aD];apply bB (by kernel_rfl) (by intro t w h; cases h; exact trivial) rfl
 .intro W' d f; go_wp2_with fail;exact⟨rfl,_,rfl,d,aH _ _,rfl⟩
 simp only[Act.put,aE,aC,aD];apply bB (by kernel_rfl) (by intro t w h; cases h; exact trivial) rfl
 .intro W' d f;go_wp2_with fail;refine mb' (o0.o W' d) fun w2 H=>?_;go_wp2_with fail;exact⟨rfl,_,rfl,d.on H,H,rfl⟩
 simp only[Act.put,aE,aC,aD];apply bB (by kernel_rfl) (by intro t w h; cases h; exact trivial) rfl
 .intro W' d f; go_wp2_with fail;exact⟨rfl,_,rfl,d,aH _ _,rfl⟩
 simp only[Act.put,aE,aC,aD];intro W4 d f;clear f;simp only[bS,bU];have y0:=kp (yL j j0 (okV m.src j.r.k.x.last) W4 (A.a.below d) (Ow.nil _ _ _ _ _) (by have:=N.b; omega) (aB A.D d.size) (by show (4:Int)≠0; decide) (dJ _));have l0:=kp d;clear d;go_wp2_with fail;refine (y0.o).mono ?_;rintro e w5 ⟨rfl,p2,Y,g0⟩;have V:=k'2 ((A.c.post l0.o).trans Y) (show p2.x=q by rw[g0,←HQ.o,←N.C]; rfl);clear Y g0;go_wp2_with fail;go_end0;exact⟨rfl,.of V.a V.B⟩;exact⟨pv',pv',pv',pv',pv',pv',trivial⟩;exact⟨pv',pv',pv',pv',pv',pv',trivial⟩
theorem Zp{q r:Wp}{e:En}{l:List En}(h:q.keeps (e::l)=some r):nA q.r.k e=true∧(q.keep e).keeps l=some r:=by
 unfold Wp.keeps at h
 by_cases a:nA q.r.k e=true
 .rw[aK a]at h; exact⟨a,h⟩
 .rw[aF a]at h; cases h
def vK(Wa:World)(b:Bool)(l:List RcV)(z:Value)(W:World):Prop:=∃u,z=.tuple #[u,.bool b]∧Ow W Wa.heap.size 124 17 u RcV.cells l
theorem vK.stab(Wa:World)(b:Bool)(l:List RcV):jU 43 (vK Wa b l):=
 ⟨fun _ _ _ ⟨u,e,h⟩ c=>⟨u,e,h.below c⟩,fun _ W a _ cs' ⟨u,e,h⟩ d=>⟨u,e,h.chg_blk d ((Chg.refl (fun i=>i=a) W).setRow (.inr rfl) cs') (by decide)⟩⟩
structure JnI(w9 W:World)(base g:Nat)(p:WkV)(ps:List ObV)(q1:Wp)(l:List En)(k:Nat):Prop where
 o:∃p',Gn w9 W base g p p' ps∧p'.x.keeps l=some q1∧WpS p'.x∧p'.rs.length≤1000+k∧p'.ms.length=p.ms.length∧p'.r.commit=p.r.commit∧p'.r.s.x=p.r.s.x∧p'.r.k.base=p.r.k.base
structure JoV(Wa:World)(b:Bool)(l:List RcV)(X:Nat→Option Value)(W:World):Prop where
 c:CAl Wa 43 iU 73 [] (vK Wa b l) mE 9 10 11 1000 1001 1002 X W
 s:∀z,X 13=some z→X 11=some z
theorem JoV.step{Wa W W':World}{b:Bool}{l:List RcV}{X:Nat→Option Value}{j:Nat}{u:Value}(h:JoV Wa b l X W)(g:CAl Wa 43 iU 73 [] (vK Wa b l) mE 9 10 11 1000 1001 1002 (aY X j u) W')(e:13≠j)(f:11=j→X 11=none):JoV Wa b l (aY X j u) W':=by
 refine⟨g,fun z d=>?_⟩;rw[aI e]at d;have a:=h.s z d
 by_cases c:11=j
 .rw[f c]at a; cases a
 .rw[aI c]; exact a
def Zq(b:Bool)(z:Value)(_:World):Prop:=z=.bool b
theorem Zr{g base B:Nat}(p:WkV)(ps:List ObV)(m:MgV)(w:World)(q:Wp)(h:WkO w base g 101 [] p ps)(hm:Sl w B m.ev En.cells m.es)(p0:B≤base)(hb:base≤w.heap.size)(S:WpS p.x)(hc:p.r.k.base≤p.r.commit)(hr:stR p.r.s.x)(hR:∀e∈m.es,enR e)(hn:inR m.commit)(hl:m.es.length≤2000)(m0:p.rs.length≤1000)(j2:p.ms.length≤1000)
  (hq:if kO p.r.k.x m.number m.es=true then (p.x.keeps (m.es.filter fun e=>decide (p.r.k.x.last<e.n))).bind (fun q=>q.agree m.x)=some q else p.x=q):
  Calls prog 102 #[.pointer (some ⟨g,0,none⟩),.agg m.cells.toArray] w fun e w'=>e=.returned (.bool (kO p.r.k.x m.number m.es))∧pM w w' base g p q:=by
 obtain⟨F,d4,x1,b1,z1⟩:=par w 75 m.cells;have HD:=kp (show Bw' F F.drew from bL (aH _ _));have d1:=S.log;have y2:=S.top;have g0:=aB p0 hb;have O:=b1.on HD.o;have h1:=h.below O;have m1:=Sl.below hm O g0;obtain⟨o,I⟩:=nm' (kO p.r.k.x m.number m.es);obtain⟨L,hL⟩:=nm' (m.es.filter fun e=>decide (p.r.k.x.last<e.n));have HJ:=kp (fun(W:World)(u:Below F.drew.heap.size F.drew W)=>by
  have:=Zc p.r.k m.number m.ev m.es W.heap.size W ((h1.below u).rep.es.sl eM) (Sl.more (Sl.below m1 u (aB g0 O.size)) (aB (aB g0 O.size) u.size)) (aN _) S.kept S.kr S.img d1.1 d1.2.1 y2 hl (fun e Q=>(hR e Q).1);rw[I,hL]at this;exact this)
 obtain⟨Y,y0⟩:∃Y,(if o=true then L.map gQ else [])=Y:=⟨_,rfl⟩
 rw[y0]at HJ;have l3:=kp y0;have E:=k'4 h1 (x1.grow HD.o) O (aB hb O.size);have C:=k'a h hm p0 hb S hc hr hn m0 j2;have j1:=kp (show L.length≤2000 from hL▸aB (nI _ _) hl);have m3:=kp (show ∀e∈L,enR e from fun e Q=>hR e (by rw[←hL]at Q; exact (List.mem_filter.1 Q).1));rw[I]at hq ⊢;rw[hL]at hq;have HQ:=kp hq;clear x1 b1 z1 d1 y2 g0 O h1 m1 I hL y0 h hm p0 hb S hc hr hR hn hl m0 j2 hq;go_enter func102,ntmps102;go_wp2_with fail;have p3:=kp (vK.stab F.drew o Y);refine eY 14 (JoV F.drew o Y) (fun _=>eQ) (by kernel_rfl) (by kernel_rfl) ⟨CAl.start,fun _ h=>(nomatch h)⟩ ?_
 iterate 9 (refine bE ?_; apply Exists.intro)
 iterate 3 (refine bJ dV ?_)
 refine bJ (Zq o) ?_;refine bJ dV ?_;refine cC ⟨?_,?_⟩
 rotate_left
 .iterate 9
   apply bQ (by kernel_rfl) (by intro t w h; cases h; exact trivial) rfl
   .intro X W' j N hw G M;have b:=E.a.blk.grow j.c.bel;have l2:=b.loadOff (P:=prog) 2 5 p.r.k.cells rfl rfl;have k5:W'.cell? ⟨w.heap.size,5,none⟩=some (.i m.number):=(E.b.grow j.c.bel).cell 5;have k8:W'.cell? ⟨w.heap.size,8,none⟩=some m.ev:=(E.b.grow j.c.bel).cell 8;clear b;go_wp2_with fail;exact⟨rfl,_,rfl,j.step (j.c.other (by decide)) (by decide) (fun h=>absurd h (by decide)),aV,rfl⟩
   simp only[Act.put,aE,aC,aD,aS,aT]
  refine⟨fun X W' j N hw G M=>?_,fun u9=>?_⟩
  .go_wp2_with fail;refine (HJ.o W' j.c.bel).mono ?_;rintro e m4 ⟨u,rfl,I,l1⟩;have d0:=j.step (j.c.doCall p3.o N l1 ⟨u,rfl,I.mono j.c.bel.size⟩ (by decide)) (by decide) (fun h=>absurd h (by decide));clear I l1;go_wp2_with fail;exact⟨rfl,_,rfl,d0,aV,trivial⟩
  simp only[Act.put,aE,aC,aD,aS,aT];refine⟨fun X W' j N hw G M=>?_,fun o0=>?_⟩
  .have h6:X 9=some u9:=G 9 19 u9 (by kernel_rfl) (by kernel_rfl) (bO (by kernel_rfl)) rfl;go_wp2_with fail;exact⟨rfl,_,rfl,j.step (j.c.doMv h6 (by decide)) (by decide) (fun h=>absurd h (by decide)),aV,trivial⟩
  simp only[Act.put,aE,aC,aD,aS,aT];refine⟨fun X W' j N hw G M=>?_,fun U=>?_⟩
  .have h7:X 10=some o0:=G 10 9 o0 (by kernel_rfl) (by kernel_rfl) (bO (by kernel_rfl)) rfl;have h6:=j.c.mv _ h7;obtain⟨v,rfl,-⟩:=j.c.call _ h6;have d0:=j.step (j.c.doExt N h6 ⟨_,rfl⟩ (by decide)) (by decide) (fun _=>N);clear h6 h7;go_wp2_with fail;exact⟨rfl,_,rfl,d0,aV,trivial⟩
  simp only[Act.put,aE,aC,aD,aS,aT];refine⟨fun X W' j N hw G M=>?_,fun a4=>?_⟩
  .have h7:X 10=some o0:=G 10 9 o0 (by kernel_rfl) (by kernel_rfl) (bO (by kernel_rfl)) rfl;obtain⟨v,rfl,-⟩:=j.c.call _ (j.c.mv _ h7);clear h7;go_wp2_with fail;exact⟨rfl,_,rfl,j.step (j.c.other (by decide)) (by decide) (fun h=>absurd h (by decide)),aV,rfl⟩
  simp only[Act.put,aE,aC,aD,aS,aT];refine⟨fun X W' j N hw G M=>?_,fun a3=>?_⟩
  .have h8:X 11=some U:=G 11 20 U (by kernel_rfl) (by kernel_rfl) (bO (by kernel_rfl)) rfl;have d0:JoV F.drew o Y (aY X 13 U) W':=⟨j.c.other (by decide),fun z hz=>by
    rw[fC]at hz; cases hz;rw[aI (by decide)]; exact h8⟩
   clear h8;go_wp2_with fail;exact⟨rfl,_,rfl,d0,aV,trivial⟩
  simp only[Act.put,aS,aT];intro W9 j M;have hr:a4=.bool o:=M 21;subst hr;clear M;simp only[bS,bU];obtain rfl:U=a3:=Option.some.inj (j.s a3 rfl);obtain⟨u,hu,y,Q⟩:=j.c.ext U rfl;obtain⟨v,z0,I⟩:=j.c.call _ hu;rw[Q]at z0;obtain⟨rfl,-⟩:U=v∧y=.bool o:=by simpa using z0
  have K:=k'4 I j.c.bel (E.a.below j.c.bel) (E.b.grow j.c.bel);clear j hu Q z0 I
  cases o
  .have HE:=kp (show p.x=q by have:=HQ.o; rw[aF (by decide)]at this; exact this);go_wp2_with fail;go_ret;exact⟨rfl,.of ((Gn.refl K.c).pre (E.c.on K.b)) HE.o⟩
  obtain⟨T,m2,o2⟩:∃T,p.x.keeps L=some T∧T.agree m.x=some q:=by
   have:=HQ.o;rw[aK rfl]at this
   cases hk:p.x.keeps L with
   |none=>rw[hk]at this; cases this
   |some T=>rw[hk]at this; exact⟨T,rfl,this⟩
  have HO:=kp (show Ow W9 F.drew.heap.size 124 17 U RcV.cells (L.map gQ) from (show L.map gQ=Y by rw[←l3.o,aK rfl])▸K.a);obtain⟨A,c,rfl,-⟩:=HO.o.sl oF;obtain⟨n,l0⟩:=nm' L.length;have g1:(L.map gQ).length=n:=by rw[dD]; exact l0
  rw[g1]at HO ⊢;have e4:n≤2000:=l0▸j1.o;have V:=k'4 l0 g1 m2 o2;have o3:=kp (fun{wr:World}{p':WkV}(hG:Gn W9 wr base g p p' ps)=>show Ow wr F.drew.heap.size 124 17 (.slice A n c) RcV.cells (L.map gQ) from HO.o.chg hG.c (fun i e hi=>by
   have h1:=(HO.o.lt e).1;have h2:=E.c.size;rcases hi with rfl|hi|hi
   .have:=C.a.blk.lt; omega
   .have:=(C.a.rs.lt hi).2; omega
   .have:=(C.a.ms.lt hi).2; omega))
  clear l0 g1 m2 o2;go_wp2_with fail
  go_loopw [25] (fun i wr=>∃k:Nat,k≤n∧i=.i k∧JnI W9 wr base g p ps T (L.drop k) k) (fun i _=>n-(intOf i).toNat)
  case atStart=>exact⟨0,by omega,rfl,⟨p,Gn.refl K.c,V.c,C.e,C.i,rfl,rfl,rfl,rfl⟩⟩
  case round=>
   obtain⟨k,hk,rfl,⟨p',hG,Z,hS,y1,a2,b2,d2,g2⟩⟩:=hrel;have l:=k'8 hG Z hS y1 a2 b2 d2 g2;clear hG Z hS y1 a2 b2 d2 g2
   by_cases z3:k<n
   .have g3:(k:Int)<(n:Int):=by omega
    have j0:k<L.length:=by have:=V.a; omega
    have y3:k<(L.map gQ).length:=by have:=V.b; omega
    obtain⟨A',c',e',q2,-,-⟩:=(o3.o l.a).sl oF;injection e' with aJ e2 e3;subst aJ;clear e2 e3;obtain⟨b,j4,rfl,-,-,a1⟩:=iS (P:=prog) 17 RcV.cells oF (by omega) q2 k y3;rw[pQ]at a1;have q0:=a1 0;change Sem.run _ _ wr=.ok _ wr at q0;have p1:L.drop k=L[k]'j0::L.drop (k+1):=iF j0;have Z:=l.b;rw[p1]at Z;have a0:=k'2 (Zp Z) (m3.o _ (cU j0));clear a1 q2 p1 Z;generalize L[k]'j0=x at *;obtain⟨W5,q3,s5,x5,b5,-⟩:=eJ wr 124 [.i 0,.i 0,.i 0,.i 0,.string ⟨#[]⟩,.i 0,.i 0,.i 0,.i 0,.i 0,.i 0,.i 0,.i 0,.i 0,.i 0,.i 0,.slice none 0 0] (gQ x).cells rfl (Cp rfl);have l5:=x5.load (P:=prog) (k:=17) rfl;have o1:base≤W5.heap.size:=aB (aB E.D K.b.size) (aB l.a.size b5.size);have j3:=kp (Kb p' ps x W5 (l.a.o.below b5) o1 l.c a0.a.1 a0.B);have d3:=kp (l.a.post b5);clear x5 b5 o1;go_wp2_with fail;refine (j3.o).mono ?_;rintro e w6 ⟨rfl,p2,b0,e0⟩;have HN:=k'2 (d3.o.trans b0) e0;clear b0 e0 l5 s5 q3;go_wp2_with fail;go_roundw
    case rel=>
     have R:=HN.B;have m0:p2.x.rs=p'.x.rs++[tA x]:=bA Wp.rs R;have g4:p'.rs.length≤1000+k:=l.d;refine⟨k+1,by omega,by go_num,⟨p2,HN.a,by rw[R]; exact a0.a.2,by rw[R]; exact l.c.keep a0.B a0.a.1 (by show (p'.rs.map (·.x)).length<4000; rw[dD]; have:=j1.o; have:=V.a; omega),?_,?_,?_,?_,?_⟩⟩
     .have:=bA List.length m0;simp only[WkV.x,bF,dD,lH]at this;omega
     .have:=bA (fun q:Wp=>q.ms.length) R;simp only[WkV.x,Wp.keep,dD]at this;rw[this]; exact l.e
     .rw[←l.f]; exact bA (fun q:Wp=>q.r.commit) R
     .rw[←l.g]; exact bA (fun q:Wp=>q.r.st) R
     .rw[←l.H]; exact bA (fun q:Wp=>q.r.k.base) R
    case measure=>simp[intOf]; omega
   .obtain rfl:k=n:=by omega
    have z2:p'.x=T:=by
     have:=l.b;rw[Du (by have:=V.a; omega)]at this;exact Option.some.inj this
    have xw:=l.a.blk C.a (aN _) K.D;have lw:=xw.load (P:=prog) (k:=23) rfl;have b3:=kp (Zo p' ps m wr q l.a.o (aB (aB E.D K.b.size) l.a.size) l.c (by rw[l.H,l.f]; exact C.f) (by rw[l.g]; exact C.g) C.h (by rw[z2]; exact V.D) (by rw[l.e]; exact C.J));clear xw z2 z3;go_wp2_with fail;refine (b3.o).mono ?_;rintro e w6 ⟨rfl,p2,l4,b0,e0⟩;have HN:=k'2 ((l.a.trans b0).pre (E.c.on K.b)) e0;clear b0 e0 lw;go_wp2_with fail;go_ret;exact⟨rfl,.of HN.a HN.B⟩
 .exact⟨pv',pv',pv',pv',pv',pv',pv',pv',pv',fun _ _ _ _ _ h _=>h,fun _ _ _ _ _ h _=>h,fun _ _ _ _ _ h _=>h,fun _ _ _ _ _ h _=>h,fun _ _ _ _ _ h _=>h,trivial⟩
end
section
attribute [-go_sem] loadCellsFrom storeCells run_eql_struct run_neq_struct Instr.build
attribute [local go_sem] aX
structure HrS(p:WkV)(m:MgV):Prop where
 s:WpS p.x
 c:p.r.k.base≤p.r.commit
 r:stR p.r.s.x
 e:∀e∈m.es,enR e
 n:inR m.commit
 l:m.es.length≤2000
 rs:p.rs.length≤1000
 ms:p.ms.length≤1000
theorem WpS.inN{p:WkV}(S:WpS p.x):inR p.r.nodes:=by
 have:=S.nodes;exact⟨by show _≤p.x.r.nodes; omega,by show p.x.r.nodes≤_; omega⟩
theorem Gn.clock{w:World}{base g:Nat}{p:WkV}{a:List ObV}(h:WkO w base g 101 [] p a)(t:Int):Gn w (w.setCell ⟨g,17,none⟩ (.i t)) base g p ⟨p.r.timed t,p.rs,p.rv,p.ms,p.mv⟩ a:=
 ⟨(h.clock (.inl rfl) t).1,(h.clock (.inl rfl) t).2.mono fun _ _ h=>.inl h,fun _ h=>.inl h,fun _ h=>.inl h⟩
theorem Wp.prep_out{q r:Wp}{m:Mg}(h:q.prep m=some r)(a:¬(m.view=q.r.k.view∧gN q.r=true)):(q.timed 0).of (vH m q.r.commit 0)=r:=by
 unfold Wp.prep at h; rw[aF a]at h; exact Option.some.inj h
theorem Wp.prep_lead{q r:Wp}{m:Mg}(h:q.prep m=some r)(b:m.view=q.r.k.view∧gN q.r=true)(a:iQ q.r=true):q=r:=by
 unfold Wp.prep at h; rw[aK b,aK a]at h; exact Option.some.inj h
theorem Wp.prep_in{q r:Wp}{m:Mg}(h:q.prep m=some r)(c:m.view=q.r.k.view∧gN q.r=true)(b:iQ q.r=false):(kO q.r.k m.number m.es=true→((q.timed 0).keeps (m.es.filter fun e=>decide (q.r.k.last<e.n))).bind (fun q=>q.agree m)=some r)∧(kO q.r.k m.number m.es=false→(q.timed 0).of (vH m q.r.k.last 0)=r):=by
 unfold Wp.prep at h; rw[aK c,aF (by rw[b]; decide)]at h;refine⟨fun a=>?_,fun a=>?_⟩
 .rw[aK a]at h; exact h
 .rw[aF (by rw[a]; decide)]at h; exact Option.some.inj h
theorem Zs{g base B:Nat}(p:WkV)(ps:List ObV)(m:MgV)(a:Bool)(w:World)(q:Wp)(h:WkO w base g 101 [] p ps)(hm:Sl w B m.ev En.cells m.es)(d0:B≤base)(V:base≤w.heap.size)(S:HrS p m)(ha:a=true↔m.x.view=p.x.r.k.view∧gN p.x.r=true)(hq:p.x.prep m.x=some q):
  Calls prog 65 #[.pointer (some ⟨g,0,none⟩),.agg m.cells.toArray,.bool a] w fun e w'=>e=.returned (.tuple #[])∧pM w w' base g p q:=by
 obtain⟨W1,o1,x1,N,z1⟩:=par w 75 m.cells;have O:=h.below N;have a1:W1.cell? ⟨g,17,none⟩=some (.i p.r.timer):=O.blk.cell 17;have o0:=O.blk.frozen 17;have T:=Gn.clock O 0;have x2:=T.blk h (aN _) x1;have m2:=T.sl O d0 (aB V N.size) (Sl.below hm N (aB d0 V));obtain⟨W2,y0⟩:∃W,W1.setCell ⟨g,17,none⟩ (.i 0)=W:=⟨_,rfl⟩
 rw[y0]at T x2 m2;have a0:=aB V (aB N.size T.size);have l1:=O.blk.loadOff (P:=prog) 0 26 p.r.cells rfl rfl;have J:=k'4 O N (aB V N.size) x1;have M:=k'6 T x2 m2 a0 h hm;have i:=k'5 S hq ha d0 V;clear x1 N z1 O T x2 m2 a0 h hm d0 V S ha hq
 cases a
 .have U:=kp (Wp.prep_out i.b (fun hn=>by have:=i.c.2 hn; cases this));have HD:=kp (show Bw' W2 W2.drew from bL (aH _ _));have G:=k'2 (M.a.o.below HD.o) (M.b.grow HD.o);go_enter func65,ntmps65;go_wp2_with fail;clear a1 o0 l1 y0;refine fM 7 (fun W'=>Below W2.drew.heap.size W2.drew W') (fun _=>jK) (by kernel_rfl) (by kernel_rfl) (aH _ _) ?_
  iterate 7 (refine bE ?_; apply Exists.intro)
  refine cC ⟨?pers,?walk⟩
  case walk=>
   apply bB (by kernel_rfl) (by intro t w h; cases h; exact trivial) rfl
   .intro W' f y; go_wp2_with fail;exact⟨rfl,_,rfl,f,aH _ _,rfl⟩
   simp only[Act.put,aE,aC,aD];apply bB (by kernel_rfl) (by intro t w h; cases h; exact trivial) rfl
   .intro W' f y; have q7:=(G.B.grow f).load (P:=prog) (k:=23) rfl; go_wp2_with fail;exact⟨rfl,_,rfl,f,aH _ _,rfl⟩
   simp only[Act.put,aE,aC,aD]
   iterate 4
    apply bB (by kernel_rfl) (by intro t w h; cases h; exact trivial) rfl
    .intro W' f y; go_wp2_with fail;exact⟨rfl,_,rfl,f,aH _ _,rfl⟩
    simp only[Act.put,aE,aC,aD]
   apply bB (by kernel_rfl) (by intro t w h; cases h; exact trivial) rfl
   .intro W' f y; have q7:W'.cell? ⟨g,7,none⟩=some (.i p.r.commit):=(G.a.below f).blk.cell 7; go_wp2_with fail;exact⟨rfl,_,rfl,f,aH _ _,rfl⟩
   simp only[Act.put,aE,aC,aD];intro W3 f y;clear y;simp only[bS,bU];have HG:=kp (Kk _ ps m p.r.commit 0 W3 (G.a.below f) (aB M.d (aB HD.o.size f.size)) (by have:=i.a.ms; show p.ms.length≤_; omega));have HB:=kp (HD.o.on f);clear f;go_wp2_with fail;refine (HG.o).mono ?_;rintro e w4 ⟨rfl,p',hG,hx⟩;have A:=k'2 (((M.a.post HB.o).trans hG).pre J.b) (hx.trans U.o);clear hG hx;go_wp2_with fail;go_end0;exact⟨rfl,.of A.a A.B⟩
  case pers=>exact⟨pv',pv',pv',pv',pv',pv',pv',trivial⟩
 have hn:=i.c.1 rfl;obtain⟨z,hz⟩:=nm' (iQ p.x.r);have d1:=kp (by have:=xW p.r W1 i.a.s.inN; rw[show iQ p.r.x=z from hz]at this; exact this);have HZ:=k'2 hn hz;clear hn hz;go_enter func65,ntmps65;go_wp2_with fail;refine mb' (d1.o) fun w3 H=>?_
 cases z
 case true=>
  have U:=kp (Wp.prep_lead i.b HZ.a HZ.B);have A:=kp ((Gn.refl (J.a.below H)).pre (J.b.on H));clear H;go_wp2_with fail;go_end0;exact⟨rfl,.of A.o U.o⟩
 have U:=kp (Wp.prep_in i.b HZ.a HZ.B);have Z:=J.a.below H;have x3:=J.D.grow H;have a1:w3.cell? ⟨g,17,none⟩=some (.i p.r.timer):=Z.blk.cell 17;have o0:=Z.blk.frozen 17;have I:=Gn.clock Z 0;have x4:=I.blk M.e (aN _) x3;have g0:=aB J.c H.size;have m4:=I.sl Z i.d g0 (Sl.below M.F (J.b.on H) (aB i.d i.E));obtain⟨W4,j1⟩:∃W,w3.setCell ⟨g,17,none⟩ (.i 0)=W:=⟨_,rfl⟩
 rw[j1]at I x4 m4;have j0:=aB g0 I.size;have l4:=x4.load (P:=prog) (k:=23) rfl;have S0:WpS (WkV.x ⟨p.r.timed 0,p.rs,p.rv,p.ms,p.mv⟩):=⟨i.a.s.nodes,i.a.s.kept,i.a.s.kr,i.a.s.img,i.a.s.top,i.a.s.st,i.a.s.rs,i.a.s.ms⟩
 obtain⟨j,hj⟩:=nm' (kO p.r.k.x m.number m.es);have Y:=kp (fun(q':Wp)(m1:if kO p.r.k.x m.number m.es=true then ((WkV.x ⟨p.r.timed 0,p.rs,p.rv,p.ms,p.mv⟩).keeps (m.es.filter fun e=>decide (p.r.k.x.last<e.n))).bind (fun q=>q.agree m.x)=some q' else WkV.x ⟨p.r.timed 0,p.rs,p.rv,p.ms,p.mv⟩=q')=>
  Zr (q:=q') ⟨p.r.timed 0,p.rs,p.rv,p.ms,p.mv⟩ ps m W4 I.o m4 i.d j0 S0 i.a.c i.a.r i.a.e i.a.n i.a.l i.a.rs i.a.ms m1)
 have X:=k'5 (I.pre (J.b.on H)) x4 j0 I x3;clear Z x3 I x4 m4 H g0 j0 l1 S0;rw[show kO (RpV.timed p.r 0).k.x m.number m.es=kO p.r.k.x m.number m.es from rfl,hj]at Y;have m0:=kp hj;clear hj
 cases j
 case true=>
  have e0:=kp (Y.o q (by rw[aK rfl]; exact U.a m0.o));clear Y;go_wp2_with fail;refine (e0.o).mono ?_;rintro e R ⟨rfl,L,l0,K,Q⟩;have A:=k'2 (X.a.trans K) Q;clear K Q;go_wp2_with fail;go_end0;exact⟨rfl,.of A.a A.B⟩
 have e0:=kp (Y.o (WkV.x ⟨p.r.timed 0,p.rs,p.rv,p.ms,p.mv⟩) (by rw[aF (by decide)]));clear Y;go_wp2_with fail;refine (e0.o).mono ?_;rintro e R ⟨rfl,L,l0,K,Q⟩;have b0:=kp (show Bw' R R.drew from bL (aH _ _));have q0:=X.a.trans K;have x5:=(X.d.trans K).blk M.e (aN _) X.E;have G:=k'4 (K.o.below b0.o) (x5.grow b0.o) (q0.post b0.o) (aB X.c (aB K.size b0.o.size));have HP:=k'3 (show L.r.k.x=p.r.k.x from bA (fun q:Wp=>q.r.k) Q) (show L.ms.length=p.ms.length by have:=bA (fun q:Wp=>q.ms.length) Q; simpa [WkV.x] using this) Q;clear q0 x5 K Q;have g1:=kp (fun(W:World)(u:Below R.drew.heap.size R.drew W)=>by
  have hl:=i.a.s.log;have hk:=HP.a;exact qU L l0 W (G.a.below u) (by have e:L.r.k.base=p.r.k.base:=bA Kd.base hk; rw[e]; exact hl.1) (by have e:L.r.k.es=p.r.k.es:=bA Kd.es hk; rw[e]; exact aB hl.2.1 (by decide)))
 go_wp2_with fail;refine fM 4 (fun W'=>Below R.drew.heap.size R.drew W') (fun _=>jK) (by kernel_rfl) (by kernel_rfl) (aH _ _) ?_
 iterate 4 (refine bE ?_; apply Exists.intro)
 refine cC ⟨?pers,?walk⟩
 case walk=>
  apply bB (by kernel_rfl) (by intro t w h; cases h; exact trivial) rfl
  .intro W' f y; go_wp2_with fail;exact⟨rfl,_,rfl,f,aH _ _,rfl⟩
  simp only[Act.put,aE,aC,aD];apply bB (by kernel_rfl) (by intro t w h; cases h; exact trivial) rfl
  .intro W' f y; have q7:=(G.b.grow f).load (P:=prog) (k:=23) rfl; go_wp2_with fail;exact⟨rfl,_,rfl,f,aH _ _,rfl⟩
  simp only[Act.put,aE,aC,aD];apply bB (by kernel_rfl) (by intro t w h; cases h; exact trivial) rfl
  .intro W' f y; go_wp2_with fail;exact⟨rfl,_,rfl,f,aH _ _,rfl⟩
  simp only[Act.put,aE,aC,aD];apply bB (by kernel_rfl) (by intro t w h; cases h; exact trivial) rfl
  .intro W' f y;go_wp2_with fail;refine mb' (g1.o W' f) fun w2 a0=>?_;go_wp2_with fail;exact⟨rfl,_,rfl,f.on a0,a0,rfl⟩
  simp only[Act.put,aE,aC,aD];intro W6 f y;clear y;simp only[bS,bU];have HG:=kp (Kk L l0 m L.r.k.x.last 0 W6 (G.a.below f) (aB G.D f.size) (by rw[HP.b]; have:=i.a.ms; omega));have HB:=kp f;clear f;go_wp2_with fail;refine (HG.o).mono ?_;rintro e w7 ⟨rfl,p2,p0,z0⟩;have A:=k'2 ((G.c.post HB.o).trans p0) (show p2.x=q by
   rw[z0,HP.C,←U.B m0.o,HP.a];rfl)
  clear p0 z0;go_wp2_with fail;go_end0;exact⟨rfl,.of A.a A.B⟩
 case pers=>exact⟨pv',pv',pv',pv',trivial⟩
end
section
attribute [-go_sem] loadCellsFrom storeCells run_eql_struct run_neq_struct
attribute [local go_sem] aX
theorem Cy:(prog.info? 172).map (fun i=>(i.zero,i.size,i.bytes))=some (some (.agg #[.i 0,.i 0]),2,16):=by kernel_rfl
theorem Zt(A:Option Addr)(c:Nat)(w:World):∃z,Sem.run prog (Instr.slice 46 (.slice A 0 c) (some (.i 0)) none none) w=.ok z w:=by
 obtain⟨i,b,-,-,-⟩:=info_parts Cy
 cases A with
 |none=>exact⟨_,by simp[Instr.slice,run_underlying tU,Instr.sliceBounds,Instr.sliceBound,asIntOf,sizeOf,typeInfo,b]; rfl⟩
 |some a=>
  by_cases d:c=0
  .subst d; exact⟨_,by simp[Instr.slice,run_underlying tU,Instr.sliceBounds,Instr.sliceBound,asIntOf,sizeOf,typeInfo,b,Addr.add]; rfl⟩
  .exact⟨_,by simp[Instr.slice,run_underlying tU,Instr.sliceBounds,Instr.sliceBound,asIntOf,sizeOf,typeInfo,b,Addr.add,d]; rfl⟩
theorem Zu(A:Option Addr)(c:Nat)(n:Int)(f:Value)(w:World):Calls prog 103 #[.slice A 0 c,.i n,f] w fun e a=>e=.returned (.tuple #[.i 0,.bool false])∧a=w:=by
 go_enter func103,ntmps103;go_wp2_with fail
 go_loopw [9,10] (fun i j wr=>i=.i 0∧j=.i 0∧wr=w) (fun _ _ _=>0)
 case atStart=>exact⟨rfl,rfl,rfl⟩
 case round=>
  obtain⟨rfl,rfl,rfl⟩:=hrel;go_wp2_with fail;go_ret2;exact⟨rfl,rfl⟩
theorem Zv{base:Nat}(v v2:Value)(x:Ak)(B:Nat)(w:World)(h:Ow w base 172 2 v Ak.cells [])(b:Sl w B v2 Ak.cells [x])(f:base≤w.heap.size):
  Calls prog 106 #[v,.i 0,v2] w fun e j=>∃v',e=.returned v'∧Ow j base 172 2 v' Ak.cells [x]∧Below base w j:=by
 obtain⟨A,c,rfl,-⟩:=dO h;obtain⟨n,c2,rfl,-⟩:=id b;obtain⟨z,m⟩:=Zt A c w;have H:=k'2 h b;clear h b;go_enter func106,ntmps106;go_wp2_with (at_builtin; refine jD (enc:=Ak.cells) w rfl (.tmp 23) (.tmp 24) 46 rfl base 172 Cy tU rfl (by omega) lK H.a rfl H.B rfl (fun a _=>wK a) ?_ ?_ f ?_)
 .unfold maxLen; simp
 .simp
 intro o p i l g k;have d:=k'2 i (H.a.grew g f);clear i l g k m;go_wp2_with fail;go_ret;exact⟨_,rfl,d.a,d.B⟩
theorem Zw(n k:Int)(w:World):(Instr.build 172 #[(0,.i n),(1,.i k)]).run prog w=.ok (.agg #[.i n,.i k]) w:=run_build w _ _ _ (by kernel_rfl)
attribute [-go_sem] Instr.build
attribute [local go_sem] Zw
theorem Zx(v:Value)(n k:Int)(B:Nat)(w:World)(h:Sl w B v Ak.cells [])(j:B≤w.heap.size):
  Calls prog 67 #[v,.i n,.i k] w fun e q=>∃v',e=.returned v'∧Ow q w.heap.size 172 2 v' Ak.cells [⟨n,k⟩]∧Bw' w q:=by
 have x:=kp (fam'3.2.2.2.1 v [] B w h j (dJ _));clear h j;go_enter func67,ntmps67;go_wp2_with fail;refine (x.o).mono ?_;rintro e r ⟨v2,rfl,b,l⟩;have b:Ow r w.heap.size 172 2 v2 Ak.cells []:=b;obtain⟨A,c,rfl,-⟩:=dO b;have f:=k'2 b l;clear b l;go_wp2_with fail
 go_loopw [15] (fun i wr=>i=.i 0∧wr=r) (fun _ _=>0)
 case atStart=>exact⟨rfl,rfl⟩
 case round=>
  obtain⟨rfl,rfl⟩:=hrel;go_wp2_with fail;refine ms' (Zu A c n _ _) ?_;have d:=gG (enc:=Ak.cells) wr 172 ⟨n,k⟩;have aQ:=ba' wr (.cells #[.i n,.i k] 172);obtain⟨z,C⟩:=nm' (wr.alloc (.cells #[.i n,.i k] 172));change Sl (wr.alloc (.cells #[.i n,.i k] 172)) _ _ _ _ at d;rw[C]at d aQ;have y:=kp (Zv _ _ _ _ z (f.a.below aQ) d (aB f.B.size aQ.size));have s:=kp (f.B.on aQ);clear d aQ;go_wp2_with fail;refine (y.o).mono ?_;rintro e E ⟨D,rfl,p,m⟩;have g:=k'2 p (s.o.trans m);clear p m;go_wp2_with fail;go_ret;exact⟨_,rfl,g.a,g.B⟩
theorem Zy(a:Ak)(n:Int)(w:World):Calls prog 104 #[.agg #[.i a.n,.i a.k],.i n] w fun e g=>e=.returned (.i (eN a.n n))∧Bw' w g:=by
 obtain⟨b,i,d,c,h⟩:=par w 172 [.i a.n,.i a.k];have j:b.cell? ⟨w.heap.size,0,none⟩=some (.i a.n):=d.cell 0;have f:=kp c;clear c d h;go_enter func104,ntmps104;go_wp2_with fail;refine ms' (qG a.n n b) ?_;go_wp2_with fail;go_ret;exact⟨rfl,f.o⟩
theorem Zz{base:Nat}(v:Value)(a:Ak)(n:Int)(w:World)(h:Ow w base 172 2 v Ak.cells [a])(g:a.n<n):Calls prog 103 #[v,.i n,.func (.func 104) #[] #[]] w fun e x=>e=.returned (.tuple #[.i 1,.bool false])∧Bw' w x:=by
 obtain⟨b,c,rfl,-,-,-,-,f,-⟩:=h.at_ lK (by decide) (by show 0<1; decide);have p:w.cell? ⟨b,0,none⟩=some (.i a.n):=by have:=f 0 (by show 0<1; decide) 0 _ rfl; simpa using this
 have q:w.cell? ⟨b,1,none⟩=some (.i a.k):=by have:=f 0 (by show 0<1; decide) 1 _ rfl; simpa using this
 have r:=Gg (P:=prog) p q;have s:=kp (by have:=Zy a n w; rw[show eN a.n n= -1 by unfold eN; rw[aK g]]at this; exact this);clear f h p q g;go_enter func103,ntmps103;go_wp2_with fail
 go_loopw [9,10] (fun i j wr=>(i=.i 0∧j=.i 1∧wr=w)∨(i=.i 1∧j=.i 1∧Bw' w wr)) (fun i _ _=>1-(intOf i).toNat)
 case atStart=>exact .inl ⟨rfl,rfl,rfl⟩
 case round=>
  rcases hrel with⟨rfl,rfl,rfl⟩|⟨rfl,rfl,l⟩
  .go_wp2_with fail;refine mb' (s.o) fun y m=>?_;have d:=kp m;clear m r;go_wp2_with fail;go_roundw
   case rel=>exact .inr ⟨rfl,rfl,d.o⟩
   case measure=>simp[intOf]
  .have d:=kp l;clear l r;go_wp2_with fail;go_ret2;exact⟨rfl,d.o⟩
theorem aAa{base:Nat}(v v2:Value)(a x:Ak)(B:Nat)(w:World)(h:Ow w base 172 2 v Ak.cells [a])(d:Sl w B v2 Ak.cells [x])(g:base≤w.heap.size):
  Calls prog 106 #[v,.i 1,v2] w fun e l=>∃v',e=.returned v'∧Ow l base 172 2 v' Ak.cells [a,x]∧Below base w l:=by
 obtain⟨b,c,rfl,-,-,i,-⟩:=h.at_ lK (by decide) (by show 0<1; decide);have p:1≤c:=i;obtain⟨o,c2,rfl,-⟩:=id d;have H:=k'2 h d;clear h d i;go_enter func106,ntmps106;go_wp2_with (at_builtin; refine jD (enc:=Ak.cells) w rfl (.tmp 23) (.tmp 24) 46 rfl base 172 Cy tU rfl (by omega) lK H.a rfl H.B rfl (fun a _=>wK a) ?_ ?_ g ?_)
 any_goals (first |(show _≤maxLen; unfold maxLen; simp; done)|(show _*16≤_; simp; done))
 all_goals
  intro q r k n j m;have f:=k'2 k (H.a.grew j g);clear k n j m;go_wp2_with fail;go_ret;exact⟨_,rfl,f.a,f.B⟩
theorem aAb(v:Value)(n k:Int)(a:Ak)(B:Nat)(w:World)(h:Sl w B v Ak.cells [a])(r:B≤w.heap.size)(s:a.n<n):
  Calls prog 67 #[v,.i n,.i k] w fun e D=>∃v',e=.returned v'∧Ow D w.heap.size 172 2 v' Ak.cells [a,⟨n,k⟩]∧Bw' w D:=by
 have H:=kp (fam'3.2.2.2.1 v [a] B w h r (by show 1≤_; decide));clear h r;go_enter func67,ntmps67;go_wp2_with fail;refine (H.o).mono ?_;rintro e E ⟨v2,rfl,f,x⟩;have f:Ow E w.heap.size 172 2 v2 Ak.cells [a]:=f;obtain⟨b,c,rfl,-⟩:=f.at_ lK (by decide) (by show 0<1; decide);have g:=k'2 f x;clear f x;go_wp2_with fail
 go_loopw [15] (fun i wr=>(i=.i 0∨i=.i 1)∧Bw' E wr) (fun i _=>1-(intOf i).toNat)
 case atStart=>exact⟨.inl rfl,aH _ _⟩
 case round=>
  obtain⟨rfl|rfl,d⟩:=hrel
  .have p:=kp d;clear d;go_wp2_with fail;refine cX (by kernel_rfl) (by kernel_rfl) ?_
   repeat (go_big_quiet_step (fail))
   refine cI ?_;rintro M ⟨⟨_,y⟩,rfl⟩;have G:=kp (p.o.on y);clear y;go_wp2_with fail;go_roundw
   case rel=>exact⟨.inr rfl,G.o⟩
   case measure=>simp[intOf]
  .have p:=kp d;have J:=kp (Zz _ a n wr (g.a.below d) s);clear d s;go_wp2_with fail;refine mb' (J.o) fun m z=>?_;have j:=p.o.on z;have l:=gG (enc:=Ak.cells) m 172 ⟨n,k⟩;have aQ:=ba' m (.cells #[.i n,.i k] 172);obtain⟨K,L⟩:=nm' (m.alloc (.cells #[.i n,.i k] 172));change Sl (m.alloc (.cells #[.i n,.i k] 172)) _ _ _ _ at l;rw[L]at l aQ;have I:=kp (aAa _ _ a _ _ K ((g.a.below j).below aQ) l (aB g.B.size (aB j.size aQ.size)));have F:=kp (g.B.on (j.on aQ));clear l aQ j z;go_wp2_with fail;refine (I.o).mono ?_;rintro e O ⟨N,rfl,C,A⟩;have q:=k'2 C (F.o.trans A);clear C A;go_wp2_with fail;go_ret;exact⟨_,rfl,q.a,q.B⟩
end
end Go.Proofs.YtoncgpddjmgbfaaGreat
