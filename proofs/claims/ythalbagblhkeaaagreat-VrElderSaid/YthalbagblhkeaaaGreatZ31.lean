import Derived.Test.YthalbagblhkeaaaGreatZ27
import Derived.Test.YthalbagblhkeaaaGreatZ30
namespace Go.Proofs.YthalbagblhkeaaaGreat
open Go.RowKit Go.Proofs.Tryz
set_option maxRecDepth 100000
set_option maxHeartbeats 12800000
set_option linter.unusedVariables false
set_option linter.unusedSimpArgs false
section
attribute [-go_sem] loadCellsFrom storeCells run_eql_struct run_neq_struct Instr.build
attribute [local go_sem] bC
def aCF(m:MgV)(number offset:Int):MgV:=⟨8,0,m.src,m.view,0,number,0,0,[],.slice none 0 0,offset,0,⟨#[]⟩,0,pV,0,0,false⟩
def okV(d0 number:Int):MgV:=⟨4,0,d0,0,0,number,0,0,[],.slice none 0 0,0,0,⟨#[]⟩,0,pV,0,0,false⟩
theorem aDF(a d b c:Int)(w:World):(Instr.build 48 #[(0,.i 8),(2,.i a),(3,.i d),(5,.i b),(9,.i c)]).run prog w=.ok (.agg (MgV.cells ⟨8,0,a,d,0,b,0,0,[],.slice none 0 0,c,0,⟨#[]⟩,0,pV,0,0,false⟩).toArray) w:=run_build w _ _ _ (by kernel_rfl)
theorem aDG(a b:Int)(w:World):(Instr.build 48 #[(0,.i 4),(2,.i a),(5,.i b)]).run prog w=.ok (.agg (okV a b).cells.toArray) w:=run_build w _ _ _ (by kernel_rfl)
attribute [local go_sem] aDF aDG
theorem aCG{g base:Nat}(p:WkV)(ps:List ObV)(m:MgV)(d f:Int)(w:World)(h:WkO w base g 79 [] p ps)(n:base≤w.heap.size)(s:p.ms.length≤100000):
  Calls prog 119 #[.pointer (some ⟨g,0,none⟩),.agg m.cells.toArray,.i d,.i f] w fun e y=>e=.returned (.tuple #[])∧∃p',aEG w y base g p p' ps∧p'.x=p.x.of (aBX m.x d f):=by
 obtain⟨c,A,i,b,z⟩:=par w 48 m.cells;have C:c.cell? ⟨w.heap.size,1,none⟩=some (.i m.src):=i.cell 1;have D:c.cell? ⟨w.heap.size,3,none⟩=some (.i m.view):=i.cell 3;have k:=kp (aC5 p ps (aCF m d f) c (h.below b) (Ow.nil _ _ _ _ _) (by omega) (aB n b.size) (by show (8:Int)≠0; decide) (cY _));have r:=kp b;unfold aCF at k;clear i b z h n s;go_enter func119,ntmps119;go_wp2_with fail;refine (k.o).mono ?_;rintro e E ⟨rfl,p',l,q⟩;have j:=k'2 (l.pre r.o) q;clear l q;go_wp2_with fail;go_end0;exact⟨rfl,p',j.a,j.B⟩
theorem aCH(id a:Int):∀(l:List En)(s:St),(lH id a s l).2.length≤l.length
 |[],_=>aD _
 |e::l,s=>by
  have:=aCH id a l (jC s e).1;unfold lH;simp only[bB,eV]
  split<;>simp<;>omega
theorem aEF.reach_keeps{q r:aEF}{n:Int}(h:q.reach n=some r):r.r.k=q.r.k∧r.ms.length≤q.ms.length+q.r.k.es.length:=by
 unfold aEF.reach at h
 split at h
 .cases h; exact⟨rfl,by omega⟩
 split at h
 .cases h
 .cases h;refine⟨rfl,?_⟩;simp only[bB]
  split
  .have a:=aCH q.r.id q.r.k.view (xG q.r.k q.r.commit (n-q.r.commit)) q.r.st;have b:=aCs q.r.k q.r.commit (n-q.r.commit);omega
  .simp
theorem aDH{g base:Nat}(p:WkV)(ps:List ObV)(m:MgV)(w:World)(q:aEF)(h:WkO w base g 79 [] p ps)(Z:base≤w.heap.size)(S:WpS p.x)(hc:p.r.k.base≤p.r.commit)(hr:stR p.r.s.x)(hn:inR m.commit)(y:p.x.agree m.x=some q)(Q:p.ms.length≤1000):
  Calls prog 167 #[.pointer (some ⟨g,0,none⟩),.agg m.cells.toArray] w fun e w'=>e=.returned (.tuple #[])∧aBI w w' base g p q:=by
 obtain⟨l,b0,z0⟩:∃l,p.x.reach (min m.commit p.r.k.x.last)=some l∧l.send (okM m.src l.r.k.last)=q:=by
  unfold aEF.agree at y
  cases hx:p.x.reach (min m.commit p.r.k.x.last) with
  |none=>rw[show p.x.reach (min m.x.commit p.x.r.k.last)=none from hx]at y; cases y
  |some l=>rw[show p.x.reach (min m.x.commit p.x.r.k.last)=some l from hx]at y; exact⟨l,rfl,Option.some.inj y⟩
 obtain⟨i,a1,x1,F,z1⟩:=par w 48 m.cells;have E:=kp (show Bw' i i.drew from bR (aL _ _));have L:=S.log;have d0:=S.top;have K:=(h.below F).below E.o;have J:=k'4 K (x1.grow E.o) (F.on E.o) (aB Z (F.on E.o).size);have T:=k'2 h F;have m0:=kp (fun(W:World)(u:Below i.drew.heap.size i.drew W)=>aAD p ps W (K.below u) L.1 (aB L.2.1 (by decide)));have a0:inR (min m.commit p.r.k.x.last):=by
  have P:0≤p.r.k.x.last:=L.2.2.1;have h4:p.r.k.x.last≤900000000:=d0;obtain⟨h5,h6⟩:=hn;constructor<;>omega
 have q0:=kp (fun(W:World)(u:Below i.drew.heap.size i.drew W)=>aCE p ps (min m.commit p.r.k.x.last) W l (K.below u) (aB J.D u.size) S hc hr a0 b0 Q);have HQ:=kp z0;have O:=k'2 S Q;clear x1 F z1 L d0 K h Z S hc hr hn y Q a0;go_enter func167,ntmps167;go_wp2_with fail;refine kU 6 (fun W'=>Below i.drew.heap.size i.drew W') (fun _=>rM) (by kernel_rfl) (by kernel_rfl) (aL _ _) ?_
 iterate 6 (refine bO ?_; apply Exists.intro)
 refine dR ⟨?_,?_⟩
 rotate_left
 iterate 2
  apply Sz (by kernel_rfl) (by intro t w h; cases h; exact trivial) rfl
  .intro W' d f; go_wp2_with fail;exact⟨rfl,_,rfl,d,aL _ _,rfl⟩
  simp only[Act.put,aN,aH,aI]
 apply Sz (by kernel_rfl) (by intro t w h; cases h; exact trivial) rfl
 .intro W' d f; have q7:W'.cell? ⟨w.heap.size,7,none⟩=some (.i m.commit):=(J.b.grow d).cell 7; go_wp2_with fail;exact⟨rfl,_,rfl,d,aL _ _,rfl⟩
 simp only[Act.put,aN,aH,aI];apply Sz (by kernel_rfl) (by intro t w h; cases h; exact trivial) rfl
 .intro W' d f; go_wp2_with fail;exact⟨rfl,_,rfl,d,aL _ _,rfl⟩
 simp only[Act.put,aN,aH,aI];apply Sz (by kernel_rfl) (by intro t w h; cases h; exact trivial) rfl
 .intro W' d f;go_wp2_with fail;refine mb' (m0.o W' d) fun w2 H=>?_;go_wp2_with fail;exact⟨rfl,_,rfl,d.on H,H,rfl⟩
 simp only[Act.put,aN,aH,aI];apply Sz (by kernel_rfl) (by intro t w h; cases h; exact trivial) rfl
 .intro W' d f; go_wp2_with fail;exact⟨rfl,_,rfl,d,aL _ _,rfl⟩
 simp only[Act.put,aN,aH,aI];intro W2 d f;clear f;simp only[dO,dP];have p0:=kp (q0.o W2 d);have M:=kp d;clear d;go_wp2_with fail;refine (p0.o).mono ?_;rintro e z ⟨rfl,j,j0,G,e0⟩;have R:=e0;have n:=aEF.reach_keeps b0;rw[←R]at n;have N:=k'3 (show j.r.k.x=p.r.k.x from n.1) (show j.ms.length≤5000 by have V:=n.2; have P:=O.a.log.2.1; have h4:=O.B; simp only[WkV.x,cW]at V P; change _≤_+p.r.k.es.length at V; change p.r.k.es.length≤_ at P; omega) R;have Y:=G.pre (T.B.on (E.o.on M.o));have x3:=G.blk T.a (aD _) (J.b.grow M.o);have I:=kp (show Bw' z z.drew from bR (aL _ _));have A:=k'4 (G.o.below I.o) (x3.grow I.o) (Y.post I.o) (aB (aB J.D M.o.size) (aB G.size I.o.size));clear e0 R n Y x3 G;have o0:=kp (fun(W:World)(u:Below z.drew.heap.size z.drew W)=>by
  have hl:=O.a.log;have n:j.r.k.x=p.r.k.x:=N.a;have:=aAD j j0 W (A.a.below u) (by have e:j.r.k.base=p.r.k.base:=bG Kd.base n; rw[e]; exact hl.1) (by have e:j.r.k.es=p.r.k.es:=bG Kd.es n; rw[e]; exact aB hl.2.1 (by decide));exact this)
 go_wp2_with fail;refine kU 6 (fun W'=>Below z.drew.heap.size z.drew W') (fun _=>rM) (by kernel_rfl) (by kernel_rfl) (aL _ _) ?_
 iterate 6 (refine bO ?_; apply Exists.intro)
 refine dR ⟨?_,?_⟩
 rotate_left
 iterate 2
  apply Sz (by kernel_rfl) (by intro t w h; cases h; exact trivial) rfl
  .intro W' d f; go_wp2_with fail;exact⟨rfl,_,rfl,d,aL _ _,rfl⟩
  simp only[Act.put,aN,aH,aI]
 apply Sz (by kernel_rfl) (by intro t w h; cases h; exact trivial) rfl
 .intro W' d f; have q7:W'.cell? ⟨w.heap.size,1,none⟩=some (.i m.src):=(A.b.grow d).cell 1; go_wp2_with fail;exact⟨rfl,_,rfl,d,aL _ _,rfl⟩
 simp only[Act.put,aN,aH,aI];apply Sz (by kernel_rfl) (by intro t w h; cases h; exact trivial) rfl
 .intro W' d f; go_wp2_with fail;exact⟨rfl,_,rfl,d,aL _ _,rfl⟩
 simp only[Act.put,aN,aH,aI];apply Sz (by kernel_rfl) (by intro t w h; cases h; exact trivial) rfl
 .intro W' d f;go_wp2_with fail;refine mb' (o0.o W' d) fun w2 H=>?_;go_wp2_with fail;exact⟨rfl,_,rfl,d.on H,H,rfl⟩
 simp only[Act.put,aN,aH,aI];apply Sz (by kernel_rfl) (by intro t w h; cases h; exact trivial) rfl
 .intro W' d f; go_wp2_with fail;exact⟨rfl,_,rfl,d,aL _ _,rfl⟩
 simp only[Act.put,aN,aH,aI];intro W4 d f;clear f;simp only[dO,dP];have y0:=kp (aB9 j j0 (okV m.src j.r.k.x.last) W4 (A.a.below d) (Ow.nil _ _ _ _ _) (by have:=N.b; omega) (aB A.D d.size) (by show (4:Int)≠0; decide) (cY _));have l0:=kp d;clear d;go_wp2_with fail;refine (y0.o).mono ?_;rintro e w5 ⟨rfl,p2,X,g0⟩;have U:=k'2 ((A.c.post l0.o).trans X) (show p2.x=q by rw[g0,←HQ.o,←N.C]; rfl);clear X g0;go_wp2_with fail;go_end0;exact⟨rfl,.of U.a U.B⟩;exact⟨pv',pv',pv',pv',pv',pv',trivial⟩;exact⟨pv',pv',pv',pv',pv',pv',trivial⟩
theorem aDI{q r:aEF}{e:En}{l:List En}(h:q.keeps (e::l)=some r):So q.r.k e=true∧(q.keep e).keeps l=some r:=by
 unfold aEF.keeps at h
 by_cases a:So q.r.k e=true
 .rw[aE a]at h; exact⟨a,h⟩
 .rw[aC a]at h; cases h
def aB2(Wa:World)(b:Bool)(l:List RcV)(z:Value)(W:World):Prop:=∃u,z=.tuple #[u,.bool b]∧Ow W Wa.heap.size 101 17 u RcV.cells l
theorem aB2.stab(Wa:World)(b:Bool)(l:List RcV):qE 32 (aB2 Wa b l):=
 ⟨fun _ _ _ ⟨u,e,h⟩ c=>⟨u,e,h.below c⟩,fun _ W a _ cs' ⟨u,e,h⟩ d=>⟨u,e,h.chg_blk d ((Chg.refl (fun i=>i=a) W).setRow (.inr rfl) cs') (by decide)⟩⟩
structure JnI(w9 W:World)(base g:Nat)(p:WkV)(ps:List ObV)(q1:aEF)(l:List En)(k:Nat):Prop where
 o:∃p',aEG w9 W base g p p' ps∧p'.x.keeps l=some q1∧WpS p'.x∧p'.rs.length≤1000+k∧p'.ms.length=p.ms.length∧p'.r.commit=p.r.commit∧p'.r.s.x=p.r.s.x∧p'.r.k.base=p.r.k.base
structure JoV(Wa:World)(b:Bool)(l:List RcV)(X:Nat→Option Value)(W:World):Prop where
 c:CAl Wa 32 mF 46 [] (aB2 Wa b l) vY 9 10 11 1000 1001 1002 X W
 s:∀z,X 13=some z→X 11=some z
theorem JoV.step{Wa W W':World}{b:Bool}{l:List RcV}{X:Nat→Option Value}{j:Nat}{u:Value}(h:JoV Wa b l X W)(g:CAl Wa 32 mF 46 [] (aB2 Wa b l) vY 9 10 11 1000 1001 1002 (bD X j u) W')(e:13≠j)(f:11=j→X 11=none):JoV Wa b l (bD X j u) W':=by
 refine⟨g,fun z d=>?_⟩;rw[aR e]at d;have a:=h.s z d
 by_cases c:11=j
 .rw[f c]at a; cases a
 .rw[aR c]; exact a
def aDJ(b:Bool)(z:Value)(_:World):Prop:=z=.bool b
theorem aDK{g base B:Nat}(p:WkV)(ps:List ObV)(m:MgV)(w:World)(q:aEF)(h:WkO w base g 79 [] p ps)(hm:Sl w B m.ev En.cells m.es)(p0:B≤base)(hb:base≤w.heap.size)(S:WpS p.x)(hc:p.r.k.base≤p.r.commit)(hr:stR p.r.s.x)(hR:∀e∈m.es,enR e)(hn:inR m.commit)(hl:m.es.length≤2000)(m0:p.rs.length≤1000)(j2:p.ms.length≤1000)
  (hq:if xH p.r.k.x m.number m.es=true then (p.x.keeps (m.es.filter fun e=>decide (p.r.k.x.last<e.n))).bind (fun q=>q.agree m.x)=some q else p.x=q):
  Calls prog 120 #[.pointer (some ⟨g,0,none⟩),.agg m.cells.toArray] w fun e w'=>e=.returned (.bool (xH p.r.k.x m.number m.es))∧aBI w w' base g p q:=by
 obtain⟨F,d4,x1,b1,z1⟩:=par w 48 m.cells;have HD:=kp (show Bw' F F.drew from bR (aL _ _));have d1:=S.log;have y2:=S.top;have g0:=aB p0 hb;have O:=b1.on HD.o;have h1:=h.below O;have m1:=Sl.below hm O g0;obtain⟨o,I⟩:=nm' (xH p.r.k.x m.number m.es);obtain⟨L,hL⟩:=nm' (m.es.filter fun e=>decide (p.r.k.x.last<e.n));have HJ:=kp (fun(W:World)(u:Below F.drew.heap.size F.drew W)=>by
  have:=aDv p.r.k m.number m.ev m.es W.heap.size W ((h1.below u).rep.es.sl eL) (Sl.more (Sl.below m1 u (aB g0 O.size)) (aB (aB g0 O.size) u.size)) (aD _) S.kept S.kr S.img d1.1 d1.2.1 y2 hl (fun e Q=>(hR e Q).1);rw[I,hL]at this;exact this)
 obtain⟨Y,y0⟩:∃Y,(if o=true then L.map sG else [])=Y:=⟨_,rfl⟩
 rw[y0]at HJ;have l3:=kp y0;have E:=k'4 h1 (x1.grow HD.o) O (aB hb O.size);have C:=k'a h hm p0 hb S hc hr hn m0 j2;have j1:=kp (show L.length≤2000 from hL▸aB (nB _ _) hl);have m3:=kp (show ∀e∈L,enR e from fun e Q=>hR e (by rw[←hL]at Q; exact (List.mem_filter.1 Q).1));rw[I]at hq ⊢;rw[hL]at hq;have HQ:=kp hq;clear x1 b1 z1 d1 y2 g0 O h1 m1 I hL y0 h hm p0 hb S hc hr hR hn hl m0 j2 hq;go_enter func120,ntmps120;go_wp2_with fail;have p3:=kp (aB2.stab F.drew o Y);refine fR 14 (JoV F.drew o Y) (fun _=>fK) (by kernel_rfl) (by kernel_rfl) ⟨CAl.start,fun _ h=>(nomatch h)⟩ ?_
 iterate 9 (refine bO ?_; apply Exists.intro)
 iterate 3 (refine bS eM ?_)
 refine bS (aDJ o) ?_;refine bS eM ?_;refine dR ⟨?_,?_⟩
 rotate_left
 .iterate 9
   apply Ug (by kernel_rfl) (by intro t w h; cases h; exact trivial) rfl
   .intro X W' j N hw G M;have b:=E.a.blk.grow j.c.bel;have l2:=b.loadOff (P:=prog) 2 5 p.r.k.cells rfl rfl;have k5:W'.cell? ⟨w.heap.size,5,none⟩=some (.i m.number):=(E.b.grow j.c.bel).cell 5;have k8:W'.cell? ⟨w.heap.size,8,none⟩=some m.ev:=(E.b.grow j.c.bel).cell 8;clear b;go_wp2_with fail;exact⟨rfl,_,rfl,j.step (j.c.other (by decide)) (by decide) (fun h=>absurd h (by decide)),aV,rfl⟩
   simp only[Act.put,aN,aH,aI,aT,aW]
  refine⟨fun X W' j N hw G M=>?_,fun u9=>?_⟩
  .go_wp2_with fail;refine (HJ.o W' j.c.bel).mono ?_;rintro e m4 ⟨u,rfl,I,l1⟩;have d0:=j.step (j.c.doCall p3.o N l1 ⟨u,rfl,I.mono j.c.bel.size⟩ (by decide)) (by decide) (fun h=>absurd h (by decide));clear I l1;go_wp2_with fail;exact⟨rfl,_,rfl,d0,aV,trivial⟩
  simp only[Act.put,aN,aH,aI,aT,aW];refine⟨fun X W' j N hw G M=>?_,fun o0=>?_⟩
  .have h6:X 9=some u9:=G 9 19 u9 (by kernel_rfl) (by kernel_rfl) (bT (by kernel_rfl)) rfl;go_wp2_with fail;exact⟨rfl,_,rfl,j.step (j.c.doMv h6 (by decide)) (by decide) (fun h=>absurd h (by decide)),aV,trivial⟩
  simp only[Act.put,aN,aH,aI,aT,aW];refine⟨fun X W' j N hw G M=>?_,fun U=>?_⟩
  .have h7:X 10=some o0:=G 10 9 o0 (by kernel_rfl) (by kernel_rfl) (bT (by kernel_rfl)) rfl;have h6:=j.c.mv _ h7;obtain⟨v,rfl,-⟩:=j.c.call _ h6;have d0:=j.step (j.c.doExt N h6 ⟨_,rfl⟩ (by decide)) (by decide) (fun _=>N);clear h6 h7;go_wp2_with fail;exact⟨rfl,_,rfl,d0,aV,trivial⟩
  simp only[Act.put,aN,aH,aI,aT,aW];refine⟨fun X W' j N hw G M=>?_,fun a4=>?_⟩
  .have h7:X 10=some o0:=G 10 9 o0 (by kernel_rfl) (by kernel_rfl) (bT (by kernel_rfl)) rfl;obtain⟨v,rfl,-⟩:=j.c.call _ (j.c.mv _ h7);clear h7;go_wp2_with fail;exact⟨rfl,_,rfl,j.step (j.c.other (by decide)) (by decide) (fun h=>absurd h (by decide)),aV,rfl⟩
  simp only[Act.put,aN,aH,aI,aT,aW];refine⟨fun X W' j N hw G M=>?_,fun a3=>?_⟩
  .have h8:X 11=some U:=G 11 20 U (by kernel_rfl) (by kernel_rfl) (bT (by kernel_rfl)) rfl;have d0:JoV F.drew o Y (bD X 13 U) W':=⟨j.c.other (by decide),fun z hz=>by
    rw[qF]at hz; cases hz;rw[aR (by decide)]; exact h8⟩
   clear h8;go_wp2_with fail;exact⟨rfl,_,rfl,d0,aV,trivial⟩
  simp only[Act.put,aT,aW];intro W9 j M;have hr:a4=.bool o:=M 21;subst hr;clear M;simp only[dO,dP];obtain rfl:U=a3:=Option.some.inj (j.s a3 rfl);obtain⟨u,hu,y,Q⟩:=j.c.ext U rfl;obtain⟨v,z0,I⟩:=j.c.call _ hu;rw[Q]at z0;obtain⟨rfl,-⟩:U=v∧y=.bool o:=by simpa using z0
  have K:=k'4 I j.c.bel (E.a.below j.c.bel) (E.b.grow j.c.bel);clear j hu Q z0 I
  cases o
  .have HE:=kp (show p.x=q by have:=HQ.o; rw[aC (by decide)]at this; exact this);go_wp2_with fail;go_ret;exact⟨rfl,.of ((aEG.refl K.c).pre (E.c.on K.b)) HE.o⟩
  obtain⟨T,m2,o2⟩:∃T,p.x.keeps L=some T∧T.agree m.x=some q:=by
   have:=HQ.o;rw[aE rfl]at this
   cases hk:p.x.keeps L with
   |none=>rw[hk]at this; cases this
   |some T=>rw[hk]at this; exact⟨T,rfl,this⟩
  have HO:=kp (show Ow W9 F.drew.heap.size 101 17 U RcV.cells (L.map sG) from (show L.map sG=Y by rw[←l3.o,aE rfl])▸K.a);obtain⟨A,c,rfl,-⟩:=HO.o.sl nW;obtain⟨n,l0⟩:=nm' L.length;have g1:(L.map sG).length=n:=by rw[cW]; exact l0
  rw[g1]at HO ⊢;have e4:n≤2000:=l0▸j1.o;have V:=k'4 l0 g1 m2 o2;have o3:=kp (fun{wr:World}{p':WkV}(hG:aEG W9 wr base g p p' ps)=>show Ow wr F.drew.heap.size 101 17 (.slice A n c) RcV.cells (L.map sG) from HO.o.chg hG.c (fun i e hi=>by
   have h1:=(HO.o.lt e).1;have h2:=E.c.size;rcases hi with rfl|hi|hi
   .have:=C.a.blk.lt; omega
   .have:=(C.a.rs.lt hi).2; omega
   .have:=(C.a.ms.lt hi).2; omega))
  clear l0 g1 m2 o2;go_wp2_with fail
  go_loopw [25] (fun i wr=>∃k:Nat,k≤n∧i=.i k∧JnI W9 wr base g p ps T (L.drop k) k) (fun i _=>n-(intOf i).toNat)
  case atStart=>exact⟨0,by omega,rfl,⟨p,aEG.refl K.c,V.c,C.e,C.i,rfl,rfl,rfl,rfl⟩⟩
  case round=>
   obtain⟨k,hk,rfl,⟨p',hG,Z,hS,y1,a2,b2,d2,g2⟩⟩:=hrel;have l:=k'8 hG Z hS y1 a2 b2 d2 g2;clear hG Z hS y1 a2 b2 d2 g2
   by_cases z3:k<n
   .have g3:(k:Int)<(n:Int):=by omega
    have j0:k<L.length:=by have:=V.a; omega
    have y3:k<(L.map sG).length:=by have:=V.b; omega
    obtain⟨A',c',e',q2,-,-⟩:=(o3.o l.a).sl nW;injection e' with cG e2 e3;subst cG;clear e2 e3;obtain⟨b,j4,rfl,-,-,a1⟩:=dB (P:=prog) 17 RcV.cells nW (by omega) q2 k y3;rw[kY]at a1;have q0:=a1 0;change Sem.run _ _ wr=.ok _ wr at q0;have p1:L.drop k=L[k]'j0::L.drop (k+1):=fG j0;have Z:=l.b;rw[p1]at Z;have a0:=k'2 (aDI Z) (m3.o _ (bK j0));clear a1 q2 p1 Z;generalize L[k]'j0=x at *;obtain⟨W5,q3,s5,x5,b5,-⟩:=fB wr 101 [.i 0,.i 0,.i 0,.i 0,.string ⟨#[]⟩,.i 0,.i 0,.i 0,.i 0,.i 0,.i 0,.i 0,.i 0,.i 0,.i 0,.i 0,.slice none 0 0] (sG x).cells rfl (No rfl);have l5:=x5.load (P:=prog) (k:=17) rfl;have o1:base≤W5.heap.size:=aB (aB E.D K.b.size) (aB l.a.size b5.size);have j3:=kp (aCz p' ps x W5 (l.a.o.below b5) o1 l.c a0.a.1 a0.B);have d3:=kp (l.a.post b5);clear x5 b5 o1;go_wp2_with fail;refine (j3.o).mono ?_;rintro e w6 ⟨rfl,p2,b0,e0⟩;have HN:=k'2 (d3.o.trans b0) e0;clear b0 e0 l5 s5 q3;go_wp2_with fail;go_roundw
    case rel=>
     have R:=HN.B;have m0:p2.x.rs=p'.x.rs++[aBK x]:=bG aEF.rs R;have g4:p'.rs.length≤1000+k:=l.d;refine⟨k+1,by omega,by go_num,⟨p2,HN.a,by rw[R]; exact a0.a.2,by rw[R]; exact l.c.keep a0.B a0.a.1 (by show (p'.rs.map (·.x)).length<4000; rw[cW]; have:=j1.o; have:=V.a; omega),?_,?_,?_,?_,?_⟩⟩
     .have:=bG List.length m0;simp only[WkV.x,bB,cW,uC]at this;omega
     .have:=bG (fun q:aEF=>q.ms.length) R;simp only[WkV.x,aEF.keep,cW]at this;rw[this]; exact l.e
     .rw[←l.f]; exact bG (fun q:aEF=>q.r.commit) R
     .rw[←l.g]; exact bG (fun q:aEF=>q.r.st) R
     .rw[←l.H]; exact bG (fun q:aEF=>q.r.k.base) R
    case measure=>simp[intOf]; omega
   .obtain rfl:k=n:=by omega
    have z2:p'.x=T:=by
     have:=l.b;rw[Ou (by have:=V.a; omega)]at this;exact Option.some.inj this
    have xw:=l.a.blk C.a (aD _) K.D;have lw:=xw.load (P:=prog) (k:=23) rfl;have b3:=kp (aDH p' ps m wr q l.a.o (aB (aB E.D K.b.size) l.a.size) l.c (by rw[l.H,l.f]; exact C.f) (by rw[l.g]; exact C.g) C.h (by rw[z2]; exact V.D) (by rw[l.e]; exact C.J));clear xw z2 z3;go_wp2_with fail;refine (b3.o).mono ?_;rintro e w6 ⟨rfl,p2,l4,b0,e0⟩;have HN:=k'2 ((l.a.trans b0).pre (E.c.on K.b)) e0;clear b0 e0 lw;go_wp2_with fail;go_ret;exact⟨rfl,.of HN.a HN.B⟩
 .exact⟨pv',pv',pv',pv',pv',pv',pv',pv',pv',fun _ _ _ _ _ h _=>h,fun _ _ _ _ _ h _=>h,fun _ _ _ _ _ h _=>h,fun _ _ _ _ _ h _=>h,fun _ _ _ _ _ h _=>h,trivial⟩
end
section
attribute [-go_sem] loadCellsFrom storeCells run_eql_struct run_neq_struct Instr.build
attribute [local go_sem] bC
structure HrS(p:WkV)(m:MgV):Prop where
 s:WpS p.x
 c:p.r.k.base≤p.r.commit
 r:stR p.r.s.x
 e:∀e∈m.es,enR e
 n:inR m.commit
 l:m.es.length≤2000
 rs:p.rs.length≤1000
 ms:p.ms.length≤1000
theorem WpS.inN{p:WkV}(S:WpS p.x):inR p.r.nodes:=by
 have:=S.nodes;exact⟨by show _≤p.x.r.nodes; omega,by show p.x.r.nodes≤_; omega⟩
theorem aEG.clock{w:World}{base g:Nat}{p:WkV}{ps:List ObV}(h:WkO w base g 79 [] p ps)(t:Int):aEG w (w.setCell ⟨g,17,none⟩ (.i t)) base g p ⟨p.r.timed t,p.rs,p.rv,p.ms,p.mv⟩ ps:=
 ⟨(h.clock (.inl rfl) t).1,(h.clock (.inl rfl) t).2.mono fun _ _ h=>.inl h,fun _ h=>.inl h,fun _ h=>.inl h⟩
theorem aEF.prep_out{q r:aEF}{m:Mg}(h:q.prep m=some r)(a:¬(m.view=q.r.k.view∧gY q.r=true)):(q.timed 0).of (aBX m q.r.commit 0)=r:=by
 unfold aEF.prep at h; rw[aC a]at h; exact Option.some.inj h
theorem aEF.prep_lead{q r:aEF}{m:Mg}(h:q.prep m=some r)(b:m.view=q.r.k.view∧gY q.r=true)(a:mN q.r=true):q=r:=by
 unfold aEF.prep at h; rw[aE b,aE a]at h; exact Option.some.inj h
theorem aEF.prep_in{q r:aEF}{m:Mg}(h:q.prep m=some r)(c:m.view=q.r.k.view∧gY q.r=true)(b:mN q.r=false):(xH q.r.k m.number m.es=true→((q.timed 0).keeps (m.es.filter fun e=>decide (q.r.k.last<e.n))).bind (fun q=>q.agree m)=some r)∧(xH q.r.k m.number m.es=false→(q.timed 0).of (aBX m q.r.k.last 0)=r):=by
 unfold aEF.prep at h; rw[aE c,aC (by rw[b]; decide)]at h;refine⟨fun a=>?_,fun a=>?_⟩
 .rw[aE a]at h; exact h
 .rw[aC (by rw[a]; decide)]at h; exact Option.some.inj h
theorem aDL{g base B:Nat}(p:WkV)(ps:List ObV)(m:MgV)(a:Bool)(w:World)(q:aEF)(h:WkO w base g 79 [] p ps)(hm:Sl w B m.ev En.cells m.es)(d0:B≤base)(V:base≤w.heap.size)(S:HrS p m)(ha:a=true↔m.x.view=p.x.r.k.view∧gY p.x.r=true)(hq:p.x.prep m.x=some q):
  Calls prog 69 #[.pointer (some ⟨g,0,none⟩),.agg m.cells.toArray,.bool a] w fun e w'=>e=.returned (.tuple #[])∧aBI w w' base g p q:=by
 obtain⟨W1,o1,x1,N,z1⟩:=par w 48 m.cells;have O:=h.below N;have a1:W1.cell? ⟨g,17,none⟩=some (.i p.r.timer):=O.blk.cell 17;have o0:=O.blk.frozen 17;have T:=aEG.clock O 0;have x2:=T.blk h (aD _) x1;have m2:=T.sl O d0 (aB V N.size) (Sl.below hm N (aB d0 V));obtain⟨W2,y0⟩:∃W,W1.setCell ⟨g,17,none⟩ (.i 0)=W:=⟨_,rfl⟩
 rw[y0]at T x2 m2;have a0:=aB V (aB N.size T.size);have l1:=O.blk.loadOff (P:=prog) 0 26 p.r.cells rfl rfl;have J:=k'4 O N (aB V N.size) x1;have M:=k'6 T x2 m2 a0 h hm;have i:=k'5 S hq ha d0 V;clear x1 N z1 O T x2 m2 a0 h hm d0 V S ha hq
 cases a
 .have U:=kp (aEF.prep_out i.b (fun hn=>by have:=i.c.2 hn; cases this));have HD:=kp (show Bw' W2 W2.drew from bR (aL _ _));have G:=k'2 (M.a.o.below HD.o) (M.b.grow HD.o);go_enter func69,ntmps69;go_wp2_with fail;clear a1 o0 l1 y0;refine kU 7 (fun W'=>Below W2.drew.heap.size W2.drew W') (fun _=>rM) (by kernel_rfl) (by kernel_rfl) (aL _ _) ?_
  iterate 7 (refine bO ?_; apply Exists.intro)
  refine dR ⟨?pers,?walk⟩
  case walk=>
   apply Sz (by kernel_rfl) (by intro t w h; cases h; exact trivial) rfl
   .intro W' f y; go_wp2_with fail;exact⟨rfl,_,rfl,f,aL _ _,rfl⟩
   simp only[Act.put,aN,aH,aI];apply Sz (by kernel_rfl) (by intro t w h; cases h; exact trivial) rfl
   .intro W' f y; have q7:=(G.B.grow f).load (P:=prog) (k:=23) rfl; go_wp2_with fail;exact⟨rfl,_,rfl,f,aL _ _,rfl⟩
   simp only[Act.put,aN,aH,aI]
   iterate 4
    apply Sz (by kernel_rfl) (by intro t w h; cases h; exact trivial) rfl
    .intro W' f y; go_wp2_with fail;exact⟨rfl,_,rfl,f,aL _ _,rfl⟩
    simp only[Act.put,aN,aH,aI]
   apply Sz (by kernel_rfl) (by intro t w h; cases h; exact trivial) rfl
   .intro W' f y; have q7:W'.cell? ⟨g,7,none⟩=some (.i p.r.commit):=(G.a.below f).blk.cell 7; go_wp2_with fail;exact⟨rfl,_,rfl,f,aL _ _,rfl⟩
   simp only[Act.put,aN,aH,aI];intro W3 f y;clear y;simp only[dO,dP];have HG:=kp (aCG _ ps m p.r.commit 0 W3 (G.a.below f) (aB M.d (aB HD.o.size f.size)) (by have:=i.a.ms; show p.ms.length≤_; omega));have HB:=kp (HD.o.on f);clear f;go_wp2_with fail;refine (HG.o).mono ?_;rintro e w4 ⟨rfl,p',hG,hx⟩;have A:=k'2 (((M.a.post HB.o).trans hG).pre J.b) (hx.trans U.o);clear hG hx;go_wp2_with fail;go_end0;exact⟨rfl,.of A.a A.B⟩
  case pers=>exact⟨pv',pv',pv',pv',pv',pv',pv',trivial⟩
 have hn:=i.c.1 rfl;obtain⟨z,hz⟩:=nm' (mN p.x.r);have d1:=kp (by have:=Ks p.r W1 i.a.s.inN; rw[show mN p.r.x=z from hz]at this; exact this);have HZ:=k'2 hn hz;clear hn hz;go_enter func69,ntmps69;go_wp2_with fail;refine mb' (d1.o) fun w3 H=>?_
 cases z
 case true=>
  have U:=kp (aEF.prep_lead i.b HZ.a HZ.B);have A:=kp ((aEG.refl (J.a.below H)).pre (J.b.on H));clear H;go_wp2_with fail;go_end0;exact⟨rfl,.of A.o U.o⟩
 have U:=kp (aEF.prep_in i.b HZ.a HZ.B);have Z:=J.a.below H;have x3:=J.D.grow H;have a1:w3.cell? ⟨g,17,none⟩=some (.i p.r.timer):=Z.blk.cell 17;have o0:=Z.blk.frozen 17;have I:=aEG.clock Z 0;have x4:=I.blk M.e (aD _) x3;have g0:=aB J.c H.size;have m4:=I.sl Z i.d g0 (Sl.below M.F (J.b.on H) (aB i.d i.E));obtain⟨W4,j1⟩:∃W,w3.setCell ⟨g,17,none⟩ (.i 0)=W:=⟨_,rfl⟩
 rw[j1]at I x4 m4;have j0:=aB g0 I.size;have l4:=x4.load (P:=prog) (k:=23) rfl;have S0:WpS (WkV.x ⟨p.r.timed 0,p.rs,p.rv,p.ms,p.mv⟩):=⟨i.a.s.nodes,i.a.s.kept,i.a.s.kr,i.a.s.img,i.a.s.top,i.a.s.st,i.a.s.rs,i.a.s.ms⟩
 obtain⟨j,hj⟩:=nm' (xH p.r.k.x m.number m.es);have Y:=kp (fun(q':aEF)(m1:if xH p.r.k.x m.number m.es=true then ((WkV.x ⟨p.r.timed 0,p.rs,p.rv,p.ms,p.mv⟩).keeps (m.es.filter fun e=>decide (p.r.k.x.last<e.n))).bind (fun q=>q.agree m.x)=some q' else WkV.x ⟨p.r.timed 0,p.rs,p.rv,p.ms,p.mv⟩=q')=>
  aDK (q:=q') ⟨p.r.timed 0,p.rs,p.rv,p.ms,p.mv⟩ ps m W4 I.o m4 i.d j0 S0 i.a.c i.a.r i.a.e i.a.n i.a.l i.a.rs i.a.ms m1)
 have X:=k'5 (I.pre (J.b.on H)) x4 j0 I x3;clear Z x3 I x4 m4 H g0 j0 l1 S0;rw[show xH (RpV.timed p.r 0).k.x m.number m.es=xH p.r.k.x m.number m.es from rfl,hj]at Y;have m0:=kp hj;clear hj
 cases j
 case true=>
  have e0:=kp (Y.o q (by rw[aE rfl]; exact U.a m0.o));clear Y;go_wp2_with fail;refine (e0.o).mono ?_;rintro e R ⟨rfl,L,l0,K,Q⟩;have A:=k'2 (X.a.trans K) Q;clear K Q;go_wp2_with fail;go_end0;exact⟨rfl,.of A.a A.B⟩
 have e0:=kp (Y.o (WkV.x ⟨p.r.timed 0,p.rs,p.rv,p.ms,p.mv⟩) (by rw[aC (by decide)]));clear Y;go_wp2_with fail;refine (e0.o).mono ?_;rintro e R ⟨rfl,L,l0,K,Q⟩;have b0:=kp (show Bw' R R.drew from bR (aL _ _));have q0:=X.a.trans K;have x5:=(X.d.trans K).blk M.e (aD _) X.E;have G:=k'4 (K.o.below b0.o) (x5.grow b0.o) (q0.post b0.o) (aB X.c (aB K.size b0.o.size));have HP:=k'3 (show L.r.k.x=p.r.k.x from bG (fun q:aEF=>q.r.k) Q) (show L.ms.length=p.ms.length by have:=bG (fun q:aEF=>q.ms.length) Q; simpa [WkV.x] using this) Q;clear q0 x5 K Q;have g1:=kp (fun(W:World)(u:Below R.drew.heap.size R.drew W)=>by
  have hl:=i.a.s.log;have hk:=HP.a;exact aAD L l0 W (G.a.below u) (by have e:L.r.k.base=p.r.k.base:=bG Kd.base hk; rw[e]; exact hl.1) (by have e:L.r.k.es=p.r.k.es:=bG Kd.es hk; rw[e]; exact aB hl.2.1 (by decide)))
 go_wp2_with fail;refine kU 4 (fun W'=>Below R.drew.heap.size R.drew W') (fun _=>rM) (by kernel_rfl) (by kernel_rfl) (aL _ _) ?_
 iterate 4 (refine bO ?_; apply Exists.intro)
 refine dR ⟨?pers,?walk⟩
 case walk=>
  apply Sz (by kernel_rfl) (by intro t w h; cases h; exact trivial) rfl
  .intro W' f y; go_wp2_with fail;exact⟨rfl,_,rfl,f,aL _ _,rfl⟩
  simp only[Act.put,aN,aH,aI];apply Sz (by kernel_rfl) (by intro t w h; cases h; exact trivial) rfl
  .intro W' f y; have q7:=(G.b.grow f).load (P:=prog) (k:=23) rfl; go_wp2_with fail;exact⟨rfl,_,rfl,f,aL _ _,rfl⟩
  simp only[Act.put,aN,aH,aI];apply Sz (by kernel_rfl) (by intro t w h; cases h; exact trivial) rfl
  .intro W' f y; go_wp2_with fail;exact⟨rfl,_,rfl,f,aL _ _,rfl⟩
  simp only[Act.put,aN,aH,aI];apply Sz (by kernel_rfl) (by intro t w h; cases h; exact trivial) rfl
  .intro W' f y;go_wp2_with fail;refine mb' (g1.o W' f) fun w2 a0=>?_;go_wp2_with fail;exact⟨rfl,_,rfl,f.on a0,a0,rfl⟩
  simp only[Act.put,aN,aH,aI];intro W6 f y;clear y;simp only[dO,dP];have HG:=kp (aCG L l0 m L.r.k.x.last 0 W6 (G.a.below f) (aB G.D f.size) (by rw[HP.b]; have:=i.a.ms; omega));have HB:=kp f;clear f;go_wp2_with fail;refine (HG.o).mono ?_;rintro e w7 ⟨rfl,p2,p0,z0⟩;have A:=k'2 ((G.c.post HB.o).trans p0) (show p2.x=q by
   rw[z0,HP.C,←U.B m0.o,HP.a];rfl)
  clear p0 z0;go_wp2_with fail;go_end0;exact⟨rfl,.of A.a A.B⟩
 case pers=>exact⟨pv',pv',pv',pv',trivial⟩
end
section
attribute [-go_sem] loadCellsFrom storeCells run_eql_struct run_neq_struct
attribute [local go_sem] bC
theorem aCI:(prog.info? 109).map (fun i=>(i.zero,i.size,i.bytes))=some (some (.agg #[.i 0,.i 0]),2,16):=by kernel_rfl
theorem aDM(A:Option Addr)(c:Nat)(w:World):∃z,Sem.run prog (Instr.slice 35 (.slice A 0 c) (some (.i 0)) none none) w=.ok z w:=by
 obtain⟨i,b,-,-,-⟩:=info_parts aCI
 cases A with
 |none=>exact⟨_,by simp[Instr.slice,run_underlying Ff,Instr.sliceBounds,Instr.sliceBound,asIntOf,sizeOf,typeInfo,b]; rfl⟩
 |some a=>
  by_cases d:c=0
  .subst d; exact⟨_,by simp[Instr.slice,run_underlying Ff,Instr.sliceBounds,Instr.sliceBound,asIntOf,sizeOf,typeInfo,b,Addr.add]; rfl⟩
  .exact⟨_,by simp[Instr.slice,run_underlying Ff,Instr.sliceBounds,Instr.sliceBound,asIntOf,sizeOf,typeInfo,b,Addr.add,d]; rfl⟩
theorem aDN(A:Option Addr)(c:Nat)(n:Int)(f:Value)(w:World):Calls prog 121 #[.slice A 0 c,.i n,f] w fun e a=>e=.returned (.tuple #[.i 0,.bool false])∧a=w:=by
 go_enter func121,ntmps121;go_wp2_with fail
 go_loopw [9,10] (fun i j wr=>i=.i 0∧j=.i 0∧wr=w) (fun _ _ _=>0)
 case atStart=>exact⟨rfl,rfl,rfl⟩
 case round=>
  obtain⟨rfl,rfl,rfl⟩:=hrel;go_wp2_with fail;go_ret2;exact⟨rfl,rfl⟩
theorem aDO{base:Nat}(v v2:Value)(x:Ak)(B:Nat)(w:World)(h:Ow w base 109 2 v Ak.cells [])(b:Sl w B v2 Ak.cells [x])(f:base≤w.heap.size):
  Calls prog 123 #[v,.i 0,v2] w fun e j=>∃v',e=.returned v'∧Ow j base 109 2 v' Ak.cells [x]∧Below base w j:=by
 obtain⟨A,c,rfl,-⟩:=eD h;obtain⟨n,c2,rfl,-⟩:=id b;obtain⟨z,m⟩:=aDM A c w;have H:=k'2 h b;clear h b;go_enter func123,ntmps123;go_wp2_with (at_builtin; refine mO (enc:=Ak.cells) w rfl (.tmp 23) (.tmp 24) 35 rfl base 109 aCI Ff rfl (by omega) nH H.a rfl H.B rfl (fun a _=>wX a) ?_ ?_ f ?_)
 .unfold maxLen; simp
 .simp
 intro o p i l g k;have d:=k'2 i (H.a.grew g f);clear i l g k m;go_wp2_with fail;go_ret;exact⟨_,rfl,d.a,d.B⟩
theorem aDP(n k:Int)(w:World):(Instr.build 109 #[(0,.i n),(1,.i k)]).run prog w=.ok (.agg #[.i n,.i k]) w:=run_build w _ _ _ (by kernel_rfl)
attribute [-go_sem] Instr.build
attribute [local go_sem] aDP
theorem aDQ(v:Value)(n k:Int)(B:Nat)(w:World)(h:Sl w B v Ak.cells [])(j:B≤w.heap.size):
  Calls prog 70 #[v,.i n,.i k] w fun e q=>∃v',e=.returned v'∧Ow q w.heap.size 109 2 v' Ak.cells [⟨n,k⟩]∧Bw' w q:=by
 have x:=kp (fam'4.2.2.2.1 v [] B w h j (cY _));clear h j;go_enter func70,ntmps70;go_wp2_with fail;refine (x.o).mono ?_;rintro e r ⟨v2,rfl,b,l⟩;have b:Ow r w.heap.size 109 2 v2 Ak.cells []:=b;obtain⟨A,c,rfl,-⟩:=eD b;have f:=k'2 b l;clear b l;go_wp2_with fail
 go_loopw [15] (fun i wr=>i=.i 0∧wr=r) (fun _ _=>0)
 case atStart=>exact⟨rfl,rfl⟩
 case round=>
  obtain⟨rfl,rfl⟩:=hrel;go_wp2_with fail;refine ms' (aDN A c n _ _) ?_;have d:=eQ (enc:=Ak.cells) wr 109 ⟨n,k⟩;have aS:=ba' wr (.cells #[.i n,.i k] 109);obtain⟨z,C⟩:=nm' (wr.alloc (.cells #[.i n,.i k] 109));change Sl (wr.alloc (.cells #[.i n,.i k] 109)) _ _ _ _ at d;rw[C]at d aS;have y:=kp (aDO _ _ _ _ z (f.a.below aS) d (aB f.B.size aS.size));have s:=kp (f.B.on aS);clear d aS;go_wp2_with fail;refine (y.o).mono ?_;rintro e E ⟨D,rfl,p,m⟩;have g:=k'2 p (s.o.trans m);clear p m;go_wp2_with fail;go_ret;exact⟨_,rfl,g.a,g.B⟩
end
section
theorem aDR{n:Int}(h:kB n=true):n=3∨n=5∨n=7:=by
 simp only[kB,sV,bP]at h;omega
def inN(x:Int)(l:List Int):Bool:=decide (x∈l)
def aCJ(n:Int)(l:List Int)(k:Nat):Bool:=decide (1≤k)&&decide ((k:Int)≤n)&&inN k l
def aBO(n:Int)(l:List Int)(k:Nat):Nat:=((List.range k).filter (aCJ n l)).length
theorem aDS(n:Int)(l:List Int)(k:Nat):aBO n l k≤k:=by
 unfold aBO;exact aB (nB _ _) (by simp)
def sH(n:Int)(s:Nat)(x:Int):Nat:=if 1≤x∧x≤n then s|||2 ^ x.toNat else s
theorem aDT{n x:Int}{s:Nat}(b:n≤7)(a:s<256):sH n s x<256:=by
 unfold sH
 split
 .rename_i h;exact Nat.or_lt_two_pow (n:=8) a (Nat.pow_lt_pow_right (by omega) (by omega))
 .exact a
theorem aDU(s:Nat)(x n:Int)(w:World)(l:s<256)(k:n≤7):
  Calls prog 126 #[.int .u16 s,.i x,.i n] w fun e i=>e=.returned (.int .u16 (sH n s x))∧w=i:=by
 by_cases b:1≤x
 .by_cases c:x≤n
  .have a:=kp (show sH n s x=s|||2 ^ x.toNat by unfold sH; rw[aE ⟨b,c⟩]);have g:decide (x<1)=false:=by simp; omega
   have j:decide (n<x)=false:=by simp; omega
   have d:=u16_or_nat s (2 ^ x.toNat) (by omega) (Nat.lt_of_le_of_lt (oX (by omega) (show x.toNat≤7 by omega)) (by omega));obtain rfl|rfl|rfl|rfl|rfl|rfl|rfl:x=1∨x=2∨x=3∨x=4∨x=5∨x=6∨x=7:=by omega
   all_goals
    have f:=kp d; clear d;go_enter func126,ntmps126;go_wp2_with fail;go_ret;exact⟨by rw[a.o,←f.o]; rfl,rfl⟩
  .have a:=kp (show sH n s x=s by unfold sH; rw[aC fun h=>c h.2]);have g:decide (x<1)=false:=by simp; omega
   clear b;go_enter func126,ntmps126;go_wp2_with fail;go_ret;exact⟨by rw[a.o]; rfl,rfl⟩
 .have a:=kp (show sH n s x=s by unfold sH; rw[aC fun h=>b h.1]);go_enter func126,ntmps126;go_wp2_with fail;go_ret;exact⟨by rw[a.o]; rfl,rfl⟩
def pcN(s:Nat):Nat:=((List.range 8).filter fun k=>s.testBit k).length
theorem aDV:∀s:Fin 256,s.val≠0→pcN (s.val&&& (s.val-1))+1=pcN s.val∧(s.val&&& (s.val-1))<s.val:=by decide+kernel
theorem aDW(s:Nat):pcN s≤8:=by
 unfold pcN;exact aB (nB _ _) (by simp)
theorem aDX(s:Nat)(w:World)(m:s<256):
  Calls prog 127 #[.int .u16 s] w fun e p=>e=.returned (.i (pcN s))∧w=p:=by
 have z:=aDW s;go_enter func127,ntmps127;go_wp2_with fail
 go_loop [0,3] (fun v i=>∃t k:Nat,t<256∧v=.int .u16 t∧i=.i k∧pcN t+k=pcN s) (fun v _=>(intOf v).toNat)
 case atStart=>exact⟨s,0,m,rfl,rfl,by omega⟩
 case round=>
  obtain⟨t,k,n,rfl,rfl,g⟩:=hrel
  by_cases c:t=0
  .subst c;have l:pcN 0=0:=by decide
   have a:=kp (show k=pcN s by omega);clear l;clear g;go_wp2_with fail;go_ret;exact⟨by rw[←a.o]; rfl,rfl⟩
  .obtain⟨h,d⟩:=aDV ⟨t,n⟩ c;dsimp only at h d;have f:=u16_and_nat t (t-1) (by omega) (by omega);have j:((t-1:Nat):Int)=(t:Int)-1:=by omega
   rw[j]at f;have y:k≤8:=by omega
   have a:=kp (show pcN (t&&& (t-1))+(k+1)=pcN s by omega);have b:=kp d;have r:((t:Int)==0)=false:=by simp; omega
   have x:((t:Int) != 0)=true:=by simp; omega
   have A:1≤t:=by omega
   generalize t&&& (t-1)=q at f a b ⊢;clear h d g j c;go_wp2_with fail
   go_round
   case rel=>exact⟨q,k+1,by have:=b.o; omega,rfl,by go_num,a.o⟩
   case measure=>have:=b.o; simp[intOf]; omega
def Ao(n:Int)(l:List Int):Nat:=l.foldl (sH n) 0
theorem aDY(n:Int)(l:List Int)(x:Int):Ao n (l++[x])=sH n (Ao n l) x:=by simp[Ao]
theorem aDZ(n:Int)(s:Nat)(x:Int)(k:Nat):(sH n s x).testBit k=(s.testBit k||decide ((1≤x∧x≤n)∧x=(k:Int))):=by
 unfold sH
 split
 .rename_i h;rw[Nat.testBit_or,Nat.testBit_two_pow]
  congr 1
  rw[decide_eq_decide];constructor
  .intro e; exact⟨h,by omega⟩
  .intro e; omega
 .rename_i h;simp[h]
theorem aCK(n:Int)(k:Nat):∀(l:List Int)(s:Nat),(l.foldl (sH n) s).testBit k=(s.testBit k||decide (1≤(k:Int)∧(k:Int)≤n∧(k:Int)∈l))
 |[],s=>by simp
 |x::l,s=>by
  rw[List.foldl_cons,aCK n k l,aDZ,Bool.or_assoc]
  congr 1
  rw[←Bool.decide_or,decide_eq_decide];simp only[bA];constructor
  .rintro (⟨h,rfl⟩|h)
   .exact⟨h.1,h.2,.inl rfl⟩
   .exact⟨h.1,h.2.1,.inr h.2.2⟩
  .rintro⟨a,b,rfl|c⟩
   .exact .inl ⟨⟨a,b⟩,rfl⟩
   .exact .inr ⟨a,b,c⟩
theorem aD0(n:Int)(l:List Int):pcN (Ao n l)=aBO n l 8:=by
 unfold pcN aBO Ao
 congr 1
 apply List.filter_congr;intro k _;rw[aCK];simp only[Nat.zero_testBit,Bool.false_or,aCJ,inN,←Ad];rw[decide_eq_decide];constructor
 .rintro⟨c,a,b⟩; exact⟨⟨by omega,a⟩,b⟩
 .rintro⟨⟨c,a⟩,b⟩; exact⟨by omega,a,b⟩
theorem aCL(n:Int)(a:n≤7):∀(l:List Int)(s:Nat),s<256→l.foldl (sH n) s<256
 |[],_,h=>h
 |_::l,_,h=>aCL n a l _ (aDT a h)
def aEH(acks:List (Int×Int))(n:Int):List Int:=(acks.filter fun a=>decide (n≤a.2)).map (·.1)
def aD1(N own:Int)(acks:List (Int×Int))(n:Int):Nat:=aBO N (aEH acks n) 8+if n≤own then 1 else 0
def wE(N own:Int)(acks:List (Int×Int))(n:Int):Bool:=decide (N<2*(aD1 N own acks n:Int))
def lG(own:Int)(acks:List (Int×Int)):List Int:=own::acks.map (·.2)
def Aa(N own:Int)(acks:List (Int×Int))(b n:Int):Int:=if b<n∧wE N own acks n=true then n else b
def aBJ(N own:Int)(acks:List (Int×Int)):Int:=if kB N=true then (lG own acks).foldl (Aa N own acks) 0 else 0
theorem aD2(b:List (Int×Int))(n:Int)(a:Int×Int):aEH (b++[a]) n=aEH b n++if n≤a.2 then [a.1] else []:=by
 simp only[aEH,oZ,gC]
 congr 1
 by_cases h:n≤a.2
 .simp[h]
 .simp[h]
theorem aCM(N own:Int)(a:List (Int×Int)):∀(l:List Int)(b:Int),
  (l.foldl (Aa N own a) b=b∨(l.foldl (Aa N own a) b∈l∧wE N own a (l.foldl (Aa N own a) b)=true∧b<l.foldl (Aa N own a) b))∧b≤l.foldl (Aa N own a) b∧
  ∀n∈l,wE N own a n=true→n≤l.foldl (Aa N own a) b
 |[],b=>⟨.inl rfl,iQ _,by simp⟩
 |x::l,b=>by
  have j:=aCM N own a l (Aa N own a b x);simp only[List.foldl_cons];obtain⟨c,k,f⟩:=j;have o:b≤Aa N own a b x:=by unfold Aa; split<;>omega
  refine⟨?_,by omega,?_⟩
  .rcases c with c|⟨c,g,m⟩
   .rw[c];unfold Aa
    split
    .rename_i h; exact .inr ⟨List.mem_cons_self ..,h.2,h.1⟩
    .exact .inl rfl
   .exact .inr ⟨List.mem_cons_of_mem _ c,g,by omega⟩
  .intro n d e;rcases bA.1 d with rfl|d
   .have:n≤Aa N own a b n:=by
     unfold Aa
     split
     .omega
     .rename_i h;have:¬b<n:=fun i=>h ⟨i,e⟩;omega
    omega
   .exact f n d e
theorem aCN{N own:Int}{a:List (Int×Int)}(j:kB N=true){r:Int}(h:r=0∨(r∈lG own a∧wE N own a r=true∧0<r))(g:0≤r)
  (i:∀n∈lG own a,0<n→wE N own a n=true→n≤r):r=aBJ N own a:=by
 obtain⟨d,e,f⟩:=aCM N own a (lG own a) 0;unfold aBJ;rw[aE j];generalize (lG own a).foldl (Aa N own a) 0=q at *;have l:r≤q:=by
  rcases h with rfl|⟨c,b,_⟩
  .exact e
  .exact f r c b
 have m:q≤r:=by
  rcases d with rfl|⟨c,b,k⟩
  .exact g
  .exact i q c k b
 omega
def cH(l:List Int):List Int:=l.mergeSort fun x y=>decide (x≤y)
theorem aCO(l:List Int):(cH l).length=l.length:=List.length_mergeSort l
theorem aCt(l:List Int)(x:Int):x∈cH l↔x∈l:=(List.mergeSort_perm l _).mem_iff
theorem aD3(l:List Int)(i j:Nat)(k:i≤j)(f:j<(cH l).length):(cH l).getD i 0≤(cH l).getD j 0:=by
 have g:(cH l).Pairwise (fun x y=>(decide (x≤y))=true):=
  List.pairwise_mergeSort (le:=fun x y:Int=>decide (x≤y)) (by intro a b c d e; simp at d e ⊢; omega) (by intro a b; simp; omega) l
 rcases mJ i j with h|h
 .have:=List.pairwise_iff_getElem.1 g i j (by omega) f h;have d:(cH l).getD i 0=(cH l)[i]'(by omega):=by simp[List.getD,show i<(cH l).length by omega]
  have e:(cH l).getD j 0=(cH l)[j]:=by simp[List.getD,f]
  rw[d,e];simpa using this
 .obtain rfl:i=j:=by omega
  exact iQ _
def dwn(zs:List Int):List (Nat×Int):=(List.range zs.length).map fun k=>(zs.length-1-k,zs.getD (zs.length-1-k) 0)
theorem aCf(a:List Int):(dwn a).length=a.length:=by simp[dwn]
theorem aCg(a:List Int)(k:Nat)(b:k<a.length):(dwn a)[k]? =some (a.length-1-k,a.getD (a.length-1-k) 0):=by simp[dwn,b]
theorem aD4{N own:Int}{a:List (Int×Int)}(l:kB N=true){q:List (Nat×Int)}{p:Nat×Int}(A:q++[p]<+:dwn (cH (lG own a)))
  (g:0<p.2∧wE N own a p.2=true) (B:∀x∈q,¬(0<x.2∧wE N own a x.2=true)):p.2=aBJ N own a:=by
 obtain⟨t,c⟩:=A;have y:q.length<(cH (lG own a)).length:=by
  have h:=bG List.length c;rw[aCf]at h;simp at h;omega
 have i:p=((cH (lG own a)).length-1-q.length,(cH (lG own a)).getD ((cH (lG own a)).length-1-q.length) 0):=by
  have b:=aCg (cH (lG own a)) q.length y;rw[←c]at b;simpa using b
 have z:p.2∈lG own a:=by
  rw[←aCt,i];have:(cH (lG own a)).length-1-q.length<(cH (lG own a)).length:=by omega
  simp only[List.getD,eK this,uG];exact bK _
 refine aCN l (.inr ⟨z,g.2,g.1⟩) (by omega) fun n f k m=>?_;rw[←aCt]at f;obtain⟨j,o,r⟩:=zU f;have e:(cH (lG own a)).getD j 0=n:=by simp[List.getD,o,r]
 by_cases C:(cH (lG own a)).length-1-q.length<j
 .exfalso
  have s:(cH (lG own a)).length-1-j<q.length:=by omega
  have b:=aCg (cH (lG own a)) ((cH (lG own a)).length-1-j) (by omega);rw[←c,cR,lS s]at b;have d:=oY b;rw[show (cH (lG own a)).length-1-((cH (lG own a)).length-1-j)=j by omega,e]at d;exact B _ d ⟨k,m⟩
 .rw[i,←e];exact aD3 _ _ _ (by omega) (by omega)
theorem aD5{N own:Int}{a:List (Int×Int)}(f:kB N=true)(l:∀x∈dwn (cH (lG own a)),¬(0<x.2∧wE N own a x.2=true)):0=aBJ N own a:=by
 refine aCN f (.inl rfl) (iQ _) fun n c d g=>?_
 exfalso
 rw[←aCt]at c;obtain⟨j,h,k⟩:=zU c;have i:(cH (lG own a)).getD j 0=n:=by simp[List.getD,h,k]
 have e:=aCg (cH (lG own a)) ((cH (lG own a)).length-1-j) (by omega);have b:=oY e;rw[show (cH (lG own a)).length-1-((cH (lG own a)).length-1-j)=j by omega,i]at b;exact l _ b ⟨d,g⟩
end
end Go.Proofs.YthalbagblhkeaaaGreat
