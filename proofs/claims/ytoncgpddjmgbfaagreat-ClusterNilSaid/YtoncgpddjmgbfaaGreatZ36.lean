import Derived.Test.YtoncgpddjmgbfaaGreatZ34
import Derived.Test.YtoncgpddjmgbfaaGreatZ35
namespace Go.Proofs.YtoncgpddjmgbfaaGreat
open Go.RowKit Go.Proofs.Tryz
set_option maxRecDepth 100000
set_option maxHeartbeats 12800000
set_option linter.unusedVariables false
set_option linter.unusedSimpArgs false
section
attribute [-go_sem] loadCellsFrom storeCells run_eql_struct run_neq_struct Instr.build
attribute [local go_sem] aX
structure TkB(Wa:World)(base bg:Nat)(bv:Value)(l0 l1:List MgV)(cs1:List Value)(X:Nat→Option Value)(W:World):Prop where
 c:Chg (iX bg bv) Wa W
 n:X 6=none→dI W base bg 200 bv l0
 y:∀z,X 6=some z→∃v',dI W base bg 200 v' l1∧v'.ownBlock=bv.ownBlock
 al:∀z,X 10=some z→∃a cs,z=.pointer (some ⟨a,0,none⟩)∧Wa.heap.size≤a∧Blk W a 75 cs∧cs.length=23∧∀s,X 11=some s→cs=cs1
 st:∀s,X 11=some s→(X 10).isSome=true
section
variable {Wa W W':World}{base bg j a:Nat}{bv v':Value}{l0 l1:List MgV}{cs1 cs:List Value}{X:Nat→Option Value}{u:Value}
theorem dI.off(h:dI W base bg 200 bv l0)(d:Blk W a 75 cs)(c:Chg (fun i=>i=a) W W')(j:some a≠bv.ownBlock):dI W' base bg 200 bv l0:=
 ⟨h.b,h.blk.chg c (h.blk.ne d (by decide)),aM.chg h.row c fun i f e=>j (e▸f),fun m g=>(h.es m g).chg_blk d c (by decide)⟩
theorem TkB.start(h:dI Wa base bg 200 bv l0):TkB Wa base bg bv l0 l1 cs1 (fun _=>none) Wa:=⟨Chg.refl _ _,fun _=>h,fun _ h=>(nomatch h),fun _ h=>(nomatch h),fun _ h=>(nomatch h)⟩
theorem TkB.other(h:TkB Wa base bg bv l0 l1 cs1 X W)(f:6≠j∧10≠j∧11≠j):TkB Wa base bg bv l0 l1 cs1 (aY X j u) W:=by
 obtain⟨b,d,e⟩:=f;have aJ:=aI (X:=X) (v:=u) b;have aL:=aI (X:=X) (v:=u) d;have a:=aI (X:=X) (v:=u) e;exact⟨h.c,by rw[aJ]; exact h.n,by rw[aJ]; exact h.y,by rw[aL,a]; exact h.al,by rw[a,aL]; exact h.st⟩
theorem TkB.take(h:TkB Wa base bg bv l0 l1 cs1 X W)(m:dI W' base bg 200 v' l1)(o:v'.ownBlock=bv.ownBlock)(b:Chg (iX bg bv) W W')(n:∀i,iX bg bv i→i<Wa.heap.size):TkB Wa base bg bv l0 l1 cs1 (aY X 6 u) W':=by
 refine⟨h.c.trans b fun _ _ h=>h,fun d=>(by rw[fC]at d; cases d),fun _ _=>⟨v',m,o⟩,fun z g=>?_,fun s f=>?_⟩
 .rw[aI (by decide)]at g ⊢;obtain⟨a,cs,e,j,k,l⟩:=h.al z g;exact⟨a,cs,e,j,k.chg b (fun e=>absurd (n a e) (by omega)),l⟩
 .rw[aI (by decide)]at f ⊢;exact h.st s f
theorem TkB.mk_(h:TkB Wa base bg bv l0 l1 cs1 X W)(j:X 10=none):TkB Wa base bg bv l0 l1 cs1 (aY X 10 (.pointer (some ⟨W.heap.size,0,none⟩))) (W.alloc (.cells jE.toArray 75)):=by
 have e:=ba' W (.cells jE.toArray 75);have d:∀s,X 11≠some s:=fun s d=>by have:=h.st s d; rw[j]at this; cases this
 refine⟨h.c.then e,fun f=>?_,fun z b=>?_,fun z b=>?_,fun s a=>?_⟩
 .rw[aI (by decide)]at f; exact (h.n f).below e
 .rw[aI (by decide)]at b;obtain⟨v',g,i⟩:=h.y z b;exact⟨v',g.below e,i⟩
 .rw[fC]at b; cases b;exact⟨_,jE,rfl,h.c.size,Blk.new W _ jE,rfl,fun s a=>by rw[aI (by decide)]at a; exact absurd a (d s)⟩
 .rw[aI (by decide)]at a; exact absurd a (d s)
theorem TkB.put(h:TkB Wa base bg bv l0 l1 cs1 X W)(g:X 10=some (.pointer (some ⟨a,0,none⟩)))(q:∀u∈cs1,u.oneCell'=true)(k:cs1.length=23)(p:∀i,iX bg bv i→i<Wa.heap.size):
  ∃W',Sem.run prog (storeCells ⟨a,0,none⟩ cs1 0) W=.ok () W'∧TkB Wa base bg bv l0 l1 cs1 (aY X 11 undef) W':=by
 obtain⟨r,cs,e,o,f,d,-⟩:=h.al _ g
 cases e;obtain⟨W',-,s,x,c⟩:=f.put cs1 (k.trans d.symm) q;have l:some a≠bv.ownBlock:=fun e=>absurd (p a (.inr e)) (by omega);refine⟨W',s,h.c.trans c fun i A e=>by omega,fun d=>?_,fun z b=>?_,fun z b=>?_,fun s _=>by rw[aI (by decide),g]; rfl⟩
 .rw[aI (by decide)]at d; exact (h.n d).off f c l
 .rw[aI (by decide)]at b;obtain⟨v',m,j⟩:=h.y z b;exact⟨v',m.off f c (by rw[j]; exact l),j⟩
 .rw[aI (by decide),g]at b; cases b;exact⟨a,cs1,rfl,o,x,k,fun _ _=>rfl⟩
end
structure HvM(Wa:World)(R:Rp×List Rc×List Mg)(X:Nat→Option Value)(W:World):Prop where
 c:CAl Wa 50 iE 68 [.slice none 0 0,.slice none 0 0] (HvQ Wa R) mE 5 6 7 9 10 11 X W
 e:∀z,X 8=some z→∃u y,X 5=some u∧u=.tuple #[y,z]
theorem HvM.step{Wa W W':World}{R:Rp×List Rc×List Mg}{X:Nat→Option Value}{j:Nat}{u:Value}(h:HvM Wa R X W)(g:CAl Wa 50 iE 68 [.slice none 0 0,.slice none 0 0] (HvQ Wa R) mE 5 6 7 9 10 11 (aY X j u) W')(d:8≠j)(f:5=j→X 5=none):HvM Wa R (aY X j u) W':=by
 refine⟨g,fun z c=>?_⟩;rw[aI d]at c;obtain⟨k,y,a,i⟩:=h.e z c;refine⟨k,y,?_,i⟩
 by_cases b:5=j
 .rw[f b]at a; cases a
 .rw[aI b]; exact a
structure RpC(Va:World)(base g bg a:Nat)(q:bC)(ps:Nat→List ObV)(m:MgV)(P:Value→World→Prop)(X:Nat→Option Value)(W:World):Prop where
 cl:∃bvx msx cx,ClO W base g q ps bg bvx msx cx
 k:Blk W a 75 m.cells
 n:X 11=none→Bw' Va W
 y:∀z,X 11=some z→P z W
 e:∀z,X 12=some z→∃y,X 11=some (.tuple #[z,y])
 f:∀z,X 14=some z→X 12=some z
theorem RpC.other{b W:World}{base g bg a j:Nat}{q:bC}{c:Nat→List ObV}{m:MgV}{P:Value→World→Prop}{X:Nat→Option Value}{u:Value}(h:RpC b base g bg a q c m P X W)(p:11≠j∧12≠j∧14≠j):RpC b base g bg a q c m P (aY X j u) W:=by
 obtain⟨i,l,o⟩:=p;have aJ:=aI (X:=X) (v:=u) i;have aL:=aI (X:=X) (v:=u) l;have d:=aI (X:=X) (v:=u) o;exact⟨h.cl,h.k,by rw[aJ]; exact h.n,by rw[aJ]; exact h.y,by rw[aL,aJ]; exact h.e,by rw[d,aL]; exact h.f⟩
def yU(Va:World)(base g bg:Nat)(q:bC)(ps:Nat→List ObV)(l:List MgV)(m:MgV)(z:Value)(W:World):Prop:=∃v bv',z=.tuple #[v,.i 0]∧Sl W W.heap.size v gJ.cells [mH m.code m.value]∧ClO W base g q ps bg bv' l kR∧ClG base Va W
structure Lm(q:bC)(m:MgV)(i:Nat)(R:Rp×List Rc×List Mg):Prop where
 lt:i<3
 dst:m.dst=(i:Int)+1
 right:cS (q.seat i).r.x=true
 rx:RxS (q.seat i).r.x
 mg:MgR m.x∧(∀e∈m.x.es,enR e)∧m.x.es.length≤1000
 hear:nC (q.seat i).r.x m.x=some R
 real:∀y∈R.2.2,y.kind≠0∧y.es.length≤1000
 few:R.2.2.length≤2
def aBD(base bg:Nat)(bv:Value)(ms l1:List MgV)(cs1:List Value)(n code:Int):Prop:=
 ∀W,dI W base bg 200 bv ms→base≤W.heap.size→Calls prog 18 #[.pointer (some ⟨bg,0,none⟩),.i n] W fun e w'=>e=.returned (.tuple #[.agg cs1.toArray,.i code])∧∃v',dI w' base bg 200 v' l1∧Chg (iX bg bv) W w'∧v'.ownBlock=bv.ownBlock
def pO(n:Int):List Value:=[.i 2,.i 0,.i n,.i 0]++dU.cells
structure Ln(w:World)(base g:Nat)(L:List Rp)(c:cD)(l:List MgV)(i:Nat)(R:Rp×List Rc×List Mg)(e:Ending)(w':World):Prop where
 e:e=.returned (.tuple #[.slice none 0 0,.i 0])
 s:ClS w' base g (L.set i R.1) (l.map (·.x)++R.2.2) c
 g:ClG base w w'
structure Lo(w:World)(base g:Nat)(L:List Rp)(l:List MgV)(m:MgV)(e:Ending)(w':World):Prop where
 e:∃v,e=.returned (.tuple #[v,.i 0])∧Sl w' w'.heap.size v gJ.cells [mH m.code m.value]
 s:ClS w' base g L (l.map (·.x)) kR
 g:ClG base w w'
structure yV(w:World)(base:Nat)(e:Ending)(w':World):Prop where
 e:e=.returned (.tuple #[.slice none 0 0,.i 120])
 g:ClG base w w'
def Lp(w:World)(base g:Nat)(q:bC)(ms:List MgV)(c:cD)(L:List Rp)(n:Int)(Q:Ending→World→Prop):Prop:=
 (n=0∧∃m l,ms=m::l∧((∃i R,Lm q m i R∧∀e w',Ln w base g L c l i R e w'→Q e w')∨(yT m∧c=dC∧∀e w',Lo w base g L l m e w'→Q e w')))∨(n=9∧ms=[]∧∀e w',yV w base e w'→Q e w')
theorem aBE{l:List MgV}{xs:List Mg}(h:l.map (·.x)=xs)(a:∀y∈xs,y.kind≠0):gR l=xs:=by
 unfold gR;rw[h];exact List.filter_eq_self.2 fun y b=>fA (a y b)
theorem aBF{base g bg:Nat}{q:bC}{ps:Nat→List ObV}{bv:Value}{ms:List MgV}{c:cD}{L:List Rp}{n:Int}(w:World)(Q:Ending→World→Prop)(h:ClO w base g q ps bg bv ms c)(hs:n=0→∀j,j<3→L[j]? =some (q.seat j).r.x∧(q.seat j).down=false∧(q.seat j).armed= -1)(hl:ms.length≤100)(z2:Lp w base g q ms c L n Q):
  Calls prog 9 #[.pointer (some ⟨g,0,none⟩),.agg (pO n).toArray] w Q:=by
 obtain⟨l1,cs1,a0,hT,e3,b3,T⟩:∃l1 cs1 a0,aBD base bg bv ms l1 cs1 n a0∧(∀u∈cs1,u.oneCell'=true)∧cs1.length=23∧((a0=0∧(∀j,j<3→L[j]? =some (q.seat j).r.x∧(q.seat j).down=false∧(q.seat j).armed= -1)∧∃m,ms=m::l1∧cs1=m.cells∧((∃i R,Lm q m i R∧∀e w',Ln w base g L c l1 i R e w'→Q e w')∨(yT m∧c=dC∧∀e w',Lo w base g L l1 m e w'→Q e w')))∨(a0=120∧∀e w',yV w base e w'→Q e w')):=by
  rcases z2 with⟨rfl,m,l,rfl,T⟩|⟨rfl,rfl,T⟩
  .exact⟨l,m.cells,0,fun W hB hb=>aBn m W hB hb,fD (h.bag.es m (List.mem_cons_self ..)).one,rfl,.inl ⟨rfl,hs rfl,m,rfl,rfl,T⟩⟩
  .refine⟨[],jV.cells,120,fun W hB hb=>(aBp 9 W hB (dJ _)).mono ?_,fD rfl,rfl,.inr ⟨rfl,T⟩⟩;rintro e w' ⟨z,rfl,rfl,o0⟩;exact⟨rfl,bv,hB.below o0,Chg.of_below o0,rfl⟩
 obtain⟨W1,l4,x1,b1,z1⟩:=par w 27 (pO n);have h1:=h.below b1;have k0:W1.cell? ⟨w.heap.size,0,none⟩=some (.i 2):=x1.cell 0;have H0:=k'6 h hs hl hT e3 b3;have HK:=kp T;have H1:=k'3 h1 x1 b1;clear h hs hl hT e3 b3 T z2 h1 x1 b1 z1;go_enter func9,ntmps9;go_wp2_with fail;obtain⟨V,E⟩:=nm' W1.drew;have hD:Bw' W1 V:=E▸bL (aH _ _);have O:=k'3 (H1.a.below hD) (H1.b.grow hD) (H1.C.on hD);have HL:=kp (fun i(Z:iX bg bv i)=>show i<V.heap.size from by
  rcases Z with rfl|Z
  .exact O.a.bag.blk.lt
  .exact (aM.lt O.a.bag.row i Z).2)
 clear hD k0;refine eY 12 (TkB V base bg bv ms l1 cs1) (fun _=>eQ) (by kernel_rfl) (by kernel_rfl) (by rw[E]; exact TkB.start O.a.bag) ?_
 iterate 6 (refine bE ?_; apply Exists.intro)
 refine bJ (IsV (.tuple #[.agg cs1.toArray,.i a0])) ?_
 iterate 3 (refine bE ?_; apply Exists.intro)
 iterate 2 (refine bJ dV ?_)
 refine cC ⟨?_,?_⟩
 rotate_left
 .iterate 6
   apply bQ (by kernel_rfl) (by intro t w h; cases h; exact trivial) rfl
   .intro X W' p G M E I;have kn:W'.cell? ⟨g,233,none⟩=some (.pointer (some ⟨bg,0,none⟩)):=(by have:=(O.a.b.tg (O.a.bag.cht p.c) (by unfold kT; decide)).cell 233; rw[bC.c_net,O.a.net]at this; exact this)
    have ka:W'.cell? ⟨w.heap.size,2,none⟩=some (.i n):=(O.b.tg (O.a.bag.cht p.c) (by unfold kT; decide)).cell 2;go_wp2_with fail;exact⟨rfl,_,rfl,p.other (by decide),aV,rfl⟩
   simp only[Act.put,aE,aC,aD,aS,aT]
  refine⟨fun X W' p G M E I=>?_,fun u6=>?_⟩
  .have HT:=kp (H0.d W' (p.n G) (aB O.a.sz p.c.size));go_wp2_with fail;refine (HT.o).mono ?_;rintro e w2 ⟨rfl,v',hB,hc,hv⟩;have H:=p.take (u:=.tuple #[.agg cs1.toArray,.i a0]) hB hv hc HL.o;clear hB hv hc;go_wp2_with fail;exact⟨rfl,_,rfl,H,aV,rfl⟩
  simp only[Act.put,aE,aC,aD,aS,aT];apply bQ (by kernel_rfl) (by intro t w h; cases h; exact trivial) rfl
  .intro X W' p G M E I;have f:IsV (.tuple #[.agg cs1.toArray,.i a0]) u6 W':=I 28 (bO (by kernel_rfl));have f:u6=.tuple #[.agg cs1.toArray,.i a0]:=f;subst f;go_wp2_with fail;exact⟨rfl,_,rfl,p.other (by decide),aV,rfl⟩
  simp only[Act.put,aE,aC,aD,aS,aT]
  iterate 2
   apply bQ (by kernel_rfl) (by intro t w h; cases h; exact trivial) rfl
   .intro X W' p G M E I;go_wp2_with fail;exact⟨rfl,_,rfl,p.other (by decide),aV,rfl⟩
   simp only[Act.put,aE,aC,aD,aS,aT]
  refine⟨fun X W' p G M E I=>?_,fun p0=>?_⟩
  .have H:=p.mk_ G;go_wp2_with fail;exact⟨rfl,_,rfl,H,aV,trivial⟩
  simp only[Act.put,aE,aC,aD,aS,aT];refine⟨fun X W' p G M E I=>?_,fun b0=>?_⟩
  .have h6:X 10=some p0:=E 10 6 p0 (by kernel_rfl) (by kernel_rfl) (bO (by kernel_rfl)) rfl;obtain⟨a,cs,rfl,-⟩:=p.al _ h6;obtain⟨W5,s5,H⟩:=p.put h6 H0.e H0.F HL.o;have j1:=H0.F;clear h6;go_wp2_with fail;exact⟨rfl,undef,rfl,H,aV,trivial⟩
  simp only[Act.put,aS,aT];intro U p I;clear I;simp only[bS,bU];obtain⟨a,cs,rfl,j1,hk,-,H⟩:=p.al p0 rfl;obtain rfl:=H b0 rfl;obtain⟨v3,d2,m3⟩:=p.y u6 rfl;obtain⟨S,Y⟩:=O.a.put d2 p.c;have hx:=O.b.tg (O.a.bag.cht p.c) (by unfold kT; decide);have N:=k'6 S ((ClG.of_below O.C H0.a.sz).trans Y) hk hx j1 m3;have o2:∀m:MgV,m∈ms→Ow U base 122 11 m.ev En.cells m.es:=fun m hm=>(O.a.bag.es m hm).tg (O.a.bag.cht p.c) (by unfold kT; decide);have HE:=kp o2;have T:=HK.o;clear H d2 m3 S Y hx hk p j1 o2 HK;rcases T with⟨rfl,l3,m,rfl,rfl,T⟩|⟨rfl,T⟩
  rotate_left
  .have HQ:=kp T;clear T;go_wp2_with fail;exact HQ.o _ _ ⟨rfl,N.b⟩
  have l0:=kp l3;clear l3;have k2:U.cell? ⟨a,2,none⟩=some (.i m.dst):=N.c.cell 2;have ka:U.cell? ⟨w.heap.size,0,none⟩=some (.i 2):=N.d.cell 0;rcases T with⟨i,R,hH,hQ⟩|⟨hR,rfl,hQ⟩
  rotate_left
  .rw[hR.d]at k2;obtain⟨cb,o,cap,z0,a4,d4⟩:=N.a.cv;have kc:U.cell? ⟨g,232,none⟩=some (.slice (some ⟨cb,o,none⟩) 1 cap):=by have:=N.a.b.cell 232; rw[bC.c_cv,z0]at this; exact this
   have HR:=k'3 hR z0 hQ;clear d4 a4 hR z0 hQ;have j2:=bG k2;have jc:=bG kc;go_wp2_with fail;refine ms' (aBt U) ?_;go_wp2_with fail;refine cX (by kernel_rfl) (by kernel_rfl) ?_
   repeat (go_big_quiet_step (fail))
   refine cI ?_;rintro W4 ⟨⟨_,y2⟩,rfl⟩;have HB:=kp y2;clear k2 kc j2 jc y2 ka;go_wp2_with fail;obtain⟨VB,q2⟩:∃V,W4.drew=V:=⟨_,rfl⟩
   have q0:Bw' U VB:=q2▸HB.o.on (bL (aH _ _));have HY:=k'3 (N.a.below q0) (N.c.grow q0) (N.b.trans (ClG.of_below q0 N.a.sz));clear q0;have d3:∀i,some i=v3.ownBlock→i≠a:=fun i e h=>by have h1:=HL.o i (.inr (e.trans N.F)); have h2:=N.e; omega
   have p3:=kp d3;clear d3;refine eY 15 (RpC VB base g bg a q ps m (yU VB base g bg q ps l1 m)) (fun _=>eQ) (by kernel_rfl) (by kernel_rfl) (by rw[q2]; exact⟨⟨_,_,_,HY.a⟩,HY.b,fun _=>aH _ _,fun _ h=>(nomatch h),fun _ h=>(nomatch h),fun _ h=>(nomatch h)⟩) ?_
   iterate 11 (refine bE ?_; apply Exists.intro)
   iterate 2 (refine bJ dV ?_)
   refine bE ?_; apply Exists.intro;refine bJ dV ?_;refine cC ⟨?_,?_⟩
   rotate_left
   .iterate 11
     apply bQ (by kernel_rfl) (by intro t w h; cases h; exact trivial) rfl
     .intro X W' p G M E I;have kc:W'.cell? ⟨g,232,none⟩=some (.slice (some ⟨cb,o,none⟩) 1 cap):=(by obtain⟨_,_,_,hc⟩:=p.cl; have:=hc.b.cell 232; rw[bC.c_cv,HR.b]at this; exact this)
      have k2:W'.cell? ⟨a,2,none⟩=some (.i (-1)):=(by rw[←HR.a.d]; exact p.k.cell 2)
      have l6:=p.k.load (P:=prog) (k:=23) rfl;go_wp2_with fail;exact⟨rfl,_,rfl,p.other (by decide),aV,rfl⟩
     simp only[Act.put,aE,aC,aD,aS,aT]
    refine⟨fun X W' p G M E I=>?_,fun b0=>?_⟩
    .have hb:=p.n G;have g2:=HY.a.below hb;have HP:=kp (aBA m W' g2 HR.b HR.a (by have:=H0.c; simp only[eS]at this; omega));have q1:=k'2 p.k hb;clear hb g2;go_wp2_with fail;refine (HP.o).mono ?_;rintro e w6 ⟨v,d0,rfl,hv,S,Y,m2⟩;have H:RpC VB base g bg a q ps m (yU VB base g bg q ps l1 m) (aY X 11 (.tuple #[v,.i 0])) w6:=by
      refine⟨⟨_,_,_,S⟩,m2 a _ q1.a (fun e=>p3.o a e rfl),fun hn=>?_,fun z A=>?_,fun z A=>?_,fun z A=>?_⟩
      .rw[fC]at hn; cases hn
      .rw[fC]at A; cases A;exact⟨v,d0,rfl,hv,S,(ClG.of_below q1.B HY.a.sz).trans Y⟩
      .rw[aI (by decide)]at A;obtain⟨y,hy⟩:=p.e z A;rw[G]at hy; cases hy
      .rw[aI (by decide)]at A ⊢;exact p.f z A
     clear hv S Y m2;go_wp2_with fail;exact⟨rfl,_,rfl,H,aV,trivial⟩
    simp only[Act.put,aE,aC,aD,aS,aT];refine⟨fun X W' p G M E I=>?_,fun o1=>?_⟩
    .have g0:X 11=some b0:=E 11 92 b0 (by kernel_rfl) (by kernel_rfl) (bO (by kernel_rfl)) rfl;obtain⟨v,d0,rfl,-⟩:=p.y _ g0;have H:RpC VB base g bg a q ps m (yU VB base g bg q ps l1 m) (aY X 12 v) W':=by
      refine⟨p.cl,p.k,fun hn=>p.n (by rw[aI (by decide)]at hn; exact hn),fun z A=>p.y z (by rw[aI (by decide)]at A; exact A),fun z A=>?_,fun z A=>?_⟩
      .rw[fC]at A; cases A;exact⟨_,by rw[aI (by decide)]; exact g0⟩
      .rw[aI (by decide)]at A;have:=p.f z A;rw[G]at this; cases this
     clear g0;go_wp2_with fail;exact⟨rfl,_,rfl,H,aV,trivial⟩
    simp only[Act.put,aE,aC,aD,aS,aT];apply bQ (by kernel_rfl) (by intro t w h; cases h; exact trivial) rfl
    .intro X W' p G M E I;have g0:X 11=some b0:=E 11 92 b0 (by kernel_rfl) (by kernel_rfl) (bO (by kernel_rfl)) rfl;obtain⟨v,d0,rfl,-⟩:=p.y _ g0;clear g0;go_wp2_with fail;exact⟨rfl,_,rfl,p.other (by decide),aV,rfl⟩
    simp only[Act.put,aE,aC,aD,aS,aT];refine⟨fun X W' p G M E I=>?_,fun p1=>?_⟩
    .have b2:X 12=some o1:=E 12 93 o1 (by kernel_rfl) (by kernel_rfl) (bO (by kernel_rfl)) rfl;have H:RpC VB base g bg a q ps m (yU VB base g bg q ps l1 m) (aY X 14 o1) W':=by
      refine⟨p.cl,p.k,fun hn=>p.n (by rw[aI (by decide)]at hn; exact hn),fun z A=>p.y z (by rw[aI (by decide)]at A; exact A),fun z A=>?_,fun z A=>?_⟩
      .rw[aI (by decide)]at A ⊢;exact p.e z A
      .rw[fC]at A; cases A;rw[aI (by decide)];exact b2
     clear b2;go_wp2_with fail;exact⟨rfl,_,rfl,H,aV,trivial⟩
    simp only[Act.put,aE,aC,aD,aS,aT];intro W6 p I;clear I;simp only[bS,bU];have a2:=p.f p1 rfl;obtain⟨y,hy⟩:=p.e _ a2;obtain⟨v,d0,y1,hv,S,Y⟩:=p.y _ hy;obtain⟨rfl,-⟩:p1=v∧y=.i 0:=by simpa using y1
    have HF:=k'3 hv S (HY.C.trans Y);clear hv S Y a2 hy y1 p;go_wp2_with fail;exact HR.C _ _ ⟨⟨p1,rfl,HF.a⟩,⟨q,ps,bg,d0,l1,HF.b,rfl,l0.o⟩,HF.C⟩
   .exact⟨pv',pv',pv',pv',pv',pv',pv',pv',pv',pv',pv',fun _ _ _ _ _ h _=>h,fun _ _ _ _ _ h _=>h,pv',fun _ _ _ _ _ h _=>h,trivial⟩
  have Z:=hH.lt;obtain⟨o,ho⟩:=nm' (1+i*33);have HS:=kp (by have:=Dh (n:=m.dst) U N.a.b Z hH.dst; rw[ho]at this; exact this);have kd:U.cell? ⟨g,o+31,none⟩=some (.bool false):=by have:=N.a.b.cell (1+i*33+31); rw[q.c_down Z,(l0.o i Z).2.1,ho]at this; exact this
  have K:=k'4 hH hQ Z ho;clear hH hQ Z ho;go_wp2_with fail;refine ms' (HS.o) ?_;go_wp2_with fail;clear k2 ka kd;obtain⟨V9,p2⟩:∃V,U.drew=V:=⟨_,rfl⟩
  have m0:Bw' U V9:=p2▸bL (aH _ _);have H9:=k'4 (N.a.below m0) (N.c.grow m0) ((HE.o m (List.mem_cons_self ..)).below m0) (N.b.trans (ClG.of_below m0 N.a.sz));clear m0;refine eY 12 (HvM V9 R) (fun _=>eQ) (by kernel_rfl) (by kernel_rfl) (by rw[p2]; exact⟨CAl.start,fun _ h=>(nomatch h)⟩) ?_
  iterate 5 (refine bE ?_; apply Exists.intro)
  iterate 7 (refine bJ dV ?_)
  refine cC ⟨?_,?_⟩
  rotate_left
  .iterate 5
    apply bQ (by kernel_rfl) (by intro t w h; cases h; exact trivial) rfl
    .intro X W' p G M E I;have lr:=(H9.a.b.grow p.c.bel).loadOff (P:=prog) o 26 (q.seat i).r.cells (by rw[←K.D]; exact q.take_r K.c) rfl;have lm:=(H9.b.grow p.c.bel).load (P:=prog) (k:=23) rfl;go_wp2_with fail;exact⟨rfl,_,rfl,p.step (p.c.other (by decide)) (by decide) (fun h=>absurd h (by decide)),aV,rfl⟩
    simp only[Act.put,aE,aC,aD,aS,aT]
   refine⟨fun X W' p G M E I=>?_,fun u5=>?_⟩
   .go_wp2_with fail;refine (aA3 (Wa:=V9) (m:=m) ((H9.a.s i K.c).below p.c.bel) p.c.bel.size rfl K.a.right K.a.rx ((H9.c.below p.c.bel).sl eM) rfl K.a.mg.1 K.a.mg.2.1 (by have:=K.a.mg.2.2; omega) K.a.hear).mono ?_;rintro e p4 ⟨z,rfl,A,o0⟩;have H:=p.step (p.c.doCall (HvQ.stab _ _) G o0 A (by decide)) (by decide) (fun _=>G);clear A o0;go_wp2_with fail;exact⟨rfl,_,rfl,H,aV,trivial⟩
   simp only[Act.put,aE,aC,aD,aS,aT];refine⟨fun X W' p G M E I=>?_,fun u6=>?_⟩
   .have h5:X 5=some u5:=E 5 58 u5 (by kernel_rfl) (by kernel_rfl) (bO (by kernel_rfl)) rfl;have H:=p.step (p.c.doMv h5 (by decide)) (by decide) (fun h=>absurd h (by decide));clear h5;go_wp2_with fail;exact⟨rfl,_,rfl,H,aV,trivial⟩
   simp only[Act.put,aE,aC,aD,aS,aT];refine⟨fun X W' p G M E I=>?_,fun u7=>?_⟩
   .have h3:=p.c.mv _ (E 6 52 u6 (by kernel_rfl) (by kernel_rfl) (bO (by kernel_rfl)) rfl);obtain⟨J,qq,rfl,-⟩:=p.c.call _ h3;have H:=p.step (p.c.doExt G h3 ⟨_,rfl⟩ (by decide)) (by decide) (fun h=>absurd h (by decide));clear h3;go_wp2_with fail;exact⟨rfl,_,rfl,H,aV,trivial⟩
   simp only[Act.put,aE,aC,aD,aS,aT];refine⟨fun X W' p G M E I=>?_,fun u8=>?_⟩
   .have h3:=p.c.mv _ (E 6 52 u6 (by kernel_rfl) (by kernel_rfl) (bO (by kernel_rfl)) rfl);obtain⟨J,qq,rfl,-⟩:=p.c.call _ h3;have H:HvM V9 R (aY X 8 (.agg #[J.rv,J.mv])) W':=⟨p.c.other (by decide),fun z A=>by rw[fC]at A; cases A; rw[aI (by decide)]; exact⟨_,_,h3,rfl⟩⟩
    clear h3;go_wp2_with fail;exact⟨rfl,_,rfl,H,aV,trivial⟩
   simp only[Act.put,aE,aC,aD,aS,aT];refine⟨fun X W' p G M E I=>?_,fun u9=>?_⟩
   .have H:=p.step (p.c.doAlloc (HvQ.stab _ _) G (by decide)) (by decide) (fun h=>absurd h (by decide));go_wp2_with fail;exact⟨rfl,_,rfl,H,aV,trivial⟩
   simp only[Act.put,aE,aC,aD,aS,aT];refine⟨fun X W' p G M E I=>?_,fun p0=>?_⟩
   .have H:=p.step (p.c.doAlloc2 (HvQ.stab _ _) (by decide)) (by decide) (fun h=>absurd h (by decide));go_wp2_with fail;exact⟨rfl,_,rfl,H,aV,trivial⟩
   simp only[Act.put,aE,aC,aD,aS,aT];refine⟨fun X W' p G M E I=>?_,fun b0=>?_⟩
   .have h4:X 7=some u7:=E 7 59 u7 (by kernel_rfl) (by kernel_rfl) (bO (by kernel_rfl)) rfl;have h6:X 9=some u9:=E 9 9 u9 (by kernel_rfl) (by kernel_rfl) (bO (by kernel_rfl)) rfl;obtain⟨u,hu,y,he⟩:=p.c.ext _ h4;obtain⟨J,qq,e0,-,-,-,ho,-⟩:=p.c.call _ hu;rw[he]at e0;obtain⟨rfl,-⟩:u7=.agg J.r.cells.toArray∧y=.agg #[J.rv,J.mv]:=by simpa using e0
    obtain⟨a9,cs,rfl,-⟩:=p.c.al _ h6;obtain⟨hk,j3⟩:=p.c.doStore (u:=undef) (HvQ.stab _ _) (by decide) G h6 h4 (by decide);have H:=p.step j3 (by decide) (fun h=>absurd h (by decide));have o4:=hk.store (P:=prog) (cs':=J.r.cells) rfl (lT ho.rpAt);clear hk he e0 hu h4 h6 ho j3;go_wp2_with fail;exact⟨rfl,undef,rfl,H,aV,trivial⟩
   simp only[Act.put,aS,aT];intro W9 p I;clear I;simp only[bS,bU];obtain⟨u,hu,y,he⟩:=p.c.ext u7 rfl;obtain⟨u',y',m1,e0⟩:=p.e u8 rfl;obtain rfl:u=u':=by rw[hu]at m1; exact Option.some.inj m1
   obtain⟨J,qq,a3,f1,-,f3,f4,f5,f6,f7⟩:=p.c.call _ hu;rw[a3]at he e0;obtain⟨rfl,-⟩:u7=.agg J.r.cells.toArray∧y=.agg #[J.rv,J.mv]:=by simpa [eq_comm] using he
   obtain⟨-,rfl⟩:y'=.agg J.r.cells.toArray∧u8=.agg #[J.rv,J.mv]:=by simpa [eq_comm] using e0
   obtain⟨bT,rfl,g4,j0⟩:=p.c.al2 p0 rfl;obtain⟨aR,q3,rfl,e4,g1,-,g3⟩:=p.c.al u9 rfl;have z3:J.r.cells=q3:=by have:=g3 b0 rfl; injection this with this; injection this with this; exact bA Array.toList this
   subst z3;obtain⟨VE,j4,s9,x9,c9⟩:=j0.put [J.rv,J.mv] rfl (fun u hu=>by
    rcases bD.1 hu with rfl|hu
    .exact f5.one
    .rw[bZ.1 hu]; exact f6.one)
   have m4:=(g1.chg c9 (g1.ne j0 (by decide))).load (P:=prog) (k:=26) rfl;have l2:=x9.load (P:=prog) (k:=2) rfl;have y0:Bw' V9 VE:=p.c.bel.trans (c9.below (B:=V9.heap.size) (fun i Z=>by omega) p.c.bel.size);have S:=H9.a.below y0;have hd:=l0.o i K.c;have a1:=aBv (rv:=J.rv) VE S K.c hd.2.1 hd.2.2 ((f4.chg j0 c9 (by decide)).mono H9.a.sz) (f6.chg_blk j0 c9 (by decide)) (fun x hx=>⟨(f7 x hx).chg_blk j0 c9 (by decide),by have:x.es.length≤1000:=(K.a.real x.x (f3▸Mn hx)).2; omega⟩) (fun k e=>(aM.lt H9.a.bag.row k e).2) (by have h1:=bA List.length f3; rw[dD]at h1; have h2:=K.a.few; have h3:=H0.c; simp only[eS]at h3; omega);rw[K.D]at a1;have o3:=kp a1;have HG:=k'3 (H9.D.trans (ClG.of_below y0 H9.a.sz)) f1 (aBE f3 fun y hy=>(K.a.real y hy).1);clear hu m1 he e0 a3 f1 f3 f4 f5 f6 f7 g4 j0 e4 g1 g3 x9 c9 y0 S hd p a1;go_wp2_with fail;go_wp2_with fail;refine mb' (o3.o) fun wZ hZ=>?_;have HZ:=kp hZ;clear hZ;go_wp2_with fail;obtain⟨⟨d0,ms',S,hx⟩,Y⟩:=HZ.o;refine K.b _ _ ⟨rfl,⟨_,_,bg,d0,l1++ms',S,by rw[fW,hx,HG.C],fun j hj=>?_⟩,HG.a.trans Y⟩;have y3:=(l0.o i K.c).1
   by_cases d1:j=i
   .subst d1;rw[bC.sit_self hj];refine⟨?_,rfl,rfl⟩;rw[List.getElem?_set_self (iZ.1 y3|>.1)];exact bA some HG.b.symm
   .rw[bC.sit_ne K.c hj d1,List.getElem?_set_ne (bM d1)];exact l0.o j hj
  .exact⟨pv',pv',pv',pv',pv',fun _ _ _ _ _ h _=>h,fun _ _ _ _ _ h _=>h,fun _ _ _ _ _ h _=>h,fun _ _ _ _ _ h _=>h,fun _ _ _ _ _ h _=>h,fun _ _ _ _ _ h _=>h,fun _ _ _ _ _ h _=>h,trivial⟩
 .exact⟨pv',pv',pv',pv',pv',pv',fun _ _ _ _ _ h _=>h,pv',pv',pv',fun _ _ _ _ _ h _=>h,fun _ _ _ _ _ h _=>h,trivial⟩
end
section
attribute [-go_sem] loadCellsFrom storeCells run_eql_struct run_neq_struct Instr.build
attribute [local go_sem] aX
def vS:List Value:=[.i 7,.i 1,.i (-1),.i 0]++dU.cells
def vT:List Value:=[.i 1,.i 1,.i 0,.i 0]++dU.cells
structure ClD(W:World)(base g:Nat):Prop where
 o:∃q ps bg bv ms c,ClO W base g q ps bg bv ms c∧ms=[]∧(q.seat 0).down=true
theorem aBG{base g x:Nat}{q:bC}{r:Nat→List ObV}{bv:Value}{c:cD}(w:World)(h:ClO w base g q r x bv [] c)(D:(q.seat 0).down=false):
  Calls prog 11 #[.pointer (some ⟨g,0,none⟩),.agg vS.toArray] w fun e E=>e=.returned (.i 0)∧ClD E base g∧ClG base w E:=by
 obtain⟨f,L,m,p,K⟩:=par w 27 vS;have k:=h.below p;have M:f.cell? ⟨w.heap.size,0,none⟩=some (.i 7):=m.cell 0;have N:f.cell? ⟨w.heap.size,1,none⟩=some (.i 1):=m.cell 1;have O:f.cell? ⟨w.heap.size,2,none⟩=some (.i (-1)):=m.cell 2;have P:f.cell? ⟨g,32,none⟩=some (.bool false):=by have:=k.b.cell (1+0*33+31); rw[q.c_down (i:=0) (by decide),D]at this; exact this
 have I:=kp (Dh (i:=0) (n:=1) f k.b (by decide) rfl);have G:=kp (aBu f k.b);have d:=k'3 k p h.sz;clear h D m p K k;go_enter func11,ntmps11;go_wp2_with fail;refine ms' (I.o) ?_;go_wp2_with fail;refine (G.o).mono ?_;rintro e F ⟨rfl,q',l,y,B⟩;obtain⟨z,A⟩:=ClO.store (q':=q') (ps':=r) d.a y B (by rw[l]; rfl) (by rw[l]; rfl) (fun j J=>by
  rw[l];rcases jZ J with rfl|rfl|rfl
  .exact d.a.s 0 (by decide)
  .exact d.a.s 1 (by decide)
  .exact d.a.s 2 (by decide))
 have H:=kp (show ClD F base g∧ClG base w F from⟨⟨q',r,x,bv,[],c,z,rfl,by rw[l]; rfl⟩,(ClG.of_below d.b d.C).trans A⟩);clear z A y B l;go_wp2_with fail;go_ret;exact⟨rfl,H.o⟩
theorem aBH{base g p:Nat}{q:bC}{s:Nat→List ObV}{bv:Value}{r:List MgV}{c:cD}(w:World)(h:ClO w base g q s p bv r c)(k:(q.seat 0).down=true):
  Calls prog 11 #[.pointer (some ⟨g,0,none⟩),.agg vT.toArray] w fun e x=>e=.returned (.i 181)∧Bw' w x:=by
 obtain⟨a,z,j,d,y⟩:=par w 27 vT;have f:=h.below d;have A:a.cell? ⟨w.heap.size,0,none⟩=some (.i 1):=j.cell 0;have B:a.cell? ⟨w.heap.size,1,none⟩=some (.i 1):=j.cell 1;have C:a.cell? ⟨g,32,none⟩=some (.bool true):=by have:=f.b.cell (1+0*33+31); rw[q.c_down (i:=0) (by decide),k]at this; exact this
 have m:=kp (Dh (i:=0) (n:=1) a f.b (by decide) rfl);have l:=kp d;clear h k j d y f;go_enter func11,ntmps11;go_wp2_with fail;refine ms' (m.o) ?_;go_wp2_with fail;go_ret;exact⟨rfl,l.o⟩
theorem aBI{base g:Nat}{L:List Rp}(w:World)(h:ClS w base g L [] dZ):Calls prog 4 #[.pointer (some ⟨g,0,none⟩),.agg tH.toArray] w fun e n=>e=.returned (.tuple #[.slice none 0 0,.i 0])∧ClS n base g L [oK] dC∧ClG base w n:=by
 obtain⟨q,C,x,bv,A,b,c,m⟩:=h.o;have z:A=[]:=List.map_eq_nil_iff.1 c;subst z;obtain⟨j,E,f,d,D⟩:=par w 27 tH;have F:j.cell? ⟨w.heap.size,0,none⟩=some (.i 5):=f.cell 0;have G:=f.load (P:=prog) (k:=11) rfl;have r:=kp (aBC j (b.below d) (by decide));have i:=k'2 m (ClG.of_below d b.sz);clear h b c m f d D;go_enter func4,ntmps4;go_wp2_with fail;refine (r.o).mono ?_;rintro e p ⟨rfl,y,ms',b,c,l⟩;have s:=kp (show ClS p base g L [oK] dC∧ClG base w p from⟨⟨q,C,x,y,[]++ms',b,c,i.a⟩,i.B.trans l⟩);clear b c l;go_wp2_with fail;go_ret2;exact⟨rfl,s.o⟩
theorem Lr{base g D:Nat}{q:bC}{E:Nat→List ObV}{bv:Value}{l:List MgV}{c:cD}{L:List Rp}{n:Int}(w:World)(Q:Ending→World→Prop)(h:ClO w base g q E D bv l c)(z:n=0→∀j,j<3→L[j]? =some (q.seat j).r.x∧(q.seat j).down=false∧(q.seat j).armed= -1)(y:l.length≤100)(s:∀W,Bw' w W→Lp W base g q l c L n Q)(p:∀e F,Q e F→∃a b,e=.returned (.tuple #[a,b])):
  Calls prog 4 #[.pointer (some ⟨g,0,none⟩),.agg (pO n).toArray] w Q:=by
 obtain⟨d,H,m,f,G⟩:=par w 27 (pO n);have I:d.cell? ⟨w.heap.size,0,none⟩=some (.i 2):=m.cell 0;have J:=m.load (P:=prog) (k:=11) rfl;have A:=kp (aBF d Q (h.below f) z y (s d f));have C:=kp p;clear h z y s m f G p;go_enter func4,ntmps4;go_wp2_with fail;refine (A.o).mono ?_;rintro e K i;obtain⟨a,b,rfl⟩:=C.o _ _ i;have B:=kp i;clear i;go_wp2_with fail;exact B.o
theorem aBJ{base g:Nat}{L:List Rp}{c:cD}(w:World)(h:ClS w base g L [] c):Calls prog 4 #[.pointer (some ⟨g,0,none⟩),.agg vS.toArray] w fun e n=>e=.returned (.tuple #[.slice none 0 0,.i 0])∧ClD n base g∧ClG base w n:=by
 obtain⟨q,E,A,bv,y,b,l,m⟩:=h.o;have x:y=[]:=List.map_eq_nil_iff.1 l;subst x;obtain⟨f,B,d,a,z⟩:=par w 27 vS;have C:f.cell? ⟨w.heap.size,0,none⟩=some (.i 7):=d.cell 0;have D:=d.load (P:=prog) (k:=11) rfl;have r:=kp (aBG f (b.below a) (m 0 (by decide)).2.1);have p:=kp (ClG.of_below a b.sz);clear h b l m d a z;go_enter func4,ntmps4;go_wp2_with fail;refine (r.o).mono ?_;rintro e F ⟨rfl,i,j⟩;have s:=k'2 i (p.o.trans j);clear i j;go_wp2_with fail;go_ret2;exact⟨rfl,s.o⟩
theorem aBK{base g:Nat}(w:World)(h:ClD w base g):Calls prog 4 #[.pointer (some ⟨g,0,none⟩),.agg vT.toArray] w fun e r=>e=.returned (.tuple #[.slice none 0 0,.i 181])∧Bw' w r:=by
 obtain⟨q,C,x,bv,B,c,f,p,j⟩:=h.o;obtain⟨d,y,b,a,s⟩:=par w 27 vT;have z:d.cell? ⟨w.heap.size,0,none⟩=some (.i 1):=b.cell 0;have A:=b.load (P:=prog) (k:=11) rfl;have m:=kp (aBH d (f.below a) j);have l:=kp a;clear h f p j b a s;go_enter func4,ntmps4;go_wp2_with fail;refine mb' (m.o) fun D i=>?_;have n:=kp (l.o.on i);clear i;go_wp2_with fail;go_ret2;exact⟨rfl,n.o⟩
end
end Go.Proofs.YtoncgpddjmgbfaaGreat
