import Derived.Test.YtoncgpddjmgbfaaGreatZ14
import Derived.Test.YtoncgpddjmgbfaaGreatZ15
import Derived.ChangeKeysEq
namespace Go.Proofs.YtoncgpddjmgbfaaGreat
open Go.RowKit Go.Proofs.Tryz
set_option maxRecDepth 100000
set_option maxHeartbeats 12800000
set_option linter.unusedVariables false
set_option linter.unusedSimpArgs false
section
theorem Wo.below{base g:Nat}{x:Hp}{w W W':World}(h:Wo base g x w W)(c:base≤w.heap.size)(b:Bw' W W'):Wo base g x w W':=by
 obtain⟨p,f,e,a,d⟩:=h;exact⟨p,f,e,⟨a.blk.below b a.blk.lt,a.lo,a.obs.below b,a.rws.below b,a.free.below b,a.eq⟩,d.below c b⟩
theorem Sx{h:Hp}{o:Opn}(a:o.k≠1)(b:o.k=2∨o.k=3∨o.k=4∨o.k=6∨o.k=7):eB h o=atI h o:=by
 unfold eB;rw[aF a,aK b];rfl
theorem Sy(p:HpV){i:Nat}(a:i<4):p.cells[3+i]? =some (.i (p.x.tops.getD i 0)):=by
 rcases (show i=0∨i=1∨i=2∨i=3 by omega) with rfl|rfl|rfl|rfl<;>rfl
theorem Sz(p:HpV){i:Nat}(a:i<4)(t:Int):p.cells.set (3+i) (.i t)=HpV.cells ⟨pZ p.x i t,p.ov,p.fv⟩:=by
 rcases (show i=0∨i=1∨i=2∨i=3 by omega) with rfl|rfl|rfl|rfl<;>rfl
theorem Ta(h:Hp)(i t:Int):(pZ h i t).obs=h.obs∧(pZ h i t).free=h.free:=by
 unfold pZ
 repeat' split
 all_goals exact⟨rfl,rfl⟩
theorem Hb.tops{w W W':World}{base g:Nat}{p p':HpV}{d:List ObV}{o:Opn}(h:Hb w base g p d o W)(b:Chg (fun i=>i=g) W W')(l:Blk W' g 320 p'.cells)(m:p'.ov=p.ov)(k:p'.fv=p.fv)(c:p'.x.obs=p.x.obs∧p'.x.free=p.x.free):Wo base g p'.x W W':=by
 obtain⟨e,f,j⟩:=h.hx.chg h.wk.blk b (by decide) (by decide) (by decide);have a:=aB h.h0 h.bw.bel.size;exact⟨p',d,rfl,⟨l,h.wk.lo,by rw[m]; exact e,f,by rw[k,c.2]; exact j,by rw[c.1]; exact h.wk.eq⟩,(Bw.of a (aH _ _)).chg a h.wk.blk h.wk.lo (by decide) b⟩
theorem Tb{base g:Nat}{p:HpV}{ps:List ObV}(o:Opn)(w:World)(h:Wk w base g 320 p ps)(hb:base≤w.heap.size)(H:HOk p.x):
  Calls prog 234 #[.pointer (some ⟨g,0,none⟩),.agg o.cells.toArray] w fun e w'=>e=.returned (.agg #[.i (eB p.x o).2.1,.i (eB p.x o).2.2])∧Wo base g (eB p.x o).1 w w':=by
 show Calls _ _ #[_,.agg #[.i o.k,.i o.h,.i o.i,.i o.n,.i o.m,.i o.v,.i o.t]] _ _;have a2:ps.length≤256:=by have:=H.len.1; have:=bA List.length h.eq; rw[dD]at this; omega
 have hs:iA (fun p:ObV=>p.x.h) ps:=Hr (by rw[←h.eq]; exact H.rise.2);have l0:=Hb.of o h hb;obtain⟨L,l2⟩:=nm' ((w.alloc (.cells #[.i o.k,.i o.h,.i o.i,.i o.n,.i o.m,.i o.v,.i o.t] 25)).alloc (.cells #[.i 0,.i 0] 73));rw[l2]at l0;have f:=kp l0;have HE:=kp h.eq;have HH:=kp H;have j2:=kp a2;have HS:=kp hs;obtain⟨R,hR⟩:=nm' (eB p.x o);rw[hR];have U:=kp hR;have Z:=f.o.op.c0;have o1:=f.o.op.c1;have I:=f.o.op.c2;have o3:=f.o.op.c3;have o4:=f.o.op.c4;have o5:=f.o.op.c5;have S:=f.o.op.c6;have b1:base≤L.heap.size:=aB hb l0.bw.bel.size;have e0:=kp (Sw o L f.o.wk b1 H);have g0:=kp (Sn o L f.o.wk b1 H);clear a2 l0 h H hb hR hs b1
 by_cases G:o.k=1
 .have g1:(o.k==1)=true:=by rw[G]; rfl
  have F:R=jG p.x o.n o.m:=by rw[←U.o]; unfold eB; rw[aK G]
  have C:=kp (fun w' Q=>f.o.fin (x:=(jG p.x o.n o.m).1) (W':=w') Q (jG p.x o.n o.m).2.1 (jG p.x o.n o.m).2.2);obtain⟨x,c,d⟩:=R;rw[←F]at e0 C;clear F G g0 U;go_enter wE,wF;go_wp2_with fail;refine mb' (e0.o) fun w4 d0=>?_;have a0:=kp (C.o w4 d0);have b:=kp a0.a;clear d0 Z o1 I o3 o4 o5 S;dsimp only;have y:=Blk.cell b.o 0;have z:=Blk.cell b.o 1;have D:=Blk.frozen b.o 0;have E:=Blk.frozen b.o 1;simp only[aP,aZ]at y z;have l:=kp ((Blk.setCell b.o 0 (.i (c))).setCell 1 (.i (d)));go_wp2_with fail;clear y z D E;have q:=l.o.cell 0;have s:=l.o.cell 1;simp only[aC,aD,aP,aZ]at q s;exact bI (v:=.agg #[.i (c),.i (d)]) (by simp[results,tX,go_sem,q,s]) rfl ⟨rfl,a0.B⟩
 have g1:(o.k==1)=false:=by simp[G]
 by_cases Y:o.k=2∨o.k=3∨o.k=4∨o.k=6∨o.k=7
 .have F:R=atI p.x o:=by rw[←U.o]; exact Sx G Y
  have C:=kp (fun w' Q=>f.o.fin (x:=(atI p.x o).1) (W':=w') Q (atI p.x o).2.1 (atI p.x o).2.2);obtain⟨x,c,d⟩:=R;rw[←F]at g0 C;clear F e0 U;obtain⟨b2,m2⟩:=nm' (o.k==2);obtain⟨b3,p2⟩:=nm' (o.k==3);obtain⟨b4,O⟩:=nm' (o.k==4);obtain⟨b6,q2⟩:=nm' (o.k==6);obtain⟨b7,y2⟩:=nm' (o.k==7);have j0:b2=true∨b2=false∧b3=true∨b2=false∧b3=false∧b4=true∨b2=false∧b3=false∧b4=false∧b6=true∨b2=false∧b3=false∧b4=false∧b6=false∧b7=true:=by
   rw[←m2,←p2,←O,←q2,←y2];simp only[beq_iff_eq,beq_eq_false_iff_ne];omega
  clear Y G;rcases j0 with rfl|⟨rfl,rfl⟩|⟨rfl,rfl,rfl⟩|⟨rfl,rfl,rfl,rfl⟩|⟨rfl,rfl,rfl,rfl,rfl⟩
  all_goals
   go_enter wE,wF;go_wp2_with fail;refine mb' (g0.o) fun w4 d0=>?_;have a0:=kp (C.o w4 d0);have b:=kp a0.a;clear d0 Z o1 I o3 o4 o5 S;dsimp only;have y:=Blk.cell b.o 0;have z:=Blk.cell b.o 1;have D:=Blk.frozen b.o 0;have E:=Blk.frozen b.o 1;simp only[aP,aZ]at y z;have l:=kp ((Blk.setCell b.o 0 (.i (c))).setCell 1 (.i (d)));go_wp2_with fail;clear y z D E;have q:=l.o.cell 0;have s:=l.o.cell 1;simp only[aC,aD,aP,aZ]at q s;exact bI (v:=.agg #[.i (c),.i (d)]) (by simp[results,tX,go_sem,q,s]) rfl ⟨rfl,a0.B⟩
 clear e0 g0;have g2:(o.k==2)=false:=by simp; omega
 have g3:(o.k==3)=false:=by simp; omega
 have g4:(o.k==4)=false:=by simp; omega
 have g6:(o.k==6)=false:=by simp; omega
 have g7:(o.k==7)=false:=by simp; omega
 by_cases kr:¬(o.k=5∨o.k=8)
 .obtain rfl:R=(p.x,54,0):=by rw[←U.o]; unfold eB; rw[aF G,aF Y,aF kr]
  have g5:(o.k==5)=false:=by simp; omega
  have V:(o.k==8)=false:=by simp; omega
  clear Y kr G;go_enter wE,wF;go_wp2_with fail;refine mb' (mC 54 _) fun w4 O=>?_;have J:=kp (f.o.below O);have b:=kp J.o.res;clear O Z o1 I o3 o4 o5 S;have y:=Blk.cell b.o 0;have z:=Blk.cell b.o 1;have D:=Blk.frozen b.o 0;have E:=Blk.frozen b.o 1;simp only[aP,aZ]at y z;have l:=kp ((Blk.setCell b.o 0 (.i (54))).setCell 1 (.i (0)));go_wp2_with fail;clear y z D E;have q:=l.o.cell 0;have s:=l.o.cell 1;simp only[aC,aD,aP,aZ]at q s;exact bI (v:=.agg #[.i (54),.i (0)]) (by simp[results,tX,go_sem,q,s]) rfl ⟨rfl,J.o.o 54 0⟩
 have F:R=qA p.x o:=by rw[←U.o]; unfold eB; rw[aF G,aF Y,aK (by omega)]
 have HT:=kp F;have HK:=kp G;have j0:(o.k==5)=true∧(o.k==8)=false∨(o.k==5)=false∧(o.k==8)=true:=by
  simp only[beq_iff_eq,beq_eq_false_iff_ne]; omega
 clear Y kr G F
 by_cases hi:0≤o.i∧o.i<4
 rotate_left
 .obtain rfl:R=(p.x,52,0):=by rw[HT.o]; unfold qA; rw[aF hi]
  have b0:=kp (fun W=>by
   have:=cK.2.2.2.2 o.i 0 3 W;rw[show aG o.i 0 3=false by unfold aG; simp; omega]at this;exact this)
  clear hi;rcases j0 with⟨g5,V⟩|⟨g5,V⟩
  all_goals
   go_enter wE,wF;go_wp2_with fail;refine ms' (b0.o _) ?_;go_wp2_with fail;refine mb' (mC 52 _) fun w4 O=>?_;have J:=kp (f.o.below O);have b:=kp J.o.res;clear O Z o1 I o3 o4 o5 S;have y:=Blk.cell b.o 0;have z:=Blk.cell b.o 1;have D:=Blk.frozen b.o 0;have E:=Blk.frozen b.o 1;simp only[aP,aZ]at y z;have l:=kp ((Blk.setCell b.o 0 (.i (52))).setCell 1 (.i (0)));go_wp2_with fail;clear y z D E;have q:=l.o.cell 0;have s:=l.o.cell 1;simp only[aC,aD,aP,aZ]at q s;exact bI (v:=.agg #[.i (52),.i (0)]) (by simp[results,tX,go_sem,q,s]) rfl ⟨rfl,J.o.o 52 0⟩
 have b0:=kp (fun W=>by
  have:=cK.2.2.2.2 o.i 0 3 W;rw[show aG o.i 0 3=true by unfold aG; simp; omega]at this;exact this)
 have K:=HT.o;unfold qA at K;rw[aK hi]at K;obtain⟨i,m1⟩:∃i:Nat,o.i=i:=⟨o.i.toNat,by omega⟩
 rw[m1]at hi I b0 K;rw[gS]at K;have l1:i<4:=by omega
 have T:=k'2 m1 l1;have hg:=f.o.wk.blk;have x3:=hg.cell (3+i);rw[Sy p l1]at x3;obtain⟨M,d2⟩:=nm' (p.x.tops.getD i 0);rw[d2]at x3 K;clear d2 hi hg l1 m1;rcases j0 with⟨g5,V⟩|⟨g5,V⟩
 rotate_left
 .obtain rfl:R=(p.x,0,M):=by rw[K,aK (by simpa using V)]
  have J:=f;have b:=kp J.o.res;have y:=Blk.cell b.o 0;have z:=Blk.cell b.o 1;have D:=Blk.frozen b.o 0;have E:=Blk.frozen b.o 1;simp only[aP,aZ]at y z;have g9:(i:Int)<4:=by have:=T.B; omega
  go_enter wE,wF;go_wp2_with fail;refine ms' (b0.o _) ?_;go_wp2_with fail
  go_region
  have l:cG _ _ 0 M:=Blk.below ((Blk.setCell b.o 0 (.i 0)).setCell 1 (.i M)) (bL (aH _ _)) (Blk.lt ((Blk.setCell b.o 0 (.i 0)).setCell 1 (.i M)));have hf:Wo base g p.x w ((L.setCell ⟨w.heap.size+1,0,none⟩ (.i 0)).setCell ⟨w.heap.size+1,1,none⟩ (.i M)).drew:=(J.o.o 0 M).below J.o.h0 (bL (aH _ _));obtain⟨W5,q1⟩:=nm' (((L.setCell ⟨w.heap.size+1,0,none⟩ (.i 0)).setCell ⟨w.heap.size+1,1,none⟩ (.i M)).drew);rw[q1]at l hf ⊢;have C:=kp hf;have q:=Blk.cell l 0;have s:=Blk.cell l 1;simp only[aP,aZ]at q s;clear y z D E x3 Z o1 I o3 o4 o5 S q1 hf l;go_wp2_with fail;exact bI (v:=.agg #[.i 0,.i M]) (by simp[results,tX,go_sem,q,s]) rfl ⟨rfl,C.o⟩
 .have HD:=kp (f.o.below (bL (aH _ _)));obtain⟨r,F⟩:=nm' (eI (ps.map (·.x)) o.t);have m0:=kp (Hm o.t L.drew (eP.of HD.o.wk.blk) HD.o.wk.wx.obs.sl (by have:=j2.o; omega) HS.o HD.o.wk.blk (j:=3+i) (by have:=T.B; show 3+i<8; omega));rw[F]at m0;rw[aF (by simpa using V),HE.o,F]at K;have HV:=kp K;have g9:(i:Int)<4:=by have:=T.B; omega
  clear F K;go_enter wE,wF;go_wp2_with fail;refine ms' (b0.o _) ?_;go_wp2_with fail;clear x3 Z o1 o3 o4 o5
  cases r
  .refine eY 11 (CL L 10 g 320 p.cells (p.cells)) (fun _=>eQ) (by kernel_rfl) (by kernel_rfl) ⟨(Chg.refl _ _).drew,fun _=>rfl,fun h=>by cases h⟩ ?_
   iterate 11 (refine bE ?_; apply Exists.intro)
   refine cC ⟨?pers0,?walk0⟩
   case walk0=>
    iterate 10
     apply bQ (by kernel_rfl) (by intro t w h; cases h; exact trivial) rfl
     .intro X W' A hX Q hV N; have P:=lD.of (f.o.op.blk.chg A.chg (f.o.op.blk.ne f.o.wk.blk (by decide))); have I:=P.c2; have S:=P.c6; rw[T.a]at I; clear P; go_wp2_with fail;exact⟨rfl,_,rfl,A.other (by decide),aV,rfl⟩
     simp only[Act.put,aE,aC,aD,aS,aT]
    apply bQ (by kernel_rfl) (by intro t w h; cases h; exact trivial) rfl
    .intro X W' A hX Q hV N;obtain rfl:=A.pre hX;go_wp2_with fail;refine (m0.o).mono ?_;rintro e w5 ⟨rfl,d1,a1⟩;go_wp2_with fail;exact⟨rfl,_,rfl,A.at_ d1 a1,aV,rfl⟩
    simp only[Act.put,aE,aC,aD,aS,aT];intro W5 A N;clear N;simp only[bS,bU];have hv:=HV.o;rw[aF (by decide)]at hv;have q0:=kp (f.o.tops (p':=p) A.chg (A.post rfl) rfl rfl ⟨rfl,rfl⟩);subst hv;clear A;have C:=kp (f.o.fin q0.o 51 0);have b:=kp C.a;have y:=Blk.cell b.o 0;have z:=Blk.cell b.o 1;have D:=Blk.frozen b.o 0;have E:=Blk.frozen b.o 1;simp only[aP,aZ]at y z;have l:=kp ((Blk.setCell b.o 0 (.i (51))).setCell 1 (.i (0)));go_wp2_with fail;clear y z D E;have q:=l.o.cell 0;have s:=l.o.cell 1;simp only[aC,aD,aP,aZ]at q s;exact bI (v:=.agg #[.i (51),.i (0)]) (by simp[results,tX,go_sem,q,s]) rfl ⟨rfl,C.B⟩
   case pers0=>exact⟨pv',pv',pv',pv',pv',pv',pv',pv',pv',pv',pv',trivial⟩
  .refine eY 11 (CL L 10 g 320 p.cells (p.cells.set (3+i) (.i o.t))) (fun _=>eQ) (by kernel_rfl) (by kernel_rfl) ⟨(Chg.refl _ _).drew,fun _=>rfl,fun h=>by cases h⟩ ?_
   iterate 11 (refine bE ?_; apply Exists.intro)
   refine cC ⟨?pers1,?walk1⟩
   case walk1=>
    iterate 10
     apply bQ (by kernel_rfl) (by intro t w h; cases h; exact trivial) rfl
     .intro X W' A hX Q hV N; have P:=lD.of (f.o.op.blk.chg A.chg (f.o.op.blk.ne f.o.wk.blk (by decide))); have I:=P.c2; have S:=P.c6; rw[T.a]at I; clear P; go_wp2_with fail;exact⟨rfl,_,rfl,A.other (by decide),aV,rfl⟩
     simp only[Act.put,aE,aC,aD,aS,aT]
    apply bQ (by kernel_rfl) (by intro t w h; cases h; exact trivial) rfl
    .intro X W' A hX Q hV N;obtain rfl:=A.pre hX;go_wp2_with fail;refine (m0.o).mono ?_;rintro e w5 ⟨rfl,d1,a1⟩;go_wp2_with fail;exact⟨rfl,_,rfl,A.at_ d1 a1,aV,rfl⟩
    simp only[Act.put,aE,aC,aD,aS,aT];intro W5 A N;clear N;simp only[bS,bU];have hv:=HV.o;rw[aK rfl]at hv;have j1:=A.post rfl;rw[Sz p T.B]at j1;have q0:=kp (f.o.tops A.chg j1 rfl rfl (Ta p.x i o.t));subst hv;clear j1 A;have C:=kp (f.o.fin q0.o 0 0);have b:=kp C.a;have y:=Blk.cell b.o 0;have z:=Blk.cell b.o 1;have D:=Blk.frozen b.o 0;have E:=Blk.frozen b.o 1;simp only[aP,aZ]at y z;have l:=kp ((Blk.setCell b.o 0 (.i (0))).setCell 1 (.i (0)));go_wp2_with fail;clear y z D E;have q:=l.o.cell 0;have s:=l.o.cell 1;simp only[aC,aD,aP,aZ]at q s;exact bI (v:=.agg #[.i (0),.i (0)]) (by simp[results,tX,go_sem,q,s]) rfl ⟨rfl,C.B⟩
   case pers1=>exact⟨pv',pv',pv',pv',pv',pv',pv',pv',pv',pv',pv',trivial⟩
end
section
attribute [-go_sem] loadCellsFrom storeCells
attribute [local go_sem] aX
theorem Wx.chg{w l:World}{base g b:Nat}{p:HpV}{k:List ObV}{t:TypeId}{m:List Value}(h:Wx w base g p k)(c:Blk w b t m)(d:Chg (fun i=>i=b) w l)(n:t≠264)(o:t≠262)(f:t≠3)(r:320≠t):Wx l base g p k:=
 ⟨h.blk.chg d (h.blk.ne c r),h.lo,aM.chg h.obs d fun _ a e=>aM.not_blk h.obs c n (e▸a),h.rws.chg d fun q j _ e=>⟨fun a=>(h.rws.row q j).1.tagF c (fun e=>f e.symm) (e▸a.symm),fun a=>(h.rws.row q j).2.tagF c (fun e=>f e.symm) (e▸a.symm)⟩,aM.chg h.free d fun _ a e=>aM.not_blk h.free c o (e▸a),h.eq⟩
theorem Wx.below{w d:World}{base g:Nat}{p:HpV}{c:List ObV}(a:Wx w base g p c)(b:Bw' w d):Wx d base g p c:=⟨a.blk.below b a.blk.lt,a.lo,a.obs.below b,a.rws.below b,a.free.below b,a.eq⟩
def Two(e:Nat)(Wa Wb:World)(X:Nat→Option Value)(W:World):Prop:=(X e=none→W=Wa)∧((X e).isSome=true→W=Wb)
theorem Two.start(e:Nat)(Wa a:World):Two e Wa a (fun _=>none) Wa:=⟨fun _=>rfl,fun h=>by cases h⟩
theorem Two.other{e j:Nat}{Wa a W:World}{X:Nat→Option Value}{v:Value}(h:Two e Wa a X W)(b:j≠e):Two e Wa a (aY X j v) W:=by
 unfold Two;rw[aI (bM b)];exact h
theorem Two.at_{e:Nat}{Wa a:World}{X:Nat→Option Value}{v:Value}:Two e Wa a (aY X e v) a:=⟨fun h=>by simp[aY]at h,fun _=>rfl⟩
theorem Two.all{e:Nat}{Wa a W:World}{X:Nat→Option Value}(h:Two e Wa a X W){P:World→Prop}(b:P Wa)(c:P a):P W:=by
 cases hx:X e with
 |none=>rw[h.1 hx]; exact b
 |some u=>rw[h.2 (by rw[hx]; rfl)]; exact c
theorem Ia(p:HpV)(S:List ObV)(o:Opn)(B:Nat)(w:World)(h:jB w B p S)(hB:B≤w.heap.size)(H:cR p.x=true):
  Calls prog 188 #[.agg p.cells.toArray,.agg o.cells.toArray] w fun e w'=>∃p' ps',e=.returned (.tuple #[.agg p'.cells.toArray,.agg #[.i (eB p.x o).2.1,.i (eB p.x o).2.2]])∧p'.x=(eB p.x o).1∧(∃base g,w.heap.size≤base∧Wx w' base g p' ps')∧Bw' w w':=by
 obtain⟨R,hR⟩:=nm' (eB p.x o);rw[hR];have q3:=kp hR;clear hR;have T:=gE.1 H;have hl:=T.len;have b2:=fun x hx=>T.lens (x:=x) hx;have g4:S.length≤256:=by have:=bA List.length h.2.1; rw[dD]at this; omega
 have hz:∀u∈S,u.x.ws.length≤1000∧u.x.ls.length≤1000:=fun u hu=>by
  have:=b2 u.x (by rw[h.2.1]; exact cP.2 ⟨u,hu,rfl⟩);omega
 have q:=Blk.new w 40 p.cells;have z:=ba' w (.cells p.cells.toArray 40);obtain⟨W1,d4⟩:=nm' (w.alloc (.cells p.cells.toArray 40));rw[d4]at q z;have L:=Blk.new W1 25 o.cells;have f:=ba' W1 (.cells o.cells.toArray 25);obtain⟨j,e0⟩:=nm' (W1.alloc (.cells o.cells.toArray 25));rw[e0]at L;rw[e0]at f;have Y:=Blk.new j 40 z'1;have r:=ba' j (.cells z'1a 40);obtain⟨K,z1⟩:=nm' (j.alloc (.cells z'1a 40));rw[show ((z'1:List Value).toArray)=z'1a from rfl,z1]at Y;rw[z1]at r;have p0:=cG.new K;have C:=ba' K (.cells #[.i 0,.i 0] 73);obtain⟨W4,a2⟩:=nm' (K.alloc (.cells #[.i 0,.i 0] 73));rw[a2]at p0;rw[a2]at C;have O:=k'2 (((z.on f).trans (r.mono (aB z.size f.size))).trans (C.mono (aB (aB z.size f.size) r.size))) (aB hB (aB (aB (aB z.size f.size) r.size) C.size));have p3:=k'2 (aB z.size f.size) (aB (aB z.size f.size) r.size);have H0:=kp (((q.below f q.lt).below r (q.below f q.lt).lt).below C ((q.below f q.lt).below r (q.below f q.lt).lt).lt);have H1:=kp ((L.below r L.lt).below C (L.below r L.lt).lt);have H2:=kp (Y.below C Y.lt);have H3:=kp p0;have HS:=kp (h.below O.a hB);have m3:=kp (by have:=xT p S B W4 HS.o O.B (by omega) (by omega); rw[H]at this; exact this);have j3:=kp (fun(W':World)(hb:Bw' W4 W')=>Sa p S B W' (HS.o.below hb O.B) (aB O.B hb.size) (by omega) (by omega) hz);have o3:=kp T;rw[show o.cells.toArray=#[.i o.k,.i o.h,.i o.i,.i o.n,.i o.m,.i o.v,.i o.t] from rfl]at e0;show Calls _ _ #[_,.agg #[.i o.k,.i o.h,.i o.i,.i o.n,.i o.m,.i o.v,.i o.t]] _ _;have l0:=H0.o.load (P:=prog) (k:=8) rfl;clear q z L f Y r p0 C h hB H hl b2 g4 hz T;go_enter func188,ntmps188;go_wp2_with fail;refine mb' (m3.o) fun w5 D=>?_;have y2:=kp (H0.o.below D H0.o.lt);have a1:=kp (H1.o.below D H1.o.lt);have d1:=kp (H2.o.below D H2.o.lt);have j1:=kp (H3.o.below D);have o1:=kp (O.a.on D);have l3:=kp (j3.o w5 D);have l5:=y2.o.load (P:=prog) (k:=8) rfl;clear D l0;go_wp2_with fail;refine (l3.o).mono ?_;rintro e w6 ⟨g,p1,m4,rfl,o0,j2,M⟩;dsimp only;have m0:=d1.o.lt;have d2:=Blk.lt j1.o;have a3:=kp (d1.o.below M m0);have b3:=kp (j1.o.below M);have z2:=kp (a1.o.below M a1.o.lt);have e3:=kp (o1.o.on M);have l6:=z2.o.load (P:=prog) (k:=7) rfl;have y1:=kp (Tb o w6 j2 M.size (by rw[o0]; exact o3.o));have I:=k'4 m0 d2 o1.o.size p3.o;rw[o0,q3.o]at y1;clear M j2 m0 d2 o0 l5;go_wp2_with fail;refine mb' (y1.o) fun y l4=>?_;obtain⟨s,q2,m2,l2,U⟩:=l4;have g1:=kp (a3.o.below U.bel I.a);have d3:=kp (show cG y _ 0 0 from Blk.below b3.o U.bel I.b);have g3:=kp (e3.o.trans (U.bel.mono I.c));have J:=k'2 m2 l2;clear m2 l2 U l6;have q0:=cG.new y;have g2:=q0.store R.2.1 R.2.2;have y0:=q0.set R.2.1 R.2.2;have F:Bw' y ((y.alloc (.cells #[.i 0,.i 0] 73)).setRow y.heap.size #[.i R.2.1,.i R.2.2]):=eU (ba' y _) (aN _) _;obtain⟨l,e4⟩:=nm' ((y.alloc (.cells #[.i 0,.i 0] 73)).setRow y.heap.size #[.i R.2.1,.i R.2.2]);rw[e4]at g2 y0 F;have d0:=kp y0;have a0:=kp (J.B.blk.below F J.B.blk.lt);have G:=kp (g1.o.below F g1.o.lt);have m1:=kp (cG.below d3.o F);have q1:=kp (g3.o.on F);have y3:=kp (J.B.below F);clear q0 y0 F;go_wp2_with fail;clear g2;have j4:=(show Blk l.drew j.heap.size 40 z'1 from G.o).store (P:=prog) (cs':=s.cells) rfl (HpV.one J.B.obs.sl.one J.B.free.sl.one);refine eY 6 (Two 5 l.drew (l.drew.setRow j.heap.size s.cells.toArray)) (fun _=>eQ) (by kernel_rfl) (by kernel_rfl) (Two.start _ _ _) ?_
 iterate 5 (refine bE ?_; apply Exists.intro)
 refine bJ dV ?_;refine cC ⟨?pers,?walk⟩
 case walk=>
  iterate 5
   apply bQ (by kernel_rfl) (by intro t w h; cases h; exact trivial) rfl
   .intro X W' A hX hw hV hF;have hg:=A.all (P:=fun W=>Blk W g 320 s.cells) a0.o (Blk.other a0.o (a0.o.ne G.o (by decide)) _);have hr:=A.all (P:=fun W=>cG W y.heap.size R.2.1 R.2.2) d0.o (Blk.other d0.o (Blk.ne d0.o G.o (by decide)) _);have l0:=hg.load (P:=prog) (k:=8) rfl;have l1:=hr.load;clear hg hr;go_wp2_with fail;exact⟨rfl,_,rfl,A.other (by decide),aV,rfl⟩
   simp only[Act.put,aE,aC,aD,aS,aT]
  refine⟨fun X W' A hX hw hV hF=>?_,fun u5=>?_⟩
  .obtain rfl:=A.1 hX;go_wp2_with fail;exact⟨rfl,undef,rfl,Two.at_,aV,trivial⟩
  simp only[Act.put,aS,aT];intro W9 A hF;clear hF;obtain rfl:=A.2 rfl;simp only[bS,bU];have Z:=(show Blk l.drew j.heap.size 40 z'1 from G.o).set s.cells;have j0:=(Chg.refl (fun i=>i=j.heap.size) l.drew).setRow (.inr rfl) s.cells.toArray;have z0:=(show Wx l.drew w5.heap.size g s q2 from y3.o.below (bL (aH _ _))).chg (show Blk l.drew j.heap.size 40 _ from G.o) j0 (by decide) (by decide) (by decide) (by decide);have N:cG (l.drew.setRow j.heap.size s.cells.toArray) K.heap.size 0 0:=Blk.other (show cG l.drew K.heap.size 0 0 from m1.o) (Blk.ne m1.o G.o (by decide)) _;have Q:=(wJ q1.o 1).trans (j0.below (B:=w.heap.size) (fun i e=>e▸I.d) q1.o.size);obtain⟨W9,g0⟩:=nm' (l.drew.setRow j.heap.size s.cells.toArray);rw[g0]at Z z0 N ⊢;have Q:Bw' w W9:=by rw[←g0]; exact Q
  clear g0 j0;have h1:=N.store R.2.1 R.2.2;have HP:=N.set R.2.1 R.2.2;have V:=(Chg.refl (fun i=>i=K.heap.size) W9).setRow (.inr rfl) #[.i R.2.1,.i R.2.2];have o2:=Z.chg V (Z.ne N (by decide));have HF:=k'2 (z0.chg N V (by decide) (by decide) (by decide) (by decide)) (Q.trans (V.below (B:=w.heap.size) (fun i e=>e▸I.E) Q.size));have z3:=o2.load (P:=prog) (k:=8) rfl;have a4:=HP.load;clear Z z0 N Q V o2 j4;go_wp2_with fail;exact bI (v:=.tuple #[.agg s.cells.toArray,.agg #[.i R.2.1,.i R.2.2]]) (by simp[results,results188,go_sem,z3,a4]) rfl ⟨s,q2,rfl,J.a,⟨_,_,I.c,HF.a⟩,HF.B⟩
 case pers=>exact⟨pv',pv',pv',pv',pv',fun _ _ _ _ _ h _=>h,trivial⟩
end
section
structure Hv(w:World)(base:Nat)(p:HpV)(ps:List ObV):Prop where
 obs:Ow w base 264 5 p.ov ObV.cells ps
 rws:Rws w base ps
 eq:p.x.obs=ps.map (·.x)
 free:OR w (fun i=>base≤i) 262 2 p.fv Bk.cells p.x.free
structure Wv(w:World)(base:Nat)(p:HpV)(ps:List ObV):Prop where
 obs:OR w (fun i=>base≤i) 264 5 p.ov ObV.cells ps
 rws:Rws w base ps
 eq:p.x.obs=ps.map (·.x)
 free:OR w (fun i=>base≤i) 262 2 p.fv Bk.cells p.x.free
def uW:List Value:=z'1
section
variable {w w' w0:World}{base b r4 r5:Nat}{p:HpV}{ps:List ObV}{t:TypeId}{cs:List Value}
theorem Rws.mono{base base2:Nat}{w:World}{ps:List ObV}(h:Rws w base ps)(a:base2≤base):Rws w base2 ps:=⟨fun q b=>⟨(h.row q b).1.mono a,(h.row q b).2.mono a⟩,h.sep⟩
theorem Hv.below(h:Hv w base p ps)(a:Bw' w w'):Hv w' base p ps:=⟨h.obs.below a,h.rws.below a,h.eq,h.free.below a⟩
theorem Wv.below(h:Wv w base p ps)(a:Bw' w w'):Wv w' base p ps:=⟨h.obs.below a,h.rws.below a,h.eq,h.free.below a⟩
theorem Hv.wv(h:Hv w base p ps):Wv w base p ps:=⟨OR.of_ow h.obs fun _ h _=>h,h.rws,h.eq,h.free⟩
theorem Wv.hpAt(h:Wv w base p ps):jB w w.heap.size p ps:=⟨⟨h.obs.sl,fun q a=>⟨(h.rws.row q a).1.sl eG,(h.rws.row q a).2.sl eG⟩⟩,h.eq,h.free.sl⟩
theorem Wv.chg(h:Wv w base p ps)(c:Blk w b t cs)(d:Chg (fun i=>i=b) w w')(j:t≠264)(k:t≠262)(f:t≠3):Wv w' base p ps:=
 ⟨aM.chg h.obs d fun _ a e=>aM.not_blk h.obs c j (e▸a),h.rws.chg d fun q g _ e=>⟨fun a=>(h.rws.row q g).1.tagF c (fun e=>f e.symm) (e▸a.symm),fun a=>(h.rws.row q g).2.tagF c (fun e=>f e.symm) (e▸a.symm)⟩,h.eq,aM.chg h.free d fun _ a e=>aM.not_blk h.free c k (e▸a)⟩
theorem Wv.one(h:Wv w base p ps):∀u∈p.cells,u.oneCell'=true:=HpV.one h.obs.sl.one h.free.sl.one
end
structure Bz(base:Nat)(w w':World):Prop where
 bel:Below base w w'
 keep:∀i t cs,t≠3→t≠264→Blk w i t cs→Blk w' i t cs
section
variable {α:Type}{enc:α→List Value}{w0 w w':World}{base b k:Nat}{t:TypeId}{v:Value}{l:List α}{S:Nat→Prop}
theorem Bz.size(h:Bz base w0 w):w0.heap.size≤w.heap.size:=h.bel.size
theorem Bz.of(h:Bw' w0 w)(b:base≤w0.heap.size):Bz base w0 w:=⟨h.mono b,fun _ _ _ _ _ a=>a.below h a.lt⟩
theorem Bz.trans(h:Bz base w0 w)(a:Bz base w w'):Bz base w0 w':=⟨h.bel.trans a.bel,fun i t cs b c d=>a.keep i t cs b c (h.keep i t cs b c d)⟩
theorem Bz.below(h:Bz base w0 w)(a:base≤w0.heap.size)(b:Bw' w w'):Bz base w0 w':=h.trans (.of b (aB a h.size))
theorem Bz.new(h:Bz base w0 w)(a:base≤w0.heap.size)(c:Chg (fun i=>i=b) w w')(j:w0.heap.size≤b):Bz base w0 w':=
 ⟨h.bel.trans (c.below (fun _ e=>e▸aB a j) (aB a h.size)),fun i t cs f g d=>(h.keep i t cs f g d).chg c (fun e=>by have:=d.lt; omega)⟩
theorem Bz.row(h:Bz base w0 w)(g:base≤w0.heap.size)(f:Ow w base t k v enc l)(j:t=3∨t=264)(c:Chg (fun i=>some i=v.ownBlock) w w'):Bz base w0 w':=
 ⟨h.bel.trans (c.below (fun i e=>(f.lt e.symm).1) (aB g h.size)),fun i t cs a b d=>(h.keep i t cs a b d).chg c (f.tagF (h.keep i t cs a b d) fun e=>by subst e; rcases j with e|e; exact a e; exact b e)⟩
end
section
variable {w w' w0:World}{base b r4 r5:Nat}{p:HpV}{ps:List ObV}{t:TypeId}{cs:List Value}
theorem Wv.fin(h:Wv w base p ps)(b:Blk w r4 40 uW)(l:cG w r5 0 0)(n:Bz base w0 w)(k:base≤w0.heap.size)(r:w0.heap.size≤r4)(s:w0.heap.size≤r5)(c d:Int):
  ∃f a,Sem.run prog (storeCells ⟨r4,0,none⟩ p.cells 0) w=.ok () f∧Sem.run prog (storeCells ⟨r5,0,none⟩ [.i c,.i d] 0) f=.ok () a∧
   Sem.run prog (loadCellsFrom ⟨r4,0,none⟩ 0 8 #[]) a=.ok p.cells.toArray a∧Sem.run prog (loadCellsFrom ⟨r5,0,none⟩ 0 2 #[]) a=.ok #[.i c,.i d] a∧Wv a base p ps∧Bz base w0 a∧Chg (fun i=>i=r4) w f:=by
 have g:=(Chg.refl (fun i=>i=r4) w).setRow (.inr rfl) p.cells.toArray;have o:=h.chg b g (by decide) (by decide) (by decide);have e:cG (w.setRow r4 p.cells.toArray) r5 0 0:=Blk.other l (Blk.ne l b (by decide)) _;have m:=b.set p.cells;have j:=(Chg.refl (fun i=>i=r5) (w.setRow r4 p.cells.toArray)).setRow (.inr rfl) #[.i c,.i d];have q:=m.chg j (m.ne e (by decide));refine⟨w.setRow r4 p.cells.toArray,(w.setRow r4 p.cells.toArray).setRow r5 #[.i c,.i d],b.store (P:=prog) rfl h.one,e.store c d,q.load (P:=prog) rfl,(e.set c d).load,o.chg e j (by decide) (by decide) (by decide),?_,g⟩;exact (n.new k g r).new k j s
end
end
section
attribute [-go_sem] loadCellsFrom storeCells
attribute [local go_sem] aX
structure Fv(w W:World)(base a1 a2 a3:Nat)(p:HpV)(ps:List ObV)(o:Opn):Prop where
 hv:Hv W base p ps
 box:Blk W w.heap.size 40 p.cells
 op:lD W a1 o
 r4:Blk W a2 40 uW
 r5:cG W a3 0 0
 bel:Bz base w W
 h0:base≤w.heap.size
 l2:w.heap.size<a2
 l3:w.heap.size<a3
section
variable {w W W':World}{base a1 a2 a3 b:Nat}{p p':HpV}{ps:List ObV}{o:Opn}{t:TypeId}{cs:List Value}
def Fv.q(_:Fv w W base a1 a2 a3 p ps o):HpV:=p
theorem Fv.below(h:Fv w W base a1 a2 a3 p ps o)(a:Bw' W W'):Fv w W' base a1 a2 a3 p ps o:=
 ⟨h.hv.below a,h.box.below a h.box.lt,h.op.below a,h.r4.below a h.r4.lt,h.r5.below a,h.bel.below h.h0 a,h.h0,h.l2,h.l3⟩
theorem Fv.fin(h:Fv w W base a1 a2 a3 p ps o)(c d:Int):
  ∃b a,Sem.run prog (storeCells ⟨a2,0,none⟩ p.cells 0) W=.ok () b∧Sem.run prog (storeCells ⟨a3,0,none⟩ [.i c,.i d] 0) b=.ok () a∧
   Sem.run prog (loadCellsFrom ⟨a2,0,none⟩ 0 8 #[]) a=.ok p.cells.toArray a∧Sem.run prog (loadCellsFrom ⟨a3,0,none⟩ 0 2 #[]) a=.ok #[.i c,.i d] a∧Wv a base p ps∧Bz base w a∧Chg (fun i=>i=a2) W b:=
 h.hv.wv.fin h.r4 h.r5 h.bel h.h0 (dK h.l2) (dK h.l3) c d
theorem Fv.put(h:Fv w W base a1 a2 a3 p ps o)(j:Nat)(u:Value)(k:p.cells.set j u=p'.cells)(g:p'.ov=p.ov)(f:p'.fv=p.fv)(d:p'.x.obs=p.x.obs∧p'.x.free=p.x.free):Fv w (W.setCell ⟨w.heap.size,j,none⟩ u) base a1 a2 a3 p' ps o:=by
 have a:=(Chg.refl (fun i=>i=w.heap.size) W).setCell (.inr rfl) j u;have l:=h.l2;have m:=h.l3;refine⟨⟨?_,?_,by rw[d.1]; exact h.hv.eq,?_⟩,k▸h.box.setCell j u,.of (h.op.blk.chg a (h.op.blk.ne h.box (by decide))),h.r4.chg a (by omega),Blk.chg h.r5 a (by omega),h.bel.new h.h0 a (aN _),h.h0,h.l2,h.l3⟩
 .rw[g]; exact h.hv.obs.chg a fun i b e=>h.hv.obs.ne_blk h.box (by decide) (e▸b)
 .exact h.hv.rws.chg a fun q c _ e=>⟨fun b=>(h.hv.rws.row q c).1.tagF h.box (by decide) (e▸b.symm),fun b=>(h.hv.rws.row q c).2.tagF h.box (by decide) (e▸b.symm)⟩
 .rw[f,d.2]; exact aM.chg h.hv.free a fun _ b e=>aM.not_blk h.hv.free h.box (by decide) (e▸b)
theorem Fv.of(p:HpV)(o:Opn)(h:Hv w base p ps)(A:base≤w.heap.size):∃a b c g,w.alloc (.cells p.cells.toArray 40)=a∧a.alloc (.cells #[.i o.k,.i o.h,.i o.i,.i o.n,.i o.m,.i o.v,.i o.t] 25)=b∧
  b.alloc (.cells z'1a 40)=c∧c.alloc (.cells #[.i 0,.i 0] 73)=g∧Fv w g base a.heap.size b.heap.size c.heap.size p ps o:=by
 refine⟨_,_,_,_,rfl,rfl,rfl,rfl,?_⟩;generalize x:w.alloc (.cells p.cells.toArray 40)=a;generalize y:a.alloc (.cells #[.i o.k,.i o.h,.i o.i,.i o.n,.i o.m,.i o.v,.i o.t] 25)=b;generalize z:b.alloc (.cells z'1a 40)=c;have f:Blk a w.heap.size 40 p.cells:=x▸Blk.new w 40 p.cells;have j:Blk b a.heap.size 25 o.cells:=y▸Blk.new a 25 o.cells;have l:Blk c b.heap.size 40 uW:=z▸Blk.new b 40 uW;have e1:Bw' w a:=x▸ba' w _;have e2:Bw' a b:=y▸ba' a _;have d:Bw' b c:=z▸ba' b _;have e:Bw' c (c.alloc (.cells #[.i 0,.i 0] 73)):=ba' c _;have q:=f.below e2 f.lt;have s:=j.below d j.lt;have r:=q.below d q.lt;exact⟨(((h.below e1).below e2).below d).below e,r.below e r.lt,.of (s.below e s.lt),l.below e l.lt,cG.new c,Bz.of (((e1.on e2).trans (d.mono (aB e1.size e2.size))).trans (e.mono (aB (aB e1.size e2.size) d.size))) A,A,cY f.lt e2.size,cY f.lt (aB e2.size d.size)⟩
end
end
section
structure Gv(w W:World)(base a2 a3 s:Nat)(p:HpV)(cs:List Value)(F:List Bk)(y:ObV)(ps:List ObV):Prop where
 box:Blk W w.heap.size 40 cs
 r4:Blk W a2 40 z'1
 r5:cG W a3 0 0
 gone:gH W s 264 y
 obs:Ow W base 264 5 p.ov ObV.cells ps
 rws:Rws W base ps
 free:OR W (fun i=>base≤i) 262 2 p.fv Bk.cells F
 bel:Bz base w W
 h0:base≤w.heap.size
 l2:w.heap.size<a2
 l3:w.heap.size<a3
 ls:w.heap.size<s
section
variable {w W W':World}{base a2 a3 s:Nat}{p:HpV}{cs:List Value}{F:List Bk}{y:ObV}{ps qs:List ObV}
theorem Gv.size(h:Gv w W base a2 a3 s p cs F y ps):base≤W.heap.size:=aB h.h0 h.bel.size
theorem Gv.below(h:Gv w W base a2 a3 s p cs F y ps)(a:Bw' W W'):Gv w W' base a2 a3 s p cs F y ps:=
 ⟨h.box.below a h.box.lt,h.r4.below a h.r4.lt,h.r5.below a,h.gone.below a,h.obs.below a,h.rws.below a,h.free.below a,h.bel.below h.h0 a,h.h0,h.l2,h.l3,h.ls⟩
theorem Gv.row(h:Gv w W base a2 a3 s p cs F y ps){v:Value}{t:List Int}(b:Ow W base 3 1 v i1 t)(a:Chg (fun i=>some i=v.ownBlock) W W')(k:Rws W' base qs)(g:aO ObV.cells qs=aO ObV.cells ps)(j:qs.length=ps.length):Gv w W' base a2 a3 s p cs F y qs:=by
 refine⟨h.box.chg a (b.tagF h.box (by decide)),h.r4.chg a (b.tagF h.r4 (by decide)),Blk.chg h.r5 a (b.tagF h.r5 (by decide)),.of (h.gone.blk.chg a (b.tagF h.gone.blk (by decide))),?_,k,aM.chg h.free a fun i d e=>?_,h.bel.row h.h0 b (.inl rfl) a,h.h0,h.l2,h.l3,h.ls⟩
 .unfold Ow;rw[g,j];exact (show Ow W base 264 5 p.ov ObV.cells ps from h.obs).chg a fun i d e=>h.obs.apt b (by decide) i d e.symm
 .obtain⟨c,f⟩:=aM.tag h.free d;exact b.tagF f (by decide) e
theorem Gv.put(h:Gv w W base a2 a3 s p cs F y ps)(j:Nat)(u:Value):Gv w (W.setCell ⟨w.heap.size,j,none⟩ u) base a2 a3 s p (cs.set j u) F y ps:=by
 have a:=(Chg.refl (fun i=>i=w.heap.size) W).setCell (.inr rfl) j u;have d:=h.l2;have f:=h.l3;exact⟨h.box.setCell j u,h.r4.chg a (by omega),Blk.chg h.r5 a (by omega),.of (h.gone.blk.chg a (by have:=h.ls; omega)),h.obs.chg a fun i b e=>h.obs.ne_blk h.box (by decide) (e▸b),
  h.rws.chg a fun q c _ e=>⟨fun b=>(h.rws.row q c).1.tagF h.box (by decide) (e▸b.symm),fun b=>(h.rws.row q c).2.tagF h.box (by decide) (e▸b.symm)⟩,aM.chg h.free a fun _ b e=>aM.not_blk h.free h.box (by decide) (e▸b),
  h.bel.new h.h0 a (aN _),h.h0,h.l2,h.l3,h.ls⟩
theorem Gv.grew{d:Nat}{v:Value}{l:List ObV}(h:Gv w W base a2 a3 s p cs F y ps)(a:Ow W d 264 5 v ObV.cells l)(f:W.grownBy W' v.ownBlock)(o:w.heap.size<d)(r:s<d)(k:∀i,p.ov.ownBlock=some i→i<d):Gv w W' base a2 a3 s p cs F y ps:=by
 have b:=eX f;have m:base≤d:=aB h.h0 (dK o);refine⟨h.box.chg b (a.ne_blk h.box (by decide)),h.r4.chg b (a.ne_blk h.r4 (by decide)),Blk.chg h.r5 b (a.ne_blk h.r5 (by decide)),.of (h.gone.blk.chg b fun e=>by have:=(a.lt e).1; omega),h.obs.chg b fun i g e=>by have:=(a.lt e).1; have:=k i g; omega,
  ⟨fun q j=>⟨a.other (h.rws.row q j).1 (by decide) f,a.other (h.rws.row q j).2 (by decide) f⟩,h.rws.sep⟩,aM.chg h.free b fun i g e=>by
   obtain⟨c,n⟩:=aM.tag h.free g;exact a.ne_blk n (by decide) e,h.bel.row h.h0 (a.mono m) (.inr rfl) (b.mono fun i _ e=>e.symm),h.h0,h.l2,h.l3,h.ls⟩
end
end
section
attribute [-go_sem] loadCellsFrom storeCells
attribute [local go_sem] aX
theorem Fv.row{w W W':World}{base j k l b:Nat}{p:HpV}{ps:List ObV}{o:Opn}{n:Nat}{y:ObV}{v:Value}{ws ls:List Int}(h:Fv w W base j k l p ps o)(C:∃f:n<ps.length,ps[n]=y)(q:v=y.wv∨v=y.lv)(B:v.ownBlock=some b)
  (A:Chg (fun i=>i=b) W W') (r:Ow W' base 3 1 y.wv i1 ws) (s:Ow W' base 3 1 y.lv i1 ls):
  Fv w W' base j k l ⟨{p.x with obs:=p.x.obs.set n {y.x with ws:=ws,ls:=ls}},p.ov,p.fv⟩ (ps.set n ⟨{y.x with ws:=ws,ls:=ls},y.wv,y.lv⟩) o:=by
 obtain⟨f,rfl⟩:=C;have a:Chg (fun i=>some i=v.ownBlock) W W':=A.mono fun i _ e=>by rw[B,e]
 have D:∃t,Ow W base 3 1 v i1 t:=by
  rcases q with rfl|rfl
  .exact⟨_,(h.hv.rws.row _ (cU f)).1⟩
  .exact⟨_,(h.hv.rws.row _ (cU f)).2⟩
 obtain⟨t,d⟩:=D;refine⟨⟨?_,h.hv.rws.upd f q a r s,?_,?_⟩,h.box.chg a (d.tagF h.box (by decide)),.of (h.op.blk.chg a (d.tagF h.op.blk (by decide))),h.r4.chg a (d.tagF h.r4 (by decide)),Blk.chg h.r5 a (d.tagF h.r5 (by decide)),h.bel.row h.h0 d (.inl rfl) a,h.h0,h.l2,h.l3⟩
 .have m:=(show Ow W base 264 5 p.ov ObV.cells ps from h.hv.obs).chg a fun i g e=>h.hv.obs.apt d (by decide) i g e.symm;have e:aO ObV.cells (ps.set n ⟨{ps[n].x with ws:=ws,ls:=ls},ps[n].wv,ps[n].lv⟩)=aO ObV.cells ps:=Hu f rfl;unfold Ow at m ⊢;rw[e,nM];exact m
 .show p.x.obs.set n _=_;rw[Ht,h.hv.eq]
 .exact aM.chg h.hv.free a fun i g e=>by
   obtain⟨c,z⟩:=aM.tag h.hv.free g;exact d.tagF z (by decide) e
section
variable {base:Nat}{p:HpV}{ps:List ObV}{o:Opn}{w:World}
def Res(base:Nat)(w:World)(R:Hp×Int×Int)(e:Ending)(w':World):Prop:=∃p' ps',e=.returned (.tuple #[.agg p'.cells.toArray,.agg #[.i R.2.1,.i R.2.2]])∧p'.x=R.1∧Wv w' base p' ps'∧Bz base w w'
theorem Res.of{a:World}{R:Hp×Int×Int}{p':HpV}{ps':List ObV}(d:p'.x=R.1)(c:Wv a base p' ps')(b:Bz base w a):Res base w R (.returned (.tuple #[.agg p'.cells.toArray,.agg #[.i R.2.1,.i R.2.2]])) a:=⟨p',ps',rfl,d,c,b⟩
end
end
section
attribute [-go_sem] loadCellsFrom storeCells
attribute [local go_sem] aX
theorem Fv.grew{w W W':World}{base A B C:Nat}{p:HpV}{l:List ObV}{o:Opn}{q:ObV}{v j:Value}{y:List Bk}{m:Int}(h:Fv w W base A B C p l o)(n:W.grownBy W' p.ov.ownBlock)(F:Ow W' base 264 5 v ObV.cells (l++[q]))
  (r:Rws W base (l++[q])) (D:OR W (fun i=>base≤i) 262 2 j Bk.cells y):
  Blk W' w.heap.size 40 p.cells∧Fv w (((W'.setCell ⟨w.heap.size,1,none⟩ v).setCell ⟨w.heap.size,7,none⟩ j).setCell ⟨w.heap.size,2,none⟩ (.i m)) base A B C ⟨{p.x with obs:=p.x.obs++[q.x],free:=y,next:=m},v,j⟩ (l++[q]) o:=by
 have b:=h.hv.obs;have f:=eX n;have d:=h.box.chg f (b.ne_blk h.box (by decide));have s:Rws W' base (l++[q]):=⟨fun z k=>⟨b.other (r.row z k).1 (by decide) n,b.other (r.row z k).2 (by decide) n⟩,r.sep⟩
 have E:OR W' (fun i=>base≤i) 262 2 j Bk.cells y:=aM.chg D f fun i a e=>by
  obtain⟨c,I⟩:=aM.tag D a;exact b.ne_blk I (by decide) e
 have J:Bz base w W':=h.bel.row h.h0 b (.inr rfl) (f.mono fun i _ e=>e.symm);have g:=(((Chg.refl (fun i=>i=w.heap.size) W').setCell (.inr rfl) 1 v).setCell (.inr rfl) 7 j).setCell (.inr rfl) 2 (.i m);have G:=h.l2;have H:=h.l3;refine⟨d,⟨F.chg g fun i a e=>F.ne_blk d (by decide) (e▸a),s.chg g fun z k _ e=>⟨fun a=>(s.row z k).1.tagF d (by decide) (e▸a.symm),fun a=>(s.row z k).2.tagF d (by decide) (e▸a.symm)⟩,?_,aM.chg E g fun _ a e=>aM.not_blk E d (by decide) (e▸a)⟩,
  ((d.setCell 1 v).setCell 7 j).setCell 2 (.i m),.of ((h.op.blk.chg f (b.ne_blk h.op.blk (by decide))).chg g ((h.op.blk.chg f (b.ne_blk h.op.blk (by decide))).ne d (by decide))),(h.r4.chg f (b.ne_blk h.r4 (by decide))).chg g (by omega),Blk.chg (Blk.chg h.r5 f (b.ne_blk h.r5 (by decide))) g (by omega),J.new h.h0 g (aN _),h.h0,G,H⟩
 show p.x.obs++[q.x]=_;rw[fW,h.hv.eq]; rfl
end
section
attribute [-go_sem] loadCellsFrom storeCells
attribute [local go_sem] aX
structure Dv(w W:World)(base a1 a2 a3:Nat)(p:HpV)(ps:List ObV)(o:Opn):Prop where
 hv:Hv W base p ps
 box:Blk W w.heap.size 40 p.cells
 op:lD W a1 o
 r4:Blk W a2 40 uW
 r5:cG W a3 0 0
 bel:Bw' w W
 h1:base≤W.heap.size
 l0:w.heap.size<base∧a1<base∧a2<base∧a3<base
 l2:w.heap.size<a2∧w.heap.size<a3
section
variable {w W W':World}{base base2 a1 a2 a3:Nat}{p p':HpV}{ps ps':List ObV}{o:Opn}
theorem Wv.mono(h:Wv w base p ps)(a:base2≤base):Wv w base2 p ps:=⟨aM.mono h.obs fun _ _ h=>aB a h,h.rws.mono a,h.eq,aM.mono h.free fun _ _ h=>aB a h⟩
theorem Dv.below(h:Dv w W base a1 a2 a3 p ps o)(a:Bw' W W'):Dv w W' base a1 a2 a3 p ps o:=
 ⟨h.hv.below a,h.box.below a h.box.lt,h.op.below a,h.r4.below a h.r4.lt,h.r5.below a,h.bel.on a,aB h.h1 a.size,h.l0,h.l2⟩
theorem Dv.fin(h:Dv w W base a1 a2 a3 p ps o)(i:Wv W' base p' ps')(e:Bz base W W')(c d:Int):
  ∃b a,Sem.run prog (storeCells ⟨a2,0,none⟩ p'.cells 0) W'=.ok () b∧Sem.run prog (storeCells ⟨a3,0,none⟩ [.i c,.i d] 0) b=.ok () a∧
   Sem.run prog (loadCellsFrom ⟨a2,0,none⟩ 0 8 #[]) a=.ok p'.cells.toArray a∧Sem.run prog (loadCellsFrom ⟨a3,0,none⟩ 0 2 #[]) a=.ok #[.i c,.i d] a∧Wv a w.heap.size p' ps'∧Bw' w a:=by
 obtain⟨b,a,j,k,l,m,f,g,-⟩:=(i.mono (dK h.l0.1)).fin (h.r4.below e.bel h.l0.2.2.1) (Blk.below h.r5 e.bel h.l0.2.2.2) (.of (h.bel.trans (e.bel.mono (dK h.l0.1))) (aN _)) (aN _) (dK h.l2.1) (dK h.l2.2) c d;exact⟨b,a,j,k,l,m,f,g.bel⟩
theorem Bz.refl:Bz base W W:=⟨.refl _ _,fun _ _ _ _ _ h=>h⟩
end
structure CD(W:World)(base:Nat)(R:Hp×Int×Int)(X:Nat→Option Value)(W':World):Prop where
 bel:Below base W W'
 pre:X 6=none→Bw' W W'
 d5:X 5=none→X 6=none
 post:∀u,X 6=some u→∃p' ps',u=.tuple #[.agg p'.cells.toArray,.agg #[.i R.2.1,.i R.2.2]]∧p'.x=R.1∧Wv W' base p' ps'∧Bz base W W'
 e7:∀z,X 7=some z→∃y,X 6=some (.tuple #[z,y])
section
variable {W W' W2:World}{base:Nat}{R:Hp×Int×Int}{X:Nat→Option Value}{v z:Value}
theorem CD.other(h:CD W base R X W')(j:Nat)(v:Value)(b:j≠5)(a:j≠6)(c:j≠7):CD W base R (aY X j v) W':=by
 refine⟨h.bel,?_,?_,?_,?_⟩
 .rw[aI (bM a)]; exact h.pre
 .rw[aI (bM b),aI (bM a)]; exact h.d5
 .rw[aI (bM a)]; exact h.post
 .rw[aI (bM c),aI (bM a)]; exact h.e7
theorem CD.extr{y:Value}(h:CD W base R X W')(a:X 6=some (.tuple #[z,y])):CD W base R (aY X 7 z) W':=
 ⟨h.bel,h.pre,h.d5,h.post,fun u b=>by cases b; exact⟨y,a⟩⟩
end
end
section

end
section
structure SmH(h:Hp):Prop where
 obs:h.obs.length≤600
 free:h.free.length≤600
 rows:∀x∈h.obs,x.ws.length≤5000∧x.ls.length≤5000
def NoR(w:World)(Q:Prop)(e:Ending)(w':World):Prop:=∃r,e=.returned (.bool r)∧(r=false→Q)∧Bw' w w'
theorem NoR.of{w a:World}{Q:Prop}{r:Bool}(h:r=false→Q)(b:Bw' w a):NoR w Q (.returned (.bool r)) a:=⟨r,rfl,h,b⟩
end
end Go.Proofs.YtoncgpddjmgbfaaGreat
