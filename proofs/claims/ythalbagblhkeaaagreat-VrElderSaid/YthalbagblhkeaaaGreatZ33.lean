import Derived.Test.YthalbagblhkeaaaGreatZ25
import Derived.Test.YthalbagblhkeaaaGreatZ27
import Derived.Test.YthalbagblhkeaaaGreatZ28
import Derived.Test.YthalbagblhkeaaaGreatZ32
import Derived.Defers
import Derived.Recover
namespace Go.Proofs.YthalbagblhkeaaaGreat
open Go.RowKit Go.Proofs.Tryz
set_option maxRecDepth 100000
set_option maxHeartbeats 12800000
set_option linter.unusedVariables false
set_option linter.unusedSimpArgs false
section
attribute [-go_sem] loadCellsFrom storeCells run_eql_struct run_neq_struct Instr.build
attribute [local go_sem] bC Ei
def six(m:MgV):List Int:=[m.view,m.number,m.base,m.commit,m.normal,m.offset]
theorem aEq(a b c d e f:Int)(w:World):(Instr.build 122 #[(0,.i a),(1,.i b),(2,.i c),(3,.i d),(4,.i e),(5,.i f)]).run prog w=.ok (.agg #[.i a,.i b,.i c,.i d,.i e,.i f]) w:=run_build w _ _ _ (by kernel_rfl)
theorem aCU(a b c d e f:Int)(w:World)(k:Nat)(x:Int)(g:([a,b,c,d,e,f]:List Int)[k]? =some x):(Instr.index 122 (.agg #[.i a,.i b,.i c,.i d,.i e,.i f]) (.i (k:Int))).run prog w=.ok (.i x) w:=by
 have h:k<6:=by
  have:=(iH.1 g).1;simpa using this
 have:k=0∨k=1∨k=2∨k=3∨k=4∨k=5:=by omega
 rcases this with rfl|rfl|rfl|rfl|rfl|rfl
 all_goals
  simp at g;subst g;simp[Instr.index,run_underlying underlying122,asIntOf,go_sem]
attribute [local go_sem] aEq
theorem aEr(p:RpV)(m:MgV):Af p.x m.x=((aF m.src 1 p.nodes&&(!decide (m.src=p.id)&&(aF m.total 0 65536&&decide ((m.es.length:Int)≤2000))))&&((six m).all (fun n=>aF n 0 800000000)&&(decide (p.k.view≤m.view)&& !(m.es.any fun e=> !fY e)))):=by
 have e:decide (m.es.length≤2000)=decide ((m.es.length:Int)≤2000):=decide_eq_decide.2 (by omega);unfold Af six;simp only[List.all_cons,List.all_nil,Bool.and_true];rw[show m.x.es=m.es from rfl,e,Bool.and_assoc];rfl
theorem aEs{g base B:Nat}(p:WkV)(ps:List ObV)(m:MgV)(w:World)(h:WkO w base g 79 [] p ps)(hm:Sl w B m.ev En.cells m.es)(O:B≤w.heap.size)(hn:m.es.length≤1000000):
  Calls prog 34 #[.pointer (some ⟨g,0,none⟩),.agg m.cells.toArray] w fun e w'=>e=.returned (.bool (Af p.r.x m.x))∧Bw' w w':=by
 rw[aEr];obtain⟨D,m0,I,G,z1⟩:=par w 48 m.cells;have J:=h.blk.grow G;have m1:=Sl.below hm G O;have P:=aB O G.size;obtain⟨X,c8,L,-⟩:=hm;have z:=k'3 J I G;have N:=kp (fun r:Blw D=>aCp m.ev m.es (fun e=> !fY e) 68 #[] B r.w (Sl.below m1 r.h P) (aB P r.h.size) hn (enters_of func68 (by kernel_rfl) rfl) fun W' x _ _=>vC.1 x W');have j1:=aP (show D.cell? ⟨w.heap.size,1,none⟩=some (.i m.src) from I.cell 1);have e0:=aP (show D.cell? ⟨w.heap.size,10,none⟩=some (.i m.total) from I.cell 10);have j8:=aP (show D.cell? ⟨w.heap.size,8,none⟩=some (.slice X m.es.length c8) by rw[←L]; exact I.cell 8);have i0:=aP (show D.cell? ⟨g,0,none⟩=some (.i p.r.id) from J.cell 0);have i1:=aP (show D.cell? ⟨g,1,none⟩=some (.i p.r.nodes) from J.cell 1);have j0:=kp L;rw[L]at N;obtain⟨a,Q⟩:=nm' (aF m.src 1 p.r.nodes);obtain⟨b,R⟩:=nm' (!decide (m.src=p.r.id));obtain⟨c,S⟩:=nm' (aF m.total 0 65536);obtain⟨d,hd⟩:=nm' (decide ((m.es.length:Int)≤2000));obtain⟨u,hu⟩:=nm' (decide (p.r.k.view≤m.view));obtain⟨t,T⟩:=nm' (m.es.any fun e=> !fY e);have cG:(m.src != p.r.id)=b:=by rw[←R]; rfl
 have Z:=kp (fun w=>by have:=oK.1 m.src 1 p.r.nodes w; rw[Q]at this; exact this);have a0:=kp (fun w=>by have:=oK.1 m.total 0 65536 w; rw[S]at this; exact this);rw[T]at N;rw[Q,R,S,hd,hu,T];have K:((a&&(b&&(c&&d)))=false∧(a=false∨(a=true∧b=false)∨(a=true∧b=true∧c=false)∨(a=true∧b=true∧c=true∧d=false)))∨((a&&(b&&(c&&d)))=true∧a=true∧b=true∧c=true∧d=true):=by
  cases a<;>cases b<;>cases c<;>cases d<;>decide
 obtain⟨o,ho⟩:=nm' (a&&(b&&(c&&d)));rw[ho]at K ⊢;clear I G z1 J m1 h O hn Q R S T L P ho;rcases K with⟨rfl,K⟩|⟨rfl,rfl,rfl,rfl,rfl⟩
 .have hf:∀r:Bool,(false&&r)=false:=fun _=>rfl;rw[hf];clear hf;rcases K with rfl|⟨rfl,rfl⟩|⟨rfl,rfl,rfl⟩|⟨rfl,rfl,rfl,rfl⟩
  all_goals
   go_enter func34,ntmps34;go_wp2_with fail;refine bJ (by kernel_rfl) (by kernel_rfl) ?_
   repeat (go_big_quiet_step ((go_at_call 22; first |with_reducible refine dG (Z.o _)|with_reducible refine dG (a0.o _))))
   refine bH ?_;rintro f ⟨⟨_,A⟩,rfl⟩;have j:=z.b.grow A;have W:f.cell? ⟨w.heap.size,3,none⟩=some (.i m.view):=j.cell 3;have k4:f.cell? ⟨w.heap.size,4,none⟩=some (.i m.normal):=j.cell 4;have k5:f.cell? ⟨w.heap.size,5,none⟩=some (.i m.number):=j.cell 5;have k6:f.cell? ⟨w.heap.size,6,none⟩=some (.i m.base):=j.cell 6;have k7:f.cell? ⟨w.heap.size,7,none⟩=some (.i m.commit):=j.cell 7;have k9:f.cell? ⟨w.heap.size,9,none⟩=some (.i m.offset):=j.cell 9;have s:=kp (z.C.on A);clear A j1 e0 j8 i0 i1 j;go_wp2_with fail
   go_loopw [5,50] (fun v i wr=>∃k:Nat,k≤6∧i=.i k∧v=.bool false∧wr=f) (fun _ i _=>6-(intOf i).toNat)
   case atStart=>exact⟨0,by omega,rfl,rfl,rfl⟩
   case round=>
    obtain⟨k,hk,rfl,rfl,rfl⟩:=hrel
    by_cases l:k<6
    .have g3:(k:Int)<6:=by omega
     have U:=aCU m.view m.number m.base m.commit m.normal m.offset wr k _ (eK l);generalize ([m.view,m.number,m.base,m.commit,m.normal,m.offset]:List Int)[k]'l=x at U;go_wp2_with fail;go_roundw
     case rel=>exact⟨k+1,by omega,by go_num,by first |rfl|trivial,by first |rfl|trivial⟩
     case measure=>simp[intOf]; omega
    .obtain rfl:k=6:=by omega
     go_wp2_with fail;refine bJ (by kernel_rfl) (by kernel_rfl) ?_
     repeat (go_big_quiet_step (fail))
     refine bH ?_;rintro W3 ⟨⟨_,q⟩,rfl⟩;have E:=kp (s.o.on q);clear q;go_wp2_with fail;go_ret;exact⟨rfl,E.o⟩
 have b0:∀r:Bool,(true&&r)=r:=fun _=>rfl;rw[b0];clear b0;go_enter func34,ntmps34;go_wp2_with fail;refine bJ (by kernel_rfl) (by kernel_rfl) ?_
 repeat (go_big_quiet_step ((go_at_call 22; first |with_reducible refine dG (Z.o _)|with_reducible refine dG (a0.o _))))
 refine bH ?_;rintro f ⟨⟨_,A⟩,rfl⟩;have j:=z.b.grow A;have W:f.cell? ⟨w.heap.size,3,none⟩=some (.i m.view):=j.cell 3;have k4:f.cell? ⟨w.heap.size,4,none⟩=some (.i m.normal):=j.cell 4;have k5:f.cell? ⟨w.heap.size,5,none⟩=some (.i m.number):=j.cell 5;have k6:f.cell? ⟨w.heap.size,6,none⟩=some (.i m.base):=j.cell 6;have k7:f.cell? ⟨w.heap.size,7,none⟩=some (.i m.commit):=j.cell 7;have k9:f.cell? ⟨w.heap.size,9,none⟩=some (.i m.offset):=j.cell 9;have s:=kp A;have g0:=kp (fun r:Blw f=>N.o ⟨r.w,s.o.on r.h⟩);clear A j1 e0 i0 i1 j cG;go_wp2_with fail
 go_loopw [5,50] (fun v i wr=>∃k:Nat,k≤6∧i=.i k∧v=.bool (((six m).take k).all fun n=>aF n 0 800000000)∧wr=f) (fun _ i _=>6-(intOf i).toNat)
 case atStart=>exact⟨0,by omega,rfl,rfl,rfl⟩
 case round=>
  obtain⟨k,hk,rfl,rfl,rfl⟩:=hrel;obtain⟨v,H⟩:=nm' (((six m).take k).all fun n=>aF n 0 800000000);rw[H]
  by_cases l:k<6
  .have g3:(k:Int)<6:=by omega
   have U:=aCU m.view m.number m.base m.commit m.normal m.offset wr k _ (eK l);have M:(six m).take (k+1)=(six m).take k++[(six m)[k]'l]:=cV l;change ([m.view,m.number,m.base,m.commit,m.normal,m.offset]:List Int).take (k+1)=_++[([m.view,m.number,m.base,m.commit,m.normal,m.offset]:List Int)[k]'l]at M;generalize ([m.view,m.number,m.base,m.commit,m.normal,m.offset]:List Int)[k]'l=x at U M;have F:=kp (show (((six m).take (k+1)).all fun n=>aF n 0 800000000)=(v&&aF x 0 800000000) by
    rw[show (six m).take (k+1)=_ from M,List.all_append,H];simp)
   clear M H;obtain⟨y,V⟩:=nm' (aF x 0 800000000);have l0:=kp (fun w=>by have:=oK.1 x 0 800000000 w; rw[V]at this; exact this);rw[V]at F;clear V
   cases v
   .go_wp2_with fail;go_roundw
    case rel=>exact⟨k+1,by omega,by go_num,by first |(rw[F.o]; rfl)|(rw[F.o]; simp),by first |rfl|trivial⟩
    case measure=>simp[intOf]; omega
   .go_wp2_with fail;refine ms' (l0.o _) ?_;go_wp2_with fail;go_roundw
    case rel=>exact⟨k+1,by omega,by go_num,by first |(rw[F.o]; rfl)|(rw[F.o]; simp),by first |rfl|trivial⟩
    case measure=>simp[intOf]; omega
  .obtain rfl:k=6:=by omega
   have d0:((six m).all fun n=>aF n 0 800000000)=v:=H;have Y:=kp d0;clear d0 H l;have j3:=aP W;have o0:∀r:Blw wr,r.w.cell? ⟨w.heap.size,8,none⟩=some (.slice X m.es.length c8):=fun r=>by have:=((z.b.grow s.o).grow r.h).cell 8; exact this.trans (by rw[←j0.o]; rfl)
   have i2:=aP (show wr.cell? ⟨g,2,none⟩=some (.i p.r.k.view) from (z.a.grow s.o).cell 2);clear W k4 k5 k6 k7 k9 j8
   cases v
   .clear hu;go_wp2_with fail;refine bJ (by kernel_rfl) (by kernel_rfl) ?_
    repeat (go_big_quiet_step (fail))
    refine bH ?_;rintro W3 ⟨⟨_,q⟩,rfl⟩;have E:=kp (z.C.on (s.o.on q));clear q;go_wp2_with fail;go_ret;exact⟨mK (bG Value.bool (by rw[Y.o]; rfl)),E.o⟩
   cases u
   all_goals
    go_wp2_with fail;refine bJ (by kernel_rfl) (by kernel_rfl) ?_
    repeat (go_big_quiet_step ((go_at_call 67; with_reducible refine bU (g0.o _))))
    refine bH ?_;rintro W3 ⟨⟨_,q⟩,rfl⟩;have E:=kp (z.C.on (s.o.on q));clear q;go_wp2_with fail;go_ret;exact⟨mK (bG Value.bool (by rw[Y.o]; cases t<;>rfl)),E.o⟩
end
section
attribute [-go_sem] loadCellsFrom storeCells run_eql_struct run_neq_struct Instr.build
attribute [local go_sem] bC qI sL Ei
theorem aA3(p:RpV)(w:World):(Instr.build 79 #[(0,.agg p.cells.toArray)]).run prog w=.ok (.agg (WkV.cells ⟨p,[],.slice none 0 0,[],.slice none 0 0⟩ []).toArray) w:=run_build w _ _ _ (by kernel_rfl)
attribute [local go_sem] aA3
theorem aA4{p:RpV}(h:dI p.x=true)(b:KdR p.k.x):stB p.s.x=true:=by
 simp only[dI,bI,bP]at h;exact (Dn (k:=p.k.x) (fun e a=>(b e a).2.2.2.2.2.2.2.2.2.1) h.2.2.2.2.2.2.2.2).1
theorem aA5(a b c:Value)(w:World):
  CallsD prog 62 #[a,b,c] .returning w fun e g h=>e=.returned (.tuple #[])∧g=.returning∧h=w:=by
 refine callsD_of_wpS func62 rfl fun d i f=>?_;apply wpS_seq;apply wpS_region;simp[wpOpsS,go_sem,recoverD,f,ntmps62,Exit.thenS];apply wpS_seq;apply wpS_region;simp[wpOpsS,go_sem,Exit.thenS];refine wpS_cond (t:=false) (by simp[Act.eval,Array.replicate]) ?_;simp only[qO,if_false];refine wpS_of_wp (wp_skip ?_)
 cases d
 simp_all [bodyPostS,results,results62]
end
section
attribute [-go_sem] loadCellsFrom storeCells run_eql_struct run_neq_struct Instr.build
attribute [local go_sem] bC qI sL Ei aA3
def fsp(r:Rp)(R:Rp×List Rc×List Mg):Rp×List Rc×List Mg:=if dI r=true then R else (oQ,[],[])
structure aEt(fn:Nat)(c:Value)(R:Rp×List Rc×List Mg)(p:RpV)(w:World):Prop where
 e:∀args w,(callFunc fn args).run prog w=.ok (.enter fn args) w
 f:∀(q:RpV)(qs:List ObV)(W:World)(base g:Nat),q.x=p.x→dI q.x=true→Bw' w W→base≤W.heap.size→w.heap.size≤base→WkO W base g 79 [] ⟨q,[],.slice none 0 0,[],.slice none 0 0⟩ qs→
  Calls prog fn #[.pointer (some ⟨g,0,none⟩),c] W fun e w'=>e=.returned (.tuple #[])∧∃pE psE,aEG W w' base g ⟨q,[],.slice none 0 0,[],.slice none 0 0⟩ pE psE∧R=(pE.r.x,pE.rs.map (·.x),pE.ms.map (·.x))
theorem aEu(fn:Nat)(c:Value)(R:Rp×List Rc×List Mg)(p:RpV)(ps:List ObV)(B:Nat)(w:World)(h:eO w B p ps)(hB:B≤w.heap.size)(S:RpS p ps)(hf:aEt fn c R p w):
  Calls prog 31 #[.agg p.cells.toArray,.func (.func fn) #[] #[c]] w fun e w'=>sM w w' (fsp p.x R) e:=by
 obtain⟨W1,y1,x1,b1,z1⟩:=par w 39 p.cells;obtain⟨O,p1,x2,b2,z2⟩:=par W1 39 dN;obtain⟨Q,a2,x3,T,z3⟩:=par O 55 [.slice none 0 0,.slice none 0 0];unfold dN at p1;have a0:=b1.on (b2.on T);have h3:=h.below a0 hB;have b0:=aB hB a0.size;have HR:=kp (vX p ps B Q h3 b0 S);have HO:=kp (fun(W:World)(b:Bw' Q W)=>Na p ps B W (h3.below b b0) (aB b0 b.size) S);have l0:=(x1.grow (b2.on T)).load (P:=prog) (k:=26) rfl;have hz:W1.heap.size<O.heap.size:=z2;have a1:O.heap.size<Q.heap.size:=z3;have g:=k'7 (x1.grow (b2.on T)) (x2.grow T) x3 a0 z1 hz a1;have HS:=kp S;have j0:=kp hf;clear x1 x2 x3 b1 b2 T a0 z1 z2 z3 hz a1 h3 b0 h hB S hf
 go_enter_defers func31,ntmps31
 go_wp2_with fail;refine mb' (HR.o) fun w4 n=>?_;have N:=kp n
 cases hrb:dI p.x
 .obtain⟨W5,e2,s5,x5,c5⟩:=(g.b.grow n).put jX.cells rfl (gR (oW w4 w4.heap.size).rpAt);have y5:=(g.c.grow n).chg c5 (by have:=g.o; omega);obtain⟨I,q1,s6,Y,c6⟩:=y5.put [.slice none 0 0,.slice none 0 0] rfl (fun u hu=>by
   rcases bA.1 hu with rfl|hu
   .rfl
   .rw[bQ.1 hu]; rfl)
  have l5:=(x5.chg c6 (by have:=g.o; omega)).load (P:=prog) (k:=26) rfl;have l6:=Y.load (P:=prog) (k:=2) rfl;have HF:=kp ((g.d.on n).trans ((c5.below (B:=w.heap.size) (fun i K=>by have:=g.o; omega) (aB g.d.size n.size)).trans (c6.below (B:=w.heap.size) (fun i K=>by have:=g.o; omega) (aB (aB g.d.size n.size) c5.size))));have y:=kp (show fsp p.x R=(oQ,[],[]) by unfold fsp; rw[aC (by rw[hrb]; decide)]);clear y5 x5 Y c5 c6 n hrb l0;go_wp2_with fail;have J:sM w I (fsp p.x R) (.returned (.tuple #[.agg jX.cells.toArray,.agg #[.slice none 0 0,.slice none 0 0]])):=⟨⟨⟨jX,[],.slice none 0 0,[],.slice none 0 0⟩,[],rfl,by rw[y.o]; rfl,by rw[y.o]; rfl,by rw[y.o]; rfl,oW _ _,Ow.nil _ _ _ _ _,fun _ h=>(nomatch h),Ow.nil _ _ _ _ _,fun _ h=>(nomatch h)⟩,HF.o⟩
  simp[bodyPostD,Leaves,results,results31,go_sem,l5,l6,J]
 have l1:=(g.a.grow n).load (P:=prog) (k:=26) rfl;clear l0;have y0:=aA4 hrb HS.o.k.1;go_wp2_with fail;refine (HO.o w4 N.o y0).mono ?_;rintro e L ⟨q,qs,rfl,g0,p0,d0⟩;obtain⟨I,q1,Y,b6,z6⟩:=par L 79 (WkV.cells ⟨q,[],.slice none 0 0,[],.slice none 0 0⟩ []);have e0:=N.o.on (d0.on b6);have o0:RpO I w.heap.size q qs:=(p0.below b6).mono (aB g.d.size N.o.size);have z0:WkO I w.heap.size L.heap.size 79 [] ⟨q,[],.slice none 0 0,[],.slice none 0 0⟩ qs:=⟨Y,aB g.d.size (aB N.o.size d0.size),o0,Ow.nil _ _ _ _ _,fun _ h=>(nomatch h),Ow.nil _ _ _ _ _,fun _ h=>(nomatch h)⟩
 have q0:dI q.x=true:=by rw[g0]; exact hrb
 have o1:=kp (j0.o.f q qs I w.heap.size L.heap.size g0 q0 (g.d.on e0) (aB g.d.size e0.size) (aD _) z0);have m1:=kp hrb;have Z:=k'3 e0 g0 (show Q.heap.size≤L.heap.size from aB N.o.size d0.size);clear z0 o0 p0 Y b6 d0 e0 n g0 q0 y0 hrb l1;have eg:=j0.o.e;go_wp2_with fail
 go_at_fn fn
 refine o1.o.mono ?_;rintro e D ⟨rfl,j,d1,hG,hT⟩;clear eg;have U:=hG.o;have cE:Chg (fun i=>i=L.heap.size) I D:=hG.c.mono fun i _ K=>K.elim id fun h=>h.elim (fun h=>(nomatch h)) fun h=>(nomatch h)
 have b7:=Z.a.trans (cE.below (B:=Q.heap.size) (fun i K=>by have:=Z.o; omega) Z.a.size);have bd:=b7.on (bR (aL D.heap.size D));have z:=k'5 (g.b.grow bd) (g.c.grow bd) (g.d.on bd) (U.blk.grow (bR (aL D.heap.size D))) (U.below (bR (aL D.heap.size D)));have y:=k'2 (show fsp p.x R=(j.r.x,j.rs.map (·.x),j.ms.map (·.x)) by unfold fsp; rw[aE m1.o]; exact hT) (show O.heap.size<L.heap.size from eA g.G Z.C);have m0:=k'2 (show ∀u∈j.r.cells,u.oneCell'=true from gR U.rep.rpAt) (Nw U);clear U cE hG hT b7 bd;go_wp2_with fail;refine fR 9 (qH D.drew W1.heap.size j.r.cells) (fun _=>fK) (by kernel_rfl) (by kernel_rfl) ⟨Chg.refl _ _,dN,z.a,rfl,fun _ h=>(nomatch h)⟩ ?_
 iterate 8 (refine bO ?_; apply Exists.intro)
 refine bS eM ?_;refine dR ⟨?_,?_⟩
 rotate_left
 .iterate 8
   apply Ug (by kernel_rfl) (by intro t w h; cases h; exact trivial) rfl
   .intro X W' l hX hw hV m;have b:=z.d.chg l.c (by have:=y.o; have:=g.o; omega);have l1:=b.loadOff (P:=prog) 0 26 j.r.cells rfl rfl;have l2:=b.loadOff (P:=prog) 26 2 [j.rv,j.mv] rfl rfl;go_wp2_with fail;exact⟨rfl,_,rfl,l.other (by decide),aV,rfl⟩
   simp only[Act.put,aN,aH,aI,aT,aW]
  refine⟨fun X W' l hX hw hV m=>?_,fun u8=>?_⟩
  .obtain⟨ds,V,hl,-⟩:=l.b;have s:=V.store (P:=prog) (cs':=j.r.cells) hl.symm m0.a;have hp:=l.put (u:=undef);clear V hl;go_wp2_with fail;exact⟨rfl,undef,rfl,hp,aV,trivial⟩
  simp only[Act.put,aT,aW];intro W9 l m;obtain⟨ds,V,-,hd⟩:=l.b;obtain rfl:=hd u8 rfl;have M:=z.a;have F:=z.b.chg l.c (by have:=g.o; omega);obtain⟨H,d2,s4,x4,c4⟩:=F.put [j.rv,j.mv] rfl m0.B;have l4:=(V.chg c4 (by have:=g.o; omega)).load (P:=prog) (k:=26) rfl;have l5:=x4.load (P:=prog) (k:=2) rfl;have A:=l.c;have HF:=kp (z.c.trans ((A.below (B:=w.heap.size) (fun i K=>by have:=g.o; omega) z.c.size).trans (c4.below (B:=w.heap.size) (fun i K=>by have:=g.o; omega) (aB z.c.size A.size))));have m:=z.E;have HQ:=kp (show RpO H w.heap.size j.r d1 from (m.rep.chg M A (by decide)).chg F c4 (by decide));have g1:=kp (show Ow H w.heap.size 101 17 j.rv RcV.cells j.rs∧(∀x∈j.rs,Ow H w.heap.size 93 11 x.ev En.cells x.es)∧Ow H w.heap.size 48 23 j.mv MgV.cells j.ms∧∀x∈j.ms,Ow H w.heap.size 93 11 x.ev En.cells x.es from
   ⟨(m.rs.chg_blk M A (by decide)).chg_blk F c4 (by decide),fun x hx=>((m.rse x hx).chg_blk M A (by decide)).chg_blk F c4 (by decide),(m.ms.chg_blk M A (by decide)).chg_blk F c4 (by decide),fun x hx=>((m.mse x hx).chg_blk M A (by decide)).chg_blk F c4 (by decide)⟩)
  have J:sM w H (fsp p.x R) (.returned (.tuple #[.agg j.r.cells.toArray,.agg #[j.rv,j.mv]])):=⟨⟨j,d1,rfl,by rw[y.a],by rw[y.a],by rw[y.a],HQ.o,g1.o⟩,HF.o⟩
  have j1:=kp J;clear m l V hd A M F x4 c4 J;go_wp2_with fail;refine leaves_cons (f:=62) (args:=#[.pointer (some ⟨w.heap.size,0,none⟩),.pointer (some ⟨W1.heap.size,0,none⟩),.pointer (some ⟨O.heap.size,0,none⟩)]) (by simp) (by simp[go_sem]) ?_;refine (aA5 _ _ _ _).mono ?_;rintro e u' g2 ⟨rfl,rfl,rfl⟩;have J:=j1.o;simp[Leaves,settle,results,results31,go_sem,l4,l5,J]
 .exact⟨pv',pv',pv',pv',pv',pv',pv',pv',fun _ _ _ _ _ h _=>h,trivial⟩
end
section
attribute [-go_sem] loadCellsFrom storeCells run_eql_struct run_neq_struct Instr.build
attribute [local go_sem] bC Ei qI sL
theorem aEv{r:Rp}{m:Mg}(h:Af r m=true):m.es.length≤2000∧inR m.commit:=by
 unfold Af aF at h;simp only[bI,bP]at h;refine⟨h.1.1.2.2.2,?_⟩;have:=h.1.2.2.2.2.1;constructor<;>omega
theorem aEw{g K base B:Nat}(p:WkV)(ps:List ObV)(m:MgV)(w:World)(q:aEF)(h:WkO w base g 79 [] p ps)(W:Blk w K 48 m.cells)(hm:Sl w B m.ev En.cells m.es)(a0:B≤base)(hb:base≤w.heap.size)(S:WpS p.x)(hc:p.r.k.base≤p.r.commit)(hr:stR p.r.s.x)(hE:∀e∈m.es,enR e)(R:MgR m.x)(hl:m.es.length≤1000000)(d0:p.rs.length≤900)(b0:p.ms.length≤900)(hq:p.x.heard m.x=some q):
  Calls prog 32 #[.pointer (some ⟨g,0,none⟩),.pointer (some ⟨K,0,none⟩)] w fun e w'=>e=.returned (.tuple #[])∧aBI w w' base g p q:=by
 have j2:=aP (show w.cell? ⟨K,2,none⟩=some (.i m.dst) from W.cell 2);have i0:=aP (show w.cell? ⟨g,0,none⟩=some (.i p.r.id) from h.blk.cell 0);have i:=k'd h W hm a0 hb S hc hr hE R hl d0 b0;have M:=kp hq;clear h W hm a0 hb S hc hr hE R hl d0 b0 hq
 by_cases D:m.dst=p.r.id
 case' neg=>
  have cG:(m.dst != p.r.id)=true:=by simp[D]
  have y:=kp (show p.x=q by have:=M.o; unfold aEF.heard at this; rw[aE (show m.x.dst≠p.x.r.id from D)]at this; exact Option.some.inj this);clear D;go_enter func32,ntmps32;go_wp2_with fail;refine bJ (by kernel_rfl) (by kernel_rfl) ?_
  repeat (go_big_quiet_step (fail))
  refine bH ?_;rintro J ⟨⟨_,l⟩,rfl⟩;have j:=kp ((aEG.refl i.a).post l);clear l j2 i0;go_wp2_with fail;go_end0;exact⟨rfl,.of j.o y.o⟩
 have cG:(m.dst != p.r.id)=false:=by simp[D]
 have Y:=kp (show (if m.x.kind=1 then p.x.req m.x else if 3≤m.x.kind∧m.x.kind≤10∧Af p.x.r m.x=true then if m.x.kind=3 then p.x.prep m.x else if m.x.kind=4 then p.x.okay m.x else none else some p.x)=some q by
  have:=M.o;unfold aEF.heard at this;rw[aC (fun A=>A D)]at this;exact this)
 clear D M;go_enter func32,ntmps32;go_wp2_with fail;refine bJ (by kernel_rfl) (by kernel_rfl) ?_
 repeat (go_big_quiet_step (fail))
 refine bH ?_;rintro J ⟨⟨_,l⟩,rfl⟩;have Z:=i.a.below l;have L:=i.b.grow l;have m2:=Sl.below i.c l (aB i.d i.e);have k0:J.cell? ⟨K,0,none⟩=some (.i m.kind):=L.cell 0;have l2:=L.load (P:=prog) (k:=23) rfl;have f:=k'5 Z L m2 l (aB i.e l.size);clear Z L m2 l j2 i0 cG;have S:=i.F
 by_cases C:m.kind=1
 .have HR:=kp (aDp p ps m J q f.a f.E S.1 S.2.2.2.2.1 (by have:=Y.o; rw[aE (show m.x.kind=1 from C)]at this; exact this) (by have:=S.2.2.2.2.2.2.1; omega) S.2.2.2.2.2.2.2);have e2:(m.kind==1)=true:=by simp[C]
  clear C S;go_wp2_with fail;refine (HR.o).mono ?_;rintro e w3 ⟨rfl,p1,G,H⟩;have j:=k'2 (G.pre f.d) H;clear G H;go_wp2_with fail;go_end0;exact⟨rfl,.of j.a j.B⟩
 have e2:(m.kind==1)=false:=by simp[C]
 have I:=kp (show (if 3≤m.x.kind∧m.x.kind≤10∧Af p.x.r m.x=true then if m.x.kind=3 then p.x.prep m.x else if m.x.kind=4 then p.x.okay m.x else none else some p.x)=some q by
  have:=Y.o;rw[aC (show ¬m.x.kind=1 from C)]at this;exact this)
 clear C
 by_cases Q:3≤m.kind
 case' neg=>
  have y:=kp (show p.x=q by have:=I.o; rw[aC (fun A=>Q A.1)]at this; exact Option.some.inj this);clear S;go_wp2_with fail;go_end0;exact⟨rfl,.of ((aEG.refl f.a).pre f.d) y.o⟩
 by_cases O:m.kind≤10
 case' neg=>
  have y:=kp (show p.x=q by have:=I.o; rw[aC (fun A=>O A.2.1)]at this; exact Option.some.inj this);clear S;go_wp2_with fail;go_end0;exact⟨rfl,.of ((aEG.refl f.a).pre f.d) y.o⟩
 obtain⟨z,X⟩:=nm' (Af p.r.x m.x);have e0:=kp (by have:=aEs p ps m J f.a f.c (aB i.d f.E) S.2.2.2.2.2.1; rw[X]at this; exact this);have N:=kp X;clear X S;go_wp2_with fail;refine mb' (e0.o) fun w3 n=>?_
 cases z
 .have y:=kp (show p.x=q by have:=I.o; rw[aC (fun A=>by have:=A.2.2; rw[show Af p.x.r m.x=false from N.o]at this; cases this)]at this; exact Option.some.inj this);have j:=kp (((aEG.refl f.a).post n).pre f.d);clear n;go_wp2_with fail;go_end0;exact⟨rfl,.of j.o y.o⟩
 have g0:=kp (show (m.kind=3∧p.x.prep m.x=some q)∨(m.kind=4∧p.x.okay m.x=some q) by
  have:=I.o;rw[aE ⟨Q,O,N.o⟩]at this
  by_cases T:m.x.kind=3
  .rw[aE T]at this; exact .inl ⟨T,this⟩
  .rw[aC T]at this
   by_cases U:m.x.kind=4
   .rw[aE U]at this; exact .inr ⟨U,this⟩
   .rw[aC U]at this; cases this)
 have S:=i.F;have V:=aEv N.o;have HM:=kp (aEp p ps m w3 q (f.a.below n) (Sl.below f.c n (aB i.d f.E)) i.d (aB f.E n.size) ⟨S.1,S.2.1,S.2.2.1,S.2.2.2.1,V.2,V.1,by have:=S.2.2.2.2.2.2.1; omega,by have:=S.2.2.2.2.2.2.2; omega⟩ g0.o);have l3:=(f.b.grow n).load (P:=prog) (k:=23) rfl;have HB:=kp (f.d.on n);clear n S V Q O;go_wp2_with fail;refine (HM.o).mono ?_;rintro e w4 ⟨rfl,p1,j0,G,H⟩;have j:=k'2 (G.pre HB.o) H;clear G H;go_wp2_with fail;go_end0;exact⟨rfl,.of j.a j.B⟩
theorem aEx{r:Rp}(h:dI r=true)(c:KdR r.k)(f:r.k.image.size≤1000000):WpS ⟨r,[],[]⟩∧r.k.base≤r.commit:=by
 have t:=vZ h;simp only[dI,bI,bP]at h;obtain⟨i,g⟩:=pZ.1 t.kept;have b:=h.2.2.2.2.2.2.2.2;refine⟨⟨t.nodes,t.kept,c,f,by have:=h.2.2.2.2.1; show r.k.last≤_; omega,(Dn (k:=r.k) (fun e d=>(c e d).2.2.2.2.2.2.2.2.2.1) b).1,cY _,cY _⟩,?_⟩
 by_cases a:aF r.commit r.k.base r.k.last=true
 .unfold aF at a;simp only[bI,bP]at a;exact a.1
 .rw[vO (by simpa using a)]at b
  cases b
theorem aCV(p:RpV)(ps:List ObV)(m:MgV)(B:Nat)(w:World)(R:Rp×List Rc×List Mg)(h:eO w B p ps)(hm:Sl w B m.ev En.cells m.es)(y:B≤w.heap.size)(S:RpS p ps)(X:∀e∈m.es,enR e)(Y:MgR m.x)(hl:m.es.length≤1000000)(hq:dI p.x=true→Xw p.x m.x=some R):
  Calls prog 9 #[.agg p.cells.toArray,.agg m.cells.toArray] w fun e w'=>sM w w' (fsp p.x R) e:=by
 obtain⟨Q,a1,x1,V,z1⟩:=par w 39 p.cells;obtain⟨T,d1,x2,E,z2⟩:=par Q 48 m.cells;obtain⟨J,o0,x3,F,z3⟩:=par T 39 dN;obtain⟨U,g1,x4,aS,z4⟩:=par J 55 [.slice none 0 0,.slice none 0 0];unfold dN at o0;have j:=V.on (E.on (F.on aS));have xm:=x2.grow (F.on aS);have b0:=Sl.below hm j y;have HO:=kp (aEu 32 (.pointer (some ⟨Q.heap.size,0,none⟩)) R p ps B U (h.below j y) (aB y j.size) S ⟨enters_of func32 (by kernel_rfl) rfl,fun q O W base g C e0 a0 p0 q0 y0=>by
  have Z:=aEx e0 (by rw[C]; exact S.k.1) (by rw[C]; exact S.k.2.2);have z:=hq (C▸e0);rw[←C]at z;unfold Xw at z
  cases hy:aEF.heard ⟨q.x,[],[]⟩ m.x with
  |none=>rw[hy]at z; cases z
  |some I=>
   rw[hy]at z;have m0:(I.r,I.rs,I.ms)=R:=Option.some.inj z;refine (aEw (B:=B) ⟨q,[],.slice none 0 0,[],.slice none 0 0⟩ O m W I y0 (xm.grow a0) (Sl.below b0 a0 (aB y j.size)) (aB (aB y j.size) q0) p0 Z.1 Z.2 (by have:=S.s.2.2.1; rw[show p.s.x=q.s.x from (bG (·.st) C).symm]at this; exact this) X Y hl (cY _) (cY _) hy).mono ?_;rintro e w' ⟨rfl,d,z0,hG,D⟩;exact⟨rfl,d,z0,hG,by rw[←m0,←D]; rfl⟩⟩)
 have l0:=(x1.grow (E.on (F.on aS))).load (P:=prog) (k:=26) rfl;have hz:T.heap.size<J.heap.size:=z3;have j0:J.heap.size<U.heap.size:=z4;have f:=k'6 (x3.grow aS) x4 j (eA z1 E.size) hz j0;clear x1 x2 x3 x4 V E F aS j z1 z2 z3 z4 hz j0 h y S hm X Y hl hq xm b0;go_enter func9,ntmps9;go_wp2_with fail;refine (HO.o).mono ?_;rintro e w4 hT;obtain⟨⟨d,O,rfl,t1,t2,t3,L,M,g0,K,d0⟩,G⟩:=hT;have H:=f.c.on G;have l:=f.a.grow G;have A:=f.c.size;obtain⟨W5,j1,s5,x5,c5⟩:=l.put d.r.cells rfl (gR L.rpAt);have n:=(f.b.grow G).chg c5 (by have:=f.o; omega);obtain⟨W6,l1,s6,x6,c6⟩:=n.put [d.rv,d.mv] rfl (fun u N=>by
  rcases bA.1 N with rfl|N
  .exact M.one
  .rw[bQ.1 N]; exact K.one)
 have l5:=(x5.chg c6 (by have:=f.o; omega)).load (P:=prog) (k:=26) rfl;have l6:=x6.load (P:=prog) (k:=2) rfl;have HF:=kp (show sM w W6 (fsp p.x R) (.returned (.tuple #[.agg d.r.cells.toArray,.agg #[d.rv,d.mv]])) from
  ⟨⟨d,O,rfl,t1,t2,t3,((L.chg l c5 (by decide)).chg n c6 (by decide)).mono A,((M.chg_blk l c5 (by decide)).chg_blk n c6 (by decide)).mono A,fun x D=>(((g0 x D).chg_blk l c5 (by decide)).chg_blk n c6 (by decide)).mono A,((K.chg_blk l c5 (by decide)).chg_blk n c6 (by decide)).mono A,fun x D=>(((d0 x D).chg_blk l c5 (by decide)).chg_blk n c6 (by decide)).mono A⟩,
   H.trans ((c5.below (B:=w.heap.size) (fun i hi=>by have:=f.o; omega) H.size).trans (c6.below (B:=w.heap.size) (fun i hi=>by have:=f.o; omega) (aB H.size c5.size)))⟩)
 clear t1 t2 t3 L M g0 K d0 H l n A x5 x6 c5 c6 G l0;go_wp2_with fail;exact aU (v:=.tuple #[.agg d.r.cells.toArray,.agg #[d.rv,d.mv]]) (by simp[results,results9,go_sem,l5,l6]) rfl HF.o
end
section
def HvQ(Wa:World)(R:Rp×List Rc×List Mg)(z:Value)(W:World):Prop:=∃(p:WkV)(ps:List ObV),z=.tuple #[.agg p.r.cells.toArray,.agg #[p.rv,p.mv]]∧p.r.x=R.1∧p.rs.map (·.x)=R.2.1∧p.ms.map (·.x)=R.2.2∧RpO W Wa.heap.size p.r ps∧
 Ow W Wa.heap.size 101 17 p.rv RcV.cells p.rs∧Ow W Wa.heap.size 48 23 p.mv MgV.cells p.ms∧∀x∈p.ms,Ow W Wa.heap.size 93 11 x.ev En.cells x.es
theorem HvQ.grow{Wa W W':World}{R:Rp×List Rc×List Mg}{z:Value}(h:HvQ Wa R z W)(a:Bw' W W'):HvQ Wa R z W':=by
 obtain⟨p,ps,e,b,c,d,f,g,i,j⟩:=h;exact⟨p,ps,e,b,c,d,f.below a,g.below a,i.below a,fun x k=>(j x k).below a⟩
theorem HvQ.chg{Wa W W':World}{R:Rp×List Rc×List Mg}{z:Value}{a:Nat}{d:List Value}(h:HvQ Wa R z W)(b:Blk W a 39 d)(c:Chg (fun i=>i=a) W W'):HvQ Wa R z W':=by
 obtain⟨p,ps,e,f,g,j,k,l,m,n⟩:=h;exact⟨p,ps,e,f,g,j,k.chg b c (by decide),l.chg_blk b c (by decide),m.chg_blk b c (by decide),fun x o=>(n x o).chg_blk b c (by decide)⟩
theorem HvQ.stab(Wa:World)(R:Rp×List Rc×List Mg):qE 39 (HvQ Wa R):=
 ⟨fun _ _ _ h b=>h.grow b,fun _ W a _ cs' h c=>h.chg c ((Chg.refl (fun i=>i=a) W).setRow (.inr rfl) cs')⟩
theorem sM.hv{Wa w b:World}{R:Rp×List Rc×List Mg}{e:Ending}(h:sM w b R e)(a:Wa.heap.size≤w.heap.size):∃z,e=.returned z∧HvQ Wa R z b∧Bw' w b:=by
 obtain⟨⟨p,ps,m,c,d,f,g,i,-,j,k⟩,l⟩:=h;exact⟨_,m,⟨p,ps,rfl,c,d,f,g.mono a,i.mono a,j.mono a,fun x n=>(k x n).mono a⟩,l⟩
structure HvI(Wa:World)(a:Nat)(cs0:List Value)(R:Rp×List Rc×List Mg)(d:Nat)(X:Nat→Option Value)(W:World):Prop where
 c:Chg (fun i=>i=a) Wa W
 ar:∃ds,Blk W a 39 ds∧ds.length=26∧(X (7+d)=none→ds=cs0)∧∀s,X (7+d)=some s→X (4+d)=some (.agg ds.toArray)
 ld:∀z,X (2+d)=some z→(X 0).isSome=true
 call:∀z,X (2+d)=some z→HvQ Wa R z W
 mv:∀z,X (3+d)=some z→X (2+d)=some z
 e1:∀z,X (4+d)=some z→∃u y,X (2+d)=some u∧u=.tuple #[z,y]
 e2:∀z,X (5+d)=some z→∃u y,X (2+d)=some u∧u=.tuple #[y,z]
 al:∀z,X (6+d)=some z→∃b,z=.pointer (some ⟨b,0,none⟩)∧Wa.heap.size≤b∧Blk W b 55 [.slice none 0 0,.slice none 0 0]
section
variable {Wa W W':World}{a d:Nat}{cs0:List Value}{R:Rp×List Rc×List Mg}{X:Nat→Option Value}{u z:Value}
theorem HvI.start(h:Blk Wa a 39 cs0)(b:cs0.length=26):HvI Wa a cs0 R d (fun _=>none) Wa:=
 ⟨Chg.refl _ _,⟨cs0,h,b,fun _=>rfl,fun _ h=>(nomatch h)⟩,fun _ h=>(nomatch h),fun _ h=>(nomatch h),fun _ h=>(nomatch h),fun _ h=>(nomatch h),fun _ h=>(nomatch h),fun _ h=>(nomatch h)⟩
theorem HvI.old(h:HvI Wa a cs0 R d X W)(j:X 0=none):Blk W a 39 cs0:=by
 have f:X (2+d)=none:=by
  cases hc:X (2+d) with
  |none=>rfl
  |some z=>have:=h.ld z hc; rw[j]at this; cases this
 have g:X (4+d)=none:=by
  cases hc:X (4+d) with
  |none=>rfl
  |some z=>obtain⟨u,y,b,-⟩:=h.e1 z hc; rw[f]at b; cases b
 obtain⟨l,k,-,c,e⟩:=h.ar;have i:X (7+d)=none:=by
  cases hc:X (7+d) with
  |none=>rfl
  |some s=>have:=e s hc; rw[g]at this; cases this
 exact c i▸k
theorem HvI.grow(h:HvI Wa a cs0 R d X W)(b:Bw' W W'):HvI Wa a cs0 R d X W':=by
 obtain⟨g,i,j,m,n⟩:=h.ar;exact⟨h.c.then b,⟨g,i.grow b,j,m,n⟩,h.ld,fun z f=>(h.call z f).grow b,h.mv,h.e1,h.e2,fun z f=>(h.al z f).imp fun _ ⟨e,l,k⟩=>⟨e,l,k.grow b⟩⟩
theorem HvI.other{j:Nat}(h:HvI Wa a cs0 R d X W)(n:j<2+d):HvI Wa a cs0 R d (bD X j u) W:=by
 have b:=aR (X:=X) (v:=u) (show 2+d≠j by omega);have i:=aR (X:=X) (v:=u) (show 3+d≠j by omega);have f:=aR (X:=X) (v:=u) (show 4+d≠j by omega);have k:=aR (X:=X) (v:=u) (show 5+d≠j by omega);have l:=aR (X:=X) (v:=u) (show 6+d≠j by omega);have m:=aR (X:=X) (v:=u) (show 7+d≠j by omega);refine⟨h.c,by rw[m,f]; exact h.ar,?_,by rw[b]; exact h.call,by rw[i,b]; exact h.mv,by rw[f,b]; exact h.e1,by rw[k,b]; exact h.e2,by rw[l]; exact h.al⟩;rw[b];intro z g
 by_cases e:0=j
 .subst e; rw[qF]; rfl
 .rw[aR e]; exact h.ld z g
theorem HvI.doCall(h:HvI Wa a cs0 R d X W)(f:X (2+d)=none)(j:(X 0).isSome=true)(k:Bw' W W')(l:HvQ Wa R z W'):HvI Wa a cs0 R d (bD X (2+d) z) W':=by
 have g:=h.grow k;have m:=aR (X:=X) (v:=z) (show 0≠2+d by omega);have n:=aR (X:=X) (v:=z) (show 3+d≠2+d by omega);have i:=aR (X:=X) (v:=z) (show 4+d≠2+d by omega);have o:=aR (X:=X) (v:=z) (show 5+d≠2+d by omega);have p:=aR (X:=X) (v:=z) (show 6+d≠2+d by omega);have q:=aR (X:=X) (v:=z) (show 7+d≠2+d by omega);refine⟨g.c,by rw[q,i]; exact g.ar,fun _ _=>by rw[m]; exact j,fun y b=>?_,fun y b=>?_,fun y b=>?_,fun y b=>?_,by rw[p]; exact g.al⟩
 .rw[qF]at b; cases b; exact l
 .rw[n]at b; have:=h.mv y b; rw[f]at this; cases this
 .rw[i]at b; obtain⟨v,r,e,-⟩:=h.e1 y b; rw[f]at e; cases e
 .rw[o]at b; obtain⟨v,r,e,-⟩:=h.e2 y b; rw[f]at e; cases e
theorem HvI.doMv(h:HvI Wa a cs0 R d X W)(g:X (2+d)=some u):HvI Wa a cs0 R d (bD X (3+d) u) W:=by
 have i:=aR (X:=X) (v:=u) (show 0≠3+d by omega);have b:=aR (X:=X) (v:=u) (show 2+d≠3+d by omega);have f:=aR (X:=X) (v:=u) (show 4+d≠3+d by omega);have j:=aR (X:=X) (v:=u) (show 5+d≠3+d by omega);have k:=aR (X:=X) (v:=u) (show 6+d≠3+d by omega);have l:=aR (X:=X) (v:=u) (show 7+d≠3+d by omega);exact⟨h.c,by rw[l,f]; exact h.ar,by rw[b,i]; exact h.ld,by rw[b]; exact h.call,fun y e=>by rw[qF]at e; cases e; rw[b]; exact g,by rw[f,b]; exact h.e1,by rw[j,b]; exact h.e2,by rw[k]; exact h.al⟩
theorem HvI.doE1{y:Value}(h:HvI Wa a cs0 R d X W)(n:X (4+d)=none)(p:X (2+d)=some u)(o:u=.tuple #[z,y]):HvI Wa a cs0 R d (bD X (4+d) z) W:=by
 have q:=aR (X:=X) (v:=z) (show 0≠4+d by omega);have b:=aR (X:=X) (v:=z) (show 2+d≠4+d by omega);have r:=aR (X:=X) (v:=z) (show 3+d≠4+d by omega);have x:=aR (X:=X) (v:=z) (show 5+d≠4+d by omega);have A:=aR (X:=X) (v:=z) (show 6+d≠4+d by omega);have g:=aR (X:=X) (v:=z) (show 7+d≠4+d by omega);refine⟨h.c,?_,by rw[b,q]; exact h.ld,by rw[b]; exact h.call,by rw[r,b]; exact h.mv,fun v f=>by rw[qF]at f; cases f; rw[b]; exact⟨u,y,p,o⟩,by rw[x,b]; exact h.e2,by rw[A]; exact h.al⟩;obtain⟨i,j,k,l,m⟩:=h.ar;exact⟨i,j,k,by rw[g]; exact l,fun s e=>by rw[g]at e; have:=m s e; rw[n]at this; cases this⟩
theorem HvI.doE2{y:Value}(h:HvI Wa a cs0 R d X W)(i:X (2+d)=some u)(g:u=.tuple #[y,z]):HvI Wa a cs0 R d (bD X (5+d) z) W:=by
 have j:=aR (X:=X) (v:=z) (show 0≠5+d by omega);have b:=aR (X:=X) (v:=z) (show 2+d≠5+d by omega);have k:=aR (X:=X) (v:=z) (show 3+d≠5+d by omega);have f:=aR (X:=X) (v:=z) (show 4+d≠5+d by omega);have l:=aR (X:=X) (v:=z) (show 6+d≠5+d by omega);have m:=aR (X:=X) (v:=z) (show 7+d≠5+d by omega);exact⟨h.c,by rw[m,f]; exact h.ar,by rw[b,j]; exact h.ld,by rw[b]; exact h.call,by rw[k,b]; exact h.mv,by rw[f,b]; exact h.e1,fun v e=>by rw[qF]at e; cases e; rw[b]; exact⟨u,y,i,g⟩,by rw[l]; exact h.al⟩
theorem HvI.doAlloc(h:HvI Wa a cs0 R d X W):HvI Wa a cs0 R d (bD X (6+d) (.pointer (some ⟨W.heap.size,0,none⟩))) (W.alloc (.cells #[.slice none 0 0,.slice none 0 0] 55)):=by
 have g:=h.grow (ba' W (.cells #[.slice none 0 0,.slice none 0 0] 55));have i:=aR (X:=X) (v:=.pointer (some ⟨W.heap.size,0,none⟩)) (show 0≠6+d by omega);have b:=aR (X:=X) (v:=.pointer (some ⟨W.heap.size,0,none⟩)) (show 2+d≠6+d by omega);have j:=aR (X:=X) (v:=.pointer (some ⟨W.heap.size,0,none⟩)) (show 3+d≠6+d by omega);have f:=aR (X:=X) (v:=.pointer (some ⟨W.heap.size,0,none⟩)) (show 4+d≠6+d by omega);have k:=aR (X:=X) (v:=.pointer (some ⟨W.heap.size,0,none⟩)) (show 5+d≠6+d by omega);have l:=aR (X:=X) (v:=.pointer (some ⟨W.heap.size,0,none⟩)) (show 7+d≠6+d by omega);exact⟨g.c,by rw[l,f]; exact g.ar,by rw[b,i]; exact g.ld,by rw[b]; exact g.call,by rw[j,b]; exact g.mv,by rw[f,b]; exact g.e1,by rw[k,b]; exact g.e2,fun v e=>by rw[qF]at e; cases e; exact⟨_,rfl,h.c.size,Blk.new W _ _⟩⟩
theorem HvI.doStore{f:List Value}(h:HvI Wa a cs0 R d X W)(q:X (4+d)=some (.agg f.toArray))(x:f.length=26)(G:a<Wa.heap.size):
  (∃j,Blk W a 39 j∧j.length=26)∧HvI Wa a cs0 R d (bD X (7+d) u) (W.setRow a f.toArray):=by
 obtain⟨j,k,p,E,F⟩:=h.ar;have A:=aR (X:=X) (v:=u) (show 0≠7+d by omega);have g:=aR (X:=X) (v:=u) (show 2+d≠7+d by omega);have B:=aR (X:=X) (v:=u) (show 3+d≠7+d by omega);have o:=aR (X:=X) (v:=u) (show 4+d≠7+d by omega);have C:=aR (X:=X) (v:=u) (show 5+d≠7+d by omega);have D:=aR (X:=X) (v:=u) (show 6+d≠7+d by omega);have m:=(Chg.refl (fun i=>i=a) W).setRow (.inr rfl) f.toArray;refine⟨⟨j,k,p⟩,(h.c.trans m fun _ _ h=>h),⟨f,k.set f,x,fun n=>(by rw[qF]at n; cases n),fun s _=>by rw[o]; exact q⟩,by rw[g,A]; exact h.ld,by rw[g]; exact fun z l=>(h.call z l).chg k m,by rw[B,g]; exact h.mv,by rw[o,g]; exact h.e1,by rw[C,g]; exact h.e2,?_⟩;rw[D];intro z l;obtain⟨b,e,y,r⟩:=h.al z l;exact⟨b,e,y,r.other (by omega) _⟩
theorem HvI.fin{f g o N:Value}(h:HvI Wa a cs0 R d X W)(k:X (4+d)=some f)(F:X (5+d)=some g)(G:X (6+d)=some o)(H:X (7+d)=some N):
  ∃(p:WkV)(ps:List ObV)(b:Nat),f=.agg p.r.cells.toArray∧g=.agg #[p.rv,p.mv]∧o=.pointer (some ⟨b,0,none⟩)∧Wa.heap.size≤b∧Blk W b 55 [.slice none 0 0,.slice none 0 0]∧Blk W a 39 p.r.cells∧p.r.x=R.1∧p.rs.map (·.x)=R.2.1∧p.ms.map (·.x)=R.2.2∧RpO W Wa.heap.size p.r ps∧
   Ow W Wa.heap.size 101 17 p.rv RcV.cells p.rs∧Ow W Wa.heap.size 48 23 p.mv MgV.cells p.ms∧(∀x∈p.ms,Ow W Wa.heap.size 93 11 x.ev En.cells x.es)∧Chg (fun i=>i=a) Wa W:=by
 obtain⟨u,y,m,cG⟩:=h.e1 _ k;obtain⟨M,O,n,j⟩:=h.e2 _ F;obtain rfl:u=M:=by rw[m]at n; exact Option.some.inj n
 obtain⟨p,ps,e,s,z,A,B,C,D,E⟩:=h.call _ m;rw[e]at cG j;obtain⟨rfl,-⟩:f=.agg p.r.cells.toArray∧y=.agg #[p.rv,p.mv]:=by simpa [eq_comm] using cG
 obtain⟨-,rfl⟩:O=.agg p.r.cells.toArray∧g=.agg #[p.rv,p.mv]:=by simpa [eq_comm] using j
 obtain⟨b,rfl,K,J⟩:=h.al _ G;obtain⟨q,I,-,-,L⟩:=h.ar;have l:=L _ H;rw[k]at l;obtain rfl:p.r.cells=q:=by simpa using l
 exact⟨p,ps,b,rfl,rfl,rfl,K,J,I,s,z,A,B,C,D,E,h.c⟩
end
end
section
structure RxS(x:Rp):Prop where
 k:KdR x.k∧x.k.es.length≤1000000∧x.k.image.size≤1000000
 s:x.st.h.obs.length≤1000∧x.st.h.free.length≤1000∧(∀o∈x.st.h.obs,o.ws.length≤5001∧o.ls.length≤5001)∧x.st.rows.length≤1000∧stR x.st∧inR x.st.h.next
 l:x.starts.length≤1000∧x.votes.length≤1000∧x.acks.length≤1000
 v:∀v∈x.votes,v.es.length≤1000000∧VoR v
 r:inR x.id∧inR x.nodes∧inR x.commit∧inR x.timer
theorem RpS.x{p:RpV}{ps:List ObV}(h:RpS p ps)(b:p.s.p.x.obs=ps.map (·.x)):RxS p.x:=by
 refine⟨h.k,⟨?_,h.s.1.free,fun o a=>?_,h.s.2.1,h.s.2.2.1,h.s.2.2.2⟩,⟨h.l.1,?_,h.l.2.2⟩,fun v e=>?_,h.r⟩
 .show p.s.p.x.obs.length≤1000;rw[b,cW]; exact h.s.1.obs
 .have a:o∈p.s.p.x.obs:=a;rw[b]at a;obtain⟨q,c,rfl⟩:=cX.1 a;exact h.s.1.rows q c
 .show (p.votes.map (·.x)).length≤1000;rw[cW]; exact h.l.2.1
 .obtain⟨u,d,rfl⟩:=cX.1 e;exact h.v u d
theorem RxS.p{p:RpV}{ps:List ObV}(h:RxS p.x)(d:p.s.p.x.obs=ps.map (·.x)):RpS p ps:=by
 have a:p.s.p.x.obs.length≤1000:=h.s.1;have b:∀q∈ps,q.x.ws.length≤5001∧q.x.ls.length≤5001:=fun q e=>h.s.2.2.1 q.x (by show q.x∈p.s.p.x.obs; rw[d]; exact Ez e);have c:(p.votes.map (·.x)).length≤1000:=h.l.2.1;rw[d,cW]at a;rw[cW]at c;exact⟨h.k,⟨⟨a,h.s.2.1,b⟩,h.s.2.2.2.1,h.s.2.2.2.2.1,h.s.2.2.2.2.2⟩,⟨h.l.1,c,h.l.2.2⟩,fun v g=>h.v v.x (Ez g),h.r,fun u f=>by have:=b u f; omega⟩
theorem Em:RxS oQ:=
 ⟨⟨fun _ h=>(nomatch h),cY _,cY _⟩,⟨cY _,cY _,fun _ h=>(nomatch h),cY _,⟨fun _ h=>(nomatch h),fun _ h=>(nomatch h)⟩,by decide,by decide⟩,⟨cY _,cY _,cY _⟩,fun _ h=>(nomatch h),⟨by decide,by decide⟩,⟨by decide,by decide⟩,⟨by decide,by decide⟩,by decide,by decide⟩
theorem RxS.timed{x:Rp}(h:RxS x){t:Int}(a:inR t):RxS {x with timer:=t}:=⟨h.k,h.s,h.l,h.v,h.r.1,h.r.2.1,h.r.2.2.1,a⟩
theorem Od{id nodes:Int}{k:Kd}(d:KdR k∧k.es.length≤1000000∧k.image.size≤1000000)(a:inR id∧inR nodes∧inR k.base):RxS ((kC id nodes k).getD oQ):=by
 unfold kC
 cases hg:dM (jK k.image) with
 |none=>exact Em
 |some s=>
  simp only
  split
  .obtain⟨b,c⟩:=tW hg;have H:=eC.1 (kA.1 b).1;have g:=rZ (kA.1 b).2 (by omega);have f:=H.next;exact⟨d,⟨by have:=H.len; show s.h.obs.length≤1000; omega,by have:=H.len; show s.h.free.length≤1000; omega,fun o e=>by have:=H.lens e; omega,by show s.rows.length≤1000; omega,c,by show -9223372036854775808≤s.h.next; omega,by show s.h.next≤9223372036854775807; omega⟩,
    ⟨cY _,cY _,cY _⟩,fun _ h=>(nomatch h),a.1,a.2.1,a.2.2,by show (-9223372036854775808:Int)≤0; decide,by show (0:Int)≤9223372036854775807; decide⟩
  .exact Em
end
end Go.Proofs.YthalbagblhkeaaaGreat
