/- VrNew: a node begins just so, or is refused; one is right, normal, primary, or is not. No condition. -/
import Derived.Test.YtdoopoapbffpbaaGreatZ02
import Derived.Test.YtdoopoapbffpbaaGreatZ53
namespace Go.Proofs.YtdoopoapbffpbaaGreat
open Go.RowKit Go.Proofs.Tryz
set_option maxRecDepth 100000
set_option maxHeartbeats 12800000
set_option linter.unusedVariables false
set_option linter.unusedSimpArgs false
attribute [-go_sem] loadCellsFrom storeCells run_eql_struct run_neq_struct Instr.build
attribute [local go_sem] bC qI sL On
theorem vrNew_walk(x0:Int)(x1:Int)(kk2:KpV)(p3:RpV)(ps3:List ObV)(w:World)(f0:(Lit.int .i64 x0).wf=true)(f1:(Lit.int .i64 x1).wf=true)(e2:fL w w.heap.size kk2)(r2:KdR kk2.x∧inR kk2.base)(e3:eO w w.heap.size p3 ps3)(r3:RpR p3):
  Calls prog 3 #[.i x0,.i x1,.agg kk2.cells.toArray,.agg p3.cells.toArray] w fun e w'=>e=.returned (.bool true)∧Bw' w w':=by
 have i0:=zL f0;have i1:=zL f1;obtain⟨W1,hW1,x1,b1,z1⟩:=par w 24 kk2.cells;obtain⟨W2,hW2,x2,b2,z2⟩:=par W1 39 p3.cells;have bb:=b1.on b2;have l1:=(x1.grow b2).load (P:=prog) (k:=5) rfl;have HBig:=kp (Mu kk2 w.heap.size W2 (Sl.below e2 bb (aD _)));have H0:=k'6 e2 r2 e3 r3 i0 i1;have H2:=k'3 (x1.grow b2) x2 bb;clear x1 x2 b1 b2 z1 z2 bb e2 r2 e3 r3 f0 f1 i0 i1;go_enter func3,ntmps3;go_wp2_with fail;refine (HBig.o).mono ?_;rintro e w3 ⟨a,rfl,hs3,hb3⟩
 cases a
 rotate_left
 .have HB:=kp (H2.C.on hb3);clear hs3 hb3 l1;go_wp2_with fail;go_ret;exact⟨rfl,HB.o⟩
 have l3:=(H2.b.grow hb3).load (P:=prog) (k:=26) rfl;have B3:=H2.C.on hb3;have HBig2:=kp (Mv p3 ps3 w.heap.size w3 (H0.c.below B3 (aD _)) B3.size);have SK:=kp (hs3 rfl);have H3:=k'3 (H2.a.grow hb3) (H2.b.grow hb3) B3;clear hs3 hb3 l1 B3;go_wp2_with fail;refine (HBig2.o).mono ?_;rintro e w4 ⟨a,rfl,hs4,hb4⟩
 cases a
 rotate_left
 .have HB:=kp (H3.C.on hb4);clear hs4 hb4 l3;go_wp2_with fail;go_ret;exact⟨rfl,HB.o⟩
 have S:=RpS.of H0.c (hs4 rfl) H0.d;have B4:=H3.C.on hb4;have l4:=(H3.a.grow hb4).load (P:=prog) (k:=5) rfl;have hk:KdR kk2.x∧kk2.es.length≤1000000∧kk2.image.size≤1000000:=⟨H0.b.1,by have:=SK.o.es; omega,by have:=SK.o.image; omega⟩
 have HOw:=kp (uA.1 kk2 w.heap.size w4 (Sl.below H0.a B4 (aD _)) B4.size (by have:=SK.o.es; omega));have H4:=k'5 (H3.a.grow hb4) (H3.b.grow hb4) B4 S hk;clear hs4 hb4 l3 S B4 hk;go_wp2_with fail;refine (HOw.o).mono ?_;rintro e w5 ⟨kv,rfl,hko,hb5⟩;obtain⟨W6,hW6,s6,x6,b6,-⟩:=fB w5 24 z'8 (kk2.own kv).cells rfl (mW hko.one);have B6:=hb5.on b6;have l6:=(H4.a.grow B6).load (P:=prog) (k:=5) rfl;have hko6:fL W6 W6.heap.size (kk2.own kv):=(hko.below b6).sl eL;have hk6:fL W6 W6.heap.size kk2:=Sl.more (Sl.below H0.a (H4.c.on B6) (aD _)) (H4.c.on B6).size;obtain⟨o,ho⟩:=nm' (kC x0 x1 kk2.x);have HNw:=kp (Ng x0 x1 kk2 W6.heap.size W6 hk6 (aD _) H4.E ⟨H0.e,H0.F,H0.b.2⟩);have HX:=kp (show RxS (o.getD oQ) from ho▸Od H4.E ⟨H0.e,H0.F,H0.b.2⟩);have HRf:=kp (fun(W:World)(b:Bw' W6 W)=>aAt x0 x1 (kk2.own kv) W6.heap.size W (Sl.below hko6 b (aD _)) b.size H4.E ⟨H0.e,H0.F,H0.b.2⟩);rw[ho]at HNw;rw[show kC x0 x1 (kk2.own kv).x=o from ho]at HRf;have H6:=k'6 (H4.a.grow B6) (H4.b.grow B6) x6 (H4.c.on B6) hko6 hk6;obtain⟨c,hc⟩:∃c:Int,(if o.isSome then 0 else 1)=c:=⟨_,rfl⟩
 have HC:=kp hc;clear hko hb5 b6 B6 x6 hko6 hk6 l4 ho hc;go_wp2_with fail;refine (HNw.o).mono ?_;rintro e w7 ⟨p,ps,rfl,hpx,hro,hb7⟩;rw[HC.o];obtain⟨W8,hW8,s8,x8,cD,-⟩:=fB w7 39 dN p.cells rfl (gR hro.rpAt);unfold dN at hW8 s8;have B8:=hb7.on cD;have l8:=(H6.c.grow B8).load (P:=prog) (k:=5) rfl;have H8:=k'4 x8 B8 (hro.below cD) hpx;clear hb7 cD B8 x8 hro hpx l6 s6 hW6;go_wp2_with fail;refine (HRf.o W8 H8.b).mono ?_;rintro e w9 ⟨q,qs,rfl,hqx,hqo,hb9⟩;rw[HC.o];obtain⟨W10,hW10,s10,x10,b10,-⟩:=fB w9 39 dN q.cells rfl (gR hqo.rpAt);unfold dN at hW10 s10;have B10:=hb9.on b10;have la:=(H8.a.grow B10).load (P:=prog) (k:=26) rfl;have lb:=x10.load (P:=prog) (k:=26) rfl;have Sp:RpS p ps:=RxS.p (by rw[H8.D]; exact HX.o) H8.c.rpAt.2.1.1.2.1;have HSm:=kp (Ec p q ps qs W10.heap.size W10 (H8.c.below B10).rpAt (hqo.below b10).rpAt (aD _) Sp);rw[bY (H8.D.trans hqx.symm)]at HSm;have H10:=k'4 (H8.a.grow B10) (H8.b.on B10) (H8.c.below B10) Sp;clear hqx hqo hb9 b10 B10 x10 l8 s8 hW8 Sp;go_wp2_with fail;refine mb' (HSm.o) fun w11 hb11=>?_;have lc:=(H10.a.grow hb11).load (P:=prog) (k:=26) rfl;have HOv:=kp (Ef p ps (.slice none 0 0) (.slice none 0 0) [] W6.heap.size w11 (H10.c.below hb11) (Ow.nil _ _ _ _ _) (fun _ h=>(nomatch h)) ⟨H10.D.k.2.1,⟨by have:=H10.D.l.2.1; omega,fun v hv=>(H10.D.v v hv).1⟩,⟨by have:=H10.D.s.2.1; omega,by have:=H10.D.s.1.obs; omega⟩,⟨by have:=H10.D.l.1; omega,by have:=H10.D.l.2.2; omega⟩,cY _⟩);have H11:=kp (H10.b.on hb11);clear hb11 la lb s10 hW10;go_wp2_with fail;refine mb' (HOv.o) fun w12 hc12=>?_;have B12:Bw' W6 w12:=H11.o.trans (hc12.below (B:=W6.heap.size) (fun i hi=>hi.1) H11.o.size);have BW:=H6.d.on B12;have H12:=k'5 (H6.a.below B12 H6.a.lt) (H6.b.below B12 H6.b.lt) (H6.c.below B12 H6.c.lt) BW B12;have l12:=H12.b.load (P:=prog) (k:=26) rfl;have HCk:=kp (vX p3 ps3 w.heap.size w12 (H0.c.below BW (aD _)) BW.size H4.d);clear hc12 B12 BW lc;go_wp2_with fail;refine mb' (HCk.o) fun w13 hb13=>?_;have B13:=H12.d.on hb13;have l13:=(H12.b.grow hb13).load (P:=prog) (k:=26) rfl;have HRt:=kp (zB p3 ps3 w.heap.size w13 (H0.c.below B13 (aD _)) B13.size H4.d);have H13:=k'2 hb13 B13;obtain⟨z,hz⟩:=nm' (dI p3.x);rw[hz]at HRt ⊢;clear hz hb13 B13 l12
 cases z
 case' false=>rw[show eN 1 false=1 from rfl]
 case' true=>rw[show eN 1 true=0 from rfl]
 all_goals
  go_wp2_with fail;refine mb' (HRt.o) fun w14 hb14=>?_;have B14:=H13.B.on hb14;have BK:=H13.a.on hb14;have BQ:=H12.E.on BK;obtain⟨nb,hnb⟩:=nm' (dI p3.x&&gY p3.x);obtain⟨pb,hpb⟩:=nm' (dI p3.x&&gM p3.x);have HT:=kp (fun(u:Blw w14)=>Oh u.w);have HN1:=kp (fun(u:Blw w14)=>hnb▸sB.1 p3 ps3 w.heap.size u.w (H0.c.below (B14.on u.h) (aD _)) (B14.on u.h).size H4.d);have HN2:=kp (fun(u:Blw w14)=>hnb▸sB.2.2.1 p3 ps3 w.heap.size u.w (H0.c.below (B14.on u.h) (aD _)) (B14.on u.h).size H4.d);have HP1:=kp (fun(u:Blw w14)=>hpb▸sB.2.1 p3 ps3 w.heap.size u.w (H0.c.below (B14.on u.h) (aD _)) (B14.on u.h).size H4.d);have HP2:=kp (fun(u:Blw w14)=>hpb▸sB.2.2.2 p3 ps3 w.heap.size u.w (H0.c.below (B14.on u.h) (aD _)) (B14.on u.h).size H4.d);have HKs:=kp (fun(u:Blw w14)=>(show decide (kk2.x=(kk2.own kv).x)=true from bY rfl)▸Mt kk2 (kk2.own kv) W6.heap.size u.w (Sl.below (Sl.below H6.F BQ (aD _)) (u.h.mono BQ.size) (aD _)) (Sl.below (Sl.below H6.e BQ (aD _)) (u.h.mono BQ.size) (aD _)) (aB BQ.size u.h.size) H4.f);have ka:=mC (P:=prog) (H12.a.grow BK) (k:=5) rfl;have kb:=mC (P:=prog) (H12.b.grow BK) (k:=26) rfl;have kd:=mC (P:=prog) (H12.c.grow BK) (k:=5) rfl;have HB:=kp B14;clear hnb hpb B14 BK BQ hb14 l13;go_wp2_with fail;refine bJ (by kernel_rfl) (by kernel_rfl) ?_
  repeat (go_big_quiet_step ((first |(go_at_call 14; refine bU (HT.o _))|(go_at_call 15; refine bU (HN1.o _))|(go_at_call 16; refine bU (HN2.o _))|(go_at_call 17; refine bU (HP1.o _))|(go_at_call 18; refine bU (HP2.o _))|(go_at_call 19; refine bU (HKs.o _)))))
  refine bH ?_;rintro W15 ⟨⟨_,hb15⟩,rfl⟩;have HF:=kp (HB.o.on hb15);clear hb15 ka kb kd;go_wp2_with fail;go_ret;exact⟨rfl,HF.o⟩
end Go.Proofs.YtdoopoapbffpbaaGreat
namespace Go.Proofs.YtdoopoapbffpbaaGreat.vrNew
set_option maxRecDepth 100000
set_option maxHeartbeats 12800000
set_option linter.unusedVariables false
open Go.Proofs.Tryz Go.ChangeShapes Go.WideShapes Go.ChangeAt Go.RowKit
open Go.ChangeMaps (open_string shut_string)
theorem lifted(os:Os)(started:os.Started)(H:Type)(enc:TypeId×Value→H):
  ReturnsInHanded {} checked os 3 .any (Rows.vrNewSpec.pre6 enc prog f3 Rows.vrNewRow.domain false) (Rows.vrNewSpec.post enc prog f3 false true false false):=by
 refine returnsInHanded_of_change (C:=checked) own started (by kernel_rfl) func3
  (ChangeSpec.witness6 (enc:=enc) (C:=checked) false ⟨#[],#[.i 0,.i 0,.agg #[.i 0,.i 0,.i 0,.string ByteArray.empty,.slice none 0 0],.agg #[.i 0,.i 0,.i 0,.i 0,.i 0,.string ByteArray.empty,.slice none 0 0,.i 0,.i 0,.slice none 0 0,.i 0,.i 0,.i 0,.i 0,.i 0,.slice none 0 0,.slice none 0 0,.i 0,.slice none 0 0,.slice none 0 0,.slice none 0 0,.i 0,.i 0,.i 0,.i 0,.string ByteArray.empty]],[]⟩ 8 (by kernel_rfl) (by kernel_rfl) (by kernel_rfl) (by kernel_rfl)) ?_
 intro W base args ds gs before hval0 hW hcnd _;have hval:∀(j:Nat) t v,f3.params[j]? =some t→args[j]? =some v→Value.okWide prog W .any base t v:=hval0;have hW':=hW;obtain⟨p,q,hA0,hV,rfl,hfz,hnd⟩:=hW;have hA:DataW.TrodAll enc prog W 0 (fun _=>true) true f3.params.toList args.toList ds p:=hA0;rw[params3]at hA hval;obtain⟨v0,vs0,d0,ds0,p0,q0,hargs,rfl,rfl,h0,r'0⟩:=trodAll_cons hA;obtain⟨v1,vs1,d1,ds1,p1,q1,rfl,rfl,rfl,h1,r'1⟩:=trodAll_cons r'0;obtain⟨v2,vs2,d2,ds2,p2,q2,rfl,rfl,rfl,h2,r'2⟩:=trodAll_cons r'1;obtain⟨v3,vs3,d3,ds3,p3,q3,rfl,rfl,rfl,h3,r'3⟩:=trodAll_cons r'2;obtain⟨rfl,rfl,rfl⟩:=trodAll_nil r'3;obtain rfl:args=#[v0,v1,v2,v3]:=by cases args; simp_all
 obtain⟨rfl,rfl⟩:=trodVars_none hV;have k0:=h0;have lt0:∀x∈p0,x.block<W.heap.size:=by obtain⟨m,hm⟩:=k0; exact DataW.trod_lt m _ _ _ hm
 obtain⟨x0,rfl,rfl,rfl,f0⟩:=open_int dD (hval 0 3 v0 rfl rfl) h0;have k1:=h1;have lt1:∀x∈p1,x.block<W.heap.size:=by obtain⟨m,hm⟩:=k1; exact DataW.trod_lt m _ _ _ hm
 obtain⟨x1,rfl,rfl,rfl,f1⟩:=open_int dD (hval 1 3 v1 rfl rfl) h1;have k2:=h2;have lt2:∀x∈p2,x.block<W.heap.size:=by obtain⟨m,hm⟩:=k2; exact DataW.trod_lt m _ _ _ hm
 obtain⟨cs2,hv2,hs2⟩:=okWide_struct underlying24 (hval 2 24 v2 rfl rfl);obtain⟨kk2,rfl,e2,r2⟩:=aBE hv2 hs2 h2;have k3:=h3;have lt3:∀x∈p3,x.block<W.heap.size:=by obtain⟨m,hm⟩:=k3; exact DataW.trod_lt m _ _ _ hm
 obtain⟨cs3,hv3,hs3⟩:=okWide_struct underlying39 (hval 3 39 v3 rfl rfl);obtain⟨p3,ps3,rfl,e3,r3⟩:=Om hv3 hs3 h3;clear hA0 hval0;refine (vrNew_walk x0 x1 kk2 p3 ps3 W f0 f1 e2 r2 e3 r3).mono fun e W' ⟨he,bel⟩=>?_;subst he;exact⟨_,rfl,_,_,_,[],_,[],hW',trodAll_mk1 (shut_bool underlying4 _),(trodAll_cons_mk (Below.trod laidOut (by kernel_rfl) (bT (by kernel_rfl)) k0 bel lt0) (trodAll_cons_mk (Below.trod laidOut (by kernel_rfl) (bT (by kernel_rfl)) k1 bel lt1) (trodAll_cons_mk (Below.trod laidOut (by kernel_rfl) (bT (by kernel_rfl)) k2 bel lt2) (trodAll_cons_mk (Below.trod laidOut (by kernel_rfl) (bT (by kernel_rfl)) k3 bel lt3) trodAll_mk0)))),rfl,bel.frame _,fun h=>by cases h⟩
theorem c0:(Rows.vrNewRow.wf (OpenSpec.ofChange Rows.vrNewSpec))=true:=by kernel_rfl
theorem c1:(laidOutB Tryz.pinned.checked.prog)=true:=by kernel_rfl
theorem c2:(mapsRowed Tryz.pinned.checked.prog)=true:=by kernel_rfl
theorem c3:(f3.params.all (Tryz.pinned.checked.prog.readableRec ·))=true:=by kernel_rfl
theorem c4:(namedTie Tryz.pinned.checked.prog Rows.vrNewRow.named Rows.vrNewSpec.vars)=true:=by kernel_rfl
theorem c5:(Rows.vrNewRow.stops==[])=true:=by kernel_rfl
theorem c6:(Tryz.pinned.checked.prog.stops==[])=true:=by kernel_rfl
theorem c7:(Rows.vrNewRow.knobs==[])=true:=by kernel_rfl
theorem c8:(Tryz.pinned.checked.prog.stopKnobs==[])=true:=by kernel_rfl
theorem c9:(Rows.vrNewRow.inPlace==Tryz.pinned.checked.prog.inPlace 3)=true:=by kernel_rfl
theorem c10:(Rows.vrNewRow.unfollowed==Tryz.pinned.checked.prog.unfollowed 3)=true:=by kernel_rfl
theorem c11:(Rows.vrNewRow.recurses==Tryz.pinned.checked.prog.recurses 3)=true:=by kernel_rfl
theorem c12:(Rows.vrNewRow.named==Tryz.pinned.checked.prog.varsNamed 3)=true:=by kernel_rfl
theorem c13:(Rows.vrNewRow.maps==(f3.params.toList++Rows.vrNewSpec.plain.varTypes Tryz.pinned.checked.prog).any (Tryz.pinned.checked.prog.mapsRec ·))=true:=by kernel_rfl
theorem c14:(Rows.vrNewRow.ifaces==(f3.params.toList++Rows.vrNewSpec.plain.varTypes Tryz.pinned.checked.prog).any (Tryz.pinned.checked.prog.ifacesRec ·))=true:=by kernel_rfl
theorem c15:(Rows.vrNewRow.mapsOut==Tryz.pinned.checked.prog.mapsAmong f3.resultTypes.toList)=true:=by kernel_rfl
theorem c16:(Rows.vrNewRow.loops==(f3.params.toList++Rows.vrNewSpec.plain.varTypes Tryz.pinned.checked.prog).any (Tryz.pinned.checked.prog.loopsFrom ·))=true:=by kernel_rfl
theorem c17:(Rows.vrNewRow.wideKeys==(f3.params.toList++Rows.vrNewSpec.plain.varTypes Tryz.pinned.checked.prog++f3.resultTypes.toList).any (Tryz.pinned.checked.prog.wideKeysFrom ·))=true:=by kernel_rfl
theorem c18:(Rows.vrNewSpec.vars.all (Tryz.pinned.checked.prog.varReadable ·))=true:=by kernel_rfl
theorem c19:(f3.resultTypes.all (fun t=>Tryz.pinned.checked.prog.readableRec t&&decide (t<Tryz.pinned.checked.prog.types.size)))=true:=by kernel_rfl
theorem c20:(Rows.vrNewRow.ifacesOut==f3.resultTypes.toList.any (Tryz.pinned.checked.prog.ifacesRec ·))=true:=by kernel_rfl
theorem c21:(Rows.vrNewRow.loopsOut==f3.resultTypes.toList.any (Tryz.pinned.checked.prog.loopsFrom ·))=true:=by kernel_rfl
theorem c22:(Rows.vrNewRow.plainKeys==Tryz.pinned.checked.prog.plainKeys)=true:=by kernel_rfl
theorem c23:(Rows.vrNewRow.shortTexts.isNone)=true:=by kernel_rfl
theorem c24:(Tryz.pinned.checked.prog.stopsHeard)=true:=by kernel_rfl
theorem c25:(Tryz.pinned.checked.prog.mayEnter)=true:=by kernel_rfl
theorem c26:(Rows.vrNewRow.lifted==Tryz.pinned.checked.prog.liftsFinal)=true:=by kernel_rfl
theorem c27:(Tryz.pinned.checked.prog.make==some Rows.vrNewRow.make)=true:=by kernel_rfl
theorem c28(X:List (Option IntKind)):(Rows.vrNewRow.kinds==if Rows.vrNewRow.domain.isEmpty=true then [] else X)=true:=rfl
theorem c29:(Rows.vrNewRow.pinned==Rows.vrNewRow.pinnedBy)=true:=by kernel_rfl
theorem c30:(Rows.vrNewRow.veiled==(f3.params.toList++Rows.vrNewSpec.plain.varTypes Tryz.pinned.checked.prog++f3.resultTypes.toList).any (Tryz.pinned.checked.prog.veiledRec ·))=true:=by kernel_rfl
theorem c31:(Rows.vrNewRow.veiledFits Tryz.pinned.checked.prog f3.params.toList (f3.params.toList++Rows.vrNewSpec.plain.varTypes Tryz.pinned.checked.prog++f3.resultTypes.toList))=true:=by kernel_rfl
theorem closed:joinedFacts Tryz.pinned.checked.prog 3 f3 Rows.vrNewSpec Rows.vrNewRow=true:=by
 unfold joinedFacts;rw[c0,c1,c2,c3,c4,c5,c6,c7,c8,c9,c10,c11,c12,c13,c14,c15,c16,c17,c18,c19,c20,c21,c22,c23,c24,c25,c26,c27,c28,c29,c30,c31];rfl
theorem over:Rows.vrNewRow.holds Tryz.pinned (OpenSpec.ofChange Rows.vrNewSpec):=
 OpenClaim.holds_of_wide 3 f3 rfl rfl rfl rfl rfl rfl rfl ⟨rfl,rfl,rfl,rfl,rfl⟩ rfl rfl rfl rfl rfl (by kernel_rfl) func3 closed
  (bT (by kernel_rfl)) (by unfold Func.isWrapper; first |(rw[aE (by decide+kernel)]; kernel_rfl)|(rw[aC (by decide+kernel)]; exact⟨rfl,rfl⟩))
  (fun os started H enc _=>lifted os started H enc)
theorem proved:Rows.VrNewSaid:=over
#print axioms proved
end Go.Proofs.YtdoopoapbffpbaaGreat.vrNew