/- VrTicks: a clock goes on just so (any replica). No condition. -/
import Derived.Test.YtdoopoapbffpbaaGreatZ02
import Derived.Test.YtdoopoapbffpbaaGreatZ53
namespace Go.Proofs.YtdoopoapbffpbaaGreat
open Go.RowKit Go.Proofs.Tryz
set_option maxRecDepth 100000
set_option maxHeartbeats 12800000
set_option linter.unusedVariables false
set_option linter.unusedSimpArgs false
attribute [-go_sem] loadCellsFrom storeCells run_eql_struct run_neq_struct Instr.build
attribute [local go_sem] bC qI sL On
theorem vrTicks_walk(p0:RpV)(ps0:List ObV)(w:World)(e0:eO w w.heap.size p0 ps0)(r0:RpR p0):
  Calls prog 4 #[.agg p0.cells.toArray] w fun e w'=>e=.returned (.bool true)∧Bw' w w':=by
 obtain⟨W1,hW1,x1,b1,z1⟩:=par w 39 p0.cells;have l1:=x1.load (P:=prog) (k:=26) rfl;have HBig:=kp (Mv p0 ps0 w.heap.size W1 (e0.below b1 (aD _)) b1.size);have H0:=k'2 e0 r0;have H1:=k'2 x1 b1;clear x1 b1 z1 e0 r0;go_enter func4,ntmps4;go_wp2_with fail;refine (HBig.o).mono ?_;rintro e w2 ⟨a,rfl,hs,hb2⟩
 cases a
 rotate_left
 .have HB:=kp (H1.B.on hb2);clear hs hb2 l1;go_wp2_with fail;go_ret;exact⟨rfl,HB.o⟩
 have S:=RpS.of H0.a (hs rfl) H0.B;have X:=S.x H0.a.2.1.1.2.1;have B2:=H1.B.on hb2;have l2:=(H1.a.grow hb2).load (P:=prog) (k:=26) rfl;have HOw:=kp (Mw p0 ps0 w.heap.size w2 (H0.a.below B2 (aD _)) B2.size S);have H2:=k'4 (H1.a.grow hb2) B2 S X;clear hs hb2 l1 S X B2;go_wp2_with fail;refine (HOw.o).mono ?_;rintro e w3 ⟨o,os,rfl,hox,hoo,hb3⟩;obtain⟨W4,hW4,s4,x4,aS,-⟩:=fB w3 39 dN o.cells rfl (gR hoo.rpAt);unfold dN at hW4 s4;have B4:=H2.b.on (hb3.on aS);have y1:=H2.a.grow (hb3.on aS);have l4:=y1.load (P:=prog) (k:=26) rfl;have HT:=kp (Oc p0 ps0 w.heap.size W4 (H0.a.below B4 (aD _)) B4.size H2.c);have H4:=k'5 y1 x4 B4 (hoo.below aS).rpAt hox;clear hb3 aS B4 y1 x4 hoo hox l2;go_wp2_with fail;refine (HT.o).mono ?_;rintro e w5 hT;obtain⟨p,ps,rfl,t1,t2,t3,hp,hb5⟩:=Oo hT;clear hT;obtain⟨W6,W7,W8,W9,hW6,hW7,s8,s9,x8,x9,b9⟩:=Oq hp;unfold dN at hW6;have B9:=hb5.on b9;have yo:=H4.b.grow B9;have l9:=yo.load (P:=prog) (k:=26) rfl;have ho9:=H4.d.below B9 (aD _);have So:=RxS.p (p:=o) (ps:=os) (by rw[H4.E]; exact H2.D) H4.d.2.1.1.2.1;have HU:=kp (aAZ o os W4.heap.size W9 ho9 B9.size So);rw[H4.E]at HU;have H9:=k'a (H4.a.grow B9) yo x8 x9 B9 (hp.below b9) t1 t2 t3 ho9;clear hb5 b9 B9 yo x8 x9 hp t1 t2 t3 ho9 So l4 s4 hW4;go_wp2_with fail;refine (HU.o).mono ?_;rintro e w10 hU;obtain⟨q,qs,rfl,u1,u2,u3,hq,hb10⟩:=Oo hU;clear hU;obtain⟨W11,W12,W13,W14,hW11,hW12,s13,s14,x13,x14,b14⟩:=Oq hq;unfold dN at hW11;have B14:=hb10.on b14;have HTu:=kp (Oh W14);have H14:=k'9 (H9.a.grow B14) (H9.b.grow B14) (H9.c.grow B14) (H9.d.grow B14) x13 x14 B14 (H9.f.below B14) (hq.below b14);have HE:=k'3 (H9.g.trans u1.symm) (H9.h.trans u2.symm) (H9.i.trans u3.symm);clear hb10 b14 B14 x13 x14 hq u1 u2 u3 l9 s8 s9 hW6 hW7;go_wp2_with fail;refine mb' (HTu.o) fun w15 hb15=>?_;have la:=(H14.a.grow hb15).load (P:=prog) (k:=26) rfl;have lb:=(H14.b.grow hb15).load (P:=prog) (k:=26) rfl;have lc:=(H14.c.grow hb15).load (P:=prog) (k:=26) rfl;have ld:=(H14.d.grow hb15).load (P:=prog) (k:=2) rfl;have le:=(H14.e.grow hb15).load (P:=prog) (k:=26) rfl;have lf:=(H14.f.grow hb15).load (P:=prog) (k:=2) rfl;have B15:=H9.e.on (H14.g.on hb15);have hsp:RpS p.r ps:=RxS.p (by rw[H9.g]; exact H2.D.tick) H14.h.o.rpAt.2.1.1.2.1;have HSm:=kp (aBk p q ps qs p0 o ps0 os W4.heap.size W4.heap.size w15 (H14.h.below hb15) ((H14.I.below hb15).mono H9.e.size) HE.a HE.b HE.C
  (((H0.a.below H4.c (aD _)).more H4.c.size).below B15 (aD _)) (H4.d.below B15 (aD _)) H4.E.symm (aD _) B15.size hsp H2.c)
 have HB:=kp (H4.c.on B15);have HL:=kp H4.c.size;clear hb15 B15 hsp s13 s14 hW11 hW12;go_wp2_with fail;refine mb' (HSm.o) fun w16 hb16=>?_;have HF:=kp (HB.o.trans (hb16.mono HL.o));clear hb16 la lb lc ld le lf;go_wp2_with fail;go_ret;exact⟨rfl,HF.o⟩
end Go.Proofs.YtdoopoapbffpbaaGreat
namespace Go.Proofs.YtdoopoapbffpbaaGreat.vrTicks
set_option maxRecDepth 100000
set_option maxHeartbeats 12800000
set_option linter.unusedVariables false
open Go.Proofs.Tryz Go.ChangeShapes Go.WideShapes Go.ChangeAt Go.RowKit
open Go.ChangeMaps (open_string shut_string)
theorem lifted(os:Os)(started:os.Started)(H:Type)(enc:TypeId×Value→H):
  ReturnsInHanded {} checked os 4 .any (Rows.vrTicksSpec.pre6 enc prog f4 Rows.vrTicksRow.domain false) (Rows.vrTicksSpec.post enc prog f4 false true false false):=by
 refine returnsInHanded_of_change (C:=checked) own started (by kernel_rfl) func4
  (ChangeSpec.witness6 (enc:=enc) (C:=checked) false ⟨#[],#[.agg #[.i 0,.i 0,.i 0,.i 0,.i 0,.string ByteArray.empty,.slice none 0 0,.i 0,.i 0,.slice none 0 0,.i 0,.i 0,.i 0,.i 0,.i 0,.slice none 0 0,.slice none 0 0,.i 0,.slice none 0 0,.slice none 0 0,.slice none 0 0,.i 0,.i 0,.i 0,.i 0,.string ByteArray.empty]],[]⟩ 8 (by kernel_rfl) (by kernel_rfl) (by kernel_rfl) (by kernel_rfl)) ?_
 intro W base args ds gs before hval0 hW hcnd _;have hval:∀(j:Nat) t v,f4.params[j]? =some t→args[j]? =some v→Value.okWide prog W .any base t v:=hval0;have hW':=hW;obtain⟨p,q,hA0,hV,rfl,hfz,hnd⟩:=hW;have hA:DataW.TrodAll enc prog W 0 (fun _=>true) true f4.params.toList args.toList ds p:=hA0;rw[params4]at hA hval;obtain⟨v0,vs0,d0,ds0,p0,q0,hargs,rfl,rfl,h0,r'0⟩:=trodAll_cons hA;obtain⟨rfl,rfl,rfl⟩:=trodAll_nil r'0;obtain rfl:args=#[v0]:=by cases args; simp_all
 obtain⟨rfl,rfl⟩:=trodVars_none hV;have k0:=h0;have lt0:∀x∈p0,x.block<W.heap.size:=by obtain⟨m,hm⟩:=k0; exact DataW.trod_lt m _ _ _ hm
 obtain⟨cs0,hv0,hs0⟩:=okWide_struct underlying39 (hval 0 39 v0 rfl rfl);obtain⟨p0,ps0,rfl,e0,r0⟩:=Om hv0 hs0 h0;clear hA0 hval0;refine (vrTicks_walk p0 ps0 W e0 r0).mono fun e W' ⟨he,bel⟩=>?_;subst he;exact⟨_,rfl,_,_,_,[],_,[],hW',trodAll_mk1 (shut_bool underlying4 _),(trodAll_cons_mk (Below.trod laidOut (by kernel_rfl) (bT (by kernel_rfl)) k0 bel lt0) trodAll_mk0),rfl,bel.frame _,fun h=>by cases h⟩
theorem c0:(Rows.vrTicksRow.wf (OpenSpec.ofChange Rows.vrTicksSpec))=true:=by kernel_rfl
theorem c1:(laidOutB Tryz.pinned.checked.prog)=true:=by kernel_rfl
theorem c2:(mapsRowed Tryz.pinned.checked.prog)=true:=by kernel_rfl
theorem c3:(f4.params.all (Tryz.pinned.checked.prog.readableRec ·))=true:=by kernel_rfl
theorem c4:(namedTie Tryz.pinned.checked.prog Rows.vrTicksRow.named Rows.vrTicksSpec.vars)=true:=by kernel_rfl
theorem c5:(Rows.vrTicksRow.stops==[])=true:=by kernel_rfl
theorem c6:(Tryz.pinned.checked.prog.stops==[])=true:=by kernel_rfl
theorem c7:(Rows.vrTicksRow.knobs==[])=true:=by kernel_rfl
theorem c8:(Tryz.pinned.checked.prog.stopKnobs==[])=true:=by kernel_rfl
theorem c9:(Rows.vrTicksRow.inPlace==Tryz.pinned.checked.prog.inPlace 4)=true:=by kernel_rfl
theorem c10:(Rows.vrTicksRow.unfollowed==Tryz.pinned.checked.prog.unfollowed 4)=true:=by kernel_rfl
theorem c11:(Rows.vrTicksRow.recurses==Tryz.pinned.checked.prog.recurses 4)=true:=by kernel_rfl
theorem c12:(Rows.vrTicksRow.named==Tryz.pinned.checked.prog.varsNamed 4)=true:=by kernel_rfl
theorem c13:(Rows.vrTicksRow.maps==(f4.params.toList++Rows.vrTicksSpec.plain.varTypes Tryz.pinned.checked.prog).any (Tryz.pinned.checked.prog.mapsRec ·))=true:=by kernel_rfl
theorem c14:(Rows.vrTicksRow.ifaces==(f4.params.toList++Rows.vrTicksSpec.plain.varTypes Tryz.pinned.checked.prog).any (Tryz.pinned.checked.prog.ifacesRec ·))=true:=by kernel_rfl
theorem c15:(Rows.vrTicksRow.mapsOut==Tryz.pinned.checked.prog.mapsAmong f4.resultTypes.toList)=true:=by kernel_rfl
theorem c16:(Rows.vrTicksRow.loops==(f4.params.toList++Rows.vrTicksSpec.plain.varTypes Tryz.pinned.checked.prog).any (Tryz.pinned.checked.prog.loopsFrom ·))=true:=by kernel_rfl
theorem c17:(Rows.vrTicksRow.wideKeys==(f4.params.toList++Rows.vrTicksSpec.plain.varTypes Tryz.pinned.checked.prog++f4.resultTypes.toList).any (Tryz.pinned.checked.prog.wideKeysFrom ·))=true:=by kernel_rfl
theorem c18:(Rows.vrTicksSpec.vars.all (Tryz.pinned.checked.prog.varReadable ·))=true:=by kernel_rfl
theorem c19:(f4.resultTypes.all (fun t=>Tryz.pinned.checked.prog.readableRec t&&decide (t<Tryz.pinned.checked.prog.types.size)))=true:=by kernel_rfl
theorem c20:(Rows.vrTicksRow.ifacesOut==f4.resultTypes.toList.any (Tryz.pinned.checked.prog.ifacesRec ·))=true:=by kernel_rfl
theorem c21:(Rows.vrTicksRow.loopsOut==f4.resultTypes.toList.any (Tryz.pinned.checked.prog.loopsFrom ·))=true:=by kernel_rfl
theorem c22:(Rows.vrTicksRow.plainKeys==Tryz.pinned.checked.prog.plainKeys)=true:=by kernel_rfl
theorem c23:(Rows.vrTicksRow.shortTexts.isNone)=true:=by kernel_rfl
theorem c24:(Tryz.pinned.checked.prog.stopsHeard)=true:=by kernel_rfl
theorem c25:(Tryz.pinned.checked.prog.mayEnter)=true:=by kernel_rfl
theorem c26:(Rows.vrTicksRow.lifted==Tryz.pinned.checked.prog.liftsFinal)=true:=by kernel_rfl
theorem c27:(Tryz.pinned.checked.prog.make==some Rows.vrTicksRow.make)=true:=by kernel_rfl
theorem c28(X:List (Option IntKind)):(Rows.vrTicksRow.kinds==if Rows.vrTicksRow.domain.isEmpty=true then [] else X)=true:=rfl
theorem c29:(Rows.vrTicksRow.pinned==Rows.vrTicksRow.pinnedBy)=true:=by kernel_rfl
theorem c30:(Rows.vrTicksRow.veiled==(f4.params.toList++Rows.vrTicksSpec.plain.varTypes Tryz.pinned.checked.prog++f4.resultTypes.toList).any (Tryz.pinned.checked.prog.veiledRec ·))=true:=by kernel_rfl
theorem c31:(Rows.vrTicksRow.veiledFits Tryz.pinned.checked.prog f4.params.toList (f4.params.toList++Rows.vrTicksSpec.plain.varTypes Tryz.pinned.checked.prog++f4.resultTypes.toList))=true:=by kernel_rfl
theorem closed:joinedFacts Tryz.pinned.checked.prog 4 f4 Rows.vrTicksSpec Rows.vrTicksRow=true:=by
 unfold joinedFacts;rw[c0,c1,c2,c3,c4,c5,c6,c7,c8,c9,c10,c11,c12,c13,c14,c15,c16,c17,c18,c19,c20,c21,c22,c23,c24,c25,c26,c27,c28,c29,c30,c31];rfl
theorem over:Rows.vrTicksRow.holds Tryz.pinned (OpenSpec.ofChange Rows.vrTicksSpec):=
 OpenClaim.holds_of_wide 4 f4 rfl rfl rfl rfl rfl rfl rfl ⟨rfl,rfl,rfl,rfl,rfl⟩ rfl rfl rfl rfl rfl (by kernel_rfl) func4 closed
  (bT (by kernel_rfl)) (by unfold Func.isWrapper; first |(rw[aE (by decide+kernel)]; kernel_rfl)|(rw[aC (by decide+kernel)]; exact⟨rfl,rfl⟩))
  (fun os started H enc _=>lifted os started H enc)
theorem proved:Rows.VrTicksSaid:=over
#print axioms proved
end Go.Proofs.YtdoopoapbffpbaaGreat.vrTicks