/- VrElder: a message of an elder view does nothing (any replica and message). No condition. -/
import Derived.Test.YthalbagblhkeaaaGreatZ00
import Derived.Test.YthalbagblhkeaaaGreatZ35
namespace Go.Proofs.YthalbagblhkeaaaGreat
open Go.RowKit Go.Proofs.Tryz
set_option maxRecDepth 100000
set_option maxHeartbeats 12800000
set_option linter.unusedVariables false
set_option linter.unusedSimpArgs false
attribute [-go_sem] loadCellsFrom storeCells run_eql_struct run_neq_struct Instr.build
attribute [local go_sem] bC qI sL On
theorem vrElder_walk(p0:RpV)(ps0:List ObV)(q1:MgV)(w:World)(e0:eO w w.heap.size p0 ps0)(r0:RpR p0)(cG:MgA w q1):
  Calls prog 3 #[.agg p0.cells.toArray,.agg q1.cells.toArray] w fun e w'=>e=.returned (.bool true)∧Bw' w w':=by
 obtain⟨W1,hW1,x1,b1,z1⟩:=par w 39 p0.cells;obtain⟨W2,hW2,x2,b2,z2⟩:=par W1 48 q1.cells;have hb:=b1.on b2;have l1:=(x1.grow b2).load (P:=prog) (k:=26) rfl;have l2:=x2.load (P:=prog) (k:=23) rfl;have hA:=e0.below hb (aD _);have hM:=Sl.below cG.e hb (aD _);have HBig:=kp (aED p0 ps0 q1 w.heap.size W2 hA hM hb.size);have H0:=k'3 e0 r0 cG;have H1:=k'5 (x1.grow b2) x2 hb hA hM;clear x1 b1 z1 x2 b2 z2 hb hA hM e0 r0 cG;go_enter func3,ntmps3;go_wp2_with fail;refine (HBig.o).mono ?_;rintro e w3 ⟨a,rfl,hs,hb3⟩;have HB3:=kp hb3;have HS:=kp hs;clear hb3 hs l1 l2
 cases a
 rotate_left
 .go_wp2_with fail;refine mb' (aBU w3) fun w4 hb4=>?_;have HF:=kp (H1.c.on (HB3.o.on hb4));clear hb4;go_wp2_with fail;go_ret;exact⟨rfl,HF.o⟩
 have S:=RpS.of H0.a (HS.o rfl).1 H0.b;have HX:=kp (S.x H0.a.2.1.1.2.1);have y1:=H1.a.grow HB3.o;have l1:=y1.load (P:=prog) (k:=26) rfl;have HCk:=kp (vX p0 ps0 w.heap.size w3 (H1.d.below HB3.o H1.c.size) (aB H1.c.size HB3.o.size) S);have HS2:=kp S;obtain⟨b,hbq⟩:=nm' (dI p0.x);rw[hbq]at HCk;have HQ:=kp hbq;clear S y1 hbq;go_wp2_with fail;refine mb' (HCk.o) fun w4 hb4=>?_;have HB4:=kp (HB3.o.on hb4);clear hb4 l1
 cases b
 .have:eN 1 false=1:=rfl;rw[this];clear this;go_wp2_with fail;refine mb' (aBU w4) fun w5 hb5=>?_;have HF:=kp (H1.c.on (HB4.o.on hb5));clear hb5;go_wp2_with fail;go_ret;exact⟨rfl,HF.o⟩
 have:eN 1 true=0:=rfl;rw[this];clear this;have y1:=H1.a.grow HB4.o;have y2:=H1.b.grow HB4.o;have k0:w4.cell? ⟨W1.heap.size,0,none⟩=some (.i q1.kind):=y2.cell 0;have k3:w4.cell? ⟨W1.heap.size,3,none⟩=some (.i q1.view):=y2.cell 3;have k2:w4.cell? ⟨w.heap.size,2,none⟩=some (.i p0.k.view):=y1.cell 2;have l1:=y1.load (P:=prog) (k:=26) rfl;have l2:=y2.load (P:=prog) (k:=23) rfl;clear y1 y2;obtain⟨c1,d1⟩:∃c,decide (q1.kind<3)=c:=⟨_,rfl⟩
 cases c1
 rotate_left
 .go_wp2_with fail;refine mb' (aBU w4) fun w5 hb5=>?_;have HF:=kp (H1.c.on (HB4.o.on hb5));clear hb5;go_wp2_with fail;go_ret;exact⟨rfl,HF.o⟩
 obtain⟨c2,d2⟩:∃c,decide (10<q1.kind)=c:=⟨_,rfl⟩
 cases c2
 rotate_left
 .go_wp2_with fail;refine mb' (aBU w4) fun w5 hb5=>?_;have HF:=kp (H1.c.on (HB4.o.on hb5));clear hb5;go_wp2_with fail;go_ret;exact⟨rfl,HF.o⟩
 obtain⟨c3,d3⟩:∃c,decide (p0.k.view≤q1.view)=c:=⟨_,rfl⟩
 cases c3
 rotate_left
 .go_wp2_with fail;refine mb' (aBU w4) fun w5 hb5=>?_;have HF:=kp (H1.c.on (HB4.o.on hb5));clear hb5;go_wp2_with fail;go_ret;exact⟨rfl,HF.o⟩
 have hb4:=H1.c.on HB4.o;have HH:=kp (by
  have:=aCV p0 ps0 q1 w.heap.size w4 (p0.x,[],[]) (H0.a.below hb4 (aD _)) (Sl.below H0.C.e hb4 (aD _)) hb4.size HS2.o H0.C.r H0.C.m (by have:=(HS.o rfl).2; omega) (fun _=>aC7 (by have:=of_decide_eq_false d1; show 3≤q1.kind; omega) (by have:=of_decide_eq_false d3; show q1.view<p0.k.view; omega));rw[aC0 _ HQ.o]at this;exact this)
 clear hb4;go_wp2_with fail;refine (HH.o).mono ?_;rintro e w5 hT;obtain⟨p,ps,rfl,t1,t2,t3,hp,hb5⟩:=aEE hT;clear hT;obtain⟨W6,W7,W8,W9,hW6,hW7,s8,s9,x8,x9,b9⟩:=Oq hp;unfold dN at hW6;have B9:=hb5.on b9;have HW:=kp (aBU W9);have H9:=k'8 (H1.a.grow (HB4.o.on B9)) x8 x9 (H1.c.on (HB4.o.on B9)) (hp.below b9) t1 t2 t3;have HL:=kp (aB H1.c.size HB4.o.size);clear hb5 b9 B9 x8 x9 hp t1 t2 t3 l1 l2 k0 k2 k3 d1 d2 d3;go_wp2_with fail;refine mb' (HW.o) fun w10 hb10=>?_;have B10:=H9.d.on hb10;have la:=(H9.a.grow hb10).load (P:=prog) (k:=26) rfl;have lb:=(H9.b.grow hb10).load (P:=prog) (k:=26) rfl;have lc:=(H9.c.grow hb10).load (P:=prog) (k:=2) rfl;have ho:=(H9.e.below hb10).o;have hsp:RpS p.r ps:=RxS.p (by rw[H9.f]; exact HX.o) ho.rpAt.2.1.1.2.1;have HSm:=kp (by
  have:=Ec p.r p0 ps ps0 w10.heap.size w10 ho.rpAt ((H0.a.below B10 (aD _)).more B10.size) (aD _) hsp;rw[bY H9.f]at this;exact this)
 have HT:=k'3 (H9.c.grow hb10) B10 (H9.e.below hb10);clear hb10 B10 ho hsp s8 s9 hW6 hW7;go_wp2_with fail;refine mb' (HSm.o) fun w11 hb11=>?_;have yt:=HT.a.grow hb11;obtain⟨A1,c1,hv1,-⟩:=eD HT.C.rs;obtain⟨A2,c2,hv2,-⟩:=eD HT.C.ms;have f0:w11.cell? ⟨W6.heap.size,0,none⟩=some (.slice A1 0 c1):=by
  have:w11.cell? ⟨W6.heap.size,0,none⟩=some p.rv:=yt.cell 0;rw[hv1,H9.g]at this;exact this
 have f1:w11.cell? ⟨W6.heap.size,1,none⟩=some (.slice A2 0 c2):=by
  have:w11.cell? ⟨W6.heap.size,1,none⟩=some p.mv:=yt.cell 1;rw[hv2,H9.H]at this;exact this
 have HF:=kp (HT.b.on hb11);clear hb11 la lb lc yt hv1 hv2;go_wp2_with fail;go_ret;exact⟨rfl,HF.o⟩
end Go.Proofs.YthalbagblhkeaaaGreat
namespace Go.Proofs.YthalbagblhkeaaaGreat.vrElder
set_option maxRecDepth 100000
set_option maxHeartbeats 12800000
set_option linter.unusedVariables false
open Go.Proofs.Tryz Go.ChangeShapes Go.WideShapes Go.ChangeAt Go.RowKit
open Go.ChangeMaps (open_string shut_string)
theorem lifted(os:Os)(started:os.Started)(H:Type)(enc:TypeId×Value→H):
  ReturnsInHanded {} checked os 3 .any (Rows.vrElderSpec.pre6 enc prog f3 Rows.vrElderRow.domain false) (Rows.vrElderSpec.post enc prog f3 false true false false):=by
 refine returnsInHanded_of_change (C:=checked) own started (by kernel_rfl) func3
  (ChangeSpec.witness6 (enc:=enc) (C:=checked) false ⟨#[],#[.agg #[.i 0,.i 0,.i 0,.i 0,.i 0,.string ByteArray.empty,.slice none 0 0,.i 0,.i 0,.slice none 0 0,.i 0,.i 0,.i 0,.i 0,.i 0,.slice none 0 0,.slice none 0 0,.i 0,.slice none 0 0,.slice none 0 0,.slice none 0 0,.i 0,.i 0,.i 0,.i 0,.string ByteArray.empty],.agg #[.i 0,.i 0,.i 0,.i 0,.i 0,.i 0,.i 0,.i 0,.slice none 0 0,.i 0,.i 0,.string ByteArray.empty,.i 0,.i 0,.i 0,.i 0,.i 0,.i 0,.i 0,.i 0,.i 0,.i 0,.bool false]],[]⟩ 8 (by kernel_rfl) (by kernel_rfl) (by kernel_rfl) (by kernel_rfl)) ?_
 intro W base args ds gs before hval0 hW hcnd _;have hval:∀(j:Nat) t v,f3.params[j]? =some t→args[j]? =some v→Value.okWide prog W .any base t v:=hval0;have hW':=hW;obtain⟨p,q,hA0,hV,rfl,hfz,hnd⟩:=hW;have hA:DataW.TrodAll enc prog W 0 (fun _=>true) true f3.params.toList args.toList ds p:=hA0;rw[params3]at hA hval;obtain⟨v0,vs0,d0,ds0,p0,q0,hargs,rfl,rfl,h0,r'0⟩:=trodAll_cons hA;obtain⟨v1,vs1,d1,ds1,p1,q1,rfl,rfl,rfl,h1,r'1⟩:=trodAll_cons r'0;obtain⟨rfl,rfl,rfl⟩:=trodAll_nil r'1;obtain rfl:args=#[v0,v1]:=by cases args; simp_all
 obtain⟨rfl,rfl⟩:=trodVars_none hV;have k0:=h0;have lt0:∀x∈p0,x.block<W.heap.size:=by obtain⟨m,hm⟩:=k0; exact DataW.trod_lt m _ _ _ hm
 obtain⟨cs0,hv0,hs0⟩:=okWide_struct underlying39 (hval 0 39 v0 rfl rfl);obtain⟨p0,ps0,rfl,e0,r0⟩:=Om hv0 hs0 h0;have k1:=h1;have lt1:∀x∈p1,x.block<W.heap.size:=by obtain⟨m,hm⟩:=k1; exact DataW.trod_lt m _ _ _ hm
 obtain⟨cs1,hv1,hs1⟩:=okWide_struct underlying48 (hval 1 48 v1 rfl rfl);obtain⟨q1,rfl,cG⟩:=aEC hv1 hs1 h1;clear hA0 hval0;refine (vrElder_walk p0 ps0 q1 W e0 r0 cG).mono fun e W' ⟨he,bel⟩=>?_;subst he;exact⟨_,rfl,_,_,_,[],_,[],hW',trodAll_mk1 (shut_bool aCw _),(trodAll_cons_mk (Below.trod laidOut (by kernel_rfl) (bT (by kernel_rfl)) k0 bel lt0) (trodAll_cons_mk (Below.trod laidOut (by kernel_rfl) (bT (by kernel_rfl)) k1 bel lt1) trodAll_mk0)),rfl,bel.frame _,fun h=>by cases h⟩
theorem c0:(Rows.vrElderRow.wf (OpenSpec.ofChange Rows.vrElderSpec))=true:=by kernel_rfl
theorem c1:(laidOutB Tryz.pinned.checked.prog)=true:=by kernel_rfl
theorem c2:(mapsRowed Tryz.pinned.checked.prog)=true:=by kernel_rfl
theorem c3:(f3.params.all (Tryz.pinned.checked.prog.readableRec ·))=true:=by kernel_rfl
theorem c4:(namedTie Tryz.pinned.checked.prog Rows.vrElderRow.named Rows.vrElderSpec.vars)=true:=by kernel_rfl
theorem c5:(Rows.vrElderRow.stops==[])=true:=by kernel_rfl
theorem c6:(Tryz.pinned.checked.prog.stops==[])=true:=by kernel_rfl
theorem c7:(Rows.vrElderRow.knobs==[])=true:=by kernel_rfl
theorem c8:(Tryz.pinned.checked.prog.stopKnobs==[])=true:=by kernel_rfl
theorem c9:(Rows.vrElderRow.inPlace==Tryz.pinned.checked.prog.inPlace 3)=true:=by kernel_rfl
theorem c10:(Rows.vrElderRow.unfollowed==Tryz.pinned.checked.prog.unfollowed 3)=true:=by kernel_rfl
theorem c11:(Rows.vrElderRow.recurses==Tryz.pinned.checked.prog.recurses 3)=true:=by kernel_rfl
theorem c12:(Rows.vrElderRow.named==Tryz.pinned.checked.prog.varsNamed 3)=true:=by kernel_rfl
theorem c13:(Rows.vrElderRow.maps==(f3.params.toList++Rows.vrElderSpec.plain.varTypes Tryz.pinned.checked.prog).any (Tryz.pinned.checked.prog.mapsRec ·))=true:=by kernel_rfl
theorem c14:(Rows.vrElderRow.ifaces==(f3.params.toList++Rows.vrElderSpec.plain.varTypes Tryz.pinned.checked.prog).any (Tryz.pinned.checked.prog.ifacesRec ·))=true:=by kernel_rfl
theorem c15:(Rows.vrElderRow.mapsOut==Tryz.pinned.checked.prog.mapsAmong f3.resultTypes.toList)=true:=by kernel_rfl
theorem c16:(Rows.vrElderRow.loops==(f3.params.toList++Rows.vrElderSpec.plain.varTypes Tryz.pinned.checked.prog).any (Tryz.pinned.checked.prog.loopsFrom ·))=true:=by kernel_rfl
theorem c17:(Rows.vrElderRow.wideKeys==(f3.params.toList++Rows.vrElderSpec.plain.varTypes Tryz.pinned.checked.prog++f3.resultTypes.toList).any (Tryz.pinned.checked.prog.wideKeysFrom ·))=true:=by kernel_rfl
theorem c18:(Rows.vrElderSpec.vars.all (Tryz.pinned.checked.prog.varReadable ·))=true:=by kernel_rfl
theorem c19:(f3.resultTypes.all (fun t=>Tryz.pinned.checked.prog.readableRec t&&decide (t<Tryz.pinned.checked.prog.types.size)))=true:=by kernel_rfl
theorem c20:(Rows.vrElderRow.ifacesOut==f3.resultTypes.toList.any (Tryz.pinned.checked.prog.ifacesRec ·))=true:=by kernel_rfl
theorem c21:(Rows.vrElderRow.loopsOut==f3.resultTypes.toList.any (Tryz.pinned.checked.prog.loopsFrom ·))=true:=by kernel_rfl
theorem c22:(Rows.vrElderRow.plainKeys==Tryz.pinned.checked.prog.plainKeys)=true:=by kernel_rfl
theorem c23:(Rows.vrElderRow.shortTexts.isNone)=true:=by kernel_rfl
theorem c24:(Tryz.pinned.checked.prog.stopsHeard)=true:=by kernel_rfl
theorem c25:(Tryz.pinned.checked.prog.mayEnter)=true:=by kernel_rfl
theorem c26:(Rows.vrElderRow.lifted==Tryz.pinned.checked.prog.liftsFinal)=true:=by kernel_rfl
theorem c27:(Tryz.pinned.checked.prog.make==some Rows.vrElderRow.make)=true:=by kernel_rfl
theorem c28(X:List (Option IntKind)):(Rows.vrElderRow.kinds==if Rows.vrElderRow.domain.isEmpty=true then [] else X)=true:=rfl
theorem c29:(Rows.vrElderRow.pinned==Rows.vrElderRow.pinnedBy)=true:=by kernel_rfl
theorem c30:(Rows.vrElderRow.veiled==(f3.params.toList++Rows.vrElderSpec.plain.varTypes Tryz.pinned.checked.prog++f3.resultTypes.toList).any (Tryz.pinned.checked.prog.veiledRec ·))=true:=by kernel_rfl
theorem c31:(Rows.vrElderRow.veiledFits Tryz.pinned.checked.prog f3.params.toList (f3.params.toList++Rows.vrElderSpec.plain.varTypes Tryz.pinned.checked.prog++f3.resultTypes.toList))=true:=by kernel_rfl
theorem closed:joinedFacts Tryz.pinned.checked.prog 3 f3 Rows.vrElderSpec Rows.vrElderRow=true:=by
 unfold joinedFacts;rw[c0,c1,c2,c3,c4,c5,c6,c7,c8,c9,c10,c11,c12,c13,c14,c15,c16,c17,c18,c19,c20,c21,c22,c23,c24,c25,c26,c27,c28,c29,c30,c31];rfl
theorem over:Rows.vrElderRow.holds Tryz.pinned (OpenSpec.ofChange Rows.vrElderSpec):=
 OpenClaim.holds_of_wide 3 f3 rfl rfl rfl rfl rfl rfl rfl ⟨rfl,rfl,rfl,rfl,rfl⟩ rfl rfl rfl rfl rfl (by kernel_rfl) func3 closed
  (bT (by kernel_rfl)) (by unfold Func.isWrapper; first |(rw[aE (by decide+kernel)]; kernel_rfl)|(rw[aC (by decide+kernel)]; exact⟨rfl,rfl⟩))
  (fun os started H enc _=>lifted os started H enc)
theorem proved:Rows.VrElderSaid:=over
#print axioms proved
end Go.Proofs.YthalbagblhkeaaaGreat.vrElder