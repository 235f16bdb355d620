/- ClusterNil: no cluster answers so (any act). No condition. -/
import Derived.Test.YtoncgpddjmgbfaaGreatZ00
import Derived.Test.YtoncgpddjmgbfaaGreatZ37
namespace Go.Proofs.YtoncgpddjmgbfaaGreat
open Go.RowKit Go.Proofs.Tryz
set_option maxRecDepth 100000
set_option maxHeartbeats 12800000
set_option linter.unusedVariables false
set_option linter.unusedSimpArgs false
attribute [-go_sem] loadCellsFrom storeCells run_eql_struct run_neq_struct Instr.build
attribute [local go_sem] aX
theorem clusterNil_walk(q0:tJ)(w:World):
  Calls prog 3 #[.agg q0.cells.toArray] w fun e w'=>e=.returned (.bool true)∧Bw' w w':=by
 obtain⟨W1,hW1,x1,b1,z1⟩:=par w 27 q0.cells;have l0:=x1.load (P:=prog) (k:=11) rfl;have HD:=kp (aCa q0 W1);have HX:=k'2 x1 b1;clear x1 b1 z1;go_enter func3,ntmps3;go_wp2_with fail;refine mb' (HD.o) fun w2 hb2=>?_;have k1:w2.cell? ⟨w.heap.size,1,none⟩=some (.i q0.node):=(HX.a.grow hb2).cell 1;have HR:=kp (aCb q0.node w2);have HB2:=kp hb2;clear hb2 l0;go_wp2_with fail;refine mb' (HR.o) fun w3 hb3=>?_;obtain⟨W4,hW4,s4,x4,aQ,z4⟩:=eJ w3 50 iE jM.cells rfl Ma;unfold iE at hW4 s4;have HB4:=kp (HB2.o.on (hb3.on aQ));have k3:W4.cell? ⟨w.heap.size,3,none⟩=some (.i q0.client):=(HX.a.grow HB4.o).cell 3;have HC:=kp (aCc q0.client W4);clear hb3 x4 aQ z4 k1;go_wp2_with fail;refine mb' (HC.o) fun w5 hb5=>?_;obtain⟨W6,hW6,s6,x6,b6,z6⟩:=eJ w5 54 eK eK rfl Lz;have HB6:=kp (HB4.o.on (hb5.on b6));have HA:=kp (aB3 W6);clear hb5 x6 b6 z6 k3;unfold eK at hW6 s6;unfold eK;go_wp2_with fail;refine mb' (HA.o) fun w7 hb7=>?_;have HF:=kp (HX.B.on (HB6.o.on hb7));clear hb7;go_wp2_with fail;refine ms' (aCd w7) ?_;go_wp2_with fail;go_ret;exact⟨rfl,HF.o⟩
end Go.Proofs.YtoncgpddjmgbfaaGreat
namespace Go.Proofs.YtoncgpddjmgbfaaGreat.clusterNil
set_option maxRecDepth 100000
set_option maxHeartbeats 12800000
set_option linter.unusedVariables false
open Go.Proofs.Tryz Go.ChangeShapes Go.WideShapes Go.ChangeAt Go.RowKit
open Go.ChangeMaps (open_string shut_string)
theorem lifted(os:Os)(started:os.Started)(H:Type)(enc:TypeId×Value→H):
  ReturnsInHanded {} checked os 3 .any (Rows.clusterNilSpec.pre6 enc prog f3 Rows.clusterNilRow.domain false) (Rows.clusterNilSpec.post enc prog f3 false true false false):=by
 refine returnsInHanded_of_change (C:=checked) own started (by kernel_rfl) func3
  (ChangeSpec.witness6 (enc:=enc) (C:=checked) false ⟨#[],#[.agg z'3a],[]⟩ 8 (by kernel_rfl) (by kernel_rfl) (by kernel_rfl) (by kernel_rfl)) ?_
 intro W base args ds gs before hval0 hW hcnd _;have hval:∀(j:Nat) t v,f3.params[j]? =some t→args[j]? =some v→Value.okWide prog W .any base t v:=hval0;have hW':=hW;obtain⟨p,q,hA0,hV,rfl,hfz,hnd⟩:=hW;have hA:DataW.TrodAll enc prog W 0 (fun _=>true) true f3.params.toList args.toList ds p:=hA0;rw[params3]at hA hval;obtain⟨v0,vs0,d0,ds0,p0,q0,hargs,rfl,rfl,h0,r'0⟩:=trodAll_cons hA;obtain⟨rfl,rfl,rfl⟩:=trodAll_nil r'0;obtain rfl:args=#[v0]:=by cases args; simp_all
 obtain⟨rfl,rfl⟩:=trodVars_none hV;have k0:=h0;have lt0:∀x∈p0,x.block<W.heap.size:=by obtain⟨m,hm⟩:=k0; exact DataW.trod_lt m _ _ _ hm
 obtain⟨cs0,hv0,hs0⟩:=okWide_struct underlying27 (hval 0 27 v0 rfl rfl);obtain⟨q0,rfl⟩:=aB7 hv0 hs0 h0;clear hA0 hval0;refine (clusterNil_walk q0 W).mono fun e W' ⟨he,bel⟩=>?_;subst he;exact⟨_,rfl,_,_,_,[],_,[],hW',trodAll_mk1 (shut_bool underlying4 _),(trodAll_cons_mk (Below.trod laidOut (by kernel_rfl) (bO (by kernel_rfl)) k0 bel lt0) trodAll_mk0),rfl,bel.frame _,fun h=>by cases h⟩
theorem c0:(Rows.clusterNilRow.wf (OpenSpec.ofChange Rows.clusterNilSpec))=true:=by kernel_rfl
theorem c1:(laidOutB Tryz.pinned.checked.prog)=true:=by kernel_rfl
theorem c2:(mapsRowed Tryz.pinned.checked.prog)=true:=by kernel_rfl
theorem c3:(f3.params.all (Tryz.pinned.checked.prog.readableRec ·))=true:=by kernel_rfl
theorem c4:(namedTie Tryz.pinned.checked.prog Rows.clusterNilRow.named Rows.clusterNilSpec.vars)=true:=by kernel_rfl
theorem c5:(Rows.clusterNilRow.stops==[])=true:=by kernel_rfl
theorem c6:(Tryz.pinned.checked.prog.stops==[])=true:=by kernel_rfl
theorem c7:(Rows.clusterNilRow.knobs==[])=true:=by kernel_rfl
theorem c8:(Tryz.pinned.checked.prog.stopKnobs==[])=true:=by kernel_rfl
theorem c9:(Rows.clusterNilRow.inPlace==Tryz.pinned.checked.prog.inPlace 3)=true:=by kernel_rfl
theorem c10:(Rows.clusterNilRow.unfollowed==Tryz.pinned.checked.prog.unfollowed 3)=true:=by kernel_rfl
theorem c11:(Rows.clusterNilRow.recurses==Tryz.pinned.checked.prog.recurses 3)=true:=by kernel_rfl
theorem c12:(Rows.clusterNilRow.named==Tryz.pinned.checked.prog.varsNamed 3)=true:=by kernel_rfl
theorem c13:(Rows.clusterNilRow.maps==(f3.params.toList++Rows.clusterNilSpec.plain.varTypes Tryz.pinned.checked.prog).any (Tryz.pinned.checked.prog.mapsRec ·))=true:=by kernel_rfl
theorem c14:(Rows.clusterNilRow.ifaces==(f3.params.toList++Rows.clusterNilSpec.plain.varTypes Tryz.pinned.checked.prog).any (Tryz.pinned.checked.prog.ifacesRec ·))=true:=by kernel_rfl
theorem c15:(Rows.clusterNilRow.mapsOut==Tryz.pinned.checked.prog.mapsAmong f3.resultTypes.toList)=true:=by kernel_rfl
theorem c16:(Rows.clusterNilRow.loops==(f3.params.toList++Rows.clusterNilSpec.plain.varTypes Tryz.pinned.checked.prog).any (Tryz.pinned.checked.prog.loopsFrom ·))=true:=by kernel_rfl
theorem c17:(Rows.clusterNilRow.wideKeys==(f3.params.toList++Rows.clusterNilSpec.plain.varTypes Tryz.pinned.checked.prog++f3.resultTypes.toList).any (Tryz.pinned.checked.prog.wideKeysFrom ·))=true:=by kernel_rfl
theorem c18:(Rows.clusterNilSpec.vars.all (Tryz.pinned.checked.prog.varReadable ·))=true:=by kernel_rfl
theorem c19:(f3.resultTypes.all (fun t=>Tryz.pinned.checked.prog.readableRec t&&decide (t<Tryz.pinned.checked.prog.types.size)))=true:=by kernel_rfl
theorem c20:(Rows.clusterNilRow.ifacesOut==f3.resultTypes.toList.any (Tryz.pinned.checked.prog.ifacesRec ·))=true:=by kernel_rfl
theorem c21:(Rows.clusterNilRow.loopsOut==f3.resultTypes.toList.any (Tryz.pinned.checked.prog.loopsFrom ·))=true:=by kernel_rfl
theorem c22:(Rows.clusterNilRow.plainKeys==Tryz.pinned.checked.prog.plainKeys)=true:=by kernel_rfl
theorem c23:(Rows.clusterNilRow.shortTexts.isNone)=true:=by kernel_rfl
theorem c24:(Tryz.pinned.checked.prog.stopsHeard)=true:=by kernel_rfl
theorem c25:(Tryz.pinned.checked.prog.mayEnter)=true:=by kernel_rfl
theorem c26:(Rows.clusterNilRow.lifted==Tryz.pinned.checked.prog.liftsFinal)=true:=by kernel_rfl
theorem c27:(Tryz.pinned.checked.prog.make==some Rows.clusterNilRow.make)=true:=by kernel_rfl
theorem c28(X:List (Option IntKind)):(Rows.clusterNilRow.kinds==if Rows.clusterNilRow.domain.isEmpty=true then [] else X)=true:=rfl
theorem c29:(Rows.clusterNilRow.pinned==Rows.clusterNilRow.pinnedBy)=true:=by kernel_rfl
theorem c30:(Rows.clusterNilRow.veiled==(f3.params.toList++Rows.clusterNilSpec.plain.varTypes Tryz.pinned.checked.prog++f3.resultTypes.toList).any (Tryz.pinned.checked.prog.veiledRec ·))=true:=by kernel_rfl
theorem c31:(Rows.clusterNilRow.veiledFits Tryz.pinned.checked.prog f3.params.toList (f3.params.toList++Rows.clusterNilSpec.plain.varTypes Tryz.pinned.checked.prog++f3.resultTypes.toList))=true:=by kernel_rfl
theorem closed:joinedFacts Tryz.pinned.checked.prog 3 f3 Rows.clusterNilSpec Rows.clusterNilRow=true:=by
 unfold joinedFacts;rw[c0,c1,c2,c3,c4,c5,c6,c7,c8,c9,c10,c11,c12,c13,c14,c15,c16,c17,c18,c19,c20,c21,c22,c23,c24,c25,c26,c27,c28,c29,c30,c31];rfl
theorem over:Rows.clusterNilRow.holds Tryz.pinned (OpenSpec.ofChange Rows.clusterNilSpec):=
 OpenClaim.holds_of_wide 3 f3 rfl rfl rfl rfl rfl rfl rfl ⟨rfl,rfl,rfl,rfl,rfl⟩ rfl rfl rfl rfl rfl (by kernel_rfl) func3 closed
  (bO (by kernel_rfl)) (by unfold Func.isWrapper; first |(rw[aK (by decide+kernel)]; kernel_rfl)|(rw[aF (by decide+kernel)]; exact⟨rfl,rfl⟩))
  (fun os started H enc _=>lifted os started H enc)
theorem proved:Rows.ClusterNilSaid:=over
#print axioms proved
end Go.Proofs.YtoncgpddjmgbfaaGreat.clusterNil