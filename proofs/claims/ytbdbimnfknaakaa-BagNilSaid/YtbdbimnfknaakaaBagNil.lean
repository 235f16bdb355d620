/- BagNil: no bag answers so. No condition. -/
import Derived.Test.YtbdbimnfknaakaaLarge
import Derived.Test.YtbdbimnfknaakaaOpen
namespace Go.Proofs.Ytbdbimnfknaakaa
open Go.RowKit

attribute [-go_sem] loadCellsFrom storeCells
attribute [local go_sem] storeCells_one Mt.cells_len
theorem Blk.rd {W : World} {g : Nat} {t : TypeId} {cs : List Value} (h : Blk W g t cs) : Rd W (g + 1) (some ⟨g, 0, none⟩) cs :=
  .inr ⟨g, 0, rfl, by omega, fun j u hu => by rw [Nat.zero_add, h.cell]; exact hu⟩

set_option linter.unusedVariables false in
set_option maxRecDepth 40000 in
set_option maxHeartbeats 6400000 in
theorem bagNil_walk (bo0 : Bo) (w : World) (e0 : MsRaw w bo0.v bo0.l) :
    Calls Try.prog 6 #[.agg bo0.cells.toArray] w fun e w' => e = .returned (.bool true) ∧ Below w.heap.size w w' := by
  obtain ⟨ok, on, ov, ol⟩ := bo0
  simp only at e0
  have hsl : ∃ A n c, ov = .slice A n c := by obtain ⟨A, n, c, h, _⟩ := e0; exact ⟨A, n, c, h⟩
  obtain ⟨A, n, c, rfl⟩ := hsl
  have hk1 := Blk.new w 33 [.int .i64 ok, .int .i64 on, .slice A n c]
  have hb1 := (Below.refl w.heap.size w).alloc (Nat.le_refl _) (.cells #[.int .i64 ok, .int .i64 on, .slice A n c] 33)
  obtain ⟨w1, hw1⟩ : ∃ w1, w.alloc (.cells #[.int .i64 ok, .int .i64 on, .slice A n c] 33) = w1 := ⟨_, rfl⟩
  rw [hw1] at hk1 hb1
  have hld1 := hk1.load (P := Try.prog) (k := 3) rfl
  have hk2 := Blk.new w1 33 [.int .i64 ok, .int .i64 on, .slice A n c]
  have hb2 := (Below.refl w1.heap.size w1).alloc (Nat.le_refl _) (.cells #[.int .i64 ok, .int .i64 on, .slice A n c] 33)
  have hb12 := hb1.trans (hb2.mono hb1.size)
  have hraw2 := e0.below hb12
  have HLg := Lib.hid (large_any (some ⟨w1.heap.size, 0, none⟩) 1 1 (w1.heap.size + 1) [⟨ok, on, .slice A n c, ol⟩] _ hk2.rd (by simp) rfl (fun o ho => by rw [List.mem_singleton.1 ho]; exact hraw2))
  have H := Lib.hid (And.intro (hk1.below hb2 hk1.lt) (And.intro hb12 hraw2))
  clear hk1 hb1 hk2 hb2 hb12 hraw2 e0
  simp only [Bo.cells]
  go_enter Try.func6, Try.ntmps6
  go_wp2_with fail
  refine HLg.out.mono ?_
  rintro e w3 ⟨hb3, rfl | ⟨rfl, _, hok⟩⟩
  · have B3 := Lib.hid (H.out.2.1.trans (hb3.mono H.out.2.1.size)); clear hb3
    go_wp2_with fail
    go_ret
    exact ⟨rfl, B3.out⟩
  have hk3 := H.out.1.below hb3 H.out.1.lt
  have H3 := Lib.hid (And.intro hk3 (H.out.2.1.trans (hb3.mono H.out.2.1.size)))
  have q1 : w3.cell? ⟨w.heap.size, 1, none⟩ = some (.int .i64 on) := hk3.cell 1
  clear hb3 hok hk3 hw1 hld1
  go_wp2_with fail
  refine (take_nil on w3).mono ?_
  rintro e w4 ⟨rfl, hb4⟩
  have hz := Blk.new w4 47 zero47
  have hst := hz.store (P := Try.prog) (cs' := mt0.cells) rfl (Mt.one (mt0_at w4 0))
  have hz5 := hz.set mt0.cells
  have hb5 : Below w4.heap.size w4 ((w4.alloc (.cells zero47.toArray 47)).setRow w4.heap.size mt0.cells.toArray) := below_setRow ((Below.refl _ _).alloc (Nat.le_refl _) _) (Nat.le_refl _) _
  obtain ⟨w5, hw5⟩ : ∃ w5, (w4.alloc (.cells zero47.toArray 47)).setRow w4.heap.size mt0.cells.toArray = w5 := ⟨_, rfl⟩
  rw [hw5] at hst hz5 hb5
  have hb35 := hb4.trans (hb5.mono hb4.size)
  have H5 := Lib.hid (And.intro (H3.out.1.below hb35 H3.out.1.lt) (And.intro (H3.out.2.trans (hb35.mono H3.out.2.size)) hz5))
  clear hz hz5 hb5 hb4 hb35 q1 hw5
  rw [mt0_cells] at hst
  simp only [zero47] at hst
  rw [mt0_cells]
  simp only [zero47]
  go_wp2_with fail
  refine (awake_any w5).mono ?_
  rintro e w6 ⟨rfl, hb6⟩
  have hld6 := (H5.out.2.2.below hb6 H5.out.2.2.lt).load (P := Try.prog) (k := 23) rfl
  have H6 := Lib.hid (And.intro (H5.out.1.below hb6 H5.out.1.lt) (H5.out.2.1.trans (hb6.mono H5.out.2.1.size)))
  clear hb6 hst
  rw [mt0_cells] at hld6
  simp only [zero47] at hld6
  go_wp2_with fail
  have HSm := Lib.hid (bagSame_any mt0 mt0 w6.heap.size w6 (mt0_at _ _) (mt0_at _ _) (Nat.le_refl _) (by simp [mt0]))
  rw [mt0_cells, decide_eq_true (rfl : mt0.m = mt0.m)] at HSm
  simp only [zero47] at HSm
  refine HSm.out.mono ?_
  rintro e w7 ⟨rfl, hb7⟩
  have hk7 := H6.out.1.below hb7 H6.out.1.lt
  have q1 : w7.cell? ⟨w.heap.size, 1, none⟩ = some (.int .i64 on) := hk7.cell 1
  have q2 : w7.cell? ⟨w.heap.size, 2, none⟩ = some (.slice A n c) := hk7.cell 2
  have B7 := Lib.hid (H6.out.2.trans (hb7.mono H6.out.2.size))
  clear hb7 hld6 hk7 HSm
  go_wp2_with fail
  refine (put_nil _ w7).mono ?_
  rintro e w' ⟨rfl, rfl⟩
  go_wp2_with fail
  refine (double_nil on w7).mono ?_
  rintro e w' ⟨rfl, rfl⟩
  go_wp2_with fail
  refine (len_nil w7).mono ?_
  rintro e w' ⟨rfl, rfl⟩
  go_wp2_with fail
  refine (all_nil w7).mono ?_
  rintro e w' ⟨rfl, rfl⟩
  go_wp2_with fail
  go_ret
  exact ⟨rfl, B7.out⟩

end Go.Proofs.Ytbdbimnfknaakaa
namespace Go.Proofs.Ytbdbimnfknaakaa.bagNil
open Go.ChangeShapes Go.WideShapes Go.ChangeAt Go.RowKit
open Go.ChangeMaps (open_string shut_string)

set_option linter.unusedVariables false in
set_option maxRecDepth 100000 in
theorem lifted (os : Os) (started : os.Started) (H : Type) (enc : TypeId × Value → H) :
    ReturnsInHanded {} Try.checked os 6 .any (Rows.bagNilSpec.pre6 enc Try.prog Try.f6 Rows.bagNilRow.domain false) (Rows.bagNilSpec.post enc Try.prog Try.f6 false true false false) := by
  refine returnsInHanded_of_change (C := Try.checked) own started (by kernel_rfl) Try.func6
    (ChangeSpec.witness6 (enc := enc) (C := Try.checked) false ⟨#[], #[.agg #[.int .i64 0, .int .i64 0, .slice none 0 0]], []⟩ 8 (by kernel_rfl) (by kernel_rfl) (by kernel_rfl) (by kernel_rfl)) ?_
  intro W base args ds gs before hval0 hW hcnd _
  have hval : ∀ (j : Nat) t v, Try.f6.params[j]? = some t → args[j]? = some v → Value.okWide Try.prog W .any base t v := hval0
  have hW' := hW
  obtain ⟨p, q, hA0, hV, rfl, hfz, hnd⟩ := hW
  have hA : DataW.TrodAll enc Try.prog W 0 (fun _ => true) true Try.f6.params.toList args.toList ds p := hA0
  rw [Try.params6] at hA hval
  obtain ⟨v0, vs0, d0, ds0, p0, q0, hargs, rfl, rfl, h0, r'0⟩ := trodAll_cons hA
  obtain ⟨rfl, rfl, rfl⟩ := trodAll_nil r'0
  obtain rfl : args = #[v0] := by cases args; simp_all
  obtain ⟨rfl, rfl⟩ := trodVars_none hV
  have k0 := h0
  have lt0 : ∀ x ∈ p0, x.block < W.heap.size := by obtain ⟨m, hm⟩ := k0; exact DataW.trod_lt m _ _ _ hm
  obtain ⟨cs0, hv0, hs0⟩ := okWide_struct Try.underlying33 (hval 0 33 v0 rfl rfl)
  obtain ⟨bo0, rfl, e0⟩ := openBo hv0 hs0 h0
  clear hA0 hval0
  refine (bagNil_walk bo0 W e0).mono fun e W' ⟨he, bel⟩ => ?_
  subst he
  exact ⟨_, rfl, _, _, _, [], _, [], hW', trodAll_mk1 (shut_bool Try.underlying4 _), (trodAll_cons_mk (Below.trod laidOut (by kernel_rfl) (of_decide_eq_true (by kernel_rfl)) k0 bel lt0) trodAll_mk0), rfl, bel.frame _, fun h => by cases h⟩

theorem over : Rows.bagNilRow.holds Try.pinned (OpenSpec.ofChange Rows.bagNilSpec) :=
  OpenClaim.holds_of_wide 6 Try.f6 rfl rfl rfl rfl rfl rfl rfl ⟨rfl, rfl, rfl, rfl, rfl⟩ rfl rfl rfl rfl rfl (by kernel_rfl) Try.func6 (by kernel_rfl)
    (of_decide_eq_true (by kernel_rfl)) (by unfold Func.isWrapper; first | (rw [if_pos (by decide +kernel)]; kernel_rfl) | (rw [if_neg (by decide +kernel)]; exact ⟨rfl, rfl⟩))
    (fun os started H enc _ => lifted os started H enc)

/-- The statement. -/
theorem proved : Rows.BagNilSaid := over
#print axioms proved
end Go.Proofs.Ytbdbimnfknaakaa.bagNil
