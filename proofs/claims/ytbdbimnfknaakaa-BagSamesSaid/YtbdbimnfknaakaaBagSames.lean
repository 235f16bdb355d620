/- BagSames: two messages are the same, or are not. No condition. -/
import Derived.Test.YtbdbimnfknaakaaOpenM
import Derived.Test.YtbdbimnfknaakaaOpen
namespace Go.Proofs.Ytbdbimnfknaakaa
open Go.RowKit

attribute [-go_sem] loadCellsFrom storeCells
attribute [local go_sem] storeCells_one Mt.cells_len

def bigB (p : Mt) : Bool := decide (1000 < p.es.length) || decide (200000 < p.h.d.size)
/-- A message whose list lies in memory of someone's own. -/
def WithP (p : Mt) : Value → World → Prop := fun v w => ∃ v' base, v = .agg (p.with v').cells.toArray ∧ EsOwn w base v' p.es
theorem pers_with (p : Mt) : Pers (WithP p) := by
  rintro v w w' ⟨v', base, hv, ho⟩ hb
  exact ⟨v', base, hv, own_below ho hb (Nat.le_refl _)⟩
theorem EsAt.more {w : World} {B C : Nat} {v : Value} {es : List En} (h : EsAt w B v es) (hC : B ≤ C) : EsAt w C v es := by
  obtain ⟨A, n, c, hv, hr, hl, hc⟩ := h
  exact ⟨A, n, c, hv, hr.more hC, hl, hc⟩

set_option linter.unusedVariables false in
set_option maxRecDepth 40000 in
set_option maxHeartbeats 6400000 in
theorem bagSames_walk (mt0 : Mt) (mt1 : Mt) (w : World) (e0 : EsAt w w.heap.size mt0.v mt0.es) (e1 : EsAt w w.heap.size mt1.v mt1.es) :
    Calls Try.prog 4 #[.agg mt0.cells.toArray, .agg mt1.cells.toArray] w fun e w' => e = .returned (.bool true) ∧ Below w.heap.size w w' := by
  have hk1 := (Blk.new w 47 mt0.cells).alloc (.cells mt1.cells.toArray 47)
  have hk2 := Blk.new (w.alloc (.cells mt0.cells.toArray 47)) 47 mt1.cells
  have hb0 := ((Below.refl w.heap.size w).alloc (Nat.le_refl _) (.cells mt0.cells.toArray 47)).alloc (by simp) (.cells mt1.cells.toArray 47)
  simp only [World.size_alloc] at hk2
  obtain ⟨w1, hw1⟩ : ∃ w1, (w.alloc (.cells mt0.cells.toArray 47)).alloc (.cells mt1.cells.toArray 47) = w1 := ⟨_, rfl⟩
  rw [hw1] at hk1 hk2 hb0
  have H := Lib.hid (And.intro hk1 (And.intro hk2 (And.intro hb0 (And.intro (e0.below hb0 (Nat.le_refl _)) (e1.below hb0 (Nat.le_refl _))))))
  have hld1 := hk1.load (P := Try.prog) (k := 23) rfl
  obtain ⟨ba, hba⟩ : ∃ x, bigB mt0 = x := ⟨_, rfl⟩
  obtain ⟨bb, hbb⟩ : ∃ x, bigB mt1 = x := ⟨_, rfl⟩
  have hbig0 := big_any mt0 w.heap.size w1 (e0.below hb0 (Nat.le_refl _))
  rw [show (decide (1000 < mt0.es.length) || decide (200000 < mt0.h.d.size)) = ba from hba] at hbig0
  have HB0 := Lib.hid hbig0
  have HBB := Lib.hid (And.intro hba hbb)
  clear hk1 hk2 hb0 e0 e1 hbig0 hba hbb
  cases ba
  rotate_left
  · go_enter Try.func4, Try.ntmps4
    go_wp2_with fail
    refine HB0.out.mono ?_
    rintro e w2 ⟨rfl, hb2⟩
    have B2 := Lib.hid (H.out.2.2.1.trans (hb2.mono H.out.2.2.1.size)); clear hb2
    go_wp2_with fail
    go_ret
    exact ⟨rfl, B2.out⟩
  go_enter Try.func4, Try.ntmps4
  go_wp2_with fail
  refine HB0.out.mono ?_
  rintro e w2 ⟨rfl, hb2⟩
  have hld2 := (H.out.2.1.below hb2 H.out.2.1.lt).load (P := Try.prog) (k := 23) rfl
  have hbig1 := big_any mt1 w.heap.size w2 (H.out.2.2.2.2.below hb2 H.out.2.2.1.size)
  rw [show (decide (1000 < mt1.es.length) || decide (200000 < mt1.h.d.size)) = bb from HBB.out.2] at hbig1
  have HB1 := Lib.hid hbig1
  have H2 := Lib.hid (And.intro (H.out.1.below hb2 H.out.1.lt) (And.intro (H.out.2.1.below hb2 H.out.2.1.lt) (And.intro (H.out.2.2.1.trans (hb2.mono H.out.2.2.1.size)) (And.intro (H.out.2.2.2.1.below hb2 H.out.2.2.1.size) (H.out.2.2.2.2.below hb2 H.out.2.2.1.size)))))
  clear hb2 hbig1
  cases bb
  rotate_left
  · go_wp2_with fail
    refine HB1.out.mono ?_
    rintro e w3 ⟨rfl, hb3⟩
    have B3 := Lib.hid (H2.out.2.2.1.trans (hb3.mono H2.out.2.2.1.size)); clear hb3
    go_wp2_with fail
    go_ret
    exact ⟨rfl, B3.out⟩
  go_wp2_with fail
  refine HB1.out.mono ?_
  rintro e w3 ⟨rfl, hb3⟩
  have H3 := Lib.hid (And.intro (H2.out.1.below hb3 H2.out.1.lt) (And.intro (H2.out.2.1.below hb3 H2.out.2.1.lt) (And.intro (H2.out.2.2.1.trans (hb3.mono H2.out.2.2.1.size)) (And.intro (H2.out.2.2.2.1.below hb3 H2.out.2.2.1.size) (H2.out.2.2.2.2.below hb3 H2.out.2.2.1.size)))))
  have HN := Lib.hid (show mt0.es.length ≤ 1000000 by have := HBB.out.1; simp [bigB] at this; omega)
  obtain ⟨s, hs⟩ : ∃ s, decide (mt0.m = mt1.m) = s := ⟨_, rfl⟩
  have HS := Lib.hid hs
  clear hb3 hld1 hld2 hs hw1
  go_wp2_with fail
  refine wp_region_mono' (by kernel_rfl) (by kernel_rfl) ?_
  iterate 17 (refine ex_det ?_; apply Exists.intro)
  refine ex_free (WithP mt0) ?_
  iterate 4 (refine ex_det ?_; apply Exists.intro)
  refine ex_nil ⟨?pers, ?walk⟩
  case' walk =>
    apply mwalk_det (by kernel_rfl) (by intro t w h; cases h; exact trivial) rfl
    · intro W hW hF
      go_wp2_with fail
      refine (awake_any W).mono ?_
      rintro e w9 ⟨rfl, hb⟩
      have HB := Lib.hid hb; clear hb
      go_wp2_with fail
      exact ⟨rfl, _, rfl, hW.trans (HB.out.mono hW.size), HB.out, rfl⟩
    simp only [Act.put, List.setIfInBounds_toArray, List.set_cons_zero, List.set_cons_succ]
    iterate 1
      apply mwalk_det (by kernel_rfl) (by intro t w h; cases h; exact trivial) rfl
      · intro W hW hF
        go_wp2_with fail
        exact ⟨rfl, _, rfl, hW, Below.refl _ _, rfl⟩
      simp only [Act.put, List.setIfInBounds_toArray, List.set_cons_zero, List.set_cons_succ]
    apply mwalk_det (by kernel_rfl) (by intro t w h; cases h; exact trivial) rfl
    · intro W hW hF
      have hld := (H3.out.1.below hW H3.out.1.lt).load (P := Try.prog) (k := 23) rfl
      go_wp2_with fail
      exact ⟨rfl, _, rfl, hW, Below.refl _ _, rfl⟩
    simp only [Act.put, List.setIfInBounds_toArray, List.set_cons_zero, List.set_cons_succ]
    apply mwalk_det (by kernel_rfl) (by intro t w h; cases h; exact trivial) rfl
    · intro W hW hF
      have hld := (H3.out.2.1.below hW H3.out.2.1.lt).load (P := Try.prog) (k := 23) rfl
      go_wp2_with fail
      exact ⟨rfl, _, rfl, hW, Below.refl _ _, rfl⟩
    simp only [Act.put, List.setIfInBounds_toArray, List.set_cons_zero, List.set_cons_succ]
    apply mwalk_det (by kernel_rfl) (by intro t w h; cases h; exact trivial) rfl
    · intro W hW hF
      go_wp2_with fail
      refine (bagSame_any mt0 mt1 w.heap.size W (H3.out.2.2.2.1.below hW H3.out.2.2.1.size) (H3.out.2.2.2.2.below hW H3.out.2.2.1.size) (Nat.le_trans H3.out.2.2.1.size hW.size) HN.out).mono ?_
      rintro e w9 ⟨rfl, hb⟩
      rw [HS.out]
      have HB := Lib.hid hb; clear hb
      go_wp2_with fail
      exact ⟨rfl, _, rfl, hW.trans (HB.out.mono hW.size), HB.out, rfl⟩
    simp only [Act.put, List.setIfInBounds_toArray, List.set_cons_zero, List.set_cons_succ]
    apply mwalk_det (by kernel_rfl) (by intro t w h; cases h; exact trivial) rfl
    · intro W hW hF
      have hld := (H3.out.1.below hW H3.out.1.lt).load (P := Try.prog) (k := 23) rfl
      go_wp2_with fail
      exact ⟨rfl, _, rfl, hW, Below.refl _ _, rfl⟩
    simp only [Act.put, List.setIfInBounds_toArray, List.set_cons_zero, List.set_cons_succ]
    apply mwalk_det (by kernel_rfl) (by intro t w h; cases h; exact trivial) rfl
    · intro W hW hF
      have hld := (H3.out.2.1.below hW H3.out.2.1.lt).load (P := Try.prog) (k := 23) rfl
      go_wp2_with fail
      exact ⟨rfl, _, rfl, hW, Below.refl _ _, rfl⟩
    simp only [Act.put, List.setIfInBounds_toArray, List.set_cons_zero, List.set_cons_succ]
    apply mwalk_det (by kernel_rfl) (by intro t w h; cases h; exact trivial) rfl
    · intro W hW hF
      go_wp2_with fail
      refine (refSame_any mt0 mt1 w.heap.size W (H3.out.2.2.2.1.below hW H3.out.2.2.1.size) (H3.out.2.2.2.2.below hW H3.out.2.2.1.size) (Nat.le_trans H3.out.2.2.1.size hW.size) HN.out).mono ?_
      rintro e w9 ⟨rfl, hb⟩
      rw [HS.out]
      have HB := Lib.hid hb; clear hb
      go_wp2_with fail
      exact ⟨rfl, _, rfl, hW.trans (HB.out.mono hW.size), HB.out, rfl⟩
    simp only [Act.put, List.setIfInBounds_toArray, List.set_cons_zero, List.set_cons_succ]
    iterate 3
      apply mwalk_det (by kernel_rfl) (by intro t w h; cases h; exact trivial) rfl
      · intro W hW hF
        go_wp2_with fail
        exact ⟨rfl, _, rfl, hW, Below.refl _ _, rfl⟩
      simp only [Act.put, List.setIfInBounds_toArray, List.set_cons_zero, List.set_cons_succ]
    apply mwalk_det (by kernel_rfl) (by intro t w h; cases h; exact trivial) rfl
    · intro W hW hF
      have hld := (H3.out.1.below hW H3.out.1.lt).load (P := Try.prog) (k := 23) rfl
      go_wp2_with fail
      exact ⟨rfl, _, rfl, hW, Below.refl _ _, rfl⟩
    simp only [Act.put, List.setIfInBounds_toArray, List.set_cons_zero, List.set_cons_succ]
    apply mwalk_det (by kernel_rfl) (by intro t w h; cases h; exact trivial) rfl
    · intro W hW hF
      have hld := (H3.out.1.below hW H3.out.1.lt).load (P := Try.prog) (k := 23) rfl
      go_wp2_with fail
      exact ⟨rfl, _, rfl, hW, Below.refl _ _, rfl⟩
    simp only [Act.put, List.setIfInBounds_toArray, List.set_cons_zero, List.set_cons_succ]
    apply mwalk_det (by kernel_rfl) (by intro t w h; cases h; exact trivial) rfl
    · intro W hW hF
      go_wp2_with fail
      refine (bagSame_any mt0 mt0 w.heap.size W (H3.out.2.2.2.1.below hW H3.out.2.2.1.size) (H3.out.2.2.2.1.below hW H3.out.2.2.1.size) (Nat.le_trans H3.out.2.2.1.size hW.size) HN.out).mono ?_
      rintro e w9 ⟨rfl, hb⟩
      rw [decide_eq_true (rfl : mt0.m = mt0.m)]
      have HB := Lib.hid hb; clear hb
      go_wp2_with fail
      exact ⟨rfl, _, rfl, hW.trans (HB.out.mono hW.size), HB.out, rfl⟩
    simp only [Act.put, List.setIfInBounds_toArray, List.set_cons_zero, List.set_cons_succ]
    iterate 2
      apply mwalk_det (by kernel_rfl) (by intro t w h; cases h; exact trivial) rfl
      · intro W hW hF
        go_wp2_with fail
        exact ⟨rfl, _, rfl, hW, Below.refl _ _, rfl⟩
      simp only [Act.put, List.setIfInBounds_toArray, List.set_cons_zero, List.set_cons_succ]
    apply mwalk_det (by kernel_rfl) (by intro t w h; cases h; exact trivial) rfl
    · intro W hW hF
      have hld := (H3.out.1.below hW H3.out.1.lt).load (P := Try.prog) (k := 23) rfl
      go_wp2_with fail
      exact ⟨rfl, _, rfl, hW, Below.refl _ _, rfl⟩
    simp only [Act.put, List.setIfInBounds_toArray, List.set_cons_zero, List.set_cons_succ]
    refine ⟨fun W hW hF => ?_, fun v28 => ?_⟩
    · go_wp2_with fail
      refine (refOwn_any mt0 w.heap.size W (H3.out.2.2.2.1.below hW H3.out.2.2.1.size) (Nat.le_trans H3.out.2.2.1.size hW.size) HN.out).mono ?_
      rintro e w9 ⟨v9, rfl, ho, hb⟩
      have HB := Lib.hid (And.intro hb ho); clear hb ho
      go_wp2_with fail
      exact ⟨rfl, _, rfl, hW.trans (HB.out.1.mono hW.size), HB.out.1, v9, _, rfl, HB.out.2⟩
    simp only [Act.put, List.setIfInBounds_toArray, List.set_cons_zero, List.set_cons_succ]
    apply mwalk_det (by kernel_rfl) (by intro t w h; cases h; exact trivial) rfl
    · intro W hW hF
      have hld := (H3.out.1.below hW H3.out.1.lt).load (P := Try.prog) (k := 23) rfl
      go_wp2_with fail
      exact ⟨rfl, _, rfl, hW, Below.refl _ _, rfl⟩
    simp only [Act.put, List.setIfInBounds_toArray, List.set_cons_zero, List.set_cons_succ]
    apply mwalk_det (by kernel_rfl) (by intro t w h; cases h; exact trivial) rfl
    · intro W hW hF
      have f28 := hF 28 (of_decide_eq_true (by kernel_rfl))
      obtain ⟨v9, base, rfl, ho⟩ := f28
      have HO := Lib.hid ho; clear ho
      go_wp2_with fail
      refine (bagSame_any (mt0.with v9) mt0 W.heap.size W (EsOwn.at (es := mt0.es) HO.out) (EsAt.more (H3.out.2.2.2.1.below hW H3.out.2.2.1.size) (Nat.le_trans H3.out.2.2.1.size hW.size)) (Nat.le_refl _) HN.out).mono ?_
      rintro e w9 ⟨rfl, hb⟩
      rw [decide_eq_true (show (mt0.with v9).m = mt0.m from rfl)]
      have HB := Lib.hid hb; clear hb
      go_wp2_with fail
      exact ⟨rfl, _, rfl, hW.trans (HB.out.mono hW.size), HB.out, rfl⟩
    simp only [Act.put, List.setIfInBounds_toArray, List.set_cons_zero, List.set_cons_succ]
    iterate 2
      apply mwalk_det (by kernel_rfl) (by intro t w h; cases h; exact trivial) rfl
      · intro W hW hF
        go_wp2_with fail
        exact ⟨rfl, _, rfl, hW, Below.refl _ _, rfl⟩
      simp only [Act.put, List.setIfInBounds_toArray, List.set_cons_zero, List.set_cons_succ]
    intro W hW hF
    have HW := Lib.hid (H3.out.2.2.1.trans (hW.mono H3.out.2.2.1.size))
    clear hW
    go_wp2_with fail
    go_ret
    exact ⟨rfl, HW.out⟩
  case pers => exact ⟨pers_isV _, pers_isV _, pers_isV _, pers_isV _, pers_isV _, pers_isV _, pers_isV _, pers_isV _, pers_isV _, pers_isV _, pers_isV _, pers_isV _, pers_isV _, pers_isV _, pers_isV _, pers_isV _, pers_isV _, pers_with _, pers_isV _, pers_isV _, pers_isV _, pers_isV _, trivial⟩

end Go.Proofs.Ytbdbimnfknaakaa
namespace Go.Proofs.Ytbdbimnfknaakaa.bagSames
open Go.ChangeShapes Go.WideShapes Go.ChangeAt Go.RowKit
open Go.ChangeMaps (open_string shut_string)

set_option linter.unusedVariables false in
set_option maxRecDepth 100000 in
theorem lifted (os : Os) (started : os.Started) (H : Type) (enc : TypeId × Value → H) :
    ReturnsInHanded {} Try.checked os 4 .any (Rows.bagSamesSpec.pre6 enc Try.prog Try.f4 Rows.bagSamesRow.domain false) (Rows.bagSamesSpec.post enc Try.prog Try.f4 false true false false) := by
  refine returnsInHanded_of_change (C := Try.checked) own started (by kernel_rfl) Try.func4
    (ChangeSpec.witness6 (enc := enc) (C := Try.checked) false ⟨#[], #[.agg #[.int .i64 0, .int .i64 0, .int .i64 0, .int .i64 0, .int .i64 0, .int .i64 0, .int .i64 0, .int .i64 0, .slice none 0 0, .int .i64 0, .int .i64 0, .string ByteArray.empty, .int .i64 0, .int .i64 0, .int .i64 0, .int .i64 0, .int .i64 0, .int .i64 0, .int .i64 0, .int .i64 0, .int .i64 0, .int .i64 0, .bool false], .agg #[.int .i64 0, .int .i64 0, .int .i64 0, .int .i64 0, .int .i64 0, .int .i64 0, .int .i64 0, .int .i64 0, .slice none 0 0, .int .i64 0, .int .i64 0, .string ByteArray.empty, .int .i64 0, .int .i64 0, .int .i64 0, .int .i64 0, .int .i64 0, .int .i64 0, .int .i64 0, .int .i64 0, .int .i64 0, .int .i64 0, .bool false]], []⟩ 8 (by kernel_rfl) (by kernel_rfl) (by kernel_rfl) (by kernel_rfl)) ?_
  intro W base args ds gs before hval0 hW hcnd _
  have hval : ∀ (j : Nat) t v, Try.f4.params[j]? = some t → args[j]? = some v → Value.okWide Try.prog W .any base t v := hval0
  have hW' := hW
  obtain ⟨p, q, hA0, hV, rfl, hfz, hnd⟩ := hW
  have hA : DataW.TrodAll enc Try.prog W 0 (fun _ => true) true Try.f4.params.toList args.toList ds p := hA0
  rw [Try.params4] at hA hval
  obtain ⟨v0, vs0, d0, ds0, p0, q0, hargs, rfl, rfl, h0, r'0⟩ := trodAll_cons hA
  obtain ⟨v1, vs1, d1, ds1, p1, q1, rfl, rfl, rfl, h1, r'1⟩ := trodAll_cons r'0
  obtain ⟨rfl, rfl, rfl⟩ := trodAll_nil r'1
  obtain rfl : args = #[v0, v1] := by cases args; simp_all
  obtain ⟨rfl, rfl⟩ := trodVars_none hV
  have k0 := h0
  have lt0 : ∀ x ∈ p0, x.block < W.heap.size := by obtain ⟨m, hm⟩ := k0; exact DataW.trod_lt m _ _ _ hm
  obtain ⟨cs0, hv0, hs0⟩ := okWide_struct Try.underlying47 (hval 0 47 v0 rfl rfl)
  obtain ⟨mt0, rfl, e0⟩ := openMsg hv0 hs0 h0
  have k1 := h1
  have lt1 : ∀ x ∈ p1, x.block < W.heap.size := by obtain ⟨m, hm⟩ := k1; exact DataW.trod_lt m _ _ _ hm
  obtain ⟨cs1, hv1, hs1⟩ := okWide_struct Try.underlying47 (hval 1 47 v1 rfl rfl)
  obtain ⟨mt1, rfl, e1⟩ := openMsg hv1 hs1 h1
  clear hA0 hval0
  refine (bagSames_walk mt0 mt1 W e0 e1).mono fun e W' ⟨he, bel⟩ => ?_
  subst he
  exact ⟨_, rfl, _, _, _, [], _, [], hW', trodAll_mk1 (shut_bool Try.underlying4 _), (trodAll_cons_mk (Below.trod laidOut (by kernel_rfl) (of_decide_eq_true (by kernel_rfl)) k0 bel lt0) (trodAll_cons_mk (Below.trod laidOut (by kernel_rfl) (of_decide_eq_true (by kernel_rfl)) k1 bel lt1) trodAll_mk0)), rfl, bel.frame _, fun h => by cases h⟩

theorem over : Rows.bagSamesRow.holds Try.pinned (OpenSpec.ofChange Rows.bagSamesSpec) :=
  OpenClaim.holds_of_wide 4 Try.f4 rfl rfl rfl rfl rfl rfl rfl ⟨rfl, rfl, rfl, rfl, rfl⟩ rfl rfl rfl rfl rfl (by kernel_rfl) Try.func4 (by kernel_rfl)
    (of_decide_eq_true (by kernel_rfl)) (by unfold Func.isWrapper; first | (rw [if_pos (by decide +kernel)]; kernel_rfl) | (rw [if_neg (by decide +kernel)]; exact ⟨rfl, rfl⟩))
    (fun os started H enc _ => lifted os started H enc)

/-- The statement. -/
theorem proved : Rows.BagSamesSaid := over
#print axioms proved
end Go.Proofs.Ytbdbimnfknaakaa.bagSames
