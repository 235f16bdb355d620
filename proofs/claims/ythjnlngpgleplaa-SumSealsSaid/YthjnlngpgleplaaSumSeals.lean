/- SumSeals: bytes are sealed just so, and opened.. No condition. -/
import Derived.Test.YthjnlngpgleplaaSeals
import Derived.Test.YthjnlngpgleplaaKeep
import Derived.Test.YthjnlngpgleplaaOpen
namespace Go.Proofs.Ythjnlngpgleplaa
open Go.RowKit

set_option linter.unusedVariables false in
set_option maxRecDepth 40000 in
set_option maxHeartbeats 800000 in
theorem sumSeals_walk (a0 : Option Addr) (n0 c0 : Nat) (l0 : List UInt8) (w : World) (r0 : Rd w w.heap.size a0 (bv l0)) (e0 : l0.length = n0) (b0 : n0 ≤ c0) (m0 : c0 ≤ maxLen) :
    Calls Try.prog 6 #[.slice a0 n0 c0] w fun e w' => e = .returned (.bool true) ∧ Below w.heap.size w w' := by
  have z0 : n0 ≤ 9223372036854775807 := by unfold maxLen at m0; omega
  by_cases hlong : 65536 < n0
  · go_enter Try.func6, Try.ntmps6
    go_wp2_with fail
    go_ret
    exact ⟨rfl, Below.refl _ _⟩
  have hn : n0 ≤ 65536 := by omega
  clear hlong m0
  have H0 := Lib.hid (And.intro r0 e0); clear r0 e0
  go_enter Try.func6, Try.ntmps6
  go_wp2_with fail
  refine (lent_any a0 n0 c0 l0 w H0.out.1 H0.out.2 (by omega)).mono ?_
  rintro e w1 ⟨g, cap, rfl, hx1, hb1⟩
  have Hx := Lib.hid hx1; clear hx1
  have B1 := Lib.hid hb1; clear hb1
  go_wp2_with fail
  refine (seal_any _ n0 cap l0 w1 (Rd.front (Rd.of_own Hx.out) _ _ rfl) H0.out.2 (by omega)).mono ?_
  rintro e w2 ⟨v, rfl, hown, hb2⟩
  have Hx2 := Lib.hid (own_below Hx.out hb2 (Nat.le_refl _))
  obtain ⟨A2, c2, rfl, hr2, hl2, hc2, hm2⟩ := own_rd hown
  have R2 := Lib.hid (And.intro hr2 (And.intro hl2 (And.intro hc2 (And.intro hm2 (B1.out.trans (hb2.mono B1.out.size)))))); clear hr2 hb2 hown hl2 hc2 hm2
  have hcvA' : ∀ W, Below w2.heap.size w2 W → Sem.run Try.prog (convert 22 9 (.slice A2 (n0 + 4) c2)) W = .ok (.string ⟨(sealB l0).toArray⟩) W := fun W hb =>
    conv_rd (P := Try.prog) W 22 9 5 Try.underlying22 Try.underlying5 Try.underlying9 _ A2 _ c2 _ (R2.out.1.below hb (Nat.le_refl _)) R2.out.2.1
  have hcvA := Lib.hid hcvA'; clear hcvA'
  have hkept : ∀ W, Below w2.heap.size w2 W → Calls Try.prog 16 #[.slice (some ⟨g, 0, none⟩) n0 cap, .slice a0 n0 c0] W fun e w' => e = .returned (.bool true) ∧ W = w' := fun W hb =>
    kept_any w.heap.size g n0 cap c0 w.heap.size a0 l0 W (by omega) (own_below Hx2.out hb (Nat.le_refl _)) (H0.out.1.below (R2.out.2.2.2.2.trans (hb.mono R2.out.2.2.2.2.size)) (Nat.le_refl _)) H0.out.2
  have HK := Lib.hid hkept; clear hkept
  go_wp2_with fail
  refine wp_region_mono' (by kernel_rfl) (by kernel_rfl) ?_
  iterate 3 (refine ex_det ?_; apply Exists.intro)
  refine ex_free (Bytes (n0 + 4) (sealB l0)) ?_
  iterate 8 (refine ex_det ?_; apply Exists.intro)
  refine ex_nil ⟨?pers, ?walk⟩
  case walk =>
    iterate 1
      apply mwalk_det (by kernel_rfl) (by intro t w h; cases h; exact trivial) rfl
      · intro W hW hF
        go_wp2_with fail
        exact ⟨rfl, _, rfl, hW, Below.refl _ _, rfl⟩
      simp only [Act.put, List.setIfInBounds_toArray, List.set_cons_zero, List.set_cons_succ]
    apply mwalk_det (by kernel_rfl) (by intro t w h; cases h; exact trivial) rfl
    · intro W hW hF
      have hcv := hcvA.out W hW
      go_wp2_with fail
      exact ⟨rfl, _, rfl, hW, Below.refl _ _, rfl⟩
    simp only [Act.put, List.setIfInBounds_toArray, List.set_cons_zero, List.set_cons_succ]
    iterate 1
      apply mwalk_det (by kernel_rfl) (by intro t w h; cases h; exact trivial) rfl
      · intro W hW hF
        go_wp2_with fail
        exact ⟨rfl, _, rfl, hW, Below.refl _ _, rfl⟩
      simp only [Act.put, List.setIfInBounds_toArray, List.set_cons_zero, List.set_cons_succ]
    refine ⟨fun W hW hF => ?_, fun v17 => ?_⟩
    · go_wp2_with fail
      refine (refSeal_any a0 n0 c0 l0 W (((H0.out.1.below R2.out.2.2.2.2 (Nat.le_refl _)).more R2.out.2.2.2.2.size).below hW (Nat.le_refl _) |>.more hW.size) H0.out.2 (by omega)).mono ?_
      rintro e w9 ⟨v, rfl, hown, hb⟩
      obtain ⟨A9, c9, rfl, hr9, _⟩ := own_rd hown
      clear hown
      go_wp2_with fail
      exact ⟨rfl, _, rfl, hW.trans (hb.mono hW.size), hb, A9, c9, rfl, _, hr9, Below.refl _ _⟩
    simp only [Act.put, List.setIfInBounds_toArray, List.set_cons_zero, List.set_cons_succ]
    apply mwalk_det (by kernel_rfl) (by intro t w h; cases h; exact trivial) rfl
    · intro W hW hF
      have f17 := hF 17 (of_decide_eq_true (by kernel_rfl))
      obtain ⟨A9, c9, rfl, w9, hr9, hb9⟩ := f17
      have hcv := conv_rd (P := Try.prog) W 22 9 5 Try.underlying22 Try.underlying5 Try.underlying9 _ A9 _ c9 _ (hr9.below hb9 (Nat.le_refl _)) R2.out.2.1
      go_wp2_with fail
      exact ⟨rfl, _, rfl, hW, Below.refl _ _, rfl⟩
    simp only [Act.put, List.setIfInBounds_toArray, List.set_cons_zero, List.set_cons_succ]
    iterate 4
      apply mwalk_det (by kernel_rfl) (by intro t w h; cases h; exact trivial) rfl
      · intro W hW hF
        go_wp2_with fail
        exact ⟨rfl, _, rfl, hW, Below.refl _ _, rfl⟩
      simp only [Act.put, List.setIfInBounds_toArray, List.set_cons_zero, List.set_cons_succ]
    apply mwalk_det (by kernel_rfl) (by intro t w h; cases h; exact trivial) rfl
    · intro W hW hF
      have hk := Lib.hid (HK.out W hW)
      go_wp2_with fail
      refine Calls.mono hk.out ?_
      rintro e w9 ⟨rfl, rfl⟩
      go_wp2_with fail
      exact ⟨rfl, _, rfl, hW, Below.refl _ _, rfl⟩
    simp only [Act.put, List.setIfInBounds_toArray, List.set_cons_zero, List.set_cons_succ]
    iterate 2
      apply mwalk_det (by kernel_rfl) (by intro t w h; cases h; exact trivial) rfl
      · intro W hW hF
        go_wp2_with fail
        exact ⟨rfl, _, rfl, hW, Below.refl _ _, rfl⟩
      simp only [Act.put, List.setIfInBounds_toArray, List.set_cons_zero, List.set_cons_succ]
    intro W hW hF
    have HW := Lib.hid hW
    clear hW
    go_wp2_with fail
    refine (open_seal A2 n0 c2 l0 _ (R2.out.1.below HW.out (Nat.le_refl _) |>.more HW.out.size) H0.out.2 R2.out.2.2.1 (by omega)).mono ?_
    rintro e w4 ⟨A4, c4, rfl, hr4, hc4, _, hb4⟩
    have B3 := Lib.hid (R2.out.2.2.2.2.trans (HW.out.mono R2.out.2.2.2.2.size))
    have R4 := Lib.hid (And.intro hr4 (B3.out.trans (hb4.mono B3.out.size))); clear hr4 hb4 hc4
    go_wp2_with fail
    refine (seals_any w4).mono ?_
    rintro e w5 ⟨rfl, hb5⟩
    have B5 := Lib.hid (R4.out.2.trans (hb5.mono R4.out.2.size))
    have hcv1 := conv_rd (P := Try.prog) w5 22 9 5 Try.underlying22 Try.underlying5 Try.underlying9 _ A4 n0 c4 l0 (R4.out.1.below hb5 (Nat.le_refl _)) H0.out.2
    have hcv2 := conv_rd (P := Try.prog) w5 22 9 5 Try.underlying22 Try.underlying5 Try.underlying9 _ a0 n0 c0 l0 (H0.out.1.below B5.out (Nat.le_refl _)) H0.out.2
    clear hb5
    go_wp2_with fail
    go_ret
    exact ⟨rfl, B5.out⟩
  case pers => exact ⟨pers_isV _, pers_isV _, pers_isV _, pers_bytes _ _, pers_isV _, pers_isV _, pers_isV _, pers_isV _, pers_isV _, pers_isV _, pers_isV _, pers_isV _, trivial⟩

end Go.Proofs.Ythjnlngpgleplaa
namespace Go.Proofs.Ythjnlngpgleplaa.sumSeals
open Go.ChangeShapes Go.WideShapes Go.ChangeAt Go.RowKit
open Go.ChangeMaps (open_string shut_string)

set_option linter.unusedVariables false in
set_option maxRecDepth 100000 in
theorem lifted (os : Os) (started : os.Started) (H : Type) (enc : TypeId × Value → H) :
    ReturnsInHanded {} Try.checked os 6 .any (Rows.sumSealsSpec.pre6 enc Try.prog Try.f6 Rows.sumSealsRow.domain false) (Rows.sumSealsSpec.post enc Try.prog Try.f6 false true false false) := by
  refine returnsInHanded_of_change (C := Try.checked) own started (by kernel_rfl) Try.func6
    (ChangeSpec.witness6 (enc := enc) (C := Try.checked) false ⟨#[], #[.slice none 0 0], []⟩ 8 (by kernel_rfl) (by kernel_rfl) (by kernel_rfl) (by kernel_rfl)) ?_
  intro W base args ds gs before hval0 hW hcnd _
  have hval : ∀ (j : Nat) t v, Try.f6.params[j]? = some t → args[j]? = some v → Value.okWide Try.prog W .any base t v := hval0
  have hW' := hW
  obtain ⟨p, q, hA0, hV, rfl, hfz, hnd⟩ := hW
  have hA : DataW.TrodAll enc Try.prog W 0 (fun _ => true) true Try.f6.params.toList args.toList ds p := hA0
  rw [Try.params6] at hA hval
  obtain ⟨v0, vs0, d0, ds0, p0, q0, hargs, rfl, rfl, h0, r'0⟩ := trodAll_cons hA
  obtain ⟨rfl, rfl, rfl⟩ := trodAll_nil r'0
  obtain rfl : args = #[v0] := by cases args; simp_all
  obtain ⟨rfl, rfl⟩ := trodVars_none hV
  have k0 := h0
  have lt0 : ∀ x ∈ p0, x.block < W.heap.size := by obtain ⟨m, hm⟩ := k0; exact DataW.trod_lt m _ _ _ hm
  obtain ⟨a0, n0, c0, rfl⟩ := okWide_slice Try.underlying22 (hval 0 22 v0 rfl rfl)
  obtain ⟨l0, r0, e0, b0, m0⟩ := openBytes Try.underlying22 Try.underlying5 (by kernel_rfl) h0
  clear hA0 hval0
  refine (sumSeals_walk a0 n0 c0 l0 W r0 e0 b0 m0).mono fun e W' ⟨he, bel⟩ => ?_
  subst he
  exact ⟨_, rfl, _, _, _, [], _, [], hW', trodAll_mk1 (shut_bool Try.underlying4 _), (trodAll_cons_mk (Below.trod laidOut (by kernel_rfl) (of_decide_eq_true (by kernel_rfl)) k0 bel lt0) trodAll_mk0), rfl, bel.frame _, fun h => by cases h⟩

theorem over : Rows.sumSealsRow.holds Try.pinned (OpenSpec.ofChange Rows.sumSealsSpec) :=
  OpenClaim.holds_of_wide 6 Try.f6 rfl rfl rfl rfl rfl rfl rfl ⟨rfl, rfl, rfl, rfl, rfl⟩ rfl rfl rfl rfl rfl (by kernel_rfl) Try.func6 (by kernel_rfl)
    (of_decide_eq_true (by kernel_rfl)) (by unfold Func.isWrapper; first | (rw [if_pos (by decide +kernel)]; kernel_rfl) | (rw [if_neg (by decide +kernel)]; exact ⟨rfl, rfl⟩))
    (fun os started H enc _ => lifted os started H enc)

/-- The statement. -/
theorem proved : Rows.SumSealsSaid := over
#print axioms proved
end Go.Proofs.Ythjnlngpgleplaa.sumSeals
