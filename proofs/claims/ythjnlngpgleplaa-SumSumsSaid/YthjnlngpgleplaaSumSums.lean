/- SumSums: bytes have just this sum, also behind others: the law returns true at every input, and leaves what came in as it was. No condition. -/
import Derived.Test.YthjnlngpgleplaaSums
import Derived.Test.YthjnlngpgleplaaKeep
import Derived.Test.YthjnlngpgleplaaOpen
namespace Go.Proofs.Ythjnlngpgleplaa
open Go.RowKit

set_option linter.unusedVariables false in
set_option maxHeartbeats 800000 in
theorem sumSums_walk (a0 : Option Addr) (n0 c0 : Nat) (l0 : List UInt8) (x1 : Int) (w : World) (r0 : Rd w w.heap.size a0 (bv l0)) (e0 : l0.length = n0) (b0 : n0 ≤ c0) (m0 : c0 ≤ maxLen) (f1 : (Lit.int .i64 x1).wf = true) :
    Calls Try.prog 3 #[.slice a0 n0 c0, .int .i64 x1] w fun e w' => e = .returned (.bool true) ∧ Below w.heap.size w w' := by
  have hwf := bounds_i64 f1
  by_cases hlong : 65536 < n0
  · go_enter Try.func3, Try.ntmps3
    unfold maxLen at m0
    go_wp2_with fail
    go_ret
    exact ⟨rfl, Below.refl _ _⟩
  have hn : n0 ≤ 65536 := by omega
  clear hlong m0
  have H0 := Lib.hid (And.intro r0 e0)
  clear r0 e0
  by_cases hx : 0 ≤ x1 ∧ x1 ≤ 4294967295
  · obtain ⟨s, rfl⟩ := Int.eq_ofNat_of_zero_le hx.1
    have hs : s < 4294967296 := by omega
    clear hx hwf f1
    go_enter Try.func3, Try.ntmps3
    go_wp2_with fail
    refine (lent_any a0 n0 c0 l0 w H0.out.1 H0.out.2 (by omega)).mono ?_
    rintro e w1 ⟨g, cap, rfl, hx1, hb1⟩
    have Hx := Lib.hid hx1; clear hx1
    have HX := Lib.hid (Rd.front (Rd.of_own Hx.out) _ _ rfl)
    go_wp2_with fail
    refine (more_ok s _ n0 cap _ l0 w1 hs HX.out H0.out.2 (by omega)).mono ?_
    rintro e w' ⟨rfl, rfl⟩
    go_wp2_with fail
    refine (refMore_ok s _ n0 c0 _ l0 w1 hs (H0.out.1.below hb1 (Nat.le_refl _)) H0.out.2 (by omega)).mono ?_
    rintro e w' ⟨rfl, rfl⟩
    go_wp2_with fail
    refine (sums_any w1).mono ?_
    rintro e w2 ⟨rfl, hb2⟩
    go_wp2_with fail
    refine (sum_any _ n0 cap _ l0 w2 (HX.out.below hb2 (Nat.le_refl _)) H0.out.2 (by omega)).mono ?_
    rintro e w' ⟨rfl, rfl⟩
    go_wp2_with fail
    have hb02 := hb1.trans (hb2.mono hb1.size)
    refine (refSum_any _ n0 c0 _ l0 w2 (H0.out.1.below hb02 (Nat.le_refl _)) H0.out.2 (by omega)).mono ?_
    rintro e w' ⟨rfl, rfl⟩
    go_wp2_with fail
    refine (kept_any _ g n0 cap c0 _ a0 l0 w2 (by omega) (own_below Hx.out hb2 (Nat.le_refl _)) (H0.out.1.below hb02 (Nat.le_refl _)) H0.out.2).mono ?_
    rintro e w' ⟨rfl, rfl⟩
    go_wp2_with fail
    go_ret
    exact ⟨rfl, hb02⟩
  · have hx' : x1 < 0 ∨ 4294967295 < x1 := by omega
    clear hx
    have HN := Lib.hid hx'; clear hx'
    go_enter Try.func3, Try.ntmps3
    go_wp2_with fail
    refine (lent_any a0 n0 c0 l0 w H0.out.1 H0.out.2 (by omega)).mono ?_
    rintro e w1 ⟨g, cap, rfl, hx1, hb1⟩
    have Hx := Lib.hid hx1; clear hx1
    have HX := Lib.hid (Rd.front (Rd.of_own Hx.out) _ _ rfl)
    go_wp2_with fail
    refine (more_no x1 _ n0 cap w1 HN.out).mono ?_
    rintro e w' ⟨rfl, rfl⟩
    go_wp2_with fail
    refine (refMore_no x1 _ n0 c0 w1 HN.out).mono ?_
    rintro e w' ⟨rfl, rfl⟩
    go_wp2_with fail
    refine (sums_any w1).mono ?_
    rintro e w2 ⟨rfl, hb2⟩
    go_wp2_with fail
    refine (sum_any _ n0 cap _ l0 w2 (HX.out.below hb2 (Nat.le_refl _)) H0.out.2 (by omega)).mono ?_
    rintro e w' ⟨rfl, rfl⟩
    go_wp2_with fail
    have hb02 := hb1.trans (hb2.mono hb1.size)
    refine (refSum_any _ n0 c0 _ l0 w2 (H0.out.1.below hb02 (Nat.le_refl _)) H0.out.2 (by omega)).mono ?_
    rintro e w' ⟨rfl, rfl⟩
    go_wp2_with fail
    refine (kept_any _ g n0 cap c0 _ a0 l0 w2 (by omega) (own_below Hx.out hb2 (Nat.le_refl _)) (H0.out.1.below hb02 (Nat.le_refl _)) H0.out.2).mono ?_
    rintro e w' ⟨rfl, rfl⟩
    go_wp2_with fail
    go_ret
    exact ⟨rfl, hb02⟩

end Go.Proofs.Ythjnlngpgleplaa
namespace Go.Proofs.Ythjnlngpgleplaa.sumSums
open Go.ChangeShapes Go.WideShapes Go.ChangeAt Go.RowKit
open Go.ChangeMaps (open_string shut_string)

set_option linter.unusedVariables false in
set_option maxRecDepth 100000 in
theorem lifted (os : Os) (started : os.Started) (H : Type) (enc : TypeId × Value → H) :
    ReturnsInHanded {} Try.checked os 3 .any (Rows.sumSumsSpec.pre6 enc Try.prog Try.f3 Rows.sumSumsRow.domain false) (Rows.sumSumsSpec.post enc Try.prog Try.f3 false true false false) := by
  refine returnsInHanded_of_change (C := Try.checked) own started (by kernel_rfl) Try.func3
    (ChangeSpec.witness6 (enc := enc) (C := Try.checked) false ⟨#[], #[.slice none 0 0, .int .i64 0], []⟩ 8 (by kernel_rfl) (by kernel_rfl) (by kernel_rfl) (by kernel_rfl)) ?_
  intro W base args ds gs before hval0 hW hcnd _
  have hval : ∀ (j : Nat) t v, Try.f3.params[j]? = some t → args[j]? = some v → Value.okWide Try.prog W .any base t v := hval0
  have hW' := hW
  obtain ⟨p, q, hA0, hV, rfl, hfz, hnd⟩ := hW
  have hA : DataW.TrodAll enc Try.prog W 0 (fun _ => true) true Try.f3.params.toList args.toList ds p := hA0
  rw [Try.params3] at hA hval
  obtain ⟨v0, vs0, d0, ds0, p0, q0, hargs, rfl, rfl, h0, r'0⟩ := trodAll_cons hA
  obtain ⟨v1, vs1, d1, ds1, p1, q1, rfl, rfl, rfl, h1, r'1⟩ := trodAll_cons r'0
  obtain ⟨rfl, rfl, rfl⟩ := trodAll_nil r'1
  obtain rfl : args = #[v0, v1] := by cases args; simp_all
  obtain ⟨rfl, rfl⟩ := trodVars_none hV
  have k0 := h0
  have lt0 : ∀ x ∈ p0, x.block < W.heap.size := by obtain ⟨m, hm⟩ := k0; exact DataW.trod_lt m _ _ _ hm
  obtain ⟨a0, n0, c0, rfl⟩ := okWide_slice Try.underlying22 (hval 0 22 v0 rfl rfl)
  obtain ⟨l0, r0, e0, b0, m0⟩ := openBytes Try.underlying22 Try.underlying5 (by kernel_rfl) h0
  have k1 := h1
  have lt1 : ∀ x ∈ p1, x.block < W.heap.size := by obtain ⟨m, hm⟩ := k1; exact DataW.trod_lt m _ _ _ hm
  obtain ⟨x1, rfl, rfl, rfl, f1⟩ := open_int Try.underlying3 (hval 1 3 v1 rfl rfl) h1
  clear hA0 hval0
  refine (sumSums_walk a0 n0 c0 l0 x1 W r0 e0 b0 m0 f1).mono fun e W' ⟨he, bel⟩ => ?_
  subst he
  exact ⟨_, rfl, _, _, _, [], _, [], hW', trodAll_mk1 (shut_bool Try.underlying4 _), (trodAll_cons_mk (Below.trod laidOut (by kernel_rfl) (of_decide_eq_true (by kernel_rfl)) k0 bel lt0) (trodAll_cons_mk (Below.trod laidOut (by kernel_rfl) (of_decide_eq_true (by kernel_rfl)) k1 bel lt1) trodAll_mk0)), rfl, bel.frame _, fun h => by cases h⟩

theorem over : Rows.sumSumsRow.holds Try.pinned (OpenSpec.ofChange Rows.sumSumsSpec) :=
  OpenClaim.holds_of_wide 3 Try.f3 rfl rfl rfl rfl rfl rfl rfl ⟨rfl, rfl, rfl, rfl, rfl⟩ rfl rfl rfl rfl rfl (by kernel_rfl) Try.func3 (by kernel_rfl)
    (of_decide_eq_true (by kernel_rfl)) (by unfold Func.isWrapper; first | (rw [if_pos (by decide +kernel)]; kernel_rfl) | (rw [if_neg (by decide +kernel)]; exact ⟨rfl, rfl⟩))
    (fun os started H enc _ => lifted os started H enc)

/-- The statement. -/
theorem proved : Rows.SumSumsSaid := over
#print axioms proved
end Go.Proofs.Ythjnlngpgleplaa.sumSums
