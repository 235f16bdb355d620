/- ViewsNext: Next tells the first view above whose primary is that node: the law returns true at every input. No condition. -/
import Derived.Test.YtlomahddominlaaMeet
import Derived.Test.YtlomahddominlaaOpen
namespace Go.Proofs.Ytlomahddominlaa
open Go.RowKit

set_option linter.unusedVariables false in
set_option maxHeartbeats 800000 in
theorem viewsNext_walk (x0 : Int) (x1 : Int) (x2 : Int) (w : World) (f0 : (Lit.int .i64 x0).wf = true) (f1 : (Lit.int .i64 x1).wf = true) (f2 : (Lit.int .i64 x2).wf = true) :
    Calls Try.prog 7 #[.int .i64 x0, .int .i64 x1, .int .i64 x2] w fun e w' => e = .returned (.bool true) ∧ Below w.heap.size w w' := by
  have hwf := bounds_i64 f1
  clear f0 f1 f2
  by_cases hneg : nextV x0 x1 x2 < 0
  · have hz := next_neg hneg
    clear hneg
    go_enter Try.func7, Try.ntmps7
    go_wp2_with fail
    refine (next_any x0 x1 x2 w).mono ?_
    rintro e w' ⟨rfl, rfl⟩
    go_wp2_with fail
    refine (asks_any w).mono ?_
    rintro e w1 ⟨rfl, hb⟩
    go_wp2_with fail
    go_ret
    exact ⟨rfl, hb⟩
  · obtain ⟨hn, hv, h1, h2, h3, h4, h5⟩ := next_spec (show 0 ≤ nextV x0 x1 x2 by omega)
    have hv' := view_iff.1 hv
    have hx7 : x0 ≤ 7 := by have := nodesB_of hn; omega
    have HP := Lib.hid (And.intro h4 h5); clear h4 h5 hn hv
    go_enter Try.func7, Try.ntmps7
    go_wp2_with fail
    refine (next_any x0 x1 x2 w).mono ?_
    rintro e w' ⟨rfl, rfl⟩
    generalize nextV x0 x1 x2 = z at hneg h1 h2 h3 HP ⊢
    have b0 : decide (z < 0) = false := by simp; omega
    have b1 : decide (z ≤ x1) = false := by simp; omega
    have b2 : decide (x0 < z - x1) = false := by simp; omega
    go_wp2_with fail
    refine (primary_any x0 z w).mono ?_
    rintro e w' ⟨rfl, rfl⟩
    have b3 : (prim x0 z != x2) = false := by have := HP.out.1; simp [this]
    go_wp2_with fail
    go_loop [8] (fun i => ∃ k : Int, x1 < k ∧ k ≤ z ∧ i = .int .i64 k) (fun i => (z - intOf i).toNat)
    case atStart => exact ⟨x1 + 1, by omega, by omega, rfl⟩
    case round =>
      obtain ⟨k, hk1, hk2, rfl⟩ := hrel
      by_cases hlt : k < z
      · go_wp2_with fail
        refine (primary_any x0 k w).mono ?_
        rintro e w' ⟨rfl, rfl⟩
        have b4 : (prim x0 k == x2) = false := by have := HP.out.2 k hk1 hlt; simp [this]
        go_wp2_with fail
        go_round
        case rel => exact ⟨k + 1, by omega, by omega, rfl⟩
        case measure => simp [intOf]; omega
      · go_wp2_with fail
        refine (asks_any w).mono ?_
        rintro e w1 ⟨rfl, hb⟩
        go_wp2_with fail
        go_ret
        exact ⟨rfl, hb⟩

end Go.Proofs.Ytlomahddominlaa
namespace Go.Proofs.Ytlomahddominlaa.viewsNext
open Go.ChangeShapes Go.WideShapes Go.ChangeAt Go.RowKit
open Go.ChangeMaps (open_string shut_string)

set_option linter.unusedVariables false in
set_option maxRecDepth 100000 in
theorem lifted (os : Os) (started : os.Started) (H : Type) (enc : TypeId × Value → H) :
    ReturnsInHanded {} Try.checked os 7 .any (Rows.viewsNextSpec.pre6 enc Try.prog Try.f7 Rows.viewsNextRow.domain false) (Rows.viewsNextSpec.post enc Try.prog Try.f7 false true false false) := by
  refine returnsInHanded_of_change (C := Try.checked) own started (by kernel_rfl) Try.func7
    (ChangeSpec.witness6 (enc := enc) (C := Try.checked) false ⟨#[], #[.int .i64 0, .int .i64 0, .int .i64 0], []⟩ 8 (by kernel_rfl) (by kernel_rfl) (by kernel_rfl) (by kernel_rfl)) ?_
  intro W base args ds gs before hval0 hW hcnd _
  have hval : ∀ (j : Nat) t v, Try.f7.params[j]? = some t → args[j]? = some v → Value.okWide Try.prog W .any base t v := hval0
  have hW' := hW
  obtain ⟨p, q, hA0, hV, rfl, hfz, hnd⟩ := hW
  have hA : DataW.TrodAll enc Try.prog W 0 (fun _ => true) true Try.f7.params.toList args.toList ds p := hA0
  rw [Try.params7] at hA hval
  obtain ⟨v0, vs0, d0, ds0, p0, q0, hargs, rfl, rfl, h0, r'0⟩ := trodAll_cons hA
  obtain ⟨v1, vs1, d1, ds1, p1, q1, rfl, rfl, rfl, h1, r'1⟩ := trodAll_cons r'0
  obtain ⟨v2, vs2, d2, ds2, p2, q2, rfl, rfl, rfl, h2, r'2⟩ := trodAll_cons r'1
  obtain ⟨rfl, rfl, rfl⟩ := trodAll_nil r'2
  obtain rfl : args = #[v0, v1, v2] := by cases args; simp_all
  obtain ⟨rfl, rfl⟩ := trodVars_none hV
  have k0 := h0
  have lt0 : ∀ x ∈ p0, x.block < W.heap.size := by obtain ⟨m, hm⟩ := k0; exact DataW.trod_lt m _ _ _ hm
  obtain ⟨x0, rfl, rfl, rfl, f0⟩ := open_int Try.underlying3 (hval 0 3 v0 rfl rfl) h0
  have k1 := h1
  have lt1 : ∀ x ∈ p1, x.block < W.heap.size := by obtain ⟨m, hm⟩ := k1; exact DataW.trod_lt m _ _ _ hm
  obtain ⟨x1, rfl, rfl, rfl, f1⟩ := open_int Try.underlying3 (hval 1 3 v1 rfl rfl) h1
  have k2 := h2
  have lt2 : ∀ x ∈ p2, x.block < W.heap.size := by obtain ⟨m, hm⟩ := k2; exact DataW.trod_lt m _ _ _ hm
  obtain ⟨x2, rfl, rfl, rfl, f2⟩ := open_int Try.underlying3 (hval 2 3 v2 rfl rfl) h2
  clear hA0 hval0
  refine (viewsNext_walk x0 x1 x2 W f0 f1 f2).mono fun e W' ⟨he, bel⟩ => ?_
  subst he
  exact ⟨_, rfl, _, _, _, [], _, [], hW', trodAll_mk1 (shut_bool Try.underlying4 _), (trodAll_cons_mk (Below.trod laidOut (by kernel_rfl) (of_decide_eq_true (by kernel_rfl)) k0 bel lt0) (trodAll_cons_mk (Below.trod laidOut (by kernel_rfl) (of_decide_eq_true (by kernel_rfl)) k1 bel lt1) (trodAll_cons_mk (Below.trod laidOut (by kernel_rfl) (of_decide_eq_true (by kernel_rfl)) k2 bel lt2) trodAll_mk0))), rfl, bel.frame _, fun h => by cases h⟩

theorem over : Rows.viewsNextRow.holds Try.pinned (OpenSpec.ofChange Rows.viewsNextSpec) :=
  OpenClaim.holds_of_wide 7 Try.f7 rfl rfl rfl rfl rfl rfl rfl ⟨rfl, rfl, rfl, rfl, rfl⟩ rfl rfl rfl rfl rfl (by kernel_rfl) Try.func7 (by kernel_rfl)
    (of_decide_eq_true (by kernel_rfl)) (by unfold Func.isWrapper; first | (rw [if_pos (by decide +kernel)]; kernel_rfl) | (rw [if_neg (by decide +kernel)]; exact ⟨rfl, rfl⟩))
    (fun os started H enc _ => lifted os started H enc)

/-- The statement. -/
theorem proved : Rows.ViewsNextSaid := over
#print axioms proved
end Go.Proofs.Ytlomahddominlaa.viewsNext
