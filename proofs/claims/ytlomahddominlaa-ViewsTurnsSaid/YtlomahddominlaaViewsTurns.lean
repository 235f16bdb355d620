/- ViewsTurns: each node is primary once in as many views as there are nodes, and Next tells the view: the law returns true at every input. No condition. -/
import Derived.Test.YtlomahddominlaaMeet
import Derived.Test.YtlomahddominlaaOpen
namespace Go.Proofs.Ytlomahddominlaa
open Go.RowKit

set_option linter.unusedVariables false in
set_option maxHeartbeats 800000 in
theorem viewsTurns_walk (x0 : Int) (x1 : Int) (x2 : Int) (w : World) (f0 : (Lit.int .i64 x0).wf = true) (f1 : (Lit.int .i64 x1).wf = true) (f2 : (Lit.int .i64 x2).wf = true) :
    Calls Try.prog 5 #[.int .i64 x0, .int .i64 x1, .int .i64 x2] w fun e w' => e = .returned (.bool true) ∧ Below w.heap.size w w' := by
  have hwf := bounds_i64 f1
  clear f0 f1 f2
  by_cases hn : nodesB x0 = true
  · by_cases hin : (0 ≤ x1 ∧ x1 ≤ 800000000) ∧ 1 ≤ x2 ∧ x2 ≤ x0
    · obtain ⟨⟨h0, h1⟩, h2, h3⟩ := hin
      obtain ⟨j0, hj1, hj2, hj3, hj4⟩ := turns hn h0 h1 h2 h3
      have hx7 : x0 ≤ 7 := by have := nodesB_of hn; omega
      have hx1 : 1 ≤ x0 := by omega
      have HJ := Lib.hid (And.intro hj3 hj4); clear hj3 hj4
      have b1 : decide (x1 < 0) = false := by simp; omega
      have b2 : decide (800000000 < x1) = false := by simp; omega
      have b3 : decide (x2 < 1) = false := by simp; omega
      have b4 : decide (x0 < x2) = false := by simp; omega
      go_enter Try.func5, Try.ntmps5
      go_wp2_with fail
      refine (nodes_any x0 w).mono ?_
      rintro e w' ⟨rfl, rfl⟩
      go_wp2_with fail
      go_loop [7, 8] (fun c i => ∃ k : Int, 1 ≤ k ∧ k ≤ x0 + 1 ∧ i = .int .i64 k ∧ ∃ m : Int, c = .int .i64 m ∧ ((m = 0 ∧ k ≤ j0) ∨ (m = 1 ∧ j0 < k))) (fun _ i => (x0 + 1 - intOf i).toNat)
      case atStart => exact ⟨1, by omega, by omega, rfl, 0, rfl, .inl ⟨rfl, by omega⟩⟩
      case round =>
        obtain ⟨k, hk1, hk2, rfl, m, rfl, hm⟩ := hrel
        have hm01 : 0 ≤ m ∧ m ≤ 1 := by omega
        by_cases hlt : k ≤ x0
        · go_wp2_with fail
          refine (primary_any x0 (x1 + k) w).mono ?_
          rintro e w' ⟨rfl, rfl⟩
          by_cases hkj : k = j0
          · have hp := (HJ.out.2 k hk1 hlt).2 hkj
            have HP := Lib.hid hp
            have b5 : (prim x0 (x1 + k) == x2) = true := by simp [hp]
            have HK := Lib.hid hkj
            clear hp hkj
            go_wp2_with fail
            refine (next_any x0 x1 x2 w).mono ?_
            rintro e w' ⟨rfl, rfl⟩
            have b6 : (nextV x0 x1 x2 != x1 + k) = false := by
              have := HJ.out.1
              have h' := HK.out
              simp; omega
            go_wp2_with fail
            go_round
            case rel => exact ⟨k + 1, by omega, by omega, rfl, m + 1, rfl, by have := HK.out; omega⟩
            case measure => simp [intOf]; omega
          · have hp : prim x0 (x1 + k) ≠ x2 := fun h => hkj ((HJ.out.2 k hk1 hlt).1 h)
            have b5 : (prim x0 (x1 + k) == x2) = false := by simp [hp]
            have HK := Lib.hid hkj
            clear hp hkj
            go_wp2_with fail
            go_round
            case rel => exact ⟨k + 1, by omega, by omega, rfl, m, rfl, by have := HK.out; omega⟩
            case measure => simp [intOf]; omega
        · have hm1 : m = 1 := by omega
          subst hm1
          clear hm
          go_wp2_with fail
          refine (asks_any w).mono ?_
          rintro e w1 ⟨rfl, hb⟩
          go_wp2_with fail
          go_ret
          exact ⟨rfl, hb⟩
    · -- the first test refuses: the rest of the law is the same on each way
      have go : ∀ B1 B2 B3 B4 : Bool, decide (x1 < 0) = B1 → decide (800000000 < x1) = B2 → decide (x2 < 1) = B3 → decide (x0 < x2) = B4 → (B1 || B2 || B3 || B4) = true →
          Calls Try.prog 5 #[.int .i64 x0, .int .i64 x1, .int .i64 x2] w fun e w' => e = .returned (.bool true) ∧ Below w.heap.size w w' := by
        intro B1 B2 B3 B4 b1 b2 b3 b4 hB
        cases B1 <;> cases B2 <;> cases B3 <;> cases B4
        case false.false.false.false => simp at hB
        all_goals
          clear hB hin
          go_enter Try.func5, Try.ntmps5
          go_wp2_with fail
          refine (nodes_any x0 w).mono ?_
          rintro e w' ⟨rfl, rfl⟩
          go_wp2_with fail
          refine (asks_any w).mono ?_
          rintro e w1 ⟨rfl, hb⟩
          go_wp2_with fail
          refine (nodes_any x0 w1).mono ?_
          rintro e w' ⟨rfl, rfl⟩
          go_wp2_with fail
          go_ret
          exact ⟨rfl, hb⟩
      refine go _ _ _ _ rfl rfl rfl rfl ?_
      simp only [Bool.or_eq_true, decide_eq_true_eq]
      omega
  · have hnf : nodesB x0 = false := by simpa using hn
    have hz := next_bad (n := x0) (v := x1) (id := x2) fun h => hn h.1
    clear hn
    go_enter Try.func5, Try.ntmps5
    go_wp2_with fail
    refine (nodes_any x0 w).mono ?_
    rintro e w' ⟨rfl, rfl⟩
    go_wp2_with fail
    refine (asks_any w).mono ?_
    rintro e w1 ⟨rfl, hb⟩
    go_wp2_with fail
    refine (nodes_any x0 w1).mono ?_
    rintro e w' ⟨rfl, rfl⟩
    go_wp2_with fail
    refine (next_any x0 x1 x2 w1).mono ?_
    rintro e w' ⟨rfl, rfl⟩
    go_wp2_with fail
    go_ret
    exact ⟨rfl, hb⟩

end Go.Proofs.Ytlomahddominlaa
namespace Go.Proofs.Ytlomahddominlaa.viewsTurns
open Go.ChangeShapes Go.WideShapes Go.ChangeAt Go.RowKit
open Go.ChangeMaps (open_string shut_string)

set_option linter.unusedVariables false in
set_option maxRecDepth 100000 in
theorem lifted (os : Os) (started : os.Started) (H : Type) (enc : TypeId × Value → H) :
    ReturnsInHanded {} Try.checked os 5 .any (Rows.viewsTurnsSpec.pre6 enc Try.prog Try.f5 Rows.viewsTurnsRow.domain false) (Rows.viewsTurnsSpec.post enc Try.prog Try.f5 false true false false) := by
  refine returnsInHanded_of_change (C := Try.checked) own started (by kernel_rfl) Try.func5
    (ChangeSpec.witness6 (enc := enc) (C := Try.checked) false ⟨#[], #[.int .i64 0, .int .i64 0, .int .i64 0], []⟩ 8 (by kernel_rfl) (by kernel_rfl) (by kernel_rfl) (by kernel_rfl)) ?_
  intro W base args ds gs before hval0 hW hcnd _
  have hval : ∀ (j : Nat) t v, Try.f5.params[j]? = some t → args[j]? = some v → Value.okWide Try.prog W .any base t v := hval0
  have hW' := hW
  obtain ⟨p, q, hA0, hV, rfl, hfz, hnd⟩ := hW
  have hA : DataW.TrodAll enc Try.prog W 0 (fun _ => true) true Try.f5.params.toList args.toList ds p := hA0
  rw [Try.params5] at hA hval
  obtain ⟨v0, vs0, d0, ds0, p0, q0, hargs, rfl, rfl, h0, r'0⟩ := trodAll_cons hA
  obtain ⟨v1, vs1, d1, ds1, p1, q1, rfl, rfl, rfl, h1, r'1⟩ := trodAll_cons r'0
  obtain ⟨v2, vs2, d2, ds2, p2, q2, rfl, rfl, rfl, h2, r'2⟩ := trodAll_cons r'1
  obtain ⟨rfl, rfl, rfl⟩ := trodAll_nil r'2
  obtain rfl : args = #[v0, v1, v2] := by cases args; simp_all
  obtain ⟨rfl, rfl⟩ := trodVars_none hV
  have k0 := h0
  have lt0 : ∀ x ∈ p0, x.block < W.heap.size := by obtain ⟨m, hm⟩ := k0; exact DataW.trod_lt m _ _ _ hm
  obtain ⟨x0, rfl, rfl, rfl, f0⟩ := open_int Try.underlying3 (hval 0 3 v0 rfl rfl) h0
  have k1 := h1
  have lt1 : ∀ x ∈ p1, x.block < W.heap.size := by obtain ⟨m, hm⟩ := k1; exact DataW.trod_lt m _ _ _ hm
  obtain ⟨x1, rfl, rfl, rfl, f1⟩ := open_int Try.underlying3 (hval 1 3 v1 rfl rfl) h1
  have k2 := h2
  have lt2 : ∀ x ∈ p2, x.block < W.heap.size := by obtain ⟨m, hm⟩ := k2; exact DataW.trod_lt m _ _ _ hm
  obtain ⟨x2, rfl, rfl, rfl, f2⟩ := open_int Try.underlying3 (hval 2 3 v2 rfl rfl) h2
  clear hA0 hval0
  refine (viewsTurns_walk x0 x1 x2 W f0 f1 f2).mono fun e W' ⟨he, bel⟩ => ?_
  subst he
  exact ⟨_, rfl, _, _, _, [], _, [], hW', trodAll_mk1 (shut_bool Try.underlying4 _), (trodAll_cons_mk (Below.trod laidOut (by kernel_rfl) (of_decide_eq_true (by kernel_rfl)) k0 bel lt0) (trodAll_cons_mk (Below.trod laidOut (by kernel_rfl) (of_decide_eq_true (by kernel_rfl)) k1 bel lt1) (trodAll_cons_mk (Below.trod laidOut (by kernel_rfl) (of_decide_eq_true (by kernel_rfl)) k2 bel lt2) trodAll_mk0))), rfl, bel.frame _, fun h => by cases h⟩

theorem over : Rows.viewsTurnsRow.holds Try.pinned (OpenSpec.ofChange Rows.viewsTurnsSpec) :=
  OpenClaim.holds_of_wide 5 Try.f5 rfl rfl rfl rfl rfl rfl rfl ⟨rfl, rfl, rfl, rfl, rfl⟩ rfl rfl rfl rfl rfl (by kernel_rfl) Try.func5 (by kernel_rfl)
    (of_decide_eq_true (by kernel_rfl)) (by unfold Func.isWrapper; first | (rw [if_pos (by decide +kernel)]; kernel_rfl) | (rw [if_neg (by decide +kernel)]; exact ⟨rfl, rfl⟩))
    (fun os started H enc _ => lifted os started H enc)

/-- The statement. -/
theorem proved : Rows.ViewsTurnsSaid := over
#print axioms proved
end Go.Proofs.Ytlomahddominlaa.viewsTurns
