/- ViewsBest: the vote whose log is taken is just this.. No condition. -/
import Derived.Test.YtlomahddominlaaOpenV
import Derived.Test.YtlomahddominlaaOpen
namespace Go.Proofs.Ytlomahddominlaa
open Go.RowKit

set_option linter.unusedVariables false in
set_option maxRecDepth 40000 in
set_option maxHeartbeats 800000 in
theorem viewsBest_walk (a0 : Option Addr) (n0 c0 : Nat) (l0 : List Vt) (w : World) (r0 : Rd w w.heap.size a0 (vtCells l0)) (e0 : l0.length = n0) (b0 : n0 ≤ c0) (m0 : c0 ≤ maxLen) :
    Calls Try.prog 8 #[.slice a0 n0 c0] w fun e w' => e = .returned (.bool true) ∧ Below w.heap.size w w' := by
  have z0 : n0 ≤ 9223372036854775807 := by unfold maxLen at m0; omega
  by_cases hlong : 300 < n0
  · go_enter Try.func8, Try.ntmps8
    go_wp2_with fail
    go_ret
    exact ⟨rfl, Below.refl _ _⟩
  have hn : n0 ≤ 300 := by omega
  clear hlong m0
  have H0 := Lib.hid (And.intro r0 e0); clear r0 e0
  go_enter Try.func8, Try.ntmps8
  go_wp2_with fail
  refine (bests_any w).mono ?_
  rintro e w1 ⟨rfl, hb1⟩
  have B1 := Lib.hid hb1; clear hb1
  go_wp2_with fail
  refine (best_any a0 n0 c0 l0 vd w1 ((H0.out.1.below B1.out (Nat.le_refl _)).more B1.out.size) H0.out.2 (by omega)).mono ?_
  rintro e w2 ⟨rfl, hb2⟩
  have B2 := Lib.hid (B1.out.trans (hb2.mono B1.out.size)); clear hb2
  generalize hbi : bestI l0 vd = bi
  have HBI := Lib.hid hbi; clear hbi
  go_wp2_with fail
  have c3 := refBest_any a0 n0 c0 w.heap.size l0 vd w2 (H0.out.1.below B2.out (Nat.le_refl _)) H0.out.2 (by omega)
  rw [HBI.out] at c3
  refine c3.mono ?_
  rintro e w3 ⟨rfl, q, rfl⟩
  clear c3
  go_wp2_with fail
  go_ret
  exact ⟨rfl, below_drewN' B2.out q⟩

end Go.Proofs.Ytlomahddominlaa
namespace Go.Proofs.Ytlomahddominlaa.viewsBest
open Go.ChangeShapes Go.WideShapes Go.ChangeAt Go.RowKit
open Go.ChangeMaps (open_string shut_string)

set_option linter.unusedVariables false in
set_option maxRecDepth 100000 in
theorem lifted (os : Os) (started : os.Started) (H : Type) (enc : TypeId × Value → H) :
    ReturnsInHanded {} Try.checked os 8 .any (Rows.viewsBestSpec.pre6 enc Try.prog Try.f8 Rows.viewsBestRow.domain false) (Rows.viewsBestSpec.post enc Try.prog Try.f8 false true false false) := by
  refine returnsInHanded_of_change (C := Try.checked) own started (by kernel_rfl) Try.func8
    (ChangeSpec.witness6 (enc := enc) (C := Try.checked) false ⟨#[], #[.slice none 0 0], []⟩ 8 (by kernel_rfl) (by kernel_rfl) (by kernel_rfl) (by kernel_rfl)) ?_
  intro W base args ds gs before hval0 hW hcnd _
  have hval : ∀ (j : Nat) t v, Try.f8.params[j]? = some t → args[j]? = some v → Value.okWide Try.prog W .any base t v := hval0
  have hW' := hW
  obtain ⟨p, q, hA0, hV, rfl, hfz, hnd⟩ := hW
  have hA : DataW.TrodAll enc Try.prog W 0 (fun _ => true) true Try.f8.params.toList args.toList ds p := hA0
  rw [Try.params8] at hA hval
  obtain ⟨v0, vs0, d0, ds0, p0, q0, hargs, rfl, rfl, h0, r'0⟩ := trodAll_cons hA
  obtain ⟨rfl, rfl, rfl⟩ := trodAll_nil r'0
  obtain rfl : args = #[v0] := by cases args; simp_all
  obtain ⟨rfl, rfl⟩ := trodVars_none hV
  have k0 := h0
  have lt0 : ∀ x ∈ p0, x.block < W.heap.size := by obtain ⟨m, hm⟩ := k0; exact DataW.trod_lt m _ _ _ hm
  obtain ⟨a0, n0, c0, rfl⟩ := okWide_slice Try.underlying31 (hval 0 31 v0 rfl rfl)
  obtain ⟨l0, r0, e0, b0, m0⟩ := openVotes h0
  clear hA0 hval0
  refine (viewsBest_walk a0 n0 c0 l0 W r0 e0 b0 m0).mono fun e W' ⟨he, bel⟩ => ?_
  subst he
  exact ⟨_, rfl, _, _, _, [], _, [], hW', trodAll_mk1 (shut_bool Try.underlying4 _), (trodAll_cons_mk (Below.trod laidOut (by kernel_rfl) (of_decide_eq_true (by kernel_rfl)) k0 bel lt0) trodAll_mk0), rfl, bel.frame _, fun h => by cases h⟩

theorem over : Rows.viewsBestRow.holds Try.pinned (OpenSpec.ofChange Rows.viewsBestSpec) :=
  OpenClaim.holds_of_wide 8 Try.f8 rfl rfl rfl rfl rfl rfl rfl ⟨rfl, rfl, rfl, rfl, rfl⟩ rfl rfl rfl rfl rfl (by kernel_rfl) Try.func8 (by kernel_rfl)
    (of_decide_eq_true (by kernel_rfl)) (by unfold Func.isWrapper; first | (rw [if_pos (by decide +kernel)]; kernel_rfl) | (rw [if_neg (by decide +kernel)]; exact ⟨rfl, rfl⟩))
    (fun os started H enc _ => lifted os started H enc)

/-- The statement. -/
theorem proved : Rows.ViewsBestSaid := over
#print axioms proved
end Go.Proofs.Ytlomahddominlaa.viewsBest
