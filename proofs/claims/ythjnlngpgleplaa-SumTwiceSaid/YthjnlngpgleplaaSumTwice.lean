/- SumTwice: what is sealed twice is opened twice.. No condition. -/
import Derived.Test.YthjnlngpgleplaaSeals
import Derived.Test.YthjnlngpgleplaaOpen
namespace Go.Proofs.Ythjnlngpgleplaa
open Go.RowKit

set_option linter.unusedVariables false in
set_option maxRecDepth 40000 in
set_option maxHeartbeats 800000 in
theorem sumTwice_walk (a0 : Option Addr) (n0 c0 : Nat) (l0 : List UInt8) (w : World) (r0 : Rd w w.heap.size a0 (bv l0)) (e0 : l0.length = n0) (b0 : n0 ≤ c0) (m0 : c0 ≤ maxLen) :
    Calls Try.prog 9 #[.slice a0 n0 c0] w fun e w' => e = .returned (.bool true) ∧ Below w.heap.size w w' := by
  have z0 : n0 ≤ 9223372036854775807 := by unfold maxLen at m0; omega
  by_cases hlong : 65536 < n0
  · go_enter Try.func9, Try.ntmps9
    go_wp2_with fail
    go_ret
    exact ⟨rfl, Below.refl _ _⟩
  have hn : n0 ≤ 65536 := by omega
  clear hlong m0
  have H0 := Lib.hid (And.intro r0 e0); clear r0 e0
  go_enter Try.func9, Try.ntmps9
  go_wp2_with fail
  refine (seal_any a0 n0 c0 l0 w H0.out.1 H0.out.2 (by omega)).mono ?_
  rintro e w1 ⟨v, rfl, hown, hb1⟩
  obtain ⟨A1, c1, rfl, hr1, hl1, _, _⟩ := own_rd hown
  have R1 := Lib.hid (And.intro hr1 (And.intro hl1 hb1)); clear hr1 hb1 hown hl1
  go_wp2_with fail
  refine (seal_any A1 (n0 + 4) c1 (sealB l0) w1 R1.out.1 R1.out.2.1 (by omega)).mono ?_
  rintro e w2 ⟨v, rfl, hown, hb2⟩
  obtain ⟨A2, c2, rfl, hr2, hl2, hc2, _⟩ := own_rd hown
  have R2 := Lib.hid (And.intro hr2 (And.intro hc2 (R1.out.2.2.trans (hb2.mono R1.out.2.2.size)))); clear hr2 hb2 hown hl2 hc2
  go_wp2_with fail
  refine (open_seal A2 (n0 + 4) c2 (sealB l0) w2 R2.out.1 R1.out.2.1 R2.out.2.1 (by omega)).mono ?_
  rintro e w3 ⟨A3, c3, rfl, hr3, hc3, _, hb3⟩
  have R3 := Lib.hid (And.intro hr3 (And.intro hc3 (R2.out.2.2.trans (hb3.mono R2.out.2.2.size)))); clear hr3 hb3 hc3
  go_wp2_with fail
  refine (open_seal A3 n0 c3 l0 w3 R3.out.1 H0.out.2 R3.out.2.1 (by omega)).mono ?_
  rintro e w4 ⟨A4, c4, rfl, hr4, hc4, _, hb4⟩
  have R4 := Lib.hid (And.intro hr4 (R3.out.2.2.trans (hb4.mono R3.out.2.2.size))); clear hr4 hb4 hc4
  go_wp2_with fail
  refine (seals_any w4).mono ?_
  rintro e w5 ⟨rfl, hb5⟩
  have B5 := Lib.hid (R4.out.2.trans (hb5.mono R4.out.2.size))
  have hcv1 := conv_rd (P := Try.prog) w5 22 9 5 Try.underlying22 Try.underlying5 Try.underlying9 _ A4 n0 c4 l0 (R4.out.1.below hb5 (Nat.le_refl _)) H0.out.2
  have hcv2 := conv_rd (P := Try.prog) w5 22 9 5 Try.underlying22 Try.underlying5 Try.underlying9 _ a0 n0 c0 l0 (H0.out.1.below B5.out (Nat.le_refl _)) H0.out.2
  clear hb5
  go_wp2_with fail
  go_ret
  exact ⟨rfl, B5.out⟩

end Go.Proofs.Ythjnlngpgleplaa
namespace Go.Proofs.Ythjnlngpgleplaa.sumTwice
open Go.ChangeShapes Go.WideShapes Go.ChangeAt Go.RowKit
open Go.ChangeMaps (open_string shut_string)

set_option linter.unusedVariables false in
set_option maxRecDepth 100000 in
theorem lifted (os : Os) (started : os.Started) (H : Type) (enc : TypeId × Value → H) :
    ReturnsInHanded {} Try.checked os 9 .any (Rows.sumTwiceSpec.pre6 enc Try.prog Try.f9 Rows.sumTwiceRow.domain false) (Rows.sumTwiceSpec.post enc Try.prog Try.f9 false true false false) := by
  refine returnsInHanded_of_change (C := Try.checked) own started (by kernel_rfl) Try.func9
    (ChangeSpec.witness6 (enc := enc) (C := Try.checked) false ⟨#[], #[.slice none 0 0], []⟩ 8 (by kernel_rfl) (by kernel_rfl) (by kernel_rfl) (by kernel_rfl)) ?_
  intro W base args ds gs before hval0 hW hcnd _
  have hval : ∀ (j : Nat) t v, Try.f9.params[j]? = some t → args[j]? = some v → Value.okWide Try.prog W .any base t v := hval0
  have hW' := hW
  obtain ⟨p, q, hA0, hV, rfl, hfz, hnd⟩ := hW
  have hA : DataW.TrodAll enc Try.prog W 0 (fun _ => true) true Try.f9.params.toList args.toList ds p := hA0
  rw [Try.params9] at hA hval
  obtain ⟨v0, vs0, d0, ds0, p0, q0, hargs, rfl, rfl, h0, r'0⟩ := trodAll_cons hA
  obtain ⟨rfl, rfl, rfl⟩ := trodAll_nil r'0
  obtain rfl : args = #[v0] := by cases args; simp_all
  obtain ⟨rfl, rfl⟩ := trodVars_none hV
  have k0 := h0
  have lt0 : ∀ x ∈ p0, x.block < W.heap.size := by obtain ⟨m, hm⟩ := k0; exact DataW.trod_lt m _ _ _ hm
  obtain ⟨a0, n0, c0, rfl⟩ := okWide_slice Try.underlying22 (hval 0 22 v0 rfl rfl)
  obtain ⟨l0, r0, e0, b0, m0⟩ := openBytes Try.underlying22 Try.underlying5 (by kernel_rfl) h0
  clear hA0 hval0
  refine (sumTwice_walk a0 n0 c0 l0 W r0 e0 b0 m0).mono fun e W' ⟨he, bel⟩ => ?_
  subst he
  exact ⟨_, rfl, _, _, _, [], _, [], hW', trodAll_mk1 (shut_bool Try.underlying4 _), (trodAll_cons_mk (Below.trod laidOut (by kernel_rfl) (of_decide_eq_true (by kernel_rfl)) k0 bel lt0) trodAll_mk0), rfl, bel.frame _, fun h => by cases h⟩

theorem over : Rows.sumTwiceRow.holds Try.pinned (OpenSpec.ofChange Rows.sumTwiceSpec) :=
  OpenClaim.holds_of_wide 9 Try.f9 rfl rfl rfl rfl rfl rfl rfl ⟨rfl, rfl, rfl, rfl, rfl⟩ rfl rfl rfl rfl rfl (by kernel_rfl) Try.func9 (by kernel_rfl)
    (of_decide_eq_true (by kernel_rfl)) (by unfold Func.isWrapper; first | (rw [if_pos (by decide +kernel)]; kernel_rfl) | (rw [if_neg (by decide +kernel)]; exact ⟨rfl, rfl⟩))
    (fun os started H enc _ => lifted os started H enc)

/-- The statement. -/
theorem proved : Rows.SumTwiceSaid := over
#print axioms proved
end Go.Proofs.Ythjnlngpgleplaa.sumTwice
