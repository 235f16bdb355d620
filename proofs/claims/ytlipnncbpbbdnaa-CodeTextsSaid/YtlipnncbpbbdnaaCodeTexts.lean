/- CodeTexts: a text is put as just these bytes, or refused: the law returns true at every input, and leaves what came in as it was. No condition. -/
import Derived.Test.YtlipnncbpbbdnaaPuts
import Derived.Test.YtlipnncbpbbdnaaOpen
namespace Go.Proofs.Ytlipnncbpbbdnaa
open Go.RowKit

set_option linter.unusedVariables false in
theorem codeTexts_walk (a0 : Option Addr) (n0 c0 : Nat) (l0 : List UInt8) (s1 : ByteArray) (w : World) (r0 : Rd w w.heap.size a0 (bv l0)) (e0 : l0.length = n0) (b0 : n0 ≤ c0) (m0 : c0 ≤ maxLen) (m1 : s1.size ≤ maxLen) :
    Calls Try.prog 4 #[.slice a0 n0 c0, .string s1] w fun e w' => e = .returned (.bool true) ∧ Below w.heap.size w w' := by
  have hsl : s1.size ≤ 9223372036854775807 := by unfold maxLen at m1; omega
  by_cases hlong : 262144 < n0
  · go_enter Try.func4, Try.ntmps4
    unfold maxLen at m0
    go_wp2_with fail
    go_ret
    exact ⟨rfl, Below.refl _ _⟩
  have hn : n0 ≤ 262144 := by omega
  have hd : decide (262144 < (n0 : Int)) = false := by simp; omega
  by_cases hlong2 : 262144 < s1.size
  · go_enter Try.func4, Try.ntmps4
    go_wp2_with fail
    go_ret
    exact ⟨rfl, Below.refl _ _⟩
  have hn2 : s1.size ≤ 262144 := by omega
  have hd2 : decide (262144 < (s1.size : Int)) = false := by simp; omega
  clear hlong hlong2 m0 hsl
  have H0 := Lib.hid (And.intro r0 e0)
  clear r0 e0
  by_cases hx : s1.size ≤ 65536
  · go_enter Try.func4, Try.ntmps4
    go_wp2_with fail
    refine (lent_any a0 n0 c0 l0 w H0.out.1 H0.out.2 (by omega)).mono ?_
    rintro e w1 ⟨g, cap, rfl, hx1, hb1⟩
    have Hx := Lib.hid hx1; clear hx1
    go_wp2_with fail
    have hrx := Rd.front (Rd.of_own Hx.out) _ _ rfl
    refine (putText_ok _ n0 cap l0 s1 w1 hrx H0.out.2 (by omega) hx).mono ?_
    rintro e w2 ⟨v, rfl, hown2, hb2⟩
    rw [← bv_append, ← bv_append, List.append_assoc] at hown2
    obtain ⟨A2, c2, rfl, hr2, hl2, _, _⟩ := own_rd hown2
    clear hown2 hrx
    have H2 := Lib.hid (And.intro hr2 hl2); clear hr2 hl2
    go_wp2_with fail
    refine (text_ok s1 w2 hx).mono ?_
    rintro e w3 ⟨v, rfl, hown3, hb3⟩
    rw [← four_eq, ← bv_append] at hown3
    obtain ⟨A3, c3, rfl, hr3, hl3, _, _⟩ := own_rd hown3
    clear hown3
    have H3 := Lib.hid (And.intro hr3 hl3); clear hr3 hl3
    go_wp2_with fail
    refine (puts_any w3).mono ?_
    rintro e w4 ⟨rfl, hb4⟩
    go_wp2_with fail
    have hb24 := hb3.trans (hb4.mono hb3.size)
    have hb14 := hb2.trans (hb24.mono hb2.size)
    have hb04 := hb1.trans (hb14.mono hb1.size)
    refine (behind_ok _ g n0 cap c0 _ a0 l0 A2 A3 _ c2 _ c3 _ _ _ w4 (by omega) (own_below Hx.out hb14 (Nat.le_refl _)) (H0.out.1.below hb04 (Nat.le_refl _)) H0.out.2 (H2.out.1.below hb24 (Nat.le_refl _)) H2.out.2 (H3.out.1.below hb4 (Nat.le_refl _)) H3.out.2 (by omega)).mono ?_
    rintro e w' ⟨rfl, rfl⟩
    go_wp2_with fail
    go_ret
    exact ⟨rfl, hb04⟩
  · have hx' : 65536 < s1.size := by omega
    clear hx
    go_enter Try.func4, Try.ntmps4
    go_wp2_with fail
    refine (lent_any a0 n0 c0 l0 w H0.out.1 H0.out.2 (by omega)).mono ?_
    rintro e w1 ⟨g, cap, rfl, hx1, hb1⟩
    have Hx := Lib.hid hx1; clear hx1
    go_wp2_with fail
    refine (putText_no _ n0 cap s1 w1 hx' m1).mono ?_
    rintro e w' ⟨rfl, rfl⟩
    go_wp2_with fail
    refine (text_no s1 w1 hx' m1).mono ?_
    rintro e w' ⟨rfl, rfl⟩
    go_wp2_with fail
    refine (puts_any w1).mono ?_
    rintro e w4 ⟨rfl, hb4⟩
    go_wp2_with fail
    have hb04 := hb1.trans (hb4.mono hb1.size)
    refine (behind_no _ g n0 cap c0 _ a0 l0 2 w4 (by omega) (by omega) (own_below Hx.out hb4 (Nat.le_refl _)) (H0.out.1.below hb04 (Nat.le_refl _)) H0.out.2).mono ?_
    rintro e w' ⟨rfl, rfl⟩
    go_wp2_with fail
    go_ret
    exact ⟨rfl, hb04⟩

end Go.Proofs.Ytlipnncbpbbdnaa
namespace Go.Proofs.Ytlipnncbpbbdnaa.codeTexts
open Go.ChangeShapes Go.WideShapes Go.ChangeAt Go.RowKit
open Go.ChangeMaps (open_string shut_string)

set_option linter.unusedVariables false in
set_option maxRecDepth 100000 in
theorem lifted (os : Os) (started : os.Started) (H : Type) (enc : TypeId × Value → H) :
    ReturnsInHanded {} Try.checked os 4 .any (Rows.codeTextsSpec.pre6 enc Try.prog Try.f4 Rows.codeTextsRow.domain false) (Rows.codeTextsSpec.post enc Try.prog Try.f4 false true false false) := by
  refine returnsInHanded_of_change (C := Try.checked) own started (by kernel_rfl) Try.func4
    (ChangeSpec.witness6 (enc := enc) (C := Try.checked) false ⟨#[], #[.slice none 0 0, .string ByteArray.empty], []⟩ 8 (by kernel_rfl) (by kernel_rfl) (by kernel_rfl) (by kernel_rfl)) ?_
  intro W base args ds gs before hval0 hW hcnd _
  have hval : ∀ (j : Nat) t v, Try.f4.params[j]? = some t → args[j]? = some v → Value.okWide Try.prog W .any base t v := hval0
  have hW' := hW
  obtain ⟨p, q, hA0, hV, rfl, hfz, hnd⟩ := hW
  have hA : DataW.TrodAll enc Try.prog W 0 (fun _ => true) true Try.f4.params.toList args.toList ds p := hA0
  rw [Try.params4] at hA hval
  obtain ⟨v0, vs0, d0, ds0, p0, q0, hargs, rfl, rfl, h0, r'0⟩ := trodAll_cons hA
  obtain ⟨v1, vs1, d1, ds1, p1, q1, rfl, rfl, rfl, h1, r'1⟩ := trodAll_cons r'0
  obtain ⟨rfl, rfl, rfl⟩ := trodAll_nil r'1
  obtain rfl : args = #[v0, v1] := by cases args; simp_all
  obtain ⟨rfl, rfl⟩ := trodVars_none hV
  have k0 := h0
  have lt0 : ∀ x ∈ p0, x.block < W.heap.size := by obtain ⟨m, hm⟩ := k0; exact DataW.trod_lt m _ _ _ hm
  obtain ⟨a0, n0, c0, rfl⟩ := okWide_slice Try.underlying22 (hval 0 22 v0 rfl rfl)
  obtain ⟨l0, r0, e0, b0, m0⟩ := openBytes Try.underlying22 Try.underlying5 (by kernel_rfl) h0
  have k1 := h1
  have lt1 : ∀ x ∈ p1, x.block < W.heap.size := by obtain ⟨m, hm⟩ := k1; exact DataW.trod_lt m _ _ _ hm
  obtain ⟨s1, rfl, rfl, rfl, m1⟩ := open_string Try.underlying9 (hval 1 9 v1 rfl rfl) h1
  clear hA0 hval0
  refine (codeTexts_walk a0 n0 c0 l0 s1 W r0 e0 b0 m0 m1).mono fun e W' ⟨he, bel⟩ => ?_
  subst he
  exact ⟨_, rfl, _, _, _, [], _, [], hW', trodAll_mk1 (shut_bool Try.underlying4 _), (trodAll_cons_mk (Below.trod laidOut (by kernel_rfl) (of_decide_eq_true (by kernel_rfl)) k0 bel lt0) (trodAll_cons_mk (Below.trod laidOut (by kernel_rfl) (of_decide_eq_true (by kernel_rfl)) k1 bel lt1) trodAll_mk0)), rfl, bel.frame _, fun h => by cases h⟩

theorem over : Rows.codeTextsRow.holds Try.pinned (OpenSpec.ofChange Rows.codeTextsSpec) :=
  OpenClaim.holds_of_wide 4 Try.f4 rfl rfl rfl rfl rfl rfl rfl ⟨rfl, rfl, rfl, rfl, rfl⟩ rfl rfl rfl rfl rfl (by kernel_rfl) Try.func4 (by kernel_rfl)
    (of_decide_eq_true (by kernel_rfl)) (by unfold Func.isWrapper; first | (rw [if_pos (by decide +kernel)]; kernel_rfl) | (rw [if_neg (by decide +kernel)]; exact ⟨rfl, rfl⟩))
    (fun os started H enc _ => lifted os started H enc)

/-- The statement. -/
theorem proved : Rows.CodeTextsSaid := over
#print axioms proved
end Go.Proofs.Ytlipnncbpbbdnaa.codeTexts
