/- CodeInts: an int is put as just these bytes: the law returns true at every input, and leaves what came in as it was. No condition. -/
import Derived.Test.YtlipnncbpbbdnaaPuts
import Derived.Test.YtlipnncbpbbdnaaOpen
namespace Go.Proofs.Ytlipnncbpbbdnaa
open Go.RowKit

set_option linter.unusedVariables false in
theorem codeInts_walk (a0 : Option Addr) (n0 c0 : Nat) (l0 : List UInt8) (x1 : Int) (w : World) (r0 : Rd w w.heap.size a0 (bv l0)) (e0 : l0.length = n0) (b0 : n0 ≤ c0) (m0 : c0 ≤ maxLen) (f1 : (Lit.int .i64 x1).wf = true) :
    Calls Try.prog 5 #[.slice a0 n0 c0, .int .i64 x1] w fun e w' => e = .returned (.bool true) ∧ Below w.heap.size w w' := by
  by_cases hlong : 262144 < n0
  · go_enter Try.func5, Try.ntmps5
    unfold maxLen at m0
    go_wp2_with fail
    go_ret
    exact ⟨rfl, Below.refl _ _⟩
  have hn : n0 ≤ 262144 := by omega
  clear hlong m0
  have H0 := Lib.hid (And.intro r0 e0)
  clear r0 e0 f1
  go_enter Try.func5, Try.ntmps5
  go_wp2_with fail
  refine (lent_any a0 n0 c0 l0 w H0.out.1 H0.out.2 (by omega)).mono ?_
  rintro e w1 ⟨g, cap, rfl, hx1, hb1⟩
  have Hx := Lib.hid hx1; clear hx1
  go_wp2_with fail
  refine (puts_any w1).mono ?_
  rintro e w2 ⟨rfl, hb2⟩
  go_wp2_with fail
  have Hx2 := Lib.hid (own_below Hx.out hb2 (Nat.le_refl _))
  have hrx := Rd.front (Rd.of_own Hx2.out) _ _ rfl
  refine (putInt_any _ n0 cap l0 x1 w2 hrx H0.out.2 (by omega)).mono ?_
  rintro e w3 ⟨v, rfl, hown3, hb3⟩
  rw [← bv_append] at hown3
  obtain ⟨A3, c3, rfl, hr3, hl3, _, _⟩ := own_rd hown3
  clear hown3 hrx
  have H3 := Lib.hid (And.intro hr3 hl3); clear hr3 hl3
  go_wp2_with fail
  refine (eight_any x1 w3).mono ?_
  rintro e w4 ⟨v, rfl, hown4, hb4⟩
  obtain ⟨A4, c4, rfl, hr4, hl4, _, _⟩ := own_rd hown4
  clear hown4
  have H4 := Lib.hid (And.intro hr4 hl4); clear hr4 hl4
  go_wp2_with fail
  have hb24 := hb3.trans (hb4.mono hb3.size)
  have hb14 := hb2.trans (hb24.mono hb2.size)
  have hb04 := hb1.trans (hb14.mono hb1.size)
  refine (behind_ok _ g n0 cap c0 _ a0 l0 A3 A4 _ c3 8 c4 _ _ (beN 8 (word x1)) w4 (by omega) (own_below Hx.out hb14 (Nat.le_refl _)) (H0.out.1.below hb04 (Nat.le_refl _)) H0.out.2 (H3.out.1.below hb4 (Nat.le_refl _)) H3.out.2 H4.out.1 H4.out.2 (by omega)).mono ?_
  rintro e w' ⟨rfl, rfl⟩
  go_wp2_with fail
  go_ret
  exact ⟨rfl, hb04⟩

end Go.Proofs.Ytlipnncbpbbdnaa
namespace Go.Proofs.Ytlipnncbpbbdnaa.codeInts
open Go.ChangeShapes Go.WideShapes Go.ChangeAt Go.RowKit
open Go.ChangeMaps (open_string shut_string)

set_option linter.unusedVariables false in
set_option maxRecDepth 100000 in
theorem lifted (os : Os) (started : os.Started) (H : Type) (enc : TypeId × Value → H) :
    ReturnsInHanded {} Try.checked os 5 .any (Rows.codeIntsSpec.pre6 enc Try.prog Try.f5 Rows.codeIntsRow.domain false) (Rows.codeIntsSpec.post enc Try.prog Try.f5 false true false false) := by
  refine returnsInHanded_of_change (C := Try.checked) own started (by kernel_rfl) Try.func5
    (ChangeSpec.witness6 (enc := enc) (C := Try.checked) false ⟨#[], #[.slice none 0 0, .int .i64 0], []⟩ 8 (by kernel_rfl) (by kernel_rfl) (by kernel_rfl) (by kernel_rfl)) ?_
  intro W base args ds gs before hval0 hW hcnd _
  have hval : ∀ (j : Nat) t v, Try.f5.params[j]? = some t → args[j]? = some v → Value.okWide Try.prog W .any base t v := hval0
  have hW' := hW
  obtain ⟨p, q, hA0, hV, rfl, hfz, hnd⟩ := hW
  have hA : DataW.TrodAll enc Try.prog W 0 (fun _ => true) true Try.f5.params.toList args.toList ds p := hA0
  rw [Try.params5] at hA hval
  obtain ⟨v0, vs0, d0, ds0, p0, q0, hargs, rfl, rfl, h0, r'0⟩ := trodAll_cons hA
  obtain ⟨v1, vs1, d1, ds1, p1, q1, rfl, rfl, rfl, h1, r'1⟩ := trodAll_cons r'0
  obtain ⟨rfl, rfl, rfl⟩ := trodAll_nil r'1
  obtain rfl : args = #[v0, v1] := by cases args; simp_all
  obtain ⟨rfl, rfl⟩ := trodVars_none hV
  have k0 := h0
  have lt0 : ∀ x ∈ p0, x.block < W.heap.size := by obtain ⟨m, hm⟩ := k0; exact DataW.trod_lt m _ _ _ hm
  obtain ⟨a0, n0, c0, rfl⟩ := okWide_slice Try.underlying22 (hval 0 22 v0 rfl rfl)
  obtain ⟨l0, r0, e0, b0, m0⟩ := openBytes Try.underlying22 Try.underlying5 (by kernel_rfl) h0
  have k1 := h1
  have lt1 : ∀ x ∈ p1, x.block < W.heap.size := by obtain ⟨m, hm⟩ := k1; exact DataW.trod_lt m _ _ _ hm
  obtain ⟨x1, rfl, rfl, rfl, f1⟩ := open_int Try.underlying3 (hval 1 3 v1 rfl rfl) h1
  clear hA0 hval0
  refine (codeInts_walk a0 n0 c0 l0 x1 W r0 e0 b0 m0 f1).mono fun e W' ⟨he, bel⟩ => ?_
  subst he
  exact ⟨_, rfl, _, _, _, [], _, [], hW', trodAll_mk1 (shut_bool Try.underlying4 _), (trodAll_cons_mk (Below.trod laidOut (by kernel_rfl) (of_decide_eq_true (by kernel_rfl)) k0 bel lt0) (trodAll_cons_mk (Below.trod laidOut (by kernel_rfl) (of_decide_eq_true (by kernel_rfl)) k1 bel lt1) trodAll_mk0)), rfl, bel.frame _, fun h => by cases h⟩

theorem over : Rows.codeIntsRow.holds Try.pinned (OpenSpec.ofChange Rows.codeIntsSpec) :=
  OpenClaim.holds_of_wide 5 Try.f5 rfl rfl rfl rfl rfl rfl rfl ⟨rfl, rfl, rfl, rfl, rfl⟩ rfl rfl rfl rfl rfl (by kernel_rfl) Try.func5 (by kernel_rfl)
    (of_decide_eq_true (by kernel_rfl)) (by unfold Func.isWrapper; first | (rw [if_pos (by decide +kernel)]; kernel_rfl) | (rw [if_neg (by decide +kernel)]; exact ⟨rfl, rfl⟩))
    (fun os started H enc _ => lifted os started H enc)

/-- The statement. -/
theorem proved : Rows.CodeIntsSaid := over
#print axioms proved
end Go.Proofs.Ytlipnncbpbbdnaa.codeInts
