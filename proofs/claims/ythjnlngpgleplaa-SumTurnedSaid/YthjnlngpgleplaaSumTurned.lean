/- SumTurned: a sealed row of which one byte, or two neighbours, are others is not opened.. No condition. -/
import Derived.Test.YthjnlngpgleplaaTurned
import Derived.Test.YthjnlngpgleplaaOpen
namespace Go.Proofs.Ythjnlngpgleplaa
open Go.RowKit

theorem below_row' {w w1 w2 : World} {C g : Nat} (hb : Below C w w1) (hg : w1.grownBy w2 (some g)) (hC : C ≤ g) (hC1 : C ≤ w1.heap.size) : Below C w w2 :=
  hb.grown hg hC1 fun k hk => by injection hk with hk; omega
theorem split_at (l : List UInt8) (p : Nat) (h : p < l.length) : ∃ a u r, l = a ++ u :: r ∧ a.length = p :=
  ⟨l.take p, l[p], l.drop (p + 1), by rw [← List.drop_eq_getElem_cons h, List.take_append_drop], by rw [List.length_take]; omega⟩
theorem bv_set (l : List UInt8) (k : Nat) (x : UInt8) : (bv l).set k (.int .u8 (x.toNat : Int)) = bv (l.set k x) := by simp [bv, List.map_set]
theorem as_u8 (x : Int) (h : 0 ≤ x ∧ x ≤ 255) : ∃ c : UInt8, x = (c.toNat : Int) := ⟨UInt8.ofNat x.toNat, by simp; omega⟩
theorem u8_eq0 (c : UInt8) : ((c.toNat : Int) == 0) = decide (c = 0) := by
  rw [Bool.eq_iff_iff]
  simp only [beq_iff_eq, decide_eq_true_eq]
  constructor
  · intro h; apply UInt8.toNat_inj.1; show c.toNat = 0; omega
  · rintro rfl; rfl

set_option linter.unusedVariables false in
set_option maxRecDepth 40000 in
set_option maxHeartbeats 800000 in
theorem sumTurned_walk (a0 : Option Addr) (n0 c0 : Nat) (l0 : List UInt8) (x1 : Int) (x2 : Int) (x3 : Int) (w : World) (r0 : Rd w w.heap.size a0 (bv l0)) (e0 : l0.length = n0) (b0 : n0 ≤ c0) (m0 : c0 ≤ maxLen) (f1 : (Lit.int .i64 x1).wf = true) (f2 : (Lit.int .u8 x2).wf = true) (f3 : (Lit.int .u8 x3).wf = true) :
    Calls Try.prog 8 #[.slice a0 n0 c0, .int .i64 x1, .int .u8 x2, .int .u8 x3] w fun e w' => e = .returned (.bool true) ∧ Below w.heap.size w w' := by
  have z0 : n0 ≤ 9223372036854775807 := by unfold maxLen at m0; omega
  have wa := bounds_i64 f1
  obtain ⟨one, rfl⟩ := as_u8 x2 (bounds_u8 f2)
  obtain ⟨two, rfl⟩ := as_u8 x3 (bounds_u8 f3)
  clear f1 f2 f3
  by_cases hlong : 65536 < n0
  · go_enter Try.func8, Try.ntmps8
    go_wp2_with fail
    go_ret
    exact ⟨rfl, Below.refl _ _⟩
  have hn : n0 ≤ 65536 := by omega
  clear hlong m0
  have H0 := Lib.hid (And.intro r0 e0); clear r0 e0
  have hsl := sealB_length l0
  rw [H0.out.2] at hsl
  have HSL := Lib.hid hsl; clear hsl
  have HSE := Lib.hid (seal_any a0 n0 c0 l0 w H0.out.1 H0.out.2 (by omega))
  by_cases hout : x1 < 0 ∨ ((n0 : Int) + 4 ≤ x1 ∧ decide (x1 < 0) = false)
  · rcases hout with hout | ⟨hout, hout2⟩
    all_goals
      go_enter Try.func8, Try.ntmps8
      go_wp2_with fail
      refine Calls.mono HSE.out ?_
      rintro e w1 ⟨v, rfl, hown, hb1⟩
      obtain ⟨A1, c1, rfl, _, _⟩ := own_is_slice hown
      have B1 := Lib.hid hb1; clear hb1 hown
      go_wp2_with fail
      refine (seals_any w1).mono ?_
      rintro e w2 ⟨rfl, hb2⟩
      have B2 := Lib.hid (B1.out.trans (hb2.mono B1.out.size)); clear hb2
      go_wp2_with fail
      go_ret
      exact ⟨rfl, B2.out⟩
  obtain ⟨p, rfl⟩ : ∃ p : Nat, x1 = p := ⟨x1.toNat, by
    by_cases h : x1 < 0
    · exact absurd (Or.inl h) hout
    · omega⟩
  have hp : p < n0 + 4 := by
    by_cases h : p < n0 + 4
    · exact h
    · exact absurd (Or.inr ⟨by omega, by simp⟩) hout
  have hd1 : decide ((p : Int) < 0) = false := by simp
  have hd2 : decide ((n0 : Int) + 4 ≤ (p : Int)) = false := by simp; omega
  clear hout wa
  obtain ⟨a, u, r, hsr, hap⟩ := split_at (sealB l0) p (by rw [HSL.out]; exact hp)
  have hxor := u8_xor_nat u.toNat one.toNat u.toNat_lt one.toNat_lt
  have hq1 := u8_eq0 one
  have hq2 := u8_eq0 two
  have HSR := Lib.hid hsr; clear hsr
  have HAP := Lib.hid hap; clear hap
  by_cases hlast : p + 1 < n0 + 4
  · obtain ⟨v, b, rfl⟩ : ∃ v b, r = v :: b := by
      have := congrArg List.length HSR.out
      rw [HSL.out, List.length_append, List.length_cons, HAP.out] at this
      cases r with
      | nil => simp at this; omega
      | cons v b => exact ⟨v, b, rfl⟩
    have hxor2 := u8_xor_nat v.toNat two.toNat v.toNat_lt two.toNat_lt
    have HG := Lib.hid (good_two l0 a b u v one two HSR.out)
    have hd3 : decide ((p : Int) + 1 < (n0 : Int) + 4) = true := by simp; omega
    go_enter Try.func8, Try.ntmps8
    go_wp2_with fail
    refine Calls.mono HSE.out ?_
    rintro e w1 ⟨vx, rfl, hown, hb1⟩
    rcases own_form hown with ⟨_, h0, _⟩ | ⟨g, cap, rfl, hg, _, hcap, hmx⟩
    · omega
    rw [HSR.out] at hown
    have hcA := (hown.cellAt p (by omega)).trans (bv_at _ p (by rw [List.length_append, HAP.out]; simp))
    rw [List.getElem_append_right (by rw [HAP.out]; exact Nat.le_refl _)] at hcA
    simp only [HAP.out, Nat.sub_self, List.getElem_cons_zero] at hcA
    have hfA := hown.frozenAt p
    obtain ⟨ho2, hgr⟩ := hown.stored p (.int .u8 (((u ^^^ one).toNat : Nat) : Int))
    rw [bv_set] at ho2
    have hb2 := below_row' hb1 hgr hg hb1.size
    have hcB := (ho2.cellAt (p + 1) (by omega)).trans (bv_at _ (p + 1) (by rw [List.length_set, List.length_append, HAP.out]; simp))
    have eB : ((a ++ u :: v :: b).set p (u ^^^ one))[p + 1]'(by rw [List.length_set, List.length_append, HAP.out]; simp) = v := by
      rw [List.getElem_set_ne (by omega), List.getElem_append_right (by rw [HAP.out]; omega)]
      simp only [HAP.out, Nat.add_sub_cancel_left, List.getElem_cons_succ, List.getElem_cons_zero]
    rw [eB] at hcB
    have hfB := ho2.frozenAt (p + 1)
    obtain ⟨ho3, hgr3⟩ := ho2.stored (p + 1) (.int .u8 (((v ^^^ two).toNat : Nat) : Int))
    rw [bv_set] at ho3
    have e3 : ((a ++ u :: v :: b).set p (u ^^^ one)).set (p + 1) (v ^^^ two) = a ++ (u ^^^ one) :: (v ^^^ two) :: b := by
      rw [← HAP.out]; exact set_two a b u v _ _
    rw [e3] at ho3
    have HO := Lib.hid (And.intro ho3 (below_row' hb2 hgr3 hg hb2.size))
    have hly : (a ++ (u ^^^ one) :: (v ^^^ two) :: b).length = n0 + 4 := by
      have h9 := HSL.out
      rw [HSR.out] at h9
      simpa using h9
    have HLY := Lib.hid hly
    rw [UInt8.toNat_xor] at hcB hfB HO
    rw [UInt8.toNat_xor] at HO
    clear hown ho2 ho3 hgr hgr3 hb1 hb2 eB e3 hly
    generalize u.toNat = un at *
    generalize v.toNat = vn at *
    generalize hon : one.toNat = on at *
    generalize htw : two.toNat = tw at *
    have HON := Lib.hid hon; clear hon
    have HTW := Lib.hid htw; clear htw
    go_wp2_with fail
    have c2 := open_any (some ⟨g, 0, none⟩) (n0 + 4) cap (a ++ (u ^^^ one) :: (v ^^^ two) :: b) _ (Rd.of_own HO.out.1) HLY.out hcap (by omega) (by omega)
    rw [HG.out] at c2
    have C2 := Lib.hid c2; clear c2
    generalize decide (one = 0) = q1 at *
    generalize decide (two = 0) = q2 at *
    refine Calls.mono C2.out ?_
    rintro e w2 ⟨hbad, hgood, hb2⟩
    have B2 := Lib.hid (HO.out.2.trans (hb2.mono HO.out.2.size)); clear hb2
    clear C2 HG HO
    cases q1 <;> cases q2
    case true.true =>
      obtain ⟨v9, rfl, _⟩ := hgood rfl
      clear hbad hgood
      go_wp2_with fail
      refine (seals_any _).mono ?_
      rintro e w3 ⟨rfl, hb3⟩
      have B3 := Lib.hid (B2.out.trans (hb3.mono B2.out.size)); clear hb3
      go_wp2_with fail
      go_ret
      exact ⟨rfl, B3.out⟩
    all_goals
      obtain rfl := hbad rfl
      clear hbad hgood
      go_wp2_with fail
      refine (seals_any _).mono ?_
      rintro e w3 ⟨rfl, hb3⟩
      have B3 := Lib.hid (B2.out.trans (hb3.mono B2.out.size)); clear hb3
      go_wp2_with fail
      go_ret
      exact ⟨rfl, B3.out⟩
  · obtain rfl : r = [] := by
      have := congrArg List.length HSR.out
      rw [HSL.out, List.length_append, List.length_cons, HAP.out] at this
      cases r with
      | nil => rfl
      | cons v b => simp at this; omega
    obtain rfl : p = n0 + 3 := by omega
    have HG := Lib.hid (good_last l0 a u one HSR.out)
    have hd3 : decide (((n0 + 3 : Nat) : Int) + 1 < (n0 : Int) + 4) = false := by simp; omega
    have hcast : ((n0 + 3 : Nat) : Int) = (n0 : Int) + 3 := by omega
    rw [hcast] at hd1 hd2 hd3
    go_enter Try.func8, Try.ntmps8
    go_wp2_with fail
    refine Calls.mono HSE.out ?_
    rintro e w1 ⟨vx, rfl, hown, hb1⟩
    rcases own_form hown with ⟨_, h0, _⟩ | ⟨g, cap, rfl, hg, _, hcap, hmx⟩
    · omega
    rw [HSR.out] at hown
    have hcA := (hown.cellAt (n0 + 3) (by omega)).trans (bv_at _ (n0 + 3) (by rw [List.length_append, HAP.out]; simp))
    rw [List.getElem_append_right (by rw [HAP.out]; exact Nat.le_refl _)] at hcA
    simp only [HAP.out, Nat.sub_self, List.getElem_cons_zero] at hcA
    have hfA := hown.frozenAt (n0 + 3)
    obtain ⟨ho2, hgr⟩ := hown.stored (n0 + 3) (.int .u8 (((u ^^^ one).toNat : Nat) : Int))
    rw [bv_set] at ho2
    have e3 : (a ++ [u]).set (n0 + 3) (u ^^^ one) = a ++ [u ^^^ one] := by
      rw [← HAP.out]; exact set_last a u _
    rw [e3] at ho2
    have HO := Lib.hid (And.intro ho2 (below_row' hb1 hgr hg hb1.size))
    have hly : (a ++ [u ^^^ one]).length = n0 + 4 := by
      have h9 := HSL.out
      rw [HSR.out] at h9
      simpa using h9
    have HLY := Lib.hid hly
    rw [UInt8.toNat_xor] at HO
    clear hown ho2 hgr hb1 e3 hly
    generalize u.toNat = un at *
    generalize hon : one.toNat = on at *
    have HON := Lib.hid hon; clear hon
    go_wp2_with fail
    have c2 := open_any (some ⟨g, 0, none⟩) (n0 + 4) cap (a ++ [u ^^^ one]) _ (Rd.of_own HO.out.1) HLY.out hcap (by omega) (by omega)
    rw [HG.out] at c2
    have C2 := Lib.hid c2; clear c2
    generalize decide (one = 0) = q1 at *
    refine Calls.mono C2.out ?_
    rintro e w2 ⟨hbad, hgood, hb2⟩
    have B2 := Lib.hid (HO.out.2.trans (hb2.mono HO.out.2.size)); clear hb2
    clear C2 HG HO
    cases q1
    case true =>
      obtain ⟨v9, rfl, _⟩ := hgood rfl
      clear hbad hgood
      go_wp2_with fail
      refine (seals_any _).mono ?_
      rintro e w3 ⟨rfl, hb3⟩
      have B3 := Lib.hid (B2.out.trans (hb3.mono B2.out.size)); clear hb3
      go_wp2_with fail
      go_ret
      exact ⟨rfl, B3.out⟩
    case false =>
      obtain rfl := hbad rfl
      clear hbad hgood
      go_wp2_with fail
      refine (seals_any _).mono ?_
      rintro e w3 ⟨rfl, hb3⟩
      have B3 := Lib.hid (B2.out.trans (hb3.mono B2.out.size)); clear hb3
      go_wp2_with fail
      go_ret
      exact ⟨rfl, B3.out⟩

end Go.Proofs.Ythjnlngpgleplaa
namespace Go.Proofs.Ythjnlngpgleplaa.sumTurned
open Go.ChangeShapes Go.WideShapes Go.ChangeAt Go.RowKit
open Go.ChangeMaps (open_string shut_string)

set_option linter.unusedVariables false in
set_option maxRecDepth 100000 in
theorem lifted (os : Os) (started : os.Started) (H : Type) (enc : TypeId × Value → H) :
    ReturnsInHanded {} Try.checked os 8 .any (Rows.sumTurnedSpec.pre6 enc Try.prog Try.f8 Rows.sumTurnedRow.domain false) (Rows.sumTurnedSpec.post enc Try.prog Try.f8 false true false false) := by
  refine returnsInHanded_of_change (C := Try.checked) own started (by kernel_rfl) Try.func8
    (ChangeSpec.witness6 (enc := enc) (C := Try.checked) false ⟨#[], #[.slice none 0 0, .int .i64 0, .int .u8 0, .int .u8 0], []⟩ 8 (by kernel_rfl) (by kernel_rfl) (by kernel_rfl) (by kernel_rfl)) ?_
  intro W base args ds gs before hval0 hW hcnd _
  have hval : ∀ (j : Nat) t v, Try.f8.params[j]? = some t → args[j]? = some v → Value.okWide Try.prog W .any base t v := hval0
  have hW' := hW
  obtain ⟨p, q, hA0, hV, rfl, hfz, hnd⟩ := hW
  have hA : DataW.TrodAll enc Try.prog W 0 (fun _ => true) true Try.f8.params.toList args.toList ds p := hA0
  rw [Try.params8] at hA hval
  obtain ⟨v0, vs0, d0, ds0, p0, q0, hargs, rfl, rfl, h0, r'0⟩ := trodAll_cons hA
  obtain ⟨v1, vs1, d1, ds1, p1, q1, rfl, rfl, rfl, h1, r'1⟩ := trodAll_cons r'0
  obtain ⟨v2, vs2, d2, ds2, p2, q2, rfl, rfl, rfl, h2, r'2⟩ := trodAll_cons r'1
  obtain ⟨v3, vs3, d3, ds3, p3, q3, rfl, rfl, rfl, h3, r'3⟩ := trodAll_cons r'2
  obtain ⟨rfl, rfl, rfl⟩ := trodAll_nil r'3
  obtain rfl : args = #[v0, v1, v2, v3] := by cases args; simp_all
  obtain ⟨rfl, rfl⟩ := trodVars_none hV
  have k0 := h0
  have lt0 : ∀ x ∈ p0, x.block < W.heap.size := by obtain ⟨m, hm⟩ := k0; exact DataW.trod_lt m _ _ _ hm
  obtain ⟨a0, n0, c0, rfl⟩ := okWide_slice Try.underlying22 (hval 0 22 v0 rfl rfl)
  obtain ⟨l0, r0, e0, b0, m0⟩ := openBytes Try.underlying22 Try.underlying5 (by kernel_rfl) h0
  have k1 := h1
  have lt1 : ∀ x ∈ p1, x.block < W.heap.size := by obtain ⟨m, hm⟩ := k1; exact DataW.trod_lt m _ _ _ hm
  obtain ⟨x1, rfl, rfl, rfl, f1⟩ := open_int Try.underlying3 (hval 1 3 v1 rfl rfl) h1
  have k2 := h2
  have lt2 : ∀ x ∈ p2, x.block < W.heap.size := by obtain ⟨m, hm⟩ := k2; exact DataW.trod_lt m _ _ _ hm
  obtain ⟨x2, rfl, rfl, rfl, f2⟩ := open_int Try.underlying5 (hval 2 5 v2 rfl rfl) h2
  have k3 := h3
  have lt3 : ∀ x ∈ p3, x.block < W.heap.size := by obtain ⟨m, hm⟩ := k3; exact DataW.trod_lt m _ _ _ hm
  obtain ⟨x3, rfl, rfl, rfl, f3⟩ := open_int Try.underlying5 (hval 3 5 v3 rfl rfl) h3
  clear hA0 hval0
  refine (sumTurned_walk a0 n0 c0 l0 x1 x2 x3 W r0 e0 b0 m0 f1 f2 f3).mono fun e W' ⟨he, bel⟩ => ?_
  subst he
  exact ⟨_, rfl, _, _, _, [], _, [], hW', trodAll_mk1 (shut_bool Try.underlying4 _), (trodAll_cons_mk (Below.trod laidOut (by kernel_rfl) (of_decide_eq_true (by kernel_rfl)) k0 bel lt0) (trodAll_cons_mk (Below.trod laidOut (by kernel_rfl) (of_decide_eq_true (by kernel_rfl)) k1 bel lt1) (trodAll_cons_mk (Below.trod laidOut (by kernel_rfl) (of_decide_eq_true (by kernel_rfl)) k2 bel lt2) (trodAll_cons_mk (Below.trod laidOut (by kernel_rfl) (of_decide_eq_true (by kernel_rfl)) k3 bel lt3) trodAll_mk0)))), rfl, bel.frame _, fun h => by cases h⟩

theorem over : Rows.sumTurnedRow.holds Try.pinned (OpenSpec.ofChange Rows.sumTurnedSpec) :=
  OpenClaim.holds_of_wide 8 Try.f8 rfl rfl rfl rfl rfl rfl rfl ⟨rfl, rfl, rfl, rfl, rfl⟩ rfl rfl rfl rfl rfl (by kernel_rfl) Try.func8 (by kernel_rfl)
    (of_decide_eq_true (by kernel_rfl)) (by unfold Func.isWrapper; first | (rw [if_pos (by decide +kernel)]; kernel_rfl) | (rw [if_neg (by decide +kernel)]; exact ⟨rfl, rfl⟩))
    (fun os started H enc _ => lifted os started H enc)

/-- The statement. -/
theorem proved : Rows.SumTurnedSaid := over
#print axioms proved
end Go.Proofs.Ythjnlngpgleplaa.sumTurned
