/- SumLinear: three rows of one length that cancel out have sums that do.. No condition. -/
import Derived.Test.YthjnlngpgleplaaLinear
import Derived.Test.YthjnlngpgleplaaMono
import Derived.Test.YthjnlngpgleplaaOpen
namespace Go.Proofs.Ythjnlngpgleplaa
open Go.RowKit

def Zeros (n : Nat) : Value → World → Prop := fun v w => ∃ A c, v = .slice A n c ∧ ∃ w1, Rd w1 w1.heap.size A (bv (List.replicate n 0)) ∧ Below w1.heap.size w1 w
theorem pers_zeros (n : Nat) : Pers (Zeros n) := by
  rintro v w w' ⟨A, c, e, w1, hr, hb⟩ hb'
  exact ⟨A, c, e, w1, hr, hb.trans (hb'.mono hb.size)⟩
theorem zeros_bv (n : Nat) : (madeCells #[Value.int .u8 0] n).toList = bv (List.replicate n 0) := by
  rw [toList_madeCells_one]
  simp [bv]

set_option linter.unusedVariables false in
set_option maxHeartbeats 800000 in
theorem sumLinear_walk (a0 : Option Addr) (n0 c0 : Nat) (l0 : List UInt8) (a1 : Option Addr) (n1 c1 : Nat) (l1 : List UInt8) (w : World) (r0 : Rd w w.heap.size a0 (bv l0)) (e0 : l0.length = n0) (b0 : n0 ≤ c0) (m0 : c0 ≤ maxLen) (r1 : Rd w w.heap.size a1 (bv l1)) (e1 : l1.length = n1) (b1 : n1 ≤ c1) (m1 : c1 ≤ maxLen) :
    Calls Try.prog 5 #[.slice a0 n0 c0, .slice a1 n1 c1] w fun e w' => e = .returned (.bool true) ∧ Below w.heap.size w w' := by
  obtain ⟨n, hn0, hn1, hmn⟩ : ∃ n : Nat, n ≤ n0 ∧ n ≤ n1 ∧ min (n0 : Int) (n1 : Int) = (n : Int) := ⟨min n0 n1, by omega, by omega, by omega⟩
  have z0 : n0 ≤ 9223372036854775807 := by unfold maxLen at m0; omega
  have z1 : n1 ≤ 9223372036854775807 := by unfold maxLen at m1; omega
  have H := Lib.hid (And.intro (And.intro r0 e0) (And.intro r1 e1)); clear r0 e0 r1 e1 m0 m1
  by_cases hlong : 65536 < n
  · go_enter Try.func5, Try.ntmps5
    go_wp2_with fail
    go_ret
    exact ⟨rfl, Below.refl _ _⟩
  have hn : n ≤ 65536 := by omega
  clear hlong
  have hmk := fun W : World => run_make_row' (P := Try.prog) 22 5 (.int .u8 0) 1 Try.underlying22 u8_info rfl .i64 .i64 n (by omega) (by omega) W
  have hxl : n ≤ (mixed l0 l1).length := by
    have h1 := H.out.1.2
    have h2 := H.out.2.2
    simp [mixed]
    omega
  have HX := Lib.hid hxl; clear hxl
  go_enter Try.func5, Try.ntmps5
  go_wp2_with fail
  generalize hg : w.heap.size = g
  have HG := Lib.hid hg; clear hg
  go_loopw [7] (fun i wr => ∃ k : Nat, k ≤ n ∧ i = .int .i64 k ∧ wr.ownsRow w.heap.size 5 1 (.slice (some ⟨g, 0, none⟩) n n) n (bv (mixing l0 l1 n k)) ∧ Below w.heap.size w wr) (fun i _ => n - (intOf i).toNat)
  case atStart =>
    refine ⟨0, by omega, rfl, ?_, (Below.refl _ _).alloc (Nat.le_refl _) _⟩
    rw [mixing_start, ← zeros_bv, ← HG.out]
    exact World.ownsRow_lit w _ n (Nat.le_refl _) (by unfold maxLen; omega) (by rw [size_madeCells]; simp)
  case round =>
    obtain ⟨k, hk, rfl, hown, hb⟩ := hrel
    by_cases hlt : k < n
    · have hk0 : k < l0.length := by have := H.out.1.2; omega
      have hk1 : k < l1.length := by have := H.out.2.2; omega
      obtain ⟨bb, off, rfl, hbb, hc⟩ := (H.out.1.1.below hb (Nat.le_refl _)).at_ (k := k) (by rw [bv_length]; exact hk0)
      have hcell0 := hc k _ (bv_at l0 k hk0)
      clear hc
      obtain ⟨bb1, off1, rfl, hbb1, hc⟩ := (H.out.2.1.below hb (Nat.le_refl _)).at_ (k := k) (by rw [bv_length]; exact hk1)
      have hcell1 := hc k _ (bv_at l1 k hk1)
      clear hc
      obtain ⟨u, hu⟩ := mixing_old l0 l1 n k HX.out hlt
      have hcA := (hown.cellAt k (by omega)).trans hu
      have hfA := hown.frozenAt k
      obtain ⟨ho2, hg2⟩ := hown.stored k (.int .u8 (((l0[k]).toNat ^^^ (l1[k]).toNat : Nat) : Int))
      rw [mixing_set l0 l1 n k hk0 hk1 hlt] at ho2
      have hb2 := hb.trans (below_of_grown hown hg2 hb.size)
      have hx := u8_xor_nat (l0[k]).toNat (l1[k]).toNat (l0[k]).toNat_lt (l1[k]).toNat_lt
      have HO := Lib.hid (And.intro ho2 hb2); clear ho2 hb2 hg2 hown hu
      generalize (l0[k]).toNat = q0 at *
      generalize (l1[k]).toNat = q1 at *
      go_wp2_with fail
      go_region
      go_wp2_with fail
      go_roundw
      case rel => exact ⟨k + 1, by omega, by go_num, HO.out.1, ⟨HO.out.2.os, HO.out.2.tape, HO.out.2.output, HO.out.2.size, HO.out.2.block⟩⟩
      case measure => simp [intOf]; omega
    · obtain rfl : k = n := by omega
      have ell : (l0.take k).length = (l1.take k).length := by
        have h1 := H.out.1.2
        have h2 := H.out.2.2
        simp
        omega
      have elk : (l0.take k).length = k := by
        have h1 := H.out.1.2
        simp
        omega
      have hlin := moreN_linear (l0.take k) (l1.take k) ell
      rw [elk] at hlin
      have RA := Lib.hid (show Rd wr w.heap.size a0 (bv (l0.take k)) by rw [← bv_take]; exact (H.out.1.1.below hb (Nat.le_refl _)).take k)
      have RB := Lib.hid (show Rd wr w.heap.size a1 (bv (l1.take k)) by rw [← bv_take]; exact (H.out.2.1.below hb (Nat.le_refl _)).take k)
      have LA := Lib.hid elk
      have LB := Lib.hid (show (l1.take k).length = k by omega)
      have hRX := Rd.of_own hown
      rw [mixing_end, mixed_take] at hRX
      have RX := Lib.hid hRX; clear hRX
      have LX := Lib.hid (show (mixed (l0.take k) (l1.take k)).length = k by simp [mixed]; have h1 := H.out.1.2; have h2 := H.out.2.2; omega)
      clear elk ell
      obtain ⟨s0, hs0⟩ : ∃ s0, moreN 0 (l0.take k) = s0 := ⟨_, rfl⟩
      obtain ⟨s1, hs1⟩ : ∃ s1, moreN 0 (l1.take k) = s1 := ⟨_, rfl⟩
      obtain ⟨s2, hs2⟩ : ∃ s2, moreN 0 (mixed (l0.take k) (l1.take k)) = s2 := ⟨_, rfl⟩
      obtain ⟨s3, hs3⟩ : ∃ s3, moreN 0 (List.replicate k 0) = s3 := ⟨_, rfl⟩
      have g0 : s0 < 4294967296 := by rw [← hs0]; exact moreN_lt _ (by omega)
      have g1 : s1 < 4294967296 := by rw [← hs1]; exact moreN_lt _ (by omega)
      have g2 : s2 < 4294967296 := by rw [← hs2]; exact moreN_lt _ (by omega)
      have g3 : s3 < 4294967296 := by rw [← hs3]; exact moreN_lt _ (by omega)
      rw [hs0, hs1, hs2, hs3] at hlin
      have S0 := Lib.hid hs0; clear hs0
      have S1 := Lib.hid hs1; clear hs1
      have S2 := Lib.hid hs2; clear hs2
      have S3 := Lib.hid hs3; clear hs3
      have x1 := i64_xor_nat s0 s1 g0 g1
      have x2 := i64_xor_nat _ s2 (xor_lt32 g0 g1) g2
      have x3 := i64_xor_nat _ s3 (xor_lt32 (xor_lt32 g0 g1) g2) g3
      rw [hlin] at x3
      clear hlin g0 g1 g2 g3
      generalize s0 ^^^ s1 = s01 at *
      generalize s01 ^^^ s2 = s012 at *
      have HO := Lib.hid hown; clear hown
      go_wp2_with fail
      refine wp_region_mono' (by kernel_rfl) (by kernel_rfl) ?_
      iterate 15 (refine ex_det ?_; apply Exists.intro)
      refine ex_free (Zeros k) ?_
      iterate 5 (refine ex_det ?_; apply Exists.intro)
      refine ex_nil ⟨?pers, ?walk⟩
      case walk =>
        apply mwalk_det (by kernel_rfl) (by intro t w h; cases h; exact trivial) rfl
        · intro W hW hF
          go_wp2_with fail
          refine (sums_any _).mono ?_
          rintro e w3 ⟨rfl, hb3⟩
          go_wp2_with fail
          exact ⟨rfl, _, rfl, hW.trans (hb3.mono hW.size), hb3, rfl⟩
        simp only [Act.put, List.setIfInBounds_toArray, List.set_cons_zero, List.set_cons_succ]
        iterate 4
          apply mwalk_det (by kernel_rfl) (by intro t w h; cases h; exact trivial) rfl
          · intro W hW hF
            go_wp2_with fail
            exact ⟨rfl, _, rfl, hW, Below.refl _ _, rfl⟩
          simp only [Act.put, List.setIfInBounds_toArray, List.set_cons_zero, List.set_cons_succ]
        apply mwalk_det (by kernel_rfl) (by intro t w h; cases h; exact trivial) rfl
        · intro W hW hF
          go_wp2_with fail
          refine (sum_any a0 k c0 _ (l0.take k) W (RA.out.below hW hb.size) LA.out (by omega)).mono ?_
          rintro e w3 ⟨rfl, rfl⟩
          rw [S0.out]
          go_wp2_with fail
          exact ⟨rfl, _, rfl, hW, Below.refl _ _, rfl⟩
        simp only [Act.put, List.setIfInBounds_toArray, List.set_cons_zero, List.set_cons_succ]
        iterate 3
          apply mwalk_det (by kernel_rfl) (by intro t w h; cases h; exact trivial) rfl
          · intro W hW hF
            go_wp2_with fail
            exact ⟨rfl, _, rfl, hW, Below.refl _ _, rfl⟩
          simp only [Act.put, List.setIfInBounds_toArray, List.set_cons_zero, List.set_cons_succ]
        apply mwalk_det (by kernel_rfl) (by intro t w h; cases h; exact trivial) rfl
        · intro W hW hF
          go_wp2_with fail
          refine (sum_any a1 k c1 _ (l1.take k) W (RB.out.below hW hb.size) LB.out (by omega)).mono ?_
          rintro e w3 ⟨rfl, rfl⟩
          rw [S1.out]
          go_wp2_with fail
          exact ⟨rfl, _, rfl, hW, Below.refl _ _, rfl⟩
        simp only [Act.put, List.setIfInBounds_toArray, List.set_cons_zero, List.set_cons_succ]
        iterate 2
          apply mwalk_det (by kernel_rfl) (by intro t w h; cases h; exact trivial) rfl
          · intro W hW hF
            go_wp2_with fail
            exact ⟨rfl, _, rfl, hW, Below.refl _ _, rfl⟩
          simp only [Act.put, List.setIfInBounds_toArray, List.set_cons_zero, List.set_cons_succ]
        apply mwalk_det (by kernel_rfl) (by intro t w h; cases h; exact trivial) rfl
        · intro W hW hF
          go_wp2_with fail
          refine (sum_any _ k k _ (mixed (l0.take k) (l1.take k)) W (RX.out.below hW (Nat.le_refl _)) LX.out (by omega)).mono ?_
          rintro e w3 ⟨rfl, rfl⟩
          rw [S2.out]
          go_wp2_with fail
          exact ⟨rfl, _, rfl, hW, Below.refl _ _, rfl⟩
        simp only [Act.put, List.setIfInBounds_toArray, List.set_cons_zero, List.set_cons_succ]
        iterate 2
          apply mwalk_det (by kernel_rfl) (by intro t w h; cases h; exact trivial) rfl
          · intro W hW hF
            go_wp2_with fail
            exact ⟨rfl, _, rfl, hW, Below.refl _ _, rfl⟩
          simp only [Act.put, List.setIfInBounds_toArray, List.set_cons_zero, List.set_cons_succ]
        refine ⟨fun W hW hF => ?_, fun v49 => ?_⟩
        · go_wp2_with fail
          have hba := (Below.refl W.heap.size W).alloc (Nat.le_refl _) (.cells (madeCells #[Value.int .u8 0] k) 5)
          refine ⟨rfl, _, rfl, hW.trans (hba.mono hW.size), hba, _, k, rfl, _, ?_, Below.refl _ _⟩
          rw [← zeros_bv]
          exact Rd.of_own (World.ownsRow_lit W _ k (Nat.le_refl _) (by unfold maxLen; omega) (by rw [size_madeCells]; simp))
        simp only [Act.put, List.setIfInBounds_toArray, List.set_cons_zero, List.set_cons_succ]
        apply mwalk_det (by kernel_rfl) (by intro t w h; cases h; exact trivial) rfl
        · intro W hW hF
          have f49 := hF 49 (of_decide_eq_true (by kernel_rfl))
          obtain ⟨A, c, rfl, w3, hr, hbz⟩ := f49
          go_wp2_with fail
          refine (sum_any A k c _ (List.replicate k 0) W (hr.below hbz (Nat.le_refl _)) (by simp) (by omega)).mono ?_
          rintro e w3 ⟨rfl, rfl⟩
          rw [S3.out]
          go_wp2_with fail
          exact ⟨rfl, _, rfl, hW, Below.refl _ _, rfl⟩
        simp only [Act.put, List.setIfInBounds_toArray, List.set_cons_zero, List.set_cons_succ]
        iterate 4
          apply mwalk_det (by kernel_rfl) (by intro t w h; cases h; exact trivial) rfl
          · intro W hW hF
            go_wp2_with fail
            exact ⟨rfl, _, rfl, hW, Below.refl _ _, rfl⟩
          simp only [Act.put, List.setIfInBounds_toArray, List.set_cons_zero, List.set_cons_succ]
        intro W hW hF
        go_wp2_with fail
        go_ret
        exact ⟨rfl, hb.trans (hW.mono hb.size)⟩
      case pers => exact ⟨pers_isV _, pers_isV _, pers_isV _, pers_isV _, pers_isV _, pers_isV _, pers_isV _, pers_isV _, pers_isV _, pers_isV _, pers_isV _, pers_isV _, pers_isV _, pers_isV _, pers_isV _, pers_zeros _, pers_isV _, pers_isV _, pers_isV _, pers_isV _, pers_isV _, trivial⟩

end Go.Proofs.Ythjnlngpgleplaa
namespace Go.Proofs.Ythjnlngpgleplaa.sumLinear
open Go.ChangeShapes Go.WideShapes Go.ChangeAt Go.RowKit
open Go.ChangeMaps (open_string shut_string)

set_option linter.unusedVariables false in
set_option maxRecDepth 100000 in
theorem lifted (os : Os) (started : os.Started) (H : Type) (enc : TypeId × Value → H) :
    ReturnsInHanded {} Try.checked os 5 .any (Rows.sumLinearSpec.pre6 enc Try.prog Try.f5 Rows.sumLinearRow.domain false) (Rows.sumLinearSpec.post enc Try.prog Try.f5 false true false false) := by
  refine returnsInHanded_of_change (C := Try.checked) own started (by kernel_rfl) Try.func5
    (ChangeSpec.witness6 (enc := enc) (C := Try.checked) false ⟨#[], #[.slice none 0 0, .slice none 0 0], []⟩ 8 (by kernel_rfl) (by kernel_rfl) (by kernel_rfl) (by kernel_rfl)) ?_
  intro W base args ds gs before hval0 hW hcnd _
  have hval : ∀ (j : Nat) t v, Try.f5.params[j]? = some t → args[j]? = some v → Value.okWide Try.prog W .any base t v := hval0
  have hW' := hW
  obtain ⟨p, q, hA0, hV, rfl, hfz, hnd⟩ := hW
  have hA : DataW.TrodAll enc Try.prog W 0 (fun _ => true) true Try.f5.params.toList args.toList ds p := hA0
  rw [Try.params5] at hA hval
  obtain ⟨v0, vs0, d0, ds0, p0, q0, hargs, rfl, rfl, h0, r'0⟩ := trodAll_cons hA
  obtain ⟨v1, vs1, d1, ds1, p1, q1, rfl, rfl, rfl, h1, r'1⟩ := trodAll_cons r'0
  obtain ⟨rfl, rfl, rfl⟩ := trodAll_nil r'1
  obtain rfl : args = #[v0, v1] := by cases args; simp_all
  obtain ⟨rfl, rfl⟩ := trodVars_none hV
  have k0 := h0
  have lt0 : ∀ x ∈ p0, x.block < W.heap.size := by obtain ⟨m, hm⟩ := k0; exact DataW.trod_lt m _ _ _ hm
  obtain ⟨a0, n0, c0, rfl⟩ := okWide_slice Try.underlying22 (hval 0 22 v0 rfl rfl)
  obtain ⟨l0, r0, e0, b0, m0⟩ := openBytes Try.underlying22 Try.underlying5 (by kernel_rfl) h0
  have k1 := h1
  have lt1 : ∀ x ∈ p1, x.block < W.heap.size := by obtain ⟨m, hm⟩ := k1; exact DataW.trod_lt m _ _ _ hm
  obtain ⟨a1, n1, c1, rfl⟩ := okWide_slice Try.underlying22 (hval 1 22 v1 rfl rfl)
  obtain ⟨l1, r1, e1, b1, m1⟩ := openBytes Try.underlying22 Try.underlying5 (by kernel_rfl) h1
  clear hA0 hval0
  refine (sumLinear_walk a0 n0 c0 l0 a1 n1 c1 l1 W r0 e0 b0 m0 r1 e1 b1 m1).mono fun e W' ⟨he, bel⟩ => ?_
  subst he
  exact ⟨_, rfl, _, _, _, [], _, [], hW', trodAll_mk1 (shut_bool Try.underlying4 _), (trodAll_cons_mk (Below.trod laidOut (by kernel_rfl) (of_decide_eq_true (by kernel_rfl)) k0 bel lt0) (trodAll_cons_mk (Below.trod laidOut (by kernel_rfl) (of_decide_eq_true (by kernel_rfl)) k1 bel lt1) trodAll_mk0)), rfl, bel.frame _, fun h => by cases h⟩

theorem over : Rows.sumLinearRow.holds Try.pinned (OpenSpec.ofChange Rows.sumLinearSpec) :=
  OpenClaim.holds_of_wide 5 Try.f5 rfl rfl rfl rfl rfl rfl rfl ⟨rfl, rfl, rfl, rfl, rfl⟩ rfl rfl rfl rfl rfl (by kernel_rfl) Try.func5 (by kernel_rfl)
    (of_decide_eq_true (by kernel_rfl)) (by unfold Func.isWrapper; first | (rw [if_pos (by decide +kernel)]; kernel_rfl) | (rw [if_neg (by decide +kernel)]; exact ⟨rfl, rfl⟩))
    (fun os started H enc _ => lifted os started H enc)

/-- The statement. -/
theorem proved : Rows.SumLinearSaid := over
#print axioms proved
end Go.Proofs.Ythjnlngpgleplaa.sumLinear
