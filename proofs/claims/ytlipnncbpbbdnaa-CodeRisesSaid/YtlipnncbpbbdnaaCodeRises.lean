/- CodeRises: of two numbers the lesser one's bytes are ahead: the law returns true at every input. No condition. -/
import Derived.Test.YtlipnncbpbbdnaaPuts
import Derived.Test.YtlipnncbpbbdnaaLess
import Derived.Test.YtlipnncbpbbdnaaMono
import Derived.Test.YtlipnncbpbbdnaaOpen
namespace Go.Proofs.Ytlipnncbpbbdnaa
open Go.RowKit

/-- PutNumber onto nothing: the four bytes, or ErrArg. -/
def PutNil (u : Int) (w w' : World) (A : Option Addr) (n : Nat) (e : Int) : Prop :=
  Below w.heap.size w w' ∧ ((e = 0 ∧ 0 ≤ u ∧ u ≤ 2147483647 ∧ n = 4 ∧ Rd w' w'.heap.size A (bv (beN 4 u.toNat))) ∨ e = 1)
theorem putNumber_nil (u : Int) (w : World) :
    Calls Try.prog 13 #[.slice none 0 0, .int .i64 u] w fun e w' => ∃ A n c x, e = .returned (.tuple #[.slice A n c, .int .i64 x]) ∧ PutNil u w w' A n x := by
  by_cases hx : 0 ≤ u ∧ u ≤ 2147483647
  · obtain ⟨k, rfl⟩ := Int.eq_ofNat_of_zero_le hx.1
    refine (putNumber_ok none 0 0 [] k w Rd.nil rfl (by omega) (by omega)).mono ?_
    rintro e w1 ⟨v, rfl, hown, hb⟩
    rw [← bv_append] at hown
    obtain ⟨A1, c1, rfl, hr1, hl1, _, _⟩ := own_rd hown
    exact ⟨A1, 4, c1, 0, rfl, hb, .inl ⟨rfl, by omega, by omega, rfl, hr1⟩⟩
  · refine (putNumber_no none 0 0 u w (by omega)).mono ?_
    rintro e w1 ⟨rfl, rfl⟩
    exact ⟨none, 0, 0, 1, rfl, Below.refl _ _, .inr rfl⟩

theorem putInt_nil (u : Int) (w : World) :
    Calls Try.prog 19 #[.slice none 0 0, .int .i64 u] w fun e w' => ∃ A c, e = .returned (.slice A 8 c) ∧ Rd w' w'.heap.size A (bv (beN 8 (word u))) ∧ Below w.heap.size w w' := by
  refine (putInt_any none 0 0 [] u w Rd.nil rfl (by omega)).mono ?_
  rintro e w1 ⟨v, rfl, hown, hb⟩
  rw [← bv_append] at hown
  obtain ⟨A1, c1, rfl, hr1, hl1, _, _⟩ := own_rd hown
  exact ⟨A1, c1, rfl, hr1, hb⟩

/-- A slice that reads as the eight bytes of n. -/
def Word8 (n : Int) : Value → World → Prop := fun v w => ∃ A c, v = .slice A 8 c ∧ ∃ w1, Rd w1 w1.heap.size A (bv (beN 8 (word n))) ∧ Below w1.heap.size w1 w
theorem pers_word8 (n : Int) : Pers (Word8 n) := by
  rintro v w w' ⟨A, c, e, w1, hr, hb⟩ hb'
  exact ⟨A, c, e, w1, hr, hb.trans (hb'.mono hb.size)⟩
theorem conv_later {A : Option Addr} {n : Int} {w1 : World} (hr : Rd w1 w1.heap.size A (bv (beN 8 (word n)))) (c : Nat) : ∀ W, Below w1.heap.size w1 W →
    Sem.run Try.prog (convert 22 9 (.slice A 8 c)) W = .ok (.string ⟨(beN 8 (word n)).toArray⟩) W := fun W hb =>
  conv_rd (P := Try.prog) W 22 9 5 Try.underlying22 Try.underlying5 Try.underlying9 _ A 8 c _ (hr.below hb (Nat.le_refl _)) (by simp [beN, beP])

set_option linter.unusedVariables false in
set_option maxHeartbeats 800000 in
theorem codeRises_walk (x0 : Int) (x1 : Int) (w : World) (f0 : (Lit.int .i64 x0).wf = true) (f1 : (Lit.int .i64 x1).wf = true) :
    Calls Try.prog 6 #[.int .i64 x0, .int .i64 x1] w fun e w' => e = .returned (.bool true) ∧ Below w.heap.size w w' := by
  have wa := bounds_i64 f0
  have wb := bounds_i64 f1
  clear f0 f1
  go_enter Try.func6, Try.ntmps6
  go_wp2_with fail
  refine (putNumber_nil x0 w).mono ?_
  rintro e w1 ⟨A1, n1, c1, y1, rfl, h1⟩
  have H1 := Lib.hid h1; clear h1
  go_wp2_with fail
  refine (putNumber_nil x1 w1).mono ?_
  rintro e w2 ⟨A2, n2, c2, y2, rfl, h2⟩
  have H2 := Lib.hid h2; clear h2
  go_upto_region 3 with fail
  go_cut [9] (fun s9 wx => s9 = .bool true ∧ wx = w2)
  case first =>
    rcases H1.out.2 with ⟨rfl, ha1, ha2, rfl, hr1⟩ | rfl
    · rcases H2.out.2 with ⟨rfl, hb1, hb2, rfl, hr2⟩ | rfl
      · have hcv1 := conv_rd (P := Try.prog) w2 22 9 5 Try.underlying22 Try.underlying5 Try.underlying9 _ A1 4 c1 _ (hr1.below H2.out.1 (Nat.le_refl _)) (by simp [beN, beP])
        have hcv2 := conv_rd (P := Try.prog) w2 22 9 5 Try.underlying22 Try.underlying5 Try.underlying9 _ A2 4 c2 _ hr2 (by simp [beN, beP])
        have hless : Op.bytesLess (beN 4 x0.toNat) (beN 4 x1.toNat) = decide (x0 < x1) := by
          rw [less_four _ _ (by omega) (by omega), Bool.eq_iff_iff]
          simp only [decide_eq_true_eq]
          omega
        clear hr1 hr2
        go_wp2_with fail
        go_meet
        case rel => exact ⟨by simp, rfl⟩
      · go_wp2_with fail
        go_meet
        case rel => exact ⟨rfl, rfl⟩
    · go_wp2_with fail
      go_meet
      case rel => exact ⟨rfl, rfl⟩
  case rest =>
    obtain ⟨rfl, rfl⟩ := hcut
    have hb02 := H1.out.1.trans (H2.out.1.mono H1.out.1.size)
    clear H1 H2
    go_wp2_with fail
    by_cases hs : (x0 < 0) ↔ (x1 < 0)
    · have hless := less_word x0 x1 wa wb hs
      clear wa wb
      by_cases hn : x0 < 0
      · have hn1 := hs.1 hn
        clear hs
        refine wp_region_mono' (by kernel_rfl) (by kernel_rfl) ?_
        iterate 12 (refine ex_det ?_; apply Exists.intro)
        refine ex_free (Word8 x0) ?_
        iterate 2 (refine ex_det ?_; apply Exists.intro)
        refine ex_free (Word8 x1) ?_
        iterate 9 (refine ex_det ?_; apply Exists.intro)
        refine ex_nil ⟨?pers, ?walk⟩
        case walk =>
          apply mwalk_det (by kernel_rfl) (by intro t w h; cases h; exact trivial) rfl
          · intro W hW hF
            go_wp2_with fail
            refine (puts_any _).mono ?_
            rintro e w3 ⟨rfl, hb⟩
            go_wp2_with fail
            exact ⟨rfl, _, rfl, hW.trans (hb.mono hW.size), hb, rfl⟩
          simp only [Act.put, List.setIfInBounds_toArray, List.set_cons_zero, List.set_cons_succ]
          iterate 11
            apply mwalk_det (by kernel_rfl) (by intro t w h; cases h; exact trivial) rfl
            · intro W hW hF
              go_wp2_with fail
              exact ⟨rfl, _, rfl, hW, Below.refl _ _, rfl⟩
            simp only [Act.put, List.setIfInBounds_toArray, List.set_cons_zero, List.set_cons_succ]
          refine ⟨fun W hW hF => ?_, fun v49 => ?_⟩
          · go_wp2_with fail
            refine (putInt_nil x0 _).mono ?_
            rintro e w3 ⟨A, c, rfl, hr, hb⟩
            go_wp2_with fail
            exact ⟨rfl, _, rfl, hW.trans (hb.mono hW.size), hb, A, c, rfl, _, hr, Below.refl _ _⟩
          simp only [Act.put, List.setIfInBounds_toArray, List.set_cons_zero, List.set_cons_succ]
          apply mwalk_det (by kernel_rfl) (by intro t w h; cases h; exact trivial) rfl
          · intro W hW hF
            have f49 := hF 49 (of_decide_eq_true (by kernel_rfl))
            obtain ⟨A, c, rfl, w3, hr, hb⟩ := f49
            have hcv := conv_later hr c W hb
            go_wp2_with fail
            exact ⟨rfl, _, rfl, hW, Below.refl _ _, rfl⟩
          simp only [Act.put, List.setIfInBounds_toArray, List.set_cons_zero, List.set_cons_succ]
          iterate 1
            apply mwalk_det (by kernel_rfl) (by intro t w h; cases h; exact trivial) rfl
            · intro W hW hF
              go_wp2_with fail
              exact ⟨rfl, _, rfl, hW, Below.refl _ _, rfl⟩
            simp only [Act.put, List.setIfInBounds_toArray, List.set_cons_zero, List.set_cons_succ]
          refine ⟨fun W hW hF => ?_, fun v52 => ?_⟩
          · go_wp2_with fail
            refine (putInt_nil x1 _).mono ?_
            rintro e w3 ⟨A, c, rfl, hr, hb⟩
            go_wp2_with fail
            exact ⟨rfl, _, rfl, hW.trans (hb.mono hW.size), hb, A, c, rfl, _, hr, Below.refl _ _⟩
          simp only [Act.put, List.setIfInBounds_toArray, List.set_cons_zero, List.set_cons_succ]
          apply mwalk_det (by kernel_rfl) (by intro t w h; cases h; exact trivial) rfl
          · intro W hW hF
            have f52 := hF 52 (of_decide_eq_true (by kernel_rfl))
            obtain ⟨A, c, rfl, w3, hr, hb⟩ := f52
            have hcv := conv_later hr c W hb
            go_wp2_with fail
            exact ⟨rfl, _, rfl, hW, Below.refl _ _, rfl⟩
          simp only [Act.put, List.setIfInBounds_toArray, List.set_cons_zero, List.set_cons_succ]
          iterate 8
            apply mwalk_det (by kernel_rfl) (by intro t w h; cases h; exact trivial) rfl
            · intro W hW hF
              go_wp2_with fail
              exact ⟨rfl, _, rfl, hW, Below.refl _ _, rfl⟩
            simp only [Act.put, List.setIfInBounds_toArray, List.set_cons_zero, List.set_cons_succ]
          intro W hW hF
          go_wp2_with fail
          go_ret
          exact ⟨rfl, hb02.trans (hW.mono hb02.size)⟩
        case pers => exact ⟨pers_isV _, pers_isV _, pers_isV _, pers_isV _, pers_isV _, pers_isV _, pers_isV _, pers_isV _, pers_isV _, pers_isV _, pers_isV _, pers_isV _, pers_word8 _, pers_isV _, pers_isV _, pers_word8 _, pers_isV _, pers_isV _, pers_isV _, pers_isV _, pers_isV _, pers_isV _, pers_isV _, pers_isV _, pers_isV _, trivial⟩
      · have hn0 : decide (x0 < 0) = false := by simp; omega
        have hn1 : decide (x1 < 0) = false := by simp; omega
        clear hs hn
        refine wp_region_mono' (by kernel_rfl) (by kernel_rfl) ?_
        iterate 12 (refine ex_det ?_; apply Exists.intro)
        refine ex_free (Word8 x0) ?_
        iterate 2 (refine ex_det ?_; apply Exists.intro)
        refine ex_free (Word8 x1) ?_
        iterate 9 (refine ex_det ?_; apply Exists.intro)
        refine ex_nil ⟨?pers, ?walk⟩
        case walk =>
          apply mwalk_det (by kernel_rfl) (by intro t w h; cases h; exact trivial) rfl
          · intro W hW hF
            go_wp2_with fail
            refine (puts_any _).mono ?_
            rintro e w3 ⟨rfl, hb⟩
            go_wp2_with fail
            exact ⟨rfl, _, rfl, hW.trans (hb.mono hW.size), hb, rfl⟩
          simp only [Act.put, List.setIfInBounds_toArray, List.set_cons_zero, List.set_cons_succ]
          iterate 11
            apply mwalk_det (by kernel_rfl) (by intro t w h; cases h; exact trivial) rfl
            · intro W hW hF
              go_wp2_with fail
              exact ⟨rfl, _, rfl, hW, Below.refl _ _, rfl⟩
            simp only [Act.put, List.setIfInBounds_toArray, List.set_cons_zero, List.set_cons_succ]
          refine ⟨fun W hW hF => ?_, fun v49 => ?_⟩
          · go_wp2_with fail
            refine (putInt_nil x0 _).mono ?_
            rintro e w3 ⟨A, c, rfl, hr, hb⟩
            go_wp2_with fail
            exact ⟨rfl, _, rfl, hW.trans (hb.mono hW.size), hb, A, c, rfl, _, hr, Below.refl _ _⟩
          simp only [Act.put, List.setIfInBounds_toArray, List.set_cons_zero, List.set_cons_succ]
          apply mwalk_det (by kernel_rfl) (by intro t w h; cases h; exact trivial) rfl
          · intro W hW hF
            have f49 := hF 49 (of_decide_eq_true (by kernel_rfl))
            obtain ⟨A, c, rfl, w3, hr, hb⟩ := f49
            have hcv := conv_later hr c W hb
            go_wp2_with fail
            exact ⟨rfl, _, rfl, hW, Below.refl _ _, rfl⟩
          simp only [Act.put, List.setIfInBounds_toArray, List.set_cons_zero, List.set_cons_succ]
          iterate 1
            apply mwalk_det (by kernel_rfl) (by intro t w h; cases h; exact trivial) rfl
            · intro W hW hF
              go_wp2_with fail
              exact ⟨rfl, _, rfl, hW, Below.refl _ _, rfl⟩
            simp only [Act.put, List.setIfInBounds_toArray, List.set_cons_zero, List.set_cons_succ]
          refine ⟨fun W hW hF => ?_, fun v52 => ?_⟩
          · go_wp2_with fail
            refine (putInt_nil x1 _).mono ?_
            rintro e w3 ⟨A, c, rfl, hr, hb⟩
            go_wp2_with fail
            exact ⟨rfl, _, rfl, hW.trans (hb.mono hW.size), hb, A, c, rfl, _, hr, Below.refl _ _⟩
          simp only [Act.put, List.setIfInBounds_toArray, List.set_cons_zero, List.set_cons_succ]
          apply mwalk_det (by kernel_rfl) (by intro t w h; cases h; exact trivial) rfl
          · intro W hW hF
            have f52 := hF 52 (of_decide_eq_true (by kernel_rfl))
            obtain ⟨A, c, rfl, w3, hr, hb⟩ := f52
            have hcv := conv_later hr c W hb
            go_wp2_with fail
            exact ⟨rfl, _, rfl, hW, Below.refl _ _, rfl⟩
          simp only [Act.put, List.setIfInBounds_toArray, List.set_cons_zero, List.set_cons_succ]
          iterate 8
            apply mwalk_det (by kernel_rfl) (by intro t w h; cases h; exact trivial) rfl
            · intro W hW hF
              go_wp2_with fail
              exact ⟨rfl, _, rfl, hW, Below.refl _ _, rfl⟩
            simp only [Act.put, List.setIfInBounds_toArray, List.set_cons_zero, List.set_cons_succ]
          intro W hW hF
          go_wp2_with fail
          go_ret
          exact ⟨rfl, hb02.trans (hW.mono hb02.size)⟩
        case pers => exact ⟨pers_isV _, pers_isV _, pers_isV _, pers_isV _, pers_isV _, pers_isV _, pers_isV _, pers_isV _, pers_isV _, pers_isV _, pers_isV _, pers_isV _, pers_word8 _, pers_isV _, pers_isV _, pers_word8 _, pers_isV _, pers_isV _, pers_isV _, pers_isV _, pers_isV _, pers_isV _, pers_isV _, pers_isV _, pers_isV _, trivial⟩
    · clear wa wb
      by_cases hn : x0 < 0
      · have hn1 : decide (x1 < 0) = false := by simp; omega
        clear hs
        refine wp_region_mono' (by kernel_rfl) (by kernel_rfl) ?_
        iterate 25 (refine ex_det ?_; apply Exists.intro)
        refine ex_nil ⟨?pers, ?walk⟩
        case walk =>
          apply mwalk_det (by kernel_rfl) (by intro t w h; cases h; exact trivial) rfl
          · intro W hW hF
            go_wp2_with fail
            refine (puts_any _).mono ?_
            rintro e w3 ⟨rfl, hb⟩
            go_wp2_with fail
            exact ⟨rfl, _, rfl, hW.trans (hb.mono hW.size), hb, rfl⟩
          simp only [Act.put, List.setIfInBounds_toArray, List.set_cons_zero, List.set_cons_succ]
          iterate 24
            apply mwalk_det (by kernel_rfl) (by intro t w h; cases h; exact trivial) rfl
            · intro W hW hF
              go_wp2_with fail
              exact ⟨rfl, _, rfl, hW, Below.refl _ _, rfl⟩
            simp only [Act.put, List.setIfInBounds_toArray, List.set_cons_zero, List.set_cons_succ]
          intro W hW hF
          go_wp2_with fail
          go_ret
          exact ⟨rfl, hb02.trans (hW.mono hb02.size)⟩
        case pers => exact ⟨pers_isV _, pers_isV _, pers_isV _, pers_isV _, pers_isV _, pers_isV _, pers_isV _, pers_isV _, pers_isV _, pers_isV _, pers_isV _, pers_isV _, pers_isV _, pers_isV _, pers_isV _, pers_isV _, pers_isV _, pers_isV _, pers_isV _, pers_isV _, pers_isV _, pers_isV _, pers_isV _, pers_isV _, pers_isV _, trivial⟩
      · have hn0 : decide (x0 < 0) = false := by simp; omega
        have hn1 : x1 < 0 := by omega
        clear hs hn
        refine wp_region_mono' (by kernel_rfl) (by kernel_rfl) ?_
        iterate 25 (refine ex_det ?_; apply Exists.intro)
        refine ex_nil ⟨?pers, ?walk⟩
        case walk =>
          apply mwalk_det (by kernel_rfl) (by intro t w h; cases h; exact trivial) rfl
          · intro W hW hF
            go_wp2_with fail
            refine (puts_any _).mono ?_
            rintro e w3 ⟨rfl, hb⟩
            go_wp2_with fail
            exact ⟨rfl, _, rfl, hW.trans (hb.mono hW.size), hb, rfl⟩
          simp only [Act.put, List.setIfInBounds_toArray, List.set_cons_zero, List.set_cons_succ]
          iterate 24
            apply mwalk_det (by kernel_rfl) (by intro t w h; cases h; exact trivial) rfl
            · intro W hW hF
              go_wp2_with fail
              exact ⟨rfl, _, rfl, hW, Below.refl _ _, rfl⟩
            simp only [Act.put, List.setIfInBounds_toArray, List.set_cons_zero, List.set_cons_succ]
          intro W hW hF
          go_wp2_with fail
          go_ret
          exact ⟨rfl, hb02.trans (hW.mono hb02.size)⟩
        case pers => exact ⟨pers_isV _, pers_isV _, pers_isV _, pers_isV _, pers_isV _, pers_isV _, pers_isV _, pers_isV _, pers_isV _, pers_isV _, pers_isV _, pers_isV _, pers_isV _, pers_isV _, pers_isV _, pers_isV _, pers_isV _, pers_isV _, pers_isV _, pers_isV _, pers_isV _, pers_isV _, pers_isV _, pers_isV _, pers_isV _, trivial⟩

end Go.Proofs.Ytlipnncbpbbdnaa
namespace Go.Proofs.Ytlipnncbpbbdnaa.codeRises
open Go.ChangeShapes Go.WideShapes Go.ChangeAt Go.RowKit
open Go.ChangeMaps (open_string shut_string)

set_option linter.unusedVariables false in
set_option maxRecDepth 100000 in
theorem lifted (os : Os) (started : os.Started) (H : Type) (enc : TypeId × Value → H) :
    ReturnsInHanded {} Try.checked os 6 .any (Rows.codeRisesSpec.pre6 enc Try.prog Try.f6 Rows.codeRisesRow.domain false) (Rows.codeRisesSpec.post enc Try.prog Try.f6 false true false false) := by
  refine returnsInHanded_of_change (C := Try.checked) own started (by kernel_rfl) Try.func6
    (ChangeSpec.witness6 (enc := enc) (C := Try.checked) false ⟨#[], #[.int .i64 0, .int .i64 0], []⟩ 8 (by kernel_rfl) (by kernel_rfl) (by kernel_rfl) (by kernel_rfl)) ?_
  intro W base args ds gs before hval0 hW hcnd _
  have hval : ∀ (j : Nat) t v, Try.f6.params[j]? = some t → args[j]? = some v → Value.okWide Try.prog W .any base t v := hval0
  have hW' := hW
  obtain ⟨p, q, hA0, hV, rfl, hfz, hnd⟩ := hW
  have hA : DataW.TrodAll enc Try.prog W 0 (fun _ => true) true Try.f6.params.toList args.toList ds p := hA0
  rw [Try.params6] at hA hval
  obtain ⟨v0, vs0, d0, ds0, p0, q0, hargs, rfl, rfl, h0, r'0⟩ := trodAll_cons hA
  obtain ⟨v1, vs1, d1, ds1, p1, q1, rfl, rfl, rfl, h1, r'1⟩ := trodAll_cons r'0
  obtain ⟨rfl, rfl, rfl⟩ := trodAll_nil r'1
  obtain rfl : args = #[v0, v1] := by cases args; simp_all
  obtain ⟨rfl, rfl⟩ := trodVars_none hV
  have k0 := h0
  have lt0 : ∀ x ∈ p0, x.block < W.heap.size := by obtain ⟨m, hm⟩ := k0; exact DataW.trod_lt m _ _ _ hm
  obtain ⟨x0, rfl, rfl, rfl, f0⟩ := open_int Try.underlying3 (hval 0 3 v0 rfl rfl) h0
  have k1 := h1
  have lt1 : ∀ x ∈ p1, x.block < W.heap.size := by obtain ⟨m, hm⟩ := k1; exact DataW.trod_lt m _ _ _ hm
  obtain ⟨x1, rfl, rfl, rfl, f1⟩ := open_int Try.underlying3 (hval 1 3 v1 rfl rfl) h1
  clear hA0 hval0
  refine (codeRises_walk x0 x1 W f0 f1).mono fun e W' ⟨he, bel⟩ => ?_
  subst he
  exact ⟨_, rfl, _, _, _, [], _, [], hW', trodAll_mk1 (shut_bool Try.underlying4 _), (trodAll_cons_mk (Below.trod laidOut (by kernel_rfl) (of_decide_eq_true (by kernel_rfl)) k0 bel lt0) (trodAll_cons_mk (Below.trod laidOut (by kernel_rfl) (of_decide_eq_true (by kernel_rfl)) k1 bel lt1) trodAll_mk0)), rfl, bel.frame _, fun h => by cases h⟩

theorem over : Rows.codeRisesRow.holds Try.pinned (OpenSpec.ofChange Rows.codeRisesSpec) :=
  OpenClaim.holds_of_wide 6 Try.f6 rfl rfl rfl rfl rfl rfl rfl ⟨rfl, rfl, rfl, rfl, rfl⟩ rfl rfl rfl rfl rfl (by kernel_rfl) Try.func6 (by kernel_rfl)
    (of_decide_eq_true (by kernel_rfl)) (by unfold Func.isWrapper; first | (rw [if_pos (by decide +kernel)]; kernel_rfl) | (rw [if_neg (by decide +kernel)]; exact ⟨rfl, rfl⟩))
    (fun os started H enc _ => lifted os started H enc)

/-- The statement. -/
theorem proved : Rows.CodeRisesSaid := over
#print axioms proved
end Go.Proofs.Ytlipnncbpbbdnaa.codeRises
