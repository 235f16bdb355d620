/- The law's own row: joins. -/
import Derived.Test.YtdfjaephlabnhaaJoins
namespace Go.Proofs.Ytdfjaephlabnhaa
open Go.RowKit

theorem join_short (l : List Int) (x : ByteArray) (hl : l.length = 2) (size : Int) : joinE size l [x] = 100 := by
  have h : okAt size l [x] 1 = false := by
    simp only [okAt]
    rw [decide_eq_false (by rw [hl]; simp), Bool.and_false, Bool.false_and]
  unfold joinE
  show (if okAt size l [x] 1 then (0 : Int) else 100) = 100
  rw [h]; rfl
theorem row_pieces : [rowS 80, ⟨#[80]⟩] = pieces (rowS 81) := by decide +kernel

set_option linter.unusedSimpArgs false in
set_option maxHeartbeats 1600000 in
theorem joins_any (w : World) : Calls Try.prog 21 #[] w fun e w' => e = .returned (.bool true) ∧ Below w.heap.size w w' := by
  have HR := Lib.hid (fun W : World => row_any 81 W (by omega))
  have HR8 := Lib.hid (fun W : World => row_any 80 W (by omega))
  have HO := Lib.hid (fun W : World => of_ok (rowS 81) W (by decide))
  have hjp := join_pieces (rowS 81) (by decide)
  rw [← row_pieces] at hjp
  have hz8 : (rowS 80).size ≤ 1000000 := by decide
  have e1 : (rowS 81).size = 81 := by decide
  have e5 : nPieces (rowS 81).size = 2 := by decide
  have hln := iv_sums_length (rowS 81)
  rw [e5] at hln
  rw [e1] at hjp
  have hjq : joinR 81 (sumsOf (rowS 81)) [rowS 80, ⟨#[80]⟩] = rowS 81 ∧ joinE 81 (sumsOf (rowS 81)) [rowS 80, ⟨#[80]⟩] = 0 := hjp
  have HJ := Lib.hid (And.intro hjq.1 (And.intro hjq.2 (And.intro hln (And.intro e1 (And.intro e5 hz8)))))
  clear hjp hjq e1 e5 hln hz8
  have HS1 := Lib.hid (join_short (sumsOf (rowS 81)) (rowS 80) HJ.out.2.2.1 81)
  have EZ := Lib.hid (show joinR 0 [] [] = ⟨#[]⟩ ∧ joinE 0 [] [] = 0 from ⟨by decide +kernel, by decide +kernel⟩)
  generalize rowS 81 = r at *
  generalize rowS 80 = r8 at *
  go_enter Try.func21, Try.ntmps21
  go_wp2_with fail
  refine (HR.out w).mono ?_
  rintro e w1 ⟨rfl, hb1⟩
  have B1 := Lib.hid hb1; clear hb1
  go_wp2_with fail
  refine (HO.out w1).mono ?_
  rintro e w2 ⟨V, rfl, hown, hb2⟩
  rw [HJ.out.2.2.2.2.1] at hown
  obtain ⟨A2, c2, rfl, _, _⟩ := own_is_slice hown
  rw [HJ.out.2.2.2.1]
  have B2 := Lib.hid ((B1.out.trans (hb2.mono B1.out.size)).alloc (B1.out.trans (hb2.mono B1.out.size)).size (.cells #[.int .i64 81, .slice A2 2 c2] 24))
  have R2 := Lib.hid ((Rd.of_own hown).alloc (Nat.le_refl _) (.cells #[.int .i64 81, .slice A2 2 c2] 24))
  have T2 := Lib.hid (Two.new_at w2 _ rfl 24 (.int .i64 81) (.slice A2 2 c2))
  have hu := Try.underlying24
  clear hown hb2 hu
  go_wp2_with fail
  have S3 := Lib.hid (show w2.heap.size < (w2.alloc (.cells #[.int .i64 81, .slice A2 2 c2] 24)).heap.size by simp)
  generalize w2.alloc (.cells #[.int .i64 81, .slice A2 2 c2] 24) = w3 at *
  refine wp_region_mono' (by kernel_rfl) (by kernel_rfl) ?_
  iterate 2 (refine ex_det ?_; apply Exists.intro)
  refine ex_free (Strs 2 [r8, ⟨#[80]⟩]) ?_
  iterate 6 (refine ex_det ?_; apply Exists.intro)
  refine ex_nil ⟨?pers, ?walk⟩
  case walk =>
    apply mwalk_det (by kernel_rfl) (by intro t w h; cases h; exact trivial) rfl
    · intro W hW hF
      have q := T2.out.below hW S3.out
      have q0 := q.cell0
      have q1 := q.cell1
      clear q
      go_wp2_with fail
      exact ⟨rfl, _, rfl, hW, Below.refl _ _, rfl⟩
    simp only [Act.put, List.setIfInBounds_toArray, List.set_cons_zero, List.set_cons_succ]
    apply mwalk_det (by kernel_rfl) (by intro t w h; cases h; exact trivial) rfl
    · intro W hW hF
      go_wp2_with fail
      refine (HR8.out W).mono ?_
      rintro e w9 ⟨rfl, hb9⟩
      go_wp2_with fail
      exact ⟨rfl, _, rfl, hW.trans (hb9.mono hW.size), hb9, rfl⟩
    simp only [Act.put, List.setIfInBounds_toArray, List.set_cons_zero, List.set_cons_succ]
    refine ⟨fun W hW hF => ?_, fun v17 => ?_⟩
    · go_wp2_with fail
      have hba := (Below.refl W.heap.size W).alloc (Nat.le_refl _) (.cells #[.string r8, .string ⟨#[80]⟩] 9)
      exact ⟨rfl, _, rfl, hW.trans (hba.mono hW.size), hba, _, 2, rfl, Nat.le_refl _, _, strs_new W [r8, ⟨#[80]⟩] _ rfl _, Below.refl _ _⟩
    simp only [Act.put, List.setIfInBounds_toArray, List.set_cons_zero, List.set_cons_succ]
    apply mwalk_det (by kernel_rfl) (by intro t w h; cases h; exact trivial) rfl
    · intro W hW hF
      have f17 := hF 17 (of_decide_eq_true (by kernel_rfl))
      obtain ⟨A9, c9, rfl, hc9, w9, hr9, hb9⟩ := f17
      have HJN := Lib.hid (join_any 81 A2 A9 2 c2 _ 2 c9 _ (sumsOf r) [r8, ⟨#[80]⟩] W (R2.out.below hW (Nat.le_of_lt S3.out)) (Nat.le_trans (Nat.le_of_lt S3.out) hW.size) HJ.out.2.2.1 (by omega) (hr9.below hb9 (Nat.le_refl _)) hb9.size rfl hc9 (by omega) (by simp; exact ⟨HJ.out.2.2.2.2.2, by decide⟩))
      clear hr9 hb9 hc9
      go_wp2_with fail
      refine HJN.out.mono ?_
      rintro e w8 ⟨rfl, hb8⟩
      rw [HJ.out.1, HJ.out.2.1]
      go_wp2_with fail
      exact ⟨rfl, _, rfl, hW.trans (hb8.mono hW.size), hb8, rfl⟩
    simp only [Act.put, List.setIfInBounds_toArray, List.set_cons_zero, List.set_cons_succ]
    iterate 5
      apply mwalk_det (by kernel_rfl) (by intro t w h; cases h; exact trivial) rfl
      · intro W hW hF
        go_wp2_with fail
        exact ⟨rfl, _, rfl, hW, Below.refl _ _, rfl⟩
      simp only [Act.put, List.setIfInBounds_toArray, List.set_cons_zero, List.set_cons_succ]
    intro W hW hF
    have BW := Lib.hid (B2.out.trans (hW.mono B2.out.size))
    have TW := Lib.hid (T2.out.below hW S3.out)
    have RW := Lib.hid (R2.out.below hW (Nat.le_of_lt S3.out))
    have SW := Lib.hid (show w2.heap.size < W.heap.size from TW.out.lt)
    clear hW
    go_wp2_with fail
    refine wp_region_mono' (by kernel_rfl) (by kernel_rfl) ?_
    iterate 2 (refine ex_det ?_; apply Exists.intro)
    refine ex_free (Strs 1 [r8]) ?_
    iterate 6 (refine ex_det ?_; apply Exists.intro)
    refine ex_nil ⟨?pers2, ?walk2⟩
    case walk2 =>
      apply mwalk_det (by kernel_rfl) (by intro t w h; cases h; exact trivial) rfl
      · intro W9 hW hF
        have q := TW.out.below hW SW.out
        have q0 := q.cell0
        have q1 := q.cell1
        clear q
        go_wp2_with fail
        exact ⟨rfl, _, rfl, hW, Below.refl _ _, rfl⟩
      simp only [Act.put, List.setIfInBounds_toArray, List.set_cons_zero, List.set_cons_succ]
      apply mwalk_det (by kernel_rfl) (by intro t w h; cases h; exact trivial) rfl
      · intro W9 hW hF
        go_wp2_with fail
        refine (HR8.out W9).mono ?_
        rintro e w9 ⟨rfl, hb9⟩
        go_wp2_with fail
        exact ⟨rfl, _, rfl, hW.trans (hb9.mono hW.size), hb9, rfl⟩
      simp only [Act.put, List.setIfInBounds_toArray, List.set_cons_zero, List.set_cons_succ]
      refine ⟨fun W9 hW hF => ?_, fun v24 => ?_⟩
      · go_wp2_with fail
        have hba := (Below.refl W9.heap.size W9).alloc (Nat.le_refl _) (.cells #[.string r8] 9)
        exact ⟨rfl, _, rfl, hW.trans (hba.mono hW.size), hba, _, 1, rfl, Nat.le_refl _, _, strs_new W9 [r8] _ rfl _, Below.refl _ _⟩
      simp only [Act.put, List.setIfInBounds_toArray, List.set_cons_zero, List.set_cons_succ]
      apply mwalk_det (by kernel_rfl) (by intro t w h; cases h; exact trivial) rfl
      · intro W9 hW hF
        have f24 := hF 24 (of_decide_eq_true (by kernel_rfl))
        obtain ⟨A9, c9, rfl, hc9, w9, hr9, hb9⟩ := f24
        have HJN := Lib.hid (join_any 81 A2 A9 2 c2 _ 1 c9 _ (sumsOf r) [r8] W9 (RW.out.below hW (Nat.le_of_lt SW.out)) (Nat.le_trans (Nat.le_of_lt SW.out) hW.size) HJ.out.2.2.1 (by omega) (hr9.below hb9 (Nat.le_refl _)) hb9.size rfl hc9 (by omega) (by simp; exact HJ.out.2.2.2.2.2))
        clear hr9 hb9 hc9
        go_wp2_with fail
        refine HJN.out.mono ?_
        rintro e w8 ⟨rfl, hb8⟩
        rw [HS1.out]
        go_wp2_with fail
        exact ⟨rfl, _, rfl, hW.trans (hb8.mono hW.size), hb8, rfl⟩
      simp only [Act.put, List.setIfInBounds_toArray, List.set_cons_zero, List.set_cons_succ]
      iterate 5
        apply mwalk_det (by kernel_rfl) (by intro t w h; cases h; exact trivial) rfl
        · intro W9 hW hF
          go_wp2_with fail
          exact ⟨rfl, _, rfl, hW, Below.refl _ _, rfl⟩
        simp only [Act.put, List.setIfInBounds_toArray, List.set_cons_zero, List.set_cons_succ]
      intro W9 hW hF
      have BX := Lib.hid (BW.out.trans (hW.mono BW.out.size))
      clear hW
      go_wp2_with fail
      refine (join_any 0 none none 0 0 0 0 0 0 [] [] W9 (.inl rfl) (Nat.zero_le _) rfl (by omega) (.inl rfl) (Nat.zero_le _) rfl (Nat.le_refl _) (by omega) (by simp)).mono ?_
      rintro e w7 ⟨rfl, hb7⟩
      rw [EZ.out.1, EZ.out.2]
      have B7 := Lib.hid (BX.out.trans (hb7.mono BX.out.size)); clear hb7
      go_wp2_with fail
      refine (HR.out w7).mono ?_
      rintro e w8 ⟨rfl, hb8⟩
      have B8 := Lib.hid (B7.out.trans (hb8.mono B7.out.size)); clear hb8
      go_wp2_with fail
      go_ret
      exact ⟨rfl, B8.out⟩
    case pers2 => exact ⟨pers_isV _, pers_isV _, pers_strs _ _, pers_isV _, pers_isV _, pers_isV _, pers_isV _, pers_isV _, pers_isV _, trivial⟩
  case pers => exact ⟨pers_isV _, pers_isV _, pers_strs _ _, pers_isV _, pers_isV _, pers_isV _, pers_isV _, pers_isV _, pers_isV _, trivial⟩
end Go.Proofs.Ytdfjaephlabnhaa
