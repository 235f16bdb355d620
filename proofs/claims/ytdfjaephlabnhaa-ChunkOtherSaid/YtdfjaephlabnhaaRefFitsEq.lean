/- The document's answer: does a piece fit. -/
import Derived.Test.YtdfjaephlabnhaaFits
namespace Go.Proofs.Ytdfjaephlabnhaa
open Go.RowKit

set_option linter.unusedSimpArgs false in
set_option maxHeartbeats 1000000 in
theorem refFits_eq (size : Int) (A : Option Addr) (n c C : Nat) (l : List Int) (i : Int) (p : ByteArray) (w : World) (hr : Rd w C A (iv l)) (hC : C ≤ w.heap.size) (hl : l.length = n) (hn : n ≤ 1000000) (hp : p.size ≤ 1000000) (hrr : rightB size l = true) (hcmp : lenAt size.toNat i = (p.size : Int)) :
    Calls Try.prog 18 #[.int .i64 size, .slice A n c, .int .i64 i, .string p] w fun e w' => e = .returned (.bool (fitsB size l i p)) ∧ Below w.heap.size w w' := by
  obtain ⟨r, hres⟩ : ∃ r, fitsB size l i p = r := ⟨_, rfl⟩
  rw [hres]
  have HE := Lib.hid hres; clear hres
  have HR := Lib.hid hr; clear hr
  have hsz : 0 ≤ size ∧ size ≤ 65536 ∧ (l.length : Int) = nPieces size.toNat := by
    unfold rightB at hrr
    simp only [Bool.and_eq_true, decide_eq_true_eq] at hrr
    exact hrr.1
  obtain ⟨z, rfl⟩ := Int.eq_ofNat_of_zero_le hsz.1
  have hz : z ≤ 65536 := by omega
  have hnz : n = nPieces z := by have := hsz.2.2; simp at this; omega
  clear hsz
  simp only [Int.toNat_natCast] at hcmp
  have hii : 0 ≤ i ∧ i < nPieces z := by
    unfold lenAt at hcmp
    split at hcmp
    · assumption
    · omega
  have hmin : (p.size : Int) = min 80 ((z : Int) - i * 80) := by unfold lenAt at hcmp; rw [if_pos hii] at hcmp; exact hcmp.symm
  obtain ⟨k, rfl⟩ := Int.eq_ofNat_of_zero_le hii.1
  have hk : k < n := by omega
  have hkl : k < l.length := by omega
  have hk' : (k : Int) < (n : Int) := by omega
  have hlk : l.getD k 0 = l[k]'hkl := by simp [List.getD, hkl]
  have hres : r = decide (sumOf p = l[k]'hkl) := by
    rw [← HE.out]; simp only [fitsB]; rw [hrr, decide_eq_true (show (0 ≤ (k : Int) ∧ (k : Int) < (l.length : Int)) by omega), decide_eq_true hmin]
    simp only [Bool.true_and, Int.toNat_natCast, hlk]
  obtain ⟨b1, o1, hA, hb1, hc1⟩ := HR.out.at_ (k := k) (by rw [iv_length]; omega)
  have q3 := Lib.hid (hc1 k _ (iv_at l k hkl))
  clear hc1 hlk
  subst hA
  generalize hy : l[k]'hkl = y at *
  have HRR := Lib.hid hres; clear hres hy
  have hbC := Lib.hid (show b1 < w.heap.size by omega)
  have hcv := Lib.hid (fun W : World => bytes_made p W)
  have HRB := Lib.hid hrr; clear hrr
  have HLN := Lib.hid hcmp; clear hcmp
  have HM := Lib.hid (And.intro hmin (And.intro hii hnz)); clear hmin hii hnz
  have hpp : ((p.size : Int) == (p.size : Int)) = true := by simp
  go_enter Try.func18, Try.ntmps18
  go_wp2_with fail
  refine wp_region_mono' (by kernel_rfl) (by kernel_rfl) ?_
  iterate 17 (refine ex_det ?_; apply Exists.intro)
  refine ex_free (Bytes p.size p.data.toList) ?_
  iterate 4 (refine ex_det ?_; apply Exists.intro)
  refine ex_nil ⟨?pers, ?walk⟩
  case walk =>
    iterate 2
      apply mwalk_det (by kernel_rfl) (by intro t w h; cases h; exact trivial) rfl
      · intro W hW hF
        go_wp2_with fail
        exact ⟨rfl, _, rfl, hW, Below.refl _ _, rfl⟩
      simp only [Act.put, List.setIfInBounds_toArray, List.set_cons_zero, List.set_cons_succ]
    apply mwalk_det (by kernel_rfl) (by intro t w h; cases h; exact trivial) rfl
    · intro W hW hF
      have q := Lib.hid (refRight_any z (some ⟨b1, o1, none⟩) n c C l W (HR.out.below hW hC) hl hn)
      go_wp2_with fail
      refine Calls.mono q.out ?_
      rintro e w3 ⟨rfl, rfl⟩
      rw [HRB.out]
      go_wp2_with fail
      exact ⟨rfl, _, rfl, hW, Below.refl _ _, rfl⟩
    simp only [Act.put, List.setIfInBounds_toArray, List.set_cons_zero, List.set_cons_succ]
    iterate 3
      apply mwalk_det (by kernel_rfl) (by intro t w h; cases h; exact trivial) rfl
      · intro W hW hF
        go_wp2_with fail
        exact ⟨rfl, _, rfl, hW, Below.refl _ _, rfl⟩
      simp only [Act.put, List.setIfInBounds_toArray, List.set_cons_zero, List.set_cons_succ]
    apply mwalk_det (by kernel_rfl) (by intro t w h; cases h; exact trivial) rfl
    · intro W hW hF
      have q := Lib.hid (length_any z k W (by omega))
      go_wp2_with fail
      refine Calls.mono q.out ?_
      rintro e w3 ⟨rfl, rfl⟩
      rw [HLN.out]
      go_wp2_with fail
      exact ⟨rfl, _, rfl, hW, Below.refl _ _, rfl⟩
    simp only [Act.put, List.setIfInBounds_toArray, List.set_cons_zero, List.set_cons_succ]
    iterate 8
      apply mwalk_det (by kernel_rfl) (by intro t w h; cases h; exact trivial) rfl
      · intro W hW hF
        go_wp2_with fail
        exact ⟨rfl, _, rfl, hW, Below.refl _ _, rfl⟩
      simp only [Act.put, List.setIfInBounds_toArray, List.set_cons_zero, List.set_cons_succ]
    apply mwalk_det (by kernel_rfl) (by intro t w h; cases h; exact trivial) rfl
    · intro W hW hF
      have q := (hW.cell (p := ⟨b1, o1 + k, none⟩) hbC.out).trans q3.out
      go_wp2_with fail
      exact ⟨rfl, _, rfl, hW, Below.refl _ _, rfl⟩
    simp only [Act.put, List.setIfInBounds_toArray, List.set_cons_zero, List.set_cons_succ]
    iterate 1
      apply mwalk_det (by kernel_rfl) (by intro t w h; cases h; exact trivial) rfl
      · intro W hW hF
        go_wp2_with fail
        exact ⟨rfl, _, rfl, hW, Below.refl _ _, rfl⟩
      simp only [Act.put, List.setIfInBounds_toArray, List.set_cons_zero, List.set_cons_succ]
    refine ⟨fun W hW hF => ?_, fun v26 => ?_⟩
    · obtain ⟨v9, w9, hcr, hb9, hB9⟩ := hcv.out W
      have H9 := Lib.hid (And.intro hb9 hB9)
      clear hb9 hB9
      go_wp2_with fail
      exact ⟨rfl, _, rfl, hW.trans (H9.out.1.mono hW.size), H9.out.1, H9.out.2⟩
    simp only [Act.put, List.setIfInBounds_toArray, List.set_cons_zero, List.set_cons_succ]
    apply mwalk_det (by kernel_rfl) (by intro t w h; cases h; exact trivial) rfl
    · intro W hW hF
      have f26 := hF 26 (of_decide_eq_true (by kernel_rfl))
      obtain ⟨A9, c9, rfl, w9, hr9, hb9⟩ := f26
      have H9 := Lib.hid (hr9.below hb9 (Nat.le_refl _))
      clear hr9 hb9
      go_wp2_with fail
      refine (refSum_any A9 p.size c9 _ p.data.toList W H9.out (by simp) (by omega)).mono ?_
      rintro e w3 ⟨rfl, rfl⟩
      go_wp2_with fail
      exact ⟨rfl, _, rfl, hW, Below.refl _ _, rfl⟩
    simp only [Act.put, List.setIfInBounds_toArray, List.set_cons_zero, List.set_cons_succ]
    iterate 3
      apply mwalk_det (by kernel_rfl) (by intro t w h; cases h; exact trivial) rfl
      · intro W hW hF
        go_wp2_with fail
        exact ⟨rfl, _, rfl, hW, Below.refl _ _, rfl⟩
      simp only [Act.put, List.setIfInBounds_toArray, List.set_cons_zero, List.set_cons_succ]
    intro W hW hF
    have HW := Lib.hid hW
    clear hW
    go_wp2_with fail
    go_ret
    refine ⟨?_, HW.out⟩
    rw [HRR.out]
    exact ret_v (congrArg Value.bool (decide_eq_decide.2 ⟨fun h => h.symm, fun h => h.symm⟩))
  case pers => exact ⟨pers_isV _, pers_isV _, pers_isV _, pers_isV _, pers_isV _, pers_isV _, pers_isV _, pers_isV _, pers_isV _, pers_isV _, pers_isV _, pers_isV _, pers_isV _, pers_isV _, pers_isV _, pers_isV _, pers_isV _, pers_bytes _ _, pers_isV _, pers_isV _, pers_isV _, pers_isV _, trivial⟩

end Go.Proofs.Ytdfjaephlabnhaa
