/- The document's answer: does a piece fit. -/
import Derived.Test.YtdfjaephlabnhaaFits
namespace Go.Proofs.Ytdfjaephlabnhaa
open Go.RowKit

set_option linter.unusedSimpArgs false in
set_option maxHeartbeats 1000000 in
theorem refFits_ne (size : Int) (A : Option Addr) (n c C : Nat) (l : List Int) (i : Int) (p : ByteArray) (w : World) (hr : Rd w C A (iv l)) (hC : C ≤ w.heap.size) (hl : l.length = n) (hn : n ≤ 1000000) (_hp : p.size ≤ 1000000) (hrr : rightB size l = true) (hcmp : ¬ lenAt size.toNat i = (p.size : Int)) :
    Calls Try.prog 18 #[.int .i64 size, .slice A n c, .int .i64 i, .string p] w fun e w' => e = .returned (.bool (fitsB size l i p)) ∧ Below w.heap.size w w' := by
  obtain ⟨r, hres⟩ : ∃ r, fitsB size l i p = r := ⟨_, rfl⟩
  rw [hres]
  have HE := Lib.hid hres; clear hres
  have HR := Lib.hid hr; clear hr
  have hsz : 0 ≤ size ∧ size ≤ 65536 ∧ (l.length : Int) = nPieces size.toNat := by
    unfold rightB at hrr
    simp only [Bool.and_eq_true, decide_eq_true_eq] at hrr
    exact hrr.1
  obtain ⟨z, rfl⟩ := Int.eq_ofNat_of_zero_le hsz.1
  have hz : z ≤ 65536 := by omega
  have hnz : n = nPieces z := by have := hsz.2.2; simp at this; omega
  clear hsz
  simp only [Int.toNat_natCast] at hcmp
  have hlf : fitsB z l i p = false := by
    simp only [fitsB]
    rw [hrr]
    by_cases hii : 0 ≤ i ∧ i < (l.length : Int)
    · rw [decide_eq_true hii, decide_eq_false (by
        intro h
        apply hcmp
        unfold lenAt
        rw [if_pos (by omega)]
        exact h.symm)]
      rfl
    · rw [decide_eq_false hii]; rfl
  obtain rfl : r = false := by rw [← HE.out]; exact hlf
  have hct : (lenAt z i == (p.size : Int)) = false := by simp [hcmp]
  have HRB := Lib.hid hrr; clear hrr hlf hcmp hnz
  have HLQ := Lib.hid (fun W : World => length_any z i W (by omega))
  generalize lenAt z i = ln at *
  go_enter Try.func18, Try.ntmps18
  go_wp2_with fail
  refine wp_region_mono' (by kernel_rfl) (by kernel_rfl) ?_
  iterate 22 (refine ex_det ?_; apply Exists.intro)
  refine ex_nil ⟨?pers, ?walk⟩
  case walk =>
    iterate 2
      apply mwalk_det (by kernel_rfl) (by intro t w h; cases h; exact trivial) rfl
      · intro W hW hF
        go_wp2_with fail
        exact ⟨rfl, _, rfl, hW, Below.refl _ _, rfl⟩
      simp only [Act.put, List.setIfInBounds_toArray, List.set_cons_zero, List.set_cons_succ]
    apply mwalk_det (by kernel_rfl) (by intro t w h; cases h; exact trivial) rfl
    · intro W hW hF
      have q := Lib.hid (refRight_any z A n c C l W (HR.out.below hW hC) hl hn)
      go_wp2_with fail
      refine Calls.mono q.out ?_
      rintro e w3 ⟨rfl, rfl⟩
      rw [HRB.out]
      go_wp2_with fail
      exact ⟨rfl, _, rfl, hW, Below.refl _ _, rfl⟩
    simp only [Act.put, List.setIfInBounds_toArray, List.set_cons_zero, List.set_cons_succ]
    iterate 3
      apply mwalk_det (by kernel_rfl) (by intro t w h; cases h; exact trivial) rfl
      · intro W hW hF
        go_wp2_with fail
        exact ⟨rfl, _, rfl, hW, Below.refl _ _, rfl⟩
      simp only [Act.put, List.setIfInBounds_toArray, List.set_cons_zero, List.set_cons_succ]
    apply mwalk_det (by kernel_rfl) (by intro t w h; cases h; exact trivial) rfl
    · intro W hW hF
      have q := Lib.hid (HLQ.out W)
      go_wp2_with fail
      refine Calls.mono q.out ?_
      rintro e w3 ⟨rfl, rfl⟩
      go_wp2_with fail
      exact ⟨rfl, _, rfl, hW, Below.refl _ _, rfl⟩
    simp only [Act.put, List.setIfInBounds_toArray, List.set_cons_zero, List.set_cons_succ]
    iterate 15
      apply mwalk_det (by kernel_rfl) (by intro t w h; cases h; exact trivial) rfl
      · intro W hW hF
        go_wp2_with fail
        exact ⟨rfl, _, rfl, hW, Below.refl _ _, rfl⟩
      simp only [Act.put, List.setIfInBounds_toArray, List.set_cons_zero, List.set_cons_succ]
    intro W hW hF
    have HW := Lib.hid hW
    clear hW
    go_wp2_with fail
    go_ret
    exact ⟨rfl, HW.out⟩
  case pers => exact ⟨pers_isV _, pers_isV _, pers_isV _, pers_isV _, pers_isV _, pers_isV _, pers_isV _, pers_isV _, pers_isV _, pers_isV _, pers_isV _, pers_isV _, pers_isV _, pers_isV _, pers_isV _, pers_isV _, pers_isV _, pers_isV _, pers_isV _, pers_isV _, pers_isV _, pers_isV _, trivial⟩

end Go.Proofs.Ytdfjaephlabnhaa
