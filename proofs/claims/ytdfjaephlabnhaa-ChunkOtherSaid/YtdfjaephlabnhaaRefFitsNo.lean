/- The document's answer: does a piece fit. -/
import Derived.Test.YtdfjaephlabnhaaFits
namespace Go.Proofs.Ytdfjaephlabnhaa
open Go.RowKit

set_option linter.unusedSimpArgs false in
set_option maxHeartbeats 1000000 in
theorem refFits_no (size : Int) (A : Option Addr) (n c C : Nat) (l : List Int) (i : Int) (p : ByteArray) (w : World) (hr : Rd w C A (iv l)) (hC : C ≤ w.heap.size) (hl : l.length = n) (hn : n ≤ 1000000) (_hp : p.size ≤ 1000000) (hrr : rightB size l = false) :
    Calls Try.prog 18 #[.int .i64 size, .slice A n c, .int .i64 i, .string p] w fun e w' => e = .returned (.bool (fitsB size l i p)) ∧ Below w.heap.size w w' := by
  obtain ⟨r, hres⟩ : ∃ r, fitsB size l i p = r := ⟨_, rfl⟩
  rw [hres]
  have HE := Lib.hid hres; clear hres
  have HR := Lib.hid hr; clear hr
  obtain rfl : r = false := by rw [← HE.out]; simp [fitsB, hrr]
  have HRB := Lib.hid hrr; clear hrr
  go_enter Try.func18, Try.ntmps18
  go_wp2_with fail
  refine wp_region_mono' (by kernel_rfl) (by kernel_rfl) ?_
  iterate 22 (refine ex_det ?_; apply Exists.intro)
  refine ex_nil ⟨?pers, ?walk⟩
  case walk =>
    iterate 2
      apply mwalk_det (by kernel_rfl) (by intro t w h; cases h; exact trivial) rfl
      · intro W hW hF
        go_wp2_with fail
        exact ⟨rfl, _, rfl, hW, Below.refl _ _, rfl⟩
      simp only [Act.put, List.setIfInBounds_toArray, List.set_cons_zero, List.set_cons_succ]
    apply mwalk_det (by kernel_rfl) (by intro t w h; cases h; exact trivial) rfl
    · intro W hW hF
      have q := Lib.hid (refRight_any size A n c C l W (HR.out.below hW hC) hl hn)
      go_wp2_with fail
      refine Calls.mono q.out ?_
      rintro e w3 ⟨rfl, rfl⟩
      rw [HRB.out]
      go_wp2_with fail
      exact ⟨rfl, _, rfl, hW, Below.refl _ _, rfl⟩
    simp only [Act.put, List.setIfInBounds_toArray, List.set_cons_zero, List.set_cons_succ]
    iterate 19
      apply mwalk_det (by kernel_rfl) (by intro t w h; cases h; exact trivial) rfl
      · intro W hW hF
        go_wp2_with fail
        exact ⟨rfl, _, rfl, hW, Below.refl _ _, rfl⟩
      simp only [Act.put, List.setIfInBounds_toArray, List.set_cons_zero, List.set_cons_succ]
    intro W hW hF
    have HW := Lib.hid hW
    clear hW
    go_wp2_with fail
    go_ret
    exact ⟨rfl, HW.out⟩
  case pers => exact ⟨pers_isV _, pers_isV _, pers_isV _, pers_isV _, pers_isV _, pers_isV _, pers_isV _, pers_isV _, pers_isV _, pers_isV _, pers_isV _, pers_isV _, pers_isV _, pers_isV _, pers_isV _, pers_isV _, pers_isV _, pers_isV _, pers_isV _, pers_isV _, pers_isV _, pers_isV _, trivial⟩

end Go.Proofs.Ytdfjaephlabnhaa
