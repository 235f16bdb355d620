/- Does a piece fit: chunk's and the document's answer. -/
import Derived.Test.YtdfjaephlabnhaaCuts
import Derived.BigQuiet
namespace Go.Proofs.Ytdfjaephlabnhaa
open Go.RowKit

def Bytes (n : Nat) (l : List UInt8) : Value → World → Prop := fun v w => ∃ A c, v = .slice A n c ∧ ∃ w1, Rd w1 w1.heap.size A (bv l) ∧ Below w1.heap.size w1 w
theorem pers_bytes (n : Nat) (l : List UInt8) : Pers (Bytes n l) := by
  rintro v w w' ⟨A, c, rfl, w1, hr, hb⟩ hb2
  exact ⟨A, c, rfl, w1, hr, hb.trans (hb2.mono hb.size)⟩
/-- A text's bytes, made anew. -/
theorem bytes_made (p : ByteArray) (w : World) : ∃ v w', (convert 9 45 (.string p)).run Try.prog w = .ok v w' ∧ Below w.heap.size w w' ∧ Bytes p.size p.data.toList v w' := by
  refine ⟨_, _, run_bytes_of_string (P := Try.prog) w 9 45 5 p Try.underlying9 Try.underlying45 Try.underlying5, ?_, ?_⟩
  · exact (Below.refl w.heap.size w).drew.alloc (by simp) _
  · refine ⟨_, _, rfl, _, Rd.more (rd_bytesRow w.drew p _ 5 _) (by simp), Below.refl _ _⟩

def fitsB (size : Int) (l : List Int) (i : Int) (p : ByteArray) : Bool :=
  rightB size l && (decide (0 ≤ i ∧ i < l.length) && (decide ((p.size : Int) = min 80 (size - i * 80)) && decide (sumOf p = l.getD i.toNat 0)))

set_option linter.unusedSimpArgs false in
set_option maxHeartbeats 1600000 in
theorem fits_any (size : Int) (A : Option Addr) (n c C : Nat) (l : List Int) (i : Int) (p : ByteArray) (w : World) (hr : Rd w C A (iv l)) (hC : C ≤ w.heap.size) (hl : l.length = n) (hn : n ≤ 1000000) (hp : p.size ≤ 1000000) :
    Calls Try.prog 17 #[.agg #[.int .i64 size, .slice A n c], .int .i64 i, .string p] w fun e w' => e = .returned (.bool (fitsB size l i p)) ∧ Below w.heap.size w w' := by
  obtain ⟨r, hres⟩ : ∃ r, fitsB size l i p = r := ⟨_, rfl⟩
  rw [hres]
  have HE := Lib.hid hres; clear hres
  have t1 := Two.new_at w _ rfl 24 (.int .i64 size) (.slice A n c)
  have q0 := t1.cell0; have q1 := t1.cell1
  have hb1 := (Below.refl _ w).alloc (Nat.le_refl _) (.cells #[.int .i64 size, .slice A n c] 24)
  have hri := right_any size A n c C l _ (hr.alloc hC (.cells #[.int .i64 size, .slice A n c] 24)) (by simp; omega) hl hn
  have HR1 := Lib.hid (hr.alloc hC (.cells #[.int .i64 size, .slice A n c] 24))
  have HB := Lib.hid hb1
  have HT := Lib.hid t1
  clear hr t1 hb1
  cases hrr : rightB size l
  · rw [hrr] at hri
    obtain rfl : r = false := by rw [← HE.out]; simp [fitsB, hrr]
    have HRI := Lib.hid hri; clear hri
    go_enter Try.func17, Try.ntmps17
    go_wp2_with fail
    refine HRI.out.mono ?_
    rintro e w2 ⟨rfl, hb2⟩
    have q2 := (HT.out.below hb2 (by simp)).cell1
    have HB2 := Lib.hid (HB.out.trans (hb2.mono (by simp))); clear hb2
    go_wp2_with fail
    go_ret
    exact ⟨rfl, HB2.out⟩
  · rw [hrr] at hri
    have HRI := Lib.hid hri; clear hri
    have hsz : 0 ≤ size ∧ size ≤ 65536 := by
      unfold rightB at hrr
      simp only [Bool.and_eq_true, decide_eq_true_eq] at hrr
      exact ⟨hrr.1.1, hrr.1.2.1⟩
    by_cases hi0 : i < 0
    · obtain rfl : r = false := by
        rw [← HE.out]; simp only [fitsB]; rw [decide_eq_false (show ¬ (0 ≤ i ∧ i < (l.length : Int)) by omega)]; simp
      go_enter Try.func17, Try.ntmps17
      go_wp2_with fail
      refine HRI.out.mono ?_
      rintro e w2 ⟨rfl, hb2⟩
      have q2 := (HT.out.below hb2 (by simp)).cell1
      have HB2 := Lib.hid (HB.out.trans (hb2.mono (by simp))); clear hb2
      go_wp2_with fail
      go_ret
      exact ⟨rfl, HB2.out⟩
    by_cases hin : (n : Int) ≤ i
    · obtain rfl : r = false := by
        rw [← HE.out]; simp only [fitsB]; rw [decide_eq_false (show ¬ (0 ≤ i ∧ i < (l.length : Int)) by omega)]; simp
      go_enter Try.func17, Try.ntmps17
      go_wp2_with fail
      refine HRI.out.mono ?_
      rintro e w2 ⟨rfl, hb2⟩
      have q2 := (HT.out.below hb2 (by simp)).cell1
      have HB2 := Lib.hid (HB.out.trans (hb2.mono (by simp))); clear hb2
      go_wp2_with fail
      go_ret
      exact ⟨rfl, HB2.out⟩
    obtain ⟨k, rfl⟩ := Int.eq_ofNat_of_zero_le (show 0 ≤ i by omega)
    have hk : k < n := by omega
    have hkl : k < l.length := by omega
    have hk' : (k : Int) < (n : Int) := by omega
    have hd1 : decide ((k : Int) < 0) = false := by simp
    have hd2 : decide ((n : Int) ≤ (k : Int)) = false := by simp; omega
    have hd3 : decide (n ≤ k) = false := by simp; omega
    have hlk : l.getD k 0 = l[k]'hkl := by simp [List.getD, show k < l.length by omega]
    have hres : r = (decide ((p.size : Int) = min 80 (size - k * 80)) && decide (sumOf p = l[k]'hkl)) := by
      rw [← HE.out]; simp only [fitsB]; rw [hrr, decide_eq_true (show (0 ≤ (k : Int) ∧ (k : Int) < (l.length : Int)) by omega)]
      simp only [Bool.true_and, Int.toNat_natCast, hlk]
    obtain ⟨b1, o1, rfl, hb1, hc1⟩ := HR1.out.at_ (k := k) (by rw [iv_length]; omega)
    have q3 := Lib.hid (hc1 k _ (iv_at l k hkl))
    clear hc1 hlk hi0 hin
    generalize l[k]'hkl = y at *
    have hbC := Lib.hid (show b1 < w.heap.size by omega)
    have hcv := Lib.hid (fun W : World => bytes_made p W)
    have hrl := Lib.hid hrr; clear hrr
    by_cases hcmp : (p.size : Int) = min 80 (size - k * 80)
    · have hct : ((p.size : Int) == min 80 (size - (k : Int) * 80)) = true := by rw [hcmp]; simp
      have hres' : r = decide (sumOf p = y) := by rw [hres, decide_eq_true hcmp]; rfl
      have HRR := Lib.hid hres'; clear hres hres'
      have HC := Lib.hid hcmp; clear hcmp
      go_enter Try.func17, Try.ntmps17
      go_wp2_with fail
      refine HRI.out.mono ?_
      rintro e w2 ⟨rfl, hb2⟩
      have T2 := Lib.hid (HT.out.below hb2 (by simp))
      have q2 := T2.out.cell1
      have q4 := Lib.hid ((hb2.cell (p := ⟨b1, o1 + k, none⟩) (by simp; omega)).trans q3.out)
      have HB2 := Lib.hid (HB.out.trans (hb2.mono (by simp))); clear hb2
      have S2 := Lib.hid (show b1 < w2.heap.size from Nat.lt_trans hbC.out T2.out.lt)
      go_wp2_with fail
      refine wp_region_mono' (by kernel_rfl) (by kernel_rfl) ?_
      iterate 11 (refine ex_det ?_; apply Exists.intro)
      refine ex_free (Bytes p.size p.data.toList) ?_
      iterate 9 (refine ex_det ?_; apply Exists.intro)
      refine ex_nil ⟨?pers, ?walk⟩
      case walk =>
        iterate 3
          apply mwalk_det (by kernel_rfl) (by intro t w h; cases h; exact trivial) rfl
          · intro W hW hF
            go_wp2_with fail
            exact ⟨rfl, _, rfl, hW, Below.refl _ _, rfl⟩
          simp only [Act.put, List.setIfInBounds_toArray, List.set_cons_zero, List.set_cons_succ]
        apply mwalk_det (by kernel_rfl) (by intro t w h; cases h; exact trivial) rfl
        · intro W hW hF
          have q := (T2.out.below hW T2.out.lt).cell0
          go_wp2_with fail
          exact ⟨rfl, _, rfl, hW, Below.refl _ _, rfl⟩
        simp only [Act.put, List.setIfInBounds_toArray, List.set_cons_zero, List.set_cons_succ]
        iterate 7
          apply mwalk_det (by kernel_rfl) (by intro t w h; cases h; exact trivial) rfl
          · intro W hW hF
            go_wp2_with fail
            exact ⟨rfl, _, rfl, hW, Below.refl _ _, rfl⟩
          simp only [Act.put, List.setIfInBounds_toArray, List.set_cons_zero, List.set_cons_succ]
        refine ⟨fun W hW hF => ?_, fun v32 => ?_⟩
        · obtain ⟨v9, w9, hcr, hb9, hB9⟩ := hcv.out W
          have H9 := Lib.hid (And.intro hb9 hB9)
          clear hb9 hB9
          go_wp2_with fail
          exact ⟨rfl, _, rfl, hW.trans (H9.out.1.mono hW.size), H9.out.1, H9.out.2⟩
        simp only [Act.put, List.setIfInBounds_toArray, List.set_cons_zero, List.set_cons_succ]
        apply mwalk_det (by kernel_rfl) (by intro t w h; cases h; exact trivial) rfl
        · intro W hW hF
          have f32 := hF 32 (of_decide_eq_true (by kernel_rfl))
          obtain ⟨A9, c9, rfl, w9, hr9, hb9⟩ := f32
          have H9 := Lib.hid (hr9.below hb9 (Nat.le_refl _))
          clear hr9 hb9
          go_wp2_with fail
          refine (sum_any A9 p.size c9 _ p.data.toList W H9.out (by simp) (by omega)).mono ?_
          rintro e w3 ⟨rfl, rfl⟩
          go_wp2_with fail
          exact ⟨rfl, _, rfl, hW, Below.refl _ _, rfl⟩
        simp only [Act.put, List.setIfInBounds_toArray, List.set_cons_zero, List.set_cons_succ]
        iterate 1
          apply mwalk_det (by kernel_rfl) (by intro t w h; cases h; exact trivial) rfl
          · intro W hW hF
            go_wp2_with fail
            exact ⟨rfl, _, rfl, hW, Below.refl _ _, rfl⟩
          simp only [Act.put, List.setIfInBounds_toArray, List.set_cons_zero, List.set_cons_succ]
        apply mwalk_det (by kernel_rfl) (by intro t w h; cases h; exact trivial) rfl
        · intro W hW hF
          have q := (T2.out.below hW T2.out.lt).cell1
          go_wp2_with fail
          exact ⟨rfl, _, rfl, hW, Below.refl _ _, rfl⟩
        simp only [Act.put, List.setIfInBounds_toArray, List.set_cons_zero, List.set_cons_succ]
        iterate 2
          apply mwalk_det (by kernel_rfl) (by intro t w h; cases h; exact trivial) rfl
          · intro W hW hF
            go_wp2_with fail
            exact ⟨rfl, _, rfl, hW, Below.refl _ _, rfl⟩
          simp only [Act.put, List.setIfInBounds_toArray, List.set_cons_zero, List.set_cons_succ]
        apply mwalk_det (by kernel_rfl) (by intro t w h; cases h; exact trivial) rfl
        · intro W hW hF
          have q := (hW.cell (p := ⟨b1, o1 + k, none⟩) S2.out).trans q4.out
          go_wp2_with fail
          exact ⟨rfl, _, rfl, hW, Below.refl _ _, rfl⟩
        simp only [Act.put, List.setIfInBounds_toArray, List.set_cons_zero, List.set_cons_succ]
        iterate 3
          apply mwalk_det (by kernel_rfl) (by intro t w h; cases h; exact trivial) rfl
          · intro W hW hF
            go_wp2_with fail
            exact ⟨rfl, _, rfl, hW, Below.refl _ _, rfl⟩
          simp only [Act.put, List.setIfInBounds_toArray, List.set_cons_zero, List.set_cons_succ]
        intro W hW hF
        have HW := Lib.hid (HB2.out.trans (hW.mono HB2.out.size))
        clear hW
        go_wp2_with fail
        go_ret
        refine ⟨?_, HW.out⟩
        rw [HRR.out]
        rfl
      case pers => exact ⟨pers_isV _, pers_isV _, pers_isV _, pers_isV _, pers_isV _, pers_isV _, pers_isV _, pers_isV _, pers_isV _, pers_isV _, pers_isV _, pers_bytes _ _, pers_isV _, pers_isV _, pers_isV _, pers_isV _, pers_isV _, pers_isV _, pers_isV _, pers_isV _, pers_isV _, trivial⟩
    · have hct : ((p.size : Int) == min 80 (size - (k : Int) * 80)) = false := by simp; omega
      have hres' : r = false := by rw [hres, decide_eq_false hcmp]; rfl
      subst hres'
      clear hres
      have HC := Lib.hid hcmp; clear hcmp
      go_enter Try.func17, Try.ntmps17
      go_wp2_with fail
      refine HRI.out.mono ?_
      rintro e w2 ⟨rfl, hb2⟩
      have T2 := Lib.hid (HT.out.below hb2 (by simp))
      have q2 := T2.out.cell1
      have HB2 := Lib.hid (HB.out.trans (hb2.mono (by simp))); clear hb2
      go_wp2_with fail
      refine wp_region_mono' (by kernel_rfl) (by kernel_rfl) ?_
      iterate 21 (refine ex_det ?_; apply Exists.intro)
      refine ex_nil ⟨?pers, ?walk⟩
      case walk =>
        iterate 3
          apply mwalk_det (by kernel_rfl) (by intro t w h; cases h; exact trivial) rfl
          · intro W hW hF
            go_wp2_with fail
            exact ⟨rfl, _, rfl, hW, Below.refl _ _, rfl⟩
          simp only [Act.put, List.setIfInBounds_toArray, List.set_cons_zero, List.set_cons_succ]
        apply mwalk_det (by kernel_rfl) (by intro t w h; cases h; exact trivial) rfl
        · intro W hW hF
          have q := (T2.out.below hW T2.out.lt).cell0
          go_wp2_with fail
          exact ⟨rfl, _, rfl, hW, Below.refl _ _, rfl⟩
        simp only [Act.put, List.setIfInBounds_toArray, List.set_cons_zero, List.set_cons_succ]
        iterate 17
          apply mwalk_det (by kernel_rfl) (by intro t w h; cases h; exact trivial) rfl
          · intro W hW hF
            go_wp2_with fail
            exact ⟨rfl, _, rfl, hW, Below.refl _ _, rfl⟩
          simp only [Act.put, List.setIfInBounds_toArray, List.set_cons_zero, List.set_cons_succ]
        intro W hW hF
        have HW := Lib.hid (HB2.out.trans (hW.mono HB2.out.size))
        clear hW
        go_wp2_with fail
        go_ret
        exact ⟨rfl, HW.out⟩
      case pers => exact ⟨pers_isV _, pers_isV _, pers_isV _, pers_isV _, pers_isV _, pers_isV _, pers_isV _, pers_isV _, pers_isV _, pers_isV _, pers_isV _, pers_isV _, pers_isV _, pers_isV _, pers_isV _, pers_isV _, pers_isV _, pers_isV _, pers_isV _, pers_isV _, pers_isV _, trivial⟩
end Go.Proofs.Ytdfjaephlabnhaa
