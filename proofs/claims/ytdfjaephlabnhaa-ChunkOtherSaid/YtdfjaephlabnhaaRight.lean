/- Is a manifest right: chunk's and the document's answer; chunk.Check; the document's Sums. -/
import Derived.Test.YtdfjaephlabnhaaRef10
namespace Go.Proofs.Ytdfjaephlabnhaa
open Go.RowKit

def inB (x : Int) : Bool := decide (0 ≤ x) && decide (x ≤ 4294967295)
def rightB (size : Int) (l : List Int) : Bool := decide (0 ≤ size ∧ size ≤ 65536 ∧ (l.length : Int) = nPieces size.toNat) && l.all inB

set_option maxHeartbeats 1600000 in
theorem right_any (size : Int) (A : Option Addr) (n c C : Nat) (l : List Int) (w : World) (hr : Rd w C A (iv l)) (hC : C ≤ w.heap.size) (hl : l.length = n) (hn : n ≤ 1000000) :
    Calls Try.prog 29 #[.agg #[.int .i64 size, .slice A n c]] w fun e w' => e = .returned (.bool (rightB size l)) ∧ Below w.heap.size w w' := by
  obtain ⟨r, hres⟩ : ∃ r, rightB size l = r := ⟨_, rfl⟩
  rw [hres]
  have HE := Lib.hid hres; clear hres
  have t1 := Two.new_at w _ rfl 24 (.int .i64 size) (.slice A n c)
  have q0 := t1.cell0; have q1 := t1.cell1
  have hb1 := (Below.refl _ w).alloc (Nat.le_refl _) (.cells #[.int .i64 size, .slice A n c] 24)
  have HR := Lib.hid (hr.alloc hC (.cells #[.int .i64 size, .slice A n c] 24)); clear hr
  have HB := Lib.hid hb1; clear hb1 t1
  by_cases h1 : 0 ≤ size ∧ size ≤ 65536 ∧ (l.length : Int) = nPieces size.toNat
  · obtain ⟨h1, h2, h3⟩ := h1
    obtain ⟨z, rfl⟩ := Int.eq_ofNat_of_zero_le h1
    have hz : z ≤ 65536 := by omega
    have h5 : (n : Int) = (z + 80 - 1) / 80 := by rw [← hl, h3]; unfold nPieces; simp; omega
    have hne : ((n : Int) != ((z : Int) + 80 - 1) / 80) = false := by rw [h5]; simp
    have hA : rightB (z : Int) l = l.all inB := by
      unfold rightB
      rw [decide_eq_true (by exact ⟨h1, h2, h3⟩)]
      simp
    have HA := Lib.hid hA; clear hA h1 h2 h3 h5
    have g1 : (0 : Int) ≤ (z : Int) := by omega
    have g2 : (z : Int) ≤ 65536 := by omega
    go_enter Try.func29, Try.ntmps29
    go_wp2_with fail
    go_loop [3, 30] (fun ok i => ∃ j : Nat, j ≤ n ∧ ok = .bool ((l.take j).all inB) ∧ i = .int .i64 (j : Int)) (fun _ i => n - (intOf i).toNat)
    case atStart => exact ⟨0, by omega, by simp, rfl⟩
    case round =>
      obtain ⟨j, hj, rfl, rfl⟩ := hrel
      by_cases hlt : j < n
      · have g3 : (j : Int) < (n : Int) := by omega
        obtain ⟨b1, o1, rfl, _, hc1⟩ := HR.out.at_ (k := j) (by rw [iv_length]; omega)
        have q3 := hc1 j _ (iv_at l j (by omega))
        clear hc1
        have hst : (l.take (j + 1)).all inB = ((l.take j).all inB && inB (l[j]'(by omega))) := by
          rw [List.take_succ_eq_append_getElem (by omega), List.all_append]; simp only [List.all_cons, List.all_nil, Bool.and_true]
        have HS := Lib.hid hst; clear hst
        generalize (l[j]'(by omega)) = x at *
        generalize (l.take j).all inB = ok at *
        by_cases hx0 : 0 ≤ x
        · by_cases hx1 : x ≤ 4294967295
          · cases ok
            all_goals
              go_wp2_with fail
              go_round
              case rel => exact ⟨j + 1, by omega, by rw [HS.out]; simp [inB, hx0, hx1], by go_num⟩
              case measure => simp [intOf]; omega
          · have hx1' : 4294967295 < x := by omega
            cases ok
            all_goals
              go_wp2_with fail
              go_round
              case rel => exact ⟨j + 1, by omega, by rw [HS.out]; simp [inB]; try omega, by go_num⟩
              case measure => simp [intOf]; omega
        · cases ok
          all_goals
            go_wp2_with fail
            go_round
            case rel => exact ⟨j + 1, by omega, by rw [HS.out]; simp [inB]; try omega, by go_num⟩
            case measure => simp [intOf]; omega
      · obtain rfl : j = n := by omega
        go_wp2_with fail
        go_ret
        refine ⟨?_, HB.out⟩
        rw [← HE.out, HA.out, List.take_of_length_le (by omega)]
        rfl
  · have hf : rightB size l = false := by unfold rightB; rw [decide_eq_false h1]; simp
    have hr : r = false := by rw [← HE.out]; exact hf
    subst hr
    clear hf
    by_cases g1 : 0 ≤ size
    · by_cases g2 : size ≤ 65536
      · obtain ⟨z, rfl⟩ := Int.eq_ofNat_of_zero_le g1
        have hne : ((n : Int) != ((z : Int) + 80 - 1) / 80) = true := by
          simp
          intro e
          exact h1 ⟨g1, g2, by rw [hl]; unfold nPieces; simp; omega⟩
        clear h1
        go_enter Try.func29, Try.ntmps29
        go_wp2_with fail
        go_ret
        exact ⟨rfl, HB.out⟩
      · clear h1
        go_enter Try.func29, Try.ntmps29
        go_wp2_with fail
        go_ret
        exact ⟨rfl, HB.out⟩
    · clear h1
      go_enter Try.func29, Try.ntmps29
      go_wp2_with fail
      go_ret
      exact ⟨rfl, HB.out⟩

theorem check_any (size : Int) (A : Option Addr) (n c C : Nat) (l : List Int) (w : World) (hr : Rd w C A (iv l)) (hC : C ≤ w.heap.size) (hl : l.length = n) (hn : n ≤ 1000000) :
    Calls Try.prog 15 #[.agg #[.int .i64 size, .slice A n c]] w fun e w' => e = .returned (.int .i64 (if rightB size l = true then 0 else 100)) ∧ Below w.heap.size w w' := by
  have t1 := Two.new_at w _ rfl 24 (.int .i64 size) (.slice A n c)
  have q0 := t1.cell0; have q1 := t1.cell1
  have hb1 := (Below.refl _ w).alloc (Nat.le_refl _) (.cells #[.int .i64 size, .slice A n c] 24)
  have hri := right_any size A n c C l _ (hr.alloc hC (.cells #[.int .i64 size, .slice A n c] 24)) (by simp; omega) hl hn; clear hr t1
  have HB := Lib.hid hb1; clear hb1
  cases hres : rightB size l
  all_goals
    rw [hres] at hri
    simp only [Bool.false_eq_true, if_false, if_true]
    have HR := Lib.hid hri; clear hri hres
    go_enter Try.func15, Try.ntmps15
    go_wp2_with fail
    refine HR.out.mono ?_
    rintro e w' ⟨rfl, hb2⟩
    have HB2 := Lib.hid (HB.out.trans (hb2.mono (by simp))); clear hb2
    go_wp2_with fail
    go_ret
    exact ⟨rfl, HB2.out⟩

set_option maxHeartbeats 1600000 in
theorem refRight_any (size : Int) (A : Option Addr) (n c C : Nat) (l : List Int) (w : World) (hr : Rd w C A (iv l)) (hl : l.length = n) (hn : n ≤ 1000000) :
    Calls Try.prog 16 #[.int .i64 size, .slice A n c] w fun e w' => e = .returned (.bool (rightB size l)) ∧ w = w' := by
  obtain ⟨r, hres⟩ : ∃ r, rightB size l = r := ⟨_, rfl⟩
  rw [hres]
  have HE := Lib.hid hres; clear hres
  have HR := Lib.hid hr; clear hr
  have HM := Lib.hid (may_int size w)
  by_cases h1 : 0 ≤ size ∧ size ≤ 65536
  · obtain ⟨z, rfl⟩ := Int.eq_ofNat_of_zero_le h1.1
    have hmay : decide (0 ≤ (z : Int) ∧ (z : Int) ≤ 65536) = true := decide_eq_true h1
    have HY := Lib.hid (many_any z w (by omega))
    have hz : z ≤ 65536 := by omega
    clear h1
    by_cases h2 : n = nPieces z
    · have hne : ((n : Int) != ((nPieces z : Nat) : Int)) = false := by rw [h2]; simp
      have hA : rightB (z : Int) l = l.all inB := by
        unfold rightB
        rw [decide_eq_true (by refine ⟨by omega, by omega, ?_⟩; rw [hl, h2]; rfl)]
        simp
      have HA := Lib.hid hA; clear hA
      have H2 := Lib.hid h2; clear h2
      go_enter Try.func16, Try.ntmps16
      go_wp2_with fail
      refine HM.out.mono ?_
      rintro e w' ⟨rfl, rfl⟩
      rw [hmay]
      go_wp2_with fail
      refine HY.out.mono ?_
      rintro e w' ⟨rfl, rfl⟩
      go_wp2_with fail
      go_loop [5] (fun i => ∃ j : Nat, j ≤ n ∧ i = .int .i64 (j : Int) ∧ (l.take j).all inB = true) (fun i => n - (intOf i).toNat)
      case atStart => exact ⟨0, by omega, rfl, by simp⟩
      case round =>
        obtain ⟨j, hj, rfl, hall⟩ := hrel
        have HJ := Lib.hid hall; clear hall
        by_cases hlt : j < n
        · have g3 : (j : Int) < (n : Int) := by omega
          obtain ⟨b1, o1, rfl, _, hc1⟩ := HR.out.at_ (k := j) (by rw [iv_length]; omega)
          have q3 := hc1 j _ (iv_at l j (by omega))
          clear hc1
          have hmem : l[j]'(by omega) ∈ l := List.getElem_mem _
          have hst : (l.take (j + 1)).all inB = ((l.take j).all inB && inB (l[j]'(by omega))) := by
            rw [List.take_succ_eq_append_getElem (by omega), List.all_append]; simp only [List.all_cons, List.all_nil, Bool.and_true]
          have hno : inB (l[j]'(by omega)) = false → l.all inB = false := fun h => by
            rw [List.all_eq_false]
            exact ⟨_, hmem, by simp [h]⟩
          have HS := Lib.hid hst; clear hst hmem
          have HN := Lib.hid hno; clear hno
          generalize (l[j]'(by omega)) = x at *
          by_cases hx0 : x < 0
          · have hd : decide (x < 0) = true := by simp [hx0]
            go_wp2_with fail
            go_ret
            refine ⟨?_, rfl⟩
            rw [← HE.out, HA.out, HN.out (by simp [inB]; omega)]
            rfl
          · have hd : decide (x < 0) = false := by simp; omega
            by_cases hx1 : 4294967295 < x
            · have hd1 : decide (4294967295 < x) = true := by simp [hx1]
              go_wp2_with fail
              go_ret
              refine ⟨?_, rfl⟩
              rw [← HE.out, HA.out, HN.out (by simp [inB]; omega)]
              rfl
            · have hd1 : decide (4294967295 < x) = false := by simp; omega
              go_wp2_with fail
              go_round
              case rel => exact ⟨j + 1, by omega, by go_num, by rw [HS.out, HJ.out]; simp [inB]; omega⟩
              case measure => simp [intOf]; omega
        · obtain rfl : j = n := by omega
          go_wp2_with fail
          go_ret
          refine ⟨?_, rfl⟩
          have := HJ.out
          rw [List.take_of_length_le (by omega)] at this
          rw [← HE.out, HA.out, this]
          rfl
    · have hne : ((n : Int) != ((nPieces z : Nat) : Int)) = true := by simp; omega
      obtain rfl : r = false := by
        rw [← HE.out]
        unfold rightB
        rw [decide_eq_false (by rintro ⟨_, _, h⟩; rw [hl] at h; exact h2 (by simp at h; omega))]
        rfl
      have H2 := Lib.hid h2; clear h2
      go_enter Try.func16, Try.ntmps16
      go_wp2_with fail
      refine HM.out.mono ?_
      rintro e w' ⟨rfl, rfl⟩
      rw [hmay]
      go_wp2_with fail
      refine HY.out.mono ?_
      rintro e w' ⟨rfl, rfl⟩
      go_wp2_with fail
      go_ret
      exact ⟨rfl, rfl⟩
  · have hmay : decide (0 ≤ size ∧ size ≤ 65536) = false := decide_eq_false h1
    obtain rfl : r = false := by
      rw [← HE.out]
      unfold rightB
      rw [decide_eq_false (by rintro ⟨h2, h3, _⟩; exact h1 ⟨h2, h3⟩)]
      rfl
    clear h1
    go_enter Try.func16, Try.ntmps16
    go_wp2_with fail
    refine HM.out.mono ?_
    rintro e w' ⟨rfl, rfl⟩
    rw [hmay]
    go_wp2_with fail
    go_ret
    exact ⟨rfl, rfl⟩
end Go.Proofs.Ytdfjaephlabnhaa
