/- views.Best and what it calls: cmp.Compare, cmp.Or, slices.MaxFunc, slices.IndexFunc, the two closures. -/
import Derived.Test.YtlomahddominlaaCells
import Derived.Test.YtlomahddominlaaMono
namespace Go.Proofs.Ytlomahddominlaa
open Go.RowKit

theorem below_drewN' {B : Nat} {a w : World} (h : Below B a w) (n : Nat) : Below B a (w.drewN n) := h.trans ⟨rfl, rfl, rfl, Nat.le_refl _, fun _ _ => rfl⟩
/-- cmp.Compare's answer. -/
def cmpI (x y : Int) : Int := if x < y then -1 else if y < x then 1 else 0

theorem isNaN_any (x : Int) (w : World) : Calls Try.prog 41 #[.int .i64 x] w fun e w' => e = .returned (.bool false) ∧ w = w' := by
  go_enter Try.func41, Try.ntmps41
  go_wp2_with fail
  go_ret
  exact ⟨rfl, rfl⟩
theorem compare_any (x y : Int) (w : World) : Calls Try.prog 34 #[.int .i64 x, .int .i64 y] w fun e w' => e = .returned (.int .i64 (cmpI x y)) ∧ w = w' := by
  unfold cmpI
  by_cases h1 : x < y
  · rw [if_pos h1]
    go_enter Try.func34, Try.ntmps34
    go_wp2_with fail
    refine (isNaN_any x w).mono ?_
    rintro e w' ⟨rfl, rfl⟩
    go_wp2_with fail
    refine (isNaN_any y w).mono ?_
    rintro e w' ⟨rfl, rfl⟩
    go_wp2_with fail
    go_ret
    exact ⟨rfl, rfl⟩
  · rw [if_neg h1]
    have h1' : decide (x < y) = false := by simp; omega
    by_cases h2 : y < x
    · rw [if_pos h2]
      go_enter Try.func34, Try.ntmps34
      go_wp2_with fail
      refine (isNaN_any x w).mono ?_
      rintro e w' ⟨rfl, rfl⟩
      go_wp2_with fail
      refine (isNaN_any y w).mono ?_
      rintro e w' ⟨rfl, rfl⟩
      go_wp2_with fail
      go_ret
      exact ⟨rfl, rfl⟩
    · rw [if_neg h2]
      have h2' : decide (y < x) = false := by simp; omega
      go_enter Try.func34, Try.ntmps34
      go_wp2_with fail
      refine (isNaN_any x w).mono ?_
      rintro e w' ⟨rfl, rfl⟩
      go_wp2_with fail
      refine (isNaN_any y w).mono ?_
      rintro e w' ⟨rfl, rfl⟩
      go_wp2_with fail
      go_ret
      exact ⟨rfl, rfl⟩
/-- cmp.Or of two. -/
theorem or_two (x y : Int) (A : Option Addr) (c B : Nat) (w : World) (hr : Rd w B A (iv [x, y])) : Calls Try.prog 33 #[.slice A 2 c] w fun e w' => e = .returned (.int .i64 (if x = 0 then y else x)) ∧ w = w' := by
  obtain ⟨b, off, rfl, _, hc⟩ := hr.at_ (k := 0) (by simp [iv])
  have q0 : w.cell? ⟨b, off, none⟩ = some (.int .i64 x) := hc 0 _ rfl
  have q1 : w.cell? ⟨b, off + 1, none⟩ = some (.int .i64 y) := hc 1 _ rfl
  have H := Lib.hid (And.intro q0 q1); clear hc hr q0 q1
  obtain ⟨r, hr⟩ : ∃ r, (if x = 0 then y else x) = r := ⟨_, rfl⟩
  rw [hr]
  have HR := Lib.hid hr; clear hr
  go_enter Try.func33, Try.ntmps33
  go_wp2_with fail
  go_loop [5, 8] (fun o i => ∃ k : Nat, k ≤ 2 ∧ i = .int .i64 k ∧ (0 < k → x = 0) ∧ (1 < k → y = 0)) (fun _ i => 2 - (intOf i).toNat)
  case atStart => exact ⟨0, by omega, rfl, fun h => absurd h (by omega), fun h => absurd h (by omega)⟩
  case round =>
    obtain ⟨k, hk, rfl, hx, hy⟩ := hrel
    have HX := Lib.hid (And.intro hx hy); clear hx hy
    obtain rfl | rfl | rfl : k = 0 ∨ k = 1 ∨ k = 2 := by omega
    · have q0 := H.out.1
      by_cases h : x = 0
      · have hb : (x != 0) = false := by simpa using h
        have HH := Lib.hid h; clear h
        go_wp2_with fail
        go_round
        case rel => exact ⟨1, by omega, rfl, fun _ => HH.out, by omega⟩
        case measure => simp [intOf]
      · have hb : (x != 0) = true := by simpa using h
        have HH := Lib.hid h; clear h
        go_wp2_with fail
        go_ret
        exact ⟨by rw [← HR.out, if_neg HH.out]; rfl, rfl⟩
    · have q1 := H.out.2
      by_cases h : y = 0
      · have hb : (y != 0) = false := by simpa using h
        have HH := Lib.hid h; clear h
        go_wp2_with fail
        go_round
        case rel => exact ⟨2, by omega, rfl, fun _ => HX.out.1 (by omega), fun _ => HH.out⟩
        case measure => simp [intOf]
      · have hb : (y != 0) = true := by simpa using h
        have HH := Lib.hid h; clear h
        go_wp2_with fail
        go_ret
        exact ⟨by rw [← HR.out, if_pos (HX.out.1 (by omega))]; rfl, rfl⟩
    · go_wp2_with fail
      go_ret
      exact ⟨by rw [← HR.out, if_pos (HX.out.1 (by omega)), HX.out.2 (by omega)]; rfl, rfl⟩

/-- A slice that reads as two ints. -/
def Two (x y : Int) : Value → World → Prop := fun v w => ∃ A c, v = .slice A 2 c ∧ ∃ w1, Rd w1 w1.heap.size A (iv [x, y]) ∧ Below w1.heap.size w1 w
theorem pers_two (x y : Int) : Pers (Two x y) := by
  rintro v w w' ⟨A, c, e, w1, hr, hb⟩ hb'
  exact ⟨A, c, e, w1, hr, hb.trans (hb'.mono hb.size)⟩
theorem rd_ints2 (w : World) (x y : Int) (t : TypeId) : Rd (w.alloc (.cells (iv [x, y]).toArray t)) (w.alloc (.cells (iv [x, y]).toArray t)).heap.size (some ⟨w.heap.size, 0, none⟩) (iv [x, y]) := by
  refine .inr ⟨w.heap.size, 0, rfl, by simp, fun j u hu => ?_⟩
  rw [Nat.zero_add, World.cell?_alloc_mark]
  simpa using hu
theorem cell_two (w : World) (cs ds : Array Value) (t : TypeId) (k : Nat) : (((w.alloc (.cells cs t)).alloc (.cells ds t)).cell? ⟨w.heap.size, k, none⟩ = cs[k]?) ∧ (((w.alloc (.cells cs t)).alloc (.cells ds t)).cell? ⟨w.heap.size + 1, k, none⟩ = ds[k]?) := by
  constructor
  · rw [World.cell?_alloc_lt _ _ _ (by simp)]
    exact World.cell?_alloc_mark w cs t (0, 0) k
  · have h := World.cell?_alloc_mark (w.alloc (.cells cs t)) ds t (0, 0) k
    rw [show (w.alloc (.cells cs t)).heap.size = w.heap.size + 1 by simp] at h
    exact h

/-- A vote's six cells. -/
def voteV (p0 : Value) (n : Int) (p2 : Value) (u : Int) (p4 p5 : Value) : Value := .agg #[p0, .int .i64 n, p2, .int .i64 u, p4, p5]
theorem best1_any (p0 p2 p4 p5 q0 q2 q4 q5 : Value) (n u m v : Int) (w : World) :
    Calls Try.prog 32 #[voteV p0 n p2 u p4 p5, voteV q0 m q2 v q4 q5] w fun e w' => e = .returned (.int .i64 (if cmpI n m = 0 then cmpI u v else cmpI n m)) ∧ Below w.heap.size w w' := by
  have hc := fun k => cell_two w #[p0, .int .i64 n, p2, .int .i64 u, p4, p5] #[q0, .int .i64 m, q2, .int .i64 v, q4, q5] 48 k
  have hb2 : Below w.heap.size w ((w.alloc (.cells #[p0, .int .i64 n, p2, .int .i64 u, p4, p5] 48)).alloc (.cells #[q0, .int .i64 m, q2, .int .i64 v, q4, q5] 48)) :=
    ((Below.refl _ _).alloc (Nat.le_refl _) _).alloc (by simp) _
  have hsz : w.heap.size + 2 = ((w.alloc (.cells #[p0, .int .i64 n, p2, .int .i64 u, p4, p5] 48)).alloc (.cells #[q0, .int .i64 m, q2, .int .i64 v, q4, q5] 48)).heap.size := by simp
  have HB := Lib.hid hb2; clear hb2
  obtain ⟨r, hr⟩ : ∃ r, (if cmpI n m = 0 then cmpI u v else cmpI n m) = r := ⟨_, rfl⟩
  rw [hr]
  have HR := Lib.hid hr; clear hr
  unfold voteV
  go_enter Try.func32, Try.ntmps32
  go_wp2_with fail
  generalize (w.alloc (.cells #[p0, .int .i64 n, p2, .int .i64 u, p4, p5] 48)).alloc (.cells #[q0, .int .i64 m, q2, .int .i64 v, q4, q5] 48) = w2 at *
  have HC := Lib.hid (show (∀ W, Below w2.heap.size w2 W → W.cell? ⟨w.heap.size, 1, none⟩ = some (.int .i64 n)) ∧ (∀ W, Below w2.heap.size w2 W → W.cell? ⟨w.heap.size + 1, 1, none⟩ = some (.int .i64 m)) ∧
      (∀ W, Below w2.heap.size w2 W → W.cell? ⟨w.heap.size, 3, none⟩ = some (.int .i64 u)) ∧ (∀ W, Below w2.heap.size w2 W → W.cell? ⟨w.heap.size + 1, 3, none⟩ = some (.int .i64 v)) from
    ⟨fun W hW => (hW.cell (p := ⟨w.heap.size, 1, none⟩) (by show w.heap.size < _; omega)).trans (hc 1).1, fun W hW => (hW.cell (p := ⟨w.heap.size + 1, 1, none⟩) (by show w.heap.size + 1 < _; omega)).trans (hc 1).2,
      fun W hW => (hW.cell (p := ⟨w.heap.size, 3, none⟩) (by show w.heap.size < _; omega)).trans (hc 3).1, fun W hW => (hW.cell (p := ⟨w.heap.size + 1, 3, none⟩) (by show w.heap.size + 1 < _; omega)).trans (hc 3).2⟩)
  clear hc hsz
  refine wp_region_mono' (by kernel_rfl) (by kernel_rfl) ?_
  iterate 10 (refine ex_det ?_; apply Exists.intro)
  refine ex_free (Two (cmpI n m) (cmpI u v)) ?_
  iterate 2 (refine ex_det ?_; apply Exists.intro)
  refine ex_nil ⟨?pers, ?walk⟩
  case walk =>
    iterate 1
      apply mwalk_det (by kernel_rfl) (by intro t w h; cases h; exact trivial) rfl
      · intro W hW hF
        go_wp2_with fail
        exact ⟨rfl, _, rfl, hW, Below.refl _ _, rfl⟩
      simp only [Act.put, List.setIfInBounds_toArray, List.set_cons_zero, List.set_cons_succ]
    apply mwalk_det (by kernel_rfl) (by intro t w h; cases h; exact trivial) rfl
    · intro W hW hF
      have hc := HC.out.1 W hW
      go_wp2_with fail
      exact ⟨rfl, _, rfl, hW, Below.refl _ _, rfl⟩
    simp only [Act.put, List.setIfInBounds_toArray, List.set_cons_zero, List.set_cons_succ]
    iterate 1
      apply mwalk_det (by kernel_rfl) (by intro t w h; cases h; exact trivial) rfl
      · intro W hW hF
        go_wp2_with fail
        exact ⟨rfl, _, rfl, hW, Below.refl _ _, rfl⟩
      simp only [Act.put, List.setIfInBounds_toArray, List.set_cons_zero, List.set_cons_succ]
    apply mwalk_det (by kernel_rfl) (by intro t w h; cases h; exact trivial) rfl
    · intro W hW hF
      have hc := HC.out.2.1 W hW
      go_wp2_with fail
      exact ⟨rfl, _, rfl, hW, Below.refl _ _, rfl⟩
    simp only [Act.put, List.setIfInBounds_toArray, List.set_cons_zero, List.set_cons_succ]
    apply mwalk_det (by kernel_rfl) (by intro t w h; cases h; exact trivial) rfl
    · intro W hW hF
      go_wp2_with fail
      refine (compare_any n m W).mono ?_
      rintro e w9 ⟨rfl, rfl⟩
      go_wp2_with fail
      exact ⟨rfl, _, rfl, hW, Below.refl _ _, rfl⟩
    simp only [Act.put, List.setIfInBounds_toArray, List.set_cons_zero, List.set_cons_succ]
    iterate 1
      apply mwalk_det (by kernel_rfl) (by intro t w h; cases h; exact trivial) rfl
      · intro W hW hF
        go_wp2_with fail
        exact ⟨rfl, _, rfl, hW, Below.refl _ _, rfl⟩
      simp only [Act.put, List.setIfInBounds_toArray, List.set_cons_zero, List.set_cons_succ]
    apply mwalk_det (by kernel_rfl) (by intro t w h; cases h; exact trivial) rfl
    · intro W hW hF
      have hc := HC.out.2.2.1 W hW
      go_wp2_with fail
      exact ⟨rfl, _, rfl, hW, Below.refl _ _, rfl⟩
    simp only [Act.put, List.setIfInBounds_toArray, List.set_cons_zero, List.set_cons_succ]
    iterate 1
      apply mwalk_det (by kernel_rfl) (by intro t w h; cases h; exact trivial) rfl
      · intro W hW hF
        go_wp2_with fail
        exact ⟨rfl, _, rfl, hW, Below.refl _ _, rfl⟩
      simp only [Act.put, List.setIfInBounds_toArray, List.set_cons_zero, List.set_cons_succ]
    apply mwalk_det (by kernel_rfl) (by intro t w h; cases h; exact trivial) rfl
    · intro W hW hF
      have hc := HC.out.2.2.2 W hW
      go_wp2_with fail
      exact ⟨rfl, _, rfl, hW, Below.refl _ _, rfl⟩
    simp only [Act.put, List.setIfInBounds_toArray, List.set_cons_zero, List.set_cons_succ]
    apply mwalk_det (by kernel_rfl) (by intro t w h; cases h; exact trivial) rfl
    · intro W hW hF
      go_wp2_with fail
      refine (compare_any u v W).mono ?_
      rintro e w9 ⟨rfl, rfl⟩
      go_wp2_with fail
      exact ⟨rfl, _, rfl, hW, Below.refl _ _, rfl⟩
    simp only [Act.put, List.setIfInBounds_toArray, List.set_cons_zero, List.set_cons_succ]
    refine ⟨fun W hW hF => ?_, fun v15 => ?_⟩
    · go_wp2_with fail
      have hba := (Below.refl W.heap.size W).alloc (Nat.le_refl _) (.cells (iv [cmpI n m, cmpI u v]).toArray 3)
      exact ⟨rfl, _, rfl, hW.trans (hba.mono hW.size), hba, _, _, rfl, _, rd_ints2 W _ _ 3, Below.refl _ _⟩
    simp only [Act.put, List.setIfInBounds_toArray, List.set_cons_zero, List.set_cons_succ]
    apply mwalk_det (by kernel_rfl) (by intro t w h; cases h; exact trivial) rfl
    · intro W hW hF
      have f15 := hF 15 (of_decide_eq_true (by kernel_rfl))
      obtain ⟨A, c, rfl, w3, hr, hbz⟩ := f15
      go_wp2_with fail
      refine (or_two _ _ A c _ W (hr.below hbz (Nat.le_refl _))).mono ?_
      rintro e w9 ⟨rfl, rfl⟩
      rw [HR.out]
      go_wp2_with fail
      exact ⟨rfl, _, rfl, hW, Below.refl _ _, rfl⟩
    simp only [Act.put, List.setIfInBounds_toArray, List.set_cons_zero, List.set_cons_succ]
    iterate 1
      apply mwalk_det (by kernel_rfl) (by intro t w h; cases h; exact trivial) rfl
      · intro W hW hF
        go_wp2_with fail
        exact ⟨rfl, _, rfl, hW, Below.refl _ _, rfl⟩
      simp only [Act.put, List.setIfInBounds_toArray, List.set_cons_zero, List.set_cons_succ]
    intro W hW hF
    have HW := Lib.hid hW
    clear hW
    go_wp2_with fail
    go_ret
    exact ⟨rfl, HB.out.trans (HW.out.mono HB.out.size)⟩
  case pers => exact ⟨pers_isV _, pers_isV _, pers_isV _, pers_isV _, pers_isV _, pers_isV _, pers_isV _, pers_isV _, pers_isV _, pers_isV _, pers_two _ _, pers_isV _, pers_isV _, trivial⟩
end Go.Proofs.Ytlomahddominlaa
