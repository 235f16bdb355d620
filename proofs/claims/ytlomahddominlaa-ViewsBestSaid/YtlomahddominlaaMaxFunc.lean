/- slices.MaxFunc and slices.IndexFunc over votes, with the two closures of views.Best. -/
import Derived.Test.YtlomahddominlaaVotes
namespace Go.Proofs.Ytlomahddominlaa
open Go.RowKit

/-- A vote that was read: its cells. -/
structure Vt where
  p0 : Int
  n : Int
  p2 : Int
  u : Int
  p4 : Int
  ea : Option Addr
  en : Nat
  ec : Nat
def Vt.cells (v : Vt) : List Value := [.int .i64 v.p0, .int .i64 v.n, .int .i64 v.p2, .int .i64 v.u, .int .i64 v.p4, .slice v.ea v.en v.ec]
def Vt.val (v : Vt) : Value := voteV (.int .i64 v.p0) v.n (.int .i64 v.p2) v.u (.int .i64 v.p4) (.slice v.ea v.en v.ec)
/-- All cells of a row of votes. -/
def vtCells (l : List Vt) : List Value := (l.map Vt.cells).flatten
theorem vtCells_at (l : List Vt) (i t : Nat) (hi : i < l.length) (ht : t < 6) : (vtCells l)[i * 6 + t]? = (l[i]).cells[t]? := by
  have h := flatten_at 6 (l.map Vt.cells) (fun r hr => by obtain ⟨v, _, rfl⟩ := List.mem_map.1 hr; rfl) i t (by simpa using hi) ht
  rw [List.getElem_map] at h
  exact h
theorem vtCells_len (l : List Vt) : (vtCells l).length = l.length * 6 := by
  have h := flatten_len 6 (l.map Vt.cells) (fun r hr => by obtain ⟨v, _, rfl⟩ := List.mem_map.1 hr; rfl)
  rw [List.length_map] at h
  exact h
/-- Is a vote's log further than another's? -/
def gt (a b : Vt) : Bool := decide (b.n < a.n) || (decide (a.n = b.n) && decide (b.u < a.u))
theorem cmp_gt (a b : Vt) : decide (0 < (if cmpI a.n b.n = 0 then cmpI a.u b.u else cmpI a.n b.n)) = gt a b := by
  unfold cmpI gt
  by_cases h1 : a.n < b.n
  · rw [if_pos h1, if_neg (by omega), Bool.eq_iff_iff]
    simp
    omega
  · by_cases h2 : b.n < a.n
    · rw [if_neg h1, if_pos h2, if_neg (by omega), Bool.eq_iff_iff]
      simp
      omega
    · rw [if_neg h1, if_neg h2, if_pos rfl]
      by_cases h3 : a.u < b.u
      · rw [if_pos h3, Bool.eq_iff_iff]; simp; omega
      · by_cases h4 : b.u < a.u
        · rw [if_neg h3, if_pos h4, Bool.eq_iff_iff]; simp; omega
        · rw [if_neg h3, if_neg h4, Bool.eq_iff_iff]; simp; omega
/-- The place of the first of the greatest of the first k + 1. -/
def top (l : List Vt) (d : Vt) : Nat → Nat
  | 0 => 0
  | k + 1 => if gt (l.getD (k + 1) d) (l.getD (top l d k) d) then k + 1 else top l d k
theorem top_le (l : List Vt) (d : Vt) (k : Nat) : top l d k ≤ k := by
  induction k with
  | zero => exact Nat.le_refl _
  | succ k ih => unfold top; split <;> omega
/-- Whoever stands ahead of it is less. -/
theorem top_first (l : List Vt) (d : Vt) (k : Nat) : (∀ j, j < top l d k → gt (l.getD (top l d k) d) (l.getD j d) = true) ∧ ∀ j, j ≤ k → gt (l.getD j d) (l.getD (top l d k) d) = false := by
  induction k with
  | zero =>
    refine ⟨fun j hj => absurd hj (by simp [top]), fun j hj => ?_⟩
    obtain rfl : j = 0 := by omega
    simp [top, gt]
  | succ k ih =>
    obtain ⟨h1, h2⟩ := ih
    unfold top
    split
    · rename_i hg
      constructor
      · intro j hj
        have h3 := h2 j (by omega)
        unfold gt at hg h3 ⊢
        simp at hg h3 ⊢
        omega
      · intro j hj
        by_cases e : j = k + 1
        · subst e; simp [gt]
        · have h3 := h2 j (by omega)
          unfold gt at hg h3 ⊢
          simp at hg h3 ⊢
          omega
    · rename_i hg
      refine ⟨h1, fun j hj => ?_⟩
      by_cases e : j = k + 1
      · subst e; simpa using hg
      · exact h2 j (by omega)

/-- A world of which one block's six cells are written, one behind the other. -/
def set6 (W : World) (g : Nat) (b0 b1 b2 b3 b4 b5 : Value) : World :=
  (((((W.setCell ⟨g, 0, none⟩ b0).setCell ⟨g, 1, none⟩ b1).setCell ⟨g, 2, none⟩ b2).setCell ⟨g, 3, none⟩ b3).setCell ⟨g, 4, none⟩ b4).setCell ⟨g, 5, none⟩ b5
theorem set6_all {w W : World} {B g : Nat} {t : TypeId} {a0 a1 a2 a3 a4 a5 : Value} (b0 b1 b2 b3 b4 b5 : Value) (hg : W.heap[g]? = some (.cells #[a0, a1, a2, a3, a4, a5] t (0, 0))) (hb : Below B w W) (hB : B ≤ g) :
    Below B w (set6 W g b0 b1 b2 b3 b4 b5) ∧ (∀ h, h ≠ g → (set6 W g b0 b1 b2 b3 b4 b5).heap[h]? = W.heap[h]?) ∧ (set6 W g b0 b1 b2 b3 b4 b5).heap[g]? = some (.cells #[b0, b1, b2, b3, b4, b5] t (0, 0)) := by
  unfold set6
  refine ⟨(((((hb.setCell (p := ⟨g, 0, none⟩) hB _).setCell (p := ⟨g, 1, none⟩) hB _).setCell (p := ⟨g, 2, none⟩) hB _).setCell (p := ⟨g, 3, none⟩) hB _).setCell (p := ⟨g, 4, none⟩) hB _).setCell (p := ⟨g, 5, none⟩) hB _, fun h hh => ?_, ?_⟩
  · rw [heap_setCell_other _ _ _ _ hh, heap_setCell_other _ _ _ _ hh, heap_setCell_other _ _ _ _ hh, heap_setCell_other _ _ _ _ hh, heap_setCell_other _ _ _ _ hh, heap_setCell_other _ _ _ _ hh]
  · exact heap_setCell_same _ g 5 _ t b5 (heap_setCell_same _ g 4 _ t b4 (heap_setCell_same _ g 3 _ t b3 (heap_setCell_same _ g 2 _ t b2 (heap_setCell_same _ g 1 _ t b1 (heap_setCell_same _ g 0 _ t b0 hg)))))
theorem top_step (l : List Vt) (d : Vt) (k : Nat) (hk : 1 ≤ k) : top l d (k + 1 - 1) = if gt (l.getD k d) (l.getD (top l d (k - 1)) d) then k else top l d (k - 1) := by
  obtain ⟨j, rfl⟩ : ∃ j, k = j + 1 := ⟨k - 1, by omega⟩
  rfl

set_option linter.unusedVariables false in
set_option maxRecDepth 40000 in
set_option maxHeartbeats 1600000 in
theorem maxFunc_any (A : Option Addr) (n c : Nat) (l : List Vt) (d : Vt) (w : World) (hr : Rd w w.heap.size A (vtCells l)) (hl : l.length = n) (hn : n ≤ 1000000) (h0 : 0 < n) :
    Calls Try.prog 31 #[.slice A n c, .func (.func 32) #[] #[]] w fun e w' => e = .returned (l.getD (top l d (n - 1)) d).val ∧ Below w.heap.size w w' := by
  have H := Lib.hid (And.intro hr hl)
  obtain ⟨b, off, rfl, hbb, hc⟩ := hr.at_ (k := 0) (by rw [vtCells_len]; omega)
  obtain ⟨p0, q1, p2, q3, p4, ea, en, ec, hv0⟩ : ∃ p0 q1 p2 q3 p4 ea en ec, l[0]'(by omega) = ⟨p0, q1, p2, q3, p4, ea, en, ec⟩ := ⟨_, _, _, _, _, _, _, _, rfl⟩
  have hcell : ∀ t, t < 6 → w.cell? ⟨b, off + t, none⟩ = (l[0]'(by omega)).cells[t]? := fun t ht => by
    have h := vtCells_at l 0 t (by omega) ht
    rw [Nat.zero_mul, Nat.zero_add] at h
    rw [← h]
    have hj : t < (vtCells l).length := by rw [vtCells_len]; omega
    rw [List.getElem?_eq_getElem hj]
    exact hc t _ (List.getElem?_eq_getElem hj)
  rw [hv0] at hcell
  have c0 := hcell 0 (by omega)
  have c1 := hcell 1 (by omega)
  have c2 := hcell 2 (by omega)
  have c3 := hcell 3 (by omega)
  have c4 := hcell 4 (by omega)
  have c5 := hcell 5 (by omega)
  simp only [Vt.cells, List.getElem?_cons_zero, List.getElem?_cons_succ, Nat.add_zero] at c0 c1 c2 c3 c4 c5
  clear hcell hc hr
  go_enter Try.func31, Try.ntmps31
  go_wp2_with fail
  have hA0 : 0 < l.length := by omega
  have HV := Lib.hid (show l.getD 0 d = ⟨p0, q1, p2, q3, p4, ea, en, ec⟩ by rw [List.getD_eq_getElem?_getD, List.getElem?_eq_getElem hA0]; simpa using hv0)
  have hbw : Below w.heap.size w ((w.alloc (.cells #[.int .i64 0, .int .i64 0, .int .i64 0, .int .i64 0, .int .i64 0, .slice none 0 0] 48)).alloc (.cells #[.int .i64 p0, .int .i64 q1, .int .i64 p2, .int .i64 q3, .int .i64 p4, .slice ea en ec] 48)) :=
    ((Below.refl _ _).alloc (Nat.le_refl _) _).alloc (by simp) _
  have hg0 := cell_two w #[.int .i64 0, .int .i64 0, .int .i64 0, .int .i64 0, .int .i64 0, .slice none 0 0] #[.int .i64 p0, .int .i64 q1, .int .i64 p2, .int .i64 q3, .int .i64 p4, .slice ea en ec] 48
  have hh1 : ((w.alloc (.cells #[.int .i64 0, .int .i64 0, .int .i64 0, .int .i64 0, .int .i64 0, .slice none 0 0] 48)).alloc (.cells #[.int .i64 p0, .int .i64 q1, .int .i64 p2, .int .i64 q3, .int .i64 p4, .slice ea en ec] 48)).heap[w.heap.size + 1]? = some (.cells #[.int .i64 p0, .int .i64 q1, .int .i64 p2, .int .i64 q3, .int .i64 p4, .slice ea en ec] 48 (0, 0)) := by
    have h9 := heap_alloc_new (w.alloc (.cells #[.int .i64 0, .int .i64 0, .int .i64 0, .int .i64 0, .int .i64 0, .slice none 0 0] 48)) (.cells #[.int .i64 p0, .int .i64 q1, .int .i64 p2, .int .i64 q3, .int .i64 p4, .slice ea en ec] 48)
    rw [show (w.alloc (.cells #[.int .i64 0, .int .i64 0, .int .i64 0, .int .i64 0, .int .i64 0, .slice none 0 0] 48)).heap.size = w.heap.size + 1 by simp] at h9
    exact h9
  have hh0 : ((w.alloc (.cells #[.int .i64 0, .int .i64 0, .int .i64 0, .int .i64 0, .int .i64 0, .slice none 0 0] 48)).alloc (.cells #[.int .i64 p0, .int .i64 q1, .int .i64 p2, .int .i64 q3, .int .i64 p4, .slice ea en ec] 48)).heap[w.heap.size]? = some (.cells #[.int .i64 0, .int .i64 0, .int .i64 0, .int .i64 0, .int .i64 0, .slice none 0 0] 48 (0, 0)) := by
    rw [Below.heap_alloc _ _ _ (by simp)]
    exact heap_alloc_new w _
  generalize (w.alloc (.cells #[.int .i64 0, .int .i64 0, .int .i64 0, .int .i64 0, .int .i64 0, .slice none 0 0] 48)).alloc (.cells #[.int .i64 p0, .int .i64 q1, .int .i64 p2, .int .i64 q3, .int .i64 p4, .slice ea en ec] 48) = w2 at *
  have HW2 := Lib.hid (And.intro hbw (And.intro hh0 hh1))
  clear hbw hg0 hh0 hh1 hA0
  go_loopw [6] (fun i wr => ∃ k : Nat, 1 ≤ k ∧ k ≤ n ∧ i = .int .i64 k ∧ Below w.heap.size w wr ∧
    wr.heap[w.heap.size]? = some (.cells #[.int .i64 0, .int .i64 0, .int .i64 0, .int .i64 0, .int .i64 0, .slice none 0 0] 48 (0, 0)) ∧
    wr.heap[w.heap.size + 1]? = some (.cells (l.getD (top l d (k - 1)) d).cells.toArray 48 (0, 0))) (fun i _ => n - (intOf i).toNat)
  case atStart => exact ⟨1, by omega, by omega, rfl, HW2.out.1, HW2.out.2.1, by rw [show top l d (1 - 1) = 0 from rfl, HV.out]; exact HW2.out.2.2⟩
  case round =>
    obtain ⟨k, hk1, hk, rfl, hb, hz, hm⟩ := hrel
    obtain ⟨m, hmm⟩ : ∃ m, l.getD (top l d (k - 1)) d = m := ⟨_, rfl⟩
    rw [hmm] at hm
    have HMM := Lib.hid hmm; clear hmm
    obtain ⟨m0, m1, m2, m3, m4, ma, mn, mc⟩ := m
    by_cases hlt : k < n
    · have hkl : k < l.length := by omega
      obtain ⟨x, hx⟩ : ∃ x, l[k] = x := ⟨_, rfl⟩
      have hxd : l.getD k d = x := by rw [List.getD_eq_getElem?_getD, List.getElem?_eq_getElem hkl]; simpa using hx
      have hcell : ∀ t, t < 6 → wr.cell? ⟨b, off + (k * 6 + t), none⟩ = x.cells[t]? := fun t ht => by
        have h := vtCells_at l k t hkl ht
        rw [hx] at h
        rw [← h]
        have hj : k * 6 + t < (vtCells l).length := by rw [vtCells_len]; omega
        rw [List.getElem?_eq_getElem hj]
        rcases H.out.1.below hb (Nat.le_refl _) with h9 | ⟨b', off', e9, _, h9⟩
        · have := congrArg List.length h9; rw [vtCells_len] at this; simp at this; omega
        · injection e9 with e9
          injection e9 with e1 e2
          subst e1 e2
          exact h9 _ _ (List.getElem?_eq_getElem hj)
      obtain ⟨x0, x1, x2, x3, x4, xa, xn, xc⟩ := x
      have HX := Lib.hid (And.intro hx hxd); clear hx hxd
      have hlw : w.heap.size + 1 < wr.heap.size := (Array.getElem?_eq_some_iff.1 hm).1
      have HK := Lib.hid (show ∀ W, Below wr.heap.size wr W → W.cell? ⟨b, off + k * 6, none⟩ = some (.int .i64 x0) ∧ W.cell? ⟨b, off + k * 6 + 1, none⟩ = some (.int .i64 x1) ∧ W.cell? ⟨b, off + k * 6 + 2, none⟩ = some (.int .i64 x2) ∧ W.cell? ⟨b, off + k * 6 + 3, none⟩ = some (.int .i64 x3) ∧ W.cell? ⟨b, off + k * 6 + 4, none⟩ = some (.int .i64 x4) ∧ W.cell? ⟨b, off + k * 6 + 5, none⟩ = some (.slice xa xn xc) from fun W hW => by
        have hbl : b < wr.heap.size := by omega
        refine ⟨?_, ?_, ?_, ?_, ?_, ?_⟩
        · exact (hW.cell (p := ⟨b, off + k * 6, none⟩) hbl).trans (hcell 0 (by omega))
        · exact (hW.cell (p := ⟨b, off + k * 6 + 1, none⟩) hbl).trans (hcell 1 (by omega))
        · exact (hW.cell (p := ⟨b, off + k * 6 + 2, none⟩) hbl).trans (hcell 2 (by omega))
        · exact (hW.cell (p := ⟨b, off + k * 6 + 3, none⟩) hbl).trans (hcell 3 (by omega))
        · exact (hW.cell (p := ⟨b, off + k * 6 + 4, none⟩) hbl).trans (hcell 4 (by omega))
        · exact (hW.cell (p := ⟨b, off + k * 6 + 5, none⟩) hbl).trans (hcell 5 (by omega)))
      have hmc : ∀ t, wr.cell? ⟨w.heap.size + 1, t, none⟩ = (Vt.cells ⟨m0, m1, m2, m3, m4, ma, mn, mc⟩)[t]? := fun t => by
        rw [cell_of_row wr _ t _ _ _ hm]; simp
      have HM := Lib.hid (show ∀ W, Below wr.heap.size wr W → W.cell? ⟨w.heap.size + 1, 0, none⟩ = some (.int .i64 m0) ∧ W.cell? ⟨w.heap.size + 1, 1, none⟩ = some (.int .i64 m1) ∧ W.cell? ⟨w.heap.size + 1, 2, none⟩ = some (.int .i64 m2) ∧ W.cell? ⟨w.heap.size + 1, 3, none⟩ = some (.int .i64 m3) ∧ W.cell? ⟨w.heap.size + 1, 4, none⟩ = some (.int .i64 m4) ∧ W.cell? ⟨w.heap.size + 1, 5, none⟩ = some (.slice ma mn mc) from fun W hW =>
        ⟨(hW.cell (p := ⟨w.heap.size + 1, 0, none⟩) hlw).trans (hmc 0), (hW.cell (p := ⟨w.heap.size + 1, 1, none⟩) hlw).trans (hmc 1), (hW.cell (p := ⟨w.heap.size + 1, 2, none⟩) hlw).trans (hmc 2), (hW.cell (p := ⟨w.heap.size + 1, 3, none⟩) hlw).trans (hmc 3), (hW.cell (p := ⟨w.heap.size + 1, 4, none⟩) hlw).trans (hmc 4), (hW.cell (p := ⟨w.heap.size + 1, 5, none⟩) hlw).trans (hmc 5)⟩)
      have HZ := Lib.hid (And.intro hb (And.intro hz hm))
      clear hcell hmc hb hz hm
      obtain ⟨r, hr⟩ : ∃ r, (if cmpI x1 m1 = 0 then cmpI x3 m3 else cmpI x1 m1) = r := ⟨_, rfl⟩
      have HR := Lib.hid hr
      have hgt : decide (0 < r) = gt ⟨x0, x1, x2, x3, x4, xa, xn, xc⟩ ⟨m0, m1, m2, m3, m4, ma, mn, mc⟩ := by rw [← hr]; exact cmp_gt ⟨x0, x1, x2, x3, x4, xa, xn, xc⟩ ⟨m0, m1, m2, m3, m4, ma, mn, mc⟩
      have HGT := Lib.hid hgt
      clear hr hgt
      go_wp2_with fail
      refine wp_region_mono' (by kernel_rfl) (by kernel_rfl) ?_
      iterate 8 (refine ex_det ?_; apply Exists.intro)
      refine ex_nil ⟨?pers, ?walk⟩
      case walk =>
        iterate 4
          apply mwalk_det (by kernel_rfl) (by intro t w h; cases h; exact trivial) rfl
          · intro W hW hF
            go_wp2_with fail
            exact ⟨rfl, _, rfl, hW, Below.refl _ _, rfl⟩
          simp only [Act.put, List.setIfInBounds_toArray, List.set_cons_zero, List.set_cons_succ]
        apply mwalk_det (by kernel_rfl) (by intro t w h; cases h; exact trivial) rfl
        · intro W hW hF
          obtain ⟨k0, k1, k2, k3, k4, k5⟩ := HK.out W hW
          go_wp2_with fail
          exact ⟨rfl, _, rfl, hW, Below.refl _ _, rfl⟩
        simp only [Act.put, List.setIfInBounds_toArray, List.set_cons_zero, List.set_cons_succ]
        apply mwalk_det (by kernel_rfl) (by intro t w h; cases h; exact trivial) rfl
        · intro W hW hF
          obtain ⟨k0, k1, k2, k3, k4, k5⟩ := HM.out W hW
          go_wp2_with fail
          exact ⟨rfl, _, rfl, hW, Below.refl _ _, rfl⟩
        simp only [Act.put, List.setIfInBounds_toArray, List.set_cons_zero, List.set_cons_succ]
        apply mwalk_det (by kernel_rfl) (by intro t w h; cases h; exact trivial) rfl
        · intro W hW hF
          go_wp2_with fail
          refine (best1_any (.int .i64 x0) (.int .i64 x2) (.int .i64 x4) (.slice xa xn xc) (.int .i64 m0) (.int .i64 m2) (.int .i64 m4) (.slice ma mn mc) x1 x3 m1 m3 W).mono ?_
          rintro e w9 ⟨rfl, hb9⟩
          rw [HR.out]
          go_wp2_with fail
          exact ⟨rfl, _, rfl, hW.trans (hb9.mono hW.size), hb9, rfl⟩
        simp only [Act.put, List.setIfInBounds_toArray, List.set_cons_zero, List.set_cons_succ]
        iterate 1
          apply mwalk_det (by kernel_rfl) (by intro t w h; cases h; exact trivial) rfl
          · intro W hW hF
            go_wp2_with fail
            exact ⟨rfl, _, rfl, hW, Below.refl _ _, rfl⟩
          simp only [Act.put, List.setIfInBounds_toArray, List.set_cons_zero, List.set_cons_succ]
        intro W hW hF
        have hbl1 := hW.block (w.heap.size + 1) hlw
        rw [HZ.out.2.2] at hbl1
        have hbl0 := hW.block w.heap.size (by omega)
        rw [HZ.out.2.1] at hbl0
        have hfr : ∀ t, W.frozen? ⟨w.heap.size + 1, t, none⟩ = false := fun t => frozen_of_row W _ t _ _ hbl1
        have f0 := hfr 0
        have f1 := hfr 1
        have f2 := hfr 2
        have f3 := hfr 3
        have f4 := hfr 4
        have f5 := hfr 5
        obtain ⟨k0, k1, k2, k3, k4, k5⟩ := HK.out W hW
        obtain ⟨n0, n1, n2, n3, n4, n5⟩ := HM.out W hW
        have HBL := Lib.hid (And.intro hbl0 (And.intro hbl1 (HZ.out.1.trans (hW.mono HZ.out.1.size))))
        clear hbl1 hbl0 hfr hW
        by_cases hr0 : 0 < r
        · go_wp2_with fail
          have hs6 := set6_all (.int .i64 x0) (.int .i64 x1) (.int .i64 x2) (.int .i64 x3) (.int .i64 x4) (.slice xa xn xc) HBL.out.2.1 HBL.out.2.2 (Nat.le_succ _)
          have HS6 := Lib.hid hs6; clear hs6
          go_roundw
          case rel =>
            refine ⟨k + 1, by omega, by omega, by go_num, HS6.out.1, (HS6.out.2.1 _ (by omega)).trans HBL.out.1, ?_⟩
            have hg1 : gt ⟨x0, x1, x2, x3, x4, xa, xn, xc⟩ ⟨m0, m1, m2, m3, m4, ma, mn, mc⟩ = true := by rw [← HGT.out]; simpa using hr0
            rw [top_step l d k hk1, HX.out.2, HMM.out, if_pos hg1, HX.out.2]
            exact HS6.out.2.2
          case measure => simp [intOf]; omega
        · have hr1 : decide (0 < r) = false := by simpa using hr0
          have HR1 := Lib.hid hr1
          go_wp2_with fail
          go_roundw
          case rel =>
            refine ⟨k + 1, by omega, by omega, by go_num, HBL.out.2.2, HBL.out.1, ?_⟩
            have hg1 : gt ⟨x0, x1, x2, x3, x4, xa, xn, xc⟩ ⟨m0, m1, m2, m3, m4, ma, mn, mc⟩ = false := by rw [← HGT.out]; exact HR1.out
            rw [top_step l d k hk1, HX.out.2, HMM.out, if_neg (by rw [hg1]; simp), HMM.out]
            exact HBL.out.2.1
          case measure => simp [intOf]; omega
      case pers => exact ⟨pers_isV _, pers_isV _, pers_isV _, pers_isV _, pers_isV _, pers_isV _, pers_isV _, pers_isV _, trivial⟩
    · obtain rfl : k = n := by omega
      have hfr : ∀ t, wr.frozen? ⟨w.heap.size, t, none⟩ = false := fun t => frozen_of_row wr _ t _ _ hz
      have f0 := hfr 0
      have f1 := hfr 1
      have f2 := hfr 2
      have f3 := hfr 3
      have f4 := hfr 4
      have f5 := hfr 5
      have hmc : ∀ t, wr.cell? ⟨w.heap.size + 1, t, none⟩ = (Vt.cells ⟨m0, m1, m2, m3, m4, ma, mn, mc⟩)[t]? := fun t => by
        rw [cell_of_row wr _ t _ _ _ hm]; simp
      have n0 : wr.cell? ⟨w.heap.size + 1, 0, none⟩ = some (.int .i64 m0) := hmc 0
      have n1 : wr.cell? ⟨w.heap.size + 1, 1, none⟩ = some (.int .i64 m1) := hmc 1
      have n2 : wr.cell? ⟨w.heap.size + 1, 2, none⟩ = some (.int .i64 m2) := hmc 2
      have n3 : wr.cell? ⟨w.heap.size + 1, 3, none⟩ = some (.int .i64 m3) := hmc 3
      have n4 : wr.cell? ⟨w.heap.size + 1, 4, none⟩ = some (.int .i64 m4) := hmc 4
      have n5 : wr.cell? ⟨w.heap.size + 1, 5, none⟩ = some (.slice ma mn mc) := hmc 5
      have hzc : ∀ t, wr.cell? ⟨w.heap.size, t, none⟩ = (#[Value.int .i64 0, .int .i64 0, .int .i64 0, .int .i64 0, .int .i64 0, .slice none 0 0] : Array Value)[t]? := fun t => cell_of_row wr _ t _ _ _ hz
      have z0 : wr.cell? ⟨w.heap.size, 0, none⟩ = some (.int .i64 0) := hzc 0
      have z1 : wr.cell? ⟨w.heap.size, 1, none⟩ = some (.int .i64 0) := hzc 1
      have z2 : wr.cell? ⟨w.heap.size, 2, none⟩ = some (.int .i64 0) := hzc 2
      have z3 : wr.cell? ⟨w.heap.size, 3, none⟩ = some (.int .i64 0) := hzc 3
      have z4 : wr.cell? ⟨w.heap.size, 4, none⟩ = some (.int .i64 0) := hzc 4
      have z5 : wr.cell? ⟨w.heap.size, 5, none⟩ = some (.slice none 0 0) := hzc 5
      have hs6 := set6_all (.int .i64 m0) (.int .i64 m1) (.int .i64 m2) (.int .i64 m3) (.int .i64 m4) (.slice ma mn mc) hz hb (Nat.le_refl _)
      have HS6 := Lib.hid hs6
      clear hs6 hfr hmc hzc hz hm hb
      go_wp2_with fail
      refine bodyPost_ret (results_cell_row rfl _ _ w.heap.size 48 #[.int .i64 m0, .int .i64 m1, .int .i64 m2, .int .i64 m3, .int .i64 m4, .slice ma mn mc] (0, 0) _ rfl HS6.out.2.2 Try.underlying48 rfl (by kernel_rfl)) rfl ⟨?_, HS6.out.1⟩
      rw [HMM.out]
      rfl
end Go.Proofs.Ytlomahddominlaa
