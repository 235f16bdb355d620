/- A script's calls: Take, Double, and all others. -/
import Derived.Test.YtbdbimnfknaakaaCallPut
namespace Go.Proofs.Ytbdbimnfknaakaa
open Go.RowKit
attribute [-go_sem] loadCellsFrom storeCells
attribute [local go_sem] storeCells_one Mt.cells_len Mt.fold

/-- What a call leaves. -/
def CallPost (base g most : Nat) (w : World) (ms' : List Ms) : Ending → World → Prop := fun e w' =>
  (∃ vl' Sb' Sr' v' lb' ll', e = .returned (.tuple #[vl', .bool true]) ∧ St base w' g most vl' ms' Sb' Sr' v' lb' ll') ∧ Below base w w'

set_option linter.unusedSimpArgs false in
set_option maxRecDepth 100000 in
set_option maxHeartbeats 12800000 in
theorem call_else {base g most : Nat} {vl : Value} {ms : List Ms} {Sb Sr : Nat → Prop} {v : Value} {lb ll : List Mt} (k on : Int) (ov : Value) (w : World) (h : St base w g most vl ms Sb Sr v lb ll) (hbase : base ≤ w.heap.size) (hk1 : k ≠ 1) (hk2 : k ≠ 2) (hk3 : k ≠ 3) :
    Calls Try.prog 11 #[.pointer (some ⟨g, 0, none⟩), vl, .agg #[.int .i64 k, .int .i64 on, ov], .int .i64 most] w (CallPost base g most w ms) := by
  have hk := Blk.new w 33 [.int .i64 k, .int .i64 on, ov]
  have hb1 := (Below.refl w.heap.size w).alloc (Nat.le_refl _) (.cells #[.int .i64 k, .int .i64 on, ov] 33)
  have H := Lib.hid (And.intro (h.below hb1) (hb1.mono hbase))
  have a1 : (k == 1) = false := by simp [hk1]
  have a2 : (k == 2) = false := by simp [hk2]
  have a3 : (k == 3) = false := by simp [hk3]
  clear h hb1 hk1 hk2 hk3 hk
  go_enter Try.func11, Try.ntmps11
  go_wp2_with fail
  go_ret2
  exact ⟨⟨vl, Sb, Sr, v, lb, ll, rfl, H.out.1⟩, H.out.2⟩

theorem inL_map {l ll : List Mt} {ms : List Ms} (h : l.map Mt.m = ms) (h' : ll.map Mt.m = ms) : l.length = ll.length := by
  have h1 := congrArg List.length h
  have h2 := congrArg List.length h'
  simp only [List.length_map] at h1 h2
  omega

set_option linter.unusedSimpArgs false in
set_option maxRecDepth 100000 in
set_option maxHeartbeats 12800000 in
theorem call_take_bad {base g most : Nat} {vl : Value} {ms : List Ms} {Sb Sr : Nat → Prop} {v : Value} {lb ll : List Mt} (on : Int) (ov : Value) (w : World) (h : St base w g most vl ms Sb Sr v lb ll) (hbase : base ≤ w.heap.size) (hin : on < 0 ∨ (ms.length : Int) ≤ on) :
    Calls Try.prog 11 #[.pointer (some ⟨g, 0, none⟩), vl, .agg #[.int .i64 2, .int .i64 on, ov], .int .i64 most] w (CallPost base g most w ms) := by
  have hlb : lb.length = ms.length := by rw [← h.mb, List.length_map]
  have hll : ll.length = ms.length := by rw [← h.mr, List.length_map]
  obtain ⟨Al, cl, rfl, _⟩ := h.row.1.slice
  have hk := Blk.new w 33 [.int .i64 2, .int .i64 on, ov]
  have hb1 := (Below.refl w.heap.size w).alloc (Nat.le_refl _) (.cells #[.int .i64 2, .int .i64 on, ov] 33)
  obtain ⟨w1, hw1⟩ : ∃ w1, w.alloc (.cells #[.int .i64 2, .int .i64 on, ov] 33) = w1 := ⟨_, rfl⟩
  rw [hw1] at hk hb1
  have hst1 := h.below hb1
  have q0 : w1.cell? ⟨w.heap.size, 0, none⟩ = some (.int .i64 2) := hk.cell 0
  have q1 : w1.cell? ⟨w.heap.size, 1, none⟩ = some (.int .i64 on) := hk.cell 1
  have HT := Lib.hid (take_bad on w1 hst1.bag (by
    unfold inL
    rcases hin with h0 | h0
    · rw [decide_eq_false (by omega), Bool.false_and]
    · rw [decide_eq_false (show ¬ on < (lb.length : Int) by omega), Bool.and_false]))
  have H := Lib.hid (And.intro hst1 (And.intro (hb1.mono hbase) hk))
  clear h hb1 hk hst1
  rw [hll]
  go_enter Try.func11, Try.ntmps11
  go_wp2_with fail
  refine HT.out.mono ?_
  rintro e w2 ⟨rfl, hb2⟩
  have hz := Blk.new w2 47 zero47
  have hst := hz.store (P := Try.prog) (cs' := mt0.cells) rfl (Mt.one (mt0_at w2 0))
  have hz3 := hz.set mt0.cells
  have hb3 : Below w2.heap.size w2 ((w2.alloc (.cells zero47.toArray 47)).setRow w2.heap.size mt0.cells.toArray) := below_setRow ((Below.refl _ _).alloc (Nat.le_refl _) _) (Nat.le_refl _) _
  obtain ⟨w3, hw3⟩ : ∃ w3, (w2.alloc (.cells zero47.toArray 47)).setRow w2.heap.size mt0.cells.toArray = w3 := ⟨_, rfl⟩
  rw [hw3] at hst hz3 hb3
  have hb13 := hb2.trans (hb3.mono hb2.size)
  have hk3 := H.out.2.2.below hb13 H.out.2.2.lt
  have r1 : w3.cell? ⟨w.heap.size, 1, none⟩ = some (.int .i64 on) := hk3.cell 1
  have hld3 := hz3.load (P := Try.prog) (k := 23) rfl
  have H3 := Lib.hid (And.intro (H.out.1.below hb13) (H.out.2.1.trans (hb13.mono (Nat.le_trans hbase (by have := hb13.size; have := H.out.2.1.size; omega)))))
  have HSm := Lib.hid (refSame_any mt0 mt0 w3.heap.size w3 (mt0_at _ _) (mt0_at _ _) (Nat.le_refl _) (by simp [mt0]))
  rw [mt0_cells, decide_eq_true (rfl : mt0.m = mt0.m)] at HSm
  clear hz hz3 hb3 hb2 hb13 hk3 hw3 q0 q1
  rw [mt0_cells] at hst hld3
  simp only [zero47] at hst hld3 HSm
  rw [mt0_cells]
  simp only [zero47]
  by_cases hneg : on < 0
  · have a1 : decide (on < 0) = true := decide_eq_true hneg
    clear hin
    go_wp2_with fail
    refine HSm.out.mono ?_
    rintro e w4 ⟨rfl, hb4⟩
    have H4 := Lib.hid (And.intro (H3.out.1.below hb4) (H3.out.2.trans (hb4.mono (Nat.le_trans hbase H3.out.2.size))))
    clear hb4
    go_wp2_with fail
    go_ret2
    rw [← hll]
    exact ⟨⟨_, Sb, Sr, v, lb, ll, rfl, H4.out.1⟩, H4.out.2⟩
  · have a1 : decide (on < 0) = false := decide_eq_false hneg
    have a2 : (ms.length : Int) ≤ on := by omega
    have a3 : decide ((ms.length : Int) ≤ on) = true := decide_eq_true a2
    clear hin
    go_wp2_with fail
    refine HSm.out.mono ?_
    rintro e w4 ⟨rfl, hb4⟩
    have H4 := Lib.hid (And.intro (H3.out.1.below hb4) (H3.out.2.trans (hb4.mono (Nat.le_trans hbase H3.out.2.size))))
    clear hb4
    go_wp2_with fail
    go_ret2
    rw [← hll]
    exact ⟨⟨_, Sb, Sr, v, lb, ll, rfl, H4.out.1⟩, H4.out.2⟩

set_option linter.unusedSimpArgs false in
set_option maxRecDepth 100000 in
set_option maxHeartbeats 12800000 in
theorem call_double_bad {base g most : Nat} {vl : Value} {ms : List Ms} {Sb Sr : Nat → Prop} {v : Value} {lb ll : List Mt} (on : Int) (ov : Value) (w : World) (h : St base w g most vl ms Sb Sr v lb ll) (hbase : base ≤ w.heap.size) (hin : on < 0 ∨ (ms.length : Int) ≤ on) :
    Calls Try.prog 11 #[.pointer (some ⟨g, 0, none⟩), vl, .agg #[.int .i64 3, .int .i64 on, ov], .int .i64 most] w (CallPost base g most w ms) := by
  have hlb : lb.length = ms.length := by rw [← h.mb, List.length_map]
  have hll : ll.length = ms.length := by rw [← h.mr, List.length_map]
  obtain ⟨Al, cl, rfl, _⟩ := h.row.1.slice
  have hk := Blk.new w 33 [.int .i64 3, .int .i64 on, ov]
  have hb1 := (Below.refl w.heap.size w).alloc (Nat.le_refl _) (.cells #[.int .i64 3, .int .i64 on, ov] 33)
  obtain ⟨w1, hw1⟩ : ∃ w1, w.alloc (.cells #[.int .i64 3, .int .i64 on, ov] 33) = w1 := ⟨_, rfl⟩
  rw [hw1] at hk hb1
  have hst1 := h.below hb1
  have q0 : w1.cell? ⟨w.heap.size, 0, none⟩ = some (.int .i64 3) := hk.cell 0
  have q1 : w1.cell? ⟨w.heap.size, 1, none⟩ = some (.int .i64 on) := hk.cell 1
  have HT := Lib.hid (double_bad on w1 hst1.bag (by
    unfold inL
    rcases hin with h0 | h0
    · rw [decide_eq_false (by omega), Bool.false_and]
    · rw [decide_eq_false (show ¬ on < (lb.length : Int) by omega), Bool.and_false]))
  have H := Lib.hid (And.intro hst1 (hb1.mono hbase))
  clear h hb1 hk hst1
  rw [hll]
  go_enter Try.func11, Try.ntmps11
  go_wp2_with fail
  refine HT.out.mono ?_
  rintro e w' ⟨rfl, hw⟩
  subst hw
  by_cases hneg : on < 0
  · have a1 : decide (on < 0) = true := decide_eq_true hneg
    clear hin
    go_wp2_with fail
    go_ret2
    rw [← hll]
    exact ⟨⟨_, Sb, Sr, v, lb, ll, rfl, H.out.1⟩, H.out.2⟩
  · have a1 : decide (on < 0) = false := decide_eq_false hneg
    have a2 : (ms.length : Int) ≤ on := by omega
    have a3 : decide ((ms.length : Int) ≤ on) = true := decide_eq_true a2
    clear hin
    go_wp2_with fail
    go_ret2
    rw [← hll]
    exact ⟨⟨_, Sb, Sr, v, lb, ll, rfl, H.out.1⟩, H.out.2⟩
end Go.Proofs.Ytbdbimnfknaakaa
