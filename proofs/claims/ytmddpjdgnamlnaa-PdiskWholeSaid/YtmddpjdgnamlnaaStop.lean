/- Stop, Flush, Read. -/
import Derived.Test.YtmddpjdgnamlnaaDisk
namespace Go.Proofs.Ytmddpjdgnamlnaa
open Go.RowKit Go.Maps
attribute [-go_sem] loadCellsFrom storeCells
attribute [local go_sem] storeCells_one run_makeMap Sec.cells_len

def zero64 : List Value := [.int .u8 0, .int .u8 0, .int .u8 0, .int .u8 0, .int .u8 0, .int .u8 0, .int .u8 0, .int .u8 0, .int .u8 0, .int .u8 0, .int .u8 0, .int .u8 0, .int .u8 0, .int .u8 0, .int .u8 0, .int .u8 0, .int .u8 0, .int .u8 0, .int .u8 0, .int .u8 0, .int .u8 0, .int .u8 0, .int .u8 0, .int .u8 0, .int .u8 0, .int .u8 0, .int .u8 0, .int .u8 0, .int .u8 0, .int .u8 0, .int .u8 0, .int .u8 0, .int .u8 0, .int .u8 0, .int .u8 0, .int .u8 0, .int .u8 0, .int .u8 0, .int .u8 0, .int .u8 0, .int .u8 0, .int .u8 0, .int .u8 0, .int .u8 0, .int .u8 0, .int .u8 0, .int .u8 0, .int .u8 0, .int .u8 0, .int .u8 0, .int .u8 0, .int .u8 0, .int .u8 0, .int .u8 0, .int .u8 0, .int .u8 0, .int .u8 0, .int .u8 0, .int .u8 0, .int .u8 0, .int .u8 0, .int .u8 0, .int .u8 0, .int .u8 0]
theorem zero64_eq : Sec.zero.cells = zero64 := by kernel_rfl
section
variable {g gl mb : Nat} {d : Dk} {w : World}
def okStop (n : Int) : Bool := decide (0 ≤ n) && decide (n ≤ 1000000)
def Dk.stop (d : Dk) (n : Int) : Dk := ⟨d.now, d.was, n == 0, true, n⟩
theorem stop_nil (n : Int) (w : World) : Calls Try.prog 20 #[.pointer none, .int .i64 n] w fun e w' => e = .returned (.int .i64 3) ∧ w = w' := by
  have HR := Lib.hid (ready_nil w)
  go_enter Try.func20, Try.ntmps20
  go_wp2_with fail
  refine HR.out.mono ?_
  rintro e w' ⟨rfl, rfl⟩
  go_wp2_with fail
  go_ret
  exact ⟨rfl, rfl⟩
theorem stop_down (n : Int) (h : DiskAt w g gl mb d) (hd : d.down = true) : Calls Try.prog 20 #[.pointer (some ⟨g, 0, none⟩), .int .i64 n] w fun e w' => e = .returned (.int .i64 70) ∧ w = w' := by
  have hr := ready_any h
  rw [if_pos hd] at hr
  have HR := Lib.hid hr
  clear hr h hd
  go_enter Try.func20, Try.ntmps20
  go_wp2_with fail
  refine HR.out.mono ?_
  rintro e w' ⟨rfl, rfl⟩
  go_wp2_with fail
  go_ret
  exact ⟨rfl, rfl⟩
theorem stop_bad (n : Int) (h : DiskAt w g gl mb d) (hd : d.down = false) (hn : okStop n = false) : Calls Try.prog 20 #[.pointer (some ⟨g, 0, none⟩), .int .i64 n] w fun e w' => e = .returned (.int .i64 1) ∧ w = w' := by
  have hr := ready_any h
  rw [if_neg (by rw [hd]; simp)] at hr
  have HR := Lib.hid hr
  clear hr h hd
  by_cases h1 : n < 0
  · clear hn
    go_enter Try.func20, Try.ntmps20
    go_wp2_with fail
    refine HR.out.mono ?_
    rintro e w' ⟨rfl, rfl⟩
    go_wp2_with fail
    go_ret
    exact ⟨rfl, rfl⟩
  · have h1' : decide (n < 0) = false := by simp; omega
    have h2 : 1000000 < n := by
      simp [okStop] at hn
      omega
    clear hn h1
    go_enter Try.func20, Try.ntmps20
    go_wp2_with fail
    refine HR.out.mono ?_
    rintro e w' ⟨rfl, rfl⟩
    go_wp2_with fail
    go_ret
    exact ⟨rfl, rfl⟩
theorem stop_ok (n : Int) (h : DiskAt w g gl mb d) (hd : d.down = false) (hn : okStop n = true) : Calls Try.prog 20 #[.pointer (some ⟨g, 0, none⟩), .int .i64 n] w fun e w' => e = .returned (.int .i64 0) ∧ DiskAt w' g gl mb (d.stop n) ∧ Chg (fun k => k = g) w w' := by
  have hr := ready_any h
  rw [if_neg (by rw [hd]; simp)] at hr
  have HR := Lib.hid hr
  have h1' : decide (n < 0) = false := by simp [okStop] at hn; simp; omega
  have h2 : n ≤ 1000000 := by simp [okStop] at hn; omega
  have q2 : w.cell? ⟨g, 2, none⟩ = some (.bool d.down) := h.blk.cell 2
  have q3 : w.cell? ⟨g, 3, none⟩ = some (.bool d.stops) := h.blk.cell 3
  have q4 : w.cell? ⟨g, 4, none⟩ = some (.int .i64 d.left) := h.blk.cell 4
  have z2 : w.frozen? ⟨g, 2, none⟩ = false := h.blk.frozen 2
  have z3 : w.frozen? ⟨g, 3, none⟩ = false := h.blk.frozen 3
  have z4 : w.frozen? ⟨g, 4, none⟩ = false := h.blk.frozen 4
  have H := Lib.hid h
  have HN := Lib.hid hn
  clear hr h hd hn
  go_enter Try.func20, Try.ntmps20
  go_wp2_with fail
  refine HR.out.mono ?_
  rintro e w' ⟨rfl, rfl⟩
  go_wp2_with fail
  go_ret
  have hb2 := ((H.out.blk.setCell 3 (.bool true)).setCell 4 (.int .i64 n)).setCell 2 (.bool (n == 0))
  have hc2 := (((Chg.refl (fun k => k = g) w).setCell (.inr rfl) 3 (.bool true)).setCell (.inr rfl) 4 (.int .i64 n)).setCell (.inr rfl) 2 (.bool (n == 0))
  have hn := HN.out
  simp [okStop] at hn
  refine ⟨rfl, ?_, hc2⟩
  exact H.out.fields (stops := true) hc2 hb2 (by omega) (by simp; omega)
def Dk.flushed (d : Dk) : Dk := ⟨d.now, fun _ => none, d.down, d.stops, d.left⟩
theorem Dk.flushed_step (d : Dk) : d.flushed.step = d.step.flushed := by
  unfold Dk.step
  cases h : d.stops <;> simp [Dk.flushed, h]
theorem flush_nil (w : World) : Calls Try.prog 13 #[.pointer none] w fun e w' => e = .returned (.int .i64 3) ∧ w = w' := by
  have HR := Lib.hid (ready_nil w)
  go_enter Try.func13, Try.ntmps13
  go_wp2_with fail
  refine HR.out.mono ?_
  rintro e w' ⟨rfl, rfl⟩
  go_wp2_with fail
  go_ret
  exact ⟨rfl, rfl⟩
theorem flush_down (h : DiskAt w g gl mb d) (hd : d.down = true) : Calls Try.prog 13 #[.pointer (some ⟨g, 0, none⟩)] w fun e w' => e = .returned (.int .i64 70) ∧ w = w' := by
  have hr := ready_any h
  rw [if_pos hd] at hr
  have HR := Lib.hid hr
  clear hr h hd
  go_enter Try.func13, Try.ntmps13
  go_wp2_with fail
  refine HR.out.mono ?_
  rintro e w' ⟨rfl, rfl⟩
  go_wp2_with fail
  go_ret
  exact ⟨rfl, rfl⟩
theorem flushed_at (h : DiskAt w g gl mb d) {w' : World} (hm : MapAt w' mb d.now.length (fun _ => none)) (hc : Chg (fun k => k = mb) w w') : DiskAt w' g gl mb d.flushed :=
  ⟨h.blk.chg hc h.ne2, h.row.chg hc h.ne3, hm, h.len, h.left, h.going⟩
theorem flush_ok (h : DiskAt w g gl mb d) (hd : d.down = false) : Calls Try.prog 13 #[.pointer (some ⟨g, 0, none⟩)] w fun e w' => e = .returned (.int .i64 0) ∧ DiskAt w' g gl mb d.flushed.step ∧ Chg (fun k => k = g ∨ k = mb) w w' := by
  have hr := ready_any h
  rw [if_neg (by rw [hd]; simp)] at hr
  have HR := Lib.hid hr
  have q1 : w.cell? ⟨g, 1, none⟩ = some (.map (some mb)) := h.blk.cell 1
  obtain ⟨w1, hw1, hm1, hg1⟩ := clear_map h.map 0
  have hd1 := flushed_at h hm1 (grown_chg hg1)
  have HS := Lib.hid (step_any hd1 hd)
  have HC := Lib.hid (grown_chg hg1)
  clear hr h hd hm1 hg1 hd1
  go_enter Try.func13, Try.ntmps13
  go_wp2_with fail
  refine HR.out.mono ?_
  rintro e w' ⟨rfl, rfl⟩
  go_wp2_with fail
  refine HS.out.mono ?_
  rintro e w' ⟨rfl, hdd, hc⟩
  have H2 := Lib.hid (And.intro hdd hc); clear hdd hc
  go_wp2_with fail
  go_ret
  exact ⟨rfl, H2.out.1, (HC.out.mono (fun i _ h => .inr h)).trans H2.out.2 (fun i _ h => .inl h)⟩
def inD (d : Dk) (i : Int) : Bool := decide (0 ≤ i) && decide (i < (d.now.length : Int))
theorem read_nil (i : Int) (w : World) : Calls Try.prog 19 #[.pointer none, .int .i64 i] w fun e w' => e = .returned (.tuple #[.slice none 0 0, .int .i64 3]) ∧ w = w' := by
  go_enter Try.func19, Try.ntmps19
  go_wp2_with fail
  go_ret2
  exact ⟨rfl, rfl⟩
theorem read_bad (i : Int) (h : DiskAt w g gl mb d) (hi : inD d i = false) : Calls Try.prog 19 #[.pointer (some ⟨g, 0, none⟩), .int .i64 i] w fun e w' => e = .returned (.tuple #[.slice none 0 0, .int .i64 71]) ∧ w = w' := by
  have q0 : w.cell? ⟨g, 0, none⟩ = some (.slice (some ⟨gl, 0, none⟩) d.now.length d.now.length) := h.blk.cell 0
  by_cases h1 : i < 0
  · clear h hi q0
    go_enter Try.func19, Try.ntmps19
    go_wp2_with fail
    go_ret2
    exact ⟨rfl, rfl⟩
  · have h1' : decide (i < 0) = false := by simp; omega
    have h2 : (d.now.length : Int) ≤ i := by
      simp [inD] at hi
      omega
    clear h hi h1
    go_enter Try.func19, Try.ntmps19
    go_wp2_with fail
    go_ret2
    exact ⟨rfl, rfl⟩
theorem read_ok (i : Nat) (h : DiskAt w g gl mb d) (hi : i < d.now.length) : Calls Try.prog 19 #[.pointer (some ⟨g, 0, none⟩), .int .i64 i] w fun e w' => e = .returned (.tuple #[.slice (some ⟨w.heap.size, 0, none⟩) 64 64, .int .i64 0]) ∧ Blk w' w.heap.size 68 (d.now[i]'hi).cells ∧ Below w.heap.size w w' := by
  have q0 : w.cell? ⟨g, 0, none⟩ = some (.slice (some ⟨gl, 0, none⟩) d.now.length d.now.length) := h.blk.cell 0
  have hld := h.row.loadOff (P := Try.prog) (i * 64) 64 _ (secCells_at d.now i hi) (Sec.cells_len _)
  obtain ⟨x, hx⟩ : ∃ x, d.now[i]'hi = x := ⟨_, rfl⟩
  rw [hx] at hld ⊢
  have hk := Blk.new w 68 Sec.zero.cells
  have hst := hk.store (P := Try.prog) (cs' := x.cells) (by rw [Sec.cells_len, Sec.cells_len]) (Sec.one x)
  have HK := Lib.hid (hk.set x.cells)
  have HB := Lib.hid (below_setRow ((Below.refl w.heap.size w).alloc (Nat.le_refl _) (.cells Sec.zero.cells.toArray 68)) (Nat.le_refl _) x.cells.toArray)
  have h2 : ¬ ((d.now.length : Int) ≤ (i : Int)) := by omega
  have h3 : (i : Int) < (d.now.length : Int) := by omega
  rw [zero64_eq] at hst
  simp only [zero64] at hst
  clear hk h hx hi
  go_enter Try.func19, Try.ntmps19
  go_wp2_with fail
  go_ret2
  exact ⟨rfl, HK.out, HB.out⟩
end
end Go.Proofs.Ytmddpjdgnamlnaa
