/- A disk in memory; New, Size, Down, ready, step, Stop, Flush. -/
import Derived.Test.YtmddpjdgnamlnaaDisk0
namespace Go.Proofs.Ytmddpjdgnamlnaa
open Go.RowKit Go.Maps
attribute [-go_sem] loadCellsFrom storeCells
attribute [local go_sem] storeCells_one run_makeMap Sec.cells_len

structure Dk where
  now : List Sec
  was : Nat → Option Sec
  down : Bool
  stops : Bool
  left : Int
def Dk.new (n : Nat) : Dk := ⟨List.replicate n Sec.zero, fun _ => none, false, false, 0⟩
def dkCells (gl mb n : Nat) (down stops : Bool) (left : Int) : List Value := [.slice (some ⟨gl, 0, none⟩) n n, .map (some mb), .bool down, .bool stops, .int .i64 left]
structure DiskAt (w : World) (g gl mb : Nat) (d : Dk) : Prop where
  blk : Blk w g 53 (dkCells gl mb d.now.length d.down d.stops d.left)
  row : Blk w gl 68 (secCells d.now)
  map : MapAt w mb d.now.length d.was
  len : 1 ≤ d.now.length ∧ d.now.length ≤ 4096
  left : 0 ≤ d.left ∧ d.left ≤ 1000000
  going : d.stops = true → d.down = false → 1 ≤ d.left
section
variable {w w' : World} {g gl mb : Nat} {d : Dk}
theorem blk_ne {t t' : TypeId} {cs cs' : List Value} {g g' : Nat} (h : Blk w g t cs) (h' : Blk w g' t' cs') (ht : t ≠ t') : g ≠ g' := by
  rintro rfl
  have := (show w.heap[g]? = _ from h).symm.trans h'
  simp at this
  exact ht this.2
theorem DiskAt.ne1 (h : DiskAt w g gl mb d) : g ≠ gl := blk_ne h.blk h.row (by decide)
theorem DiskAt.ne2 (h : DiskAt w g gl mb d) : g ≠ mb := h.map.not_blk h.blk
theorem DiskAt.ne3 (h : DiskAt w g gl mb d) : gl ≠ mb := h.map.not_blk h.row
theorem DiskAt.chg {S : Nat → Prop} (h : DiskAt w g gl mb d) (hc : Chg S w w') (h1 : ¬ S g) (h2 : ¬ S gl) (h3 : ¬ S mb) : DiskAt w' g gl mb d :=
  ⟨h.blk.chg hc h1, h.row.chg hc h2, h.map.same (hc.block mb h.map.lt h3), h.len, h.left, h.going⟩
theorem DiskAt.below (h : DiskAt w g gl mb d) (hb : Below w.heap.size w w') : DiskAt w' g gl mb d := h.chg (S := fun _ => False) (Chg.of_below hb) id id id
/-- The disk's own block written anew. -/
theorem DiskAt.fields (h : DiskAt w g gl mb d) (hc : Chg (fun k => k = g) w w') {down stops : Bool} {left : Int} (hb : Blk w' g 53 (dkCells gl mb d.now.length down stops left)) (h1 : 0 ≤ left ∧ left ≤ 1000000) (h2 : stops = true → down = false → 1 ≤ left) :
    DiskAt w' g gl mb ⟨d.now, d.was, down, stops, left⟩ :=
  ⟨hb, h.row.chg hc (Ne.symm h.ne1), h.map.same (hc.block mb h.map.lt (Ne.symm h.ne2)), h.len, h1, h2⟩
/-- What a disk's deeds may change. -/
def dkS (g gl mb : Nat) : Nat → Prop := fun k => k = g ∨ k = gl ∨ k = mb
end

theorem made_cells (n : Nat) : (madeCells Sec.zero.v.cells (n * 64)).toList = secCells (List.replicate n Sec.zero) := by
  apply List.ext_getElem
  · rw [secCells_len, Array.length_toList, size_madeCells, List.length_replicate]
  · intro i h1 h2
    rw [Array.length_toList, size_madeCells] at h1
    have hz : ∀ j (h : j < Sec.zero.cells.length), Sec.zero.cells[j] = .int .u8 0 := by
      intro j h
      have e : Sec.zero.cells = List.replicate 64 (.int .u8 0) := by
        show bv (List.replicate 64 0) = _
        unfold bv
        rw [List.map_replicate]
        rfl
      have e2 : ∀ u ∈ Sec.zero.cells, u = .int .u8 0 := by
        rw [e]
        intro u hu
        exact List.eq_of_mem_replicate hu
      exact e2 _ (List.getElem_mem h)
    have e1 : (madeCells Sec.zero.v.cells (n * 64)).toList[i]? = some (.int .u8 0) := by
      have hs : Sec.zero.v.cells = Sec.zero.cells.toArray := rfl
      have hm : i % 64 < 64 := Nat.mod_lt _ (by omega)
      rw [hs]
      simp only [madeCells, Array.toList_map, Array.toList_range, List.getElem?_map, List.getElem?_range h1, Option.map_some, List.size_toArray, Sec.cells_len, Option.some.injEq]
      rw [getElem!_pos _ _ (by simp only [List.size_toArray, Sec.cells_len]; exact hm)]
      simp only [List.getElem_toArray]
      exact hz _ _
    have e2 : (secCells (List.replicate n Sec.zero))[i]? = some (.int .u8 0) := by
      have : ∀ u ∈ secCells (List.replicate n Sec.zero), u = .int .u8 0 := by
        intro u hu
        simp only [secCells, List.mem_flatten, List.mem_map] at hu
        obtain ⟨r, ⟨p, hp, rfl⟩, hu⟩ := hu
        rw [List.eq_of_mem_replicate hp] at hu
        obtain ⟨j, hj, rfl⟩ := List.getElem_of_mem hu
        exact hz j hj
      rw [List.getElem?_eq_getElem h2]
      exact congrArg some (this _ (List.getElem_mem h2))
    rw [List.getElem?_eq_getElem (by rw [Array.length_toList, size_madeCells]; exact h1)] at e1
    rw [List.getElem?_eq_getElem h2] at e2
    exact Option.some.inj (e1.trans e2.symm)

theorem info68 : ∃ i, Try.prog.info? 68 = some i ∧ i.zero = some Sec.zero.v ∧ i.size = 64 ∧ i.bytes = 64 := by
  have h : (Try.prog.info? 68).map (fun i => (i.zero, i.size, i.bytes)) = some (some Sec.zero.v, 64, 64) := by kernel_rfl
  obtain ⟨i, hi, hz⟩ := Option.map_eq_some_iff.1 h
  simp only [Prod.mk.injEq] at hz
  exact ⟨i, hi, hz.1, hz.2.1, hz.2.2⟩

theorem dnew_no (n : Int) (w : World) (h : n < 1 ∨ 4096 < n) :
    Calls Try.prog 9 #[.int .i64 n] w fun e w' => e = .returned (.tuple #[.pointer none, .int .i64 1]) ∧ w = w' := by
  by_cases h1 : n < 1
  · clear h
    go_enter Try.func9, Try.ntmps9
    go_wp2_with fail
    go_ret2
    exact ⟨rfl, rfl⟩
  · have h2 : 4096 < n := by omega
    have h1' : decide (n < 1) = false := by simp; omega
    clear h
    go_enter Try.func9, Try.ntmps9
    go_wp2_with fail
    go_ret2
    exact ⟨rfl, rfl⟩
theorem dnew_any (n : Nat) (w : World) (h1 : 1 ≤ n) (h2 : n ≤ 4096) :
    Calls Try.prog 9 #[.int .i64 n] w fun e w' => ∃ g gl mb, e = .returned (.tuple #[.pointer (some ⟨g, 0, none⟩), .int .i64 0]) ∧ DiskAt w' g gl mb (Dk.new n) ∧ w.heap.size ≤ g ∧ w.heap.size ≤ gl ∧ w.heap.size ≤ mb ∧ Below w.heap.size w w' := by
  have g1 : decide ((n : Int) < 1) = false := by simp; omega
  have g2 : ¬ (4096 : Int) < (n : Int) := by omega
  obtain ⟨i0, hi0, hz0, hz1, hz2⟩ := info68
  have hby : i0.bytes * n ≤ 281474976710656 := by rw [hz2]; omega
  have hml : n ≤ maxLen := by unfold maxLen; omega
  obtain ⟨w1, hrun, hown1, hg1⟩ := run_make_full (P := Try.prog) w w.heap.size 50 68 i0 Sec.zero.v 64 Try.underlying50 hi0 hz0 hz1 .i64 .i64 n hby hml (Nat.le_refl _)
  obtain ⟨g, cap, cur, hv, hb, hg, hn, hm, hs, ht⟩ : ∃ g cap cur, (Value.slice (some ⟨w.heap.size, 0, none⟩) n n) = .slice (some ⟨g, 0, none⟩) n cap ∧ w.heap.size ≤ g ∧ w1.heap[g]? = some (.cells cur 68 (0, 0)) ∧ n ≤ cap ∧ cap ≤ maxLen ∧ cur.size = cap * 64 ∧ cur.toList.take (n * 64) = (madeCells Sec.zero.v.cells (n * 64)).toList := by
    rcases hown1.2 with ⟨hv, _⟩ | ⟨g, cap, cur, hv, hb, hg, hn, hm, hs, ht⟩
    · cases hv
    · exact ⟨g, cap, cur, hv, hb, hg, hn, hm, by omega, ht⟩
  cases hv
  have hblk : Blk w1 w.heap.size 68 (secCells (List.replicate n Sec.zero)) := by
    unfold Blk
    rw [hg, ← made_cells, ← ht, List.take_of_length_le (by rw [Array.length_toList, hs]; exact Nat.le_refl _)]
  have hlt : w.heap.size < w1.heap.size := hblk.lt
  have hb1 : Below w.heap.size w w1 := (Below.refl _ _).grown hg1 (Nat.le_refl _) (fun k hk => by simp at hk)
  have H := Lib.hid (And.intro hblk (And.intro hlt hb1)); clear hblk hlt hb1 hown1 hg1 hb hg hn hm hs ht
  go_enter Try.func9, Try.ntmps9
  go_wp2_with fail
  go_ret2
  obtain ⟨hblk, hlt, hb1⟩ := H.out
  refine ⟨w1.heap.size + 1, rfl, w.heap.size, w1.heap.size, ⟨?_, ?_, ?_, ?_, ?_, ?_⟩, ?_, Nat.le_refl _, ?_, ?_⟩
  · have := Blk.new (w1.alloc (.map #[] 0)) 53 (dkCells w.heap.size w1.heap.size n false false 0)
    simp only [Dk.new, List.length_replicate]
    simpa [dkCells] using this
  · exact (hblk.alloc _).alloc _
  · refine MapAt.same (w := w1.alloc (.map #[] 0)) ⟨.map [], ?_, Rep.nil _⟩ (Below.heap_alloc _ _ _ (by simp))
    exact (World.ownsMap_made w1 Try.prog 3 RS).mono (Nat.le_refl _)
  · simp only [Dk.new, List.length_replicate]; omega
  · simp only [Dk.new]; omega
  · intro h; cases h
  · omega
  · omega
  · exact (hb1.alloc hb1.size _).alloc (by have := hb1.size; simp; omega) _

section
variable {g gl mb : Nat} {d : Dk} {w : World}
theorem size_nil (w : World) : Calls Try.prog 21 #[.pointer none] w fun e w' => e = .returned (.int .i64 0) ∧ w = w' := by
  go_enter Try.func21, Try.ntmps21
  go_wp2_with fail
  go_ret
  exact ⟨rfl, rfl⟩
theorem size_any (h : DiskAt w g gl mb d) : Calls Try.prog 21 #[.pointer (some ⟨g, 0, none⟩)] w fun e w' => e = .returned (.int .i64 (d.now.length : Nat)) ∧ w = w' := by
  have q0 : w.cell? ⟨g, 0, none⟩ = some (.slice (some ⟨gl, 0, none⟩) d.now.length d.now.length) := h.blk.cell 0
  clear h
  go_enter Try.func21, Try.ntmps21
  go_wp2_with fail
  go_ret
  exact ⟨rfl, rfl⟩
theorem down_nil (w : World) : Calls Try.prog 18 #[.pointer none] w fun e w' => e = .returned (.bool false) ∧ w = w' := by
  go_enter Try.func18, Try.ntmps18
  go_wp2_with fail
  go_ret
  exact ⟨rfl, rfl⟩
theorem down_any (h : DiskAt w g gl mb d) : Calls Try.prog 18 #[.pointer (some ⟨g, 0, none⟩)] w fun e w' => e = .returned (.bool d.down) ∧ w = w' := by
  have q0 : w.cell? ⟨g, 2, none⟩ = some (.bool d.down) := h.blk.cell 2
  clear h
  go_enter Try.func18, Try.ntmps18
  go_wp2_with fail
  go_ret
  exact ⟨rfl, rfl⟩
theorem ready_nil (w : World) : Calls Try.prog 31 #[.pointer none] w fun e w' => e = .returned (.int .i64 3) ∧ w = w' := by
  go_enter Try.func31, Try.ntmps31
  go_wp2_with fail
  go_ret
  exact ⟨rfl, rfl⟩
theorem ready_any (h : DiskAt w g gl mb d) : Calls Try.prog 31 #[.pointer (some ⟨g, 0, none⟩)] w fun e w' => e = .returned (.int .i64 (if d.down = true then 70 else 0)) ∧ w = w' := by
  have q0 : w.cell? ⟨g, 2, none⟩ = some (.bool d.down) := h.blk.cell 2
  clear h
  cases hd : d.down
  · rw [hd] at q0
    clear hd
    go_enter Try.func31, Try.ntmps31
    go_wp2_with fail
    go_ret
    exact ⟨rfl, rfl⟩
  · rw [hd] at q0
    clear hd
    go_enter Try.func31, Try.ntmps31
    go_wp2_with fail
    go_ret
    exact ⟨rfl, rfl⟩
def Dk.step (d : Dk) : Dk := if d.stops = true then ⟨d.now, d.was, decide (d.left - 1 ≤ 0), d.stops, d.left - 1⟩ else d
theorem step_any (h : DiskAt w g gl mb d) (hd : d.down = false) : Calls Try.prog 32 #[.pointer (some ⟨g, 0, none⟩)] w fun e w' => e = .returned (.int .i64 0) ∧ DiskAt w' g gl mb d.step ∧ Chg (fun k => k = g) w w' := by
  have q3 : w.cell? ⟨g, 3, none⟩ = some (.bool d.stops) := h.blk.cell 3
  have q4 : w.cell? ⟨g, 4, none⟩ = some (.int .i64 d.left) := h.blk.cell 4
  have z4 : w.frozen? ⟨g, 4, none⟩ = false := h.blk.frozen 4
  have z2 : w.frozen? ⟨g, 2, none⟩ = false := h.blk.frozen 2
  have q2 : w.cell? ⟨g, 2, none⟩ = some (.bool d.down) := h.blk.cell 2
  have h1 := h.left
  have h2 := h.going
  have H := Lib.hid h
  unfold Dk.step
  cases hs : d.stops
  · rw [hs] at q3
    clear h h1 h2 hs hd
    go_enter Try.func32, Try.ntmps32
    go_wp2_with fail
    go_ret
    exact ⟨rfl, H.out, Chg.refl _ _⟩
  · rw [hs] at q3
    have h3 := h2 hs hd
    obtain ⟨lf, hlf⟩ : ∃ lf, d.left = lf := ⟨_, rfl⟩
    have HL := Lib.hid (And.intro hlf (And.intro hs hd))
    rw [hlf] at h1 h3 q4 ⊢
    obtain ⟨h1a, h1b⟩ := h1
    clear h h2 hs hd hlf
    go_enter Try.func32, Try.ntmps32
    go_wp2_with fail
    go_ret
    have hb2 := (H.out.blk.setCell 4 (.int .i64 (lf - 1))).setCell 2 (.bool (decide (lf - 1 ≤ 0)))
    have hc2 := ((Chg.refl (fun k => k = g) w).setCell (.inr rfl) 4 (.int .i64 (lf - 1))).setCell (.inr rfl) 2 (.bool (decide (lf - 1 ≤ 0)))
    refine ⟨rfl, ?_, hc2⟩
    refine H.out.fields (stops := true) hc2 ?_ (by omega) (by simp; omega)
    have e : ((dkCells gl mb d.now.length d.down d.stops d.left).set 4 (.int .i64 (lf - 1))).set 2 (.bool (decide (lf - 1 ≤ 0))) = dkCells gl mb d.now.length (decide (lf - 1 ≤ 0)) true (lf - 1) := by
      rw [HL.out.2.1]; rfl
    rw [← e]
    exact hb2
end
end Go.Proofs.Ytmddpjdgnamlnaa
