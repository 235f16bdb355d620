/- An act's line, as the document has it. -/
import Derived.Test.YtehhgpnaemffnaaDoorText22
namespace Go.Proofs.YtehhgpnaemffnaaDoor
open Go.RowKit
attribute [-go_sem] loadCellsFrom storeCells
attribute [local go_sem] storeCells_one

section
variable {w : World}
set_option maxHeartbeats 1600000 in
set_option linter.unusedVariables false in
theorem rcall_alloc (k node n client h i nn kk v t : Int) (wclient : I64 client) (wh : I64 h) (wi : I64 i) (wnn : I64 nn) (wkk : I64 kk) (wv : I64 v) (wt : I64 t) :
    Calls Tryd.prog 24 #[.agg (ac k node n client 1 h i nn kk v t).toArray] w fun e w' => e = .returned (.string (nmAlloc ++ numsB [client, nn, kk])) ∧ Below w.heap.size w w' := by
  have hbx : Below w.heap.size w (w.alloc (.cells (ac k node n client 1 h i nn kk v t).toArray 27)) := (Below.refl _ _).alloc (Nat.le_refl _) _
  have hkx := Blk.new w 27 (ac k node n client 1 h i nn kk v t)
  obtain ⟨w0, hw0⟩ : ∃ x, w.alloc (.cells (ac k node n client 1 h i nn kk v t).toArray 27) = x := ⟨_, rfl⟩
  rw [hw0] at hbx hkx
  have hs0 : w0.heap.size = w.heap.size + 1 := by rw [← hw0]; simp
  simp only [ac] at hw0
  have hld := hkx.loadOff (P := Tryd.prog) 4 7 (oc 1 h i nn kk v t) rfl rfl
  have q3 : w0.cell? ⟨w.heap.size, 3, none⟩ = some (.int .i64 client) := hkx.cell 3
  have hkz := Blk.new w0 25 (oc 0 0 0 0 0 0 0)
  have hst := hkz.store (P := Tryd.prog) (cs' := oc 1 h i nn kk v t) rfl (oc_one 1 h i nn kk v t)
  have hkz2 := hkz.set (oc 1 h i nn kk v t)
  have hbz := below_setRow ((Below.refl w0.heap.size w0).alloc (Nat.le_refl _) (.cells (oc 0 0 0 0 0 0 0).toArray 25)) (Nat.le_refl _) (oc 1 h i nn kk v t).toArray
  obtain ⟨w1, hw1⟩ : ∃ x, (w0.alloc (.cells (oc 0 0 0 0 0 0 0).toArray 25)).setRow w0.heap.size (oc 1 h i nn kk v t).toArray = x := ⟨_, rfl⟩
  rw [hw1] at hst hkz2 hbz
  have hkx1 := hkx.below hbz hkx.lt
  have q13 : w1.cell? ⟨w.heap.size, 3, none⟩ = some (.int .i64 client) := hkx1.cell 3
  have hbx := hbx.trans (hbz.mono hbx.size)
  rw [hs0] at hst hkz2
  simp only [oc] at hld hst
  have p0 : w1.cell? ⟨w.heap.size + 1, 0, none⟩ = some (.int .i64 1) := hkz2.cell 0
  have p1 : w1.cell? ⟨w.heap.size + 1, 1, none⟩ = some (.int .i64 h) := hkz2.cell 1
  have p2 : w1.cell? ⟨w.heap.size + 1, 2, none⟩ = some (.int .i64 i) := hkz2.cell 2
  have p3 : w1.cell? ⟨w.heap.size + 1, 3, none⟩ = some (.int .i64 nn) := hkz2.cell 3
  have p4 : w1.cell? ⟨w.heap.size + 1, 4, none⟩ = some (.int .i64 kk) := hkz2.cell 4
  have p5 : w1.cell? ⟨w.heap.size + 1, 5, none⟩ = some (.int .i64 v) := hkz2.cell 5
  have p6 : w1.cell? ⟨w.heap.size + 1, 6, none⟩ = some (.int .i64 t) := hkz2.cell 6
  have hfit := nums_fit [client, nn, kk] (by simp) (by intro x hx; simp only [List.mem_cons, List.not_mem_nil, or_false] at hx; rcases hx with rfl | rfl | rfl <;> assumption)
  have hc := numbers_new (w := w1) [client, nn, kk] (by simp) (by intro x hx; simp only [List.mem_cons, List.not_mem_nil, or_false] at hx; rcases hx with rfl | rfl | rfl <;> assumption)
  obtain ⟨S, hS⟩ : ∃ S, numsB [client, nn, kk] = S := ⟨_, rfl⟩
  rw [hS] at hc hfit
  have HC := Lib.hid hc
  have HS := Lib.hid hS
  have HB := Lib.hid hbx
  have hcs : 5 + S.size ≤ 9223372036854775807 := by omega
  clear hc hS
  clear hbx hkx hkz hkz2 hbz hkx1 hw1 wclient wh wi wnn wkk wv wt
  simp only [ac]
  go_enter Tryd.func24, Tryd.ntmps24
  go_wp2_with fail
  refine HC.out.mono ?_
  rintro e w2 ⟨rfl, hb2⟩
  have HB2 := Lib.hid (HB.out.trans (hb2.mono HB.out.size)); clear hb2
  go_wp2_with fail
  go_ret
  exact ⟨by rw [HS.out]; rfl, HB2.out⟩
set_option maxHeartbeats 1600000 in
set_option linter.unusedVariables false in
theorem rcall_free (k node n client h i nn kk v t : Int) (wclient : I64 client) (wh : I64 h) (wi : I64 i) (wnn : I64 nn) (wkk : I64 kk) (wv : I64 v) (wt : I64 t) :
    Calls Tryd.prog 24 #[.agg (ac k node n client 2 h i nn kk v t).toArray] w fun e w' => e = .returned (.string (nmFree ++ numsB [client, h])) ∧ Below w.heap.size w w' := by
  have hbx : Below w.heap.size w (w.alloc (.cells (ac k node n client 2 h i nn kk v t).toArray 27)) := (Below.refl _ _).alloc (Nat.le_refl _) _
  have hkx := Blk.new w 27 (ac k node n client 2 h i nn kk v t)
  obtain ⟨w0, hw0⟩ : ∃ x, w.alloc (.cells (ac k node n client 2 h i nn kk v t).toArray 27) = x := ⟨_, rfl⟩
  rw [hw0] at hbx hkx
  have hs0 : w0.heap.size = w.heap.size + 1 := by rw [← hw0]; simp
  simp only [ac] at hw0
  have hld := hkx.loadOff (P := Tryd.prog) 4 7 (oc 2 h i nn kk v t) rfl rfl
  have q3 : w0.cell? ⟨w.heap.size, 3, none⟩ = some (.int .i64 client) := hkx.cell 3
  have hkz := Blk.new w0 25 (oc 0 0 0 0 0 0 0)
  have hst := hkz.store (P := Tryd.prog) (cs' := oc 2 h i nn kk v t) rfl (oc_one 2 h i nn kk v t)
  have hkz2 := hkz.set (oc 2 h i nn kk v t)
  have hbz := below_setRow ((Below.refl w0.heap.size w0).alloc (Nat.le_refl _) (.cells (oc 0 0 0 0 0 0 0).toArray 25)) (Nat.le_refl _) (oc 2 h i nn kk v t).toArray
  obtain ⟨w1, hw1⟩ : ∃ x, (w0.alloc (.cells (oc 0 0 0 0 0 0 0).toArray 25)).setRow w0.heap.size (oc 2 h i nn kk v t).toArray = x := ⟨_, rfl⟩
  rw [hw1] at hst hkz2 hbz
  have hkx1 := hkx.below hbz hkx.lt
  have q13 : w1.cell? ⟨w.heap.size, 3, none⟩ = some (.int .i64 client) := hkx1.cell 3
  have hbx := hbx.trans (hbz.mono hbx.size)
  rw [hs0] at hst hkz2
  simp only [oc] at hld hst
  have p0 : w1.cell? ⟨w.heap.size + 1, 0, none⟩ = some (.int .i64 2) := hkz2.cell 0
  have p1 : w1.cell? ⟨w.heap.size + 1, 1, none⟩ = some (.int .i64 h) := hkz2.cell 1
  have p2 : w1.cell? ⟨w.heap.size + 1, 2, none⟩ = some (.int .i64 i) := hkz2.cell 2
  have p3 : w1.cell? ⟨w.heap.size + 1, 3, none⟩ = some (.int .i64 nn) := hkz2.cell 3
  have p4 : w1.cell? ⟨w.heap.size + 1, 4, none⟩ = some (.int .i64 kk) := hkz2.cell 4
  have p5 : w1.cell? ⟨w.heap.size + 1, 5, none⟩ = some (.int .i64 v) := hkz2.cell 5
  have p6 : w1.cell? ⟨w.heap.size + 1, 6, none⟩ = some (.int .i64 t) := hkz2.cell 6
  have hfit := nums_fit [client, h] (by simp) (by intro x hx; simp only [List.mem_cons, List.not_mem_nil, or_false] at hx; rcases hx with rfl | rfl <;> assumption)
  have hc := numbers_new (w := w1) [client, h] (by simp) (by intro x hx; simp only [List.mem_cons, List.not_mem_nil, or_false] at hx; rcases hx with rfl | rfl <;> assumption)
  obtain ⟨S, hS⟩ : ∃ S, numsB [client, h] = S := ⟨_, rfl⟩
  rw [hS] at hc hfit
  have HC := Lib.hid hc
  have HS := Lib.hid hS
  have HB := Lib.hid hbx
  have hcs : 4 + S.size ≤ 9223372036854775807 := by omega
  clear hc hS
  clear hbx hkx hkz hkz2 hbz hkx1 hw1 wclient wh wi wnn wkk wv wt
  simp only [ac]
  go_enter Tryd.func24, Tryd.ntmps24
  go_wp2_with fail
  refine HC.out.mono ?_
  rintro e w2 ⟨rfl, hb2⟩
  have HB2 := Lib.hid (HB.out.trans (hb2.mono HB.out.size)); clear hb2
  go_wp2_with fail
  go_ret
  exact ⟨by rw [HS.out]; rfl, HB2.out⟩
set_option maxHeartbeats 1600000 in
set_option linter.unusedVariables false in
theorem rcall_write (k node n client h i nn kk v t : Int) (wclient : I64 client) (wh : I64 h) (wi : I64 i) (wnn : I64 nn) (wkk : I64 kk) (wv : I64 v) (wt : I64 t) :
    Calls Tryd.prog 24 #[.agg (ac k node n client 3 h i nn kk v t).toArray] w fun e w' => e = .returned (.string (nmWrite ++ numsB [client, h, i, v])) ∧ Below w.heap.size w w' := by
  have hbx : Below w.heap.size w (w.alloc (.cells (ac k node n client 3 h i nn kk v t).toArray 27)) := (Below.refl _ _).alloc (Nat.le_refl _) _
  have hkx := Blk.new w 27 (ac k node n client 3 h i nn kk v t)
  obtain ⟨w0, hw0⟩ : ∃ x, w.alloc (.cells (ac k node n client 3 h i nn kk v t).toArray 27) = x := ⟨_, rfl⟩
  rw [hw0] at hbx hkx
  have hs0 : w0.heap.size = w.heap.size + 1 := by rw [← hw0]; simp
  simp only [ac] at hw0
  have hld := hkx.loadOff (P := Tryd.prog) 4 7 (oc 3 h i nn kk v t) rfl rfl
  have q3 : w0.cell? ⟨w.heap.size, 3, none⟩ = some (.int .i64 client) := hkx.cell 3
  have hkz := Blk.new w0 25 (oc 0 0 0 0 0 0 0)
  have hst := hkz.store (P := Tryd.prog) (cs' := oc 3 h i nn kk v t) rfl (oc_one 3 h i nn kk v t)
  have hkz2 := hkz.set (oc 3 h i nn kk v t)
  have hbz := below_setRow ((Below.refl w0.heap.size w0).alloc (Nat.le_refl _) (.cells (oc 0 0 0 0 0 0 0).toArray 25)) (Nat.le_refl _) (oc 3 h i nn kk v t).toArray
  obtain ⟨w1, hw1⟩ : ∃ x, (w0.alloc (.cells (oc 0 0 0 0 0 0 0).toArray 25)).setRow w0.heap.size (oc 3 h i nn kk v t).toArray = x := ⟨_, rfl⟩
  rw [hw1] at hst hkz2 hbz
  have hkx1 := hkx.below hbz hkx.lt
  have q13 : w1.cell? ⟨w.heap.size, 3, none⟩ = some (.int .i64 client) := hkx1.cell 3
  have hbx := hbx.trans (hbz.mono hbx.size)
  rw [hs0] at hst hkz2
  simp only [oc] at hld hst
  have p0 : w1.cell? ⟨w.heap.size + 1, 0, none⟩ = some (.int .i64 3) := hkz2.cell 0
  have p1 : w1.cell? ⟨w.heap.size + 1, 1, none⟩ = some (.int .i64 h) := hkz2.cell 1
  have p2 : w1.cell? ⟨w.heap.size + 1, 2, none⟩ = some (.int .i64 i) := hkz2.cell 2
  have p3 : w1.cell? ⟨w.heap.size + 1, 3, none⟩ = some (.int .i64 nn) := hkz2.cell 3
  have p4 : w1.cell? ⟨w.heap.size + 1, 4, none⟩ = some (.int .i64 kk) := hkz2.cell 4
  have p5 : w1.cell? ⟨w.heap.size + 1, 5, none⟩ = some (.int .i64 v) := hkz2.cell 5
  have p6 : w1.cell? ⟨w.heap.size + 1, 6, none⟩ = some (.int .i64 t) := hkz2.cell 6
  have hfit := nums_fit [client, h, i, v] (by simp) (by intro x hx; simp only [List.mem_cons, List.not_mem_nil, or_false] at hx; rcases hx with rfl | rfl | rfl | rfl <;> assumption)
  have hc := numbers_new (w := w1) [client, h, i, v] (by simp) (by intro x hx; simp only [List.mem_cons, List.not_mem_nil, or_false] at hx; rcases hx with rfl | rfl | rfl | rfl <;> assumption)
  obtain ⟨S, hS⟩ : ∃ S, numsB [client, h, i, v] = S := ⟨_, rfl⟩
  rw [hS] at hc hfit
  have HC := Lib.hid hc
  have HS := Lib.hid hS
  have HB := Lib.hid hbx
  have hcs : 5 + S.size ≤ 9223372036854775807 := by omega
  clear hc hS
  clear hbx hkx hkz hkz2 hbz hkx1 hw1 wclient wh wi wnn wkk wv wt
  simp only [ac]
  go_enter Tryd.func24, Tryd.ntmps24
  go_wp2_with fail
  refine HC.out.mono ?_
  rintro e w2 ⟨rfl, hb2⟩
  have HB2 := Lib.hid (HB.out.trans (hb2.mono HB.out.size)); clear hb2
  go_wp2_with fail
  go_ret
  exact ⟨by rw [HS.out]; rfl, HB2.out⟩
set_option maxHeartbeats 1600000 in
set_option linter.unusedVariables false in
theorem rcall_link (k node n client h i nn kk v t : Int) (wclient : I64 client) (wh : I64 h) (wi : I64 i) (wnn : I64 nn) (wkk : I64 kk) (wv : I64 v) (wt : I64 t) :
    Calls Tryd.prog 24 #[.agg (ac k node n client 4 h i nn kk v t).toArray] w fun e w' => e = .returned (.string (nmLink ++ numsB [client, h, i, t])) ∧ Below w.heap.size w w' := by
  have hbx : Below w.heap.size w (w.alloc (.cells (ac k node n client 4 h i nn kk v t).toArray 27)) := (Below.refl _ _).alloc (Nat.le_refl _) _
  have hkx := Blk.new w 27 (ac k node n client 4 h i nn kk v t)
  obtain ⟨w0, hw0⟩ : ∃ x, w.alloc (.cells (ac k node n client 4 h i nn kk v t).toArray 27) = x := ⟨_, rfl⟩
  rw [hw0] at hbx hkx
  have hs0 : w0.heap.size = w.heap.size + 1 := by rw [← hw0]; simp
  simp only [ac] at hw0
  have hld := hkx.loadOff (P := Tryd.prog) 4 7 (oc 4 h i nn kk v t) rfl rfl
  have q3 : w0.cell? ⟨w.heap.size, 3, none⟩ = some (.int .i64 client) := hkx.cell 3
  have hkz := Blk.new w0 25 (oc 0 0 0 0 0 0 0)
  have hst := hkz.store (P := Tryd.prog) (cs' := oc 4 h i nn kk v t) rfl (oc_one 4 h i nn kk v t)
  have hkz2 := hkz.set (oc 4 h i nn kk v t)
  have hbz := below_setRow ((Below.refl w0.heap.size w0).alloc (Nat.le_refl _) (.cells (oc 0 0 0 0 0 0 0).toArray 25)) (Nat.le_refl _) (oc 4 h i nn kk v t).toArray
  obtain ⟨w1, hw1⟩ : ∃ x, (w0.alloc (.cells (oc 0 0 0 0 0 0 0).toArray 25)).setRow w0.heap.size (oc 4 h i nn kk v t).toArray = x := ⟨_, rfl⟩
  rw [hw1] at hst hkz2 hbz
  have hkx1 := hkx.below hbz hkx.lt
  have q13 : w1.cell? ⟨w.heap.size, 3, none⟩ = some (.int .i64 client) := hkx1.cell 3
  have hbx := hbx.trans (hbz.mono hbx.size)
  rw [hs0] at hst hkz2
  simp only [oc] at hld hst
  have p0 : w1.cell? ⟨w.heap.size + 1, 0, none⟩ = some (.int .i64 4) := hkz2.cell 0
  have p1 : w1.cell? ⟨w.heap.size + 1, 1, none⟩ = some (.int .i64 h) := hkz2.cell 1
  have p2 : w1.cell? ⟨w.heap.size + 1, 2, none⟩ = some (.int .i64 i) := hkz2.cell 2
  have p3 : w1.cell? ⟨w.heap.size + 1, 3, none⟩ = some (.int .i64 nn) := hkz2.cell 3
  have p4 : w1.cell? ⟨w.heap.size + 1, 4, none⟩ = some (.int .i64 kk) := hkz2.cell 4
  have p5 : w1.cell? ⟨w.heap.size + 1, 5, none⟩ = some (.int .i64 v) := hkz2.cell 5
  have p6 : w1.cell? ⟨w.heap.size + 1, 6, none⟩ = some (.int .i64 t) := hkz2.cell 6
  have hfit := nums_fit [client, h, i, t] (by simp) (by intro x hx; simp only [List.mem_cons, List.not_mem_nil, or_false] at hx; rcases hx with rfl | rfl | rfl | rfl <;> assumption)
  have hc := numbers_new (w := w1) [client, h, i, t] (by simp) (by intro x hx; simp only [List.mem_cons, List.not_mem_nil, or_false] at hx; rcases hx with rfl | rfl | rfl | rfl <;> assumption)
  obtain ⟨S, hS⟩ : ∃ S, numsB [client, h, i, t] = S := ⟨_, rfl⟩
  rw [hS] at hc hfit
  have HC := Lib.hid hc
  have HS := Lib.hid hS
  have HB := Lib.hid hbx
  have hcs : 4 + S.size ≤ 9223372036854775807 := by omega
  clear hc hS
  clear hbx hkx hkz hkz2 hbz hkx1 hw1 wclient wh wi wnn wkk wv wt
  simp only [ac]
  go_enter Tryd.func24, Tryd.ntmps24
  go_wp2_with fail
  refine HC.out.mono ?_
  rintro e w2 ⟨rfl, hb2⟩
  have HB2 := Lib.hid (HB.out.trans (hb2.mono HB.out.size)); clear hb2
  go_wp2_with fail
  go_ret
  exact ⟨by rw [HS.out]; rfl, HB2.out⟩
set_option maxHeartbeats 1600000 in
set_option linter.unusedVariables false in
theorem rcall_root (k node n client h i nn kk v t : Int) (wclient : I64 client) (wh : I64 h) (wi : I64 i) (wnn : I64 nn) (wkk : I64 kk) (wv : I64 v) (wt : I64 t) :
    Calls Tryd.prog 24 #[.agg (ac k node n client 5 h i nn kk v t).toArray] w fun e w' => e = .returned (.string (nmRoot ++ numsB [client, i, t])) ∧ Below w.heap.size w w' := by
  have hbx : Below w.heap.size w (w.alloc (.cells (ac k node n client 5 h i nn kk v t).toArray 27)) := (Below.refl _ _).alloc (Nat.le_refl _) _
  have hkx := Blk.new w 27 (ac k node n client 5 h i nn kk v t)
  obtain ⟨w0, hw0⟩ : ∃ x, w.alloc (.cells (ac k node n client 5 h i nn kk v t).toArray 27) = x := ⟨_, rfl⟩
  rw [hw0] at hbx hkx
  have hs0 : w0.heap.size = w.heap.size + 1 := by rw [← hw0]; simp
  simp only [ac] at hw0
  have hld := hkx.loadOff (P := Tryd.prog) 4 7 (oc 5 h i nn kk v t) rfl rfl
  have q3 : w0.cell? ⟨w.heap.size, 3, none⟩ = some (.int .i64 client) := hkx.cell 3
  have hkz := Blk.new w0 25 (oc 0 0 0 0 0 0 0)
  have hst := hkz.store (P := Tryd.prog) (cs' := oc 5 h i nn kk v t) rfl (oc_one 5 h i nn kk v t)
  have hkz2 := hkz.set (oc 5 h i nn kk v t)
  have hbz := below_setRow ((Below.refl w0.heap.size w0).alloc (Nat.le_refl _) (.cells (oc 0 0 0 0 0 0 0).toArray 25)) (Nat.le_refl _) (oc 5 h i nn kk v t).toArray
  obtain ⟨w1, hw1⟩ : ∃ x, (w0.alloc (.cells (oc 0 0 0 0 0 0 0).toArray 25)).setRow w0.heap.size (oc 5 h i nn kk v t).toArray = x := ⟨_, rfl⟩
  rw [hw1] at hst hkz2 hbz
  have hkx1 := hkx.below hbz hkx.lt
  have q13 : w1.cell? ⟨w.heap.size, 3, none⟩ = some (.int .i64 client) := hkx1.cell 3
  have hbx := hbx.trans (hbz.mono hbx.size)
  rw [hs0] at hst hkz2
  simp only [oc] at hld hst
  have p0 : w1.cell? ⟨w.heap.size + 1, 0, none⟩ = some (.int .i64 5) := hkz2.cell 0
  have p1 : w1.cell? ⟨w.heap.size + 1, 1, none⟩ = some (.int .i64 h) := hkz2.cell 1
  have p2 : w1.cell? ⟨w.heap.size + 1, 2, none⟩ = some (.int .i64 i) := hkz2.cell 2
  have p3 : w1.cell? ⟨w.heap.size + 1, 3, none⟩ = some (.int .i64 nn) := hkz2.cell 3
  have p4 : w1.cell? ⟨w.heap.size + 1, 4, none⟩ = some (.int .i64 kk) := hkz2.cell 4
  have p5 : w1.cell? ⟨w.heap.size + 1, 5, none⟩ = some (.int .i64 v) := hkz2.cell 5
  have p6 : w1.cell? ⟨w.heap.size + 1, 6, none⟩ = some (.int .i64 t) := hkz2.cell 6
  have hfit := nums_fit [client, i, t] (by simp) (by intro x hx; simp only [List.mem_cons, List.not_mem_nil, or_false] at hx; rcases hx with rfl | rfl | rfl <;> assumption)
  have hc := numbers_new (w := w1) [client, i, t] (by simp) (by intro x hx; simp only [List.mem_cons, List.not_mem_nil, or_false] at hx; rcases hx with rfl | rfl | rfl <;> assumption)
  obtain ⟨S, hS⟩ : ∃ S, numsB [client, i, t] = S := ⟨_, rfl⟩
  rw [hS] at hc hfit
  have HC := Lib.hid hc
  have HS := Lib.hid hS
  have HB := Lib.hid hbx
  have hcs : 4 + S.size ≤ 9223372036854775807 := by omega
  clear hc hS
  clear hbx hkx hkz hkz2 hbz hkx1 hw1 wclient wh wi wnn wkk wv wt
  simp only [ac]
  go_enter Tryd.func24, Tryd.ntmps24
  go_wp2_with fail
  refine HC.out.mono ?_
  rintro e w2 ⟨rfl, hb2⟩
  have HB2 := Lib.hid (HB.out.trans (hb2.mono HB.out.size)); clear hb2
  go_wp2_with fail
  go_ret
  exact ⟨by rw [HS.out]; rfl, HB2.out⟩
set_option maxHeartbeats 1600000 in
set_option linter.unusedVariables false in
theorem rcall_read (k node n client h i nn kk v t : Int) (wclient : I64 client) (wh : I64 h) (wi : I64 i) (wnn : I64 nn) (wkk : I64 kk) (wv : I64 v) (wt : I64 t) :
    Calls Tryd.prog 24 #[.agg (ac k node n client 6 h i nn kk v t).toArray] w fun e w' => e = .returned (.string (nmRead ++ numsB [client, h, i])) ∧ Below w.heap.size w w' := by
  have hbx : Below w.heap.size w (w.alloc (.cells (ac k node n client 6 h i nn kk v t).toArray 27)) := (Below.refl _ _).alloc (Nat.le_refl _) _
  have hkx := Blk.new w 27 (ac k node n client 6 h i nn kk v t)
  obtain ⟨w0, hw0⟩ : ∃ x, w.alloc (.cells (ac k node n client 6 h i nn kk v t).toArray 27) = x := ⟨_, rfl⟩
  rw [hw0] at hbx hkx
  have hs0 : w0.heap.size = w.heap.size + 1 := by rw [← hw0]; simp
  simp only [ac] at hw0
  have hld := hkx.loadOff (P := Tryd.prog) 4 7 (oc 6 h i nn kk v t) rfl rfl
  have q3 : w0.cell? ⟨w.heap.size, 3, none⟩ = some (.int .i64 client) := hkx.cell 3
  have hkz := Blk.new w0 25 (oc 0 0 0 0 0 0 0)
  have hst := hkz.store (P := Tryd.prog) (cs' := oc 6 h i nn kk v t) rfl (oc_one 6 h i nn kk v t)
  have hkz2 := hkz.set (oc 6 h i nn kk v t)
  have hbz := below_setRow ((Below.refl w0.heap.size w0).alloc (Nat.le_refl _) (.cells (oc 0 0 0 0 0 0 0).toArray 25)) (Nat.le_refl _) (oc 6 h i nn kk v t).toArray
  obtain ⟨w1, hw1⟩ : ∃ x, (w0.alloc (.cells (oc 0 0 0 0 0 0 0).toArray 25)).setRow w0.heap.size (oc 6 h i nn kk v t).toArray = x := ⟨_, rfl⟩
  rw [hw1] at hst hkz2 hbz
  have hkx1 := hkx.below hbz hkx.lt
  have q13 : w1.cell? ⟨w.heap.size, 3, none⟩ = some (.int .i64 client) := hkx1.cell 3
  have hbx := hbx.trans (hbz.mono hbx.size)
  rw [hs0] at hst hkz2
  simp only [oc] at hld hst
  have p0 : w1.cell? ⟨w.heap.size + 1, 0, none⟩ = some (.int .i64 6) := hkz2.cell 0
  have p1 : w1.cell? ⟨w.heap.size + 1, 1, none⟩ = some (.int .i64 h) := hkz2.cell 1
  have p2 : w1.cell? ⟨w.heap.size + 1, 2, none⟩ = some (.int .i64 i) := hkz2.cell 2
  have p3 : w1.cell? ⟨w.heap.size + 1, 3, none⟩ = some (.int .i64 nn) := hkz2.cell 3
  have p4 : w1.cell? ⟨w.heap.size + 1, 4, none⟩ = some (.int .i64 kk) := hkz2.cell 4
  have p5 : w1.cell? ⟨w.heap.size + 1, 5, none⟩ = some (.int .i64 v) := hkz2.cell 5
  have p6 : w1.cell? ⟨w.heap.size + 1, 6, none⟩ = some (.int .i64 t) := hkz2.cell 6
  have hfit := nums_fit [client, h, i] (by simp) (by intro x hx; simp only [List.mem_cons, List.not_mem_nil, or_false] at hx; rcases hx with rfl | rfl | rfl <;> assumption)
  have hc := numbers_new (w := w1) [client, h, i] (by simp) (by intro x hx; simp only [List.mem_cons, List.not_mem_nil, or_false] at hx; rcases hx with rfl | rfl | rfl <;> assumption)
  obtain ⟨S, hS⟩ : ∃ S, numsB [client, h, i] = S := ⟨_, rfl⟩
  rw [hS] at hc hfit
  have HC := Lib.hid hc
  have HS := Lib.hid hS
  have HB := Lib.hid hbx
  have hcs : 4 + S.size ≤ 9223372036854775807 := by omega
  clear hc hS
  clear hbx hkx hkz hkz2 hbz hkx1 hw1 wclient wh wi wnn wkk wv wt
  simp only [ac]
  go_enter Tryd.func24, Tryd.ntmps24
  go_wp2_with fail
  refine HC.out.mono ?_
  rintro e w2 ⟨rfl, hb2⟩
  have HB2 := Lib.hid (HB.out.trans (hb2.mono HB.out.size)); clear hb2
  go_wp2_with fail
  go_ret
  exact ⟨by rw [HS.out]; rfl, HB2.out⟩
set_option maxHeartbeats 1600000 in
set_option linter.unusedVariables false in
theorem rcall_follow (k node n client h i nn kk v t : Int) (wclient : I64 client) (wh : I64 h) (wi : I64 i) (wnn : I64 nn) (wkk : I64 kk) (wv : I64 v) (wt : I64 t) :
    Calls Tryd.prog 24 #[.agg (ac k node n client 7 h i nn kk v t).toArray] w fun e w' => e = .returned (.string (nmFollow ++ numsB [client, h, i])) ∧ Below w.heap.size w w' := by
  have hbx : Below w.heap.size w (w.alloc (.cells (ac k node n client 7 h i nn kk v t).toArray 27)) := (Below.refl _ _).alloc (Nat.le_refl _) _
  have hkx := Blk.new w 27 (ac k node n client 7 h i nn kk v t)
  obtain ⟨w0, hw0⟩ : ∃ x, w.alloc (.cells (ac k node n client 7 h i nn kk v t).toArray 27) = x := ⟨_, rfl⟩
  rw [hw0] at hbx hkx
  have hs0 : w0.heap.size = w.heap.size + 1 := by rw [← hw0]; simp
  simp only [ac] at hw0
  have hld := hkx.loadOff (P := Tryd.prog) 4 7 (oc 7 h i nn kk v t) rfl rfl
  have q3 : w0.cell? ⟨w.heap.size, 3, none⟩ = some (.int .i64 client) := hkx.cell 3
  have hkz := Blk.new w0 25 (oc 0 0 0 0 0 0 0)
  have hst := hkz.store (P := Tryd.prog) (cs' := oc 7 h i nn kk v t) rfl (oc_one 7 h i nn kk v t)
  have hkz2 := hkz.set (oc 7 h i nn kk v t)
  have hbz := below_setRow ((Below.refl w0.heap.size w0).alloc (Nat.le_refl _) (.cells (oc 0 0 0 0 0 0 0).toArray 25)) (Nat.le_refl _) (oc 7 h i nn kk v t).toArray
  obtain ⟨w1, hw1⟩ : ∃ x, (w0.alloc (.cells (oc 0 0 0 0 0 0 0).toArray 25)).setRow w0.heap.size (oc 7 h i nn kk v t).toArray = x := ⟨_, rfl⟩
  rw [hw1] at hst hkz2 hbz
  have hkx1 := hkx.below hbz hkx.lt
  have q13 : w1.cell? ⟨w.heap.size, 3, none⟩ = some (.int .i64 client) := hkx1.cell 3
  have hbx := hbx.trans (hbz.mono hbx.size)
  rw [hs0] at hst hkz2
  simp only [oc] at hld hst
  have p0 : w1.cell? ⟨w.heap.size + 1, 0, none⟩ = some (.int .i64 7) := hkz2.cell 0
  have p1 : w1.cell? ⟨w.heap.size + 1, 1, none⟩ = some (.int .i64 h) := hkz2.cell 1
  have p2 : w1.cell? ⟨w.heap.size + 1, 2, none⟩ = some (.int .i64 i) := hkz2.cell 2
  have p3 : w1.cell? ⟨w.heap.size + 1, 3, none⟩ = some (.int .i64 nn) := hkz2.cell 3
  have p4 : w1.cell? ⟨w.heap.size + 1, 4, none⟩ = some (.int .i64 kk) := hkz2.cell 4
  have p5 : w1.cell? ⟨w.heap.size + 1, 5, none⟩ = some (.int .i64 v) := hkz2.cell 5
  have p6 : w1.cell? ⟨w.heap.size + 1, 6, none⟩ = some (.int .i64 t) := hkz2.cell 6
  have hfit := nums_fit [client, h, i] (by simp) (by intro x hx; simp only [List.mem_cons, List.not_mem_nil, or_false] at hx; rcases hx with rfl | rfl | rfl <;> assumption)
  have hc := numbers_new (w := w1) [client, h, i] (by simp) (by intro x hx; simp only [List.mem_cons, List.not_mem_nil, or_false] at hx; rcases hx with rfl | rfl | rfl <;> assumption)
  obtain ⟨S, hS⟩ : ∃ S, numsB [client, h, i] = S := ⟨_, rfl⟩
  rw [hS] at hc hfit
  have HC := Lib.hid hc
  have HS := Lib.hid hS
  have HB := Lib.hid hbx
  have hcs : 6 + S.size ≤ 9223372036854775807 := by omega
  clear hc hS
  clear hbx hkx hkz hkz2 hbz hkx1 hw1 wclient wh wi wnn wkk wv wt
  simp only [ac]
  go_enter Tryd.func24, Tryd.ntmps24
  go_wp2_with fail
  refine HC.out.mono ?_
  rintro e w2 ⟨rfl, hb2⟩
  have HB2 := Lib.hid (HB.out.trans (hb2.mono HB.out.size)); clear hb2
  go_wp2_with fail
  go_ret
  exact ⟨by rw [HS.out]; rfl, HB2.out⟩
set_option maxHeartbeats 1600000 in
set_option linter.unusedVariables false in
theorem rcall_top (k node n client h i nn kk v t : Int) (wclient : I64 client) (wh : I64 h) (wi : I64 i) (wnn : I64 nn) (wkk : I64 kk) (wv : I64 v) (wt : I64 t) :
    Calls Tryd.prog 24 #[.agg (ac k node n client 8 h i nn kk v t).toArray] w fun e w' => e = .returned (.string (nmTop ++ numsB [client, i])) ∧ Below w.heap.size w w' := by
  have hbx : Below w.heap.size w (w.alloc (.cells (ac k node n client 8 h i nn kk v t).toArray 27)) := (Below.refl _ _).alloc (Nat.le_refl _) _
  have hkx := Blk.new w 27 (ac k node n client 8 h i nn kk v t)
  obtain ⟨w0, hw0⟩ : ∃ x, w.alloc (.cells (ac k node n client 8 h i nn kk v t).toArray 27) = x := ⟨_, rfl⟩
  rw [hw0] at hbx hkx
  have hs0 : w0.heap.size = w.heap.size + 1 := by rw [← hw0]; simp
  simp only [ac] at hw0
  have hld := hkx.loadOff (P := Tryd.prog) 4 7 (oc 8 h i nn kk v t) rfl rfl
  have q3 : w0.cell? ⟨w.heap.size, 3, none⟩ = some (.int .i64 client) := hkx.cell 3
  have hkz := Blk.new w0 25 (oc 0 0 0 0 0 0 0)
  have hst := hkz.store (P := Tryd.prog) (cs' := oc 8 h i nn kk v t) rfl (oc_one 8 h i nn kk v t)
  have hkz2 := hkz.set (oc 8 h i nn kk v t)
  have hbz := below_setRow ((Below.refl w0.heap.size w0).alloc (Nat.le_refl _) (.cells (oc 0 0 0 0 0 0 0).toArray 25)) (Nat.le_refl _) (oc 8 h i nn kk v t).toArray
  obtain ⟨w1, hw1⟩ : ∃ x, (w0.alloc (.cells (oc 0 0 0 0 0 0 0).toArray 25)).setRow w0.heap.size (oc 8 h i nn kk v t).toArray = x := ⟨_, rfl⟩
  rw [hw1] at hst hkz2 hbz
  have hkx1 := hkx.below hbz hkx.lt
  have q13 : w1.cell? ⟨w.heap.size, 3, none⟩ = some (.int .i64 client) := hkx1.cell 3
  have hbx := hbx.trans (hbz.mono hbx.size)
  rw [hs0] at hst hkz2
  simp only [oc] at hld hst
  have p0 : w1.cell? ⟨w.heap.size + 1, 0, none⟩ = some (.int .i64 8) := hkz2.cell 0
  have p1 : w1.cell? ⟨w.heap.size + 1, 1, none⟩ = some (.int .i64 h) := hkz2.cell 1
  have p2 : w1.cell? ⟨w.heap.size + 1, 2, none⟩ = some (.int .i64 i) := hkz2.cell 2
  have p3 : w1.cell? ⟨w.heap.size + 1, 3, none⟩ = some (.int .i64 nn) := hkz2.cell 3
  have p4 : w1.cell? ⟨w.heap.size + 1, 4, none⟩ = some (.int .i64 kk) := hkz2.cell 4
  have p5 : w1.cell? ⟨w.heap.size + 1, 5, none⟩ = some (.int .i64 v) := hkz2.cell 5
  have p6 : w1.cell? ⟨w.heap.size + 1, 6, none⟩ = some (.int .i64 t) := hkz2.cell 6
  have hfit := nums_fit [client, i] (by simp) (by intro x hx; simp only [List.mem_cons, List.not_mem_nil, or_false] at hx; rcases hx with rfl | rfl <;> assumption)
  have hc := numbers_new (w := w1) [client, i] (by simp) (by intro x hx; simp only [List.mem_cons, List.not_mem_nil, or_false] at hx; rcases hx with rfl | rfl <;> assumption)
  obtain ⟨S, hS⟩ : ∃ S, numsB [client, i] = S := ⟨_, rfl⟩
  rw [hS] at hc hfit
  have HC := Lib.hid hc
  have HS := Lib.hid hS
  have HB := Lib.hid hbx
  have hcs : 3 + S.size ≤ 9223372036854775807 := by omega
  clear hc hS
  clear hbx hkx hkz hkz2 hbz hkx1 hw1 wclient wh wi wnn wkk wv wt
  simp only [ac]
  go_enter Tryd.func24, Tryd.ntmps24
  go_wp2_with fail
  refine HC.out.mono ?_
  rintro e w2 ⟨rfl, hb2⟩
  have HB2 := Lib.hid (HB.out.trans (hb2.mono HB.out.size)); clear hb2
  go_wp2_with fail
  go_ret
  exact ⟨by rw [HS.out]; rfl, HB2.out⟩
set_option maxHeartbeats 1600000 in
set_option linter.unusedVariables false in
theorem rcall_none (k node n client ok h i nn kk v t : Int) (u1 : ¬ ok = 1) (u2 : ¬ ok = 2) (u3 : ¬ ok = 3) (u4 : ¬ ok = 4) (u5 : ¬ ok = 5) (u6 : ¬ ok = 6) (u7 : ¬ ok = 7) (u8 : ¬ ok = 8) :
    Calls Tryd.prog 24 #[.agg (ac k node n client ok h i nn kk v t).toArray] w fun e w' => e = .returned (.string ⟨#[]⟩) ∧ Below w.heap.size w w' := by
  have hbx : Below w.heap.size w (w.alloc (.cells (ac k node n client ok h i nn kk v t).toArray 27)) := (Below.refl _ _).alloc (Nat.le_refl _) _
  have hkx := Blk.new w 27 (ac k node n client ok h i nn kk v t)
  obtain ⟨w0, hw0⟩ : ∃ x, w.alloc (.cells (ac k node n client ok h i nn kk v t).toArray 27) = x := ⟨_, rfl⟩
  rw [hw0] at hbx hkx
  have hs0 : w0.heap.size = w.heap.size + 1 := by rw [← hw0]; simp
  simp only [ac] at hw0
  have hld := hkx.loadOff (P := Tryd.prog) 4 7 (oc ok h i nn kk v t) rfl rfl
  have q3 : w0.cell? ⟨w.heap.size, 3, none⟩ = some (.int .i64 client) := hkx.cell 3
  have hkz := Blk.new w0 25 (oc 0 0 0 0 0 0 0)
  have hst := hkz.store (P := Tryd.prog) (cs' := oc ok h i nn kk v t) rfl (oc_one ok h i nn kk v t)
  have hkz2 := hkz.set (oc ok h i nn kk v t)
  have hbz := below_setRow ((Below.refl w0.heap.size w0).alloc (Nat.le_refl _) (.cells (oc 0 0 0 0 0 0 0).toArray 25)) (Nat.le_refl _) (oc ok h i nn kk v t).toArray
  obtain ⟨w1, hw1⟩ : ∃ x, (w0.alloc (.cells (oc 0 0 0 0 0 0 0).toArray 25)).setRow w0.heap.size (oc ok h i nn kk v t).toArray = x := ⟨_, rfl⟩
  rw [hw1] at hst hkz2 hbz
  have hkx1 := hkx.below hbz hkx.lt
  have q13 : w1.cell? ⟨w.heap.size, 3, none⟩ = some (.int .i64 client) := hkx1.cell 3
  have hbx := hbx.trans (hbz.mono hbx.size)
  rw [hs0] at hst hkz2
  simp only [oc] at hld hst
  have p0 : w1.cell? ⟨w.heap.size + 1, 0, none⟩ = some (.int .i64 ok) := hkz2.cell 0
  have p1 : w1.cell? ⟨w.heap.size + 1, 1, none⟩ = some (.int .i64 h) := hkz2.cell 1
  have p2 : w1.cell? ⟨w.heap.size + 1, 2, none⟩ = some (.int .i64 i) := hkz2.cell 2
  have p3 : w1.cell? ⟨w.heap.size + 1, 3, none⟩ = some (.int .i64 nn) := hkz2.cell 3
  have p4 : w1.cell? ⟨w.heap.size + 1, 4, none⟩ = some (.int .i64 kk) := hkz2.cell 4
  have p5 : w1.cell? ⟨w.heap.size + 1, 5, none⟩ = some (.int .i64 v) := hkz2.cell 5
  have p6 : w1.cell? ⟨w.heap.size + 1, 6, none⟩ = some (.int .i64 t) := hkz2.cell 6
  have HB := Lib.hid hbx
  have z1 : (ok == 1) = false := by simp [u1]
  have z2 : (ok == 2) = false := by simp [u2]
  have z3 : (ok == 3) = false := by simp [u3]
  have z4 : (ok == 4) = false := by simp [u4]
  have z5 : (ok == 5) = false := by simp [u5]
  have z6 : (ok == 6) = false := by simp [u6]
  have z7 : (ok == 7) = false := by simp [u7]
  have z8 : (ok == 8) = false := by simp [u8]
  clear hbx hkx hkz hkz2 hbz hkx1 hw1
  simp only [ac]
  go_enter Tryd.func24, Tryd.ntmps24
  go_wp2_with fail
  go_ret
  exact ⟨rfl, HB.out⟩
set_option maxHeartbeats 1600000 in
set_option linter.unusedVariables false in
theorem rcall_any (k node n client ok h i nn kk v t : Int) (wclient : I64 client) (wok : I64 ok) (wh : I64 h) (wi : I64 i) (wnn : I64 nn) (wkk : I64 kk) (wv : I64 v) (wt : I64 t) :
    Calls Tryd.prog 24 #[.agg (ac k node n client ok h i nn kk v t).toArray] w fun e w' => e = .returned (.string (callB client ok h i nn kk v t)) ∧ Below w.heap.size w w' := by
  unfold callB
  by_cases u1 : ok = 1
  · subst u1
    rw [if_pos rfl]
    exact rcall_alloc k node n client h i nn kk v t wclient wh wi wnn wkk wv wt
  rw [if_neg u1]
  by_cases u2 : ok = 2
  · subst u2
    rw [if_pos rfl]
    exact rcall_free k node n client h i nn kk v t wclient wh wi wnn wkk wv wt
  rw [if_neg u2]
  by_cases u3 : ok = 3
  · subst u3
    rw [if_pos rfl]
    exact rcall_write k node n client h i nn kk v t wclient wh wi wnn wkk wv wt
  rw [if_neg u3]
  by_cases u4 : ok = 4
  · subst u4
    rw [if_pos rfl]
    exact rcall_link k node n client h i nn kk v t wclient wh wi wnn wkk wv wt
  rw [if_neg u4]
  by_cases u5 : ok = 5
  · subst u5
    rw [if_pos rfl]
    exact rcall_root k node n client h i nn kk v t wclient wh wi wnn wkk wv wt
  rw [if_neg u5]
  by_cases u6 : ok = 6
  · subst u6
    rw [if_pos rfl]
    exact rcall_read k node n client h i nn kk v t wclient wh wi wnn wkk wv wt
  rw [if_neg u6]
  by_cases u7 : ok = 7
  · subst u7
    rw [if_pos rfl]
    exact rcall_follow k node n client h i nn kk v t wclient wh wi wnn wkk wv wt
  rw [if_neg u7]
  by_cases u8 : ok = 8
  · subst u8
    rw [if_pos rfl]
    exact rcall_top k node n client h i nn kk v t wclient wh wi wnn wkk wv wt
  rw [if_neg u8]
  exact rcall_none k node n client ok h i nn kk v t u1 u2 u3 u4 u5 u6 u7 u8
set_option maxHeartbeats 1600000 in
set_option linter.unusedVariables false in
theorem text_tick (he : Env w) (node n client ok h i nn kk v t : Int) (wnode : I64 node) (wn : I64 n) (wclient : I64 client) (wok : I64 ok) (wh : I64 h) (wi : I64 i) (wnn : I64 nn) (wkk : I64 kk) (wv : I64 v) (wt : I64 t) :
    Calls Tryd.prog 16 #[.agg (ac 1 node n client ok h i nn kk v t).toArray] w fun e w' => e = .returned (.string (nmTick ++ numsB [node])) ∧ Below w.heap.size w w' := by
  have hbx : Below w.heap.size w (w.alloc (.cells (ac 1 node n client ok h i nn kk v t).toArray 27)) := (Below.refl _ _).alloc (Nat.le_refl _) _
  have hkx := Blk.new w 27 (ac 1 node n client ok h i nn kk v t)
  obtain ⟨w1, hw1⟩ : ∃ x, w.alloc (.cells (ac 1 node n client ok h i nn kk v t).toArray 27) = x := ⟨_, rfl⟩
  rw [hw1] at hbx hkx
  simp only [ac] at hw1
  have q0 : w1.cell? ⟨w.heap.size, 0, none⟩ = some (.int .i64 1) := hkx.cell 0
  have q1 : w1.cell? ⟨w.heap.size, 1, none⟩ = some (.int .i64 node) := hkx.cell 1
  have q2 : w1.cell? ⟨w.heap.size, 2, none⟩ = some (.int .i64 n) := hkx.cell 2
  have q3 : w1.cell? ⟨w.heap.size, 3, none⟩ = some (.int .i64 client) := hkx.cell 3
  have q4 : w1.cell? ⟨w.heap.size, 4, none⟩ = some (.int .i64 ok) := hkx.cell 4
  have q5 : w1.cell? ⟨w.heap.size, 5, none⟩ = some (.int .i64 h) := hkx.cell 5
  have q6 : w1.cell? ⟨w.heap.size, 6, none⟩ = some (.int .i64 i) := hkx.cell 6
  have q7 : w1.cell? ⟨w.heap.size, 7, none⟩ = some (.int .i64 nn) := hkx.cell 7
  have q8 : w1.cell? ⟨w.heap.size, 8, none⟩ = some (.int .i64 kk) := hkx.cell 8
  have q9 : w1.cell? ⟨w.heap.size, 9, none⟩ = some (.int .i64 v) := hkx.cell 9
  have q10 : w1.cell? ⟨w.heap.size, 10, none⟩ = some (.int .i64 t) := hkx.cell 10
  have hfit := nums_fit [node] (by simp) (by intro x hx; simp only [List.mem_cons, List.not_mem_nil, or_false] at hx; rcases hx with rfl <;> assumption)
  have hc := numbers_new (w := w1) [node] (by simp) (by intro x hx; simp only [List.mem_cons, List.not_mem_nil, or_false] at hx; rcases hx with rfl <;> assumption)
  obtain ⟨S, hS⟩ : ∃ S, numsB [node] = S := ⟨_, rfl⟩
  rw [hS] at hc hfit
  have HC := Lib.hid hc
  have HS := Lib.hid hS
  have HB := Lib.hid hbx
  have hcs : 4 + S.size ≤ 9223372036854775807 := by omega
  clear hc hS
  clear hbx hkx he wnode wn wclient wok wh wi wnn wkk wv wt
  simp only [ac]
  go_enter Tryd.func16, Tryd.ntmps16
  go_wp2_with fail
  refine HC.out.mono ?_
  rintro e w2 ⟨rfl, hb2⟩
  have HB2 := Lib.hid (HB.out.trans (hb2.mono HB.out.size)); clear hb2
  go_wp2_with fail
  go_ret
  exact ⟨by rw [HS.out]; rfl, HB2.out⟩
set_option maxHeartbeats 1600000 in
set_option linter.unusedVariables false in
theorem text_start (he : Env w) (node n client ok h i nn kk v t : Int) (wnode : I64 node) (wn : I64 n) (wclient : I64 client) (wok : I64 ok) (wh : I64 h) (wi : I64 i) (wnn : I64 nn) (wkk : I64 kk) (wv : I64 v) (wt : I64 t) :
    Calls Tryd.prog 16 #[.agg (ac 8 node n client ok h i nn kk v t).toArray] w fun e w' => e = .returned (.string (nmStart ++ numsB [node])) ∧ Below w.heap.size w w' := by
  have hbx : Below w.heap.size w (w.alloc (.cells (ac 8 node n client ok h i nn kk v t).toArray 27)) := (Below.refl _ _).alloc (Nat.le_refl _) _
  have hkx := Blk.new w 27 (ac 8 node n client ok h i nn kk v t)
  obtain ⟨w1, hw1⟩ : ∃ x, w.alloc (.cells (ac 8 node n client ok h i nn kk v t).toArray 27) = x := ⟨_, rfl⟩
  rw [hw1] at hbx hkx
  simp only [ac] at hw1
  have q0 : w1.cell? ⟨w.heap.size, 0, none⟩ = some (.int .i64 8) := hkx.cell 0
  have q1 : w1.cell? ⟨w.heap.size, 1, none⟩ = some (.int .i64 node) := hkx.cell 1
  have q2 : w1.cell? ⟨w.heap.size, 2, none⟩ = some (.int .i64 n) := hkx.cell 2
  have q3 : w1.cell? ⟨w.heap.size, 3, none⟩ = some (.int .i64 client) := hkx.cell 3
  have q4 : w1.cell? ⟨w.heap.size, 4, none⟩ = some (.int .i64 ok) := hkx.cell 4
  have q5 : w1.cell? ⟨w.heap.size, 5, none⟩ = some (.int .i64 h) := hkx.cell 5
  have q6 : w1.cell? ⟨w.heap.size, 6, none⟩ = some (.int .i64 i) := hkx.cell 6
  have q7 : w1.cell? ⟨w.heap.size, 7, none⟩ = some (.int .i64 nn) := hkx.cell 7
  have q8 : w1.cell? ⟨w.heap.size, 8, none⟩ = some (.int .i64 kk) := hkx.cell 8
  have q9 : w1.cell? ⟨w.heap.size, 9, none⟩ = some (.int .i64 v) := hkx.cell 9
  have q10 : w1.cell? ⟨w.heap.size, 10, none⟩ = some (.int .i64 t) := hkx.cell 10
  have hfit := nums_fit [node] (by simp) (by intro x hx; simp only [List.mem_cons, List.not_mem_nil, or_false] at hx; rcases hx with rfl <;> assumption)
  have hc := numbers_new (w := w1) [node] (by simp) (by intro x hx; simp only [List.mem_cons, List.not_mem_nil, or_false] at hx; rcases hx with rfl <;> assumption)
  obtain ⟨S, hS⟩ : ∃ S, numsB [node] = S := ⟨_, rfl⟩
  rw [hS] at hc hfit
  have HC := Lib.hid hc
  have HS := Lib.hid hS
  have HB := Lib.hid hbx
  have hcs : 5 + S.size ≤ 9223372036854775807 := by omega
  clear hc hS
  clear hbx hkx he wnode wn wclient wok wh wi wnn wkk wv wt
  simp only [ac]
  go_enter Tryd.func16, Tryd.ntmps16
  go_wp2_with fail
  refine HC.out.mono ?_
  rintro e w2 ⟨rfl, hb2⟩
  have HB2 := Lib.hid (HB.out.trans (hb2.mono HB.out.size)); clear hb2
  go_wp2_with fail
  go_ret
  exact ⟨by rw [HS.out]; rfl, HB2.out⟩
set_option maxHeartbeats 1600000 in
set_option linter.unusedVariables false in
theorem text_deliver (he : Env w) (node n client ok h i nn kk v t : Int) (wnode : I64 node) (wn : I64 n) (wclient : I64 client) (wok : I64 ok) (wh : I64 h) (wi : I64 i) (wnn : I64 nn) (wkk : I64 kk) (wv : I64 v) (wt : I64 t) :
    Calls Tryd.prog 16 #[.agg (ac 2 node n client ok h i nn kk v t).toArray] w fun e w' => e = .returned (.string (nmDeliver ++ numsB [n])) ∧ Below w.heap.size w w' := by
  have hbx : Below w.heap.size w (w.alloc (.cells (ac 2 node n client ok h i nn kk v t).toArray 27)) := (Below.refl _ _).alloc (Nat.le_refl _) _
  have hkx := Blk.new w 27 (ac 2 node n client ok h i nn kk v t)
  obtain ⟨w1, hw1⟩ : ∃ x, w.alloc (.cells (ac 2 node n client ok h i nn kk v t).toArray 27) = x := ⟨_, rfl⟩
  rw [hw1] at hbx hkx
  simp only [ac] at hw1
  have q0 : w1.cell? ⟨w.heap.size, 0, none⟩ = some (.int .i64 2) := hkx.cell 0
  have q1 : w1.cell? ⟨w.heap.size, 1, none⟩ = some (.int .i64 node) := hkx.cell 1
  have q2 : w1.cell? ⟨w.heap.size, 2, none⟩ = some (.int .i64 n) := hkx.cell 2
  have q3 : w1.cell? ⟨w.heap.size, 3, none⟩ = some (.int .i64 client) := hkx.cell 3
  have q4 : w1.cell? ⟨w.heap.size, 4, none⟩ = some (.int .i64 ok) := hkx.cell 4
  have q5 : w1.cell? ⟨w.heap.size, 5, none⟩ = some (.int .i64 h) := hkx.cell 5
  have q6 : w1.cell? ⟨w.heap.size, 6, none⟩ = some (.int .i64 i) := hkx.cell 6
  have q7 : w1.cell? ⟨w.heap.size, 7, none⟩ = some (.int .i64 nn) := hkx.cell 7
  have q8 : w1.cell? ⟨w.heap.size, 8, none⟩ = some (.int .i64 kk) := hkx.cell 8
  have q9 : w1.cell? ⟨w.heap.size, 9, none⟩ = some (.int .i64 v) := hkx.cell 9
  have q10 : w1.cell? ⟨w.heap.size, 10, none⟩ = some (.int .i64 t) := hkx.cell 10
  have hfit := nums_fit [n] (by simp) (by intro x hx; simp only [List.mem_cons, List.not_mem_nil, or_false] at hx; rcases hx with rfl <;> assumption)
  have hc := numbers_new (w := w1) [n] (by simp) (by intro x hx; simp only [List.mem_cons, List.not_mem_nil, or_false] at hx; rcases hx with rfl <;> assumption)
  obtain ⟨S, hS⟩ : ∃ S, numsB [n] = S := ⟨_, rfl⟩
  rw [hS] at hc hfit
  have HC := Lib.hid hc
  have HS := Lib.hid hS
  have HB := Lib.hid hbx
  have hcs : 7 + S.size ≤ 9223372036854775807 := by omega
  clear hc hS
  clear hbx hkx he wnode wn wclient wok wh wi wnn wkk wv wt
  simp only [ac]
  go_enter Tryd.func16, Tryd.ntmps16
  go_wp2_with fail
  refine HC.out.mono ?_
  rintro e w2 ⟨rfl, hb2⟩
  have HB2 := Lib.hid (HB.out.trans (hb2.mono HB.out.size)); clear hb2
  go_wp2_with fail
  go_ret
  exact ⟨by rw [HS.out]; rfl, HB2.out⟩
set_option maxHeartbeats 1600000 in
set_option linter.unusedVariables false in
theorem text_drop (he : Env w) (node n client ok h i nn kk v t : Int) (wnode : I64 node) (wn : I64 n) (wclient : I64 client) (wok : I64 ok) (wh : I64 h) (wi : I64 i) (wnn : I64 nn) (wkk : I64 kk) (wv : I64 v) (wt : I64 t) :
    Calls Tryd.prog 16 #[.agg (ac 3 node n client ok h i nn kk v t).toArray] w fun e w' => e = .returned (.string (nmDrop ++ numsB [n])) ∧ Below w.heap.size w w' := by
  have hbx : Below w.heap.size w (w.alloc (.cells (ac 3 node n client ok h i nn kk v t).toArray 27)) := (Below.refl _ _).alloc (Nat.le_refl _) _
  have hkx := Blk.new w 27 (ac 3 node n client ok h i nn kk v t)
  obtain ⟨w1, hw1⟩ : ∃ x, w.alloc (.cells (ac 3 node n client ok h i nn kk v t).toArray 27) = x := ⟨_, rfl⟩
  rw [hw1] at hbx hkx
  simp only [ac] at hw1
  have q0 : w1.cell? ⟨w.heap.size, 0, none⟩ = some (.int .i64 3) := hkx.cell 0
  have q1 : w1.cell? ⟨w.heap.size, 1, none⟩ = some (.int .i64 node) := hkx.cell 1
  have q2 : w1.cell? ⟨w.heap.size, 2, none⟩ = some (.int .i64 n) := hkx.cell 2
  have q3 : w1.cell? ⟨w.heap.size, 3, none⟩ = some (.int .i64 client) := hkx.cell 3
  have q4 : w1.cell? ⟨w.heap.size, 4, none⟩ = some (.int .i64 ok) := hkx.cell 4
  have q5 : w1.cell? ⟨w.heap.size, 5, none⟩ = some (.int .i64 h) := hkx.cell 5
  have q6 : w1.cell? ⟨w.heap.size, 6, none⟩ = some (.int .i64 i) := hkx.cell 6
  have q7 : w1.cell? ⟨w.heap.size, 7, none⟩ = some (.int .i64 nn) := hkx.cell 7
  have q8 : w1.cell? ⟨w.heap.size, 8, none⟩ = some (.int .i64 kk) := hkx.cell 8
  have q9 : w1.cell? ⟨w.heap.size, 9, none⟩ = some (.int .i64 v) := hkx.cell 9
  have q10 : w1.cell? ⟨w.heap.size, 10, none⟩ = some (.int .i64 t) := hkx.cell 10
  have hfit := nums_fit [n] (by simp) (by intro x hx; simp only [List.mem_cons, List.not_mem_nil, or_false] at hx; rcases hx with rfl <;> assumption)
  have hc := numbers_new (w := w1) [n] (by simp) (by intro x hx; simp only [List.mem_cons, List.not_mem_nil, or_false] at hx; rcases hx with rfl <;> assumption)
  obtain ⟨S, hS⟩ : ∃ S, numsB [n] = S := ⟨_, rfl⟩
  rw [hS] at hc hfit
  have HC := Lib.hid hc
  have HS := Lib.hid hS
  have HB := Lib.hid hbx
  have hcs : 4 + S.size ≤ 9223372036854775807 := by omega
  clear hc hS
  clear hbx hkx he wnode wn wclient wok wh wi wnn wkk wv wt
  simp only [ac]
  go_enter Tryd.func16, Tryd.ntmps16
  go_wp2_with fail
  refine HC.out.mono ?_
  rintro e w2 ⟨rfl, hb2⟩
  have HB2 := Lib.hid (HB.out.trans (hb2.mono HB.out.size)); clear hb2
  go_wp2_with fail
  go_ret
  exact ⟨by rw [HS.out]; rfl, HB2.out⟩
set_option maxHeartbeats 1600000 in
set_option linter.unusedVariables false in
theorem text_double (he : Env w) (node n client ok h i nn kk v t : Int) (wnode : I64 node) (wn : I64 n) (wclient : I64 client) (wok : I64 ok) (wh : I64 h) (wi : I64 i) (wnn : I64 nn) (wkk : I64 kk) (wv : I64 v) (wt : I64 t) :
    Calls Tryd.prog 16 #[.agg (ac 4 node n client ok h i nn kk v t).toArray] w fun e w' => e = .returned (.string (nmDouble ++ numsB [n])) ∧ Below w.heap.size w w' := by
  have hbx : Below w.heap.size w (w.alloc (.cells (ac 4 node n client ok h i nn kk v t).toArray 27)) := (Below.refl _ _).alloc (Nat.le_refl _) _
  have hkx := Blk.new w 27 (ac 4 node n client ok h i nn kk v t)
  obtain ⟨w1, hw1⟩ : ∃ x, w.alloc (.cells (ac 4 node n client ok h i nn kk v t).toArray 27) = x := ⟨_, rfl⟩
  rw [hw1] at hbx hkx
  simp only [ac] at hw1
  have q0 : w1.cell? ⟨w.heap.size, 0, none⟩ = some (.int .i64 4) := hkx.cell 0
  have q1 : w1.cell? ⟨w.heap.size, 1, none⟩ = some (.int .i64 node) := hkx.cell 1
  have q2 : w1.cell? ⟨w.heap.size, 2, none⟩ = some (.int .i64 n) := hkx.cell 2
  have q3 : w1.cell? ⟨w.heap.size, 3, none⟩ = some (.int .i64 client) := hkx.cell 3
  have q4 : w1.cell? ⟨w.heap.size, 4, none⟩ = some (.int .i64 ok) := hkx.cell 4
  have q5 : w1.cell? ⟨w.heap.size, 5, none⟩ = some (.int .i64 h) := hkx.cell 5
  have q6 : w1.cell? ⟨w.heap.size, 6, none⟩ = some (.int .i64 i) := hkx.cell 6
  have q7 : w1.cell? ⟨w.heap.size, 7, none⟩ = some (.int .i64 nn) := hkx.cell 7
  have q8 : w1.cell? ⟨w.heap.size, 8, none⟩ = some (.int .i64 kk) := hkx.cell 8
  have q9 : w1.cell? ⟨w.heap.size, 9, none⟩ = some (.int .i64 v) := hkx.cell 9
  have q10 : w1.cell? ⟨w.heap.size, 10, none⟩ = some (.int .i64 t) := hkx.cell 10
  have hfit := nums_fit [n] (by simp) (by intro x hx; simp only [List.mem_cons, List.not_mem_nil, or_false] at hx; rcases hx with rfl <;> assumption)
  have hc := numbers_new (w := w1) [n] (by simp) (by intro x hx; simp only [List.mem_cons, List.not_mem_nil, or_false] at hx; rcases hx with rfl <;> assumption)
  obtain ⟨S, hS⟩ : ∃ S, numsB [n] = S := ⟨_, rfl⟩
  rw [hS] at hc hfit
  have HC := Lib.hid hc
  have HS := Lib.hid hS
  have HB := Lib.hid hbx
  have hcs : 6 + S.size ≤ 9223372036854775807 := by omega
  clear hc hS
  clear hbx hkx he wnode wn wclient wok wh wi wnn wkk wv wt
  simp only [ac]
  go_enter Tryd.func16, Tryd.ntmps16
  go_wp2_with fail
  refine HC.out.mono ?_
  rintro e w2 ⟨rfl, hb2⟩
  have HB2 := Lib.hid (HB.out.trans (hb2.mono HB.out.size)); clear hb2
  go_wp2_with fail
  go_ret
  exact ⟨by rw [HS.out]; rfl, HB2.out⟩
set_option maxHeartbeats 1600000 in
set_option linter.unusedVariables false in
theorem text_retry (he : Env w) (node n client ok h i nn kk v t : Int) (wnode : I64 node) (wn : I64 n) (wclient : I64 client) (wok : I64 ok) (wh : I64 h) (wi : I64 i) (wnn : I64 nn) (wkk : I64 kk) (wv : I64 v) (wt : I64 t) :
    Calls Tryd.prog 16 #[.agg (ac 6 node n client ok h i nn kk v t).toArray] w fun e w' => e = .returned (.string (nmRetry ++ numsB [client])) ∧ Below w.heap.size w w' := by
  have hbx : Below w.heap.size w (w.alloc (.cells (ac 6 node n client ok h i nn kk v t).toArray 27)) := (Below.refl _ _).alloc (Nat.le_refl _) _
  have hkx := Blk.new w 27 (ac 6 node n client ok h i nn kk v t)
  obtain ⟨w1, hw1⟩ : ∃ x, w.alloc (.cells (ac 6 node n client ok h i nn kk v t).toArray 27) = x := ⟨_, rfl⟩
  rw [hw1] at hbx hkx
  simp only [ac] at hw1
  have q0 : w1.cell? ⟨w.heap.size, 0, none⟩ = some (.int .i64 6) := hkx.cell 0
  have q1 : w1.cell? ⟨w.heap.size, 1, none⟩ = some (.int .i64 node) := hkx.cell 1
  have q2 : w1.cell? ⟨w.heap.size, 2, none⟩ = some (.int .i64 n) := hkx.cell 2
  have q3 : w1.cell? ⟨w.heap.size, 3, none⟩ = some (.int .i64 client) := hkx.cell 3
  have q4 : w1.cell? ⟨w.heap.size, 4, none⟩ = some (.int .i64 ok) := hkx.cell 4
  have q5 : w1.cell? ⟨w.heap.size, 5, none⟩ = some (.int .i64 h) := hkx.cell 5
  have q6 : w1.cell? ⟨w.heap.size, 6, none⟩ = some (.int .i64 i) := hkx.cell 6
  have q7 : w1.cell? ⟨w.heap.size, 7, none⟩ = some (.int .i64 nn) := hkx.cell 7
  have q8 : w1.cell? ⟨w.heap.size, 8, none⟩ = some (.int .i64 kk) := hkx.cell 8
  have q9 : w1.cell? ⟨w.heap.size, 9, none⟩ = some (.int .i64 v) := hkx.cell 9
  have q10 : w1.cell? ⟨w.heap.size, 10, none⟩ = some (.int .i64 t) := hkx.cell 10
  have hfit := nums_fit [client] (by simp) (by intro x hx; simp only [List.mem_cons, List.not_mem_nil, or_false] at hx; rcases hx with rfl <;> assumption)
  have hc := numbers_new (w := w1) [client] (by simp) (by intro x hx; simp only [List.mem_cons, List.not_mem_nil, or_false] at hx; rcases hx with rfl <;> assumption)
  obtain ⟨S, hS⟩ : ∃ S, numsB [client] = S := ⟨_, rfl⟩
  rw [hS] at hc hfit
  have HC := Lib.hid hc
  have HS := Lib.hid hS
  have HB := Lib.hid hbx
  have hcs : 5 + S.size ≤ 9223372036854775807 := by omega
  clear hc hS
  clear hbx hkx he wnode wn wclient wok wh wi wnn wkk wv wt
  simp only [ac]
  go_enter Tryd.func16, Tryd.ntmps16
  go_wp2_with fail
  refine HC.out.mono ?_
  rintro e w2 ⟨rfl, hb2⟩
  have HB2 := Lib.hid (HB.out.trans (hb2.mono HB.out.size)); clear hb2
  go_wp2_with fail
  go_ret
  exact ⟨by rw [HS.out]; rfl, HB2.out⟩
set_option maxHeartbeats 1600000 in
set_option linter.unusedVariables false in
theorem text_five (he : Env w) (node n client ok h i nn kk v t : Int) (wnode : I64 node) (wn : I64 n) (wclient : I64 client) (wok : I64 ok) (wh : I64 h) (wi : I64 i) (wnn : I64 nn) (wkk : I64 kk) (wv : I64 v) (wt : I64 t) :
    Calls Tryd.prog 16 #[.agg (ac 5 node n client ok h i nn kk v t).toArray] w fun e w' => e = .returned (.string (callB client ok h i nn kk v t)) ∧ Below w.heap.size w w' := by
  have hbx : Below w.heap.size w (w.alloc (.cells (ac 5 node n client ok h i nn kk v t).toArray 27)) := (Below.refl _ _).alloc (Nat.le_refl _) _
  have hkx := Blk.new w 27 (ac 5 node n client ok h i nn kk v t)
  obtain ⟨w1, hw1⟩ : ∃ x, w.alloc (.cells (ac 5 node n client ok h i nn kk v t).toArray 27) = x := ⟨_, rfl⟩
  rw [hw1] at hbx hkx
  simp only [ac] at hw1
  have q0 : w1.cell? ⟨w.heap.size, 0, none⟩ = some (.int .i64 5) := hkx.cell 0
  have q1 : w1.cell? ⟨w.heap.size, 1, none⟩ = some (.int .i64 node) := hkx.cell 1
  have q2 : w1.cell? ⟨w.heap.size, 2, none⟩ = some (.int .i64 n) := hkx.cell 2
  have q3 : w1.cell? ⟨w.heap.size, 3, none⟩ = some (.int .i64 client) := hkx.cell 3
  have q4 : w1.cell? ⟨w.heap.size, 4, none⟩ = some (.int .i64 ok) := hkx.cell 4
  have q5 : w1.cell? ⟨w.heap.size, 5, none⟩ = some (.int .i64 h) := hkx.cell 5
  have q6 : w1.cell? ⟨w.heap.size, 6, none⟩ = some (.int .i64 i) := hkx.cell 6
  have q7 : w1.cell? ⟨w.heap.size, 7, none⟩ = some (.int .i64 nn) := hkx.cell 7
  have q8 : w1.cell? ⟨w.heap.size, 8, none⟩ = some (.int .i64 kk) := hkx.cell 8
  have q9 : w1.cell? ⟨w.heap.size, 9, none⟩ = some (.int .i64 v) := hkx.cell 9
  have q10 : w1.cell? ⟨w.heap.size, 10, none⟩ = some (.int .i64 t) := hkx.cell 10
  have hld := hkx.load (P := Tryd.prog) (k := 11) rfl
  have HC := Lib.hid (rcall_any (w := w1) 5 node n client ok h i nn kk v t wclient wok wh wi wnn wkk wv wt)
  simp only [ac] at hld
  have HB := Lib.hid hbx
  clear hbx hkx he wnode wn wclient wok wh wi wnn wkk wv wt
  simp only [ac]
  go_enter Tryd.func16, Tryd.ntmps16
  go_wp2_with fail
  refine HC.out.mono ?_
  rintro e w2 ⟨rfl, hb2⟩
  have HB2 := Lib.hid (HB.out.trans (hb2.mono HB.out.size)); clear hb2
  go_wp2_with fail
  go_ret
  exact ⟨rfl, HB2.out⟩
set_option maxHeartbeats 1600000 in
set_option linter.unusedVariables false in
theorem text_now (he : Env w) (node n client ok h i nn kk v t : Int) (wnode : I64 node) (wn : I64 n) (wclient : I64 client) (wok : I64 ok) (wh : I64 h) (wi : I64 i) (wnn : I64 nn) (wkk : I64 kk) (wv : I64 v) (wt : I64 t) (hn : n < 0) :
    Calls Tryd.prog 16 #[.agg (ac 7 node n client ok h i nn kk v t).toArray] w fun e w' => e = .returned (.string (nmCrash ++ numsB [node] ++ behindNow)) ∧ Below w.heap.size w w' := by
  have hbx : Below w.heap.size w (w.alloc (.cells (ac 7 node n client ok h i nn kk v t).toArray 27)) := (Below.refl _ _).alloc (Nat.le_refl _) _
  have hkx := Blk.new w 27 (ac 7 node n client ok h i nn kk v t)
  obtain ⟨w1, hw1⟩ : ∃ x, w.alloc (.cells (ac 7 node n client ok h i nn kk v t).toArray 27) = x := ⟨_, rfl⟩
  rw [hw1] at hbx hkx
  simp only [ac] at hw1
  have q0 : w1.cell? ⟨w.heap.size, 0, none⟩ = some (.int .i64 7) := hkx.cell 0
  have q1 : w1.cell? ⟨w.heap.size, 1, none⟩ = some (.int .i64 node) := hkx.cell 1
  have q2 : w1.cell? ⟨w.heap.size, 2, none⟩ = some (.int .i64 n) := hkx.cell 2
  have q3 : w1.cell? ⟨w.heap.size, 3, none⟩ = some (.int .i64 client) := hkx.cell 3
  have q4 : w1.cell? ⟨w.heap.size, 4, none⟩ = some (.int .i64 ok) := hkx.cell 4
  have q5 : w1.cell? ⟨w.heap.size, 5, none⟩ = some (.int .i64 h) := hkx.cell 5
  have q6 : w1.cell? ⟨w.heap.size, 6, none⟩ = some (.int .i64 i) := hkx.cell 6
  have q7 : w1.cell? ⟨w.heap.size, 7, none⟩ = some (.int .i64 nn) := hkx.cell 7
  have q8 : w1.cell? ⟨w.heap.size, 8, none⟩ = some (.int .i64 kk) := hkx.cell 8
  have q9 : w1.cell? ⟨w.heap.size, 9, none⟩ = some (.int .i64 v) := hkx.cell 9
  have q10 : w1.cell? ⟨w.heap.size, 10, none⟩ = some (.int .i64 t) := hkx.cell 10
  have hfit := nums_fit [node] (by simp) (by intro x hx; simp only [List.mem_cons, List.not_mem_nil, or_false] at hx; rcases hx with rfl <;> assumption)
  have hc := numbers_new (w := w1) [node] (by simp) (by intro x hx; simp only [List.mem_cons, List.not_mem_nil, or_false] at hx; rcases hx with rfl <;> assumption)
  obtain ⟨S, hS⟩ : ∃ S, numsB [node] = S := ⟨_, rfl⟩
  rw [hS] at hc hfit
  have hcs : 5 + S.size ≤ 9223372036854775807 := by omega
  have hcs2 : 5 + S.size + 4 ≤ 9223372036854775807 := by omega
  have HC := Lib.hid hc
  have HS := Lib.hid hS
  have HB := Lib.hid hbx
  clear hc hS
  clear hbx hkx he wnode wn wclient wok wh wi wnn wkk wv wt
  simp only [ac]
  go_enter Tryd.func16, Tryd.ntmps16
  go_wp2_with fail
  refine HC.out.mono ?_
  rintro e w2 ⟨rfl, hb2⟩
  have HB2 := Lib.hid (HB.out.trans (hb2.mono HB.out.size)); clear hb2
  go_wp2_with fail
  go_ret
  exact ⟨by rw [HS.out]; rfl, HB2.out⟩
set_option maxHeartbeats 1600000 in
set_option linter.unusedVariables false in
theorem text_crash (he : Env w) (node n client ok h i nn kk v t : Int) (wnode : I64 node) (wn : I64 n) (wclient : I64 client) (wok : I64 ok) (wh : I64 h) (wi : I64 i) (wnn : I64 nn) (wkk : I64 kk) (wv : I64 v) (wt : I64 t) (hn : ¬ n < 0) :
    Calls Tryd.prog 16 #[.agg (ac 7 node n client ok h i nn kk v t).toArray] w fun e w' => e = .returned (.string (nmCrash ++ numsB [node, n])) ∧ Below w.heap.size w w' := by
  have hbx : Below w.heap.size w (w.alloc (.cells (ac 7 node n client ok h i nn kk v t).toArray 27)) := (Below.refl _ _).alloc (Nat.le_refl _) _
  have hkx := Blk.new w 27 (ac 7 node n client ok h i nn kk v t)
  obtain ⟨w1, hw1⟩ : ∃ x, w.alloc (.cells (ac 7 node n client ok h i nn kk v t).toArray 27) = x := ⟨_, rfl⟩
  rw [hw1] at hbx hkx
  simp only [ac] at hw1
  have q0 : w1.cell? ⟨w.heap.size, 0, none⟩ = some (.int .i64 7) := hkx.cell 0
  have q1 : w1.cell? ⟨w.heap.size, 1, none⟩ = some (.int .i64 node) := hkx.cell 1
  have q2 : w1.cell? ⟨w.heap.size, 2, none⟩ = some (.int .i64 n) := hkx.cell 2
  have q3 : w1.cell? ⟨w.heap.size, 3, none⟩ = some (.int .i64 client) := hkx.cell 3
  have q4 : w1.cell? ⟨w.heap.size, 4, none⟩ = some (.int .i64 ok) := hkx.cell 4
  have q5 : w1.cell? ⟨w.heap.size, 5, none⟩ = some (.int .i64 h) := hkx.cell 5
  have q6 : w1.cell? ⟨w.heap.size, 6, none⟩ = some (.int .i64 i) := hkx.cell 6
  have q7 : w1.cell? ⟨w.heap.size, 7, none⟩ = some (.int .i64 nn) := hkx.cell 7
  have q8 : w1.cell? ⟨w.heap.size, 8, none⟩ = some (.int .i64 kk) := hkx.cell 8
  have q9 : w1.cell? ⟨w.heap.size, 9, none⟩ = some (.int .i64 v) := hkx.cell 9
  have q10 : w1.cell? ⟨w.heap.size, 10, none⟩ = some (.int .i64 t) := hkx.cell 10
  have hfit := nums_fit [node, n] (by simp) (by intro x hx; simp only [List.mem_cons, List.not_mem_nil, or_false] at hx; rcases hx with rfl | rfl <;> assumption)
  have hc := numbers_new (w := w1) [node, n] (by simp) (by intro x hx; simp only [List.mem_cons, List.not_mem_nil, or_false] at hx; rcases hx with rfl | rfl <;> assumption)
  obtain ⟨S, hS⟩ : ∃ S, numsB [node, n] = S := ⟨_, rfl⟩
  rw [hS] at hc hfit
  have HC := Lib.hid hc
  have HS := Lib.hid hS
  have HB := Lib.hid hbx
  have hcs : 5 + S.size ≤ 9223372036854775807 := by omega
  clear hc hS
  clear hbx hkx he wnode wn wclient wok wh wi wnn wkk wv wt
  simp only [ac]
  go_enter Tryd.func16, Tryd.ntmps16
  go_wp2_with fail
  refine HC.out.mono ?_
  rintro e w2 ⟨rfl, hb2⟩
  have HB2 := Lib.hid (HB.out.trans (hb2.mono HB.out.size)); clear hb2
  go_wp2_with fail
  go_ret
  exact ⟨by rw [HS.out]; rfl, HB2.out⟩
set_option maxHeartbeats 1600000 in
set_option linter.unusedVariables false in
theorem text_none (he : Env w) (k node n client ok h i nn kk v t : Int) (u1 : ¬ k = 1) (u2 : ¬ k = 2) (u3 : ¬ k = 3) (u4 : ¬ k = 4) (u5 : ¬ k = 5) (u6 : ¬ k = 6) (u7 : ¬ k = 7) (u8 : ¬ k = 8) :
    Calls Tryd.prog 16 #[.agg (ac k node n client ok h i nn kk v t).toArray] w fun e w' => e = .returned (.string ⟨#[]⟩) ∧ Below w.heap.size w w' := by
  have hbx : Below w.heap.size w (w.alloc (.cells (ac k node n client ok h i nn kk v t).toArray 27)) := (Below.refl _ _).alloc (Nat.le_refl _) _
  have hkx := Blk.new w 27 (ac k node n client ok h i nn kk v t)
  obtain ⟨w1, hw1⟩ : ∃ x, w.alloc (.cells (ac k node n client ok h i nn kk v t).toArray 27) = x := ⟨_, rfl⟩
  rw [hw1] at hbx hkx
  simp only [ac] at hw1
  have q0 : w1.cell? ⟨w.heap.size, 0, none⟩ = some (.int .i64 k) := hkx.cell 0
  have q1 : w1.cell? ⟨w.heap.size, 1, none⟩ = some (.int .i64 node) := hkx.cell 1
  have q2 : w1.cell? ⟨w.heap.size, 2, none⟩ = some (.int .i64 n) := hkx.cell 2
  have q3 : w1.cell? ⟨w.heap.size, 3, none⟩ = some (.int .i64 client) := hkx.cell 3
  have q4 : w1.cell? ⟨w.heap.size, 4, none⟩ = some (.int .i64 ok) := hkx.cell 4
  have q5 : w1.cell? ⟨w.heap.size, 5, none⟩ = some (.int .i64 h) := hkx.cell 5
  have q6 : w1.cell? ⟨w.heap.size, 6, none⟩ = some (.int .i64 i) := hkx.cell 6
  have q7 : w1.cell? ⟨w.heap.size, 7, none⟩ = some (.int .i64 nn) := hkx.cell 7
  have q8 : w1.cell? ⟨w.heap.size, 8, none⟩ = some (.int .i64 kk) := hkx.cell 8
  have q9 : w1.cell? ⟨w.heap.size, 9, none⟩ = some (.int .i64 v) := hkx.cell 9
  have q10 : w1.cell? ⟨w.heap.size, 10, none⟩ = some (.int .i64 t) := hkx.cell 10
  have HB := Lib.hid hbx
  have z1 : (k == 1) = false := by simp [u1]
  have z2 : (k == 2) = false := by simp [u2]
  have z3 : (k == 3) = false := by simp [u3]
  have z4 : (k == 4) = false := by simp [u4]
  have z5 : (k == 5) = false := by simp [u5]
  have z6 : (k == 6) = false := by simp [u6]
  have z7 : (k == 7) = false := by simp [u7]
  have z8 : (k == 8) = false := by simp [u8]
  clear hbx hkx he
  simp only [ac]
  go_enter Tryd.func16, Tryd.ntmps16
  go_wp2_with fail
  go_ret
  exact ⟨rfl, HB.out⟩
set_option maxHeartbeats 1600000 in
set_option linter.unusedVariables false in
theorem text_any (he : Env w) (k node n client ok h i nn kk v t : Int) (wk : I64 k) (wnode : I64 node) (wn : I64 n) (wclient : I64 client) (wok : I64 ok) (wh : I64 h) (wi : I64 i) (wnn : I64 nn) (wkk : I64 kk) (wv : I64 v) (wt : I64 t) :
    Calls Tryd.prog 16 #[.agg (ac k node n client ok h i nn kk v t).toArray] w fun e w' => e = .returned (.string (textB k node n client ok h i nn kk v t)) ∧ Below w.heap.size w w' := by
  unfold textB
  by_cases u1 : k = 1
  · subst u1
    rw [if_pos rfl]
    exact text_tick he node n client ok h i nn kk v t wnode wn wclient wok wh wi wnn wkk wv wt
  rw [if_neg u1]
  by_cases u8 : k = 8
  · subst u8
    rw [if_pos rfl]
    exact text_start he node n client ok h i nn kk v t wnode wn wclient wok wh wi wnn wkk wv wt
  rw [if_neg u8]
  by_cases u2 : k = 2
  · subst u2
    rw [if_pos rfl]
    exact text_deliver he node n client ok h i nn kk v t wnode wn wclient wok wh wi wnn wkk wv wt
  rw [if_neg u2]
  by_cases u3 : k = 3
  · subst u3
    rw [if_pos rfl]
    exact text_drop he node n client ok h i nn kk v t wnode wn wclient wok wh wi wnn wkk wv wt
  rw [if_neg u3]
  by_cases u4 : k = 4
  · subst u4
    rw [if_pos rfl]
    exact text_double he node n client ok h i nn kk v t wnode wn wclient wok wh wi wnn wkk wv wt
  rw [if_neg u4]
  by_cases u6 : k = 6
  · subst u6
    rw [if_pos rfl]
    exact text_retry he node n client ok h i nn kk v t wnode wn wclient wok wh wi wnn wkk wv wt
  rw [if_neg u6]
  by_cases u5 : k = 5
  · subst u5
    rw [if_pos rfl]
    exact text_five he node n client ok h i nn kk v t wnode wn wclient wok wh wi wnn wkk wv wt
  rw [if_neg u5]
  by_cases u7 : k = 7
  · subst u7
    rw [if_pos rfl]
    by_cases hn : n < 0
    · rw [if_pos hn]
      exact text_now he node n client ok h i nn kk v t wnode wn wclient wok wh wi wnn wkk wv wt hn
    · rw [if_neg hn]
      exact text_crash he node n client ok h i nn kk v t wnode wn wclient wok wh wi wnn wkk wv wt hn
  rw [if_neg u7]
  exact text_none he k node n client ok h i nn kk v t u1 u2 u3 u4 u5 u6 u7 u8
end
end Go.Proofs.YtehhgpnaemffnaaDoor
