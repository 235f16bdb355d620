/- An act's line. -/
import Derived.Test.YtehhgpnaemffnaaDoorJoin22
namespace Go.Proofs.YtehhgpnaemffnaaDoor
open Go.RowKit
attribute [-go_sem] loadCellsFrom storeCells
attribute [local go_sem] storeCells_one

def behindNow : ByteArray := ⟨#[32, 110, 111, 119]⟩
def callB (client ok h i nn kk v t : Int) : ByteArray :=
  if ok = 1 then nmAlloc ++ numsB [client, nn, kk] else
  if ok = 2 then nmFree ++ numsB [client, h] else
  if ok = 3 then nmWrite ++ numsB [client, h, i, v] else
  if ok = 4 then nmLink ++ numsB [client, h, i, t] else
  if ok = 5 then nmRoot ++ numsB [client, i, t] else
  if ok = 6 then nmRead ++ numsB [client, h, i] else
  if ok = 7 then nmFollow ++ numsB [client, h, i] else
  if ok = 8 then nmTop ++ numsB [client, i] else
  ⟨#[]⟩
def textB (k node n client ok h i nn kk v t : Int) : ByteArray :=
  if k = 1 then nmTick ++ numsB [node] else
  if k = 8 then nmStart ++ numsB [node] else
  if k = 2 then nmDeliver ++ numsB [n] else
  if k = 3 then nmDrop ++ numsB [n] else
  if k = 4 then nmDouble ++ numsB [n] else
  if k = 6 then nmRetry ++ numsB [client] else
  if k = 5 then callB client ok h i nn kk v t else
  if k = 7 then (if n < 0 then nmCrash ++ numsB [node] ++ behindNow else nmCrash ++ numsB [node, n]) else
  ⟨#[]⟩
theorem nums_fit (l : List Int) (h : l.length ≤ 10) (hw : ∀ x ∈ l, I64 x) : (numsB l).size ≤ 300 := by
  have := numsB_size l hw
  omega
section
variable {w : World}
set_option maxHeartbeats 1600000 in
set_option linter.unusedVariables false in
theorem called_alloc (he : Env w) (client h i nn kk v t : Int) (wclient : I64 client) (wh : I64 h) (wi : I64 i) (wnn : I64 nn) (wkk : I64 kk) (wv : I64 v) (wt : I64 t) :
    Calls Tryd.prog 26 #[.int .i64 client, .agg (oc 1 h i nn kk v t).toArray] w fun e w' => e = .returned (.string (nmAlloc ++ numsB [client, nn, kk])) ∧ Below w.heap.size w w' := by
  have hbx : Below w.heap.size w (w.alloc (.cells (oc 1 h i nn kk v t).toArray 25)) := (Below.refl _ _).alloc (Nat.le_refl _) _
  have hkx := Blk.new w 25 (oc 1 h i nn kk v t)
  obtain ⟨w1, hw1⟩ : ∃ x, w.alloc (.cells (oc 1 h i nn kk v t).toArray 25) = x := ⟨_, rfl⟩
  rw [hw1] at hbx hkx
  simp only [oc] at hw1
  have q0 : w1.cell? ⟨w.heap.size, 0, none⟩ = some (.int .i64 1) := hkx.cell 0
  have q1 : w1.cell? ⟨w.heap.size, 1, none⟩ = some (.int .i64 h) := hkx.cell 1
  have q2 : w1.cell? ⟨w.heap.size, 2, none⟩ = some (.int .i64 i) := hkx.cell 2
  have q3 : w1.cell? ⟨w.heap.size, 3, none⟩ = some (.int .i64 nn) := hkx.cell 3
  have q4 : w1.cell? ⟨w.heap.size, 4, none⟩ = some (.int .i64 kk) := hkx.cell 4
  have q5 : w1.cell? ⟨w.heap.size, 5, none⟩ = some (.int .i64 v) := hkx.cell 5
  have q6 : w1.cell? ⟨w.heap.size, 6, none⟩ = some (.int .i64 t) := hkx.cell 6
  have HC := Lib.hid (join_new (w := w1) (he.below hbx he.big) nmAlloc (by decide) [client, nn, kk] (by simp) (by intro x hx; simp only [List.mem_cons, List.not_mem_nil, or_false] at hx; rcases hx with rfl | rfl | rfl <;> assumption))
  have HB := Lib.hid hbx
  clear hbx hkx he wclient wh wi wnn wkk wv wt
  simp only [oc]
  go_enter Tryd.func26, Tryd.ntmps26
  go_wp2_with fail
  refine HC.out.mono ?_
  rintro e w2 ⟨rfl, hb2⟩
  have HB2 := Lib.hid (HB.out.trans (hb2.mono HB.out.size)); clear hb2
  go_wp2_with fail
  go_ret
  exact ⟨rfl, HB2.out⟩
set_option maxHeartbeats 1600000 in
set_option linter.unusedVariables false in
theorem called_free (he : Env w) (client h i nn kk v t : Int) (wclient : I64 client) (wh : I64 h) (wi : I64 i) (wnn : I64 nn) (wkk : I64 kk) (wv : I64 v) (wt : I64 t) :
    Calls Tryd.prog 26 #[.int .i64 client, .agg (oc 2 h i nn kk v t).toArray] w fun e w' => e = .returned (.string (nmFree ++ numsB [client, h])) ∧ Below w.heap.size w w' := by
  have hbx : Below w.heap.size w (w.alloc (.cells (oc 2 h i nn kk v t).toArray 25)) := (Below.refl _ _).alloc (Nat.le_refl _) _
  have hkx := Blk.new w 25 (oc 2 h i nn kk v t)
  obtain ⟨w1, hw1⟩ : ∃ x, w.alloc (.cells (oc 2 h i nn kk v t).toArray 25) = x := ⟨_, rfl⟩
  rw [hw1] at hbx hkx
  simp only [oc] at hw1
  have q0 : w1.cell? ⟨w.heap.size, 0, none⟩ = some (.int .i64 2) := hkx.cell 0
  have q1 : w1.cell? ⟨w.heap.size, 1, none⟩ = some (.int .i64 h) := hkx.cell 1
  have q2 : w1.cell? ⟨w.heap.size, 2, none⟩ = some (.int .i64 i) := hkx.cell 2
  have q3 : w1.cell? ⟨w.heap.size, 3, none⟩ = some (.int .i64 nn) := hkx.cell 3
  have q4 : w1.cell? ⟨w.heap.size, 4, none⟩ = some (.int .i64 kk) := hkx.cell 4
  have q5 : w1.cell? ⟨w.heap.size, 5, none⟩ = some (.int .i64 v) := hkx.cell 5
  have q6 : w1.cell? ⟨w.heap.size, 6, none⟩ = some (.int .i64 t) := hkx.cell 6
  have HC := Lib.hid (join_new (w := w1) (he.below hbx he.big) nmFree (by decide) [client, h] (by simp) (by intro x hx; simp only [List.mem_cons, List.not_mem_nil, or_false] at hx; rcases hx with rfl | rfl <;> assumption))
  have HB := Lib.hid hbx
  clear hbx hkx he wclient wh wi wnn wkk wv wt
  simp only [oc]
  go_enter Tryd.func26, Tryd.ntmps26
  go_wp2_with fail
  refine HC.out.mono ?_
  rintro e w2 ⟨rfl, hb2⟩
  have HB2 := Lib.hid (HB.out.trans (hb2.mono HB.out.size)); clear hb2
  go_wp2_with fail
  go_ret
  exact ⟨rfl, HB2.out⟩
set_option maxHeartbeats 1600000 in
set_option linter.unusedVariables false in
theorem called_write (he : Env w) (client h i nn kk v t : Int) (wclient : I64 client) (wh : I64 h) (wi : I64 i) (wnn : I64 nn) (wkk : I64 kk) (wv : I64 v) (wt : I64 t) :
    Calls Tryd.prog 26 #[.int .i64 client, .agg (oc 3 h i nn kk v t).toArray] w fun e w' => e = .returned (.string (nmWrite ++ numsB [client, h, i, v])) ∧ Below w.heap.size w w' := by
  have hbx : Below w.heap.size w (w.alloc (.cells (oc 3 h i nn kk v t).toArray 25)) := (Below.refl _ _).alloc (Nat.le_refl _) _
  have hkx := Blk.new w 25 (oc 3 h i nn kk v t)
  obtain ⟨w1, hw1⟩ : ∃ x, w.alloc (.cells (oc 3 h i nn kk v t).toArray 25) = x := ⟨_, rfl⟩
  rw [hw1] at hbx hkx
  simp only [oc] at hw1
  have q0 : w1.cell? ⟨w.heap.size, 0, none⟩ = some (.int .i64 3) := hkx.cell 0
  have q1 : w1.cell? ⟨w.heap.size, 1, none⟩ = some (.int .i64 h) := hkx.cell 1
  have q2 : w1.cell? ⟨w.heap.size, 2, none⟩ = some (.int .i64 i) := hkx.cell 2
  have q3 : w1.cell? ⟨w.heap.size, 3, none⟩ = some (.int .i64 nn) := hkx.cell 3
  have q4 : w1.cell? ⟨w.heap.size, 4, none⟩ = some (.int .i64 kk) := hkx.cell 4
  have q5 : w1.cell? ⟨w.heap.size, 5, none⟩ = some (.int .i64 v) := hkx.cell 5
  have q6 : w1.cell? ⟨w.heap.size, 6, none⟩ = some (.int .i64 t) := hkx.cell 6
  have HC := Lib.hid (join_new (w := w1) (he.below hbx he.big) nmWrite (by decide) [client, h, i, v] (by simp) (by intro x hx; simp only [List.mem_cons, List.not_mem_nil, or_false] at hx; rcases hx with rfl | rfl | rfl | rfl <;> assumption))
  have HB := Lib.hid hbx
  clear hbx hkx he wclient wh wi wnn wkk wv wt
  simp only [oc]
  go_enter Tryd.func26, Tryd.ntmps26
  go_wp2_with fail
  refine HC.out.mono ?_
  rintro e w2 ⟨rfl, hb2⟩
  have HB2 := Lib.hid (HB.out.trans (hb2.mono HB.out.size)); clear hb2
  go_wp2_with fail
  go_ret
  exact ⟨rfl, HB2.out⟩
set_option maxHeartbeats 1600000 in
set_option linter.unusedVariables false in
theorem called_link (he : Env w) (client h i nn kk v t : Int) (wclient : I64 client) (wh : I64 h) (wi : I64 i) (wnn : I64 nn) (wkk : I64 kk) (wv : I64 v) (wt : I64 t) :
    Calls Tryd.prog 26 #[.int .i64 client, .agg (oc 4 h i nn kk v t).toArray] w fun e w' => e = .returned (.string (nmLink ++ numsB [client, h, i, t])) ∧ Below w.heap.size w w' := by
  have hbx : Below w.heap.size w (w.alloc (.cells (oc 4 h i nn kk v t).toArray 25)) := (Below.refl _ _).alloc (Nat.le_refl _) _
  have hkx := Blk.new w 25 (oc 4 h i nn kk v t)
  obtain ⟨w1, hw1⟩ : ∃ x, w.alloc (.cells (oc 4 h i nn kk v t).toArray 25) = x := ⟨_, rfl⟩
  rw [hw1] at hbx hkx
  simp only [oc] at hw1
  have q0 : w1.cell? ⟨w.heap.size, 0, none⟩ = some (.int .i64 4) := hkx.cell 0
  have q1 : w1.cell? ⟨w.heap.size, 1, none⟩ = some (.int .i64 h) := hkx.cell 1
  have q2 : w1.cell? ⟨w.heap.size, 2, none⟩ = some (.int .i64 i) := hkx.cell 2
  have q3 : w1.cell? ⟨w.heap.size, 3, none⟩ = some (.int .i64 nn) := hkx.cell 3
  have q4 : w1.cell? ⟨w.heap.size, 4, none⟩ = some (.int .i64 kk) := hkx.cell 4
  have q5 : w1.cell? ⟨w.heap.size, 5, none⟩ = some (.int .i64 v) := hkx.cell 5
  have q6 : w1.cell? ⟨w.heap.size, 6, none⟩ = some (.int .i64 t) := hkx.cell 6
  have HC := Lib.hid (join_new (w := w1) (he.below hbx he.big) nmLink (by decide) [client, h, i, t] (by simp) (by intro x hx; simp only [List.mem_cons, List.not_mem_nil, or_false] at hx; rcases hx with rfl | rfl | rfl | rfl <;> assumption))
  have HB := Lib.hid hbx
  clear hbx hkx he wclient wh wi wnn wkk wv wt
  simp only [oc]
  go_enter Tryd.func26, Tryd.ntmps26
  go_wp2_with fail
  refine HC.out.mono ?_
  rintro e w2 ⟨rfl, hb2⟩
  have HB2 := Lib.hid (HB.out.trans (hb2.mono HB.out.size)); clear hb2
  go_wp2_with fail
  go_ret
  exact ⟨rfl, HB2.out⟩
set_option maxHeartbeats 1600000 in
set_option linter.unusedVariables false in
theorem called_root (he : Env w) (client h i nn kk v t : Int) (wclient : I64 client) (wh : I64 h) (wi : I64 i) (wnn : I64 nn) (wkk : I64 kk) (wv : I64 v) (wt : I64 t) :
    Calls Tryd.prog 26 #[.int .i64 client, .agg (oc 5 h i nn kk v t).toArray] w fun e w' => e = .returned (.string (nmRoot ++ numsB [client, i, t])) ∧ Below w.heap.size w w' := by
  have hbx : Below w.heap.size w (w.alloc (.cells (oc 5 h i nn kk v t).toArray 25)) := (Below.refl _ _).alloc (Nat.le_refl _) _
  have hkx := Blk.new w 25 (oc 5 h i nn kk v t)
  obtain ⟨w1, hw1⟩ : ∃ x, w.alloc (.cells (oc 5 h i nn kk v t).toArray 25) = x := ⟨_, rfl⟩
  rw [hw1] at hbx hkx
  simp only [oc] at hw1
  have q0 : w1.cell? ⟨w.heap.size, 0, none⟩ = some (.int .i64 5) := hkx.cell 0
  have q1 : w1.cell? ⟨w.heap.size, 1, none⟩ = some (.int .i64 h) := hkx.cell 1
  have q2 : w1.cell? ⟨w.heap.size, 2, none⟩ = some (.int .i64 i) := hkx.cell 2
  have q3 : w1.cell? ⟨w.heap.size, 3, none⟩ = some (.int .i64 nn) := hkx.cell 3
  have q4 : w1.cell? ⟨w.heap.size, 4, none⟩ = some (.int .i64 kk) := hkx.cell 4
  have q5 : w1.cell? ⟨w.heap.size, 5, none⟩ = some (.int .i64 v) := hkx.cell 5
  have q6 : w1.cell? ⟨w.heap.size, 6, none⟩ = some (.int .i64 t) := hkx.cell 6
  have HC := Lib.hid (join_new (w := w1) (he.below hbx he.big) nmRoot (by decide) [client, i, t] (by simp) (by intro x hx; simp only [List.mem_cons, List.not_mem_nil, or_false] at hx; rcases hx with rfl | rfl | rfl <;> assumption))
  have HB := Lib.hid hbx
  clear hbx hkx he wclient wh wi wnn wkk wv wt
  simp only [oc]
  go_enter Tryd.func26, Tryd.ntmps26
  go_wp2_with fail
  refine HC.out.mono ?_
  rintro e w2 ⟨rfl, hb2⟩
  have HB2 := Lib.hid (HB.out.trans (hb2.mono HB.out.size)); clear hb2
  go_wp2_with fail
  go_ret
  exact ⟨rfl, HB2.out⟩
set_option maxHeartbeats 1600000 in
set_option linter.unusedVariables false in
theorem called_read (he : Env w) (client h i nn kk v t : Int) (wclient : I64 client) (wh : I64 h) (wi : I64 i) (wnn : I64 nn) (wkk : I64 kk) (wv : I64 v) (wt : I64 t) :
    Calls Tryd.prog 26 #[.int .i64 client, .agg (oc 6 h i nn kk v t).toArray] w fun e w' => e = .returned (.string (nmRead ++ numsB [client, h, i])) ∧ Below w.heap.size w w' := by
  have hbx : Below w.heap.size w (w.alloc (.cells (oc 6 h i nn kk v t).toArray 25)) := (Below.refl _ _).alloc (Nat.le_refl _) _
  have hkx := Blk.new w 25 (oc 6 h i nn kk v t)
  obtain ⟨w1, hw1⟩ : ∃ x, w.alloc (.cells (oc 6 h i nn kk v t).toArray 25) = x := ⟨_, rfl⟩
  rw [hw1] at hbx hkx
  simp only [oc] at hw1
  have q0 : w1.cell? ⟨w.heap.size, 0, none⟩ = some (.int .i64 6) := hkx.cell 0
  have q1 : w1.cell? ⟨w.heap.size, 1, none⟩ = some (.int .i64 h) := hkx.cell 1
  have q2 : w1.cell? ⟨w.heap.size, 2, none⟩ = some (.int .i64 i) := hkx.cell 2
  have q3 : w1.cell? ⟨w.heap.size, 3, none⟩ = some (.int .i64 nn) := hkx.cell 3
  have q4 : w1.cell? ⟨w.heap.size, 4, none⟩ = some (.int .i64 kk) := hkx.cell 4
  have q5 : w1.cell? ⟨w.heap.size, 5, none⟩ = some (.int .i64 v) := hkx.cell 5
  have q6 : w1.cell? ⟨w.heap.size, 6, none⟩ = some (.int .i64 t) := hkx.cell 6
  have HC := Lib.hid (join_new (w := w1) (he.below hbx he.big) nmRead (by decide) [client, h, i] (by simp) (by intro x hx; simp only [List.mem_cons, List.not_mem_nil, or_false] at hx; rcases hx with rfl | rfl | rfl <;> assumption))
  have HB := Lib.hid hbx
  clear hbx hkx he wclient wh wi wnn wkk wv wt
  simp only [oc]
  go_enter Tryd.func26, Tryd.ntmps26
  go_wp2_with fail
  refine HC.out.mono ?_
  rintro e w2 ⟨rfl, hb2⟩
  have HB2 := Lib.hid (HB.out.trans (hb2.mono HB.out.size)); clear hb2
  go_wp2_with fail
  go_ret
  exact ⟨rfl, HB2.out⟩
set_option maxHeartbeats 1600000 in
set_option linter.unusedVariables false in
theorem called_follow (he : Env w) (client h i nn kk v t : Int) (wclient : I64 client) (wh : I64 h) (wi : I64 i) (wnn : I64 nn) (wkk : I64 kk) (wv : I64 v) (wt : I64 t) :
    Calls Tryd.prog 26 #[.int .i64 client, .agg (oc 7 h i nn kk v t).toArray] w fun e w' => e = .returned (.string (nmFollow ++ numsB [client, h, i])) ∧ Below w.heap.size w w' := by
  have hbx : Below w.heap.size w (w.alloc (.cells (oc 7 h i nn kk v t).toArray 25)) := (Below.refl _ _).alloc (Nat.le_refl _) _
  have hkx := Blk.new w 25 (oc 7 h i nn kk v t)
  obtain ⟨w1, hw1⟩ : ∃ x, w.alloc (.cells (oc 7 h i nn kk v t).toArray 25) = x := ⟨_, rfl⟩
  rw [hw1] at hbx hkx
  simp only [oc] at hw1
  have q0 : w1.cell? ⟨w.heap.size, 0, none⟩ = some (.int .i64 7) := hkx.cell 0
  have q1 : w1.cell? ⟨w.heap.size, 1, none⟩ = some (.int .i64 h) := hkx.cell 1
  have q2 : w1.cell? ⟨w.heap.size, 2, none⟩ = some (.int .i64 i) := hkx.cell 2
  have q3 : w1.cell? ⟨w.heap.size, 3, none⟩ = some (.int .i64 nn) := hkx.cell 3
  have q4 : w1.cell? ⟨w.heap.size, 4, none⟩ = some (.int .i64 kk) := hkx.cell 4
  have q5 : w1.cell? ⟨w.heap.size, 5, none⟩ = some (.int .i64 v) := hkx.cell 5
  have q6 : w1.cell? ⟨w.heap.size, 6, none⟩ = some (.int .i64 t) := hkx.cell 6
  have HC := Lib.hid (join_new (w := w1) (he.below hbx he.big) nmFollow (by decide) [client, h, i] (by simp) (by intro x hx; simp only [List.mem_cons, List.not_mem_nil, or_false] at hx; rcases hx with rfl | rfl | rfl <;> assumption))
  have HB := Lib.hid hbx
  clear hbx hkx he wclient wh wi wnn wkk wv wt
  simp only [oc]
  go_enter Tryd.func26, Tryd.ntmps26
  go_wp2_with fail
  refine HC.out.mono ?_
  rintro e w2 ⟨rfl, hb2⟩
  have HB2 := Lib.hid (HB.out.trans (hb2.mono HB.out.size)); clear hb2
  go_wp2_with fail
  go_ret
  exact ⟨rfl, HB2.out⟩
set_option maxHeartbeats 1600000 in
set_option linter.unusedVariables false in
theorem called_top (he : Env w) (client h i nn kk v t : Int) (wclient : I64 client) (wh : I64 h) (wi : I64 i) (wnn : I64 nn) (wkk : I64 kk) (wv : I64 v) (wt : I64 t) :
    Calls Tryd.prog 26 #[.int .i64 client, .agg (oc 8 h i nn kk v t).toArray] w fun e w' => e = .returned (.string (nmTop ++ numsB [client, i])) ∧ Below w.heap.size w w' := by
  have hbx : Below w.heap.size w (w.alloc (.cells (oc 8 h i nn kk v t).toArray 25)) := (Below.refl _ _).alloc (Nat.le_refl _) _
  have hkx := Blk.new w 25 (oc 8 h i nn kk v t)
  obtain ⟨w1, hw1⟩ : ∃ x, w.alloc (.cells (oc 8 h i nn kk v t).toArray 25) = x := ⟨_, rfl⟩
  rw [hw1] at hbx hkx
  simp only [oc] at hw1
  have q0 : w1.cell? ⟨w.heap.size, 0, none⟩ = some (.int .i64 8) := hkx.cell 0
  have q1 : w1.cell? ⟨w.heap.size, 1, none⟩ = some (.int .i64 h) := hkx.cell 1
  have q2 : w1.cell? ⟨w.heap.size, 2, none⟩ = some (.int .i64 i) := hkx.cell 2
  have q3 : w1.cell? ⟨w.heap.size, 3, none⟩ = some (.int .i64 nn) := hkx.cell 3
  have q4 : w1.cell? ⟨w.heap.size, 4, none⟩ = some (.int .i64 kk) := hkx.cell 4
  have q5 : w1.cell? ⟨w.heap.size, 5, none⟩ = some (.int .i64 v) := hkx.cell 5
  have q6 : w1.cell? ⟨w.heap.size, 6, none⟩ = some (.int .i64 t) := hkx.cell 6
  have HC := Lib.hid (join_new (w := w1) (he.below hbx he.big) nmTop (by decide) [client, i] (by simp) (by intro x hx; simp only [List.mem_cons, List.not_mem_nil, or_false] at hx; rcases hx with rfl | rfl <;> assumption))
  have HB := Lib.hid hbx
  clear hbx hkx he wclient wh wi wnn wkk wv wt
  simp only [oc]
  go_enter Tryd.func26, Tryd.ntmps26
  go_wp2_with fail
  refine HC.out.mono ?_
  rintro e w2 ⟨rfl, hb2⟩
  have HB2 := Lib.hid (HB.out.trans (hb2.mono HB.out.size)); clear hb2
  go_wp2_with fail
  go_ret
  exact ⟨rfl, HB2.out⟩
set_option maxHeartbeats 1600000 in
set_option linter.unusedVariables false in
theorem called_none (he : Env w) (client ok h i nn kk v t : Int) (u1 : ¬ ok = 1) (u2 : ¬ ok = 2) (u3 : ¬ ok = 3) (u4 : ¬ ok = 4) (u5 : ¬ ok = 5) (u6 : ¬ ok = 6) (u7 : ¬ ok = 7) (u8 : ¬ ok = 8) :
    Calls Tryd.prog 26 #[.int .i64 client, .agg (oc ok h i nn kk v t).toArray] w fun e w' => e = .returned (.string ⟨#[]⟩) ∧ Below w.heap.size w w' := by
  have hbx : Below w.heap.size w (w.alloc (.cells (oc ok h i nn kk v t).toArray 25)) := (Below.refl _ _).alloc (Nat.le_refl _) _
  have hkx := Blk.new w 25 (oc ok h i nn kk v t)
  obtain ⟨w1, hw1⟩ : ∃ x, w.alloc (.cells (oc ok h i nn kk v t).toArray 25) = x := ⟨_, rfl⟩
  rw [hw1] at hbx hkx
  simp only [oc] at hw1
  have q0 : w1.cell? ⟨w.heap.size, 0, none⟩ = some (.int .i64 ok) := hkx.cell 0
  have q1 : w1.cell? ⟨w.heap.size, 1, none⟩ = some (.int .i64 h) := hkx.cell 1
  have q2 : w1.cell? ⟨w.heap.size, 2, none⟩ = some (.int .i64 i) := hkx.cell 2
  have q3 : w1.cell? ⟨w.heap.size, 3, none⟩ = some (.int .i64 nn) := hkx.cell 3
  have q4 : w1.cell? ⟨w.heap.size, 4, none⟩ = some (.int .i64 kk) := hkx.cell 4
  have q5 : w1.cell? ⟨w.heap.size, 5, none⟩ = some (.int .i64 v) := hkx.cell 5
  have q6 : w1.cell? ⟨w.heap.size, 6, none⟩ = some (.int .i64 t) := hkx.cell 6
  have HB := Lib.hid hbx
  have z1 : (ok == 1) = false := by simp [u1]
  have z2 : (ok == 2) = false := by simp [u2]
  have z3 : (ok == 3) = false := by simp [u3]
  have z4 : (ok == 4) = false := by simp [u4]
  have z5 : (ok == 5) = false := by simp [u5]
  have z6 : (ok == 6) = false := by simp [u6]
  have z7 : (ok == 7) = false := by simp [u7]
  have z8 : (ok == 8) = false := by simp [u8]
  clear hbx hkx he
  simp only [oc]
  go_enter Tryd.func26, Tryd.ntmps26
  go_wp2_with fail
  go_ret
  exact ⟨rfl, HB.out⟩
set_option maxHeartbeats 1600000 in
set_option linter.unusedVariables false in
theorem called_any (he : Env w) (client ok h i nn kk v t : Int) (wclient : I64 client) (wok : I64 ok) (wh : I64 h) (wi : I64 i) (wnn : I64 nn) (wkk : I64 kk) (wv : I64 v) (wt : I64 t) :
    Calls Tryd.prog 26 #[.int .i64 client, .agg (oc ok h i nn kk v t).toArray] w fun e w' => e = .returned (.string (callB client ok h i nn kk v t)) ∧ Below w.heap.size w w' := by
  unfold callB
  by_cases u1 : ok = 1
  · subst u1
    rw [if_pos rfl]
    exact called_alloc he client h i nn kk v t wclient wh wi wnn wkk wv wt
  rw [if_neg u1]
  by_cases u2 : ok = 2
  · subst u2
    rw [if_pos rfl]
    exact called_free he client h i nn kk v t wclient wh wi wnn wkk wv wt
  rw [if_neg u2]
  by_cases u3 : ok = 3
  · subst u3
    rw [if_pos rfl]
    exact called_write he client h i nn kk v t wclient wh wi wnn wkk wv wt
  rw [if_neg u3]
  by_cases u4 : ok = 4
  · subst u4
    rw [if_pos rfl]
    exact called_link he client h i nn kk v t wclient wh wi wnn wkk wv wt
  rw [if_neg u4]
  by_cases u5 : ok = 5
  · subst u5
    rw [if_pos rfl]
    exact called_root he client h i nn kk v t wclient wh wi wnn wkk wv wt
  rw [if_neg u5]
  by_cases u6 : ok = 6
  · subst u6
    rw [if_pos rfl]
    exact called_read he client h i nn kk v t wclient wh wi wnn wkk wv wt
  rw [if_neg u6]
  by_cases u7 : ok = 7
  · subst u7
    rw [if_pos rfl]
    exact called_follow he client h i nn kk v t wclient wh wi wnn wkk wv wt
  rw [if_neg u7]
  by_cases u8 : ok = 8
  · subst u8
    rw [if_pos rfl]
    exact called_top he client h i nn kk v t wclient wh wi wnn wkk wv wt
  rw [if_neg u8]
  exact called_none he client ok h i nn kk v t u1 u2 u3 u4 u5 u6 u7 u8
set_option maxHeartbeats 1600000 in
set_option linter.unusedVariables false in
theorem spelt_tick (he : Env w) (node n client ok h i nn kk v t : Int) (wnode : I64 node) (wn : I64 n) (wclient : I64 client) (wok : I64 ok) (wh : I64 h) (wi : I64 i) (wnn : I64 nn) (wkk : I64 kk) (wv : I64 v) (wt : I64 t) :
    Calls Tryd.prog 17 #[.agg (ac 1 node n client ok h i nn kk v t).toArray] w fun e w' => e = .returned (.string (nmTick ++ numsB [node])) ∧ Below w.heap.size w w' := by
  have hbx : Below w.heap.size w (w.alloc (.cells (ac 1 node n client ok h i nn kk v t).toArray 27)) := (Below.refl _ _).alloc (Nat.le_refl _) _
  have hkx := Blk.new w 27 (ac 1 node n client ok h i nn kk v t)
  obtain ⟨w1, hw1⟩ : ∃ x, w.alloc (.cells (ac 1 node n client ok h i nn kk v t).toArray 27) = x := ⟨_, rfl⟩
  rw [hw1] at hbx hkx
  simp only [ac] at hw1
  have q0 : w1.cell? ⟨w.heap.size, 0, none⟩ = some (.int .i64 1) := hkx.cell 0
  have q1 : w1.cell? ⟨w.heap.size, 1, none⟩ = some (.int .i64 node) := hkx.cell 1
  have q2 : w1.cell? ⟨w.heap.size, 2, none⟩ = some (.int .i64 n) := hkx.cell 2
  have q3 : w1.cell? ⟨w.heap.size, 3, none⟩ = some (.int .i64 client) := hkx.cell 3
  have q4 : w1.cell? ⟨w.heap.size, 4, none⟩ = some (.int .i64 ok) := hkx.cell 4
  have q5 : w1.cell? ⟨w.heap.size, 5, none⟩ = some (.int .i64 h) := hkx.cell 5
  have q6 : w1.cell? ⟨w.heap.size, 6, none⟩ = some (.int .i64 i) := hkx.cell 6
  have q7 : w1.cell? ⟨w.heap.size, 7, none⟩ = some (.int .i64 nn) := hkx.cell 7
  have q8 : w1.cell? ⟨w.heap.size, 8, none⟩ = some (.int .i64 kk) := hkx.cell 8
  have q9 : w1.cell? ⟨w.heap.size, 9, none⟩ = some (.int .i64 v) := hkx.cell 9
  have q10 : w1.cell? ⟨w.heap.size, 10, none⟩ = some (.int .i64 t) := hkx.cell 10
  have HC := Lib.hid (join_new (w := w1) (he.below hbx he.big) nmTick (by decide) [node] (by simp) (by intro x hx; simp only [List.mem_cons, List.not_mem_nil, or_false] at hx; rcases hx with rfl <;> assumption))
  have HB := Lib.hid hbx
  clear hbx hkx he wnode wn wclient wok wh wi wnn wkk wv wt
  simp only [ac]
  go_enter Tryd.func17, Tryd.ntmps17
  go_wp2_with fail
  refine HC.out.mono ?_
  rintro e w2 ⟨rfl, hb2⟩
  have HB2 := Lib.hid (HB.out.trans (hb2.mono HB.out.size)); clear hb2
  go_wp2_with fail
  go_ret
  exact ⟨rfl, HB2.out⟩
set_option maxHeartbeats 1600000 in
set_option linter.unusedVariables false in
theorem spelt_start (he : Env w) (node n client ok h i nn kk v t : Int) (wnode : I64 node) (wn : I64 n) (wclient : I64 client) (wok : I64 ok) (wh : I64 h) (wi : I64 i) (wnn : I64 nn) (wkk : I64 kk) (wv : I64 v) (wt : I64 t) :
    Calls Tryd.prog 17 #[.agg (ac 8 node n client ok h i nn kk v t).toArray] w fun e w' => e = .returned (.string (nmStart ++ numsB [node])) ∧ Below w.heap.size w w' := by
  have hbx : Below w.heap.size w (w.alloc (.cells (ac 8 node n client ok h i nn kk v t).toArray 27)) := (Below.refl _ _).alloc (Nat.le_refl _) _
  have hkx := Blk.new w 27 (ac 8 node n client ok h i nn kk v t)
  obtain ⟨w1, hw1⟩ : ∃ x, w.alloc (.cells (ac 8 node n client ok h i nn kk v t).toArray 27) = x := ⟨_, rfl⟩
  rw [hw1] at hbx hkx
  simp only [ac] at hw1
  have q0 : w1.cell? ⟨w.heap.size, 0, none⟩ = some (.int .i64 8) := hkx.cell 0
  have q1 : w1.cell? ⟨w.heap.size, 1, none⟩ = some (.int .i64 node) := hkx.cell 1
  have q2 : w1.cell? ⟨w.heap.size, 2, none⟩ = some (.int .i64 n) := hkx.cell 2
  have q3 : w1.cell? ⟨w.heap.size, 3, none⟩ = some (.int .i64 client) := hkx.cell 3
  have q4 : w1.cell? ⟨w.heap.size, 4, none⟩ = some (.int .i64 ok) := hkx.cell 4
  have q5 : w1.cell? ⟨w.heap.size, 5, none⟩ = some (.int .i64 h) := hkx.cell 5
  have q6 : w1.cell? ⟨w.heap.size, 6, none⟩ = some (.int .i64 i) := hkx.cell 6
  have q7 : w1.cell? ⟨w.heap.size, 7, none⟩ = some (.int .i64 nn) := hkx.cell 7
  have q8 : w1.cell? ⟨w.heap.size, 8, none⟩ = some (.int .i64 kk) := hkx.cell 8
  have q9 : w1.cell? ⟨w.heap.size, 9, none⟩ = some (.int .i64 v) := hkx.cell 9
  have q10 : w1.cell? ⟨w.heap.size, 10, none⟩ = some (.int .i64 t) := hkx.cell 10
  have HC := Lib.hid (join_new (w := w1) (he.below hbx he.big) nmStart (by decide) [node] (by simp) (by intro x hx; simp only [List.mem_cons, List.not_mem_nil, or_false] at hx; rcases hx with rfl <;> assumption))
  have HB := Lib.hid hbx
  clear hbx hkx he wnode wn wclient wok wh wi wnn wkk wv wt
  simp only [ac]
  go_enter Tryd.func17, Tryd.ntmps17
  go_wp2_with fail
  refine HC.out.mono ?_
  rintro e w2 ⟨rfl, hb2⟩
  have HB2 := Lib.hid (HB.out.trans (hb2.mono HB.out.size)); clear hb2
  go_wp2_with fail
  go_ret
  exact ⟨rfl, HB2.out⟩
set_option maxHeartbeats 1600000 in
set_option linter.unusedVariables false in
theorem spelt_deliver (he : Env w) (node n client ok h i nn kk v t : Int) (wnode : I64 node) (wn : I64 n) (wclient : I64 client) (wok : I64 ok) (wh : I64 h) (wi : I64 i) (wnn : I64 nn) (wkk : I64 kk) (wv : I64 v) (wt : I64 t) :
    Calls Tryd.prog 17 #[.agg (ac 2 node n client ok h i nn kk v t).toArray] w fun e w' => e = .returned (.string (nmDeliver ++ numsB [n])) ∧ Below w.heap.size w w' := by
  have hbx : Below w.heap.size w (w.alloc (.cells (ac 2 node n client ok h i nn kk v t).toArray 27)) := (Below.refl _ _).alloc (Nat.le_refl _) _
  have hkx := Blk.new w 27 (ac 2 node n client ok h i nn kk v t)
  obtain ⟨w1, hw1⟩ : ∃ x, w.alloc (.cells (ac 2 node n client ok h i nn kk v t).toArray 27) = x := ⟨_, rfl⟩
  rw [hw1] at hbx hkx
  simp only [ac] at hw1
  have q0 : w1.cell? ⟨w.heap.size, 0, none⟩ = some (.int .i64 2) := hkx.cell 0
  have q1 : w1.cell? ⟨w.heap.size, 1, none⟩ = some (.int .i64 node) := hkx.cell 1
  have q2 : w1.cell? ⟨w.heap.size, 2, none⟩ = some (.int .i64 n) := hkx.cell 2
  have q3 : w1.cell? ⟨w.heap.size, 3, none⟩ = some (.int .i64 client) := hkx.cell 3
  have q4 : w1.cell? ⟨w.heap.size, 4, none⟩ = some (.int .i64 ok) := hkx.cell 4
  have q5 : w1.cell? ⟨w.heap.size, 5, none⟩ = some (.int .i64 h) := hkx.cell 5
  have q6 : w1.cell? ⟨w.heap.size, 6, none⟩ = some (.int .i64 i) := hkx.cell 6
  have q7 : w1.cell? ⟨w.heap.size, 7, none⟩ = some (.int .i64 nn) := hkx.cell 7
  have q8 : w1.cell? ⟨w.heap.size, 8, none⟩ = some (.int .i64 kk) := hkx.cell 8
  have q9 : w1.cell? ⟨w.heap.size, 9, none⟩ = some (.int .i64 v) := hkx.cell 9
  have q10 : w1.cell? ⟨w.heap.size, 10, none⟩ = some (.int .i64 t) := hkx.cell 10
  have HC := Lib.hid (join_new (w := w1) (he.below hbx he.big) nmDeliver (by decide) [n] (by simp) (by intro x hx; simp only [List.mem_cons, List.not_mem_nil, or_false] at hx; rcases hx with rfl <;> assumption))
  have HB := Lib.hid hbx
  clear hbx hkx he wnode wn wclient wok wh wi wnn wkk wv wt
  simp only [ac]
  go_enter Tryd.func17, Tryd.ntmps17
  go_wp2_with fail
  refine HC.out.mono ?_
  rintro e w2 ⟨rfl, hb2⟩
  have HB2 := Lib.hid (HB.out.trans (hb2.mono HB.out.size)); clear hb2
  go_wp2_with fail
  go_ret
  exact ⟨rfl, HB2.out⟩
set_option maxHeartbeats 1600000 in
set_option linter.unusedVariables false in
theorem spelt_drop (he : Env w) (node n client ok h i nn kk v t : Int) (wnode : I64 node) (wn : I64 n) (wclient : I64 client) (wok : I64 ok) (wh : I64 h) (wi : I64 i) (wnn : I64 nn) (wkk : I64 kk) (wv : I64 v) (wt : I64 t) :
    Calls Tryd.prog 17 #[.agg (ac 3 node n client ok h i nn kk v t).toArray] w fun e w' => e = .returned (.string (nmDrop ++ numsB [n])) ∧ Below w.heap.size w w' := by
  have hbx : Below w.heap.size w (w.alloc (.cells (ac 3 node n client ok h i nn kk v t).toArray 27)) := (Below.refl _ _).alloc (Nat.le_refl _) _
  have hkx := Blk.new w 27 (ac 3 node n client ok h i nn kk v t)
  obtain ⟨w1, hw1⟩ : ∃ x, w.alloc (.cells (ac 3 node n client ok h i nn kk v t).toArray 27) = x := ⟨_, rfl⟩
  rw [hw1] at hbx hkx
  simp only [ac] at hw1
  have q0 : w1.cell? ⟨w.heap.size, 0, none⟩ = some (.int .i64 3) := hkx.cell 0
  have q1 : w1.cell? ⟨w.heap.size, 1, none⟩ = some (.int .i64 node) := hkx.cell 1
  have q2 : w1.cell? ⟨w.heap.size, 2, none⟩ = some (.int .i64 n) := hkx.cell 2
  have q3 : w1.cell? ⟨w.heap.size, 3, none⟩ = some (.int .i64 client) := hkx.cell 3
  have q4 : w1.cell? ⟨w.heap.size, 4, none⟩ = some (.int .i64 ok) := hkx.cell 4
  have q5 : w1.cell? ⟨w.heap.size, 5, none⟩ = some (.int .i64 h) := hkx.cell 5
  have q6 : w1.cell? ⟨w.heap.size, 6, none⟩ = some (.int .i64 i) := hkx.cell 6
  have q7 : w1.cell? ⟨w.heap.size, 7, none⟩ = some (.int .i64 nn) := hkx.cell 7
  have q8 : w1.cell? ⟨w.heap.size, 8, none⟩ = some (.int .i64 kk) := hkx.cell 8
  have q9 : w1.cell? ⟨w.heap.size, 9, none⟩ = some (.int .i64 v) := hkx.cell 9
  have q10 : w1.cell? ⟨w.heap.size, 10, none⟩ = some (.int .i64 t) := hkx.cell 10
  have HC := Lib.hid (join_new (w := w1) (he.below hbx he.big) nmDrop (by decide) [n] (by simp) (by intro x hx; simp only [List.mem_cons, List.not_mem_nil, or_false] at hx; rcases hx with rfl <;> assumption))
  have HB := Lib.hid hbx
  clear hbx hkx he wnode wn wclient wok wh wi wnn wkk wv wt
  simp only [ac]
  go_enter Tryd.func17, Tryd.ntmps17
  go_wp2_with fail
  refine HC.out.mono ?_
  rintro e w2 ⟨rfl, hb2⟩
  have HB2 := Lib.hid (HB.out.trans (hb2.mono HB.out.size)); clear hb2
  go_wp2_with fail
  go_ret
  exact ⟨rfl, HB2.out⟩
set_option maxHeartbeats 1600000 in
set_option linter.unusedVariables false in
theorem spelt_double (he : Env w) (node n client ok h i nn kk v t : Int) (wnode : I64 node) (wn : I64 n) (wclient : I64 client) (wok : I64 ok) (wh : I64 h) (wi : I64 i) (wnn : I64 nn) (wkk : I64 kk) (wv : I64 v) (wt : I64 t) :
    Calls Tryd.prog 17 #[.agg (ac 4 node n client ok h i nn kk v t).toArray] w fun e w' => e = .returned (.string (nmDouble ++ numsB [n])) ∧ Below w.heap.size w w' := by
  have hbx : Below w.heap.size w (w.alloc (.cells (ac 4 node n client ok h i nn kk v t).toArray 27)) := (Below.refl _ _).alloc (Nat.le_refl _) _
  have hkx := Blk.new w 27 (ac 4 node n client ok h i nn kk v t)
  obtain ⟨w1, hw1⟩ : ∃ x, w.alloc (.cells (ac 4 node n client ok h i nn kk v t).toArray 27) = x := ⟨_, rfl⟩
  rw [hw1] at hbx hkx
  simp only [ac] at hw1
  have q0 : w1.cell? ⟨w.heap.size, 0, none⟩ = some (.int .i64 4) := hkx.cell 0
  have q1 : w1.cell? ⟨w.heap.size, 1, none⟩ = some (.int .i64 node) := hkx.cell 1
  have q2 : w1.cell? ⟨w.heap.size, 2, none⟩ = some (.int .i64 n) := hkx.cell 2
  have q3 : w1.cell? ⟨w.heap.size, 3, none⟩ = some (.int .i64 client) := hkx.cell 3
  have q4 : w1.cell? ⟨w.heap.size, 4, none⟩ = some (.int .i64 ok) := hkx.cell 4
  have q5 : w1.cell? ⟨w.heap.size, 5, none⟩ = some (.int .i64 h) := hkx.cell 5
  have q6 : w1.cell? ⟨w.heap.size, 6, none⟩ = some (.int .i64 i) := hkx.cell 6
  have q7 : w1.cell? ⟨w.heap.size, 7, none⟩ = some (.int .i64 nn) := hkx.cell 7
  have q8 : w1.cell? ⟨w.heap.size, 8, none⟩ = some (.int .i64 kk) := hkx.cell 8
  have q9 : w1.cell? ⟨w.heap.size, 9, none⟩ = some (.int .i64 v) := hkx.cell 9
  have q10 : w1.cell? ⟨w.heap.size, 10, none⟩ = some (.int .i64 t) := hkx.cell 10
  have HC := Lib.hid (join_new (w := w1) (he.below hbx he.big) nmDouble (by decide) [n] (by simp) (by intro x hx; simp only [List.mem_cons, List.not_mem_nil, or_false] at hx; rcases hx with rfl <;> assumption))
  have HB := Lib.hid hbx
  clear hbx hkx he wnode wn wclient wok wh wi wnn wkk wv wt
  simp only [ac]
  go_enter Tryd.func17, Tryd.ntmps17
  go_wp2_with fail
  refine HC.out.mono ?_
  rintro e w2 ⟨rfl, hb2⟩
  have HB2 := Lib.hid (HB.out.trans (hb2.mono HB.out.size)); clear hb2
  go_wp2_with fail
  go_ret
  exact ⟨rfl, HB2.out⟩
set_option maxHeartbeats 1600000 in
set_option linter.unusedVariables false in
theorem spelt_retry (he : Env w) (node n client ok h i nn kk v t : Int) (wnode : I64 node) (wn : I64 n) (wclient : I64 client) (wok : I64 ok) (wh : I64 h) (wi : I64 i) (wnn : I64 nn) (wkk : I64 kk) (wv : I64 v) (wt : I64 t) :
    Calls Tryd.prog 17 #[.agg (ac 6 node n client ok h i nn kk v t).toArray] w fun e w' => e = .returned (.string (nmRetry ++ numsB [client])) ∧ Below w.heap.size w w' := by
  have hbx : Below w.heap.size w (w.alloc (.cells (ac 6 node n client ok h i nn kk v t).toArray 27)) := (Below.refl _ _).alloc (Nat.le_refl _) _
  have hkx := Blk.new w 27 (ac 6 node n client ok h i nn kk v t)
  obtain ⟨w1, hw1⟩ : ∃ x, w.alloc (.cells (ac 6 node n client ok h i nn kk v t).toArray 27) = x := ⟨_, rfl⟩
  rw [hw1] at hbx hkx
  simp only [ac] at hw1
  have q0 : w1.cell? ⟨w.heap.size, 0, none⟩ = some (.int .i64 6) := hkx.cell 0
  have q1 : w1.cell? ⟨w.heap.size, 1, none⟩ = some (.int .i64 node) := hkx.cell 1
  have q2 : w1.cell? ⟨w.heap.size, 2, none⟩ = some (.int .i64 n) := hkx.cell 2
  have q3 : w1.cell? ⟨w.heap.size, 3, none⟩ = some (.int .i64 client) := hkx.cell 3
  have q4 : w1.cell? ⟨w.heap.size, 4, none⟩ = some (.int .i64 ok) := hkx.cell 4
  have q5 : w1.cell? ⟨w.heap.size, 5, none⟩ = some (.int .i64 h) := hkx.cell 5
  have q6 : w1.cell? ⟨w.heap.size, 6, none⟩ = some (.int .i64 i) := hkx.cell 6
  have q7 : w1.cell? ⟨w.heap.size, 7, none⟩ = some (.int .i64 nn) := hkx.cell 7
  have q8 : w1.cell? ⟨w.heap.size, 8, none⟩ = some (.int .i64 kk) := hkx.cell 8
  have q9 : w1.cell? ⟨w.heap.size, 9, none⟩ = some (.int .i64 v) := hkx.cell 9
  have q10 : w1.cell? ⟨w.heap.size, 10, none⟩ = some (.int .i64 t) := hkx.cell 10
  have HC := Lib.hid (join_new (w := w1) (he.below hbx he.big) nmRetry (by decide) [client] (by simp) (by intro x hx; simp only [List.mem_cons, List.not_mem_nil, or_false] at hx; rcases hx with rfl <;> assumption))
  have HB := Lib.hid hbx
  clear hbx hkx he wnode wn wclient wok wh wi wnn wkk wv wt
  simp only [ac]
  go_enter Tryd.func17, Tryd.ntmps17
  go_wp2_with fail
  refine HC.out.mono ?_
  rintro e w2 ⟨rfl, hb2⟩
  have HB2 := Lib.hid (HB.out.trans (hb2.mono HB.out.size)); clear hb2
  go_wp2_with fail
  go_ret
  exact ⟨rfl, HB2.out⟩
set_option maxHeartbeats 1600000 in
set_option linter.unusedVariables false in
theorem spelt_five (he : Env w) (node n client ok h i nn kk v t : Int) (wnode : I64 node) (wn : I64 n) (wclient : I64 client) (wok : I64 ok) (wh : I64 h) (wi : I64 i) (wnn : I64 nn) (wkk : I64 kk) (wv : I64 v) (wt : I64 t) :
    Calls Tryd.prog 17 #[.agg (ac 5 node n client ok h i nn kk v t).toArray] w fun e w' => e = .returned (.string (callB client ok h i nn kk v t)) ∧ Below w.heap.size w w' := by
  have hbx : Below w.heap.size w (w.alloc (.cells (ac 5 node n client ok h i nn kk v t).toArray 27)) := (Below.refl _ _).alloc (Nat.le_refl _) _
  have hkx := Blk.new w 27 (ac 5 node n client ok h i nn kk v t)
  obtain ⟨w1, hw1⟩ : ∃ x, w.alloc (.cells (ac 5 node n client ok h i nn kk v t).toArray 27) = x := ⟨_, rfl⟩
  rw [hw1] at hbx hkx
  simp only [ac] at hw1
  have q0 : w1.cell? ⟨w.heap.size, 0, none⟩ = some (.int .i64 5) := hkx.cell 0
  have q1 : w1.cell? ⟨w.heap.size, 1, none⟩ = some (.int .i64 node) := hkx.cell 1
  have q2 : w1.cell? ⟨w.heap.size, 2, none⟩ = some (.int .i64 n) := hkx.cell 2
  have q3 : w1.cell? ⟨w.heap.size, 3, none⟩ = some (.int .i64 client) := hkx.cell 3
  have q4 : w1.cell? ⟨w.heap.size, 4, none⟩ = some (.int .i64 ok) := hkx.cell 4
  have q5 : w1.cell? ⟨w.heap.size, 5, none⟩ = some (.int .i64 h) := hkx.cell 5
  have q6 : w1.cell? ⟨w.heap.size, 6, none⟩ = some (.int .i64 i) := hkx.cell 6
  have q7 : w1.cell? ⟨w.heap.size, 7, none⟩ = some (.int .i64 nn) := hkx.cell 7
  have q8 : w1.cell? ⟨w.heap.size, 8, none⟩ = some (.int .i64 kk) := hkx.cell 8
  have q9 : w1.cell? ⟨w.heap.size, 9, none⟩ = some (.int .i64 v) := hkx.cell 9
  have q10 : w1.cell? ⟨w.heap.size, 10, none⟩ = some (.int .i64 t) := hkx.cell 10
  have hld := hkx.loadOff (P := Tryd.prog) 4 7 (oc ok h i nn kk v t) rfl rfl
  have HC := Lib.hid (called_any (he.below hbx he.big) client ok h i nn kk v t wclient wok wh wi wnn wkk wv wt)
  simp only [oc] at hld
  have HB := Lib.hid hbx
  clear hbx hkx he wnode wn wclient wok wh wi wnn wkk wv wt
  simp only [ac]
  go_enter Tryd.func17, Tryd.ntmps17
  go_wp2_with fail
  refine HC.out.mono ?_
  rintro e w2 ⟨rfl, hb2⟩
  have HB2 := Lib.hid (HB.out.trans (hb2.mono HB.out.size)); clear hb2
  go_wp2_with fail
  go_ret
  exact ⟨rfl, HB2.out⟩
set_option maxHeartbeats 1600000 in
set_option linter.unusedVariables false in
theorem spelt_now (he : Env w) (node n client ok h i nn kk v t : Int) (wnode : I64 node) (wn : I64 n) (wclient : I64 client) (wok : I64 ok) (wh : I64 h) (wi : I64 i) (wnn : I64 nn) (wkk : I64 kk) (wv : I64 v) (wt : I64 t) (hn : n < 0) :
    Calls Tryd.prog 17 #[.agg (ac 7 node n client ok h i nn kk v t).toArray] w fun e w' => e = .returned (.string (nmCrash ++ numsB [node] ++ behindNow)) ∧ Below w.heap.size w w' := by
  have hbx : Below w.heap.size w (w.alloc (.cells (ac 7 node n client ok h i nn kk v t).toArray 27)) := (Below.refl _ _).alloc (Nat.le_refl _) _
  have hkx := Blk.new w 27 (ac 7 node n client ok h i nn kk v t)
  obtain ⟨w1, hw1⟩ : ∃ x, w.alloc (.cells (ac 7 node n client ok h i nn kk v t).toArray 27) = x := ⟨_, rfl⟩
  rw [hw1] at hbx hkx
  simp only [ac] at hw1
  have q0 : w1.cell? ⟨w.heap.size, 0, none⟩ = some (.int .i64 7) := hkx.cell 0
  have q1 : w1.cell? ⟨w.heap.size, 1, none⟩ = some (.int .i64 node) := hkx.cell 1
  have q2 : w1.cell? ⟨w.heap.size, 2, none⟩ = some (.int .i64 n) := hkx.cell 2
  have q3 : w1.cell? ⟨w.heap.size, 3, none⟩ = some (.int .i64 client) := hkx.cell 3
  have q4 : w1.cell? ⟨w.heap.size, 4, none⟩ = some (.int .i64 ok) := hkx.cell 4
  have q5 : w1.cell? ⟨w.heap.size, 5, none⟩ = some (.int .i64 h) := hkx.cell 5
  have q6 : w1.cell? ⟨w.heap.size, 6, none⟩ = some (.int .i64 i) := hkx.cell 6
  have q7 : w1.cell? ⟨w.heap.size, 7, none⟩ = some (.int .i64 nn) := hkx.cell 7
  have q8 : w1.cell? ⟨w.heap.size, 8, none⟩ = some (.int .i64 kk) := hkx.cell 8
  have q9 : w1.cell? ⟨w.heap.size, 9, none⟩ = some (.int .i64 v) := hkx.cell 9
  have q10 : w1.cell? ⟨w.heap.size, 10, none⟩ = some (.int .i64 t) := hkx.cell 10
  have hfit := nums_fit [node] (by simp) (by intro x hx; simp only [List.mem_cons, List.not_mem_nil, or_false] at hx; rcases hx with rfl <;> assumption)
  have hc := join_new (w := w1) (he.below hbx he.big) nmCrash (by decide) [node] (by simp) (by intro x hx; simp only [List.mem_cons, List.not_mem_nil, or_false] at hx; rcases hx with rfl <;> assumption)
  have hT : (nmCrash ++ numsB [node]).size ≤ 400 := by rw [ByteArray.size_append]; have : nmCrash.size = 5 := rfl; omega
  obtain ⟨T, hS⟩ : ∃ T, nmCrash ++ numsB [node] = T := ⟨_, rfl⟩
  rw [hS] at hc hT
  have hcs : T.size + 4 ≤ 9223372036854775807 := by omega
  have HC := Lib.hid hc
  have HS := Lib.hid hS
  have HB := Lib.hid hbx
  clear hc hS
  clear hbx hkx he wnode wn wclient wok wh wi wnn wkk wv wt
  simp only [ac]
  go_enter Tryd.func17, Tryd.ntmps17
  go_wp2_with fail
  refine HC.out.mono ?_
  rintro e w2 ⟨rfl, hb2⟩
  have HB2 := Lib.hid (HB.out.trans (hb2.mono HB.out.size)); clear hb2
  go_wp2_with fail
  go_ret
  exact ⟨by rw [HS.out]; rfl, HB2.out⟩
set_option maxHeartbeats 1600000 in
set_option linter.unusedVariables false in
theorem spelt_crash (he : Env w) (node n client ok h i nn kk v t : Int) (wnode : I64 node) (wn : I64 n) (wclient : I64 client) (wok : I64 ok) (wh : I64 h) (wi : I64 i) (wnn : I64 nn) (wkk : I64 kk) (wv : I64 v) (wt : I64 t) (hn : ¬ n < 0) :
    Calls Tryd.prog 17 #[.agg (ac 7 node n client ok h i nn kk v t).toArray] w fun e w' => e = .returned (.string (nmCrash ++ numsB [node, n])) ∧ Below w.heap.size w w' := by
  have hbx : Below w.heap.size w (w.alloc (.cells (ac 7 node n client ok h i nn kk v t).toArray 27)) := (Below.refl _ _).alloc (Nat.le_refl _) _
  have hkx := Blk.new w 27 (ac 7 node n client ok h i nn kk v t)
  obtain ⟨w1, hw1⟩ : ∃ x, w.alloc (.cells (ac 7 node n client ok h i nn kk v t).toArray 27) = x := ⟨_, rfl⟩
  rw [hw1] at hbx hkx
  simp only [ac] at hw1
  have q0 : w1.cell? ⟨w.heap.size, 0, none⟩ = some (.int .i64 7) := hkx.cell 0
  have q1 : w1.cell? ⟨w.heap.size, 1, none⟩ = some (.int .i64 node) := hkx.cell 1
  have q2 : w1.cell? ⟨w.heap.size, 2, none⟩ = some (.int .i64 n) := hkx.cell 2
  have q3 : w1.cell? ⟨w.heap.size, 3, none⟩ = some (.int .i64 client) := hkx.cell 3
  have q4 : w1.cell? ⟨w.heap.size, 4, none⟩ = some (.int .i64 ok) := hkx.cell 4
  have q5 : w1.cell? ⟨w.heap.size, 5, none⟩ = some (.int .i64 h) := hkx.cell 5
  have q6 : w1.cell? ⟨w.heap.size, 6, none⟩ = some (.int .i64 i) := hkx.cell 6
  have q7 : w1.cell? ⟨w.heap.size, 7, none⟩ = some (.int .i64 nn) := hkx.cell 7
  have q8 : w1.cell? ⟨w.heap.size, 8, none⟩ = some (.int .i64 kk) := hkx.cell 8
  have q9 : w1.cell? ⟨w.heap.size, 9, none⟩ = some (.int .i64 v) := hkx.cell 9
  have q10 : w1.cell? ⟨w.heap.size, 10, none⟩ = some (.int .i64 t) := hkx.cell 10
  have HC := Lib.hid (join_new (w := w1) (he.below hbx he.big) nmCrash (by decide) [node, n] (by simp) (by intro x hx; simp only [List.mem_cons, List.not_mem_nil, or_false] at hx; rcases hx with rfl | rfl <;> assumption))
  have HB := Lib.hid hbx
  clear hbx hkx he wnode wn wclient wok wh wi wnn wkk wv wt
  simp only [ac]
  go_enter Tryd.func17, Tryd.ntmps17
  go_wp2_with fail
  refine HC.out.mono ?_
  rintro e w2 ⟨rfl, hb2⟩
  have HB2 := Lib.hid (HB.out.trans (hb2.mono HB.out.size)); clear hb2
  go_wp2_with fail
  go_ret
  exact ⟨rfl, HB2.out⟩
set_option maxHeartbeats 1600000 in
set_option linter.unusedVariables false in
theorem spelt_none (he : Env w) (k node n client ok h i nn kk v t : Int) (u1 : ¬ k = 1) (u2 : ¬ k = 2) (u3 : ¬ k = 3) (u4 : ¬ k = 4) (u5 : ¬ k = 5) (u6 : ¬ k = 6) (u7 : ¬ k = 7) (u8 : ¬ k = 8) :
    Calls Tryd.prog 17 #[.agg (ac k node n client ok h i nn kk v t).toArray] w fun e w' => e = .returned (.string ⟨#[]⟩) ∧ Below w.heap.size w w' := by
  have hbx : Below w.heap.size w (w.alloc (.cells (ac k node n client ok h i nn kk v t).toArray 27)) := (Below.refl _ _).alloc (Nat.le_refl _) _
  have hkx := Blk.new w 27 (ac k node n client ok h i nn kk v t)
  obtain ⟨w1, hw1⟩ : ∃ x, w.alloc (.cells (ac k node n client ok h i nn kk v t).toArray 27) = x := ⟨_, rfl⟩
  rw [hw1] at hbx hkx
  simp only [ac] at hw1
  have q0 : w1.cell? ⟨w.heap.size, 0, none⟩ = some (.int .i64 k) := hkx.cell 0
  have q1 : w1.cell? ⟨w.heap.size, 1, none⟩ = some (.int .i64 node) := hkx.cell 1
  have q2 : w1.cell? ⟨w.heap.size, 2, none⟩ = some (.int .i64 n) := hkx.cell 2
  have q3 : w1.cell? ⟨w.heap.size, 3, none⟩ = some (.int .i64 client) := hkx.cell 3
  have q4 : w1.cell? ⟨w.heap.size, 4, none⟩ = some (.int .i64 ok) := hkx.cell 4
  have q5 : w1.cell? ⟨w.heap.size, 5, none⟩ = some (.int .i64 h) := hkx.cell 5
  have q6 : w1.cell? ⟨w.heap.size, 6, none⟩ = some (.int .i64 i) := hkx.cell 6
  have q7 : w1.cell? ⟨w.heap.size, 7, none⟩ = some (.int .i64 nn) := hkx.cell 7
  have q8 : w1.cell? ⟨w.heap.size, 8, none⟩ = some (.int .i64 kk) := hkx.cell 8
  have q9 : w1.cell? ⟨w.heap.size, 9, none⟩ = some (.int .i64 v) := hkx.cell 9
  have q10 : w1.cell? ⟨w.heap.size, 10, none⟩ = some (.int .i64 t) := hkx.cell 10
  have HB := Lib.hid hbx
  have z1 : (k == 1) = false := by simp [u1]
  have z2 : (k == 2) = false := by simp [u2]
  have z3 : (k == 3) = false := by simp [u3]
  have z4 : (k == 4) = false := by simp [u4]
  have z5 : (k == 5) = false := by simp [u5]
  have z6 : (k == 6) = false := by simp [u6]
  have z7 : (k == 7) = false := by simp [u7]
  have z8 : (k == 8) = false := by simp [u8]
  clear hbx hkx he
  simp only [ac]
  go_enter Tryd.func17, Tryd.ntmps17
  go_wp2_with fail
  go_ret
  exact ⟨rfl, HB.out⟩
set_option maxHeartbeats 1600000 in
set_option linter.unusedVariables false in
theorem spelt_any (he : Env w) (k node n client ok h i nn kk v t : Int) (wk : I64 k) (wnode : I64 node) (wn : I64 n) (wclient : I64 client) (wok : I64 ok) (wh : I64 h) (wi : I64 i) (wnn : I64 nn) (wkk : I64 kk) (wv : I64 v) (wt : I64 t) :
    Calls Tryd.prog 17 #[.agg (ac k node n client ok h i nn kk v t).toArray] w fun e w' => e = .returned (.string (textB k node n client ok h i nn kk v t)) ∧ Below w.heap.size w w' := by
  unfold textB
  by_cases u1 : k = 1
  · subst u1
    rw [if_pos rfl]
    exact spelt_tick he node n client ok h i nn kk v t wnode wn wclient wok wh wi wnn wkk wv wt
  rw [if_neg u1]
  by_cases u8 : k = 8
  · subst u8
    rw [if_pos rfl]
    exact spelt_start he node n client ok h i nn kk v t wnode wn wclient wok wh wi wnn wkk wv wt
  rw [if_neg u8]
  by_cases u2 : k = 2
  · subst u2
    rw [if_pos rfl]
    exact spelt_deliver he node n client ok h i nn kk v t wnode wn wclient wok wh wi wnn wkk wv wt
  rw [if_neg u2]
  by_cases u3 : k = 3
  · subst u3
    rw [if_pos rfl]
    exact spelt_drop he node n client ok h i nn kk v t wnode wn wclient wok wh wi wnn wkk wv wt
  rw [if_neg u3]
  by_cases u4 : k = 4
  · subst u4
    rw [if_pos rfl]
    exact spelt_double he node n client ok h i nn kk v t wnode wn wclient wok wh wi wnn wkk wv wt
  rw [if_neg u4]
  by_cases u6 : k = 6
  · subst u6
    rw [if_pos rfl]
    exact spelt_retry he node n client ok h i nn kk v t wnode wn wclient wok wh wi wnn wkk wv wt
  rw [if_neg u6]
  by_cases u5 : k = 5
  · subst u5
    rw [if_pos rfl]
    exact spelt_five he node n client ok h i nn kk v t wnode wn wclient wok wh wi wnn wkk wv wt
  rw [if_neg u5]
  by_cases u7 : k = 7
  · subst u7
    rw [if_pos rfl]
    by_cases hn : n < 0
    · rw [if_pos hn]
      exact spelt_now he node n client ok h i nn kk v t wnode wn wclient wok wh wi wnn wkk wv wt hn
    · rw [if_neg hn]
      exact spelt_crash he node n client ok h i nn kk v t wnode wn wclient wok wh wi wnn wkk wv wt hn
  rw [if_neg u7]
  exact spelt_none he k node n client ok h i nn kk v t u1 u2 u3 u4 u5 u6 u7 u8
end
end Go.Proofs.YtehhgpnaemffnaaDoor
