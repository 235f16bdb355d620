/- The law's own row: sure. -/
import Derived.Test.YtlomahddominlaaSure
import Derived.Test.YtlomahddominlaaAsks
namespace Go.Proofs.Ytlomahddominlaa
open Go.RowKit

theorem acks_new (w : World) (l : List (Int × Int)) (C : Array Value) (hC : C = (ackCells l).toArray) (t : TypeId) (g : Nat) (hg : g = w.heap.size) : Rd (w.alloc (.cells C t)) (w.alloc (.cells C t)).heap.size (some ⟨g, 0, none⟩) (ackCells l) := by
  subst hC hg
  refine .inr ⟨w.heap.size, 0, rfl, by simp, fun j u hu => ?_⟩
  rw [Nat.zero_add]
  have hnew : (w.alloc (.cells (ackCells l).toArray t)).heap[w.heap.size]? = some (.cells (ackCells l).toArray t) := World.alloc_heap_new w _
  simp only [World.cell?, hnew]
  simpa using hu

set_option maxHeartbeats 1600000 in
theorem sureRow_any (w : World) : Calls Try.prog 24 #[] w fun e w' => e = .returned (.bool true) ∧ Below w.heap.size w w' := by
  have e1 : sureN 3 5 [(2, 3)] = 3 := by decide +kernel
  have e2 : sureN 3 5 [] = 0 := by decide +kernel
  have e3 : sureN 5 5 [(2, 4), (3, 2)] = 2 := by decide +kernel
  have HE := Lib.hid (And.intro e1 (And.intro e2 e3)); clear e1 e2 e3
  have B1 := Lib.hid ((Below.refl _ w).alloc (Nat.le_refl _) (.cells #[.int .i64 2, .int .i64 3] 37))
  go_enter Try.func24, Try.ntmps24
  go_wp2_with fail
  refine (sure_any 3 5 _ 1 1 _ [(2, 3)] _ (acks_new w [(2, 3)] _ rfl _ _ rfl) (Nat.le_refl _) rfl (by omega)).mono ?_
  rintro e w2 ⟨rfl, hb2⟩
  rw [HE.out.1]
  have B2 := Lib.hid (B1.out.trans (hb2.mono B1.out.size)); clear hb2
  go_wp2_with fail
  refine (sure_any 3 5 none 0 0 0 [] w2 (.inl rfl) (Nat.zero_le _) rfl (by omega)).mono ?_
  rintro e w3 ⟨rfl, hb3⟩
  rw [HE.out.2.1]
  have B3 := Lib.hid (B2.out.trans (hb3.mono B2.out.size)); clear hb3
  have B4 := Lib.hid (B3.out.alloc B3.out.size (.cells #[.int .i64 2, .int .i64 4, .int .i64 3, .int .i64 2] 37))
  go_wp2_with fail
  refine (sure_any 5 5 _ 2 2 _ [(2, 4), (3, 2)] _ (acks_new w3 [(2, 4), (3, 2)] _ rfl _ _ rfl) (Nat.le_refl _) rfl (by omega)).mono ?_
  rintro e w5 ⟨rfl, hb5⟩
  rw [HE.out.2.2]
  have B5 := Lib.hid (B4.out.trans (hb5.mono B4.out.size)); clear hb5
  go_wp2_with fail
  go_ret
  exact ⟨rfl, B5.out⟩
end Go.Proofs.Ytlomahddominlaa
