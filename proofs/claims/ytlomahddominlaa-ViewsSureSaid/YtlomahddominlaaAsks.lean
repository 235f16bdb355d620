/- tumuluslaw13.asks: the document's rows. -/
import Derived.Test.YtlomahddominlaaEnough
namespace Go.Proofs.Ytlomahddominlaa
open Go.RowKit

theorem rd_ints (w : World) (g : Nat) (hg : g = w.heap.size) (l : List Int) (t : TypeId) (fr : Nat × Nat) : Rd (w.alloc (.cells (iv l).toArray t fr)) (w.heap.size + 1) (some ⟨g, 0, none⟩) (iv l) := by
  subst hg
  refine .inr ⟨w.heap.size, 0, rfl, by omega, fun j u hu => ?_⟩
  rw [Nat.zero_add, World.cell?_alloc_mark]
  simpa using hu

theorem asks_any (w : World) : Calls Try.prog 11 #[] w fun e w' => e = .returned (.bool true) ∧ Below w.heap.size w w' := by
  have k1 : nodesB 3 = true := rfl
  have k2 : nodesB 4 = false := rfl
  have k3 : prim 3 0 = 1 := by decide +kernel
  have k4 : prim 3 5 = 3 := by decide +kernel
  have k5 : prim 4 0 = 0 := by decide +kernel
  have k6 : nextV 3 0 1 = 3 := by decide +kernel
  have k7 : nextV 3 0 2 = 1 := by decide +kernel
  have k8 : nextV 3 900000000 1 = -1 := by decide +kernel
  have k9 : enoughB 3 [3, 1] = true := by decide +kernel
  have k10 : enoughB 3 [1, 1] = false := by decide +kernel
  go_enter Try.func11, Try.ntmps11
  go_wp2_with fail
  refine (nodes_any 3 w).mono ?_
  rintro e w' ⟨rfl, rfl⟩
  go_wp2_with fail
  refine (nodes_any 4 w).mono ?_
  rintro e w' ⟨rfl, rfl⟩
  go_wp2_with fail
  refine (primary_any 3 0 w).mono ?_
  rintro e w' ⟨rfl, rfl⟩
  go_wp2_with fail
  refine (primary_any 3 5 w).mono ?_
  rintro e w' ⟨rfl, rfl⟩
  go_wp2_with fail
  refine (primary_any 4 0 w).mono ?_
  rintro e w' ⟨rfl, rfl⟩
  go_wp2_with fail
  refine (next_any 3 0 1 w).mono ?_
  rintro e w' ⟨rfl, rfl⟩
  go_wp2_with fail
  refine (next_any 3 0 2 w).mono ?_
  rintro e w' ⟨rfl, rfl⟩
  go_wp2_with fail
  refine (next_any 3 900000000 1 w).mono ?_
  rintro e w' ⟨rfl, rfl⟩
  go_wp2_with fail
  refine (enough_any 3 _ 2 2 _ [3, 1] _ (rd_ints w _ rfl _ _ _) rfl (by omega)).mono ?_
  rintro e w' ⟨rfl, rfl⟩
  go_wp2_with fail
  refine (enough_any 3 _ 2 2 _ [1, 1] _ (rd_ints _ _ (by simp) _ _ _) rfl (by omega)).mono ?_
  rintro e w' ⟨rfl, rfl⟩
  go_wp2_with fail
  go_ret
  exact ⟨rfl, ((Below.refl _ _).alloc (Nat.le_refl _) _).alloc (by simp) _⟩
end Go.Proofs.Ytlomahddominlaa
