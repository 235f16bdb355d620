/- tumuluslaw13.best: the document's rows. How votes come in. -/
import Derived.Test.YtlomahddominlaaBest
namespace Go.Proofs.Ytlomahddominlaa
open Go.RowKit Go.ChangeShapes Go.WideShapes Go.ChangeAt Go.Deep

theorem rd_new (w : World) (g : Nat) (hg : g = w.heap.size) (xs : List Value) (t : TypeId) : Rd (w.alloc (.cells xs.toArray t)) (w.heap.size + 1) (some ⟨g, 0, none⟩) xs := by
  subst hg
  refine .inr ⟨w.heap.size, 0, rfl, by omega, fun j u hu => ?_⟩
  rw [Nat.zero_add, World.cell?_alloc_mark]
  simpa using hu
def vd : Vt := ⟨0, 0, 0, 0, 0, none, 0, 0⟩
def three : List Vt := [⟨0, 1, 0, 9, 0, none, 0, 0⟩, ⟨0, 2, 0, 3, 0, none, 0, 0⟩, ⟨0, 2, 0, 3, 0, none, 0, 0⟩]
theorem bests_any (w : World) : Calls Try.prog 20 #[] w fun e w' => e = .returned (.bool true) ∧ Below w.heap.size w w' := by
  have v1 : bestI three vd = 1 := by decide +kernel
  have v2 : bestI [] vd = -1 := rfl
  have hba := (Below.refl w.heap.size w).alloc (Nat.le_refl _) (.cells (vtCells three).toArray 48)
  have c1 := best_any (some ⟨w.heap.size, 0, none⟩) 3 3 three vd (w.alloc (.cells (vtCells three).toArray 48)) ((rd_new w _ rfl (vtCells three) 48).more (by simp)) rfl (by omega)
  rw [v1] at c1
  have C1 := Lib.hid c1
  have HBA := Lib.hid hba
  clear c1 v1 hba
  go_enter Try.func20, Try.ntmps20
  go_wp2_with fail
  refine Calls.mono C1.out ?_
  rintro e w1 ⟨rfl, hb1⟩
  have B1 := Lib.hid (HBA.out.trans (hb1.mono HBA.out.size)); clear hb1
  have c2 := best_any none 0 0 [] vd w1 Rd.nil rfl (by omega)
  rw [v2] at c2
  have C2 := Lib.hid c2
  clear c2 v2
  go_wp2_with fail
  refine Calls.mono C2.out ?_
  rintro e w2 ⟨rfl, hb2⟩
  have B2 := Lib.hid (B1.out.trans (hb2.mono B1.out.size)); clear hb2
  go_wp2_with fail
  go_ret
  exact ⟨rfl, B2.out⟩
end Go.Proofs.Ytlomahddominlaa
