/- tumuluslaw01.reads: the document's rows of bytes that are read; and what a step of a reader leaves of the other memory. -/
import Derived.Test.YtlipnncbpbbdnaaReadText
import Derived.Test.YtlipnncbpbbdnaaKeep
import Derived.Test.YtlipnncbpbbdnaaPuts
namespace Go.Proofs.Ytlipnncbpbbdnaa
open Go.RowKit

/-- Bytes, just laid. -/
theorem rd_lit (w : World) (g : Nat) (hg : g = w.heap.size) (l : List UInt8) (t : TypeId) (fr : Nat × Nat) : Rd (w.alloc (.cells (bv l).toArray t fr)) (w.heap.size + 1) (some ⟨g, 0, none⟩) (bv l) := by
  subst hg
  refine .inr ⟨w.heap.size, 0, rfl, by omega, fun j u hu => ?_⟩
  rw [Nat.zero_add, World.cell?_alloc_mark]
  simpa using hu

theorem below_row {w w1 w2 : World} {C g : Nat} (hb : Below C w w1) (hg : w1.grownBy w2 (some g)) (hC : C ≤ g) (hC1 : C ≤ w1.heap.size) : Below C w w2 :=
  hb.grown hg hC1 fun k hk => by injection hk with hk; omega

theorem reads_any (w : World) : Calls Try.prog 29 #[] w fun e w' => e = .returned (.bool true) ∧ Below w.heap.size w w' := by
  have n1 : num [0, 0, 1, 2, 9] = (258, 4, 0) := by decide +kernel
  have n2 : num [9] = (0, 0, 10) := by decide +kernel
  go_enter Try.func29, Try.ntmps29
  go_wp2_with fail
  have hba := Lib.hid ((Below.refl w.heap.size w).alloc (Nat.le_refl _) (.cells (bv [0, 0, 1, 2, 9]).toArray 5))
  have hrl := rd_lit w _ rfl [0, 0, 1, 2, 9] 5 (0, 0)
  refine (new_any _ 5 5 [0, 0, 1, 2, 9] _ (hrl.more (by simp)) rfl (by omega) (by unfold maxLen; omega)).mono ?_
  rintro e w1 ⟨g, rfl, hg, hh, hb⟩
  have hg0 : w.heap.size ≤ g := by simp at hg; omega
  have B1 := Lib.hid (hba.out.trans (hb.mono (by simp)))
  clear hb hg hrl
  have h1 := number_any g _ w1 hh
  have hlt := Lib.hid hh.lt
  clear hh
  rw [n1] at h1
  go_wp2_with fail
  refine h1.mono ?_
  rintro e w2 ⟨rfl, hh, hgr⟩
  have B2 := Lib.hid (below_row B1.out hgr hg0 B1.out.size)
  clear h1 hgr
  have h2 := number_any g _ w2 hh
  clear hh
  rw [show ([0, 0, 1, 2, 9] : List UInt8).drop 4 = [9] from rfl, n2] at h2
  go_wp2_with fail
  refine h2.mono ?_
  rintro e w3 ⟨rfl, hh, hgr⟩
  have B3 := Lib.hid (below_row B2.out hgr hg0 B2.out.size)
  have h3 := Lib.hid (left_any g _ w3 hh)
  clear h2 hgr hh n1 n2
  go_wp2_with fail
  refine Calls.mono h3.out ?_
  rintro e w' ⟨rfl, rfl⟩
  go_wp2_with fail
  go_ret
  exact ⟨rfl, B3.out⟩
end Go.Proofs.Ytlipnncbpbbdnaa
