/- From the greatest down: the first that enough have is the greatest that enough have. Plain lists. -/
import Derived.Test.YtlomahddominlaaSure0
namespace Go.Proofs.Ytlomahddominlaa
open Go.RowKit

def sortI (l : List Int) : List Int := l.mergeSort fun x y => decide (x ≤ y)
theorem sortI_length (l : List Int) : (sortI l).length = l.length := List.length_mergeSort l
theorem sortI_mem (l : List Int) (x : Int) : x ∈ sortI l ↔ x ∈ l := (List.mergeSort_perm l _).mem_iff
theorem sortI_le (l : List Int) (i j : Nat) (hij : i ≤ j) (hj : j < (sortI l).length) : (sortI l).getD i 0 ≤ (sortI l).getD j 0 := by
  have hs : (sortI l).Pairwise (fun x y => (decide (x ≤ y)) = true) :=
    List.pairwise_mergeSort (le := fun x y : Int => decide (x ≤ y)) (by intro a b c h1 h2; simp at h1 h2 ⊢; omega) (by intro a b; simp; omega) l
  rcases Nat.lt_or_ge i j with h | h
  · have := List.pairwise_iff_getElem.1 hs i j (by omega) hj h
    have h1 : (sortI l).getD i 0 = (sortI l)[i]'(by omega) := by simp [List.getD, show i < (sortI l).length by omega]
    have h2 : (sortI l).getD j 0 = (sortI l)[j] := by simp [List.getD, hj]
    rw [h1, h2]
    simpa using this
  · obtain rfl : i = j := by omega
    exact Int.le_refl _

/-- The places and what stands there, from the last one down. -/
def down (zs : List Int) : List (Nat × Int) := (List.range zs.length).map fun k => (zs.length - 1 - k, zs.getD (zs.length - 1 - k) 0)
theorem down_length (zs : List Int) : (down zs).length = zs.length := by simp [down]
theorem down_at (zs : List Int) (k : Nat) (hk : k < zs.length) : (down zs)[k]? = some (zs.length - 1 - k, zs.getD (zs.length - 1 - k) 0) := by simp [down, hk]

theorem sure_stop {N own : Int} {acks : List (Int × Int)} (hN : nodesB N = true) {q : List (Nat × Int)} {p : Nat × Int} (hpre : q ++ [p] <+: down (sortI (alls own acks)))
    (hp : 0 < p.2 ∧ hasB N own acks p.2 = true) (hq : ∀ x ∈ q, ¬ (0 < x.2 ∧ hasB N own acks x.2 = true)) : p.2 = sureN N own acks := by
  obtain ⟨t, ht⟩ := hpre
  have hlen : q.length < (sortI (alls own acks)).length := by
    have h := congrArg List.length ht
    rw [down_length] at h
    simp at h
    omega
  have hpe : p = ((sortI (alls own acks)).length - 1 - q.length, (sortI (alls own acks)).getD ((sortI (alls own acks)).length - 1 - q.length) 0) := by
    have h1 := down_at (sortI (alls own acks)) q.length hlen
    rw [← ht] at h1
    simpa using h1
  have hmem : p.2 ∈ alls own acks := by
    rw [← sortI_mem, hpe]
    have : (sortI (alls own acks)).length - 1 - q.length < (sortI (alls own acks)).length := by omega
    simp only [List.getD, List.getElem?_eq_getElem this, Option.getD_some]
    exact List.getElem_mem _
  refine sure_is hN (.inr ⟨hmem, hp.2, hp.1⟩) (by omega) fun n hn h0 hh => ?_
  rw [← sortI_mem] at hn
  obtain ⟨j, hj, hjn⟩ := List.getElem_of_mem hn
  have hjd : (sortI (alls own acks)).getD j 0 = n := by simp [List.getD, hj, hjn]
  by_cases hlt : (sortI (alls own acks)).length - 1 - q.length < j
  · exfalso
    have hk : (sortI (alls own acks)).length - 1 - j < q.length := by omega
    have h1 := down_at (sortI (alls own acks)) ((sortI (alls own acks)).length - 1 - j) (by omega)
    rw [← ht, List.append_assoc, List.getElem?_append_left hk] at h1
    have h2 := List.mem_of_getElem? h1
    rw [show (sortI (alls own acks)).length - 1 - ((sortI (alls own acks)).length - 1 - j) = j by omega, hjd] at h2
    exact hq _ h2 ⟨h0, hh⟩
  · rw [hpe, ← hjd]
    exact sortI_le _ _ _ (by omega) (by omega)
theorem sure_done {N own : Int} {acks : List (Int × Int)} (hN : nodesB N = true) (hq : ∀ x ∈ down (sortI (alls own acks)), ¬ (0 < x.2 ∧ hasB N own acks x.2 = true)) : 0 = sureN N own acks := by
  refine sure_is hN (.inl rfl) (Int.le_refl _) fun n hn h0 hh => ?_
  exfalso
  rw [← sortI_mem] at hn
  obtain ⟨j, hj, hjn⟩ := List.getElem_of_mem hn
  have hjd : (sortI (alls own acks)).getD j 0 = n := by simp [List.getD, hj, hjn]
  have h1 := down_at (sortI (alls own acks)) ((sortI (alls own acks)).length - 1 - j) (by omega)
  have h2 := List.mem_of_getElem? h1
  rw [show (sortI (alls own acks)).length - 1 - ((sortI (alls own acks)).length - 1 - j) = j by omega, hjd] at h2
  exact hq _ h2 ⟨h0, hh⟩
end Go.Proofs.Ytlomahddominlaa
