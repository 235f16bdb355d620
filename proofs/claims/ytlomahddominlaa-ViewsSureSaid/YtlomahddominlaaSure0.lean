/- The greatest number that enough nodes have: plain laws on lists. -/
import Derived.Test.YtlomahddominlaaMeet
namespace Go.Proofs.Ytlomahddominlaa
open Go.RowKit

/-- The nodes that told a number from n on. -/
def lN (acks : List (Int × Int)) (n : Int) : List Int := (acks.filter fun a => decide (n ≤ a.2)).map (·.1)
def cntA (N own : Int) (acks : List (Int × Int)) (n : Int) : Nat := cntUp N (lN acks n) 8 + if n ≤ own then 1 else 0
def hasB (N own : Int) (acks : List (Int × Int)) (n : Int) : Bool := decide (N < 2 * (cntA N own acks n : Int))
def alls (own : Int) (acks : List (Int × Int)) : List Int := own :: acks.map (·.2)
def stepS (N own : Int) (acks : List (Int × Int)) (b n : Int) : Int := if b < n ∧ hasB N own acks n = true then n else b
def sureN (N own : Int) (acks : List (Int × Int)) : Int := if nodesB N = true then (alls own acks).foldl (stepS N own acks) 0 else 0

theorem lN_snoc (acks : List (Int × Int)) (n : Int) (a : Int × Int) : lN (acks ++ [a]) n = lN acks n ++ if n ≤ a.2 then [a.1] else [] := by
  simp only [lN, List.filter_append, List.map_append]
  congr 1
  by_cases h : n ≤ a.2
  · simp [h]
  · simp [h]

theorem fold_spec (N own : Int) (acks : List (Int × Int)) : ∀ (l : List Int) (b : Int),
    (l.foldl (stepS N own acks) b = b ∨ (l.foldl (stepS N own acks) b ∈ l ∧ hasB N own acks (l.foldl (stepS N own acks) b) = true ∧ b < l.foldl (stepS N own acks) b)) ∧ b ≤ l.foldl (stepS N own acks) b ∧
    ∀ n ∈ l, hasB N own acks n = true → n ≤ l.foldl (stepS N own acks) b
  | [], b => ⟨.inl rfl, Int.le_refl _, by simp⟩
  | x :: l, b => by
    have ih := fold_spec N own acks l (stepS N own acks b x)
    simp only [List.foldl_cons]
    obtain ⟨h1, h2, h3⟩ := ih
    have hb : b ≤ stepS N own acks b x := by unfold stepS; split <;> omega
    refine ⟨?_, by omega, ?_⟩
    · rcases h1 with h1 | ⟨h1, h4, h5⟩
      · rw [h1]
        unfold stepS
        split
        · rename_i h; exact .inr ⟨List.mem_cons_self .., h.2, h.1⟩
        · exact .inl rfl
      · exact .inr ⟨List.mem_cons_of_mem _ h1, h4, by omega⟩
    · intro n hn hh
      rcases List.mem_cons.1 hn with rfl | hn
      · have : n ≤ stepS N own acks b n := by
          unfold stepS
          split
          · omega
          · rename_i h
            have : ¬ b < n := fun hlt => h ⟨hlt, hh⟩
            omega
        omega
      · exact h3 n hn hh

/-- Whoever is this is it. -/
theorem sure_is {N own : Int} {acks : List (Int × Int)} (hN : nodesB N = true) {r : Int} (h1 : r = 0 ∨ (r ∈ alls own acks ∧ hasB N own acks r = true ∧ 0 < r)) (h0 : 0 ≤ r)
    (h2 : ∀ n ∈ alls own acks, 0 < n → hasB N own acks n = true → n ≤ r) : r = sureN N own acks := by
  obtain ⟨g1, g2, g3⟩ := fold_spec N own acks (alls own acks) 0
  unfold sureN
  rw [if_pos hN]
  generalize (alls own acks).foldl (stepS N own acks) 0 = q at *
  have hq : r ≤ q := by
    rcases h1 with rfl | ⟨hm, hh, _⟩
    · exact g2
    · exact g3 r hm hh
  have hr : q ≤ r := by
    rcases g1 with rfl | ⟨hm, hh, hp⟩
    · exact h0
    · exact h2 q hm hp hh
  omega
theorem sure_nonneg (N own : Int) (acks : List (Int × Int)) : 0 ≤ sureN N own acks := by
  unfold sureN
  split
  · exact (fold_spec N own acks (alls own acks) 0).2.1
  · omega
theorem sure_has {N own : Int} {acks : List (Int × Int)} (h : sureN N own acks ≠ 0) : hasB N own acks (sureN N own acks) = true := by
  have h' := h
  unfold sureN at h ⊢
  split
  · rename_i hN
    rw [if_pos hN] at h
    rcases (fold_spec N own acks (alls own acks) 0).1 with h1 | h1
    · exact absurd h1 h
    · exact h1.2.1
  · rename_i hN
    rw [if_neg hN] at h
    exact absurd rfl h

theorem cntUp_cons_new (N x : Int) (l : List Int) (hx : x ∉ l) (h1 : 1 ≤ x) (h2 : x ≤ N) (hN : N ≤ 7) : cntUp N (x :: l) 8 = cntUp N l 8 + 1 := by
  obtain ⟨k, rfl⟩ := Int.eq_ofNat_of_zero_le (show 0 ≤ x by omega)
  have step : ∀ m : Nat, cntUp N ((k : Int) :: l) m = cntUp N l m + (if k < m then 1 else 0) := by
    intro m
    induction m with
    | zero => rfl
    | succ m ih =>
      rw [cntUp_succ, cntUp_succ, ih]
      by_cases e : m = k
      · subst e
        have e1 : cntB N ((m : Int) :: l) m = true := by simp [cntB, inB]; omega
        have e2 : cntB N l m = false := by
          have : inB (m : Int) l = false := by simp [inB, hx]
          simp only [cntB, this, Bool.and_false]
        rw [e1, e2]
        simp
      · have e1 : cntB N ((k : Int) :: l) m = cntB N l m := by
          have : inB (m : Int) ((k : Int) :: l) = inB (m : Int) l := by
            simp only [inB]
            rw [decide_eq_decide, List.mem_cons]
            constructor
            · rintro (h | h)
              · omega
              · exact h
            · exact .inr
          simp only [cntB, this]
        rw [e1]
        by_cases h : k < m
        · rw [if_pos h, if_pos (show k < m + 1 by omega)]; omega
        · rw [if_neg h, if_neg (show ¬ k < m + 1 by omega)]; omega
  rw [step 8, if_pos (by omega)]
end Go.Proofs.Ytlomahddominlaa
