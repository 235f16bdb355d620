/- Plain laws of views: whose turn it is; two rows that are enough meet; a row and the rest. -/
import Derived.Test.YtlomahddominlaaAsks
namespace Go.Proofs.Ytlomahddominlaa

theorem turns {n v id : Int} (hn : nodesB n = true) (h0 : 0 ≤ v) (h1 : v ≤ 800000000) (h2 : 1 ≤ id) (h3 : id ≤ n) :
    ∃ j0 : Int, 1 ≤ j0 ∧ j0 ≤ n ∧ nextV n v id = v + j0 ∧ ∀ j : Int, 1 ≤ j → j ≤ n → (prim n (v + j) = id ↔ j = j0) := by
  have hn' := nodesB_of hn
  have hp : ∀ j : Int, 1 ≤ j → j ≤ n → prim n (v + j) = (v + j) % n + 1 := fun j a b => by
    unfold prim
    rw [if_pos ⟨hn, view_iff.2 (by omega)⟩]
  refine ⟨(id - 2 - v) % n + 1, ?_, ?_, ?_, fun j a b => ?_⟩
  · rcases hn' with rfl | rfl | rfl <;> omega
  · rcases hn' with rfl | rfl | rfl <;> omega
  · have ha : (1 : Int) ≤ (id - 2 - v) % n + 1 := by rcases hn' with rfl | rfl | rfl <;> omega
    have hb : (id - 2 - v) % n + 1 ≤ n := by rcases hn' with rfl | rfl | rfl <;> omega
    refine next_found (view_iff.2 (by omega)) ha hb ?_ (by omega)
    rw [hp _ ha hb]
    rcases hn' with rfl | rfl | rfl <;> omega
  · rw [hp j a b]
    rcases hn' with rfl | rfl | rfl <;> (constructor <;> intro h <;> omega)

theorem next_spec {n v id : Int} (h : 0 ≤ nextV n v id) : nodesB n = true ∧ viewB v = true ∧ v < nextV n v id ∧ nextV n v id ≤ v + n ∧ nextV n v id ≤ 900000000 ∧ prim n (nextV n v id) = id ∧ ∀ i : Int, v < i → i < nextV n v id → prim n i ≠ id := by
  by_cases hc : nodesB n = true ∧ viewB v = true ∧ 1 ≤ id ∧ id ≤ n
  · obtain ⟨hn, hv, h1, h2⟩ := hc
    have hd : nextV n v id = (if viewB (if v - v % n + id - 1 ≤ v then v - v % n + id - 1 + n else v - v % n + id - 1) = true then (if v - v % n + id - 1 ≤ v then v - v % n + id - 1 + n else v - v % n + id - 1) else -1) := by
      unfold nextV; rw [if_pos ⟨hn, hv, h1, h2⟩]
    generalize hz : (if v - v % n + id - 1 ≤ v then v - v % n + id - 1 + n else v - v % n + id - 1) = z at hd
    have hn' := nodesB_of hn
    have hv' := view_iff.1 hv
    by_cases hm : viewB z = true
    · rw [if_pos hm] at hd
      have hm' := view_iff.1 hm
      rw [hd]
      refine ⟨hn, hv, ?_, ?_, hm'.2, ?_, fun i a b => ?_⟩
      · rcases hn' with rfl | rfl | rfl <;> (split at hz <;> omega)
      · rcases hn' with rfl | rfl | rfl <;> (split at hz <;> omega)
      · unfold prim
        rw [if_pos ⟨hn, hm⟩]
        rcases hn' with rfl | rfl | rfl <;> (split at hz <;> omega)
      · unfold prim
        rw [if_pos ⟨hn, view_iff.2 (by omega)⟩]
        rcases hn' with rfl | rfl | rfl <;> (split at hz <;> omega)
    · rw [if_neg hm] at hd
      omega
  · rw [next_bad hc] at h
    omega
theorem next_neg {n v id : Int} (h : nextV n v id < 0) : nextV n v id = -1 := by
  unfold nextV at h ⊢
  split
  · rename_i hc
    rw [if_pos hc] at h
    generalize (if v - v % n + id - 1 ≤ v then v - v % n + id - 1 + n else v - v % n + id - 1) = z at h ⊢
    by_cases hm : viewB z = true
    · rw [if_pos hm] at h
      have := view_iff.1 hm
      omega
    · rw [if_neg hm]
  · rfl

def uptoN (n : Int) (m : Nat) : Nat := ((List.range m).filter fun (k : Nat) => decide (1 ≤ k) && decide ((k : Int) ≤ n)).length
theorem uptoN_succ (n : Int) (m : Nat) : uptoN n (m + 1) = uptoN n m + (if (decide (1 ≤ m) && decide ((m : Int) ≤ n)) = true then 1 else 0) := by
  unfold uptoN
  rw [List.range_succ, List.filter_append, List.length_append]
  congr 1
  by_cases h : (decide (1 ≤ m) && decide ((m : Int) ≤ n)) = true <;> simp only [List.filter_cons, List.filter_nil, h, if_true, if_false, Bool.false_eq_true] <;> rfl
theorem uptoN_eq {n : Int} (hn : nodesB n = true) : (uptoN n 8 : Int) = n := by
  rcases nodesB_of hn with rfl | rfl | rfl <;> decide
theorem cnt_le (n : Int) (a b : List Int) (h : ∀ k : Nat, ¬ (cntB n a k = true ∧ cntB n b k = true)) : ∀ m, cntUp n a m + cntUp n b m ≤ uptoN n m
  | 0 => by simp [cntUp]
  | m + 1 => by
    have ih := cnt_le n a b h m
    rw [cntUp_succ, cntUp_succ, uptoN_succ]
    have hm := h m
    by_cases ha : cntB n a m = true
    · have hb : ¬ cntB n b m = true := fun hb => hm ⟨ha, hb⟩
      have hu : (decide (1 ≤ m) && decide ((m : Int) ≤ n)) = true := by
        simp only [cntB, Bool.and_eq_true] at ha ⊢; exact ha.1
      rw [if_pos ha, if_neg hb, if_pos hu]; omega
    · rw [if_neg ha]
      by_cases hb : cntB n b m = true
      · have hu : (decide (1 ≤ m) && decide ((m : Int) ≤ n)) = true := by
          simp only [cntB, Bool.and_eq_true] at hb ⊢; exact hb.1
        rw [if_pos hb, if_pos hu]; omega
      · rw [if_neg hb]; omega
theorem meet {n : Int} {a b : List Int} (ha : enoughB n a = true) (hb : enoughB n b = true) : ∃ x, x ∈ a ∧ x ∈ b ∧ 1 ≤ x ∧ x ≤ n := by
  simp only [enoughB, Bool.and_eq_true, decide_eq_true_eq] at ha hb
  refine Classical.byContradiction fun hno => ?_
  have := cnt_le n a b (fun k hk => hno ⟨k, by
    obtain ⟨h1, h2⟩ := hk
    simp only [cntB, inB, Bool.and_eq_true, decide_eq_true_eq] at h1 h2
    exact ⟨h1.2, h2.2, by omega, h1.1.2⟩⟩) 8
  have hu := uptoN_eq ha.1
  omega
theorem cnt_rest (n : Int) (a b : List Int) (h : ∀ k : Nat, 1 ≤ k → (k : Int) ≤ n → inB k b = !inB k a) : ∀ m, cntUp n a m + cntUp n b m = uptoN n m
  | 0 => by simp [cntUp, uptoN]
  | m + 1 => by
    have ih := cnt_rest n a b h m
    rw [cntUp_succ, cntUp_succ, uptoN_succ]
    by_cases hu : (decide (1 ≤ m) && decide ((m : Int) ≤ n)) = true
    · have hm : 1 ≤ m ∧ (m : Int) ≤ n := by simpa using hu
      have hr := h m hm.1 hm.2
      have e1 : cntB n a m = inB m a := by unfold cntB; rw [hu]; rfl
      have e2 : cntB n b m = !inB m a := by unfold cntB; rw [hu, hr]; rfl
      rw [e1, e2, if_pos hu]
      cases inB m a <;> simp <;> omega
    · have e1 : ¬ cntB n a m = true := fun hc => hu (by simp only [cntB, Bool.and_eq_true] at hc ⊢; exact hc.1)
      have e2 : ¬ cntB n b m = true := fun hc => hu (by simp only [cntB, Bool.and_eq_true] at hc ⊢; exact hc.1)
      rw [if_neg e1, if_neg e2, if_neg hu]; omega
theorem halves {n : Int} {a b : List Int} (hn : nodesB n = true) (h : ∀ k : Nat, 1 ≤ k → (k : Int) ≤ n → inB k b = !inB k a) : (enoughB n a == enoughB n b) = false := by
  have hc := cnt_rest n a b h 8
  have hu := uptoN_eq hn
  have hodd := nodesB_of hn
  unfold enoughB
  rw [hn, Bool.true_and, Bool.true_and, beq_eq_false_iff_ne, ne_eq, decide_eq_decide]
  intro hh
  omega
end Go.Proofs.Ytlomahddominlaa
