/- Plain law: a sealed row of which one byte, or two neighbours, are others is not right. -/
import Derived.Test.YthjnlngpgleplaaSeals
import Derived.Test.YthjnlngpgleplaaLinear
namespace Go.Proofs.Ythjnlngpgleplaa
open Go.RowKit

theorem stepN_zero (w : Nat) (hw : w < 4294967296) (h : stepN w = 0) : w = 0 := by
  unfold stepN at h
  split at h
  · have h2 : w / 2 = 3988292384 := by
      have := congrArg (· ^^^ 3988292384) h
      simpa [Nat.xor_assoc] using this
    omega
  · omega
theorem turnN_zero (k : Nat) : ∀ w, w < 4294967296 → turnN k w = 0 → w = 0 := by
  induction k with
  | zero => intro w _ h; exact h
  | succ k ih => intro w hw h; exact ih w hw (stepN_zero _ (turnN_lt k w hw) h)
theorem turnN_of_zero (k : Nat) : turnN k 0 = 0 := by
  induction k with
  | zero => rfl
  | succ k ih => rw [turnN, ih]; rfl
theorem sumW_zeros (k : Nat) : sumW 0 (List.replicate k 0) = 0 := by
  induction k with
  | zero => rfl
  | succ k ih =>
    show sumW (turnN 8 (0 ^^^ (0 : UInt8).toNat)) (List.replicate k 0) = 0
    rw [show (0 ^^^ (0 : UInt8).toNat) = 0 from rfl, turnN_of_zero]
    exact ih
theorem sumW_zeros_inj (k : Nat) : ∀ c, c < 4294967296 → sumW c (List.replicate k 0) = 0 → c = 0 := by
  induction k with
  | zero => intro c _ h; exact h
  | succ k ih =>
    intro c hc h
    have e : c ^^^ (0 : UInt8).toNat = c := by simp
    have h2 : sumW (turnN 8 (c ^^^ (0 : UInt8).toNat)) (List.replicate k 0) = 0 := h
    rw [e] at h2
    exact turnN_zero 8 c hc (ih _ (turnN_lt 8 c hc) h2)
theorem table_ok : ((List.range 256).all fun c => c == 0 || (decide (256 ≤ turnN 8 c) && turnN 8 c % 16777216 != 0)) = true := by decide +kernel
theorem table_at (c : Nat) (h : c < 256) (h0 : c ≠ 0) : 256 ≤ turnN 8 c ∧ turnN 8 c % 16777216 ≠ 0 := by
  have := List.all_eq_true.1 table_ok c (List.mem_range.2 h)
  simpa [h0] using this

theorem xor_byte (a b k : Nat) : UInt8.ofNat ((a ^^^ b) / 2 ^ k) = UInt8.ofNat (a / 2 ^ k) ^^^ UInt8.ofNat (b / 2 ^ k) := by
  apply UInt8.toNat_inj.1
  rw [UInt8.toNat_xor]
  simp only [UInt8.toNat_ofNat']
  rw [Nat.xor_div_two_pow]
  exact Nat.xor_mod_two_pow (n := 8)
theorem four_xor (a b : Nat) : four (a ^^^ b) = mixed (four a) (four b) := by
  have h24 := xor_byte a b 24
  have h16 := xor_byte a b 16
  have h8 := xor_byte a b 8
  have h0 := xor_byte a b 0
  simp only [Nat.pow_zero, Nat.div_one] at h0
  unfold four mixed
  simp only [List.zipWith_cons_cons, List.zipWith_nil_right]
  rw [show (16777216 : Nat) = 2 ^ 24 by rfl, show (65536 : Nat) = 2 ^ 16 by rfl, show (256 : Nat) = 2 ^ 8 by rfl, h24, h16, h8, h0]
theorem mixed_twice (a t : List UInt8) (h : a.length = t.length) : mixed a (mixed a t) = t := by
  induction a generalizing t with
  | nil => cases t with
    | nil => rfl
    | cons _ _ => simp at h
  | cons c a ih => cases t with
    | nil => simp at h
    | cons d t =>
      show (c ^^^ (c ^^^ d)) :: mixed a (mixed a t) = d :: t
      rw [ih t (by simpa using h), ← UInt8.xor_assoc, UInt8.xor_self, UInt8.zero_xor]
theorem mixed_length (l m : List UInt8) (h : l.length = m.length) : (mixed l m).length = l.length := by simp [mixed, h]
theorem moreN_mixed (l d : List UInt8) (h : l.length = d.length) : moreN 0 (mixed l d) = moreN 0 l ^^^ sumW 0 d := by
  have := sumW_mixed l d (inv 0) 0 h
  unfold moreN
  rw [Nat.xor_zero] at this
  rw [this]
  unfold inv
  rw [Nat.xor_assoc, Nat.xor_comm (sumW 0 d), ← Nat.xor_assoc]
theorem good_mixed (l d : List UInt8) (h : d.length = l.length + 4) : goodB (mixed (sealB l) d) = decide (d.drop l.length = four (sumW 0 (d.take l.length))) := by
  have hlen : (mixed (sealB l) d).length = l.length + 4 := by rw [mixed_length _ _ (by rw [sealB_length, h]), sealB_length]
  have e1 : (mixed (sealB l) d).take l.length = mixed l (d.take l.length) := by
    rw [mixed_take]
    unfold sealB
    rw [List.take_left' rfl]
  have e2 : (mixed (sealB l) d).drop l.length = mixed (four (moreN 0 l)) (d.drop l.length) := by
    unfold mixed
    rw [List.drop_zipWith]
    unfold sealB
    rw [List.drop_left' rfl]
  unfold goodB
  rw [hlen, show l.length + 4 - 4 = l.length by omega, e1, e2, moreN_mixed l _ (by rw [List.length_take]; omega), four_xor]
  rw [show decide (4 ≤ l.length + 4) = true by simp, Bool.true_and]
  apply decide_eq_decide.2
  constructor
  · intro h2
    have h3 := congrArg (mixed (four (moreN 0 l))) h2
    rw [mixed_twice _ _ (by rw [four_length, List.length_drop]; omega), mixed_twice _ _ (by rw [four_length, four_length])] at h3
    exact h3
  · intro h2
    rw [h2]

theorem sumW_append' (w : Nat) (l m : List UInt8) : sumW w (l ++ m) = sumW (sumW w l) m := sumW_append w l m
theorem four_zero : four 0 = [0, 0, 0, 0] := by decide
theorem four_rep (c : Nat) (t : UInt8) (h : [t, 0, 0, 0] = four c) : c % 16777216 = 0 := by
  unfold four at h
  simp only [List.cons.injEq, and_true] at h
  obtain ⟨_, h1, h2, h3⟩ := h
  have g1 := congrArg UInt8.toNat h1
  have g2 := congrArg UInt8.toNat h2
  have g3 := congrArg UInt8.toNat h3
  simp at g1 g2 g3
  omega

/-- Two neighbours are others. -/
theorem turned_two (n p q : Nat) (one two : UInt8) (h : p + q + 2 = n + 4) :
    ((List.replicate p 0 ++ one :: two :: List.replicate q 0).drop n = four (sumW 0 ((List.replicate p 0 ++ one :: two :: List.replicate q 0).take n))) ↔ (one = 0 ∧ two = 0) := by
  constructor
  · intro he
    by_cases h1 : p + 2 ≤ n
    · obtain ⟨r, rfl⟩ : ∃ r, n = p + 2 + r := ⟨n - p - 2, by omega⟩
      obtain rfl : q = r + 4 := by omega
      have et : (List.replicate p 0 ++ one :: two :: List.replicate (r + 4) 0).take (p + 2 + r) = List.replicate p 0 ++ one :: two :: List.replicate r 0 := by
        rw [show p + 2 + r = p + (r + 2) by omega, List.take_append]
        simp [List.take_of_length_le]
      have ed : (List.replicate p 0 ++ one :: two :: List.replicate (r + 4) 0).drop (p + 2 + r) = [0, 0, 0, 0] := by
        rw [show p + 2 + r = p + (r + 2) by omega, List.drop_append]
        simp [List.drop_of_length_le]
      rw [et, ed, sumW_append', sumW_zeros] at he
      have hs : sumW 0 (one :: two :: List.replicate r 0) = sumW (turnN 8 (turnN 8 one.toNat ^^^ two.toNat)) (List.replicate r 0) := by
        show sumW (turnN 8 (turnN 8 (0 ^^^ one.toNat) ^^^ two.toNat)) (List.replicate r 0) = _
        rw [Nat.zero_xor]
      rw [hs] at he
      have b1 := one.toNat_lt
      have b2 := two.toNat_lt
      have l1 := turnN_lt 8 one.toNat (by omega)
      have l2 := xor_lt32 l1 (show two.toNat < 4294967296 by omega)
      have l3 := turnN_lt 8 _ l2
      have l4 := sumW_lt (List.replicate r 0) _ l3
      have hz : sumW (turnN 8 (turnN 8 one.toNat ^^^ two.toNat)) (List.replicate r 0) = 0 := by
        generalize sumW (turnN 8 (turnN 8 one.toNat ^^^ two.toNat)) (List.replicate r 0) = c at *
        have h9 := four_rep c 0 he
        unfold four at he
        simp only [List.cons.injEq] at he
        have g0 := congrArg UInt8.toNat he.1
        simp at g0
        omega
      have h5 := turnN_zero 8 _ l2 (sumW_zeros_inj r _ l3 hz)
      have h6 : turnN 8 one.toNat = two.toNat := by
        have := congrArg (· ^^^ two.toNat) h5
        simpa [Nat.xor_assoc] using this
      have h7 : one.toNat = 0 := by
        rcases Nat.eq_zero_or_pos one.toNat with h | h
        · exact h
        · have := (table_at one.toNat (by omega) (by omega)).1
          omega
      rw [h7, turnN_of_zero] at h6
      exact ⟨UInt8.toNat_inj.1 h7, UInt8.toNat_inj.1 h6.symm⟩
    · by_cases h2 : p + 1 = n
      · subst h2
        obtain rfl : q = 3 := by omega
        have et : (List.replicate p 0 ++ one :: two :: List.replicate 3 0).take (p + 1) = List.replicate p 0 ++ [one] := by
          rw [List.take_append]
          simp [List.take_of_length_le]
        have ed : (List.replicate p 0 ++ one :: two :: List.replicate 3 0).drop (p + 1) = [two, 0, 0, 0] := by
          rw [List.drop_append]
          simp [List.drop_of_length_le]
        rw [et, ed, sumW_append', sumW_zeros] at he
        have hs : sumW 0 [one] = turnN 8 one.toNat := by
          show turnN 8 (0 ^^^ one.toNat) = _
          rw [Nat.zero_xor]
        rw [hs] at he
        have h9 := four_rep _ two he
        have b1 := one.toNat_lt
        have h7 : one.toNat = 0 := by
          rcases Nat.eq_zero_or_pos one.toNat with h | h
          · exact h
          · have := (table_at one.toNat (by omega) (by omega)).2
            omega
        rw [h7, turnN_of_zero, four_zero] at he
        simp only [List.cons.injEq] at he
        exact ⟨UInt8.toNat_inj.1 h7, he.1⟩
      · obtain ⟨r, rfl⟩ : ∃ r, p = n + r := ⟨p - n, by omega⟩
        have et : (List.replicate (n + r) 0 ++ one :: two :: List.replicate q 0).take n = List.replicate n 0 := by
          rw [List.take_append_of_le_length (by simp), List.take_replicate]
          congr 1
          omega
        have ed : (List.replicate (n + r) 0 ++ one :: two :: List.replicate q 0).drop n = List.replicate r 0 ++ one :: two :: List.replicate q 0 := by
          rw [List.drop_append_of_le_length (by simp), List.drop_replicate]
          congr 2
          omega
        rw [et, ed, sumW_zeros, four_zero] at he
        have hr : r ≤ 2 := by omega
        have g1 := congrArg (fun x => x[r]?) he
        have g2 := congrArg (fun x => x[r + 1]?) he
        obtain rfl | rfl | rfl : r = 0 ∨ r = 1 ∨ r = 2 := by omega
        all_goals
          simp at g1 g2
          exact ⟨g1, g2⟩
  · rintro ⟨rfl, rfl⟩
    have e : List.replicate p (0 : UInt8) ++ 0 :: 0 :: List.replicate q 0 = List.replicate (n + 4) 0 := by
      rw [← h, show p + q + 2 = p + (q + 1 + 1) by omega, ← List.replicate_append_replicate, List.replicate_succ, List.replicate_succ]
    rw [e, List.take_replicate, List.drop_replicate, sumW_zeros, four_zero, show n + 4 - n = 4 by omega]
    rfl
/-- The last byte is another. -/
theorem turned_last (n p : Nat) (one : UInt8) (h : p + 1 = n + 4) :
    ((List.replicate p 0 ++ [one]).drop n = four (sumW 0 ((List.replicate p 0 ++ [one]).take n))) ↔ one = 0 := by
  obtain rfl : p = n + 3 := by omega
  have et : (List.replicate (n + 3) 0 ++ [one]).take n = List.replicate n 0 := by
    rw [List.take_append_of_le_length (by simp), List.take_replicate]
    congr 1
    omega
  have ed : (List.replicate (n + 3) 0 ++ [one]).drop n = [0, 0, 0, one] := by
    rw [List.drop_append_of_le_length (by simp), List.drop_replicate, show n + 3 - n = 3 by omega]
    rfl
  rw [et, ed, sumW_zeros, four_zero]
  simp

theorem mixed_append (a b c d : List UInt8) (h : a.length = c.length) : mixed (a ++ b) (c ++ d) = mixed a c ++ mixed b d := by
  unfold mixed
  exact List.zipWith_append h
/-- As the walk turns two bytes. -/
theorem set_two (a b : List UInt8) (u v x y : UInt8) : ((a ++ u :: v :: b).set a.length x).set (a.length + 1) y = a ++ x :: y :: b := by
  rw [List.set_append_right _ _ (Nat.le_refl _), Nat.sub_self, List.set_cons_zero, List.set_append_right _ _ (by omega), show a.length + 1 - a.length = 1 by omega]
  rfl
theorem set_last (a : List UInt8) (u x : UInt8) : (a ++ [u]).set a.length x = a ++ [x] := by
  rw [List.set_append_right _ _ (Nat.le_refl _), Nat.sub_self]
  rfl
theorem good_two (l a b : List UInt8) (u v one two : UInt8) (h : sealB l = a ++ u :: v :: b) : goodB (a ++ (u ^^^ one) :: (v ^^^ two) :: b) = (decide (one = 0) && decide (two = 0)) := by
  have hl := congrArg List.length h
  rw [sealB_length, List.length_append, List.length_cons, List.length_cons] at hl
  have e : a ++ (u ^^^ one) :: (v ^^^ two) :: b = mixed (sealB l) (List.replicate a.length 0 ++ one :: two :: List.replicate b.length 0) := by
    rw [h, mixed_append _ _ _ _ (by simp), mixed_zeros]
    show _ = a ++ (u ^^^ one) :: (v ^^^ two) :: mixed b (List.replicate b.length 0)
    rw [mixed_zeros]
  rw [e, good_mixed l _ (by simp; omega), ← Bool.decide_and]
  exact decide_eq_decide.2 (turned_two l.length a.length b.length one two (by omega))
theorem good_last (l a : List UInt8) (u one : UInt8) (h : sealB l = a ++ [u]) : goodB (a ++ [u ^^^ one]) = decide (one = 0) := by
  have hl := congrArg List.length h
  rw [sealB_length, List.length_append] at hl
  simp only [List.length_cons, List.length_nil] at hl
  have e : a ++ [u ^^^ one] = mixed (sealB l) (List.replicate a.length 0 ++ [one]) := by
    rw [h, mixed_append _ _ _ _ (by simp), mixed_zeros]
    rfl
  rw [e, good_mixed l _ (by simp; omega)]
  exact decide_eq_decide.2 (turned_last l.length a.length one (by omega))
end Go.Proofs.Ythjnlngpgleplaa
