/- Plain law: what is put is read, and what was read is put as the same bytes. -/
import Derived.Test.YtlipnncbpbbdnaaReads
import Derived.Test.YtlipnncbpbbdnaaLess
namespace Go.Proofs.Ytlipnncbpbbdnaa
open Go.RowKit

theorem beV_cons_from (l : List UInt8) : ∀ a : Nat, l.foldl (fun u c => u * 256 + c.toNat) a = a * 256 ^ l.length + beV l := by
  induction l with
  | nil => intro a; simp [beV]
  | cons c l ih =>
    intro a
    simp only [List.foldl_cons, List.length_cons, beV]
    rw [ih, ih (0 * 256 + c.toNat), Nat.pow_succ]
    simp only [Nat.add_mul, Nat.zero_mul, Nat.zero_add, Nat.mul_assoc, Nat.mul_comm 256, Nat.add_assoc]
theorem beV_cons (c : UInt8) (l : List UInt8) : beV (c :: l) = c.toNat * 256 ^ l.length + beV l := by
  have := beV_cons_from l c.toNat
  simp only [beV, List.foldl_cons, Nat.zero_mul, Nat.zero_add]
  exact this
theorem beN_length (k u : Nat) : (beN k u).length = k := by simp [beN, beP]
theorem beV_beN (k u : Nat) : beV (beN k u) = u % 256 ^ k := by
  induction k with
  | zero => simp [beN, beP, beV, Nat.mod_one]
  | succ k ih =>
    rw [beN_succ, beV_cons, ih, beN_length, Nat.pow_succ, Nat.mod_mul]
    simp only [UInt8.toNat_ofNat']
    rw [Nat.mul_comm, Nat.add_comm]
theorem beN_high (k : Nat) : ∀ (j c v : Nat), k ≤ j → beN k (c * 256 ^ j + v) = beN k v := by
  induction k with
  | zero => intros; rfl
  | succ k ih =>
    intro j c v h
    rw [beN_succ, beN_succ, ih j c v (by omega)]
    congr 1
    obtain ⟨d, rfl⟩ : ∃ d, j = d + k + 1 := ⟨j - k - 1, by omega⟩
    have e : c * 256 ^ (d + k + 1) = (c * 256 ^ d * 256) * 256 ^ k := by
      rw [Nat.pow_succ, Nat.pow_add]
      simp only [Nat.mul_assoc, Nat.mul_comm (256 ^ k) 256]
    have hp : 0 < 256 ^ k := Nat.pos_of_ne_zero (by simp)
    rw [e, Nat.add_comm, Nat.add_mul_div_right _ _ hp]
    apply UInt8.toNat_inj.1
    simp
theorem beN_beV (l : List UInt8) : beN l.length (beV l) = l := by
  induction l with
  | nil => rfl
  | cons c l ih =>
    rw [List.length_cons, beN_succ, beV_cons, beN_high l.length l.length _ _ (Nat.le_refl _), ih]
    congr 1
    have hp : 0 < 256 ^ l.length := Nat.pos_of_ne_zero (by simp)
    rw [Nat.add_comm, Nat.add_mul_div_right _ _ hp, Nat.div_eq_of_lt (beV_lt l)]
    simp

theorem num_put (u : Nat) (m : List UInt8) (hu : u ≤ 2147483647) : num (beN 4 u ++ m) = ((u : Int), 4, 0) := by
  unfold num
  have e : (beN 4 u ++ m).take 4 = beN 4 u := List.take_left' (beN_length 4 u)
  rw [if_neg (by rw [List.length_append, beN_length]; omega), e, beV_beN, Nat.mod_eq_of_lt (by omega), if_neg (by omega)]
theorem wrap_word (i : Int) (h0 : -9223372036854775808 ≤ i) (h1 : i ≤ 9223372036854775807) : wrap64 ((word i : Nat) : Int) = i := by
  rw [← word_eq]
  have : IntKind.u64.wrap i = i % 18446744073709551616 := by simp [IntKind.wrap, IntKind.bits, IntKind.signed]
  rw [this]
  unfold wrap64
  omega
theorem int_put (i : Int) (m : List UInt8) (h0 : -9223372036854775808 ≤ i) (h1 : i ≤ 9223372036854775807) : int (beN 8 (word i) ++ m) = (i, 8, 0) := by
  unfold int
  have e : (beN 8 (word i) ++ m).take 8 = beN 8 (word i) := List.take_left' (beN_length 8 _)
  have := word_lt i
  rw [if_neg (by rw [List.length_append, beN_length]; omega), e, beV_beN, Nat.mod_eq_of_lt (by omega), wrap_word i h0 h1]
theorem text_put (s : ByteArray) (m : List UInt8) (hs : s.size ≤ 65536) : text (beN 4 s.size ++ (s.data.toList ++ m)) = (s, 4 + s.size, 0) := by
  unfold text
  have e : (beN 4 s.size ++ (s.data.toList ++ m)).take 4 = beN 4 s.size := List.take_left' (beN_length 4 _)
  have e2 : (beN 4 s.size ++ (s.data.toList ++ m)).drop 4 = s.data.toList ++ m := List.drop_left' (beN_length 4 _)
  have e3 : s.data.toList.length = s.size := by simp
  have hl : (beN 4 s.size ++ (s.data.toList ++ m)).length = 4 + (s.size + m.length) := by rw [List.length_append, List.length_append, beN_length, e3]
  rw [e, beV_beN, Nat.mod_eq_of_lt (by omega), if_neg (by omega), if_neg (by omega), if_neg (by omega), e2, List.take_left' e3]

/-- Back: the bytes that were read. -/
theorem num_one (l : List UInt8) (h : (num l).2.2 = 0) : (num l).2.1 = 4 ∧ 4 ≤ l.length ∧ ∃ u : Nat, u ≤ 2147483647 ∧ (num l).1 = u ∧ beN 4 u = l.take 4 := by
  obtain ⟨h1, h2⟩ := num_ok l h
  refine ⟨h1, h2, beV (l.take 4), ?_⟩
  have hb := beN_beV (l.take 4)
  rw [List.length_take, Nat.min_eq_left h2] at hb
  unfold num at h ⊢
  rw [if_neg (by omega)] at h ⊢
  split at h
  · simp at h
  · rename_i h3
    rw [if_neg h3]
    exact ⟨by omega, rfl, hb⟩
theorem int_one (l : List UInt8) (h : (int l).2.2 = 0) : (int l).2.1 = 8 ∧ 8 ≤ l.length ∧ beN 8 (word (int l).1) = l.take 8 := by
  unfold int at h ⊢
  split at h
  · simp at h
  · rename_i h2
    rw [if_neg h2]
    have h3 : 8 ≤ l.length := by omega
    have hb := beN_beV (l.take 8)
    rw [List.length_take, Nat.min_eq_left h3] at hb
    refine ⟨rfl, h3, ?_⟩
    have h5 : beV (l.take 8) < 18446744073709551616 := beV_lt8 _ (by simp; omega)
    have : word (wrap64 (beV (l.take 8))) = beV (l.take 8) := by
      have e : ((word (wrap64 (beV (l.take 8))) : Nat) : Int) = ((beV (l.take 8) : Nat) : Int) := by
        rw [← word_eq]
        have : ∀ i : Int, IntKind.u64.wrap i = i % 18446744073709551616 := by intro i; simp [IntKind.wrap, IntKind.bits, IntKind.signed]
        rw [this]
        unfold wrap64
        omega
      omega
    rw [this]
    exact hb
theorem text_one (l : List UInt8) (h : (text l).2.2 = 0) : (text l).1.size ≤ 65536 ∧ (text l).2.1 = 4 + (text l).1.size ∧ 4 + (text l).1.size ≤ l.length ∧ beN 4 (text l).1.size ++ (text l).1.data.toList = l.take (4 + (text l).1.size) := by
  unfold text at h ⊢
  split at h
  · simp at h
  · rename_i h1
    split at h
    · simp at h
    · rename_i h2
      split at h
      · simp at h
      · rename_i h3
        rw [if_neg h1, if_neg h2, if_neg h3]
        have hb := beN_beV (l.take 4)
        rw [List.length_take, Nat.min_eq_left (by omega)] at hb
        generalize beV (l.take 4) = y at *
        have hs : (⟨((l.drop 4).take y).toArray⟩ : ByteArray).size = y := by
          simp [ByteArray.size]; omega
        simp only [hs]
        refine ⟨by omega, by simp, by omega, ?_⟩
        rw [hb, List.take_add]
end Go.Proofs.Ytlipnncbpbbdnaa
