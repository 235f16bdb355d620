/- Plain law: bytes of numbers of one length, the highest first, stand in order as the numbers do. -/
import Derived.Test.YtlipnncbpbbdnaaEnc
namespace Go.Proofs.Ytlipnncbpbbdnaa

theorem beN_succ (k u : Nat) : beN (k + 1) u = UInt8.ofNat (u / 256 ^ k) :: beN k u := by
  simp only [beN, beP, List.range_succ_eq_map, List.map_cons, List.map_map]
  congr 1
  · simp [Nat.pow_mul]
  · apply List.map_congr_left
    intro t _
    simp only [Function.comp]
    congr 4
    omega

theorem lex_lt (m a b x y : Nat) (hx : x < m) (hy : y < m) : (m * a + x < m * b + y) ↔ (a < b ∨ (a = b ∧ x < y)) := by
  constructor
  · intro h
    rcases Nat.lt_trichotomy a b with h1 | h1 | h1
    · exact .inl h1
    · subst h1; exact .inr ⟨rfl, by omega⟩
    · exfalso
      have h2 : m * (b + 1) ≤ m * a := Nat.mul_le_mul_left m h1
      rw [Nat.mul_add] at h2
      omega
  · rintro (h | ⟨rfl, h⟩)
    · have h2 : m * (a + 1) ≤ m * b := Nat.mul_le_mul_left m h
      rw [Nat.mul_add] at h2
      omega
    · omega

theorem less_be (k u v : Nat) : Op.bytesLess (beN k u) (beN k v) = decide (u % 256 ^ k < v % 256 ^ k) := by
  induction k with
  | zero => simp [beN, beP, Op.bytesLess, Nat.mod_one]
  | succ k ih =>
    rw [beN_succ, beN_succ, Op.bytesLess, ih, Nat.pow_succ, Nat.mod_mul, Nat.mod_mul]
    have hp : 0 < 256 ^ k := Nat.pos_of_ne_zero (by simp)
    have hx := Nat.mod_lt u hp
    have hy := Nat.mod_lt v hp
    rw [Bool.eq_iff_iff]
    simp only [Bool.or_eq_true, Bool.and_eq_true, decide_eq_true_eq, beq_iff_eq]
    rw [Nat.add_comm (u % 256 ^ k), Nat.add_comm (v % 256 ^ k), lex_lt _ _ _ _ _ hx hy, UInt8.lt_iff_toNat_lt, ← UInt8.toNat_inj]
    simp

theorem less_four (u v : Nat) (hu : u ≤ 2147483647) (hv : v ≤ 2147483647) : Op.bytesLess (beN 4 u) (beN 4 v) = decide (u < v) := by
  rw [less_be, Nat.mod_eq_of_lt (by omega), Nat.mod_eq_of_lt (by omega)]

theorem less_word (a b : Int) (ha : -9223372036854775808 ≤ a ∧ a ≤ 9223372036854775807) (hb : -9223372036854775808 ≤ b ∧ b ≤ 9223372036854775807) (h : (a < 0) ↔ (b < 0)) :
    Op.bytesLess (beN 8 (word a)) (beN 8 (word b)) = decide (a < b) := by
  rw [less_be, Nat.mod_eq_of_lt (by have := word_lt a; omega), Nat.mod_eq_of_lt (by have := word_lt b; omega)]
  have e (n : Int) : word n = (n % 18446744073709551616).toNat := by
    unfold word
    simp [IntKind.wrap, IntKind.bits, IntKind.signed]
  rw [e, e, Bool.eq_iff_iff]
  simp only [decide_eq_true_eq]
  omega
end Go.Proofs.Ytlipnncbpbbdnaa
