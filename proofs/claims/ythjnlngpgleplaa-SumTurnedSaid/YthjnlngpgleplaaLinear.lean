/- Check sums are linear: the sums of two rows of one length and of the row of their difference cancel out with that of as many zeros. A plain law on numbers. -/
import Derived.Test.YthjnlngpgleplaaSums
import Derived.Lib.MinMax
import Derived.Deep.OwnRows
namespace Go.Proofs.Ythjnlngpgleplaa
open Go.RowKit

theorem stepN_xor (a b : Nat) : stepN (a ^^^ b) = stepN a ^^^ stepN b := by
  have h2 := @Nat.xor_div_two a b
  have h1 := @Nat.xor_mod_two_eq_one a b
  unfold stepN
  by_cases ha : a % 2 = 1 <;> by_cases hb : b % 2 = 1
  · have : ¬ (a ^^^ b) % 2 = 1 := by rw [h1]; simp [ha, hb]
    rw [if_neg this, if_pos ha, if_pos hb, h2]
    have e : ∀ x y c : Nat, x ^^^ y = (x ^^^ c) ^^^ (y ^^^ c) := by
      intro x y c
      rw [Nat.xor_comm y c, Nat.xor_assoc, ← Nat.xor_assoc c c y, Nat.xor_self, Nat.zero_xor]
    exact e _ _ _
  · have : (a ^^^ b) % 2 = 1 := by rw [h1]; simp [ha, hb]
    rw [if_pos this, if_pos ha, if_neg hb, h2, Nat.xor_assoc, Nat.xor_assoc, Nat.xor_comm (b / 2)]
  · have : (a ^^^ b) % 2 = 1 := by rw [h1]; simp [ha, hb]
    rw [if_pos this, if_neg ha, if_pos hb, h2, Nat.xor_assoc]
  · have : ¬ (a ^^^ b) % 2 = 1 := by rw [h1]; simp [ha, hb]
    rw [if_neg this, if_neg ha, if_neg hb, h2]
theorem turnN_xor (k a b : Nat) : turnN k (a ^^^ b) = turnN k a ^^^ turnN k b := by
  induction k with
  | zero => rfl
  | succ k ih => rw [turnN, turnN, turnN, ih, stepN_xor]
/-- The difference of two rows. -/
def mixed (l m : List UInt8) : List UInt8 := List.zipWith (· ^^^ ·) l m
theorem xor4 (a b c d : Nat) : (a ^^^ b) ^^^ (c ^^^ d) = (a ^^^ c) ^^^ (b ^^^ d) := by
  rw [Nat.xor_assoc, Nat.xor_assoc, ← Nat.xor_assoc b c d, Nat.xor_comm b c, Nat.xor_assoc c b d]
theorem sumW_mixed : ∀ (l m : List UInt8) (v w : Nat), l.length = m.length → sumW (v ^^^ w) (mixed l m) = sumW v l ^^^ sumW w m
  | [], [], v, w, _ => rfl
  | c :: l, d :: m, v, w, h => by
    have ih := sumW_mixed l m (turnN 8 (v ^^^ c.toNat)) (turnN 8 (w ^^^ d.toNat)) (by simpa using h)
    show sumW (turnN 8 ((v ^^^ w) ^^^ (c ^^^ d).toNat)) (mixed l m) = _
    rw [UInt8.toNat_xor, xor4, turnN_xor]
    exact ih
  | [], _ :: _, _, _, h => by simp at h
  | _ :: _, [], _, _, h => by simp at h
theorem mixed_zeros (l : List UInt8) : mixed l (List.replicate l.length 0) = l := by
  induction l with
  | nil => rfl
  | cons c l ih =>
    show (c ^^^ 0) :: mixed l (List.replicate l.length 0) = _
    rw [ih]
    simp
theorem moreN_linear (l m : List UInt8) (h : l.length = m.length) : moreN 0 l ^^^ moreN 0 m ^^^ moreN 0 (mixed l m) ^^^ moreN 0 (List.replicate l.length 0) = 0 := by
  have hx : (mixed l m).length = l.length := by simp [mixed, h]
  have h1 := sumW_mixed l m (inv 0) (inv 0) h
  have h2 := sumW_mixed (mixed l m) (List.replicate l.length 0) (inv 0) (inv 0) (by simp [hx])
  have h3 : mixed (mixed l m) (List.replicate l.length 0) = mixed l m := by rw [← hx]; exact mixed_zeros _
  rw [h3, h1] at h2
  unfold moreN
  generalize inv 0 = s at *
  unfold inv
  rw [xor4 (sumW s l), Nat.xor_self, Nat.xor_zero, h2]
  have e : ∀ x y : Nat, x ^^^ (x ^^^ y) = y := by
    intro x y
    rw [← Nat.xor_assoc, Nat.xor_self, Nat.zero_xor]
  rw [Nat.xor_assoc, xor4 (sumW s (mixed l m)), e, e, Nat.xor_self]

theorem ofInt64 (a : Nat) (ha : a < 4294967296) : (BitVec.ofInt 64 (a : Int)).toNat = a := by
  rw [BitVec.ofInt_natCast, BitVec.toNat_ofNat]; exact Nat.mod_eq_of_lt (by omega)
theorem i64_xor_nat (a b : Nat) (ha : a < 4294967296) (hb : b < 4294967296) : bits .xor .i64 (a : Int) (b : Int) = ((a ^^^ b : Nat) : Int) := by
  have hx : a ^^^ b < 4294967296 := xor_lt32 ha hb
  show IntKind.i64.wrap ((BitVec.ofInt 64 (a : Int) ^^^ BitVec.ofInt 64 (b : Int)).toNat : Int) = _
  rw [BitVec.toNat_xor, ofInt64 a ha, ofInt64 b hb, IntKind.wrap_i64]
  omega

/-- The row as it stands behind k rounds. -/
def mixing (l m : List UInt8) (n k : Nat) : List UInt8 := (mixed l m).take k ++ List.replicate (n - k) 0
theorem mixing_length (l m : List UInt8) (n k : Nat) (h : n ≤ (mixed l m).length) (hk : k ≤ n) : (mixing l m n k).length = n := by
  simp [mixing]; omega
theorem mixing_start (l m : List UInt8) (n : Nat) : mixing l m n 0 = List.replicate n 0 := by simp [mixing]
theorem mixing_end (l m : List UInt8) (n : Nat) : mixing l m n n = (mixed l m).take n := by simp [mixing]
theorem mixing_set (l m : List UInt8) (n k : Nat) (h1 : k < l.length) (h2 : k < m.length) (hk : k < n) :
    (bv (mixing l m n k)).set k (.int .u8 (((l[k]).toNat ^^^ (m[k]).toNat : Nat) : Int)) = bv (mixing l m n (k + 1)) := by
  have hl : k < (mixed l m).length := by simp [mixed]; omega
  have e1 : (mixed l m).take (k + 1) = (mixed l m).take k ++ [(mixed l m)[k]] := List.take_succ_eq_append_getElem hl
  have e2 : (mixed l m)[k] = l[k] ^^^ m[k] := by simp [mixed]
  have e3 : List.replicate (n - k) (0 : UInt8) = 0 :: List.replicate (n - (k + 1)) 0 := by
    rw [show n - k = (n - (k + 1)) + 1 by omega]; rfl
  unfold mixing
  rw [e1, e2, e3]
  simp only [bv_append]
  rw [List.set_append_right _ _ (by rw [bv_length]; simp; omega)]
  have e4 : k - (bv ((mixed l m).take k)).length = 0 := by rw [bv_length]; simp; omega
  rw [e4]
  simp [bv, UInt8.toNat_xor]
theorem mixing_old (l m : List UInt8) (n k : Nat) (h : n ≤ (mixed l m).length) (hk : k < n) : ∃ u, (bv (mixing l m n k))[k]? = some (.int .u8 u) := by
  have hl : k < (mixing l m n k).length := by rw [mixing_length l m n k h (by omega)]; exact hk
  exact ⟨_, bv_at _ k hl⟩
theorem mixed_take (l m : List UInt8) (n : Nat) : (mixed l m).take n = mixed (l.take n) (m.take n) := by simp [mixed, List.take_zipWith]
end Go.Proofs.Ythjnlngpgleplaa
