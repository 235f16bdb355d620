/- The document's Eight: an int's bytes; and the four last of them. -/
import Derived.Test.YthjnlngpgleplaaSums
namespace Go.Proofs.Ythjnlngpgleplaa
open Go.RowKit

/-- The lowest k bytes of a number, the highest first; its first j. -/
def beP (k u j : Nat) : List UInt8 := (List.range j).map fun t => UInt8.ofNat (u / 2 ^ (8 * (k - 1 - t)))
def beN (k u : Nat) : List UInt8 := beP k u k
theorem beP_zero (k u : Nat) : beP k u 0 = [] := rfl
theorem beP_succ (k u j : Nat) : bv (beP k u (j + 1)) = bv (beP k u j) ++ [.int .u8 ((u / 2 ^ (8 * (k - 1 - j)) % 256 : Nat) : Int)] := by
  simp [beP, bv, List.range_succ]

/-- The four bytes of a word, the highest first. -/
def four (u : Nat) : List UInt8 := [UInt8.ofNat (u / 16777216), UInt8.ofNat (u / 65536), UInt8.ofNat (u / 256), UInt8.ofNat u]
theorem four_length (u : Nat) : (four u).length = 4 := rfl
/-- An int as an unsigned word. -/
def word (n : Int) : Nat := (IntKind.u64.wrap n).toNat
theorem word_eq (n : Int) : IntKind.u64.wrap n = (word n : Int) := by
  unfold word
  have : IntKind.u64.wrap n = n % 18446744073709551616 := by simp [IntKind.wrap, IntKind.bits, IntKind.signed]
  rw [this]; omega
theorem word_lt (n : Int) : word n < 18446744073709551616 := by
  have : IntKind.u64.wrap n = n % 18446744073709551616 := by simp [IntKind.wrap, IntKind.bits, IntKind.signed]
  unfold word
  rw [this]; omega

theorem eight_any (n : Int) (w : World) :
    Calls Try.prog 27 #[.int .i64 n] w fun e w' => ∃ v, e = .returned v ∧
      w'.ownsRow w.heap.size 5 1 v 8 (bv (beN 8 (word n))) ∧ Below w.heap.size w w' := by
  obtain ⟨i0, hi0, hz0, hz1, hz2⟩ := info_parts u8_info
  have hw := word_eq n
  go_enter Try.func27, Try.ntmps27
  go_wp2_with fail
  go_loopw [4, 5] (fun v i wr => ∃ j : Nat, j ≤ 8 ∧ i = .int .i64 (7 - (j : Int)) ∧ wr.ownsRow w.heap.size 5 1 v j (bv (beP 8 (word n) j)) ∧ Below w.heap.size w wr) (fun _ i _ => (intOf i + 1).toNat)
  case atStart => exact ⟨0, by omega, by simp, World.ownsRow_nil _ _ _ _, Below.refl _ _⟩
  case round =>
    obtain ⟨j, hj, rfl, hown, hb⟩ := hrel
    by_cases hlt : j < 8
    · obtain ⟨m, hm⟩ : ∃ m : Nat, 7 - (j : Int) = m := ⟨7 - j, by omega⟩
      have hm' : 8 - 1 - j = m := by omega
      rw [hm]
      have hm8 : m < 8 := by omega
      have HM := Lib.hid hm; clear hm
      have HM' := Lib.hid hm'; clear hm'
      go_wp2_with (at_builtin; refine wpList_append_one wr rfl (.tmp 12) (.tmp 18) _ rfl w.heap.size 5 i0 (.int .u8 0) 1 Try.underlying22 hi0 hz0 hz1 hz2 rfl u4 j _ hown rfl _ rfl rfl ?_ ?_ hb.size ?_)
      · unfold maxLen; omega
      · omega
      intro v3 w3 hown3 hg3
      have hb3 := hb.trans (below_of_grown hown hg3 hb.size)
      clear hown hg3
      go_wp2_with fail
      go_roundw
      case rel =>
        refine ⟨j + 1, by omega, ret_i (by have := HM.out; omega), ?_, hb3⟩
        rw [beP_succ, HM'.out]
        have e2 : ((word n / 2 ^ (8 * m) % 256 : Nat) : Int) = (word n : Int) / 2 ^ (8 * m) % 256 := by simp
        rw [e2]
        exact hown3
      case measure => simp [intOf]
    · obtain rfl : j = 8 := by omega
      have e : (7 - (8 : Nat) : Int) = -1 := by omega
      rw [e]
      go_wp2_with fail
      go_ret
      exact ⟨_, rfl, hown, hb⟩


theorem word_nat (s : Nat) (h : s < 4294967296) : word (s : Int) = s := by
  have : IntKind.u64.wrap (s : Int) = (s : Int) % 18446744073709551616 := by simp [IntKind.wrap, IntKind.bits, IntKind.signed]
  unfold word
  rw [this]; omega
theorem eight_four (s : Nat) : (beN 8 s).drop 4 = four s := by
  simp [beN, beP, four, List.range_succ, List.range_zero]
theorem own_rd {base n : Nat} {v : Value} {l : List UInt8} {w : World} (h : w.ownsRow base 5 1 v n (bv l)) :
    ∃ A c, v = .slice A n c ∧ Rd w w.heap.size A (bv l) ∧ l.length = n ∧ n ≤ c ∧ c ≤ maxLen := by
  obtain ⟨A, c, rfl, h1, h2⟩ := own_is_slice h
  exact ⟨A, c, rfl, Rd.of_own h, by have := h.1; rw [bv_length] at this; omega, h1, h2⟩
end Go.Proofs.Ythjnlngpgleplaa
