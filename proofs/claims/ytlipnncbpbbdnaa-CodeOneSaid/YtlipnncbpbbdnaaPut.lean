/- code.put: the bytes ahead, and behind them a number's lowest bytes, the highest first. -/
import Derived.Test.YtlipnncbpbbdnaaLent
namespace Go.Proofs.Ytlipnncbpbbdnaa
open Go.RowKit

/-- The lowest k bytes of a number, the highest first; its first j. -/
def beP (k u j : Nat) : List UInt8 := (List.range j).map fun t => UInt8.ofNat (u / 2 ^ (8 * (k - 1 - t)))
def beN (k u : Nat) : List UInt8 := beP k u k
theorem beP_zero (k u : Nat) : beP k u 0 = [] := rfl
theorem beP_succ (k u j : Nat) : bv (beP k u (j + 1)) = bv (beP k u j) ++ [.int .u8 ((u / 2 ^ (8 * (k - 1 - j)) % 256 : Nat) : Int)] := by
  simp [beP, bv, List.range_succ]

theorem put_any (A : Option Addr) (n c : Nat) (l : List UInt8) (u s : Nat) (w : World) (hr : Rd w w.heap.size A (bv l)) (hl : l.length = n) (hn : n ≤ 1099511627776) (hu : u < 18446744073709551616) (hs : s ≤ 8) :
    Calls Try.prog 31 #[.slice A n c, .int .u64 u, .int .i64 s] w fun e w' => ∃ v, e = .returned v ∧
      w'.ownsRow w.heap.size 5 1 v (n + s) (bv l ++ bv (beN s u)) ∧ Below w.heap.size w w' := by
  obtain ⟨i0, hi0, hz0, hz1, hz2⟩ := info_parts u8_info
  have HU := Lib.hid hu; clear hu
  go_enter Try.func31, Try.ntmps31
  go_wp2_with (at_make; refine wpList_make_own _ rfl _ _ 22 rfl w.heap.size 5 i0 (.int .u8 0) 1 Try.underlying22 hi0 hz0 hz1 .i64 .i64 _ (n + s) rfl rfl ?_ ?_ ?_ ?_ ?_)
  · omega
  · rw [hz2]; omega
  · unfold maxLen; omega
  · exact Nat.le_refl _
  intro w1 hown1 hg1
  have hb1 : Below w.heap.size w w1 := (Below.refl _ _).grown hg1 (Nat.le_refl _) (by simp)
  have hr1 := hr.below hb1 (Nat.le_refl _)
  go_wp2_with (at_builtin; refine wpList_append_rd _ rfl (.tmp 13) (.tmp 14) _ rfl w.heap.size 5 i0 (.int .u8 0) 1 1 Try.underlying22 hi0 hz0 hz1 hz2 rfl (by omega) _ 0 [] hown1 rfl w.heap.size A n c (bv l) hr1 rfl ?_ (bv_one l) ?_ ?_ hb1.size ?_)
  · rw [bv_length]; omega
  · unfold maxLen; omega
  · omega
  intro v2 w2 hown2 hg2
  have hb2 := hb1.trans (below_of_grown hown1 hg2 hb1.size)
  clear hown1 hg1 hr1
  go_wp2_with fail
  go_loopw [7, 8] (fun v i wr => ∃ j : Nat, j ≤ s ∧ i = .int .i64 ((s : Int) - 1 - j) ∧ wr.ownsRow w.heap.size 5 1 v (n + j) (bv l ++ bv (beP s u j)) ∧ Below w.heap.size w wr) (fun _ i _ => (intOf i + 1).toNat)
  case atStart => exact ⟨0, by omega, by simp, by simpa [beP, bv] using hown2, hb2⟩
  case round =>
    obtain ⟨j, hj, rfl, hown, hb⟩ := hrel
    by_cases hlt : j < s
    · obtain ⟨m, hm⟩ : ∃ m : Nat, (s : Int) - 1 - j = m := ⟨s - 1 - j, by omega⟩
      have hm' : s - 1 - j = m := by omega
      rw [hm]
      have hm8 : m < 8 := by omega
      have HM := Lib.hid hm; clear hm
      have HM' := Lib.hid hm'; clear hm'
      go_wp2_with (at_builtin; refine wpList_append_one wr rfl (.tmp 22) (.tmp 28) _ rfl w.heap.size 5 i0 (.int .u8 0) 1 Try.underlying22 hi0 hz0 hz1 hz2 rfl u7 (n + j) _ hown rfl _ rfl rfl ?_ ?_ hb.size ?_)
      · unfold maxLen; omega
      · omega
      intro v3 w3 hown3 hg3
      have hb3 := hb.trans (below_of_grown hown hg3 hb.size)
      clear hown hg3
      go_wp2_with fail
      go_roundw
      case rel =>
        refine ⟨j + 1, by omega, ret_i (by have := HM.out; omega), ?_, hb3⟩
        rw [beP_succ, HM'.out]
        have e2 : ((u / 2 ^ (8 * m) % 256 : Nat) : Int) = (u : Int) / 2 ^ (8 * m) % 256 := by simp
        rw [e2]
        exact hown3
      case measure => simp [intOf]
    · obtain rfl : j = s := by omega
      have e : (j : Int) - 1 - j = -1 := by omega
      rw [e]
      go_wp2_with fail
      go_ret
      exact ⟨_, rfl, hown, hb⟩
end Go.Proofs.Ytlipnncbpbbdnaa
