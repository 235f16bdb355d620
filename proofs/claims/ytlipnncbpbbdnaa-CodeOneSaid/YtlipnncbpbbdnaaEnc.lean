/- code.PutNumber, PutInt, PutText, and the document's Four, Eight, Number, Text: what each puts, or that it refuses. -/
import Derived.Test.YtlipnncbpbbdnaaPut
namespace Go.Proofs.Ytlipnncbpbbdnaa
open Go.RowKit

theorem putNumber_ok (A : Option Addr) (n c : Nat) (l : List UInt8) (u : Nat) (w : World) (hr : Rd w w.heap.size A (bv l)) (hl : l.length = n) (hn : n ≤ 1099511627776) (hu : u ≤ 2147483647) :
    Calls Try.prog 13 #[.slice A n c, .int .i64 u] w fun e w' => ∃ v, e = .returned (.tuple #[v, .int .i64 0]) ∧
      w'.ownsRow w.heap.size 5 1 v (n + 4) (bv l ++ bv (beN 4 u)) ∧ Below w.heap.size w w' := by
  go_enter Try.func13, Try.ntmps13
  go_wp2_with fail
  refine (put_any A n c l u 4 w hr hl hn (by omega) (by omega)).mono ?_
  rintro e w1 ⟨v, rfl, hown, hb⟩
  go_wp2_with fail
  go_ret2
  exact ⟨v, rfl, hown, hb⟩

theorem putNumber_no (A : Option Addr) (n c : Nat) (u : Int) (w : World) (hu : u < 0 ∨ 2147483647 < u) :
    Calls Try.prog 13 #[.slice A n c, .int .i64 u] w fun e w' => e = .returned (.tuple #[.slice none 0 0, .int .i64 1]) ∧ w = w' := by
  rcases hu with h | h
  · go_enter Try.func13, Try.ntmps13
    go_wp2_with fail
    go_ret2
    exact ⟨rfl, rfl⟩
  · have h0 : ¬ u < 0 := by omega
    go_enter Try.func13, Try.ntmps13
    go_wp2_with fail
    go_ret2
    exact ⟨rfl, rfl⟩

theorem putText_ok (A : Option Addr) (n c : Nat) (l : List UInt8) (s : ByteArray) (w : World) (hr : Rd w w.heap.size A (bv l)) (hl : l.length = n) (hn : n ≤ 1099511627776) (hs : s.size ≤ 65536) :
    Calls Try.prog 17 #[.slice A n c, .string s] w fun e w' => ∃ v, e = .returned (.tuple #[v, .int .i64 0]) ∧
      w'.ownsRow w.heap.size 5 1 v (n + 4 + s.size) (bv l ++ bv (beN 4 s.size) ++ bv s.data.toList) ∧ Below w.heap.size w w' := by
  obtain ⟨i0, hi0, hz0, hz1, hz2⟩ := info_parts u8_info
  go_enter Try.func17, Try.ntmps17
  go_wp2_with fail
  refine (put_any A n c l s.size 4 w hr hl hn (by omega) (by omega)).mono ?_
  rintro e w1 ⟨v, rfl, hown, hb⟩
  go_wp2_with (at_builtin; refine Lib.wpList_append_own_string _ rfl (.tmp 13) (.tmp 14) _ _ rfl w.heap.size 5 i0 Try.underlying22 Try.underlying9 hi0 hz0 hz1 hz2 v (n + 4) _ rfl hown s rfl ?_ ?_ hb.size ?_)
  · unfold maxLen; omega
  · omega
  intro v2 w2 hown2 hg2 _
  go_wp2_with fail
  go_ret2
  exact ⟨v2, rfl, by rw [List.append_assoc]; exact hown2, hb.trans (below_of_grown hown hg2 hb.size)⟩

theorem putText_no (A : Option Addr) (n c : Nat) (s : ByteArray) (w : World) (hs : 65536 < s.size) (hs2 : s.size ≤ maxLen) :
    Calls Try.prog 17 #[.slice A n c, .string s] w fun e w' => e = .returned (.tuple #[.slice none 0 0, .int .i64 2]) ∧ w = w' := by
  unfold maxLen at hs2
  go_enter Try.func17, Try.ntmps17
  go_wp2_with fail
  go_ret2
  exact ⟨rfl, rfl⟩

/-- The four bytes that the document tells. -/
def four (u : Nat) : List UInt8 := [UInt8.ofNat (u / 16777216), UInt8.ofNat (u / 65536), UInt8.ofNat (u / 256), UInt8.ofNat u]
theorem four_eq (u : Nat) : beN 4 u = four u := by
  simp [beN, beP, four, List.range_succ, List.range_zero]

theorem is_yes (u : Int) (w : World) (h0 : 0 ≤ u) (h1 : u ≤ 2147483647) :
    Calls Try.prog 32 #[.int .i64 u] w fun e w' => e = .returned (.bool true) ∧ w = w' := by
  go_enter Try.func32, Try.ntmps32
  go_wp2_with fail
  go_ret
  exact ⟨rfl, rfl⟩
theorem is_no (u : Int) (w : World) (h : u < 0 ∨ 2147483647 < u) :
    Calls Try.prog 32 #[.int .i64 u] w fun e w' => e = .returned (.bool false) ∧ w = w' := by
  rcases h with h | h
  · have h0' : decide (0 ≤ u) = false := by simpa using h
    go_enter Try.func32, Try.ntmps32
    go_wp2_with fail
    go_ret
    exact ⟨rfl, rfl⟩
  · have h0 : 0 ≤ u := by omega
    have h1 : decide (u ≤ 2147483647) = false := by simpa using h
    go_enter Try.func32, Try.ntmps32
    go_wp2_with fail
    go_ret
    exact ⟨rfl, rfl⟩

theorem four_any (u : Nat) (w : World) (hu : u ≤ 2147483647) :
    Calls Try.prog 33 #[.int .i64 u] w fun e w' => ∃ v, e = .returned v ∧
      w'.ownsRow w.heap.size 5 1 v 4 (bv (four u)) ∧ Below w.heap.size w w' := by
  go_enter Try.func33, Try.ntmps33
  go_wp2_with fail
  go_ret
  refine ⟨_, rfl, ?_, (Below.refl _ _).alloc (Nat.le_refl _) _⟩
  have h := World.ownsRow_lit (e := 5) (size := 1) (base := w.heap.size) w (bv (four u)).toArray 4 (Nat.le_refl _) (by unfold maxLen; omega) (by simp [bv, four])
  have e : (u : Int) / 16777216 % 256 = (u : Int) / 16777216 := by omega
  simpa [bv, four, e] using h

theorem number_ok (u : Nat) (w : World) (hu : u ≤ 2147483647) :
    Calls Try.prog 14 #[.int .i64 u] w fun e w' => ∃ v, e = .returned (.tuple #[v, .int .i64 0]) ∧
      w'.ownsRow w.heap.size 5 1 v 4 (bv (four u)) ∧ Below w.heap.size w w' := by
  go_enter Try.func14, Try.ntmps14
  go_wp2_with fail
  refine (is_yes _ w (by omega) (by omega)).mono ?_
  rintro e w' ⟨rfl, rfl⟩
  go_wp2_with fail
  refine (four_any u w hu).mono ?_
  rintro e w' ⟨v, rfl, hown, hb⟩
  go_wp2_with fail
  go_ret2
  exact ⟨v, rfl, hown, hb⟩
theorem number_no (u : Int) (w : World) (h : u < 0 ∨ 2147483647 < u) :
    Calls Try.prog 14 #[.int .i64 u] w fun e w' => e = .returned (.tuple #[.slice none 0 0, .int .i64 1]) ∧ w = w' := by
  go_enter Try.func14, Try.ntmps14
  go_wp2_with fail
  refine (is_no _ w h).mono ?_
  rintro e w' ⟨rfl, rfl⟩
  go_wp2_with fail
  go_ret2
  exact ⟨rfl, rfl⟩

theorem text_ok (s : ByteArray) (w : World) (hs : s.size ≤ 65536) :
    Calls Try.prog 18 #[.string s] w fun e w' => ∃ v, e = .returned (.tuple #[v, .int .i64 0]) ∧
      w'.ownsRow w.heap.size 5 1 v (4 + s.size) (bv (four s.size) ++ bv s.data.toList) ∧ Below w.heap.size w w' := by
  obtain ⟨i0, hi0, hz0, hz1, hz2⟩ := info_parts u8_info
  go_enter Try.func18, Try.ntmps18
  go_wp2_with fail
  refine (four_any s.size w (by omega)).mono ?_
  rintro e w1 ⟨v, rfl, hown, hb⟩
  go_wp2_with (at_builtin; refine Lib.wpList_append_own_string _ rfl (.tmp 11) (.tmp 12) _ _ rfl w.heap.size 5 i0 Try.underlying22 Try.underlying9 hi0 hz0 hz1 hz2 v 4 _ rfl hown s rfl ?_ ?_ hb.size ?_)
  · unfold maxLen; omega
  · omega
  intro v2 w2 hown2 hg2 _
  go_wp2_with fail
  go_ret2
  exact ⟨v2, rfl, hown2, hb.trans (below_of_grown hown hg2 hb.size)⟩
theorem text_no (s : ByteArray) (w : World) (hs : 65536 < s.size) (hs2 : s.size ≤ maxLen) :
    Calls Try.prog 18 #[.string s] w fun e w' => e = .returned (.tuple #[.slice none 0 0, .int .i64 2]) ∧ w = w' := by
  unfold maxLen at hs2
  go_enter Try.func18, Try.ntmps18
  go_wp2_with fail
  go_ret2
  exact ⟨rfl, rfl⟩

/-- An int as an unsigned word. -/
def word (n : Int) : Nat := (IntKind.u64.wrap n).toNat
theorem word_eq (n : Int) : IntKind.u64.wrap n = (word n : Int) := by
  unfold word
  have : IntKind.u64.wrap n = n % 18446744073709551616 := by simp [IntKind.wrap, IntKind.bits, IntKind.signed]
  rw [this]; omega
theorem word_lt (n : Int) : word n < 18446744073709551616 := by
  have : IntKind.u64.wrap n = n % 18446744073709551616 := by simp [IntKind.wrap, IntKind.bits, IntKind.signed]
  unfold word
  rw [this]; omega

theorem eight_any (n : Int) (w : World) :
    Calls Try.prog 20 #[.int .i64 n] w fun e w' => ∃ v, e = .returned v ∧
      w'.ownsRow w.heap.size 5 1 v 8 (bv (beN 8 (word n))) ∧ Below w.heap.size w w' := by
  obtain ⟨i0, hi0, hz0, hz1, hz2⟩ := info_parts u8_info
  have hw := word_eq n
  go_enter Try.func20, Try.ntmps20
  go_wp2_with fail
  go_loopw [4, 5] (fun v i wr => ∃ j : Nat, j ≤ 8 ∧ i = .int .i64 (7 - (j : Int)) ∧ wr.ownsRow w.heap.size 5 1 v j (bv (beP 8 (word n) j)) ∧ Below w.heap.size w wr) (fun _ i _ => (intOf i + 1).toNat)
  case atStart => exact ⟨0, by omega, by simp, World.ownsRow_nil _ _ _ _, Below.refl _ _⟩
  case round =>
    obtain ⟨j, hj, rfl, hown, hb⟩ := hrel
    by_cases hlt : j < 8
    · obtain ⟨m, hm⟩ : ∃ m : Nat, 7 - (j : Int) = m := ⟨7 - j, by omega⟩
      have hm' : 8 - 1 - j = m := by omega
      rw [hm]
      have hm8 : m < 8 := by omega
      have HM := Lib.hid hm; clear hm
      have HM' := Lib.hid hm'; clear hm'
      go_wp2_with (at_builtin; refine wpList_append_one wr rfl (.tmp 12) (.tmp 18) _ rfl w.heap.size 5 i0 (.int .u8 0) 1 Try.underlying22 hi0 hz0 hz1 hz2 rfl u4 j _ hown rfl _ rfl rfl ?_ ?_ hb.size ?_)
      · unfold maxLen; omega
      · omega
      intro v3 w3 hown3 hg3
      have hb3 := hb.trans (below_of_grown hown hg3 hb.size)
      clear hown hg3
      go_wp2_with fail
      go_roundw
      case rel =>
        refine ⟨j + 1, by omega, ret_i (by have := HM.out; omega), ?_, hb3⟩
        rw [beP_succ, HM'.out]
        have e2 : ((word n / 2 ^ (8 * m) % 256 : Nat) : Int) = (word n : Int) / 2 ^ (8 * m) % 256 := by simp
        rw [e2]
        exact hown3
      case measure => simp [intOf]
    · obtain rfl : j = 8 := by omega
      have e : (7 - (8 : Nat) : Int) = -1 := by omega
      rw [e]
      go_wp2_with fail
      go_ret
      exact ⟨_, rfl, hown, hb⟩

theorem putInt_any (A : Option Addr) (n c : Nat) (l : List UInt8) (u : Int) (w : World) (hr : Rd w w.heap.size A (bv l)) (hl : l.length = n) (hn : n ≤ 1099511627776) :
    Calls Try.prog 19 #[.slice A n c, .int .i64 u] w fun e w' => ∃ v, e = .returned v ∧
      w'.ownsRow w.heap.size 5 1 v (n + 8) (bv l ++ bv (beN 8 (word u))) ∧ Below w.heap.size w w' := by
  have hw := word_eq u
  go_enter Try.func19, Try.ntmps19
  go_wp2_with fail
  refine (put_any A n c l (word u) 8 w hr hl hn (word_lt u) (by omega)).mono ?_
  rintro e w1 ⟨v, rfl, hown, hb⟩
  go_wp2_with fail
  go_ret
  exact ⟨v, rfl, hown, hb⟩
end Go.Proofs.Ytlipnncbpbbdnaa
