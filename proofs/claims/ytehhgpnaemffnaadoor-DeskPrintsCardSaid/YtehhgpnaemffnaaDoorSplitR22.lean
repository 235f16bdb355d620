/- The document's words of a line. -/
import Derived.Test.YtehhgpnaemffnaaDoorWordsR22
namespace Go.Proofs.YtehhgpnaemffnaaDoor
open Go.RowKit

theorem piece (s : ByteArray) (f i : Nat) : (s.extract f i).data.toList = (s.data.toList.take i).drop f := by
  simp [ByteArray.data_extract, Array.toList_extract, List.extract_eq_take_drop, List.drop_take]
theorem words_more (l : List UInt8) (f i : Nat) (c : UInt8) (hc : l[i]? = some c) (hf : f ≤ i) : (l.take (i + 1)).drop f = (l.take i).drop f ++ [c] ∧ l.drop i = c :: l.drop (i + 1) := by
  obtain ⟨hi, rfl⟩ := List.getElem?_eq_some_iff.1 hc
  constructor
  · rw [List.take_succ_eq_append_getElem hi, List.drop_append_of_le_length (by rw [List.length_take]; omega)]
  · exact List.drop_eq_getElem_cons hi
section
variable {w : World}
set_option maxHeartbeats 1600000 in
theorem words_any (s : ByteArray) (h200 : s.size ≤ 200) :
    Calls Tryd.prog 14 #[.string s] w fun e w' => ∃ A n c, e = .returned (.slice A n c) ∧ Rd w' w'.heap.size A (sv (wsB s)) ∧ (wsB s).length = n ∧ n ≤ c ∧ Below w.heap.size w w' := by
  obtain ⟨i0, hi0, hz0, hz1, hz2⟩ := info_parts str_info
  obtain ⟨l, hl⟩ : ∃ l, s.data.toList = l := ⟨_, rfl⟩
  have hsz : s.size = l.length := by rw [← hl]; rfl
  obtain ⟨N, hN⟩ : ∃ N, s.size = N := ⟨_, rfl⟩
  have hws : ∀ d : List ByteArray, d.map (·.data.toList) = wordsL l → d = wsB s := fun d h => wsB_of (by rw [hl]; exact h)
  have H := Lib.hid (And.intro hl (And.intro (show N = l.length by rw [← hN]; exact hsz) (And.intro hws hN)))
  rw [hN] at h200
  clear hl hsz hws
  go_enter Tryd.func14, Tryd.ntmps14
  go_wp2_with fail
  go_loopw [3, 4, 5] (fun v f i wr => ∃ (k j : Nat) (d : List ByteArray), k ≤ N + 1 ∧ j ≤ k ∧ d.length ≤ k ∧ i = .int .i64 k ∧ f = .int .i64 j ∧ wr.ownsRow w.heap.size 9 1 v d.length (sv d) ∧ Below w.heap.size w wr ∧
    ((k ≤ N ∧ d.map (·.data.toList) ++ wordsFrom ((l.take k).drop j) (l.drop k) = wordsL l) ∨ (k = N + 1 ∧ d.map (·.data.toList) = wordsL l))) (fun _ _ i _ => N + 1 - (intOf i).toNat)
  case atStart => exact ⟨0, 0, [], by omega, by omega, by simp, rfl, rfl, World.ownsRow_nil _ _ _ _, Below.refl _ _, .inl ⟨by omega, by simp [wordsL]⟩⟩
  case round =>
    obtain ⟨k, j, d, hk, hj, hd, rfl, rfl, hown, hb, hinv⟩ := hrel
    obtain ⟨A1, c1, rfl, hc1, hm1⟩ := own_is_slice hown
    by_cases hlt : k ≤ N
    · have g3 : (k : Int) ≤ (N : Int) := by omega
      have hi : d.map (·.data.toList) ++ wordsFrom ((l.take k).drop j) (l.drop k) = wordsL l := by
        rcases hinv with h | h
        · exact h.2
        · omega
      have HI := Lib.hid hi
      clear hinv hi
      by_cases hlast : k = N
      · have g4 : ((k : Int) == (N : Int)) = true := by rw [hlast]; simp
        have hls : (l.drop k) = [] := List.drop_eq_nil_of_le (by have := H.out.2.1; omega)
        have HL := Lib.hid (And.intro hls hlast)
        clear hls hlast
        go_wp2_with (at_builtin; refine wpList_append_one wr rfl (.tmp 22) (.tmp 27) _ rfl w.heap.size 9 i0 (.string ByteArray.empty) 16 Tryd.underlying37 hi0 hz0 hz1 hz2 rfl _ d.length _ hown rfl (.string (s.extract j k)) rfl rfl ?_ ?_ hb.size ?_)
        · unfold maxLen; omega
        · omega
        intro v2 w2 hown2 hg2
        have hb2 := hb.trans (below_of_grown hown hg2 hb.size)
        obtain ⟨A2, c2, rfl, hc2, hm2⟩ := own_is_slice hown2
        have H2 := Lib.hid (And.intro hown2 hb2); clear hown2 hb2 hg2 hown hb
        go_wp2_with fail
        go_roundw
        case rel =>
          refine ⟨k + 1, k + 1, d ++ [s.extract j k], by omega, by omega, by simp; omega, by go_num, by go_num, ?_, H2.out.2, .inr ⟨by have := HL.out.2; omega, ?_⟩⟩
          · have := H2.out.1
            simpa [sv] using this
          · have := HI.out
            rw [HL.out.1] at this
            simp only [wordsFrom] at this
            rw [List.map_append, List.map_cons, List.map_nil, piece, H.out.1]
            exact this
        case measure => simp [intOf]; omega
      · have g4 : ((k : Int) == (N : Int)) = false := by simp; omega
        have hks : k < s.size := by rw [hN]; omega
        obtain ⟨c, hidx⟩ : ∃ c, s[k]'hks = c := ⟨_, rfl⟩
        have hlk : l[k]? = some c := by
          rw [← H.out.1, ← hidx]
          exact Lib.data_getElem? s k hks
        obtain ⟨hm1', hm2'⟩ := words_more l j k c hlk hj
        have g5 : (k : Int) < (s.size : Int) := by omega
        have HM := Lib.hid (And.intro hm1' hm2')
        clear hm1' hm2' hlk
        by_cases h32 : c = 32
        · have u1 : ((c.toNat : Int) == 32) = true := by rw [h32]; rfl
          have HC := Lib.hid h32
          clear h32
          go_wp2_with (at_builtin; refine wpList_append_one wr rfl (.tmp 22) (.tmp 27) _ rfl w.heap.size 9 i0 (.string ByteArray.empty) 16 Tryd.underlying37 hi0 hz0 hz1 hz2 rfl _ d.length _ hown rfl (.string (s.extract j k)) rfl rfl ?_ ?_ hb.size ?_)
          · unfold maxLen; omega
          · omega
          intro v2 w2 hown2 hg2
          have hb2 := hb.trans (below_of_grown hown hg2 hb.size)
          obtain ⟨A2, c2, rfl, hc2, hm2⟩ := own_is_slice hown2
          have H2 := Lib.hid (And.intro hown2 hb2); clear hown2 hb2 hg2 hown hb
          go_wp2_with fail
          go_roundw
          case rel =>
            refine ⟨k + 1, k + 1, d ++ [s.extract j k], by omega, by omega, by simp; omega, by go_num, by go_num, ?_, H2.out.2, .inl ⟨by omega, ?_⟩⟩
            · have := H2.out.1
              simpa [sv] using this
            · have := HI.out
              rw [HM.out.2, HC.out] at this
              simp only [wordsFrom, if_true] at this
              have e0 : (l.take (k + 1)).drop (k + 1) = [] := List.drop_eq_nil_of_le (by rw [List.length_take]; omega)
              rw [List.map_append, List.map_cons, List.map_nil, piece, H.out.1, List.append_assoc, e0]
              exact this
          case measure => simp [intOf]; omega
        · have u1 : ((c.toNat : Int) == 32) = false := by
            simp only [beq_eq_false_iff_ne, ne_eq]
            intro e
            exact h32 (UInt8.toNat_inj.1 (by have : (32 : UInt8).toNat = 32 := rfl; omega))
          have HC := Lib.hid h32
          clear h32
          have H2 := Lib.hid (And.intro hown hb); clear hown hb
          go_wp2_with fail
          go_roundw
          case rel =>
            refine ⟨k + 1, j, d, by omega, by omega, by omega, by go_num, rfl, H2.out.1, H2.out.2, .inl ⟨by omega, ?_⟩⟩
            have := HI.out
            rw [HM.out.2] at this
            simp only [wordsFrom] at this
            rw [if_neg HC.out] at this
            rw [HM.out.1]
            exact this
          case measure => simp [intOf]; omega
    · have g3 : ¬ (k : Int) ≤ (N : Int) := by omega
      have hi : d.map (·.data.toList) = wordsL l := by
        rcases hinv with h | h
        · omega
        · exact h.2
      have hdw := H.out.2.2.1 d hi
      have HD := Lib.hid (And.intro hown (And.intro hb hdw))
      clear hinv hi hown hb hdw
      go_wp2_with fail
      go_ret
      exact ⟨A1, d.length, c1, rfl, by rw [← HD.out.2.2]; exact Rd.of_own HD.out.1, by rw [← HD.out.2.2], hc1, HD.out.2.1⟩
end
end Go.Proofs.YtehhgpnaemffnaaDoor
