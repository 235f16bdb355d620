/- The document's answer for chunks: May, Many, Length, Cut, Sums; tumuluskeep.Ints. -/
import Derived.Test.YtdfjaephlabnhaaOf
namespace Go.Proofs.Ytdfjaephlabnhaa
open Go.RowKit

theorem may_int (z : Int) (w : World) :
    Calls Try.prog 24 #[.int .i64 z] w fun e w' => e = .returned (.bool (decide (0 ≤ z ∧ z ≤ 65536))) ∧ w = w' := by
  obtain ⟨r, hres⟩ : ∃ r, decide (0 ≤ z ∧ z ≤ 65536) = r := ⟨_, rfl⟩
  rw [hres]
  by_cases h0 : 0 ≤ z
  · by_cases h : z ≤ 65536
    · obtain rfl : r = true := by rw [← hres]; simp; omega
      clear hres
      go_enter Try.func24, Try.ntmps24
      go_wp2_with fail
      go_ret
      exact ⟨rfl, rfl⟩
    · obtain rfl : r = false := by rw [← hres]; simp; omega
      clear hres
      go_enter Try.func24, Try.ntmps24
      go_wp2_with fail
      go_ret
      exact ⟨rfl, rfl⟩
  · obtain rfl : r = false := by rw [← hres]; simp; omega
    clear hres
    go_enter Try.func24, Try.ntmps24
    go_wp2_with fail
    go_ret
    exact ⟨rfl, rfl⟩
theorem may_any (n : Nat) (w : World) (_hn : n ≤ 1000000) :
    Calls Try.prog 24 #[.int .i64 n] w fun e w' => e = .returned (.bool (decide (n ≤ 65536))) ∧ w = w' := by
  refine (may_int n w).mono ?_
  rintro e w' ⟨rfl, rfl⟩
  exact ⟨by congr 3; simp; omega, rfl⟩

theorem many_any (n : Nat) (w : World) (hn : n ≤ 1000000) :
    Calls Try.prog 25 #[.int .i64 n] w fun e w' => e = .returned (.int .i64 (nPieces n : Nat)) ∧ w = w' := by
  go_enter Try.func25, Try.ntmps25
  go_wp2_with fail
  go_ret
  refine ⟨ret_v (ret_i ?_), rfl⟩
  unfold nPieces
  omega

/-- The length of a piece, or that there is none. -/
def lenAt (n : Nat) (i : Int) : Int := if 0 ≤ i ∧ i < nPieces n then min 80 ((n : Int) - i * 80) else -1

theorem length_any (n : Nat) (i : Int) (w : World) (hn : n ≤ 1000000) :
    Calls Try.prog 27 #[.int .i64 n, .int .i64 i] w fun e w' => e = .returned (.int .i64 (lenAt n i)) ∧ w = w' := by
  by_cases h0 : i < 0
  · go_enter Try.func27, Try.ntmps27
    go_wp2_with fail
    go_ret
    exact ⟨ret_v (ret_i (by unfold lenAt; rw [if_neg (by omega)])), rfl⟩
  · have hm : nPieces n ≤ 20000 := by unfold nPieces; omega
    by_cases h1 : i < nPieces n
    · have HL := Lib.hid (show min 80 ((n : Int) - i * 80) = lenAt n i by unfold lenAt; rw [if_pos (by omega)])
      have hm' : nPieces n = (n + 79) / 80 := rfl
      have h2 : ¬ ((nPieces n : Nat) : Int) ≤ i := by omega
      go_enter Try.func27, Try.ntmps27
      go_wp2_with fail
      refine (many_any n w hn).mono ?_
      rintro e w' ⟨rfl, rfl⟩
      go_wp2_with fail
      go_ret
      exact ⟨ret_v (ret_i (by rw [← HL.out])), rfl⟩
    · have HL := Lib.hid (show -1 = lenAt n i by unfold lenAt; rw [if_neg (by omega)])
      have h2 : ((nPieces n : Nat) : Int) ≤ i := by omega
      go_enter Try.func27, Try.ntmps27
      go_wp2_with fail
      refine (many_any n w hn).mono ?_
      rintro e w' ⟨rfl, rfl⟩
      go_wp2_with fail
      go_ret
      exact ⟨ret_v (ret_i (by rw [← HL.out])), rfl⟩

theorem refCut_any (s : ByteArray) (i : Int) (w : World) (hs : s.size ≤ 1000000) :
    Calls Try.prog 12 #[.string s, .int .i64 i] w fun e w' => e = .returned (.tuple #[.string (cutS s i), .int .i64 (cutE s i)]) ∧ w = w' := by
  by_cases h : s.size ≤ 65536
  · by_cases h2 : 0 ≤ i ∧ i < nPieces s.size
    · obtain ⟨k, rfl⟩ := Int.eq_ofNat_of_zero_le h2.1
      have hk : k < (s.size + 79) / 80 := by have := h2.2; unfold nPieces at this; omega
      have ok : cutOk s k = true := by simp [cutOk]; omega
      have e1 : cutS s k = piece s k := by simp [cutS, ok]
      have e2 : cutE s k = 0 := by simp [cutE, ok]
      have hl : lenAt s.size k = ((min 80 (s.size - 80 * k) : Nat) : Int) := by unfold lenAt; rw [if_pos h2]; omega
      have hm : min 80 (s.size - 80 * k) ≤ 80 := by omega
      have hm2 : k * 80 + min 80 (s.size - 80 * k) ≤ s.size := by omega
      have hp : s.extract (k * 80) (k * 80 + min 80 (s.size - 80 * k)) = piece s k := by
        have h3 := left_piece s k (min 80 (s.size - 80 * k)) (by omega)
        rw [ByteArray.extract_extract] at h3
        rw [← h3]
        congr 1 <;> omega
      rw [e1, e2]
      clear e1 e2 ok h2
      have hmay : decide (s.size ≤ 65536) = true := by simp; omega
      generalize min 80 (s.size - 80 * k) = m at *
      have HP := Lib.hid hp; clear hp
      have HL := Lib.hid hl; clear hl
      go_enter Try.func12, Try.ntmps12
      go_wp2_with fail
      refine (may_any s.size w hs).mono ?_
      rintro e w' ⟨rfl, rfl⟩
      rw [hmay]
      go_wp2_with fail
      refine (length_any s.size k w hs).mono ?_
      rintro e w' ⟨rfl, rfl⟩
      rw [HL.out]
      go_wp2_with fail
      refine (length_any s.size k w hs).mono ?_
      rintro e w' ⟨rfl, rfl⟩
      rw [HL.out]
      go_wp2_with fail
      go_ret2
      exact ⟨by rw [← HP.out]; rfl, rfl⟩
    · have no : cutOk s i = false := by simp [cutOk]; omega
      have e1 : cutS s i = ⟨#[]⟩ := by simp [cutS, no]
      have e2 : cutE s i = 100 := by simp [cutE, no]
      have hl : lenAt s.size i = -1 := by unfold lenAt; rw [if_neg h2]
      rw [e1, e2]
      clear e1 e2 no h2
      have hmay : decide (s.size ≤ 65536) = true := by simp; omega
      have HL := Lib.hid hl; clear hl
      go_enter Try.func12, Try.ntmps12
      go_wp2_with fail
      refine (may_any s.size w hs).mono ?_
      rintro e w' ⟨rfl, rfl⟩
      rw [hmay]
      go_wp2_with fail
      refine (length_any s.size i w hs).mono ?_
      rintro e w' ⟨rfl, rfl⟩
      rw [HL.out]
      go_wp2_with fail
      go_ret2
      exact ⟨rfl, rfl⟩
  · have no : cutOk s i = false := by simp [cutOk]; omega
    have e1 : cutS s i = ⟨#[]⟩ := by simp [cutS, no]
    have e2 : cutE s i = 100 := by simp [cutE, no]
    rw [e1, e2]
    clear e1 e2 no
    have hmay : decide (s.size ≤ 65536) = false := by simp; omega
    go_enter Try.func12, Try.ntmps12
    go_wp2_with fail
    refine (may_any s.size w hs).mono ?_
    rintro e w' ⟨rfl, rfl⟩
    rw [hmay]
    go_wp2_with fail
    go_ret2
    exact ⟨rfl, rfl⟩

/-- tumuluskeep.Ints: are two rows of numbers the same? -/
theorem ints_any (A B : Option Addr) (n m c d C D : Nat) (l k : List Int) (w : World) (hr : Rd w C A (iv l)) (hl : l.length = n) (hq : Rd w D B (iv k)) (hk : k.length = m) (hn : n ≤ 1000000) (hm : m ≤ 1000000) :
    Calls Try.prog 13 #[.slice A n c, .slice B m d] w fun e w' => e = .returned (.bool (decide (l = k))) ∧ ∃ q, w' = w.drewN q := by
  by_cases hnm : n = m
  · subst hnm
    have hd : ((n : Int) != (n : Int)) = false := by simp
    have HR := Lib.hid (And.intro hr hq); clear hr hq
    obtain ⟨r, hres⟩ : ∃ r, decide (l = k) = r := ⟨_, rfl⟩
    rw [hres]
    have HE := Lib.hid hres; clear hres
    go_enter Try.func13, Try.ntmps13
    go_wp2_with fail
    go_loopw [5] (fun i wr => ∃ (j : Nat) (q : Nat), j ≤ n ∧ i = .int .i64 (j : Int) ∧ l.take j = k.take j ∧ wr = w.drewN q) (fun i _ => n - (intOf i).toNat)
    case atStart => exact ⟨0, 0, by omega, rfl, by simp, rfl⟩
    case round =>
      obtain ⟨j, q, hj, rfl, htk, hq⟩ := hrel
      have HQ := Lib.hid hq; clear hq
      have HT := Lib.hid htk; clear htk
      by_cases hlt : j < n
      · have h1 : (j : Int) < (n : Int) := by omega
        obtain ⟨b1, o1, hA, _, hc1⟩ := HR.out.1.at_ (k := j) (by rw [iv_length]; omega)
        obtain ⟨b2, o2, hB, _, hc2⟩ := HR.out.2.at_ (k := j) (by rw [iv_length]; omega)
        have q1 := hc1 j _ (iv_at l j (by omega))
        have q2 := hc2 j _ (iv_at k j (by omega))
        have q1' : wr.cell? ⟨b1, o1 + j, none⟩ = some (.int .i64 (l[j]'(by omega))) := by rw [HQ.out]; exact q1
        have q2' : wr.cell? ⟨b2, o2 + j, none⟩ = some (.int .i64 (k[j]'(by omega))) := by rw [HQ.out]; exact q2
        subst hA hB
        clear q1 q2 hc1 hc2
        by_cases hne : l[j]'(by omega) = k[j]'(by omega)
        · have hne' : ((l[j]'(by omega)) != (k[j]'(by omega))) = false := by simp [hne]
          have HN := Lib.hid hne; clear hne
          go_wp2_with fail
          go_region
          go_wp2_with fail
          go_roundw
          case rel =>
            refine ⟨j + 1, q + 1, by omega, by go_num, ?_, ?_⟩
            · rw [List.take_succ_eq_append_getElem (by omega), List.take_succ_eq_append_getElem (by omega), HT.out, HN.out]
            · rw [HQ.out]; rfl
          case measure => simp [intOf]; omega
        · have hne' : ((l[j]'(by omega)) != (k[j]'(by omega))) = true := by simp [hne]
          have HN := Lib.hid hne; clear hne
          go_wp2_with fail
          go_region
          go_wp2_with fail
          go_ret
          refine ⟨?_, q + 1, by rw [HQ.out]; rfl⟩
          rw [← HE.out]
          have : l ≠ k := fun e => HN.out (by subst e; rfl)
          simp [this]
      · obtain rfl : j = n := by omega
        go_wp2_with fail
        go_ret
        refine ⟨?_, q, HQ.out⟩
        rw [← HE.out]
        have := HT.out
        rw [List.take_of_length_le (by omega), List.take_of_length_le (by omega)] at this
        simp [this]
  · have hd : ((n : Int) != (m : Int)) = true := by simp; omega
    have hf : decide (l = k) = false := by simp; rintro rfl; omega
    rw [hf]
    clear hr hq hf
    go_enter Try.func13, Try.ntmps13
    go_wp2_with fail
    go_ret
    exact ⟨rfl, 0, rfl⟩
end Go.Proofs.Ytdfjaephlabnhaa
