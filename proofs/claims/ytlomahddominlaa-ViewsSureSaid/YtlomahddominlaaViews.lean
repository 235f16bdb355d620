/- views.Nodes, view, Primary, Next and the document's: contracts, and the plain law that they say the same. -/
import Derived.Test.YtlomahddominlaaBase
namespace Go.Proofs.Ytlomahddominlaa
open Go.RowKit

def nodesB (n : Int) : Bool := n == 3 || n == 5 || n == 7
def viewB (v : Int) : Bool := decide (0 ≤ v ∧ v ≤ 900000000)
theorem nodesB_yes {n : Int} (h : n = 3 ∨ n = 5 ∨ n = 7) : nodesB n = true := by rcases h with rfl | rfl | rfl <;> rfl
theorem nodesB_of {n : Int} (h : nodesB n = true) : n = 3 ∨ n = 5 ∨ n = 7 := by
  simp only [nodesB, Bool.or_eq_true, beq_iff_eq] at h
  omega
theorem nodesB_no {n : Int} (h : ¬ (n = 3 ∨ n = 5 ∨ n = 7)) : nodesB n = false := by
  cases hb : nodesB n with
  | false => rfl
  | true => exact absurd (nodesB_of hb) h

theorem nodes_any (n : Int) (w : World) : Calls Try.prog 12 #[.int .i64 n] w fun e w' => e = .returned (.bool (nodesB n)) ∧ w = w' := by
  by_cases h : n = 3 ∨ n = 5 ∨ n = 7
  · have hb := nodesB_yes h
    rcases h with rfl | rfl | rfl
    all_goals
      go_enter Try.func12, Try.ntmps12
      go_wp2_with fail
      go_ret
      exact ⟨rfl, rfl⟩
  · rw [nodesB_no h]
    by_cases h1 : n.tmod 2 = 1
    · by_cases h2 : 3 ≤ n
      · have h3 : ¬ n ≤ 7 := by
          rw [Int.tmod_eq_emod_of_nonneg (by omega)] at h1
          omega
        have b1 : (n % 2 == 1) = true := by rw [Int.tmod_eq_emod_of_nonneg (by omega)] at h1; simp [h1]
        have b3 : decide (n ≤ 7) = false := by simpa using h3
        clear h h1 h3
        go_enter Try.func12, Try.ntmps12
        go_wp2_with fail
        go_ret
        exact ⟨rfl, rfl⟩
      · have b1 : (n.tmod 2 == 1) = true := by simp [h1]
        have b2 : decide (3 ≤ n) = false := by simpa using h2
        clear h h1 h2
        go_enter Try.func12, Try.ntmps12
        go_wp2_with fail
        go_ret
        exact ⟨rfl, rfl⟩
    · have b1 : (n.tmod 2 == 1) = false := by simp [h1]
      clear h h1
      go_enter Try.func12, Try.ntmps12
      go_wp2_with fail
      go_ret
      exact ⟨rfl, rfl⟩

theorem refNodes_any (n : Int) (w : World) : Calls Try.prog 13 #[.int .i64 n] w fun e w' => e = .returned (.bool (nodesB n)) ∧ w = w' := by
  by_cases h : n = 3 ∨ n = 5 ∨ n = 7
  · have hb := nodesB_yes h
    rcases h with rfl | rfl | rfl
    all_goals
      go_enter Try.func13, Try.ntmps13
      go_wp2_with fail
      go_ret
      exact ⟨rfl, rfl⟩
  · rw [nodesB_no h]
    have b1 : (n == 3) = false := by simp; omega
    have b2 : (n == 5) = false := by simp; omega
    have b3 : (n == 7) = false := by simp; omega
    clear h
    go_enter Try.func13, Try.ntmps13
    go_wp2_with fail
    go_ret
    exact ⟨rfl, rfl⟩

theorem view_any (v : Int) (w : World) : Calls Try.prog 26 #[.int .i64 v] w fun e w' => e = .returned (.bool (viewB v)) ∧ w = w' := by
  by_cases h0 : 0 ≤ v
  · go_enter Try.func26, Try.ntmps26
    go_wp2_with fail
    go_ret
    exact ⟨ret_v (by simp [viewB, h0]), rfl⟩
  · have b : decide (0 ≤ v) = false := by simpa using h0
    have hv : viewB v = false := by simp [viewB]; omega
    rw [hv]
    clear h0 hv
    go_enter Try.func26, Try.ntmps26
    go_wp2_with fail
    go_ret
    exact ⟨rfl, rfl⟩
theorem refView_any (v : Int) (w : World) : Calls Try.prog 27 #[.int .i64 v] w fun e w' => e = .returned (.bool (viewB v)) ∧ w = w' := by
  by_cases h0 : 0 ≤ v
  · go_enter Try.func27, Try.ntmps27
    go_wp2_with fail
    go_ret
    exact ⟨ret_v (by simp [viewB, h0]), rfl⟩
  · have b : decide (0 ≤ v) = false := by simpa using h0
    have hv : viewB v = false := by simp [viewB]; omega
    rw [hv]
    clear h0 hv
    go_enter Try.func27, Try.ntmps27
    go_wp2_with fail
    go_ret
    exact ⟨rfl, rfl⟩

/-- Who is primary. -/
def prim (n v : Int) : Int := if nodesB n = true ∧ viewB v = true then v % n + 1 else 0
theorem primary_any (n v : Int) (w : World) : Calls Try.prog 14 #[.int .i64 n, .int .i64 v] w fun e w' => e = .returned (.int .i64 (prim n v)) ∧ w = w' := by
  by_cases hn : nodesB n = true
  · by_cases hv : viewB v = true
    · have hp : prim n v = v % n + 1 := by simp [prim, hn, hv]
      have hvv : 0 ≤ v ∧ v ≤ 900000000 := by simpa [viewB] using hv
      have hnn := nodesB_of hn
      have h3 : 1 ≤ n ∧ n ≤ 7 := by omega
      have hm0 := Int.emod_nonneg v (show n ≠ 0 by omega)
      have hm1 := Int.emod_lt_of_pos v (show 0 < n by omega)
      have HP := Lib.hid hp
      clear hp hnn
      go_enter Try.func14, Try.ntmps14
      go_wp2_with fail
      refine (nodes_any n w).mono ?_
      rintro e w' ⟨rfl, rfl⟩
      go_wp2_with fail
      refine (view_any v w).mono ?_
      rintro e w' ⟨rfl, rfl⟩
      go_wp2_with fail
      go_ret
      exact ⟨by rw [HP.out]; rfl, rfl⟩
    · have hvf : viewB v = false := by simpa using hv
      have hp : prim n v = 0 := by simp [prim, hvf]
      rw [hp]
      clear hp hv
      go_enter Try.func14, Try.ntmps14
      go_wp2_with fail
      refine (nodes_any n w).mono ?_
      rintro e w' ⟨rfl, rfl⟩
      go_wp2_with fail
      refine (view_any v w).mono ?_
      rintro e w' ⟨rfl, rfl⟩
      go_wp2_with fail
      go_ret
      exact ⟨rfl, rfl⟩
  · have hnf : nodesB n = false := by simpa using hn
    have hp : prim n v = 0 := by simp [prim, hnf]
    rw [hp]
    clear hp hn
    go_enter Try.func14, Try.ntmps14
    go_wp2_with fail
    refine (nodes_any n w).mono ?_
    rintro e w' ⟨rfl, rfl⟩
    go_wp2_with fail
    go_ret
    exact ⟨rfl, rfl⟩

theorem refPrimary_any (n v : Int) (w : World) : Calls Try.prog 15 #[.int .i64 n, .int .i64 v] w fun e w' => e = .returned (.int .i64 (prim n v)) ∧ w = w' := by
  by_cases hn : nodesB n = true
  · by_cases hv : viewB v = true
    · have hp : prim n v = v % n + 1 := by simp [prim, hn, hv]
      have hvv : 0 ≤ v ∧ v ≤ 900000000 := by simpa [viewB] using hv
      have hnn := nodesB_of hn
      have h3 : 1 ≤ n ∧ n ≤ 7 := by omega
      have hm0 := Int.emod_nonneg v (show n ≠ 0 by omega)
      have hm1 := Int.emod_lt_of_pos v (show 0 < n by omega)
      have HP := Lib.hid hp
      clear hp hnn
      go_enter Try.func15, Try.ntmps15
      go_wp2_with fail
      refine (refNodes_any n w).mono ?_
      rintro e w' ⟨rfl, rfl⟩
      go_wp2_with fail
      refine (refView_any v w).mono ?_
      rintro e w' ⟨rfl, rfl⟩
      go_wp2_with fail
      go_ret
      exact ⟨by rw [HP.out, Int.add_comm]; rfl, rfl⟩
    · have hvf : viewB v = false := by simpa using hv
      have hp : prim n v = 0 := by simp [prim, hvf]
      rw [hp]
      clear hp hv
      go_enter Try.func15, Try.ntmps15
      go_wp2_with fail
      refine (refNodes_any n w).mono ?_
      rintro e w' ⟨rfl, rfl⟩
      go_wp2_with fail
      refine (refView_any v w).mono ?_
      rintro e w' ⟨rfl, rfl⟩
      go_wp2_with fail
      go_ret
      exact ⟨rfl, rfl⟩
  · have hnf : nodesB n = false := by simpa using hn
    have hp : prim n v = 0 := by simp [prim, hnf]
    rw [hp]
    clear hp hn
    go_enter Try.func15, Try.ntmps15
    go_wp2_with fail
    refine (refNodes_any n w).mono ?_
    rintro e w' ⟨rfl, rfl⟩
    go_wp2_with fail
    go_ret
    exact ⟨rfl, rfl⟩

/-- The next view of a node. -/
def nextV (n v id : Int) : Int :=
  if nodesB n = true ∧ viewB v = true ∧ 1 ≤ id ∧ id ≤ n then
    (if viewB (if v - v % n + id - 1 ≤ v then v - v % n + id - 1 + n else v - v % n + id - 1) = true then (if v - v % n + id - 1 ≤ v then v - v % n + id - 1 + n else v - v % n + id - 1) else -1)
  else -1
theorem prim_pos {n v : Int} (h : 0 < prim n v) : nodesB n = true ∧ viewB v = true ∧ prim n v = v % n + 1 := by
  unfold prim at h ⊢
  split at h
  · rename_i hc; exact ⟨hc.1, hc.2, if_pos hc⟩
  · omega
theorem view_iff {v : Int} : viewB v = true ↔ (0 ≤ v ∧ v ≤ 900000000) := by simp [viewB]
theorem next_found {n v id i : Int} (hv : viewB v = true) (h1 : 1 ≤ i) (h2 : i ≤ n) (h3 : prim n (v + i) = id) (h4 : 0 < id) : nextV n v id = v + i := by
  obtain ⟨hn, hvi, hp⟩ := prim_pos (h3 ▸ h4)
  rw [h3] at hp
  have hn' := nodesB_of hn
  have hv' := view_iff.1 hv
  have hvi' := view_iff.1 hvi
  have e : (if v - v % n + id - 1 ≤ v then v - v % n + id - 1 + n else v - v % n + id - 1) = v + i := by
    rcases hn' with rfl | rfl | rfl <;> split <;> omega
  have hid : 1 ≤ id ∧ id ≤ n := by rcases hn' with rfl | rfl | rfl <;> omega
  unfold nextV
  rw [if_pos ⟨hn, hv, hid.1, hid.2⟩, e, if_pos hvi]
theorem next_none {n v id : Int} (hn : nodesB n = true) (hv : viewB v = true) (h : ∀ j : Int, 1 ≤ j → j ≤ n → ¬ (prim n (v + j) = id ∧ 0 < id)) : nextV n v id = -1 := by
  unfold nextV
  split
  · rename_i hc
    generalize hz : (if v - v % n + id - 1 ≤ v then v - v % n + id - 1 + n else v - v % n + id - 1) = z
    by_cases hm : viewB z = true
    · exfalso
      have hn' := nodesB_of hn
      have hv' := view_iff.1 hv
      have hz1 : v + 1 ≤ z ∧ z ≤ v + n ∧ z % n + 1 = id := by
        rcases hn' with rfl | rfl | rfl <;> (split at hz <;> omega)
      refine h (z - v) (by omega) (by omega) ⟨?_, by omega⟩
      have e : v + (z - v) = z := by omega
      rw [e]
      unfold prim
      rw [if_pos ⟨hn, hm⟩]
      exact hz1.2.2
    · rw [if_neg hm]
  · rfl
theorem next_bad {n v id : Int} (h : ¬ (nodesB n = true ∧ viewB v = true ∧ 1 ≤ id ∧ id ≤ n)) : nextV n v id = -1 := by
  unfold nextV; rw [if_neg h]

theorem next_any (n v id : Int) (w : World) : Calls Try.prog 16 #[.int .i64 n, .int .i64 v, .int .i64 id] w fun e w' => e = .returned (.int .i64 (nextV n v id)) ∧ w = w' := by
  by_cases hn : nodesB n = true
  · by_cases hv : viewB v = true
    · by_cases h1 : 1 ≤ id
      · by_cases h2 : id ≤ n
        · have hnn := nodesB_of hn
          have hvv := view_iff.1 hv
          have h3 : 1 ≤ n ∧ n ≤ 7 := by omega
          have hm0 := Int.emod_nonneg v (show n ≠ 0 by omega)
          have hm1 := Int.emod_lt_of_pos v (show 0 < n by omega)
          have b1 : decide (id < 1) = false := by simp; omega
          have b2 : decide (n < id) = false := by simp; omega
          have hd : nextV n v id = (if viewB (if v - v % n + id - 1 ≤ v then v - v % n + id - 1 + n else v - v % n + id - 1) = true then (if v - v % n + id - 1 ≤ v then v - v % n + id - 1 + n else v - v % n + id - 1) else -1) := by
            unfold nextV; rw [if_pos ⟨hn, hv, h1, h2⟩]
          by_cases hle : v - v % n + id - 1 ≤ v
          · rw [if_pos hle] at hd
            have HD := Lib.hid hd; clear hd hnn
            go_enter Try.func16, Try.ntmps16
            go_wp2_with fail
            refine (nodes_any n w).mono ?_
            rintro e w' ⟨rfl, rfl⟩
            go_wp2_with fail
            refine (view_any v w).mono ?_
            rintro e w' ⟨rfl, rfl⟩
            go_wp2_with fail
            refine (view_any _ w).mono ?_
            rintro e w' ⟨rfl, rfl⟩
            by_cases hm : viewB (v - v % n + id - 1 + n) = true
            · rw [if_pos hm] at HD
              go_wp2_with fail
              go_ret
              exact ⟨by rw [HD.out]; rfl, rfl⟩
            · rw [if_neg hm] at HD
              have hmf : viewB (v - v % n + id - 1 + n) = false := by simpa using hm
              clear hm
              go_wp2_with fail
              go_ret
              exact ⟨by rw [HD.out]; rfl, rfl⟩
          · rw [if_neg hle] at hd
            have HD := Lib.hid hd; clear hd hnn
            go_enter Try.func16, Try.ntmps16
            go_wp2_with fail
            refine (nodes_any n w).mono ?_
            rintro e w' ⟨rfl, rfl⟩
            go_wp2_with fail
            refine (view_any v w).mono ?_
            rintro e w' ⟨rfl, rfl⟩
            go_wp2_with fail
            refine (view_any _ w).mono ?_
            rintro e w' ⟨rfl, rfl⟩
            by_cases hm : viewB (v - v % n + id - 1) = true
            · rw [if_pos hm] at HD
              go_wp2_with fail
              go_ret
              exact ⟨by rw [HD.out]; rfl, rfl⟩
            · rw [if_neg hm] at HD
              have hmf : viewB (v - v % n + id - 1) = false := by simpa using hm
              clear hm
              go_wp2_with fail
              go_ret
              exact ⟨by rw [HD.out]; rfl, rfl⟩
        · rw [next_bad fun h => h2 h.2.2.2]
          have b1 : decide (id < 1) = false := by simp; omega
          clear h1
          go_enter Try.func16, Try.ntmps16
          go_wp2_with fail
          refine (nodes_any n w).mono ?_
          rintro e w' ⟨rfl, rfl⟩
          go_wp2_with fail
          refine (view_any v w).mono ?_
          rintro e w' ⟨rfl, rfl⟩
          go_wp2_with fail
          go_ret
          exact ⟨rfl, rfl⟩
      · rw [next_bad fun h => h1 h.2.2.1]
        go_enter Try.func16, Try.ntmps16
        go_wp2_with fail
        refine (nodes_any n w).mono ?_
        rintro e w' ⟨rfl, rfl⟩
        go_wp2_with fail
        refine (view_any v w).mono ?_
        rintro e w' ⟨rfl, rfl⟩
        go_wp2_with fail
        go_ret
        exact ⟨rfl, rfl⟩
    · rw [next_bad fun h => hv h.2.1]
      have hvf : viewB v = false := by simpa using hv
      clear hv
      go_enter Try.func16, Try.ntmps16
      go_wp2_with fail
      refine (nodes_any n w).mono ?_
      rintro e w' ⟨rfl, rfl⟩
      go_wp2_with fail
      refine (view_any v w).mono ?_
      rintro e w' ⟨rfl, rfl⟩
      go_wp2_with fail
      go_ret
      exact ⟨rfl, rfl⟩
  · rw [next_bad fun h => hn h.1]
    have hnf : nodesB n = false := by simpa using hn
    clear hn
    go_enter Try.func16, Try.ntmps16
    go_wp2_with fail
    refine (nodes_any n w).mono ?_
    rintro e w' ⟨rfl, rfl⟩
    go_wp2_with fail
    go_ret
    exact ⟨rfl, rfl⟩

theorem refNext_any (n v id : Int) (w : World) : Calls Try.prog 17 #[.int .i64 n, .int .i64 v, .int .i64 id] w fun e w' => e = .returned (.int .i64 (nextV n v id)) ∧ w = w' := by
  by_cases hn : nodesB n = true
  · by_cases hv : viewB v = true
    · have hnn := nodesB_of hn
      have hvv := view_iff.1 hv
      have h3 : 1 ≤ n ∧ n ≤ 7 := by omega
      clear hnn
      go_enter Try.func17, Try.ntmps17
      go_wp2_with fail
      refine (refNodes_any n w).mono ?_
      rintro e w' ⟨rfl, rfl⟩
      go_wp2_with fail
      refine (refView_any v w).mono ?_
      rintro e w' ⟨rfl, rfl⟩
      go_wp2_with fail
      go_loop [7] (fun i => ∃ k : Int, 1 ≤ k ∧ k ≤ n + 1 ∧ i = .int .i64 k ∧ Hid (∀ j : Int, 1 ≤ j → j < k → ¬ (prim n (v + j) = id ∧ 0 < id))) (fun i => (n + 1 - intOf i).toNat)
      case atStart => exact ⟨1, by omega, by omega, rfl, Lib.hid fun j a b => by omega⟩
      case round =>
        obtain ⟨k, hk1, hk2, rfl, HN⟩ := hrel
        by_cases hle : k ≤ n
        · go_wp2_with fail
          refine (refPrimary_any n (v + k) w).mono ?_
          rintro e w' ⟨rfl, rfl⟩
          by_cases hp : prim n (v + k) = id
          · by_cases hi : 0 < id
            · have HF := Lib.hid (next_found hv hk1 hle hp hi)
              have b : (prim n (v + k) == id) = true := by simp [hp]
              clear hp
              go_wp2_with fail
              go_ret
              exact ⟨by rw [HF.out]; rfl, rfl⟩
            · have b : (prim n (v + k) == id) = true := by simp [hp]
              have b2 : decide (0 < id) = false := by simpa using hi
              clear hp
              go_wp2_with fail
              go_round
              case rel => exact ⟨k + 1, by omega, by omega, rfl, Lib.hid fun j h1 h2 => fun hh => by have := hh.2; omega⟩
              case measure => simp [intOf]; omega
          · have b : (prim n (v + k) == id) = false := by simp [hp]
            have HP := Lib.hid hp
            clear hp
            go_wp2_with fail
            go_round
            case rel => exact ⟨k + 1, by omega, by omega, rfl, Lib.hid fun j h1 h2 => by
              by_cases hjk : j = k
              · subst hjk; exact fun hh => HP.out hh.1
              · exact HN.out j h1 (by omega)⟩
            case measure => simp [intOf]; omega
        · have HZ := Lib.hid (next_none hn hv fun j h1 h2 => HN.out j h1 (by omega))
          go_wp2_with fail
          go_ret
          exact ⟨by rw [HZ.out]; rfl, rfl⟩
    · rw [next_bad fun h => hv h.2.1]
      have hvf : viewB v = false := by simpa using hv
      clear hv
      go_enter Try.func17, Try.ntmps17
      go_wp2_with fail
      refine (refNodes_any n w).mono ?_
      rintro e w' ⟨rfl, rfl⟩
      go_wp2_with fail
      refine (refView_any v w).mono ?_
      rintro e w' ⟨rfl, rfl⟩
      go_wp2_with fail
      go_ret
      exact ⟨rfl, rfl⟩
  · rw [next_bad fun h => hn h.1]
    have hnf : nodesB n = false := by simpa using hn
    clear hn
    go_enter Try.func17, Try.ntmps17
    go_wp2_with fail
    refine (refNodes_any n w).mono ?_
    rintro e w' ⟨rfl, rfl⟩
    go_wp2_with fail
    go_ret
    exact ⟨rfl, rfl⟩
end Go.Proofs.Ytlomahddominlaa
