/- The document's words and numbers of a line. -/
import Derived.Test.YtehhgpnaemffnaaDoorTextR22
namespace Go.Proofs.YtehhgpnaemffnaaDoor
open Go.RowKit

theorem str_info : (Tryd.prog.info? 9).map (fun i => (i.zero, i.size, i.bytes)) = some (some (.string ByteArray.empty), 1, 16) := splitL.i9
/-- A word that is a number, as the document reads it. -/
def numD (l : List UInt8) : Nat → Nat × Bool
  | 0 => (0, false)
  | k + 1 =>
    match l[k]? with
    | none => numD l k
    | some c => ((if 48 ≤ c.toNat ∧ c.toNat ≤ 57 then 10 * (numD l k).1 + (c.toNat - 48) else (numD l k).1), (numD l k).2 || c == 45)
def numR (l : List UInt8) : Int := if (numD l 9).2 = true then -((numD l 9).1 : Int) else ((numD l 9).1 : Int)
theorem numD_le (l : List UInt8) (k : Nat) : (numD l k).1 < 10 ^ k := by
  induction k with
  | zero => simp [numD]
  | succ k ih =>
    simp only [numD]
    have h10 : 10 ^ (k + 1) = 10 * 10 ^ k := by rw [Nat.pow_succ, Nat.mul_comm]
    split
    · omega
    · rename_i c _
      split <;> omega
theorem numD_end (l : List UInt8) (k : Nat) (h : l.length ≤ k) : ∀ m, numD l (k + m) = numD l k
  | 0 => rfl
  | m + 1 => by
    show numD l ((k + m) + 1) = _
    simp only [numD]
    rw [List.getElem?_eq_none (by omega)]
    exact numD_end l k h m
section
variable {w : World}
theorem numberR_any (s : ByteArray) : Calls Tryd.prog 21 #[.string s] w fun e w' => e = .returned (.int .i64 (numR s.data.toList)) ∧ w = w' := by
  obtain ⟨l, hl⟩ : ∃ l, s.data.toList = l := ⟨_, rfl⟩
  have HL := Lib.hid hl
  have hsz : s.size = l.length := by rw [← hl]; rfl
  have HZ := Lib.hid hsz
  rw [hl]
  clear hl hsz
  go_enter Tryd.func21, Tryd.ntmps21
  go_wp2_with fail
  go_loopw [3, 4, 5] (fun n b i wr => ∃ k : Nat, k ≤ 9 ∧ k ≤ s.size ∧ i = .int .i64 k ∧ n = .int .i64 ((numD l k).1 : Int) ∧ b = .bool (numD l k).2 ∧ w = wr) (fun _ _ i _ => 9 - (intOf i).toNat)
  case atStart => exact ⟨0, by omega, by omega, rfl, rfl, rfl, rfl⟩
  case round =>
    obtain ⟨k, hk, hks, rfl, rfl, rfl, rfl⟩ := hrel
    by_cases hlt : k < s.size
    · have g3 : (k : Int) < (s.size : Int) := by omega
      by_cases h9 : k < 9
      · have g4 : (k : Int) < 9 := by omega
        obtain ⟨c, hidx⟩ : ∃ c, s[k]'hlt = c := ⟨_, rfl⟩
        have hlk : l[k]? = some c := by
          rw [← HL.out, ← hidx]
          exact Lib.data_getElem? s k hlt
        have hm : (numD l k).1 < 1000000000 := Nat.lt_of_lt_of_le (numD_le l k) (Nat.pow_le_pow_right (by omega) (show k ≤ 9 from hk))
        have hstep : numD l (k + 1) = ((if 48 ≤ c.toNat ∧ c.toNat ≤ 57 then 10 * (numD l k).1 + (c.toNat - 48) else (numD l k).1), (numD l k).2 || c == 45) := by
          simp only [numD]
          rw [hlk]
        obtain ⟨m, hm0⟩ : ∃ m, (numD l k).1 = m := ⟨_, rfl⟩
        obtain ⟨b, hb0⟩ : ∃ b, (numD l k).2 = b := ⟨_, rfl⟩
        rw [hm0] at hm hstep ⊢
        rw [hb0] at hstep ⊢
        have HS := Lib.hid hstep
        clear hlk hstep hm0 hb0
        have hc256 : c.toNat < 256 := c.toNat_lt
        by_cases h45 : c = 45
        · have u1 : ((c.toNat : Int) == 45) = true := by rw [h45]; rfl
          have u2 : ¬ (48 : Int) ≤ (c.toNat : Int) := by rw [h45]; decide
          have HE := Lib.hid h45
          clear h45
          go_wp2_with fail
          go_roundw
          case rel => exact ⟨k + 1, by omega, by omega, by go_num, by rw [HS.out, HE.out]; rfl, by rw [HS.out, HE.out]; simp, trivial⟩
          case measure => simp [intOf]; omega
        · have u1 : ((c.toNat : Int) == 45) = false := by
            simp only [beq_eq_false_iff_ne, ne_eq]
            intro e
            exact h45 (UInt8.toNat_inj.1 (by have : (45 : UInt8).toNat = 45 := rfl; omega))
          have u0 : (c == 45) = false := by simpa using h45
          have HE := Lib.hid u0
          clear h45 u0
          by_cases h48 : 48 ≤ c.toNat ∧ c.toNat ≤ 57
          · have u2 : (48 : Int) ≤ (c.toNat : Int) := by omega
            have u3 : (c.toNat : Int) ≤ 57 := by omega
            have HD := Lib.hid h48
            clear h48
            go_wp2_with fail
            go_roundw
            case rel =>
              refine ⟨k + 1, by omega, by omega, by go_num, ?_, by rw [HS.out, HE.out]; simp, trivial⟩
              rw [HS.out]
              simp only [if_pos HD.out]
              go_num
            case measure => simp [intOf]; omega
          · have HD := Lib.hid h48
            by_cases h4 : 48 ≤ c.toNat
            · have u2 : (48 : Int) ≤ (c.toNat : Int) := by omega
              have u3 : ¬ (c.toNat : Int) ≤ 57 := by omega
              clear h48
              go_wp2_with fail
              go_roundw
              case rel =>
                refine ⟨k + 1, by omega, by omega, by go_num, ?_, by rw [HS.out, HE.out]; simp, trivial⟩
                rw [HS.out]
                simp only [if_neg HD.out]
              case measure => simp [intOf]; omega
            · have u2 : ¬ (48 : Int) ≤ (c.toNat : Int) := by omega
              clear h48
              go_wp2_with fail
              go_roundw
              case rel =>
                refine ⟨k + 1, by omega, by omega, by go_num, ?_, by rw [HS.out, HE.out]; simp, trivial⟩
                rw [HS.out]
                simp only [if_neg HD.out]
              case measure => simp [intOf]; omega
      · obtain rfl : k = 9 := by omega
        have hn : numR l = if (numD l 9).2 = true then -((numD l 9).1 : Int) else ((numD l 9).1 : Int) := rfl
        have hm : (numD l 9).1 < 1000000000 := numD_le l 9
        obtain ⟨m, hm0⟩ : ∃ m, (numD l 9).1 = m := ⟨_, rfl⟩
        obtain ⟨b, hb0⟩ : ∃ b, (numD l 9).2 = b := ⟨_, rfl⟩
        rw [hm0, hb0] at hn ⊢
        rw [hm0] at hm
        have HN := Lib.hid hn
        clear hn hm0 hb0
        cases b <;>
        · go_wp2_with fail
          go_ret
          exact ⟨by rw [HN.out]; simp, rfl⟩
    · have hke : k = l.length := by have := HZ.out; omega
      have hn : numR l = if (numD l k).2 = true then -((numD l k).1 : Int) else ((numD l k).1 : Int) := by
        unfold numR
        rw [show 9 = k + (9 - k) by omega, numD_end l k (by omega)]
      have hm : (numD l k).1 < 1000000000 := Nat.lt_of_lt_of_le (numD_le l k) (Nat.pow_le_pow_right (by omega) (show k ≤ 9 from hk))
      have g3 : ¬ (k : Int) < (s.size : Int) := by omega
      obtain ⟨m, hm0⟩ : ∃ m, (numD l k).1 = m := ⟨_, rfl⟩
      obtain ⟨b, hb0⟩ : ∃ b, (numD l k).2 = b := ⟨_, rfl⟩
      rw [hm0, hb0] at hn ⊢
      rw [hm0] at hm
      have HN := Lib.hid hn
      clear hn hm0 hb0 hke
      cases b <;>
      · go_wp2_with fail
        go_ret
        exact ⟨by rw [HN.out]; simp, rfl⟩
end
end Go.Proofs.YtehhgpnaemffnaaDoor
