/- The document's numbers as text; a word and numbers. -/
import Derived.Test.YtehhgpnaemffnaaDoorParse22
import Derived.Lib.ItoaLen
namespace Go.Proofs.YtehhgpnaemffnaaDoor
open Go.RowKit

def digs : ByteArray := ⟨#[48, 49, 50, 51, 52, 53, 54, 55, 56, 57]⟩
theorem dig_fin : ∀ d : Fin 10, (digs.extract d.val (d.val + 1)).data.toList = [UInt8.ofNat (48 + d.val)] := by decide +kernel
theorem dig_at (d : Nat) (h : d < 10) : digs.extract d (d + 1) = ⟨#[UInt8.ofNat (48 + d)]⟩ := ba_ext (dig_fin ⟨d, h⟩)
theorem itoa_big (u : Nat) (h : 10 ≤ u) : Lib.itoa (u : Int) = Lib.itoa ((u / 10 : Nat) : Int) ++ [UInt8.ofNat (48 + u % 10)] := by
  unfold Lib.itoa
  rw [if_neg (by omega), if_neg (by omega), Int.toNat_natCast, Int.toNat_natCast, Lib.decDigits, dif_neg (by omega)]
theorem itoa_small (u : Nat) (h : u < 10) : Lib.itoa (u : Int) = [UInt8.ofNat (48 + u)] := by
  unfold Lib.itoa
  rw [if_neg (by omega), Int.toNat_natCast, Lib.decDigits, dif_pos h]
theorem itoa_neg (u : Nat) (h : 1 ≤ u) : Lib.itoa (-(u : Int)) = 45 :: Lib.itoa (u : Int) := by
  unfold Lib.itoa
  rw [if_pos (by omega), if_neg (by omega)]
  simp
theorem wrap64_id (n : Int) (h : -9223372036854775808 ≤ n ∧ n ≤ 9223372036854775807) : wrap64 n = n := by unfold wrap64; omega
theorem dig_byte (d : Nat) : (48 : UInt8) + UInt8.ofNat d = UInt8.ofNat (48 + d) := by simp
theorem itoa_bytes (r : Int) (h0 : -9223372036854775808 ≤ r) (h1 : r ≤ 9223372036854775807) : (⟨(Lib.itoa r).toArray⟩ : ByteArray).size ≤ 21 := by
  have := Lib.itoa_length_le r h0 h1
  simpa [ByteArray.size] using this
set_option maxHeartbeats 1600000 in
theorem Number_any (m : Nat) : ∀ (n : Int), n.natAbs ≤ m → -9223372036854775808 ≤ n → n ≤ 9223372036854775807 → ∀ w : World,
    Calls Tryd.prog 33 #[.int .i64 n] w fun e w' => e = .returned (.string ⟨(Lib.itoa n).toArray⟩) ∧ w = w' := by
  induction m with
  | zero =>
    intro n hm h0 h1 w
    obtain rfl : n = 0 := by omega
    have hd := dig_at 0 (by omega)
    simp only [digs] at hd
    go_enter Tryd.func33, Tryd.ntmps33
    go_wp2_with fail
    go_ret
    have e := itoa_small 0 (by omega)
    simp only [Int.natCast_zero, Nat.add_zero] at e
    exact ⟨by rw [show Lib.itoa 0 = _ from e]; rfl, rfl⟩
  | succ m ih =>
    intro n hm h0 h1 w
    by_cases hneg : n < 0
    · obtain ⟨u, rfl⟩ : ∃ u : Nat, n = -(u : Int) := ⟨n.natAbs, by omega⟩
      by_cases hs : u < 10
      · have hd := dig_at u hs
        simp only [digs] at hd
        have hq : Int.tdiv (-(u : Int)) 10 = 0 := by rw [Int.neg_tdiv]; simp; omega
        have hr : Int.tmod (-(u : Int)) 10 = -(u : Int) := by rw [Int.neg_tmod, Int.tmod_eq_of_lt (by omega) (by omega)]
        have HU := Lib.hid (And.intro hs hneg)
        have g2 : ¬ (0 : Int) ≤ -(u : Int) := by omega
        have hn : wrap64 (u : Int) = (u : Int) := wrap64_id _ (by omega)
        clear ih hm
        go_enter Tryd.func33, Tryd.ntmps33
        go_wp2_with fail
        go_ret
        refine ⟨?_, rfl⟩
        rw [itoa_neg u (by have := HU.out.2; omega), itoa_small u HU.out.1, ByteArray.mk_append_mk, dig_byte]
        simp
      · obtain ⟨r, hrr⟩ : ∃ r, u / 10 = r := ⟨_, rfl⟩
        obtain ⟨d, hdd⟩ : ∃ d, u % 10 = d := ⟨_, rfl⟩
        have hi := ih (-(r : Int)) (by omega) (by omega) (by omega) w
        have hS21 := itoa_bytes (-(r : Int)) (by omega) (by omega)
        obtain ⟨S, hS⟩ : ∃ S : ByteArray, ⟨(Lib.itoa (-(r : Int))).toArray⟩ = S := ⟨_, rfl⟩
        rw [hS] at hi hS21
        have HI := Lib.hid hi
        have HS := Lib.hid hS
        have hd := dig_at d (by omega)
        simp only [digs] at hd
        have hcs : S.size + 1 ≤ 9223372036854775807 := by omega
        have hd10 : d < 10 := by omega
        have hn : wrap64 (d : Int) = (d : Int) := wrap64_id _ (by omega)
        have hn2 : wrap64 (-(r : Int)) = -(r : Int) := wrap64_id _ (by omega)
        have hq : Int.tdiv (-(u : Int)) 10 = -(r : Int) := by rw [Int.neg_tdiv, ← hrr]; simp
        have hr : Int.tmod (-(u : Int)) 10 = -(d : Int) := by rw [Int.neg_tmod, ← hdd, Int.tmod_eq_emod_of_nonneg (by omega)]; simp
        have g2 : ¬ (0 : Int) ≤ -(u : Int) := by omega
        have g3 : ((-(r : Int)) == 0) = false := by simp; omega
        have HU := Lib.hid (And.intro hrr (And.intro hdd hs))
        clear ih hi hS hS21 hm hs hrr hdd
        go_enter Tryd.func33, Tryd.ntmps33
        go_wp2_with fail
        refine HI.out.mono ?_
        rintro e w' ⟨rfl, rfl⟩
        go_wp2_with fail
        go_ret
        refine ⟨?_, rfl⟩
        have hu10 : 10 ≤ u := by have := HU.out.2.2; omega
        rw [itoa_neg u (by omega), itoa_big u hu10, HU.out.1, HU.out.2.1, ← HS.out, itoa_neg r (by have := HU.out.1; omega), ByteArray.mk_append_mk, dig_byte]
        simp
    · obtain ⟨u, rfl⟩ : ∃ u : Nat, n = u := ⟨n.toNat, by omega⟩
      by_cases hs : u < 10
      · have hd := dig_at u hs
        simp only [digs] at hd
        have g2 : (u : Int) < 10 := by omega
        have g3 : (0 : Int) ≤ (u : Int) := by omega
        go_enter Tryd.func33, Tryd.ntmps33
        go_wp2_with fail
        go_ret
        exact ⟨by rw [itoa_small u hs, ← dig_byte]; rfl, rfl⟩
      · have hi := ih ((u / 10 : Nat) : Int) (by omega) (by omega) (by omega) w
        have hS21 := itoa_bytes ((u / 10 : Nat) : Int) (by omega) (by omega)
        obtain ⟨S, hS⟩ : ∃ S : ByteArray, ⟨(Lib.itoa ((u / 10 : Nat) : Int)).toArray⟩ = S := ⟨_, rfl⟩
        rw [hS] at hi hS21
        have HI := Lib.hid hi
        have HS := Lib.hid hS
        have hd := dig_at (u % 10) (by omega)
        simp only [digs] at hd
        have g2 : ¬ (u : Int) < 10 := by omega
        have g3 : (0 : Int) ≤ (u : Int) := by omega
        have hcs : S.size + 1 ≤ 9223372036854775807 := by omega
        have HU := Lib.hid hs
        clear ih hi hS hm hs hS21
        go_enter Tryd.func33, Tryd.ntmps33
        go_wp2_with fail
        refine HI.out.mono ?_
        rintro e w' ⟨rfl, rfl⟩
        go_wp2_with fail
        go_ret
        refine ⟨?_, rfl⟩
        rw [itoa_big u (by have := HU.out; omega), ← HS.out, ByteArray.mk_append_mk, dig_byte]
        simp
end Go.Proofs.YtehhgpnaemffnaaDoor
