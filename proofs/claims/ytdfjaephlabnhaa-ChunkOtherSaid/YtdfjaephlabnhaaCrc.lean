/- Check sums: a plain law on numbers, and the contracts of sum.bit, sum.times, sum.More, sum.Sum and of the document's word, More, Sum. -/
import Derived.Test.YtdfjaephlabnhaaInfo
namespace Go.Proofs.Ytdfjaephlabnhaa
open Go.RowKit

/-- One bit of a check sum. -/
def stepN (w : Nat) : Nat := if w % 2 = 1 then w / 2 ^^^ 3988292384 else w / 2
theorem stepN_lt (w : Nat) (h : w < 4294967296) : stepN w < 4294967296 := by
  unfold stepN
  split
  · exact Nat.xor_lt_two_pow (n := 32) (by omega) (by omega)
  · omega
def turnN : Nat → Nat → Nat
  | 0, w => w
  | k + 1, w => stepN (turnN k w)
theorem turnN_lt (k w : Nat) (h : w < 4294967296) : turnN k w < 4294967296 := by
  induction k with
  | zero => exact h
  | succ k ih => exact stepN_lt _ ih
/-- A word behind bytes. -/
def sumW (w : Nat) (l : List UInt8) : Nat := l.foldl (fun w c => turnN 8 (w ^^^ c.toNat)) w
theorem xor_lt32 {a b : Nat} (ha : a < 4294967296) (hb : b < 4294967296) : a ^^^ b < 4294967296 := Nat.xor_lt_two_pow (n := 32) (by omega) (by omega)
theorem sumW_lt (l : List UInt8) : ∀ w, w < 4294967296 → sumW w l < 4294967296 := by
  induction l with
  | nil => intro w h; exact h
  | cons c l ih =>
    intro w h
    exact ih _ (turnN_lt 8 _ (xor_lt32 h (by have := c.toNat_lt; omega)))
theorem sumW_snoc (w : Nat) (l : List UInt8) (c : UInt8) : sumW w (l ++ [c]) = turnN 8 (sumW w l ^^^ c.toNat) := by simp [sumW]
theorem sumW_append (w : Nat) (l m : List UInt8) : sumW w (l ++ m) = sumW (sumW w l) m := by simp [sumW]
theorem take_snoc8 (l : List UInt8) (k : Nat) (h : k < l.length) : l.take (k + 1) = l.take k ++ [l[k]] := by
  rw [List.take_succ_eq_append_getElem h]

theorem xor_eq (a b : Nat) (ha : a < 4294967296) (hb : b < 4294967296) : bits .xor .u32 (a : Int) (b : Int) = ((a ^^^ b : Nat) : Int) := u32_xor_nat a b ha hb

theorem bit_eq (x : Nat) (hx : x < 4294967296) : bits .xor .u32 ((x : Int) / 2) (bits .and .u32 3988292384 (-((x : Int) % 2) % 4294967296)) = ((stepN x : Nat) : Int) := by
  have e0 : ((x : Int) / 2) = ((x / 2 : Nat) : Int) := by omega
  unfold stepN
  rcases Nat.mod_two_eq_zero_or_one x with h | h
  · have e1 : (x : Int) % 2 = 0 := by omega
    have e2 : bits .and .u32 3988292384 (-(0 : Int) % 4294967296) = ((0 : Nat) : Int) := by decide +kernel
    rw [e1, e2, e0, xor_eq _ _ (by omega) (by omega), Nat.xor_zero, if_neg (by omega)]
  · have e1 : (x : Int) % 2 = 1 := by omega
    have e2 : bits .and .u32 3988292384 (-(1 : Int) % 4294967296) = ((3988292384 : Nat) : Int) := by decide +kernel
    rw [e1, e2, e0, xor_eq _ _ (by omega) (by omega), if_pos h]

theorem bit_any (x : Nat) (w : World) (hx : x < 4294967296) :
    Calls Try.prog 38 #[.int .u32 x] w fun e w' => e = .returned (.int .u32 (stepN x)) ∧ w = w' := by
  have e1 : bits .and .u32 (x : Int) 1 = (x : Int) % 2 := by
    have := u32_and_nat x 1 hx (by omega)
    rw [nat_mask1] at this
    exact this
  go_enter Try.func38, Try.ntmps38
  go_wp2_with fail
  go_ret
  exact ⟨ret_v (by rw [← bit_eq x hx]; rfl), rfl⟩

theorem times_any (x : Nat) (w : World) (hx : x < 4294967296) :
    Calls Try.prog 37 #[.int .i64 8, .int .u32 x, .func (.func 38) #[] #[]] w fun e w' => e = .returned (.int .u32 (turnN 8 x)) ∧ w = w' := by
  have H := Lib.hid hx; clear hx
  go_enter Try.func37, Try.ntmps37
  go_wp2_with fail
  go_loop [1, 8] (fun v i => ∃ k : Nat, k ≤ 8 ∧ i = .int .i64 k ∧ v = .int .u32 (turnN k x)) (fun _ i => 8 - (intOf i).toNat)
  case atStart => exact ⟨0, by omega, rfl, rfl⟩
  case round =>
    obtain ⟨k, hk, rfl, rfl⟩ := hrel
    by_cases hlt : k < 8
    · go_wp2_with fail
      refine (bit_any _ w (turnN_lt k x H.out)).mono ?_
      rintro e w' ⟨rfl, rfl⟩
      go_wp2_with fail
      go_round
      case rel => exact ⟨k + 1, by omega, by go_num, rfl⟩
      case measure => simp [intOf]; omega
    · obtain rfl : k = 8 := by omega
      go_wp2_with fail
      go_ret
      exact ⟨rfl, rfl⟩

theorem word_any (x : Nat) (A : Option Addr) (n c B : Nat) (l : List UInt8) (w : World) (hx : x < 4294967296) (hr : Rd w B A (bv l)) (hl : l.length = n) (hn : n ≤ 1099511627776) :
    Calls Try.prog 33 #[.int .u32 x, .slice A n c] w fun e w' => e = .returned (.int .u32 (sumW x l)) ∧ w = w' := by
  have H := Lib.hid (And.intro hx (And.intro hr hl)); clear hx hr hl
  go_enter Try.func33, Try.ntmps33
  go_wp2_with fail
  go_loop [0, 5] (fun v i => ∃ k : Nat, k ≤ n ∧ i = .int .i64 k ∧ v = .int .u32 (sumW x (l.take k))) (fun _ i => n - (intOf i).toNat)
  case atStart => exact ⟨0, by omega, rfl, rfl⟩
  case round =>
    obtain ⟨k, hk, rfl, rfl⟩ := hrel
    by_cases hlt : k < n
    · have hkl : k < l.length := by have := H.out.2.2; omega
      obtain ⟨b, off, rfl, _, hc⟩ := H.out.2.1.at_ (k := k) (by rw [bv_length]; exact hkl)
      have hcell := hc k _ (bv_at l k hkl)
      clear hc
      have hy := sumW_lt (l.take k) x H.out.1
      have hxor := xor_eq (sumW x (l.take k)) (l[k]).toNat hy (by have := (l[k]).toNat_lt; omega)
      have hsn := sumW_snoc x (l.take k) l[k]
      rw [← take_snoc8 l k hkl] at hsn
      have HS := Lib.hid hsn; clear hsn
      have hz := xor_lt32 hy (show (l[k]).toNat < 4294967296 by have := (l[k]).toNat_lt; omega)
      have HZ := Lib.hid hz; clear hz
      generalize sumW x (l.take k) = y at hy hxor HS HZ ⊢
      have hq256 : (l[k]).toNat < 256 := (l[k]).toNat_lt
      generalize (l[k]).toNat = q at hxor hcell hq256 HS HZ ⊢
      generalize y ^^^ q = z at hxor HS HZ ⊢
      go_wp2_with fail
      go_loop [0, 6, 7] (fun v i o => ∃ t : Nat, t ≤ 8 ∧ i = .int .i64 t ∧ v = .int .u32 (turnN t z)) (fun _ i _ => 8 - (intOf i).toNat)
      case atStart => exact ⟨0, by omega, rfl, rfl⟩
      case round =>
        obtain ⟨t, ht, rfl, rfl⟩ := hrel
        by_cases hlt2 : t < 8
        · have hv := turnN_lt t z HZ.out
          have HT := Lib.hid (show turnN (t + 1) z = stepN (turnN t z) from rfl)
          generalize turnN t z = v at hv HT ⊢
          have hxor2 := xor_eq (v / 2) 3988292384 (by omega) (by omega)
          have hdiv : (v : Int) / 2 = ((v / 2 : Nat) : Int) := by omega
          by_cases hodd : v % 2 = 1
          · have hb : (((v : Int) % 2) == 1) = true := by simp; omega
            have HR := Lib.hid (show stepN v = v / 2 ^^^ 3988292384 by unfold stepN; rw [if_pos hodd])
            clear hodd
            rw [← hdiv] at hxor2
            clear hdiv
            go_wp2_with fail
            go_round
            case rel => exact ⟨t + 1, by omega, by go_num, by rw [HT.out, HR.out]; exact ret_i hxor2⟩
            case measure => simp [intOf]; omega
          · have hb : (((v : Int) % 2) == 1) = false := by simp; omega
            have HR := Lib.hid (show stepN v = v / 2 by unfold stepN; rw [if_neg hodd])
            clear hodd hxor2
            have HD := Lib.hid hdiv; clear hdiv
            go_wp2_with fail
            go_round
            case rel => exact ⟨t + 1, by omega, by go_num, by rw [HT.out, HR.out, ← HD.out]⟩
            case measure => simp [intOf]; omega
        · obtain rfl : t = 8 := by omega
          go_wp2_with fail
          go_round
          case rel => exact ⟨k + 1, by omega, by go_num, by rw [HS.out]⟩
          case measure => simp [intOf]; omega
    · obtain rfl : k = n := by omega
      have e : l.take k = l := List.take_of_length_le (by have := H.out.2.2; omega)
      rw [e]
      go_wp2_with fail
      go_ret
      exact ⟨rfl, rfl⟩

/-- All bits turned. -/
def inv (s : Nat) : Nat := s ^^^ 4294967295
theorem inv_lt {s : Nat} (h : s < 4294967296) : inv s < 4294967296 := xor_lt32 h (by omega)
theorem inv_inv (s : Nat) : inv (inv s) = s := by simp [inv, Nat.xor_assoc]
/-- The sum of bytes behind a sum. -/
def moreN (s : Nat) (l : List UInt8) : Nat := inv (sumW (inv s) l)
theorem moreN_lt {s : Nat} (l : List UInt8) (h : s < 4294967296) : moreN s l < 4294967296 := inv_lt (sumW_lt l _ (inv_lt h))
theorem inv_eq (s : Nat) (h : s < 4294967296) : bits .xor .u32 IntKind.u32.max (s : Int) = ((inv s : Nat) : Int) := by
  have e : IntKind.u32.max = ((4294967295 : Nat) : Int) := by decide
  rw [e]
  have := xor_eq 4294967295 s (by omega) h
  rw [Nat.xor_comm] at this
  exact this
theorem inv_eq' (s : Nat) (h : s < 4294967296) : bits .xor .u32 (s : Int) 4294967295 = ((inv s : Nat) : Int) := xor_eq s 4294967295 h (by omega)

theorem more_ok (s : Nat) (A : Option Addr) (n c B : Nat) (l : List UInt8) (w : World) (hs : s < 4294967296) (hr : Rd w B A (bv l)) (hl : l.length = n) (hn : n ≤ 1099511627776) :
    Calls Try.prog 31 #[.int .i64 s, .slice A n c] w fun e w' => e = .returned (.tuple #[.int .i64 (moreN s l), .int .i64 0]) ∧ w = w' := by
  have hi := inv_eq s hs
  have H := Lib.hid (And.intro (inv_lt hs) (And.intro hr hl)); clear hr hl
  go_enter Try.func31, Try.ntmps31
  go_wp2_with fail
  go_loop [6, 8, 20] (fun v o i => ∃ k : Nat, k ≤ n ∧ i = .int .i64 k ∧ v = .int .u32 (sumW (inv s) (l.take k))) (fun _ _ i => n - (intOf i).toNat)
  case atStart => exact ⟨0, by omega, rfl, rfl⟩
  case round =>
    obtain ⟨k, hk, rfl, rfl⟩ := hrel
    by_cases hlt : k < n
    · have hkl : k < l.length := by have := H.out.2.2; omega
      obtain ⟨b, off, rfl, _, hc⟩ := H.out.2.1.at_ (k := k) (by rw [bv_length]; exact hkl)
      have hcell := hc k _ (bv_at l k hkl)
      clear hc
      have hy := sumW_lt (l.take k) (inv s) H.out.1
      have hxor := xor_eq (sumW (inv s) (l.take k)) (l[k]).toNat hy (by have := (l[k]).toNat_lt; omega)
      have hsn := sumW_snoc (inv s) (l.take k) l[k]
      rw [← take_snoc8 l k hkl] at hsn
      have HS := Lib.hid hsn; clear hsn
      have hz := xor_lt32 hy (show (l[k]).toNat < 4294967296 by have := (l[k]).toNat_lt; omega)
      have HZ := Lib.hid hz; clear hz
      have hq256 : (l[k]).toNat < 256 := (l[k]).toNat_lt
      generalize sumW (inv s) (l.take k) = y at hy hxor HS HZ ⊢
      generalize (l[k]).toNat = q at hxor hcell hq256 HS HZ ⊢
      generalize y ^^^ q = z at hxor HS HZ ⊢
      go_wp2_with fail
      refine (times_any z w HZ.out).mono ?_
      rintro e w' ⟨rfl, rfl⟩
      go_wp2_with fail
      go_round
      case rel => exact ⟨k + 1, by omega, by go_num, by rw [HS.out]⟩
      case measure => simp [intOf]; omega
    · obtain rfl : k = n := by omega
      have e : l.take k = l := List.take_of_length_le (by have := H.out.2.2; omega)
      rw [e]
      have hy := sumW_lt l (inv s) H.out.1
      have hi2 := inv_eq (sumW (inv s) l) hy
      have hb := inv_lt hy
      have HM := Lib.hid (show inv (sumW (inv s) l) = moreN s l from rfl)
      generalize sumW (inv s) l = y at hy hi2 HM hb ⊢
      generalize inv y = z at hi2 HM hb ⊢
      go_wp2_with fail
      go_ret2
      exact ⟨by rw [← HM.out]; rfl, rfl⟩
end Go.Proofs.Ytdfjaephlabnhaa
