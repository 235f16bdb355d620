/- views.Sure's own question: have enough nodes this number? -/
import Derived.Test.YtlomahddominlaaSort
import Derived.Test.YtlomahddominlaaCells
import Derived.Test.YtlomahddominlaaRange
namespace Go.Proofs.Ytlomahddominlaa
open Go.RowKit

def ackCells (l : List (Int × Int)) : List Value := (l.map fun a => [Value.int .i64 a.1, Value.int .i64 a.2]).flatten
theorem ackCells_len (l : List (Int × Int)) : (ackCells l).length = l.length * 2 := by
  have := flatten_len 2 (l.map fun a => [Value.int .i64 a.1, Value.int .i64 a.2]) (fun r hr => by obtain ⟨a, _, rfl⟩ := List.mem_map.1 hr; rfl)
  simpa [ackCells] using this
theorem ackCells_at (l : List (Int × Int)) (i : Nat) (hi : i < l.length) : (ackCells l)[i * 2]? = some (.int .i64 (l[i]).1) ∧ (ackCells l)[i * 2 + 1]? = some (.int .i64 (l[i]).2) := by
  have h := fun t ht => flatten_at 2 (l.map fun a => [Value.int .i64 a.1, Value.int .i64 a.2]) (fun r hr => by obtain ⟨a, _, rfl⟩ := List.mem_map.1 hr; rfl) i t (by simpa using hi) ht
  constructor
  · have := h 0 (by omega)
    simpa [ackCells] using this
  · have := h 1 (by omega)
    simpa [ackCells] using this
theorem ack_rd {w : World} {B : Nat} {A : Option Addr} {l : List (Int × Int)} (hr : Rd w B A (ackCells l)) (k : Nat) (hk : k < l.length) :
    ∃ b off, A = some ⟨b, off, none⟩ ∧ b < B ∧ w.cell? ⟨b, off + k * 2, none⟩ = some (.int .i64 (l[k]).1) ∧ w.cell? ⟨b, off + k * 2 + 1, none⟩ = some (.int .i64 (l[k]).2) := by
  obtain ⟨b, off, hA, hb, hc⟩ := hr.at_ (k := k * 2) (by rw [ackCells_len]; omega)
  obtain ⟨h0, h1⟩ := ackCells_at l k hk
  refine ⟨b, off, hA, hb, hc _ _ h0, ?_⟩
  rw [Nat.add_assoc]
  exact hc _ _ h1

set_option maxHeartbeats 1600000 in
theorem has_any (N own n : Int) (A : Option Addr) (m c C Ba Bn Bo : Nat) (l : List (Int × Int)) (w : World) (hN : N ≤ 7) (hr : Rd w C A (ackCells l)) (hC : C ≤ w.heap.size) (hl : l.length = m) (hm : m ≤ 1000000)
    (ba : Boxed w Ba 34 (.slice A m c)) (bn : Boxed w Bn 3 (.int .i64 N)) (bo : Boxed w Bo 3 (.int .i64 own)) :
    Calls Try.prog 37 #[.int .i64 n, .pointer (some ⟨Ba, 0, none⟩), .pointer (some ⟨Bn, 0, none⟩), .pointer (some ⟨Bo, 0, none⟩)] w fun e w' => e = .returned (.bool (hasB N own l n)) ∧ Below w.heap.size w w' := by
  obtain ⟨r, hres⟩ : ∃ r, hasB N own l n = r := ⟨_, rfl⟩
  rw [hres]
  have HE := Lib.hid hres; clear hres
  have q0 := ba.cell
  have H := Lib.hid (And.intro hr (And.intro hl (And.intro ba (And.intro bn bo))))
  clear hr hl ba bn bo
  go_enter Try.func37, Try.ntmps37
  go_wp2_with fail
  go_loopw [6, 12] (fun s i wr => ∃ k : Nat, k ≤ m ∧ i = .int .i64 k ∧ s = .int .u16 (setN N (lN (l.take k) n)) ∧ Below w.heap.size w wr) (fun _ i _ => m - (intOf i).toNat)
  case atStart => exact ⟨0, by omega, rfl, rfl, Below.refl _ _⟩
  case round =>
    obtain ⟨k, hk, rfl, rfl, hb⟩ := hrel
    have hs := setN_lt N hN (lN (l.take k) n) 0 (by omega)
    have hs' : setN N (lN (l.take k) n) < 256 := hs
    clear hs
    have HB := Lib.hid hb; clear hb
    by_cases hlt : k < m
    · have g3 : (k : Int) < (m : Int) := by omega
      have hkl : k < l.length := by have := H.out.2.1; omega
      obtain ⟨b, off, hA, hbC, c0, c1⟩ := ack_rd (H.out.1.below HB.out hC) k hkl
      subst hA
      have hst := lN_snoc (l.take k) n (l[k]'hkl)
      rw [← List.take_succ_eq_append_getElem hkl] at hst
      have HS := Lib.hid hst; clear hst
      generalize l[k]'hkl = a at *
      obtain ⟨x, y⟩ := a
      have hw1 := HB.out.alloc HB.out.size (.cells #[.int .i64 x, .int .i64 y] 37)
      have HB1 := Lib.hid hw1; clear hw1
      have p1 := ((boxed_below H.out.2.2.2.1 HB.out H.out.2.2.2.1.lt).alloc (.cells #[.int .i64 x, .int .i64 y] 37)).cell
      by_cases hy : n ≤ y
      · have hWA := with_any (setN N (lN (l.take k) n)) x N (wr.alloc (.cells #[.int .i64 x, .int .i64 y] 37)) hs' hN
        rw [← setN_snoc] at hWA
        have hse : lN (l.take (k + 1)) n = lN (l.take k) n ++ [x] := by rw [HS.out, if_pos hy]
        rw [← hse] at hWA
        obtain ⟨s2, hs2⟩ : ∃ z, setN N (lN (l.take (k + 1)) n) = z := ⟨_, rfl⟩
        rw [hs2] at hWA
        have HW := Lib.hid hWA; have HS2 := Lib.hid hs2; clear hWA hse hs2
        generalize setN N (lN (l.take k) n) = s1 at *
        go_wp2_with fail
        refine HW.out.mono ?_
        rintro e w' ⟨rfl, rfl⟩
        go_wp2_with fail
        go_roundw
        case rel => exact ⟨k + 1, by omega, by go_num, by rw [HS2.out], HB1.out⟩
        case measure => simp [intOf]; omega
      · have hse : lN (l.take (k + 1)) n = lN (l.take k) n := by rw [HS.out, if_neg hy, List.append_nil]
        obtain ⟨s1, hs1⟩ : ∃ z, setN N (lN (l.take k) n) = z := ⟨_, rfl⟩
        rw [hs1]
        have HSE := Lib.hid (And.intro hse hs1); clear hse hs1 hs'
        go_wp2_with fail
        go_roundw
        case rel => exact ⟨k + 1, by omega, by go_num, by rw [HSE.out.1, HSE.out.2], HB1.out⟩
        case measure => simp [intOf]; omega
    · obtain rfl : k = m := by omega
      have htk : l.take k = l := List.take_of_length_le (by have := H.out.2.1; omega)
      rw [htk] at hs' ⊢
      clear htk
      have hpc := pc_setN N (lN l n)
      have hcl := cntUp_le N (lN l n) 8
      have bo2 := boxed_below H.out.2.2.2.2 HB.out H.out.2.2.2.2.lt
      have bn2 := boxed_below H.out.2.2.2.1 HB.out H.out.2.2.2.1.lt
      have p1 := bo2.cell; have p2 := bn2.cell
      clear bo2 bn2
      have HP := Lib.hid hpc; clear hpc
      have hr2 : r = decide (N < 2 * ((cntUp N (lN l n) 8 + if n ≤ own then 1 else 0 : Nat) : Int)) := by rw [← HE.out]; rfl
      have HR := Lib.hid hr2; clear hr2
      have HC := Lib.hid (count_any (setN N (lN l n)) wr hs')
      generalize setN N (lN l n) = s1 at *
      generalize cntUp N (lN l n) 8 = q at *
      by_cases ho : n ≤ own
      · go_wp2_with fail
        refine HC.out.mono ?_
        rintro e w' ⟨rfl, rfl⟩
        rw [HP.out]
        go_wp2_with fail
        go_ret
        refine ⟨?_, HB.out⟩
        rw [HR.out, if_pos ho]
        exact ret_v (congrArg Value.bool (decide_eq_decide.2 (by omega)))
      · go_wp2_with fail
        refine HC.out.mono ?_
        rintro e w' ⟨rfl, rfl⟩
        rw [HP.out]
        go_wp2_with fail
        go_ret
        refine ⟨?_, HB.out⟩
        rw [HR.out, if_neg (show ¬ n ≤ own by omega)]
        exact ret_v (congrArg Value.bool (decide_eq_decide.2 (by omega)))
end Go.Proofs.Ytlomahddominlaa
