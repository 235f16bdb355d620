/- tumuluslaw02.seals: the document's rows of sealed bytes. -/
import Derived.Test.YthjnlngpgleplaaUnseal
namespace Go.Proofs.Ythjnlngpgleplaa
open Go.RowKit

theorem seals_any (w : World) : Calls Try.prog 20 #[] w fun e w' => e = .returned (.bool true) ∧ Below w.heap.size w w' := by
  have s0 : sealB [] = [0, 0, 0, 0] := by decide +kernel
  have k1 : goodB [0, 0, 0, 0] = true := by decide +kernel
  have k2 : goodB [1, 0, 0, 0] = false := by decide +kernel
  go_enter Try.func20, Try.ntmps20
  go_wp2_with fail
  refine (seal_any none 0 0 [] w Rd.nil rfl (by omega)).mono ?_
  rintro e w1 ⟨v, rfl, hown, hb1⟩
  rw [s0] at hown
  obtain ⟨A1, c1, rfl, hr1, hl1, _, _⟩ := own_rd hown
  have R1 := Lib.hid (And.intro hr1 hb1); clear hr1 hb1 hown hl1 s0
  go_wp2_with fail
  have hba := (Below.refl w1.heap.size w1).alloc (Nat.le_refl _) (.cells (bv [0, 0, 0, 0]).toArray 5)
  have c1 := open_any _ 4 4 [0, 0, 0, 0] _ ((rd_lit w1 _ rfl [0, 0, 0, 0] 5 (0, 0)).more (by simp)) rfl (by omega) (by omega) (by omega)
  rw [k1] at c1
  have C1 := Lib.hid c1; clear c1 k1
  have HBA := Lib.hid hba; clear hba
  refine Calls.mono C1.out ?_
  rintro e w2 ⟨_, hgood, hb2⟩
  obtain ⟨v, rfl, _⟩ := hgood rfl
  have HB2 := Lib.hid (HBA.out.trans (hb2.mono HBA.out.size)); clear hb2 hgood
  go_wp2_with fail
  have hba := (Below.refl w2.heap.size w2).alloc (Nat.le_refl _) (.cells (bv [1, 0, 0, 0]).toArray 5)
  have c2 := open_any _ 4 4 [1, 0, 0, 0] _ ((rd_lit w2 _ rfl [1, 0, 0, 0] 5 (0, 0)).more (by simp)) rfl (by omega) (by omega) (by omega)
  rw [k2] at c2
  have C2 := Lib.hid c2; clear c2 k2
  have HBA2 := Lib.hid hba; clear hba
  refine Calls.mono C2.out ?_
  rintro e w3 ⟨hbad, _, hb3⟩
  obtain rfl := hbad rfl
  have HB3 := Lib.hid (HBA2.out.trans (hb3.mono HBA2.out.size)); clear hb3 hbad
  have HW := Lib.hid (HB2.out.trans (HB3.out.mono HB2.out.size))
  have hcv := conv_rd (P := Try.prog) w3 22 9 5 Try.underlying22 Try.underlying5 Try.underlying9 _ A1 4 c1 _ (R1.out.1.below HW.out (Nat.le_refl _)) rfl
  go_wp2_with fail
  go_ret
  exact ⟨rfl, R1.out.2.trans (HW.out.mono R1.out.2.size)⟩

theorem goodB_seal (l : List UInt8) : goodB (sealB l) = true := by
  rw [goodB_eq (sealB l) l.length (sealB_length l)]
  have e : (sealB l).take l.length = l := by
    unfold sealB
    rw [List.take_left' rfl]
  rw [e]
  simp
/-- What was sealed is opened. -/
theorem open_seal (A : Option Addr) (k c : Nat) (l : List UInt8) (w : World) (hr : Rd w w.heap.size A (bv (sealB l))) (hl : l.length = k) (hc : k + 4 ≤ c) (hn : k ≤ 100000000) :
    Calls Try.prog 19 #[.slice A (k + 4) c] w fun e w' => ∃ A' c', e = .returned (.tuple #[.slice A' k c', .int .i64 0]) ∧ Rd w' w'.heap.size A' (bv l) ∧ k ≤ c' ∧ c' ≤ maxLen ∧ Below w.heap.size w w' := by
  refine (open_any A (k + 4) c (sealB l) w hr (by rw [sealB_length, hl]) hc (by omega) (by omega)).mono ?_
  rintro e w' ⟨_, h, hb⟩
  obtain ⟨v, rfl, hown⟩ := h (goodB_seal l)
  have e2 : (sealB l).take (k + 4 - 4) = l := by
    rw [show k + 4 - 4 = l.length by omega]
    unfold sealB
    rw [List.take_left' rfl]
  rw [e2] at hown
  obtain ⟨A', c', rfl, h1, _, h2, h3⟩ := own_rd hown
  exact ⟨A', c', rfl, h1, h2, h3, hb⟩
end Go.Proofs.Ythjnlngpgleplaa
