/- tumuluslaw01.puts: the document's rows of bytes that are put. -/
import Derived.Test.YtlipnncbpbbdnaaKept
namespace Go.Proofs.Ytlipnncbpbbdnaa
open Go.RowKit

/-- An answer of bytes: where it lies and what it reads. -/
theorem own_rd {base n : Nat} {v : Value} {l : List UInt8} {w : World} (h : w.ownsRow base 5 1 v n (bv l)) :
    ∃ A c, v = .slice A n c ∧ Rd w w.heap.size A (bv l) ∧ l.length = n ∧ n ≤ c ∧ c ≤ maxLen := by
  obtain ⟨A, c, rfl, h1, h2⟩ := own_is_slice h
  exact ⟨A, c, rfl, Rd.of_own h, by have := h.1; rw [bv_length] at this; omega, h1, h2⟩

theorem own_eq {base n n' : Nat} {v : Value} {l l' : List UInt8} {w : World} (h : w.ownsRow base 5 1 v n (bv l)) (hn : n = n') (hl : l = l') : w.ownsRow base 5 1 v n' (bv l') := by
  subst hn; subst hl; exact h

theorem puts_any (w : World) : Calls Try.prog 15 #[] w fun e w' => e = .returned (.bool true) ∧ Below w.heap.size w w' := by
  go_enter Try.func15, Try.ntmps15
  go_wp2_with fail
  refine (putNumber_ok none 0 0 [] 258 w Rd.nil rfl (by omega) (by omega)).mono ?_
  rintro e w1 ⟨v, rfl, hown, hb1⟩
  rw [← bv_append] at hown
  have hown := own_eq (n' := 4) (l' := [0, 0, 1, 2]) hown (by decide) (by decide +kernel)
  obtain ⟨A1, c1, rfl, hr1, hl1, _, _⟩ := own_rd hown
  clear hown
  go_wp2_with fail
  refine (putNumber_no none 0 0 (-1) w1 (by omega)).mono ?_
  rintro e w' ⟨rfl, rfl⟩
  go_wp2_with fail
  refine (putText_ok none 0 0 [] ⟨#[97, 98]⟩ w1 Rd.nil rfl (by omega) (by decide)).mono ?_
  rintro e w2 ⟨v, rfl, hown, hb2⟩
  rw [← bv_append, ← bv_append] at hown
  have hown := own_eq (n' := 6) (l' := [0, 0, 0, 2, 97, 98]) hown (by decide) (by decide +kernel)
  obtain ⟨A2, c2, rfl, hr2, hl2, _, _⟩ := own_rd hown
  clear hown
  have hcv1 := conv_rd (P := Try.prog) w2 22 9 5 Try.underlying22 Try.underlying5 Try.underlying9 _ A1 _ c1 _ (hr1.below hb2 (Nat.le_refl _)) hl1
  have hcv2 := conv_rd (P := Try.prog) w2 22 9 5 Try.underlying22 Try.underlying5 Try.underlying9 _ A2 _ c2 _ hr2 hl2
  clear hr1 hr2 hl1 hl2
  go_wp2_with fail
  go_ret
  exact ⟨rfl, hb1.trans (hb2.mono hb1.size)⟩
end Go.Proofs.Ytlipnncbpbbdnaa
