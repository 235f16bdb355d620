/- tumuluskeep.Kept: lent bytes that nobody wrote are as they were. -/
import Derived.Test.YtmddpjdgnamlnaaLent
namespace Go.Proofs.Ytmddpjdgnamlnaa
open Go.RowKit

set_option maxRecDepth 20000 in
theorem kept_any (base g n cap c B : Nat) (A : Option Addr) (l : List UInt8) (w : World) (hn : n ≤ 1099511627776)
    (hown : w.ownsRow base 5 1 (.slice (some ⟨g, 0, none⟩) (n + 6) cap) (n + 6) (bv l ++ bv (marks 6))) (hr : Rd w B A (bv l)) (hl : l.length = n) :
    Calls Try.prog 23 #[.slice (some ⟨g, 0, none⟩) n cap, .slice A n c] w fun e w' => e = .returned (.bool true) ∧ w = w' := by
  have hcv1 := conv_rd (P := Try.prog) w 32 9 5 Try.underlying32 Try.underlying5 Try.underlying9 w.heap.size (some ⟨g, 0, none⟩) n cap l (Rd.front (Rd.of_own hown) _ _ rfl) hl
  have hcv2 := conv_rd (P := Try.prog) w 32 9 5 Try.underlying32 Try.underlying5 Try.underlying9 B A n c l hr hl
  have hcap : n + 6 ≤ cap := by
    rcases own_form hown with ⟨h, _⟩ | ⟨g', cap', h, _, _, h1, _⟩
    · cases h
    · injection h with _ _ h; omega
  have hcell : ∀ k, k < 6 → w.cell? ⟨g, n + k, none⟩ = some (.int .u8 157) := by
    intro k hk
    rw [hown.cellAt (n + k) (by omega), List.getElem?_append_right (by rw [bv_length]; omega), bv_length, hl]
    have e : n + k - n = k := by omega
    rw [e, bv_at _ _ (by simp [marks]; omega)]
    simp only [marks, List.getElem_replicate]
    rfl
  have HL := Lib.hid hl; clear hl
  have HC := Lib.hid hcell; clear hcell
  have HO := Lib.hid hown; clear hown
  go_enter Try.func23, Try.ntmps23
  go_wp2_with fail
  go_loop [6] (fun i => ∃ k : Nat, k ≤ 6 ∧ i = .int .i64 ((n + k : Nat) : Int)) (fun i => n + 6 - (intOf i).toNat)
  case atStart => exact ⟨0, by omega, rfl⟩
  case round =>
    obtain ⟨k, hk, rfl⟩ := hrel
    by_cases hlt : k < 6
    · have hc := HC.out k hlt
      go_wp2_with fail
      go_round
      case rel => exact ⟨k + 1, by omega, by go_num⟩
      case measure => simp [intOf]; omega
    · obtain rfl : k = 6 := by omega
      go_wp2_with fail
      go_ret
      exact ⟨rfl, rfl⟩
end Go.Proofs.Ytmddpjdgnamlnaa
