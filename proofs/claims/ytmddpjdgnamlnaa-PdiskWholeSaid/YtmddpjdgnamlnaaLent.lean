/- tumuluskeep.Lent: a copy of the bytes with six marked bytes of room behind. -/
import Derived.Test.YtmddpjdgnamlnaaBase
namespace Go.Proofs.Ytmddpjdgnamlnaa
open Go.RowKit

theorem u8_info : (Try.prog.info? 5).map (fun i => (i.zero, i.size, i.bytes)) = some (some (.int .u8 0), 1, 1) := by kernel_rfl

/-- The marked room. -/
def marks (k : Nat) : List UInt8 := List.replicate k 157
theorem marks_succ (k : Nat) : bv (marks (k + 1)) = bv (marks k) ++ [.int .u8 157] := by
  simp [marks, bv, List.replicate_succ']

theorem lent_any (A : Option Addr) (n c : Nat) (l : List UInt8) (w : World) (hr : Rd w w.heap.size A (bv l)) (hl : l.length = n) (hn : n ≤ 1099511627776) :
    Calls Try.prog 22 #[.slice A n c] w fun e w' => ∃ g cap, e = .returned (.slice (some ⟨g, 0, none⟩) n cap) ∧
      w'.ownsRow w.heap.size 5 1 (.slice (some ⟨g, 0, none⟩) (n + 6) cap) (n + 6) (bv l ++ bv (marks 6)) ∧ Below w.heap.size w w' := by
  obtain ⟨i0, hi0, hz0, hz1, hz2⟩ := info_parts u8_info
  go_enter Try.func22, Try.ntmps22
  go_wp2_with (at_builtin; refine wpList_append_rd _ rfl (.tmp 5) (.tmp 6) _ rfl w.heap.size 5 i0 (.int .u8 0) 1 1 Try.underlying32 hi0 hz0 hz1 hz2 rfl (by omega) (.slice none 0 0) 0 [] (World.ownsRow_nil _ _ _ _) rfl w.heap.size A n c (bv l) hr rfl ?_ (bv_one l) ?_ ?_ ?_ ?_)
  · rw [bv_length]; omega
  · unfold maxLen; omega
  · omega
  · exact Nat.le_refl _
  intro v1 w1 hown1 hg1
  have hb1 : Below w.heap.size w w1 := (Below.refl _ _).grown hg1 (Nat.le_refl _) (by simp [Value.ownBlock])
  go_wp2_with fail
  go_loopw [3, 4] (fun v i wr => ∃ k : Nat, k ≤ 6 ∧ i = .int .i64 k ∧ wr.ownsRow w.heap.size 5 1 v (n + k) (bv l ++ bv (marks k)) ∧ Below w.heap.size w wr) (fun _ i _ => 6 - (intOf i).toNat)
  case atStart => exact ⟨0, by omega, rfl, by simpa [marks, bv] using hown1, hb1⟩
  case round =>
    obtain ⟨k, hk, rfl, hown, hb⟩ := hrel
    by_cases hlt : k < 6
    · go_wp2_with (at_builtin; refine wpList_append_one wr rfl (.tmp 12) (.tmp 13) _ rfl w.heap.size 5 i0 (.int .u8 0) 1 Try.underlying32 hi0 hz0 hz1 hz2 rfl _ (n + k) _ hown rfl (.int .u8 157) rfl rfl ?_ ?_ hb.size ?_)
      · unfold maxLen; omega
      · omega
      intro v2 w2 hown2 hg2
      have hb2 := hb.trans (below_of_grown hown hg2 hb.size)
      go_wp2_with fail
      go_roundw
      case rel => exact ⟨k + 1, by omega, by go_num, by rw [marks_succ]; exact hown2, hb2⟩
      case measure => simp [intOf]; omega
    · obtain rfl : k = 6 := by omega
      rcases own_form hown with ⟨_, h0, _⟩ | ⟨g, cap, rfl, hg, _, hcap, hmx⟩
      · omega
      go_wp2_with fail
      go_ret
      exact ⟨g, cap, rfl, hown, hb⟩
end Go.Proofs.Ytmddpjdgnamlnaa
