/- The document's Full. -/
import Derived.Test.YtmddpjdgnamlnaaLent
import Derived.Test.YtmddpjdgnamlnaaDisk0
namespace Go.Proofs.Ytmddpjdgnamlnaa
open Go.RowKit

theorem full_more (l : List UInt8) (k : Nat) (h : l.length ≤ k) : bv (l ++ List.replicate (k - l.length) 0) ++ [.int .u8 0] = bv (l ++ List.replicate (k + 1 - l.length) 0) := by
  rw [show k + 1 - l.length = (k - l.length) + 1 by omega, List.replicate_succ']
  simp [bv]
theorem full_any (A : Option Addr) (n c B : Nat) (l : List UInt8) (w : World) (hr : Rd w B A (bv l)) (hl : l.length = n) (hn : n ≤ 1000000) :
    Calls Try.prog 17 #[.slice A n c] w fun e w' => e = .returned (.string ⟨(full l).toArray⟩) ∧ Below w.heap.size w w' := by
  obtain ⟨i0, hi0, hz0, hz1, hz2⟩ := info_parts u8_info
  have hrt := fun (W : World) (A' : Option Addr) (n' c' : Nat) (l' : List UInt8) (hr' : Rd W W.heap.size A' (bv l')) (hl' : l'.length = n') => conv_rd (P := Try.prog) W 32 9 5 Try.underlying32 Try.underlying5 Try.underlying9 W.heap.size A' n' c' l' hr' hl'
  have HCV := Lib.hid hrt; clear hrt
  have HL := Lib.hid hl
  go_enter Try.func17, Try.ntmps17
  go_wp2_with (at_builtin; refine wpList_append_rd _ rfl (.tmp 4) (.tmp 5) _ rfl w.heap.size 5 i0 (.int .u8 0) 1 1 Try.underlying32 hi0 hz0 hz1 hz2 rfl (by omega) (.slice none 0 0) 0 [] (World.ownsRow_nil _ _ _ _) rfl B A n c (bv l) hr rfl ?_ (bv_one l) ?_ ?_ ?_ ?_)
  · rw [bv_length]; omega
  · unfold maxLen; omega
  · omega
  · exact Nat.le_refl _
  intro v1 w1 hown1 hg1
  have hb1 : Below w.heap.size w w1 := (Below.refl _ _).grown hg1 (Nat.le_refl _) (by simp [Value.ownBlock])
  clear hl hr
  go_wp2_with fail
  go_loopw [3] (fun v wr => ∃ k : Nat, n ≤ k ∧ (k ≤ 64 ∨ k = n) ∧ v = v ∧ wr.ownsRow w.heap.size 5 1 v k (bv (l ++ List.replicate (k - l.length) 0)) ∧ Below w.heap.size w wr) (fun v _ => 64 - (match v with | .slice _ k _ => k | _ => 0))
  case atStart => exact ⟨n, by omega, .inr rfl, rfl, by rw [HL.out]; simpa using hown1, hb1⟩
  case round =>
    obtain ⟨k, hk, hk2, _, hown, hb⟩ := hrel
    obtain ⟨A1, c1, rfl, hc1, hm1⟩ := own_is_slice hown
    by_cases hlt : k < 64
    · have g1 : (k : Int) < 64 := by omega
      go_wp2_with (at_builtin; refine wpList_append_one wr rfl (.tmp 10) (.tmp 11) _ rfl w.heap.size 5 i0 (.int .u8 0) 1 Try.underlying32 hi0 hz0 hz1 hz2 rfl _ k _ hown rfl (.int .u8 0) rfl rfl ?_ ?_ hb.size ?_)
      · unfold maxLen; omega
      · omega
      intro v2 w2 hown2 hg2
      rw [full_more l k (by rw [HL.out]; exact hk)] at hown2
      have hb2 := hb.trans (below_of_grown hown hg2 hb.size)
      obtain ⟨A2, c2, rfl, hc2, hm2⟩ := own_is_slice hown2
      have H2 := Lib.hid (And.intro hown2 hb2); clear hown2 hb2 hg2 hown hb
      go_wp2_with fail
      go_roundw
      case rel => exact ⟨k + 1, by omega, .inl (by omega), trivial, H2.out.1, H2.out.2⟩
      case measure => show 64 - (k + 1) < 64 - k; omega
    · have g1 : ¬ (k : Int) < 64 := by omega
      have hcv := HCV.out wr A1 k c1 (l ++ List.replicate (k - l.length) 0) (Rd.of_own hown) (by rw [List.length_append, List.length_replicate, HL.out]; omega)
      have e : l ++ List.replicate (k - l.length) 0 = full l := by
        unfold full
        rcases hk2 with h | h
        · rw [show k = 64 by omega]
        · rw [show k - l.length = 0 by rw [HL.out]; omega, show 64 - l.length = 0 by rw [HL.out]; omega]
      rw [e] at hcv
      have HB := Lib.hid hb
      clear hown hb e
      go_wp2_with fail
      go_ret
      exact ⟨rfl, HB.out⟩
end Go.Proofs.Ytmddpjdgnamlnaa
