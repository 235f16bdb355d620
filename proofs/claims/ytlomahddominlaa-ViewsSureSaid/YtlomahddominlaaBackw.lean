/- slices.Backward at []int: an iterator that hands over the places and what stands there, from the last one down. -/
import Derived.Test.YtlomahddominlaaHas
namespace Go.Proofs.Ytlomahddominlaa
open Go.RowKit
attribute [local go_sem] Oper.semAt_some

theorem backward_any (A : Option Addr) (n c : Nat) (w : World) :
    Calls Try.prog 39 #[.slice A n c] w fun e w' => e = .returned (.func (.func 44) #[] #[.pointer (some ⟨w.heap.size, 0, none⟩)]) ∧ w' = w.alloc (.cells #[.slice A n c] 22) := by
  go_enter Try.func39, Try.ntmps39
  go_wp2_with fail
  go_ret
  exact ⟨rfl, rfl⟩

theorem down_prefix (zs : List Int) (k : Nat) : (down zs).take k <+: down zs := List.take_prefix _ _
theorem down_take_succ (zs : List Int) (k : Nat) (hk : k < zs.length) : (down zs).take (k + 1) = (down zs).take k ++ [(zs.length - 1 - k, zs.getD (zs.length - 1 - k) 0)] := by
  have h : k < (down zs).length := by rw [down_length]; exact hk
  rw [List.take_succ_eq_append_getElem h]
  congr 2
  have := down_at zs k hk
  rw [List.getElem?_eq_getElem h] at this
  exact Option.some.inj this

set_option maxRecDepth 100000 in
set_option maxHeartbeats 2000000 in
theorem backward_stops (Bs n₀ g c n : Nat) (zs : List Int) (w : World) (hBs : Bs < w.heap.size) (hn₀ : n₀ ≤ w.heap.size) (hg : g < n₀) (hz : zs.length = n) (hN : n ≤ 1000000)
    (hc : w.cell? ⟨Bs, 0, none⟩ = some (.slice (some ⟨g, 0, none⟩) n c)) (hBn : Bs < n₀) (hcs : ∀ j, j < n → w.cell? ⟨g, j, none⟩ = some (.int .i64 (zs.getD j 0))) :
    SeqStopsK Fence.wide 5 Try.prog 44 #[.pointer (some ⟨Bs, 0, none⟩)] (fun x : Nat × Int => #[Value.int .i64 (x.1 : Int), Value.int .i64 x.2]) (Below n₀) (fun ys => ys = down zs) (fun pre => pre <+: down zs) n w := by
  intro l J Jx W hW hJ hJx hY h0
  have hcW := (hW.cell (p := ⟨Bs, 0, none⟩) hBs).trans hc
  have hcsW : ∀ j, j < n → W.cell? ⟨g, j, none⟩ = some (.int .i64 (zs.getD j 0)) := fun j hj => (hW.cell (p := ⟨g, j, none⟩) (by simp; omega)).trans (hcs j hj)
  have HC := Lib.hid (And.intro hcsW (And.intro hcs hc)); clear hcsW hcs hc
  subst hz
  refine callsIn_of_wp Try.func44 rfl trivial ?_ rfl
  simp only [Try.ntmps44, List.size_toArray, List.length_cons, List.length_nil, Nat.reduceAdd, Nat.reduceSub, Array.replicate_succ, Array.replicate_zero, List.push_toArray, List.append_toArray, List.nil_append, List.cons_append]
  gi_wp2
  gi_loopw [3] (fun i wr => ∃ k : Nat, k ≤ zs.length ∧ i = .int .i64 ((zs.length : Int) - 1 - k) ∧ J ((down zs).take k) wr ∧ Below n₀ W wr) (fun i _ => (intOf i + 1).toNat)
  case atStart => exact ⟨0, Nat.zero_le _, by simp, by simpa using h0, Below.refl _ _⟩
  case round =>
    obtain ⟨k, hk, rfl, hJs, hnx⟩ := hrel
    have hc1 : wr.cell? ⟨Bs, 0, none⟩ = some (.slice (some ⟨g, 0, none⟩) zs.length c) := (hnx.cell (p := ⟨Bs, 0, none⟩) hBn).trans hcW
    by_cases hlt : k < zs.length
    · obtain ⟨j, hj⟩ : ∃ j : Nat, zs.length - 1 - k = j := ⟨_, rfl⟩
      have hji : (zs.length : Int) - 1 - k = (j : Int) := by omega
      have hjl : j < zs.length := by omega
      have hsp := down_take_succ zs k hlt
      rw [hj] at hsp
      have hcx : wr.cell? ⟨g, j, none⟩ = some (.int .i64 (zs.getD j 0)) := (hnx.cell (p := ⟨g, j, none⟩) (by simp; omega)).trans (HC.out.1 j hjl)
      obtain ⟨fn, tmps, assign, body, hy, hR⟩ := hY _ (j, zs.getD j 0) wr hJs (by rw [List.length_take, down_length]; omega)
      dsimp only at hy hR
      rw [← hsp] at hR
      have HS := Lib.hid hsp; clear hsp
      have HJ := Lib.hid (show j + k + 1 = zs.length by omega); clear hj
      rw [hji]
      clear hji
      generalize zs.getD j 0 = x at *
      gi_wp2
      refine hR.mono ?_
      rintro e W3 (⟨rfl, hJ3, hk3⟩ | ⟨rfl, hJx3⟩)
      · gi_wp2
        go_roundw
        case rel => exact ⟨k + 1, by omega, by have := HJ.out; simp; omega, hJ3, hnx.trans hk3⟩
        case measure => have := HJ.out; simp [intOf]; try omega
      · gi_wp2
        refine bodyPost_ret (results_none rfl _ _ _) rfl ?_
        exact ⟨⟨_, rfl⟩, .inr ⟨_, down_prefix zs (k + 1), hJx3⟩⟩
    · obtain rfl : k = zs.length := by omega
      have he : (zs.length : Int) - 1 - (zs.length : Int) = -1 := by omega
      rw [he]
      clear he
      rw [List.take_of_length_le (by rw [down_length]; exact Nat.le_refl _)] at hJs
      gi_wp2
      go_end0
      exact ⟨⟨_, rfl⟩, .inl ⟨_, rfl, hJs⟩⟩
end Go.Proofs.Ytlomahddominlaa
