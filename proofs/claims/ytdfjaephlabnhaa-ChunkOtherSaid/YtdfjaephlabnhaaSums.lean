/- sum.Sum, the document's More and Sum, and the document's rows of check sums. -/
import Derived.Test.YtdfjaephlabnhaaCrc
import Derived.Lib.SmallJoins
namespace Go.Proofs.Ytdfjaephlabnhaa
open Go.RowKit

theorem more_no (s : Int) (A : Option Addr) (n c : Nat) (w : World) (h : s < 0 ∨ 4294967295 < s) :
    Calls Try.prog 31 #[.int .i64 s, .slice A n c] w fun e w' => e = .returned (.tuple #[.int .i64 0, .int .i64 1]) ∧ w = w' := by
  rcases h with h | h
  · go_enter Try.func31, Try.ntmps31
    go_wp2_with fail
    go_ret2
    exact ⟨rfl, rfl⟩
  · have h0 : ¬ s < 0 := by omega
    go_enter Try.func31, Try.ntmps31
    go_wp2_with fail
    go_ret2
    exact ⟨rfl, rfl⟩

theorem sum_any (A : Option Addr) (n c B : Nat) (l : List UInt8) (w : World) (hr : Rd w B A (bv l)) (hl : l.length = n) (hn : n ≤ 1099511627776) :
    Calls Try.prog 22 #[.slice A n c] w fun e w' => e = .returned (.int .i64 (moreN 0 l)) ∧ w = w' := by
  go_enter Try.func22, Try.ntmps22
  go_wp2_with fail
  refine (more_ok 0 A n c B l w (by omega) hr hl hn).mono ?_
  rintro e w' ⟨rfl, rfl⟩
  go_wp2_with fail
  go_ret
  exact ⟨rfl, rfl⟩

theorem inv_all (x : Nat) (h : x < 4294967296) : bits .xor .u32 (x : Int) 4294967295 = ((inv x : Nat) : Int) := inv_eq' x h

theorem refSum_any (A : Option Addr) (n c B : Nat) (l : List UInt8) (w : World) (hr : Rd w B A (bv l)) (hl : l.length = n) (hn : n ≤ 1099511627776) :
    Calls Try.prog 26 #[.slice A n c] w fun e w' => e = .returned (.int .i64 (moreN 0 l)) ∧ w = w' := by
  have e0 : moreN 0 l = inv (sumW 4294967295 l) := by unfold moreN; rw [show inv 0 = 4294967295 from by simp [inv]]
  have hlt := sumW_lt l 4294967295 (by omega)
  have h1 := inv_all _ hlt
  have h2 := inv_lt hlt
  have HM := Lib.hid e0.symm; clear e0
  have H := Lib.hid (And.intro hr hl); clear hr hl
  go_enter Try.func26, Try.ntmps26
  go_wp2_with fail
  refine (word_any 4294967295 A n c B l w (by omega) H.out.1 H.out.2 hn).mono ?_
  rintro e w' ⟨rfl, rfl⟩
  generalize sumW 4294967295 l = y at h1 h2 hlt HM ⊢
  go_wp2_with fail
  go_ret
  exact ⟨by rw [← HM.out]; rfl, rfl⟩

/-- A text's bytes, just laid. -/
theorem rd_lit (w : World) (g : Nat) (hg : g = w.heap.size) (l : List UInt8) (t : TypeId) (fr : Nat × Nat) : Rd (w.alloc (.cells (bv l).toArray t fr)) (w.heap.size + 1) (some ⟨g, 0, none⟩) (bv l) := by
  subst hg
  refine .inr ⟨w.heap.size, 0, rfl, by omega, fun j u hu => ?_⟩
  rw [Nat.zero_add, World.cell?_alloc_mark]
  simpa using hu

end Go.Proofs.Ytdfjaephlabnhaa
