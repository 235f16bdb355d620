/- sum.Sum, the document's More and Sum, and the document's rows of check sums. -/
import Derived.Test.YthjnlngpgleplaaCrc
import Derived.Lib.SmallJoins
namespace Go.Proofs.Ythjnlngpgleplaa
open Go.RowKit

theorem more_no (s : Int) (A : Option Addr) (n c : Nat) (w : World) (h : s < 0 ∨ 4294967295 < s) :
    Calls Try.prog 11 #[.int .i64 s, .slice A n c] w fun e w' => e = .returned (.tuple #[.int .i64 0, .int .i64 1]) ∧ w = w' := by
  rcases h with h | h
  · go_enter Try.func11, Try.ntmps11
    go_wp2_with fail
    go_ret2
    exact ⟨rfl, rfl⟩
  · have h0 : ¬ s < 0 := by omega
    go_enter Try.func11, Try.ntmps11
    go_wp2_with fail
    go_ret2
    exact ⟨rfl, rfl⟩

theorem sum_any (A : Option Addr) (n c B : Nat) (l : List UInt8) (w : World) (hr : Rd w B A (bv l)) (hl : l.length = n) (hn : n ≤ 1099511627776) :
    Calls Try.prog 14 #[.slice A n c] w fun e w' => e = .returned (.int .i64 (moreN 0 l)) ∧ w = w' := by
  go_enter Try.func14, Try.ntmps14
  go_wp2_with fail
  refine (more_ok 0 A n c B l w (by omega) hr hl hn).mono ?_
  rintro e w' ⟨rfl, rfl⟩
  go_wp2_with fail
  go_ret
  exact ⟨rfl, rfl⟩

theorem inv_all (x : Nat) (h : x < 4294967296) : bits .xor .u32 (x : Int) 4294967295 = ((inv x : Nat) : Int) := inv_eq' x h

theorem refSum_any (A : Option Addr) (n c B : Nat) (l : List UInt8) (w : World) (hr : Rd w B A (bv l)) (hl : l.length = n) (hn : n ≤ 1099511627776) :
    Calls Try.prog 15 #[.slice A n c] w fun e w' => e = .returned (.int .i64 (moreN 0 l)) ∧ w = w' := by
  have e0 : moreN 0 l = inv (sumW 4294967295 l) := by unfold moreN; rw [show inv 0 = 4294967295 from by simp [inv]]
  have hlt := sumW_lt l 4294967295 (by omega)
  have h1 := inv_all _ hlt
  have h2 := inv_lt hlt
  have HM := Lib.hid e0.symm; clear e0
  have H := Lib.hid (And.intro hr hl); clear hr hl
  go_enter Try.func15, Try.ntmps15
  go_wp2_with fail
  refine (word_any 4294967295 A n c B l w (by omega) H.out.1 H.out.2 hn).mono ?_
  rintro e w' ⟨rfl, rfl⟩
  generalize sumW 4294967295 l = y at h1 h2 hlt HM ⊢
  go_wp2_with fail
  go_ret
  exact ⟨by rw [← HM.out]; rfl, rfl⟩

theorem refMore_ok (s : Nat) (A : Option Addr) (n c B : Nat) (l : List UInt8) (w : World) (hs : s < 4294967296) (hr : Rd w B A (bv l)) (hl : l.length = n) (hn : n ≤ 1099511627776) :
    Calls Try.prog 12 #[.int .i64 s, .slice A n c] w fun e w' => e = .returned (.tuple #[.int .i64 (moreN s l), .int .i64 0]) ∧ w = w' := by
  have h3 := inv_all s hs
  have hlt := sumW_lt l (inv s) (inv_lt hs)
  have h1 := inv_all _ hlt
  have h2 := inv_lt hlt
  have H := Lib.hid (And.intro hr (And.intro hl (inv_lt hs))); clear hr hl
  have HM := Lib.hid (show inv (sumW (inv s) l) = moreN s l from rfl)
  go_enter Try.func12, Try.ntmps12
  go_wp2_with fail
  refine (word_any (inv s) A n c B l w H.out.2.2 H.out.1 H.out.2.1 hn).mono ?_
  rintro e w' ⟨rfl, rfl⟩
  generalize sumW (inv s) l = y at h1 h2 hlt HM ⊢
  go_wp2_with fail
  go_ret2
  exact ⟨by rw [← HM.out]; rfl, rfl⟩

theorem refMore_no (s : Int) (A : Option Addr) (n c : Nat) (w : World) (h : s < 0 ∨ 4294967295 < s) :
    Calls Try.prog 12 #[.int .i64 s, .slice A n c] w fun e w' => e = .returned (.tuple #[.int .i64 0, .int .i64 1]) ∧ w = w' := by
  rcases h with h | h
  · go_enter Try.func12, Try.ntmps12
    go_wp2_with fail
    go_ret2
    exact ⟨rfl, rfl⟩
  · have h0 : ¬ s < 0 := by omega
    go_enter Try.func12, Try.ntmps12
    go_wp2_with fail
    go_ret2
    exact ⟨rfl, rfl⟩

/-- A text's bytes, just laid. -/
theorem rd_lit (w : World) (g : Nat) (hg : g = w.heap.size) (l : List UInt8) (t : TypeId) (fr : Nat × Nat) : Rd (w.alloc (.cells (bv l).toArray t fr)) (w.heap.size + 1) (some ⟨g, 0, none⟩) (bv l) := by
  subst hg
  refine .inr ⟨w.heap.size, 0, rfl, by omega, fun j u hu => ?_⟩
  rw [Nat.zero_add, World.cell?_alloc_mark]
  simpa using hu

theorem sums_any (w : World) : Calls Try.prog 13 #[] w fun e w' => e = .returned (.bool true) ∧ Below w.heap.size w w' := by
  have kc := fun (w : World) (C : Array Value) (n c g : Nat) (hg : g = w.heap.size) => Joins.run_convert_bytes_const_at (P := Try.prog) w 22 5 C n c g hg Try.underlying22 Try.underlying5
  have v1 : moreN 0 [49, 50, 51, 52, 53, 54, 55, 56, 57] = 3421780262 := by decide +kernel
  have v2 : moreN (moreN 0 [49, 50, 51, 52]) [53, 54, 55, 56, 57] = 3421780262 := by decide +kernel
  have v3 : moreN 0 [49, 50, 51, 52] < 4294967296 := moreN_lt _ (by omega)
  go_enter Try.func13, Try.ntmps13
  go_wp2_with fail
  refine (sum_any _ 9 9 _ [49, 50, 51, 52, 53, 54, 55, 56, 57] _ (rd_lit w _ rfl _ _ _) rfl (by omega)).mono ?_
  rintro e w' ⟨rfl, rfl⟩
  rw [v1]
  go_wp2_with fail
  refine (sum_any _ 4 4 _ [49, 50, 51, 52] _ (rd_lit _ _ (by simp) _ _ _) rfl (by omega)).mono ?_
  rintro e w' ⟨rfl, rfl⟩
  generalize moreN 0 [49, 50, 51, 52] = y at v2 v3 ⊢
  go_wp2_with fail
  refine (more_ok y _ 5 5 _ [53, 54, 55, 56, 57] _ v3 (rd_lit _ _ (by simp) _ _ _) rfl (by omega)).mono ?_
  rintro e w' ⟨rfl, rfl⟩
  rw [v2]
  clear v1 v2
  go_wp2_with fail
  refine (more_no (-1) none 0 0 _ (by omega)).mono ?_
  rintro e w' ⟨rfl, rfl⟩
  go_wp2_with fail
  go_ret
  exact ⟨rfl, (((Below.refl _ _).alloc (Nat.le_refl _) _).alloc (by simp) _).alloc (by simp; omega) _⟩
end Go.Proofs.Ythjnlngpgleplaa
