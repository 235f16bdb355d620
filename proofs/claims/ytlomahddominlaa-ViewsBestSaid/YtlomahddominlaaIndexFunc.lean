/- slices.IndexFunc over votes with views.Best's second closure; views.Best; the document's Best. -/
import Derived.Test.YtlomahddominlaaMaxFunc
namespace Go.Proofs.Ytlomahddominlaa
open Go.RowKit

theorem best2_any (p0 x1 p2 x3 p4 : Int) (p5 : Value) (m : Vt) (g : Nat) (w : World) (hg : w.heap[g]? = some (.cells m.cells.toArray 48 (0, 0))) :
    Calls Try.prog 36 #[.agg #[.int .i64 p0, .int .i64 x1, .int .i64 p2, .int .i64 x3, .int .i64 p4, p5], .pointer (some ⟨g, 0, none⟩)] w fun e w' => e = .returned (.bool (decide (x1 = m.n) && decide (x3 = m.u))) ∧ Below w.heap.size w w' := by
  have hgl : g < w.heap.size := (Array.getElem?_eq_some_iff.1 hg).1
  obtain ⟨m0, m1, m2, m3, m4, ma, mn, mc⟩ := m
  have hmc : ∀ (o : Obj) t, (w.alloc o).cell? ⟨g, t, none⟩ = (Vt.cells ⟨m0, m1, m2, m3, m4, ma, mn, mc⟩)[t]? := fun o t => by
    rw [World.cell?_alloc_lt _ _ _ hgl, cell_of_row w _ t _ _ _ hg]; simp
  have k1 : ∀ o : Obj, (w.alloc o).cell? ⟨g, 1, none⟩ = some (.int .i64 m1) := fun o => hmc o 1
  have k3 : ∀ o : Obj, (w.alloc o).cell? ⟨g, 3, none⟩ = some (.int .i64 m3) := fun o => hmc o 3
  have k1' : w.cell? ⟨g, 1, none⟩ = some (.int .i64 m1) := by rw [cell_of_row w _ 1 _ _ _ hg]; rfl
  have k3' : w.cell? ⟨g, 3, none⟩ = some (.int .i64 m3) := by rw [cell_of_row w _ 3 _ _ _ hg]; rfl
  clear hmc hg
  by_cases h1 : x1 = m1
  · have hb1 : (x1 == m1) = true := by simpa using h1
    have HB1 := Lib.hid h1; clear h1
    by_cases h3 : x3 = m3
    · have hb3 : (x3 == m3) = true := by simpa using h3
      have HB3 := Lib.hid h3; clear h3
      go_enter Try.func36, Try.ntmps36
      go_wp2_with fail
      go_ret
      exact ⟨by rw [decide_eq_true HB1.out, decide_eq_true HB3.out]; rfl, (Below.refl _ _).alloc (Nat.le_refl _) _⟩
    · have hb3 : (x3 == m3) = false := by simpa using h3
      have HB3 := Lib.hid h3; clear h3
      go_enter Try.func36, Try.ntmps36
      go_wp2_with fail
      go_ret
      exact ⟨by rw [decide_eq_true HB1.out, decide_eq_false HB3.out]; rfl, (Below.refl _ _).alloc (Nat.le_refl _) _⟩
  · have hb1 : (x1 == m1) = false := by simpa using h1
    have HB1 := Lib.hid h1; clear h1
    go_enter Try.func36, Try.ntmps36
    go_wp2_with fail
    go_ret
    exact ⟨by rw [decide_eq_false HB1.out]; rfl, (Below.refl _ _).alloc (Nat.le_refl _) _⟩

set_option linter.unusedVariables false in
set_option maxRecDepth 40000 in
set_option maxHeartbeats 1600000 in
theorem indexFunc_any (A : Option Addr) (n c g : Nat) (l : List Vt) (d m : Vt) (i : Nat) (w : World) (hr : Rd w g A (vtCells l)) (hl : l.length = n) (hn : n ≤ 1000000)
    (hg : w.heap[g]? = some (.cells m.cells.toArray 48 (0, 0))) (hi : i < n) (hm : l.getD i d = m) (hfirst : ∀ j, j < i → ¬ ((l.getD j d).n = m.n ∧ (l.getD j d).u = m.u)) :
    Calls Try.prog 35 #[.slice A n c, .func (.func 36) #[] #[.pointer (some ⟨g, 0, none⟩)]] w fun e w' => e = .returned (.int .i64 i) ∧ Below w.heap.size w w' := by
  have H := Lib.hid (And.intro hr (And.intro hl (And.intro hm hfirst)))
  have hgl : g < w.heap.size := (Array.getElem?_eq_some_iff.1 hg).1
  have HG := Lib.hid hg
  clear hr hl hm hfirst hg
  go_enter Try.func35, Try.ntmps35
  go_wp2_with fail
  go_loopw [5, 8] (fun o iv wr => ∃ k : Nat, k ≤ i ∧ iv = .int .i64 k ∧ Below w.heap.size w wr) (fun _ iv _ => n - (intOf iv).toNat)
  case atStart => exact ⟨0, by omega, rfl, Below.refl _ _⟩
  case round =>
    obtain ⟨k, hk, rfl, hb⟩ := hrel
    have hkl : k < l.length := by have := H.out.2.1; omega
    obtain ⟨x, hx⟩ : ∃ x, l[k] = x := ⟨_, rfl⟩
    have hxd : l.getD k d = x := by rw [List.getD_eq_getElem?_getD, List.getElem?_eq_getElem hkl]; simpa using hx
    obtain ⟨b, off, rfl, hbg, hc⟩ := (H.out.1.below hb (Nat.le_of_lt hgl)).at_ (k := k * 6) (by rw [vtCells_len]; omega)
    have hcell : ∀ t, t < 6 → wr.cell? ⟨b, off + (k * 6 + t), none⟩ = x.cells[t]? := fun t ht => by
      have h := vtCells_at l k t hkl ht
      rw [hx] at h
      rw [← h]
      have hj : k * 6 + t < (vtCells l).length := by rw [vtCells_len]; omega
      rw [List.getElem?_eq_getElem hj]
      exact hc _ _ (List.getElem?_eq_getElem hj)
    obtain ⟨x0, x1, x2, x3, x4, xa, xn, xc⟩ := x
    have n0 : wr.cell? ⟨b, off + k * 6, none⟩ = some (.int .i64 x0) := hcell 0 (by omega)
    have n1 : wr.cell? ⟨b, off + k * 6 + 1, none⟩ = some (.int .i64 x1) := hcell 1 (by omega)
    have n2 : wr.cell? ⟨b, off + k * 6 + 2, none⟩ = some (.int .i64 x2) := hcell 2 (by omega)
    have n3 : wr.cell? ⟨b, off + k * 6 + 3, none⟩ = some (.int .i64 x3) := hcell 3 (by omega)
    have n4 : wr.cell? ⟨b, off + k * 6 + 4, none⟩ = some (.int .i64 x4) := hcell 4 (by omega)
    have n5 : wr.cell? ⟨b, off + k * 6 + 5, none⟩ = some (.slice xa xn xc) := hcell 5 (by omega)
    have HX := Lib.hid (And.intro hxd hb)
    clear hcell hc hx hxd hb
    go_wp2_with fail
    refine (best2_any x0 x1 x2 x3 x4 (.slice xa xn xc) m g wr (by rw [HX.out.2.block g hgl]; exact HG.out)).mono ?_
    rintro e w9 ⟨rfl, hb9⟩
    have HB9 := Lib.hid (HX.out.2.trans (hb9.mono HX.out.2.size)); clear hb9
    by_cases he : k = i
    · subst he
      have hy : (decide (x1 = m.n) && decide (x3 = m.u)) = true := by
        have h9 := H.out.2.2.1
        rw [HX.out.1] at h9
        rw [← h9]
        simp
      rw [hy]
      go_wp2_with fail
      go_ret
      exact ⟨rfl, HB9.out⟩
    · have hy : (decide (x1 = m.n) && decide (x3 = m.u)) = false := by
        have h9 := H.out.2.2.2 k (by omega)
        rw [HX.out.1] at h9
        simpa using h9
      rw [hy]
      go_wp2_with fail
      go_roundw
      case rel => exact ⟨k + 1, by omega, by go_num, HB9.out⟩
      case measure => simp [intOf]; omega
end Go.Proofs.Ytlomahddominlaa
