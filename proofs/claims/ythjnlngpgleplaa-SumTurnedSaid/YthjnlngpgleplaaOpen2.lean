/- How a slice of slices of bytes comes in. -/
import Derived.Test.YthjnlngpgleplaaOpen
import Derived.Deep.Slices
namespace Go.Proofs.Ythjnlngpgleplaa
open Go.RowKit Go.ChangeShapes Go.WideShapes Go.ChangeAt Go.Deep

/-- A slice of bytes among others: its value's parts, and what it reads. -/
structure BRow where
  a : Option Addr
  n : Nat
  c : Nat
  l : List UInt8
def BRow.val (r : BRow) : Value := .slice r.a r.n r.c
def BRow.ok (r : BRow) (w : World) : Prop := Rd w w.heap.size r.a (bv r.l) ∧ r.l.length = r.n ∧ r.n ≤ r.c ∧ r.c ≤ maxLen

section
variable {H : Type} {enc : TypeId × Value → H} {P : Program} {w : World} {base : Nat} {spare : Nat → Bool} {held : Bool}
theorem choose_list {α : Type} {p : Nat → α → Prop} : ∀ n, (∀ i, i < n → ∃ x, p i x) → ∃ l : List α, l.length = n ∧ ∀ i (h : i < l.length), p i l[i]
  | 0, _ => ⟨[], rfl, fun i h => absurd h (by simp)⟩
  | n + 1, h => by
    obtain ⟨l, hl, hp⟩ := choose_list n fun i hi => h i (by omega)
    obtain ⟨x, hx⟩ := h n (by omega)
    refine ⟨l ++ [x], by simp [hl], fun i hi => ?_⟩
    by_cases hin : i < l.length
    · rw [List.getElem_append_left hin]; exact hp i hin
    · have : i = n := by simp at hi; omega
      subst this
      simpa [List.getElem_append_right, hl] using hx

theorem openRows {t e u : TypeId} {a : Option Addr} {len cap : Nat} {d : DataW H} {p : List MemPlace} (ht : P.underlying t = some (.slice e)) (he : P.underlying e = some (.slice u)) (hu : P.underlying u = some (.int .u8)) (hc : P.cellsOf e = 1) (hc2 : P.cellsOf u = 1)
    (h : DataW.Trod enc P w base spare held t (.slice a len cap) d p) :
    ∃ l : List BRow, Rd w w.heap.size a (l.map BRow.val) ∧ l.length = len ∧ len ≤ cap ∧ cap ≤ maxLen ∧ ∀ r ∈ l, r.ok w := by
  obtain ⟨fuel, hf⟩ := h
  rcases open_slice1 ht hc hf with ⟨hcs, _⟩ | ⟨x, l, c, m, n, V, D, Pl, hcs, _, hl, hm, hmm, _, hi⟩
  · simp [Value.cells] at hcs
    obtain ⟨rfl, rfl, rfl⟩ := hcs
    exact ⟨[], Rd.nil, rfl, Nat.le_refl _, by unfold maxLen; omega, by simp⟩
  · simp [Value.cells] at hcs
    obtain ⟨rfl, rfl, rfl⟩ := hcs
    have hlm : len ≤ m := by rw [hmm]; split <;> omega
    obtain ⟨rows, hrl, hrows⟩ := choose_list (p := fun i (r : BRow) => w.cell? (x.add i) = some r.val ∧ r.ok w) len (fun i hin => by
      obtain ⟨h1, h2⟩ := hi i (by omega)
      rcases open_ints he hu hc2 h2 with ⟨hcs, _⟩ | ⟨y, l2, c2, zs, hcs, _, _⟩
      · simp at hcs
        refine ⟨⟨none, 0, 0, []⟩, by rw [h1, hcs]; rfl, Rd.nil, rfl, Nat.le_refl _, by unfold maxLen; simp⟩
      · simp at hcs
        have h3 : DataW.Trod enc P w base spare held e (.slice (some y) l2 c2) (D i) (Pl i) := ⟨n, by simpa [Value.cells, hcs] using h2⟩
        obtain ⟨bl, g1, g2, g3, g4⟩ := openBytes he hu hc2 h3
        exact ⟨⟨some y, l2, c2, bl⟩, by rw [h1, hcs]; rfl, g1, g2, g3, g4⟩)
    refine ⟨rows, ?_, hrl, hl, hm, fun r hr => ?_⟩
    · have e1 : (List.range len).map (fun i => ((rows[i]?).map BRow.val).getD (.slice none 0 0)) = rows.map BRow.val := by
        apply List.ext_getElem
        · simp [hrl]
        · intro i h1 h2
          simp at h1 h2
          simp [h2]
      rw [← e1]
      refine rd_of_cells fun i hin => ?_
      have := (hrows i (by omega)).1
      rw [this]
      simp [show i < rows.length by omega]
    · obtain ⟨i, hin, rfl⟩ := List.getElem_of_mem hr
      exact (hrows i hin).2
end
end Go.Proofs.Ythjnlngpgleplaa
