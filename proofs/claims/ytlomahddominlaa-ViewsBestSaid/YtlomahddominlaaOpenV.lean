/- How a slice of votes comes in. -/
import Derived.Test.YtlomahddominlaaBests
namespace Go.Proofs.Ytlomahddominlaa
open Go.RowKit Go.ChangeShapes Go.WideShapes Go.ChangeAt Go.Deep

section
variable {H : Type} {enc : TypeId × Value → H} {w : World} {base : Nat} {spare : Nat → Bool} {held : Bool}
theorem vote_cells {n : Nat} {r : List Value} {y : DataW H × List MemPlace} (h : DataW.trod enc Try.prog w base spare held n 48 r = some y) (hr : r.length = 6) : ∃ v : Vt, r = v.cells := by
  obtain ⟨xs, m, _, _, _, hxl, hf⟩ := DataW.trod_struct Try.underlying48 h
  match r, hr with
  | [a0, a1, a2, a3, a4, a5], _ =>
    have g0 : DataW.trod enc Try.prog w base spare held m 3 (([a0, a1, a2, a3, a4, a5].drop 0).take (Try.prog.cellsOf 3)) = xs[0]? := hf 0 _ rfl
    have g1 : DataW.trod enc Try.prog w base spare held m 3 (([a0, a1, a2, a3, a4, a5].drop 1).take (Try.prog.cellsOf 3)) = xs[1]? := hf 1 _ rfl
    have g2 : DataW.trod enc Try.prog w base spare held m 3 (([a0, a1, a2, a3, a4, a5].drop 2).take (Try.prog.cellsOf 3)) = xs[2]? := hf 2 _ rfl
    have g3 : DataW.trod enc Try.prog w base spare held m 3 (([a0, a1, a2, a3, a4, a5].drop 3).take (Try.prog.cellsOf 3)) = xs[3]? := hf 3 _ rfl
    have g4 : DataW.trod enc Try.prog w base spare held m 3 (([a0, a1, a2, a3, a4, a5].drop 4).take (Try.prog.cellsOf 3)) = xs[4]? := hf 4 _ rfl
    have g5 : DataW.trod enc Try.prog w base spare held m 46 (([a0, a1, a2, a3, a4, a5].drop 5).take (Try.prog.cellsOf 46)) = xs[5]? := hf 5 _ rfl
    have hl : xs.length = 6 := hxl
    rw [List.getElem?_eq_getElem (by omega)] at g0 g1 g2 g3 g4 g5
    have ei : Try.prog.cellsOf 3 = 1 := by kernel_rfl
    have es : Try.prog.cellsOf 46 = 1 := by kernel_rfl
    rw [ei] at g0 g1 g2 g3 g4
    rw [es] at g5
    simp only [List.drop_zero, List.drop_succ_cons, List.take_succ_cons, List.take_zero] at g0 g1 g2 g3 g4 g5
    obtain ⟨z0, e0, _⟩ := DataW.trod_int Try.underlying3 g0
    obtain ⟨z1, e1, _⟩ := DataW.trod_int Try.underlying3 g1
    obtain ⟨z2, e2, _⟩ := DataW.trod_int Try.underlying3 g2
    obtain ⟨z3, e3, _⟩ := DataW.trod_int Try.underlying3 g3
    obtain ⟨z4, e4, _⟩ := DataW.trod_int Try.underlying3 g4
    have e5 : ∃ ea en ec, a5 = .slice ea en ec := by
      rcases open_slice Try.underlying46 g5 with ⟨e, _⟩ | ⟨x, l, c, _, _, _, _, e, _⟩
      · exact ⟨none, 0, 0, by simpa using e⟩
      · exact ⟨some x, l, c, by simpa using e⟩
    obtain ⟨ea, en, ec, rfl⟩ := e5
    simp at e0 e1 e2 e3 e4
    subst e0 e1 e2 e3 e4
    exact ⟨⟨z0, z1, z2, z3, z4, ea, en, ec⟩, rfl⟩

theorem openVotes {a : Option Addr} {len cap : Nat} {d : DataW H} {p : List MemPlace} (h : DataW.Trod enc Try.prog w base spare held 31 (.slice a len cap) d p) :
    ∃ l : List Vt, Rd w w.heap.size a (vtCells l) ∧ l.length = len ∧ len ≤ cap ∧ cap ≤ maxLen := by
  obtain ⟨rows, h1, h2, h3, h4, h5⟩ := openCells Try.underlying31 (k := 6) (by kernel_rfl) (by omega) h
  obtain ⟨l, hl, hp⟩ := choose_rows (p := fun i (v : Vt) => ∃ r, rows[i]? = some r ∧ r = v.cells) rows.length (fun i hi => by
    obtain ⟨g1, n, y, g2⟩ := h5 _ (List.getElem_mem hi)
    obtain ⟨v, hv⟩ := vote_cells g2 g1
    exact ⟨v, _, List.getElem?_eq_getElem hi, hv⟩)
  have e : l.map Vt.cells = rows := by
    apply List.ext_getElem
    · simp [hl]
    · intro i g1 g2
      obtain ⟨r, e1, e2⟩ := hp i (by simpa using g1)
      rw [List.getElem?_eq_getElem g2] at e1
      injection e1 with e1
      rw [List.getElem_map, ← e2, ← e1]
  refine ⟨l, ?_, by omega, h3, h4⟩
  unfold vtCells
  rw [e]
  exact h1
end
end Go.Proofs.Ytlomahddominlaa
