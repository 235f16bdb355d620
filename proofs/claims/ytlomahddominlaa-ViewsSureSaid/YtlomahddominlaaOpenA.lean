/- How a slice of acknowledgements comes in. -/
import Derived.Test.YtlomahddominlaaSureRow
namespace Go.Proofs.Ytlomahddominlaa
open Go.RowKit Go.ChangeShapes Go.WideShapes Go.ChangeAt Go.Deep

section
variable {H : Type} {enc : TypeId × Value → H} {w : World} {base : Nat} {spare : Nat → Bool} {held : Bool}
theorem ack_cells {n : Nat} {r : List Value} {y : DataW H × List MemPlace} (h : DataW.trod enc Try.prog w base spare held n 37 r = some y) (hr : r.length = 2) : ∃ a : Int × Int, r = [.int .i64 a.1, .int .i64 a.2] := by
  obtain ⟨xs, m, _, _, _, hxl, hf⟩ := DataW.trod_struct Try.underlying37 h
  match r, hr with
  | [a0, a1], _ =>
    have g0 : DataW.trod enc Try.prog w base spare held m 3 (([a0, a1].drop 0).take (Try.prog.cellsOf 3)) = xs[0]? := hf 0 _ rfl
    have g1 : DataW.trod enc Try.prog w base spare held m 3 (([a0, a1].drop 1).take (Try.prog.cellsOf 3)) = xs[1]? := hf 1 _ rfl
    have hl : xs.length = 2 := hxl
    rw [List.getElem?_eq_getElem (by omega)] at g0 g1
    have ei : Try.prog.cellsOf 3 = 1 := by kernel_rfl
    rw [ei] at g0 g1
    simp only [List.drop_zero, List.drop_succ_cons, List.take_succ_cons, List.take_zero] at g0 g1
    obtain ⟨z0, e0, _⟩ := DataW.trod_int Try.underlying3 g0
    obtain ⟨z1, e1, _⟩ := DataW.trod_int Try.underlying3 g1
    simp at e0 e1
    subst e0 e1
    exact ⟨(z0, z1), rfl⟩

theorem openAcks {a : Option Addr} {len cap : Nat} {d : DataW H} {p : List MemPlace} (h : DataW.Trod enc Try.prog w base spare held 34 (.slice a len cap) d p) :
    ∃ l : List (Int × Int), Rd w w.heap.size a (ackCells l) ∧ l.length = len ∧ len ≤ cap ∧ cap ≤ maxLen := by
  obtain ⟨rows, h1, h2, h3, h4, h5⟩ := openCells Try.underlying34 (k := 2) (by kernel_rfl) (by omega) h
  obtain ⟨l, hl, hp⟩ := choose_rows (p := fun i (v : Int × Int) => ∃ r, rows[i]? = some r ∧ r = [Value.int .i64 v.1, Value.int .i64 v.2]) rows.length (fun i hi => by
    obtain ⟨g1, n, y, g2⟩ := h5 _ (List.getElem_mem hi)
    obtain ⟨v, hv⟩ := ack_cells g2 g1
    exact ⟨v, _, List.getElem?_eq_getElem hi, hv⟩)
  have e : (l.map fun a => [Value.int .i64 a.1, Value.int .i64 a.2]) = rows := by
    apply List.ext_getElem
    · simp [hl]
    · intro i g1 g2
      obtain ⟨r, e1, e2⟩ := hp i (by simpa using g1)
      rw [List.getElem?_eq_getElem g2] at e1
      injection e1 with e1
      rw [List.getElem_map, ← e2, ← e1]
  refine ⟨l, ?_, by omega, h3, h4⟩
  unfold ackCells
  rw [e]
  exact h1
end
end Go.Proofs.Ytlomahddominlaa
