/- How messages, rows of them, and a script's calls come in. -/
import Derived.Test.YtbdbimnfknaakaaAwake
namespace Go.Proofs.Ytbdbimnfknaakaa
open Go.RowKit Go.ChangeShapes Go.WideShapes Go.ChangeAt Go.Deep

section
variable {H : Type} {enc : TypeId × Value → H} {w : World} {base : Nat} {spare : Nat → Bool} {held : Bool}
set_option maxRecDepth 100000 in
theorem op_cells {n : Nat} {r : List Value} {y : DataW H × List MemPlace} (h : DataW.trod enc Try.prog w base spare held n 43 r = some y) (hr : r.length = 7) : ∃ z0 z1 z2 z3 z4 z5 z6 : Int, r = [.int .i64 z0, .int .i64 z1, .int .i64 z2, .int .i64 z3, .int .i64 z4, .int .i64 z5, .int .i64 z6] := by
  obtain ⟨xs, m, _, _, _, hxl, hf⟩ := DataW.trod_struct Try.underlying43 h
  match r, hr with
  | [a0, a1, a2, a3, a4, a5, a6], _ =>
    have g0 : DataW.trod enc Try.prog w base spare held m 41 (([a0, a1, a2, a3, a4, a5, a6].drop 0).take (Try.prog.cellsOf 41)) = xs[0]? := hf 0 _ rfl
    have g1 : DataW.trod enc Try.prog w base spare held m 3 (([a0, a1, a2, a3, a4, a5, a6].drop 1).take (Try.prog.cellsOf 3)) = xs[1]? := hf 1 _ rfl
    have g2 : DataW.trod enc Try.prog w base spare held m 3 (([a0, a1, a2, a3, a4, a5, a6].drop 2).take (Try.prog.cellsOf 3)) = xs[2]? := hf 2 _ rfl
    have g3 : DataW.trod enc Try.prog w base spare held m 3 (([a0, a1, a2, a3, a4, a5, a6].drop 3).take (Try.prog.cellsOf 3)) = xs[3]? := hf 3 _ rfl
    have g4 : DataW.trod enc Try.prog w base spare held m 3 (([a0, a1, a2, a3, a4, a5, a6].drop 4).take (Try.prog.cellsOf 3)) = xs[4]? := hf 4 _ rfl
    have g5 : DataW.trod enc Try.prog w base spare held m 3 (([a0, a1, a2, a3, a4, a5, a6].drop 5).take (Try.prog.cellsOf 3)) = xs[5]? := hf 5 _ rfl
    have g6 : DataW.trod enc Try.prog w base spare held m 3 (([a0, a1, a2, a3, a4, a5, a6].drop 6).take (Try.prog.cellsOf 3)) = xs[6]? := hf 6 _ rfl
    have hl : xs.length = 7 := hxl
    rw [List.getElem?_eq_getElem (by omega)] at g0 g1 g2 g3 g4 g5 g6
    have e0c : Try.prog.cellsOf 41 = 1 := by kernel_rfl
    rw [e0c] at g0
    have e1c : Try.prog.cellsOf 3 = 1 := by kernel_rfl
    rw [e1c] at g1 g2 g3 g4 g5 g6
    simp only [List.drop_zero, List.drop_succ_cons, List.take_succ_cons, List.take_zero] at g0 g1 g2 g3 g4 g5 g6
    obtain ⟨z0, e0, _⟩ := DataW.trod_int Try.underlying41 g0
    simp at e0
    subst e0
    obtain ⟨z1, e1, _⟩ := DataW.trod_int Try.underlying3 g1
    simp at e1
    subst e1
    obtain ⟨z2, e2, _⟩ := DataW.trod_int Try.underlying3 g2
    simp at e2
    subst e2
    obtain ⟨z3, e3, _⟩ := DataW.trod_int Try.underlying3 g3
    simp at e3
    subst e3
    obtain ⟨z4, e4, _⟩ := DataW.trod_int Try.underlying3 g4
    simp at e4
    subst e4
    obtain ⟨z5, e5, _⟩ := DataW.trod_int Try.underlying3 g5
    simp at e5
    subst e5
    obtain ⟨z6, e6, _⟩ := DataW.trod_int Try.underlying3 g6
    simp at e6
    subst e6
    exact ⟨z0, z1, z2, z3, z4, z5, z6, rfl⟩
set_option maxRecDepth 100000 in
theorem re_cells {n : Nat} {r : List Value} {y : DataW H × List MemPlace} (h : DataW.trod enc Try.prog w base spare held n 45 r = some y) (hr : r.length = 2) : ∃ z0 z1 : Int, r = [.int .i64 z0, .int .i64 z1] := by
  obtain ⟨xs, m, _, _, _, hxl, hf⟩ := DataW.trod_struct Try.underlying45 h
  match r, hr with
  | [a0, a1], _ =>
    have g0 : DataW.trod enc Try.prog w base spare held m 25 (([a0, a1].drop 0).take (Try.prog.cellsOf 25)) = xs[0]? := hf 0 _ rfl
    have g1 : DataW.trod enc Try.prog w base spare held m 3 (([a0, a1].drop 1).take (Try.prog.cellsOf 3)) = xs[1]? := hf 1 _ rfl
    have hl : xs.length = 2 := hxl
    rw [List.getElem?_eq_getElem (by omega)] at g0 g1
    have e0c : Try.prog.cellsOf 25 = 1 := by kernel_rfl
    rw [e0c] at g0
    have e1c : Try.prog.cellsOf 3 = 1 := by kernel_rfl
    rw [e1c] at g1
    simp only [List.drop_zero, List.drop_succ_cons, List.take_succ_cons, List.take_zero] at g0 g1
    obtain ⟨z0, e0, _⟩ := DataW.trod_int Try.underlying25 g0
    simp at e0
    subst e0
    obtain ⟨z1, e1, _⟩ := DataW.trod_int Try.underlying3 g1
    simp at e1
    subst e1
    exact ⟨z0, z1, rfl⟩
set_option maxRecDepth 100000 in
theorem en_cells {n : Nat} {r : List Value} {y : DataW H × List MemPlace} (h : DataW.trod enc Try.prog w base spare held n 67 r = some y) (hr : r.length = 11) : ∃ x : En, r = x.cells := by
  obtain ⟨xs, m, _, _, _, hxl, hf⟩ := DataW.trod_struct Try.underlying67 h
  match r, hr with
  | [a0, a1, a2, a3, a4, a5, a6, a7, a8, a9, a10], _ =>
    have g0 : DataW.trod enc Try.prog w base spare held m 3 (([a0, a1, a2, a3, a4, a5, a6, a7, a8, a9, a10].drop 0).take (Try.prog.cellsOf 3)) = xs[0]? := hf 0 _ rfl
    have g1 : DataW.trod enc Try.prog w base spare held m 3 (([a0, a1, a2, a3, a4, a5, a6, a7, a8, a9, a10].drop 1).take (Try.prog.cellsOf 3)) = xs[1]? := hf 1 _ rfl
    have g2 : DataW.trod enc Try.prog w base spare held m 3 (([a0, a1, a2, a3, a4, a5, a6, a7, a8, a9, a10].drop 2).take (Try.prog.cellsOf 3)) = xs[2]? := hf 2 _ rfl
    have g3 : DataW.trod enc Try.prog w base spare held m 3 (([a0, a1, a2, a3, a4, a5, a6, a7, a8, a9, a10].drop 3).take (Try.prog.cellsOf 3)) = xs[3]? := hf 3 _ rfl
    have g4 : DataW.trod enc Try.prog w base spare held m 43 (([a0, a1, a2, a3, a4, a5, a6, a7, a8, a9, a10].drop 4).take (Try.prog.cellsOf 43)) = xs[4]? := hf 4 _ rfl
    have hl : xs.length = 5 := hxl
    rw [List.getElem?_eq_getElem (by omega)] at g0 g1 g2 g3 g4
    have e0c : Try.prog.cellsOf 3 = 1 := by kernel_rfl
    rw [e0c] at g0 g1 g2 g3
    have e1c : Try.prog.cellsOf 43 = 7 := by kernel_rfl
    rw [e1c] at g4
    simp only [List.drop_zero, List.drop_succ_cons, List.take_succ_cons, List.take_zero] at g0 g1 g2 g3 g4
    obtain ⟨z0, e0, _⟩ := DataW.trod_int Try.underlying3 g0
    simp at e0
    subst e0
    obtain ⟨z1, e1, _⟩ := DataW.trod_int Try.underlying3 g1
    simp at e1
    subst e1
    obtain ⟨z2, e2, _⟩ := DataW.trod_int Try.underlying3 g2
    simp at e2
    subst e2
    obtain ⟨z3, e3, _⟩ := DataW.trod_int Try.underlying3 g3
    simp at e3
    subst e3
    obtain ⟨z4, z5, z6, z7, z8, z9, z10, e4⟩ := op_cells g4 rfl
    simp at e4
    obtain ⟨rfl, rfl, rfl, rfl, rfl, rfl, rfl⟩ := e4
    exact ⟨⟨z0, z1, z2, z3, z4, z5, z6, z7, z8, z9, z10⟩, rfl⟩
theorem rows_of {α : Type} {enc : α → List Value} {rows : List (List Value)} {l : List α} (hl : l.length = rows.length) (hp : ∀ i (h : i < l.length), ∃ r, rows[i]? = some r ∧ r = enc l[i]) : l.map enc = rows := by
  apply List.ext_getElem
  · simp [hl]
  · intro i g1 g2
    obtain ⟨r, e1, e2⟩ := hp i (by simpa using g1)
    rw [List.getElem?_eq_getElem g2] at e1
    injection e1 with e1
    rw [List.getElem_map, ← e2, ← e1]
/-- A list of entries. -/
theorem openEnts {n : Nat} {v : Value} {y : DataW H × List MemPlace} (h : DataW.trod enc Try.prog w base spare held n 40 [v] = some y) : ∃ l : List En, EsAt w w.heap.size v l := by
  have hv : ∃ A len cap, v = .slice A len cap := by
    rcases open_slice Try.underlying40 h with ⟨e, _⟩ | ⟨x, l, c, _, _, _, _, e, _⟩
    · exact ⟨none, 0, 0, by simpa using e⟩
    · exact ⟨some x, l, c, by simpa using e⟩
  obtain ⟨A, len, cap, rfl⟩ := hv
  obtain ⟨d, p⟩ := y
  obtain ⟨rows, h1, h2, h3, h4, h5⟩ := openCells (d := d) (p := p) Try.underlying40 (k := 11) (by kernel_rfl) (by omega) ⟨n, h⟩
  obtain ⟨l, hl, hp⟩ := choose_rows (p := fun i (x : En) => ∃ r, rows[i]? = some r ∧ r = x.cells) rows.length (fun i hi => by
    obtain ⟨g1, n, y, g2⟩ := h5 _ (List.getElem_mem hi)
    obtain ⟨x, hx⟩ := en_cells g2 g1
    exact ⟨x, _, List.getElem?_eq_getElem hi, hx⟩)
  have e := rows_of hl hp
  refine ⟨l, A, len, cap, rfl, ?_, by omega, h3⟩
  unfold enCells
  rw [e]
  exact h1
set_option maxRecDepth 100000 in
theorem ms_cells {n : Nat} {r : List Value} {y : DataW H × List MemPlace} (h : DataW.trod enc Try.prog w base spare held n 47 r = some y) (hr : r.length = 23) : ∃ p : Mt, r = p.cells ∧ EsAt w w.heap.size p.v p.es := by
  obtain ⟨xs, m, _, _, _, hxl, hf⟩ := DataW.trod_struct Try.underlying47 h
  match r, hr with
  | [a0, a1, a2, a3, a4, a5, a6, a7, a8, a9, a10, a11, a12, a13, a14, a15, a16, a17, a18, a19, a20, a21, a22], _ =>
    have g0 : DataW.trod enc Try.prog w base spare held m 39 (([a0, a1, a2, a3, a4, a5, a6, a7, a8, a9, a10, a11, a12, a13, a14, a15, a16, a17, a18, a19, a20, a21, a22].drop 0).take (Try.prog.cellsOf 39)) = xs[0]? := hf 0 _ rfl
    have g1 : DataW.trod enc Try.prog w base spare held m 3 (([a0, a1, a2, a3, a4, a5, a6, a7, a8, a9, a10, a11, a12, a13, a14, a15, a16, a17, a18, a19, a20, a21, a22].drop 1).take (Try.prog.cellsOf 3)) = xs[1]? := hf 1 _ rfl
    have g2 : DataW.trod enc Try.prog w base spare held m 3 (([a0, a1, a2, a3, a4, a5, a6, a7, a8, a9, a10, a11, a12, a13, a14, a15, a16, a17, a18, a19, a20, a21, a22].drop 2).take (Try.prog.cellsOf 3)) = xs[2]? := hf 2 _ rfl
    have g3 : DataW.trod enc Try.prog w base spare held m 3 (([a0, a1, a2, a3, a4, a5, a6, a7, a8, a9, a10, a11, a12, a13, a14, a15, a16, a17, a18, a19, a20, a21, a22].drop 3).take (Try.prog.cellsOf 3)) = xs[3]? := hf 3 _ rfl
    have g4 : DataW.trod enc Try.prog w base spare held m 3 (([a0, a1, a2, a3, a4, a5, a6, a7, a8, a9, a10, a11, a12, a13, a14, a15, a16, a17, a18, a19, a20, a21, a22].drop 4).take (Try.prog.cellsOf 3)) = xs[4]? := hf 4 _ rfl
    have g5 : DataW.trod enc Try.prog w base spare held m 3 (([a0, a1, a2, a3, a4, a5, a6, a7, a8, a9, a10, a11, a12, a13, a14, a15, a16, a17, a18, a19, a20, a21, a22].drop 5).take (Try.prog.cellsOf 3)) = xs[5]? := hf 5 _ rfl
    have g6 : DataW.trod enc Try.prog w base spare held m 3 (([a0, a1, a2, a3, a4, a5, a6, a7, a8, a9, a10, a11, a12, a13, a14, a15, a16, a17, a18, a19, a20, a21, a22].drop 6).take (Try.prog.cellsOf 3)) = xs[6]? := hf 6 _ rfl
    have g7 : DataW.trod enc Try.prog w base spare held m 3 (([a0, a1, a2, a3, a4, a5, a6, a7, a8, a9, a10, a11, a12, a13, a14, a15, a16, a17, a18, a19, a20, a21, a22].drop 7).take (Try.prog.cellsOf 3)) = xs[7]? := hf 7 _ rfl
    have g8 : DataW.trod enc Try.prog w base spare held m 40 (([a0, a1, a2, a3, a4, a5, a6, a7, a8, a9, a10, a11, a12, a13, a14, a15, a16, a17, a18, a19, a20, a21, a22].drop 8).take (Try.prog.cellsOf 40)) = xs[8]? := hf 8 _ rfl
    have g9 : DataW.trod enc Try.prog w base spare held m 3 (([a0, a1, a2, a3, a4, a5, a6, a7, a8, a9, a10, a11, a12, a13, a14, a15, a16, a17, a18, a19, a20, a21, a22].drop 9).take (Try.prog.cellsOf 3)) = xs[9]? := hf 9 _ rfl
    have g10 : DataW.trod enc Try.prog w base spare held m 3 (([a0, a1, a2, a3, a4, a5, a6, a7, a8, a9, a10, a11, a12, a13, a14, a15, a16, a17, a18, a19, a20, a21, a22].drop 10).take (Try.prog.cellsOf 3)) = xs[10]? := hf 10 _ rfl
    have g11 : DataW.trod enc Try.prog w base spare held m 9 (([a0, a1, a2, a3, a4, a5, a6, a7, a8, a9, a10, a11, a12, a13, a14, a15, a16, a17, a18, a19, a20, a21, a22].drop 11).take (Try.prog.cellsOf 9)) = xs[11]? := hf 11 _ rfl
    have g12 : DataW.trod enc Try.prog w base spare held m 3 (([a0, a1, a2, a3, a4, a5, a6, a7, a8, a9, a10, a11, a12, a13, a14, a15, a16, a17, a18, a19, a20, a21, a22].drop 12).take (Try.prog.cellsOf 3)) = xs[12]? := hf 12 _ rfl
    have g13 : DataW.trod enc Try.prog w base spare held m 43 (([a0, a1, a2, a3, a4, a5, a6, a7, a8, a9, a10, a11, a12, a13, a14, a15, a16, a17, a18, a19, a20, a21, a22].drop 13).take (Try.prog.cellsOf 43)) = xs[13]? := hf 13 _ rfl
    have g14 : DataW.trod enc Try.prog w base spare held m 45 (([a0, a1, a2, a3, a4, a5, a6, a7, a8, a9, a10, a11, a12, a13, a14, a15, a16, a17, a18, a19, a20, a21, a22].drop 20).take (Try.prog.cellsOf 45)) = xs[14]? := hf 14 _ rfl
    have g15 : DataW.trod enc Try.prog w base spare held m 4 (([a0, a1, a2, a3, a4, a5, a6, a7, a8, a9, a10, a11, a12, a13, a14, a15, a16, a17, a18, a19, a20, a21, a22].drop 22).take (Try.prog.cellsOf 4)) = xs[15]? := hf 15 _ rfl
    have hl : xs.length = 16 := hxl
    rw [List.getElem?_eq_getElem (by omega)] at g0 g1 g2 g3 g4 g5 g6 g7 g8 g9 g10 g11 g12 g13 g14 g15
    have e0c : Try.prog.cellsOf 39 = 1 := by kernel_rfl
    rw [e0c] at g0
    have e1c : Try.prog.cellsOf 3 = 1 := by kernel_rfl
    rw [e1c] at g1 g2 g3 g4 g5 g6 g7 g9 g10 g12
    have e2c : Try.prog.cellsOf 40 = 1 := by kernel_rfl
    rw [e2c] at g8
    have e3c : Try.prog.cellsOf 9 = 1 := by kernel_rfl
    rw [e3c] at g11
    have e4c : Try.prog.cellsOf 43 = 7 := by kernel_rfl
    rw [e4c] at g13
    have e5c : Try.prog.cellsOf 45 = 2 := by kernel_rfl
    rw [e5c] at g14
    have e6c : Try.prog.cellsOf 4 = 1 := by kernel_rfl
    rw [e6c] at g15
    simp only [List.drop_zero, List.drop_succ_cons, List.take_succ_cons, List.take_zero] at g0 g1 g2 g3 g4 g5 g6 g7 g8 g9 g10 g11 g12 g13 g14 g15
    obtain ⟨z0, e0, _⟩ := DataW.trod_int Try.underlying39 g0
    simp at e0
    subst e0
    obtain ⟨z1, e1, _⟩ := DataW.trod_int Try.underlying3 g1
    simp at e1
    subst e1
    obtain ⟨z2, e2, _⟩ := DataW.trod_int Try.underlying3 g2
    simp at e2
    subst e2
    obtain ⟨z3, e3, _⟩ := DataW.trod_int Try.underlying3 g3
    simp at e3
    subst e3
    obtain ⟨z4, e4, _⟩ := DataW.trod_int Try.underlying3 g4
    simp at e4
    subst e4
    obtain ⟨z5, e5, _⟩ := DataW.trod_int Try.underlying3 g5
    simp at e5
    subst e5
    obtain ⟨z6, e6, _⟩ := DataW.trod_int Try.underlying3 g6
    simp at e6
    subst e6
    obtain ⟨z7, e7, _⟩ := DataW.trod_int Try.underlying3 g7
    simp at e7
    subst e7
    obtain ⟨z8, e8⟩ := openEnts g8
    obtain ⟨z9, e9, _⟩ := DataW.trod_int Try.underlying3 g9
    simp at e9
    subst e9
    obtain ⟨z10, e10, _⟩ := DataW.trod_int Try.underlying3 g10
    simp at e10
    subst e10
    obtain ⟨z11, e11, _⟩ := DataW.trod_string Try.underlying9 g11
    simp at e11
    subst e11
    obtain ⟨z12, e12, _⟩ := DataW.trod_int Try.underlying3 g12
    simp at e12
    subst e12
    obtain ⟨z13, z14, z15, z16, z17, z18, z19, e13⟩ := op_cells g13 rfl
    simp at e13
    obtain ⟨rfl, rfl, rfl, rfl, rfl, rfl, rfl⟩ := e13
    obtain ⟨z20, z21, e20⟩ := re_cells g14 rfl
    simp at e20
    obtain ⟨rfl, rfl⟩ := e20
    obtain ⟨z22, e22, _⟩ := DataW.trod_bool Try.underlying4 g15
    simp at e22
    subst e22
    exact ⟨⟨⟨z0, z1, z2, z3, z4, z5, z6, z7, z9, z10, z11, z12, z13, z14, z15, z16, z17, z18, z19, z20, z21, z22⟩, a8, z8⟩, rfl, e8⟩
/-- A row of messages, of whatever size. -/
def MsRaw (w : World) (v : Value) (l : List Mt) : Prop := ∃ A n c, v = .slice A n c ∧ Rd w w.heap.size A (mtCells l) ∧ l.length = n ∧ n ≤ c ∧ c ≤ maxLen ∧ ∀ p ∈ l, EsAt w w.heap.size p.v p.es
theorem openMss {n : Nat} {v : Value} {y : DataW H × List MemPlace} (h : DataW.trod enc Try.prog w base spare held n 29 [v] = some y) : ∃ l : List Mt, MsRaw w v l := by
  have hv : ∃ A len cap, v = .slice A len cap := by
    rcases open_slice Try.underlying29 h with ⟨e, _⟩ | ⟨x, l, c, _, _, _, _, e, _⟩
    · exact ⟨none, 0, 0, by simpa using e⟩
    · exact ⟨some x, l, c, by simpa using e⟩
  obtain ⟨A, len, cap, rfl⟩ := hv
  obtain ⟨d, p⟩ := y
  obtain ⟨rows, h1, h2, h3, h4, h5⟩ := openCells (d := d) (p := p) Try.underlying29 (k := 23) (by kernel_rfl) (by omega) ⟨n, h⟩
  obtain ⟨l, hl, hp⟩ := choose_rows (p := fun i (x : Mt) => ∃ r, rows[i]? = some r ∧ r = x.cells ∧ EsAt w w.heap.size x.v x.es) rows.length (fun i hi => by
    obtain ⟨g1, n, y, g2⟩ := h5 _ (List.getElem_mem hi)
    obtain ⟨x, hx, hes⟩ := ms_cells g2 g1
    exact ⟨x, _, List.getElem?_eq_getElem hi, hx, hes⟩)
  have e := rows_of (enc := Mt.cells) hl (fun i hi => let ⟨r, h1, h2, _⟩ := hp i hi; ⟨r, h1, h2⟩)
  refine ⟨l, A, len, cap, rfl, ?_, by omega, h3, h4, fun p hp' => ?_⟩
  · unfold mtCells
    rw [e]
    exact h1
  · obtain ⟨i, hi, rfl⟩ := List.getElem_of_mem hp'
    obtain ⟨_, _, _, h⟩ := hp i hi
    exact h
/-- A call: its kind, its number, its messages. -/
structure Bo where
  k : Int
  n : Int
  v : Value
  l : List Mt
def Bo.cells (o : Bo) : List Value := [.int .i64 o.k, .int .i64 o.n, o.v]
set_option maxRecDepth 100000 in
theorem bo_cells {n : Nat} {r : List Value} {y : DataW H × List MemPlace} (h : DataW.trod enc Try.prog w base spare held n 33 r = some y) (hr : r.length = 3) : ∃ o : Bo, r = o.cells ∧ MsRaw w o.v o.l := by
  obtain ⟨xs, m, _, _, _, hxl, hf⟩ := DataW.trod_struct Try.underlying33 h
  match r, hr with
  | [a0, a1, a2], _ =>
    have g0 : DataW.trod enc Try.prog w base spare held m 3 (([a0, a1, a2].drop 0).take (Try.prog.cellsOf 3)) = xs[0]? := hf 0 _ rfl
    have g1 : DataW.trod enc Try.prog w base spare held m 3 (([a0, a1, a2].drop 1).take (Try.prog.cellsOf 3)) = xs[1]? := hf 1 _ rfl
    have g2 : DataW.trod enc Try.prog w base spare held m 29 (([a0, a1, a2].drop 2).take (Try.prog.cellsOf 29)) = xs[2]? := hf 2 _ rfl
    have hl : xs.length = 3 := hxl
    rw [List.getElem?_eq_getElem (by omega)] at g0 g1 g2
    have e0c : Try.prog.cellsOf 3 = 1 := by kernel_rfl
    rw [e0c] at g0 g1
    have e1c : Try.prog.cellsOf 29 = 1 := by kernel_rfl
    rw [e1c] at g2
    simp only [List.drop_zero, List.drop_succ_cons, List.take_succ_cons, List.take_zero] at g0 g1 g2
    obtain ⟨z0, e0, _⟩ := DataW.trod_int Try.underlying3 g0
    simp at e0
    subst e0
    obtain ⟨z1, e1, _⟩ := DataW.trod_int Try.underlying3 g1
    simp at e1
    subst e1
    obtain ⟨z2, e2⟩ := openMss g2
    exact ⟨⟨z0, z1, a2, z2⟩, rfl, e2⟩
def boCells (l : List Bo) : List Value := (l.map Bo.cells).flatten
theorem openOps {a : Option Addr} {len cap : Nat} {d : DataW H} {p : List MemPlace} (h : DataW.Trod enc Try.prog w base spare held 22 (.slice a len cap) d p) :
    ∃ l : List Bo, Rd w w.heap.size a (boCells l) ∧ l.length = len ∧ len ≤ cap ∧ cap ≤ maxLen ∧ ∀ o ∈ l, MsRaw w o.v o.l := by
  obtain ⟨rows, h1, h2, h3, h4, h5⟩ := openCells Try.underlying22 (k := 3) (by kernel_rfl) (by omega) h
  obtain ⟨l, hl, hp⟩ := choose_rows (p := fun i (x : Bo) => ∃ r, rows[i]? = some r ∧ r = x.cells ∧ MsRaw w x.v x.l) rows.length (fun i hi => by
    obtain ⟨g1, n, y, g2⟩ := h5 _ (List.getElem_mem hi)
    obtain ⟨x, hx, hes⟩ := bo_cells g2 g1
    exact ⟨x, _, List.getElem?_eq_getElem hi, hx, hes⟩)
  have e := rows_of (enc := Bo.cells) hl (fun i hi => let ⟨r, h1, h2, _⟩ := hp i hi; ⟨r, h1, h2⟩)
  refine ⟨l, ?_, by omega, h3, h4, fun p hp' => ?_⟩
  · unfold boCells
    rw [e]
    exact h1
  · obtain ⟨i, hi, rfl⟩ := List.getElem_of_mem hp'
    obtain ⟨_, _, _, h⟩ := hp i hi
    exact h
/-- A message, a call: as an argument. -/
theorem openMsg {v : Value} {d : DataW H} {p : List MemPlace} {cs : Array Value} (hv : v = .agg cs) (hs : cs.size = Try.prog.cellsOf 47) (h : DataW.Trod enc Try.prog w base spare held 47 v d p) : ∃ q : Mt, v = .agg q.cells.toArray ∧ EsAt w w.heap.size q.v q.es := by
  subst hv
  obtain ⟨n, h⟩ := h
  have e : Try.prog.cellsOf 47 = 23 := by kernel_rfl
  obtain ⟨q, hq, hes⟩ := ms_cells h (by rw [e] at hs; simpa [Value.cells] using hs)
  refine ⟨q, ?_, hes⟩
  have : cs.toList = q.cells := hq
  rw [← this]
theorem openBo {v : Value} {d : DataW H} {p : List MemPlace} {cs : Array Value} (hv : v = .agg cs) (hs : cs.size = Try.prog.cellsOf 33) (h : DataW.Trod enc Try.prog w base spare held 33 v d p) : ∃ q : Bo, v = .agg q.cells.toArray ∧ MsRaw w q.v q.l := by
  subst hv
  obtain ⟨n, h⟩ := h
  have e : Try.prog.cellsOf 33 = 3 := by kernel_rfl
  obtain ⟨q, hq, hes⟩ := bo_cells h (by rw [e] at hs; simpa [Value.cells] using hs)
  refine ⟨q, ?_, hes⟩
  have : cs.toList = q.cells := hq
  rw [← this]
theorem openMsgs {a : Option Addr} {len cap : Nat} {d : DataW H} {p : List MemPlace} (h : DataW.Trod enc Try.prog w base spare held 29 (.slice a len cap) d p) : ∃ l : List Mt, MsRaw w (.slice a len cap) l := by
  obtain ⟨n, h⟩ := h
  exact openMss h
end
end Go.Proofs.Ytbdbimnfknaakaa
