/- How a script's calls of chapter 7 come in. -/
import Derived.Test.YtmddpjdgnamlnaaCrash
import Derived.Test.YtmddpjdgnamlnaaCells
namespace Go.Proofs.Ytmddpjdgnamlnaa
open Go.RowKit Go.ChangeShapes Go.WideShapes Go.ChangeAt Go.Deep

section
variable {H : Type} {enc : TypeId × Value → H} {w : World} {base : Nat} {spare : Nat → Bool} {held : Bool}
theorem rows_of {α : Type} {enc : α → List Value} {rows : List (List Value)} {l : List α} (hl : l.length = rows.length) (hp : ∀ i (h : i < l.length), ∃ r, rows[i]? = some r ∧ r = enc l[i]) : l.map enc = rows := by
  apply List.ext_getElem
  · simp [hl]
  · intro i g1 g2
    obtain ⟨r, e1, e2⟩ := hp i (by simpa using g1)
    rw [List.getElem?_eq_getElem g2] at e1
    injection e1 with e1
    rw [List.getElem_map, ← e2, ← e1]
theorem slice_form {t e : TypeId} {n : Nat} {v : Value} {y : DataW H × List MemPlace} (ht : Try.prog.underlying t = some (.slice e)) (h : DataW.trod enc Try.prog w base spare held n t [v] = some y) : ∃ A len cap, v = .slice A len cap := by
  rcases open_slice ht h with ⟨e, _⟩ | ⟨x, l, c, _, _, _, _, e, _⟩
  · exact ⟨none, 0, 0, by simpa using e⟩
  · exact ⟨some x, l, c, by simpa using e⟩
/-- A list of bytes, of bools. -/
def BRaw (w : World) (v : Value) (l : List UInt8) : Prop := ∃ A n c, v = .slice A n c ∧ Rd w w.heap.size A (bv l) ∧ l.length = n ∧ n ≤ c ∧ c ≤ maxLen
def KRaw (w : World) (v : Value) (l : List Bool) : Prop := ∃ A n c, v = .slice A n c ∧ Rd w w.heap.size A (tv l) ∧ l.length = n ∧ n ≤ c ∧ c ≤ maxLen
theorem openBs {n : Nat} {v : Value} {y : DataW H × List MemPlace} (h : DataW.trod enc Try.prog w base spare held n 32 [v] = some y) : ∃ l, BRaw w v l := by
  obtain ⟨A, len, cap, rfl⟩ := slice_form Try.underlying32 h
  obtain ⟨d, p⟩ := y
  obtain ⟨l, h1, h2, h3, h4⟩ := openBytes (d := d) (p := p) Try.underlying32 Try.underlying5 (by kernel_rfl) ⟨n, h⟩
  exact ⟨l, A, len, cap, rfl, h1, h2, h3, h4⟩
theorem flat_bools (l : List Bool) : (l.map fun b => [Value.bool b]).flatten = tv l := by
  induction l with
  | nil => rfl
  | cons a l ih => simp only [List.map_cons, List.flatten_cons, ih, tv]; rfl
theorem openBools {a : Option Addr} {len cap : Nat} {d : DataW H} {p : List MemPlace} (h : DataW.Trod enc Try.prog w base spare held 33 (.slice a len cap) d p) :
    ∃ l : List Bool, Rd w w.heap.size a (tv l) ∧ l.length = len ∧ len ≤ cap ∧ cap ≤ maxLen := by
  obtain ⟨rows, h1, h2, h3, h4, h5⟩ := openCells Try.underlying33 (k := 1) (by kernel_rfl) (by omega) h
  obtain ⟨l, hl, hp⟩ := choose_rows (p := fun i (x : Bool) => ∃ r, rows[i]? = some r ∧ r = [Value.bool x]) rows.length (fun i hi => by
    obtain ⟨g1, n, y, g2⟩ := h5 _ (List.getElem_mem hi)
    have e0 : rows[i]? = some (rows[i]'hi) := List.getElem?_eq_getElem hi
    generalize rows[i]'hi = r at *
    match r, g1 with
    | [v], _ =>
      obtain ⟨b, e, _⟩ := DataW.trod_bool Try.underlying4 g2
      exact ⟨b, _, e0, e⟩)
  have e := rows_of (enc := fun b => [Value.bool b]) hl hp
  refine ⟨l, ?_, by omega, h3, h4⟩
  rw [← flat_bools, e]
  exact h1
theorem openKs {n : Nat} {v : Value} {y : DataW H × List MemPlace} (h : DataW.trod enc Try.prog w base spare held n 33 [v] = some y) : ∃ l, KRaw w v l := by
  obtain ⟨A, len, cap, rfl⟩ := slice_form Try.underlying33 h
  obtain ⟨d, p⟩ := y
  obtain ⟨l, h1, h2, h3, h4⟩ := openBools (d := d) (p := p) ⟨n, h⟩
  exact ⟨l, A, len, cap, rfl, h1, h2, h3, h4⟩
structure Do where
  k : Int
  n : Int
  bs : Value
  b : List UInt8
  ks : Value
  kp : List Bool
def Do.cells (o : Do) : List Value := [.int .i64 o.k, .int .i64 o.n, o.bs, o.ks]
def Do.raw (w : World) (o : Do) : Prop := BRaw w o.bs o.b ∧ KRaw w o.ks o.kp
set_option maxRecDepth 100000 in
theorem do_cells {n : Nat} {r : List Value} {y : DataW H × List MemPlace} (h : DataW.trod enc Try.prog w base spare held n 35 r = some y) (hr : r.length = 4) : ∃ o : Do, r = o.cells ∧ o.raw w := by
  obtain ⟨xs, m, _, _, _, hxl, hf⟩ := DataW.trod_struct Try.underlying35 h
  match r, hr with
  | [a0, a1, a2, a3], _ =>
    have g0 : DataW.trod enc Try.prog w base spare held m 3 (([a0, a1, a2, a3].drop 0).take (Try.prog.cellsOf 3)) = xs[0]? := hf 0 _ rfl
    have g1 : DataW.trod enc Try.prog w base spare held m 3 (([a0, a1, a2, a3].drop 1).take (Try.prog.cellsOf 3)) = xs[1]? := hf 1 _ rfl
    have g2 : DataW.trod enc Try.prog w base spare held m 32 (([a0, a1, a2, a3].drop 2).take (Try.prog.cellsOf 32)) = xs[2]? := hf 2 _ rfl
    have g3 : DataW.trod enc Try.prog w base spare held m 33 (([a0, a1, a2, a3].drop 3).take (Try.prog.cellsOf 33)) = xs[3]? := hf 3 _ rfl
    have hl : xs.length = 4 := hxl
    rw [List.getElem?_eq_getElem (by omega)] at g0 g1 g2 g3
    have e0c : Try.prog.cellsOf 3 = 1 := by kernel_rfl
    rw [e0c] at g0 g1
    have e1c : Try.prog.cellsOf 32 = 1 := by kernel_rfl
    rw [e1c] at g2
    have e2c : Try.prog.cellsOf 33 = 1 := by kernel_rfl
    rw [e2c] at g3
    simp only [List.drop_zero, List.drop_succ_cons, List.take_succ_cons, List.take_zero] at g0 g1 g2 g3
    obtain ⟨z0, e0, _⟩ := DataW.trod_int Try.underlying3 g0
    simp at e0
    subst e0
    obtain ⟨z1, e1, _⟩ := DataW.trod_int Try.underlying3 g1
    simp at e1
    subst e1
    obtain ⟨z2, e2⟩ := openBs g2
    obtain ⟨z3, e3⟩ := openKs g3
    exact ⟨⟨z0, z1, a2, z2, a3, z3⟩, rfl, e2, e3⟩
def doCells (l : List Do) : List Value := (l.map Do.cells).flatten
theorem openDos {a : Option Addr} {len cap : Nat} {d : DataW H} {p : List MemPlace} (h : DataW.Trod enc Try.prog w base spare held 22 (.slice a len cap) d p) :
    ∃ l : List Do, Rd w w.heap.size a (doCells l) ∧ l.length = len ∧ len ≤ cap ∧ cap ≤ maxLen ∧ ∀ o ∈ l, o.raw w := by
  obtain ⟨rows, h1, h2, h3, h4, h5⟩ := openCells Try.underlying22 (k := 4) (by kernel_rfl) (by omega) h
  obtain ⟨l, hl, hp⟩ := choose_rows (p := fun i (x : Do) => ∃ r, rows[i]? = some r ∧ r = x.cells ∧ x.raw w) rows.length (fun i hi => by
    obtain ⟨g1, n, y, g2⟩ := h5 _ (List.getElem_mem hi)
    obtain ⟨x, hx, hes⟩ := do_cells g2 g1
    exact ⟨x, _, List.getElem?_eq_getElem hi, hx, hes⟩)
  have e := rows_of (enc := Do.cells) hl (fun i hi => let ⟨r, h1, h2, _⟩ := hp i hi; ⟨r, h1, h2⟩)
  refine ⟨l, ?_, by omega, h3, h4, fun p hp' => ?_⟩
  · unfold doCells
    rw [e]
    exact h1
  · obtain ⟨i, hi, rfl⟩ := List.getElem_of_mem hp'
    obtain ⟨_, _, _, h⟩ := hp i hi
    exact h
theorem openDo {v : Value} {d : DataW H} {p : List MemPlace} {cs : Array Value} (hv : v = .agg cs) (hs : cs.size = Try.prog.cellsOf 35) (h : DataW.Trod enc Try.prog w base spare held 35 v d p) : ∃ q : Do, v = .agg q.cells.toArray ∧ q.raw w := by
  subst hv
  obtain ⟨n, h⟩ := h
  have e : Try.prog.cellsOf 35 = 4 := by kernel_rfl
  obtain ⟨q, hq, hes⟩ := do_cells h (by rw [e] at hs; simpa [Value.cells] using hs)
  refine ⟨q, ?_, hes⟩
  have : cs.toList = q.cells := hq
  rw [← this]
end
theorem BRaw.below {w w' : World} {v : Value} {l : List UInt8} (h : BRaw w v l) (hb : Below w.heap.size w w') : BRaw w' v l := by
  obtain ⟨A, n, c, hv, hr, hl, hc, hm⟩ := h
  exact ⟨A, n, c, hv, (hr.below hb (Nat.le_refl _)).more hb.size, hl, hc, hm⟩
theorem KRaw.below {w w' : World} {v : Value} {l : List Bool} (h : KRaw w v l) (hb : Below w.heap.size w w') : KRaw w' v l := by
  obtain ⟨A, n, c, hv, hr, hl, hc, hm⟩ := h
  exact ⟨A, n, c, hv, (hr.below hb (Nat.le_refl _)).more hb.size, hl, hc, hm⟩
theorem Do.raw.below {w w' : World} {o : Do} (h : o.raw w) (hb : Below w.heap.size w w') : o.raw w' := ⟨h.1.below hb, h.2.below hb⟩
end Go.Proofs.Ytmddpjdgnamlnaa
