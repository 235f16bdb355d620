/- Blocks of cells: whole loads, whole stores; a world that changed in a few blocks. -/
import Derived.Test.YtehhgpnaemffnaaDoorMono
import Derived.Laws.Tables
import Derived.Laws.Cells
namespace Go.Proofs.YtehhgpnaemffnaaDoor
open Go.RowKit

/-- A block with just these cells. -/
def Blk (W : World) (g : Nat) (t : TypeId) (cs : List Value) : Prop := W.heap[g]? = some (.cells cs.toArray t (0, 0))
section
variable {W W' : World} {g g' : Nat} {t : TypeId} {cs cs' : List Value}
theorem Blk.lt (h : Blk W g t cs) : g < W.heap.size := (Array.getElem?_eq_some_iff.1 h).1
theorem Blk.cell (h : Blk W g t cs) (j : Nat) : W.cell? ⟨g, j, none⟩ = cs[j]? := by
  simp [World.cell?, show W.heap[g]? = _ from h]
theorem Blk.frozen (h : Blk W g t cs) (j : Nat) : W.frozen? ⟨g, j, none⟩ = false := by simp [World.frozen?, show W.heap[g]? = _ from h]
theorem Blk.new (W : World) (t : TypeId) (cs : List Value) : Blk (W.alloc (.cells cs.toArray t)) W.heap.size t cs := heap_alloc_new W _
theorem Blk.alloc (h : Blk W g t cs) (o : Obj) : Blk (W.alloc o) g t cs := (Below.heap_alloc W o g h.lt).trans h
theorem Blk.below {C : Nat} (h : Blk W g t cs) (hb : Below C W W') (hg : g < C) : Blk W' g t cs := (hb.block g hg).trans h
theorem Blk.load {P : Program} (h : Blk W g t cs) {k : Nat} (hk : cs.length = k) : Sem.run P (loadCellsFrom ⟨g, 0, none⟩ 0 k #[]) W = .ok cs.toArray W := by
  have := run_loadCells_list (P := P) (w := W) ⟨g, 0, none⟩ cs (fun j v hv => by
    rw [Addr.add_lit, Nat.zero_add, h.cell]
    exact hv)
  rw [hk] at this
  simpa [loadCells] using this
/-- Some cells out of the middle. -/
theorem Blk.loadOff {P : Program} (h : Blk W g t cs) (o k : Nat) (xs : List Value) (hx : (cs.drop o).take k = xs) (hk : xs.length = k) : Sem.run P (loadCellsFrom ⟨g, o, none⟩ 0 k #[]) W = .ok xs.toArray W := by
  have := run_loadCells_list (P := P) (w := W) ⟨g, o, none⟩ xs (fun j v hv => by
    rw [Addr.add_lit, h.cell]
    rw [← hx, List.getElem?_take] at hv
    split at hv
    · rw [List.getElem?_drop] at hv; exact hv
    · cases hv)
  rw [hk] at this
  simpa [loadCells] using this
theorem Blk.store {P : Program} (h : Blk W g t cs) (hl : cs'.length = cs.length) (h1 : ∀ u ∈ cs', u.oneCell' = true) : Sem.run P (storeCells ⟨g, 0, none⟩ cs' 0) W = .ok () (W.setRow g cs'.toArray) := by
  have := run_storeCells_from (P := P) g t cs' 0 cs.toArray W h (by simp [hl]) h1
  simpa using this
/-- A whole struct out of its block, and into it: as the walk meets them. -/
theorem Blk.loadVar {P : Program} (h : Blk W g t cs) {ty : TypeId} {d : TypeDesc} (hu : P.underlying ty = some d) (hd : (match d with | .struct _ | .array _ _ => true | _ => false) = true) (hi : (P.info? ty).map (·.size) = some cs.toArray.size) :
    Sem.run P (Go.loadVar ty ⟨g, 0, none⟩) W = .ok (.agg cs.toArray) W := run_loadVar_row W g t ty cs.toArray (0, 0) d h hu hd hi
theorem Blk.loadAt {P : Program} (h : Blk W g t cs) {ty : TypeId} {d : TypeDesc} (hu : P.underlying ty = some d) (hd : (match d with | .struct _ | .array _ _ => true | _ => false) = true) (hi : (P.info? ty).map (·.size) = some cs.toArray.size) :
    Sem.run P (Instr.loadAt ty (.pointer (some ⟨g, 0, none⟩))) W = .ok (.agg cs.toArray) W := by
  simp only [Instr.loadAt, Instr.sureAddr, Sem.run_bind, Sem.run_pure, Result.andThen]
  exact h.loadVar hu hd hi
theorem Blk.storeVar {P : Program} (h : Blk W g t cs) {ty : TypeId} (hi : (P.info? ty).map (·.size) = some cs'.toArray.size) (hl : cs.toArray.size = cs'.toArray.size) (h1 : cs'.toArray.all (·.oneCell') = true) :
    Sem.run P (Go.storeVar ty ⟨g, 0, none⟩ (.agg cs'.toArray)) W = .ok () (W.setRow g cs'.toArray) := run_storeVar_row W g t ty cs.toArray cs'.toArray h hi hl h1
theorem Blk.storeAt {P : Program} (h : Blk W g t cs) {ty : TypeId} (hi : (P.info? ty).map (·.size) = some cs'.toArray.size) (hl : cs.toArray.size = cs'.toArray.size) (h1 : cs'.toArray.all (·.oneCell') = true) :
    Sem.run P (Instr.storeAt ty (.pointer (some ⟨g, 0, none⟩)) (.agg cs'.toArray)) W = .ok () (W.setRow g cs'.toArray) := by
  simp only [Instr.storeAt, Instr.sureAddr, Sem.run_bind, Sem.run_pure, Result.andThen]
  exact h.storeVar hi hl h1
theorem Blk.set (h : Blk W g t cs) (cs' : List Value) : Blk (W.setRow g cs'.toArray) g t cs' := setRow_heap W g _ _ t _ h
theorem Blk.setCell (h : Blk W g t cs) (j : Nat) (u : Value) : Blk (W.setCell ⟨g, j, none⟩ u) g t (cs.set j u) := by
  have e := setCell_eq_setRow W g j cs.toArray t (0, 0) u h
  rw [e]
  have := setRow_heap W g _ (cs.toArray.setIfInBounds j u) t _ h
  unfold Blk
  rw [this]
  simp
theorem Blk.other (h : Blk W g t cs) (hne : g ≠ g') (x : Array Value) : Blk (W.setRow g' x) g t cs := (setRow_other W g' g x hne).trans h
theorem Blk.otherCell (h : Blk W g t cs) (hne : g ≠ g') (j : Nat) (u : Value) : Blk (W.setCell ⟨g', j, none⟩ u) g t cs := (Below.heap_setCell W _ u g hne).trans h
end
theorem below_setRow {B : Nat} {a w : World} (h : Below B a w) {g : Nat} (hg : B ≤ g) (x : Array Value) : Below B a (w.setRow g x) :=
  h.trans ⟨rfl, rfl, rfl, by simp, fun k hk => setRow_other w g k x (by omega)⟩

/-- A row from base on is as it was where all from base on is. -/
theorem own_from {base : Nat} {e : TypeId} {size n : Nat} {v : Value} {xs : List Value} {w w' : World} (h : w.ownsRow base e size v n xs) (hb : ∀ k, base ≤ k → k < w.heap.size → w'.heap[k]? = w.heap[k]?) : w'.ownsRow base e size v n xs := by
  refine ⟨h.1, ?_⟩
  rcases h.2 with h2 | ⟨g, cap, cur, hv, hb2, hg, r⟩
  · exact .inl h2
  · exact .inr ⟨g, cap, cur, hv, hb2, (hb g hb2 (Array.getElem?_eq_some_iff.1 hg).1).trans hg, r⟩
/-- A store of one cell, where the walk does not unfold stores of many. -/
theorem storeCells_one {P : Program} (a : Addr) (v : Value) (w : World) : Sem.run P (storeCells a [v] 0) w = Sem.run P (store (a.add 0) v) w := by
  simp only [storeCells, Sem.run_bind]
  cases Sem.run P (store (a.add 0) v) w <;> simp [Result.andThen]

/-- A world in which, of what was there, these blocks alone may be others. -/
structure Chg (S : Nat → Prop) (w w' : World) : Prop where
  os : w'.os = w.os
  tape : w'.tape = w.tape
  output : w'.output = w.output
  size : w.heap.size ≤ w'.heap.size
  block : ∀ k, k < w.heap.size → ¬ S k → w'.heap[k]? = w.heap[k]?
section
variable {S T : Nat → Prop} {a b c w w' : World} {B g : Nat}
theorem Chg.refl (S : Nat → Prop) (w : World) : Chg S w w := ⟨rfl, rfl, rfl, Nat.le_refl _, fun _ _ _ => rfl⟩
theorem Chg.trans (h : Chg S a b) (k : Chg T b c) (hT : ∀ i, i < a.heap.size → T i → S i) : Chg S a c :=
  ⟨k.os.trans h.os, k.tape.trans h.tape, k.output.trans h.output, Nat.le_trans h.size k.size, fun i hi hn => (k.block i (Nat.lt_of_lt_of_le hi h.size) fun ht => hn (hT i hi ht)).trans (h.block i hi hn)⟩
theorem Chg.mono (h : Chg S a b) (hS : ∀ i, i < a.heap.size → S i → T i) : Chg T a b := ⟨h.os, h.tape, h.output, h.size, fun i hi hn => h.block i hi fun hs => hn (hS i hi hs)⟩
theorem Chg.of_below (h : Below a.heap.size a b) : Chg S a b := ⟨h.os, h.tape, h.output, h.size, fun k hk _ => h.block k hk⟩
theorem Chg.below (h : Chg S a b) (hS : ∀ i, S i → B ≤ i) (hB : B ≤ a.heap.size) : Below B a b := ⟨h.os, h.tape, h.output, h.size, fun k hk => h.block k (by omega) fun hs => by have := hS k hs; omega⟩
theorem Chg.then (h : Chg S a b) (k : Below b.heap.size b c) : Chg S a c := h.trans (T := S) (Chg.of_below k) fun _ _ h => h
theorem Chg.setRow (h : Chg S a w) (hg : a.heap.size ≤ g ∨ S g) (x : Array Value) : Chg S a (w.setRow g x) :=
  ⟨h.os, h.tape, h.output, by have := h.size; simpa using this, fun k hk hn => (setRow_other w g k x (by rintro rfl; rcases hg with hg | hg; omega; exact hn hg)).trans (h.block k hk hn)⟩
theorem Chg.setCell (h : Chg S a w) (hg : a.heap.size ≤ g ∨ S g) (j : Nat) (u : Value) : Chg S a (w.setCell ⟨g, j, none⟩ u) :=
  ⟨h.os, h.tape, h.output, by have := h.size; simpa [World.setCell] using this, fun k hk hn => (Below.heap_setCell w _ u k (by rintro rfl; rcases hg with hg | hg; omega; exact hn hg)).trans (h.block k hk hn)⟩
theorem Chg.alloc (h : Chg S a w) (o : Obj) : Chg S a (w.alloc o) :=
  ⟨h.os, h.tape, h.output, by have := h.size; simp; omega, fun k hk hn => (Below.heap_alloc w o k (by have := h.size; omega)).trans (h.block k hk hn)⟩
theorem Chg.drew (h : Chg S a w) : Chg S a w.drew := ⟨h.os, h.tape, h.output, h.size, h.block⟩
theorem Chg.drewN (h : Chg S a w) (n : Nat) : Chg S a (w.drewN n) := ⟨h.os, h.tape, h.output, h.size, h.block⟩
theorem Blk.chg {t : TypeId} {cs : List Value} (h : Blk a g t cs) (hc : Chg S a b) (hn : ¬ S g) : Blk b g t cs := (hc.block g h.lt hn).trans h
end
end Go.Proofs.YtehhgpnaemffnaaDoor
