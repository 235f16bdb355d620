/- How the arguments of a law come in: a slice of bytes, of ints, of texts, as the list that it reads. -/
import Derived.Test.YtehhgpnaemffnaaDoorBase
import Derived.SliceStrings
import Derived.Deep.Strs
namespace Go.Proofs.YtehhgpnaemffnaaDoor
open Go.RowKit Go.ChangeShapes Go.WideShapes Go.ChangeAt

theorem own : ownKnob Tryd.prog.godebug = none := by kernel_rfl
theorem laidOut : laidOutB Tryd.prog = true := by kernel_rfl

theorem addr_flat {w : World} {x : Addr} {i : Nat} {v : Value} (h : w.cell? (x.add i) = some v) (h0 : ∃ u, w.cell? (x.add 0) = some u) : ∃ b off, x = ⟨b, off, none⟩ := by
  obtain ⟨u, hu⟩ := h0
  obtain ⟨b, off, spot⟩ := x
  have : spot = none := by simpa [Addr.add] using World.cell?_spot hu
  subst this
  exact ⟨b, off, rfl⟩

section
variable {H : Type} {enc : TypeId × Value → H} {P : Program} {w : World} {base : Nat} {spare : Nat → Bool} {held : Bool}

/-- Cells that are known one by one, as a read list. -/
theorem rd_of_cells {f : Nat → Value} {x : Addr} {n : Nat} (h : ∀ i, i < n → w.cell? (x.add i) = some (f i)) : Rd w w.heap.size (some x) ((List.range n).map f) := by
  cases n with
  | zero => exact .inl rfl
  | succ n =>
    obtain ⟨b, off, rfl⟩ := addr_flat (h 0 (by omega)) ⟨_, h 0 (by omega)⟩
    refine .inr ⟨b, off, rfl, ?_, fun j u hu => ?_⟩
    · have := World.block_lt_of_cell? w _ (h 0 (by omega))
      simpa [Addr.add] using this
    · obtain ⟨hj, rfl⟩ := List.getElem?_eq_some_iff.1 hu
      simp only [List.length_map, List.length_range] at hj
      have := h j hj
      rw [Addr.add_lit] at this
      simpa using this

theorem openInts {t e : TypeId} {k : IntKind} {a : Option Addr} {len cap : Nat} {d : DataW H} {p : List MemPlace} (ht : P.underlying t = some (.slice e)) (he : P.underlying e = some (.int k)) (hc : P.cellsOf e = 1)
    (h : DataW.Trod enc P w base spare held t (.slice a len cap) d p) :
    ∃ l : List Int, Rd w w.heap.size a (l.map (Value.int k)) ∧ l.length = len ∧ len ≤ cap ∧ cap ≤ maxLen ∧ ∀ n ∈ l, (Lit.int k n).wf = true := by
  obtain ⟨fuel, hf⟩ := h
  rcases open_ints ht he hc hf with ⟨hcs, _⟩ | ⟨x, l, c, zs, hcs, _, hl, hm, hz, _, hcell, hwz⟩
  · simp [Value.cells] at hcs
    obtain ⟨rfl, rfl, rfl⟩ := hcs
    exact ⟨[], Rd.nil, rfl, Nat.le_refl _, by unfold maxLen; omega, by simp⟩
  · simp [Value.cells] at hcs
    obtain ⟨rfl, rfl, rfl⟩ := hcs
    have hzl : len ≤ zs.length := by rw [hz]; split <;> omega
    have e1 : (List.range len).map (fun i => Value.int k (zs.getD i 0)) = (zs.take len).map (Value.int k) := by
      apply List.ext_getElem
      · simp; omega
      · intro i h1 h2
        simp at h1
        simp [List.getD, show i < zs.length by omega]
    refine ⟨zs.take len, ?_, by simp; omega, hl, hm, fun n hn => hwz n (List.mem_of_mem_take hn)⟩
    rw [← e1]
    exact rd_of_cells fun i hi => hcell i (by omega)

theorem wf_u8 {n : Int} (h : (Lit.int .u8 n).wf = true) : ((UInt8.ofNat n.toNat).toNat : Int) = n := by
  have h2 : 0 ≤ n ∧ n ≤ 255 := bounds_u8 h
  simp
  omega

theorem openBytes {t e : TypeId} {a : Option Addr} {len cap : Nat} {d : DataW H} {p : List MemPlace} (ht : P.underlying t = some (.slice e)) (he : P.underlying e = some (.int .u8)) (hc : P.cellsOf e = 1)
    (h : DataW.Trod enc P w base spare held t (.slice a len cap) d p) :
    ∃ l : List UInt8, Rd w w.heap.size a (bv l) ∧ l.length = len ∧ len ≤ cap ∧ cap ≤ maxLen := by
  obtain ⟨l, h1, h2, h3, h4, h5⟩ := openInts ht he hc h
  refine ⟨l.map fun n => UInt8.ofNat n.toNat, ?_, by simpa using h2, h3, h4⟩
  have e : bv (l.map fun n => UInt8.ofNat n.toNat) = l.map (Value.int .u8) := by
    unfold bv
    rw [List.map_map]
    apply List.map_congr_left
    intro n hn
    simp only [Function.comp]
    rw [wf_u8 (h5 n hn)]
  rw [e]
  exact h1

/-- The cells of a list of texts. -/
def sv (l : List ByteArray) : List Value := l.map Value.string
theorem sv_at (l : List ByteArray) (i : Nat) (h : i < l.length) : (sv l)[i]? = some (.string l[i]) := by simp [sv, h]
theorem openStrings {t e : TypeId} {a : Option Addr} {len cap : Nat} {d : DataW H} {p : List MemPlace} (ht : P.underlying t = some (.slice e)) (he : P.underlying e = some .string) (hc : P.cellsOf e = 1)
    (h : DataW.Trod enc P w base spare held t (.slice a len cap) d p) :
    ∃ l : List ByteArray, Rd w w.heap.size a (sv l) ∧ l.length = len ∧ len ≤ cap ∧ cap ≤ maxLen ∧ ∀ s ∈ l, s.size ≤ maxLen := by
  obtain ⟨fuel, hf⟩ := h
  rcases open_strings ht he hc hf with ⟨hcs, _⟩ | ⟨x, l, c, zs, hcs, _, hl, hm, hz, _, hcell, hwz⟩
  · simp [Value.cells] at hcs
    obtain ⟨rfl, rfl, rfl⟩ := hcs
    exact ⟨[], Rd.nil, rfl, Nat.le_refl _, by unfold maxLen; omega, by simp⟩
  · simp [Value.cells] at hcs
    obtain ⟨rfl, rfl, rfl⟩ := hcs
    have hzl : len ≤ zs.length := by rw [hz]; split <;> omega
    have e1 : (List.range len).map (fun i => Value.string (zs.getD i ByteArray.empty)) = sv (zs.take len) := by
      unfold sv
      apply List.ext_getElem
      · simp; omega
      · intro i h1 h2
        simp at h1
        simp [List.getD, show i < zs.length by omega]
    refine ⟨zs.take len, ?_, by simp; omega, hl, hm, fun n hn => hwz n (List.mem_of_mem_take hn)⟩
    rw [← e1]
    exact rd_of_cells fun i hi => hcell i (by omega)
end
end Go.Proofs.YtehhgpnaemffnaaDoor
