/- How a slice of structs comes in: the rows of cells of its elements. -/
import Derived.Test.YtmddpjdgnamlnaaOpen
import Derived.Deep.Slices
import Derived.ChangeArms
namespace Go.Proofs.Ytmddpjdgnamlnaa
open Go.RowKit Go.ChangeShapes Go.WideShapes Go.ChangeAt Go.Deep

theorem flatten_at {α : Type} (k : Nat) : ∀ (rows : List (List α)), (∀ r ∈ rows, r.length = k) → ∀ (i t : Nat) (hi : i < rows.length), t < k → rows.flatten[i * k + t]? = (rows[i])[t]?
  | [], _, i, t, hi, _ => absurd hi (by simp)
  | r :: rs, h, 0, t, _, ht => by
    rw [List.flatten_cons, Nat.zero_mul, Nat.zero_add, List.getElem?_append_left (by rw [h r (by simp)]; exact ht)]
    rfl
  | r :: rs, h, i + 1, t, hi, ht => by
    have hr := h r (by simp)
    rw [List.flatten_cons, List.getElem?_append_right (by rw [hr, Nat.add_mul]; omega), hr]
    rw [show (i + 1) * k + t - k = i * k + t by rw [Nat.add_mul]; omega]
    exact flatten_at k rs (fun x hx => h x (by simp [hx])) i t (by simpa using hi) ht
theorem flatten_len {α : Type} (k : Nat) : ∀ (rows : List (List α)), (∀ r ∈ rows, r.length = k) → rows.flatten.length = rows.length * k
  | [], _ => by simp
  | r :: rs, h => by
    rw [List.flatten_cons, List.length_append, h r (by simp), flatten_len k rs (fun x hx => h x (by simp [hx])), List.length_cons, Nat.add_mul]
    omega

section
variable {H : Type} {enc : TypeId × Value → H} {P : Program} {w : World} {base : Nat} {spare : Nat → Bool} {held : Bool}

theorem choose_rows {α : Type} {p : Nat → α → Prop} : ∀ n, (∀ i, i < n → ∃ x, p i x) → ∃ l : List α, l.length = n ∧ ∀ i (h : i < l.length), p i l[i]
  | 0, _ => ⟨[], rfl, fun i h => absurd h (by simp)⟩
  | n + 1, h => by
    obtain ⟨l, hl, hp⟩ := choose_rows n fun i hi => h i (by omega)
    obtain ⟨x, hx⟩ := h n (by omega)
    refine ⟨l ++ [x], by simp [hl], fun i hi => ?_⟩
    by_cases hin : i < l.length
    · rw [List.getElem_append_left hin]; exact hp i hin
    · have : i = n := by simp at hi; omega
      subst this
      simpa [List.getElem_append_right, hl] using hx

/-- A slice of elements of k cells each. -/
theorem openCells {t e : TypeId} {k : Nat} {a : Option Addr} {len cap : Nat} {d : DataW H} {p : List MemPlace} (ht : P.underlying t = some (.slice e)) (hc : P.cellsOf e = k) (hk : 0 < k)
    (h : DataW.Trod enc P w base spare held t (.slice a len cap) d p) :
    ∃ rows : List (List Value), Rd w w.heap.size a rows.flatten ∧ rows.length = len ∧ len ≤ cap ∧ cap ≤ maxLen ∧ ∀ r ∈ rows, r.length = k ∧ ∃ n y, DataW.trod enc P w base spare held n e r = some y := by
  obtain ⟨fuel, hf⟩ := h
  rcases open_slice ht hf with ⟨hcs, _⟩ | ⟨x, l, c, m, n, D, Pl, hcs, _, hl, hm, hmm, _, hi⟩
  · simp [Value.cells] at hcs
    obtain ⟨rfl, rfl, rfl⟩ := hcs
    exact ⟨[], Rd.nil, rfl, Nat.le_refl _, by unfold maxLen; omega, by simp⟩
  · simp [Value.cells] at hcs
    obtain ⟨rfl, rfl, rfl⟩ := hcs
    have hlm : len ≤ m := by rw [hmm]; split <;> omega
    rw [hc] at hi
    obtain ⟨rows, hrl, hrows⟩ := choose_rows (p := fun i (r : List Value) => (r.length = k ∧ ∀ j, j < k → w.cell? (x.add (i * k + j)) = r[j]?) ∧ ∃ y, DataW.trod enc P w base spare held n e r = some y) len (fun i hin => by
      obtain ⟨cs', h1, h2⟩ := hi i (by omega)
      obtain ⟨_, h4, h5⟩ := World.cells?_some h1
      refine ⟨cs', ⟨h4, fun j hj => ?_⟩, _, h2⟩
      have := h5 j hj
      rw [add_add] at this
      exact this)
    have hall : ∀ r ∈ rows, r.length = k := fun r hr => by
      obtain ⟨i, hin, rfl⟩ := List.getElem_of_mem hr
      exact (hrows i hin).1.1
    refine ⟨rows, ?_, hrl, hl, hm, fun r hr => ?_⟩
    · by_cases h0 : len = 0
      · have : rows = [] := List.eq_nil_of_length_eq_zero (by omega)
        subst this
        exact .inl rfl
      · obtain ⟨⟨g1, g2⟩, _⟩ := hrows 0 (by omega)
        have g3 := g2 0 hk
        rw [List.getElem?_eq_getElem (by omega)] at g3
        simp only [Nat.zero_mul, Nat.add_zero] at g3
        obtain ⟨b, off, rfl⟩ := addr_flat g3 ⟨_, g3⟩
        refine .inr ⟨b, off, rfl, ?_, fun j u hu => ?_⟩
        · have := World.block_lt_of_cell? w _ g3
          simpa [Addr.add] using this
        · have hj : j < rows.flatten.length := (List.getElem?_eq_some_iff.1 hu).1
          rw [flatten_len k rows hall, hrl] at hj
          have hjk : j / k < len := Nat.div_lt_of_lt_mul (by rw [Nat.mul_comm]; exact hj)
          have hjm : j % k < k := Nat.mod_lt _ hk
          have e1 : j / k * k + j % k = j := by rw [Nat.mul_comm]; exact Nat.div_add_mod j k
          have g4 := (hrows (j / k) (by omega)).1.2 (j % k) hjm
          rw [e1, Addr.add_lit] at g4
          rw [g4, ← flatten_at k rows hall (j / k) (j % k) (by omega) hjm, e1]
          exact hu
    · obtain ⟨i, hin, rfl⟩ := List.getElem_of_mem hr
      obtain ⟨⟨g1, _⟩, y, g2⟩ := hrows i hin
      exact ⟨g1, n, y, g2⟩
end
end Go.Proofs.Ytmddpjdgnamlnaa
