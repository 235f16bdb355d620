/- Sectors; the map that holds what dirty ones had. -/
import Derived.Test.YtmddpjdgnamlnaaBlk
import Derived.Test.YtmddpjdgnamlnaaKeys
import Derived.Maps.OwnSet
namespace Go.Proofs.Ytmddpjdgnamlnaa
open Go.RowKit Go.Maps Go.Sort Go.ChangeMaps Go.MapKept

structure Sec where
  l : List UInt8
  h : l.length = 64
def Sec.cells (s : Sec) : List Value := bv s.l
def Sec.v (s : Sec) : Value := .agg s.cells.toArray
theorem Sec.cells_len (s : Sec) : s.cells.length = 64 := by simp [Sec.cells, bv, s.h]
theorem bv_inj {a b : List UInt8} (h : bv a = bv b) : a = b := by
  refine (List.map_inj_right (f := fun c : UInt8 => Value.int .u8 (c.toNat : Int)) ?_).1 h
  intro x y hxy
  injection hxy with _ h3
  exact UInt8.toNat_inj.1 (by omega)
theorem Sec.ext {s t : Sec} (h : s.l = t.l) : s = t := by
  cases s; cases t; cases h; rfl
theorem Sec.v_inj {s t : Sec} (h : s.v = t.v) : s = t := by
  refine Sec.ext (bv_inj ?_)
  have h1 : s.cells.toArray = t.cells.toArray := by injection h
  have h2 := congrArg Array.toList h1
  exact h2
theorem Sec.one (s : Sec) : ∀ u ∈ s.cells, u.oneCell' = true := by
  intro u hu
  simp only [Sec.cells, bv, List.mem_map] at hu
  obtain ⟨c, _, rfl⟩ := hu
  rfl
def Sec.zero : Sec := ⟨List.replicate 64 0, by simp⟩
/-- A sector's bytes: what is given, and bytes 0 behind it. -/
def full (b : List UInt8) : List UInt8 := b ++ List.replicate (64 - b.length) 0
theorem full_len {b : List UInt8} (h : b.length ≤ 64) : (full b).length = 64 := by simp [full]; omega
def Sec.of (b : List UInt8) (h : b.length ≤ 64) : Sec := ⟨full b, full_len h⟩
def secCells (l : List Sec) : List Value := (l.map Sec.cells).flatten
theorem secCells_len (l : List Sec) : (secCells l).length = l.length * 64 := by
  induction l with
  | nil => rfl
  | cons a l ih => simp only [secCells, List.map_cons, List.flatten_cons, List.length_append, Sec.cells_len, List.length_cons] at ih ⊢; rw [ih]; omega
theorem secCells_cons (a : Sec) (l : List Sec) : secCells (a :: l) = a.cells ++ secCells l := rfl
theorem secCells_drop (l : List Sec) (j : Nat) : (secCells l).drop (j * 64) = secCells (l.drop j) := by
  induction l generalizing j with
  | nil => simp [secCells]
  | cons a l ih =>
    cases j with
    | zero => simp
    | succ j => rw [secCells_cons, List.drop_append, List.drop_eq_nil_of_le (by rw [Sec.cells_len]; omega), Sec.cells_len, show (j + 1) * 64 - 64 = j * 64 by omega, ih]; rfl
theorem secCells_take (l : List Sec) (j : Nat) : (secCells l).take (j * 64) = secCells (l.take j) := by
  induction l generalizing j with
  | nil => simp [secCells]
  | cons a l ih =>
    cases j with
    | zero => simp [secCells]
    | succ j =>
      rw [secCells_cons, List.take_append, List.take_of_length_le (by rw [Sec.cells_len]; omega), Sec.cells_len, show (j + 1) * 64 - 64 = j * 64 by omega, ih]
      rfl
theorem secCells_append (l m : List Sec) : secCells (l ++ m) = secCells l ++ secCells m := by simp [secCells]
theorem secCells_at (l : List Sec) (i : Nat) (h : i < l.length) : ((secCells l).drop (i * 64)).take 64 = (l[i]'h).cells := by
  rw [secCells_drop, List.drop_eq_getElem_cons h, secCells_cons, List.take_append_of_le_length (by rw [Sec.cells_len]; exact Nat.le_refl _), List.take_of_length_le (by rw [Sec.cells_len]; exact Nat.le_refl _)]
theorem secCells_set (l : List Sec) (i : Nat) (h : i < l.length) (s : Sec) : (secCells l).take (i * 64) ++ s.cells ++ (secCells l).drop (i * 64 + s.cells.length) = secCells (l.set i s) := by
  rw [Sec.cells_len, show i * 64 + 64 = (i + 1) * 64 by omega, secCells_take, secCells_drop, List.set_eq_take_append_cons_drop, if_pos h, secCells_append, secCells_cons, List.append_assoc]
theorem secCells_one (l : List Sec) : ∀ u ∈ secCells l, u.oneCell' = true := by
  intro u hu
  simp only [secCells, List.mem_flatten, List.mem_map] at hu
  obtain ⟨r, ⟨p, hp, rfl⟩, hu⟩ := hu
  exact p.one u hu

/-- How a sector in the map reads. -/
noncomputable def RS (v : Value) : Option (DataW Unit × List MemPlace) := by
  classical exact if h : ∃ s : Sec, v = s.v then some (.lit (.string (Classical.choose h).l), []) else none
theorem RS_mk (s : Sec) : RS s.v = some (.lit (.string s.l), []) := by
  have h : ∃ t : Sec, s.v = t.v := ⟨s, rfl⟩
  have e : Classical.choose h = s := (Sec.v_inj (Classical.choose_spec h)).symm
  unfold RS
  rw [dif_pos h, e]
theorem RS_inv {v : Value} {l : List UInt8} {ps : List MemPlace} (h : RS v = some (.lit (.string l), ps)) : ∃ s : Sec, v = s.v ∧ s.l = l := by
  unfold RS at h
  split at h
  · rename_i hs
    refine ⟨_, Classical.choose_spec hs, ?_⟩
    simp at h
    exact h.1
  · cases h

/-- What the map says, in words. -/
def Rep (D : DataW Unit) (n : Nat) (f : Nat → Option Sec) : Prop :=
  (∀ x : Int, has D (.int .i64 x) = true → ∃ i : Nat, i < n ∧ x = (i : Int)) ∧
    ∀ i : Nat, i < n → has D (.int .i64 (i : Int)) = (f i).isSome ∧ ∀ s z, f i = some s → D.atKey (.int .i64 (i : Int)) z = .lit (.string s.l)
def setAt (f : Nat → Option Sec) (i : Nat) (s : Sec) : Nat → Option Sec := fun j => if j = i then some s else f j
theorem setAt_same (f : Nat → Option Sec) (i : Nat) (s : Sec) : setAt f i s i = some s := by simp [setAt]
theorem setAt_other (f : Nat → Option Sec) {i j : Nat} (s : Sec) (h : j ≠ i) : setAt f i s j = f j := by simp [setAt, h]
theorem Rep.nil (n : Nat) : Rep (.map []) n (fun _ => none) :=
  ⟨fun x h => by simp [has] at h, fun i _ => ⟨by simp [has], fun s z h => by cases h⟩⟩
theorem Rep.put {D : DataW Unit} {n : Nat} {f : Nat → Option Sec} (h : Rep D n f) (hm : IsMap D) {i : Nat} (hi : i < n) (s : Sec) : Rep (D.put (.int .i64 (i : Int)) (.lit (.string s.l))) n (setAt f i s) := by
  have hk : WideAt.IsKeyLit (.int .i64 (i : Int)) := trivial
  refine ⟨fun x hx => ?_, fun j hj => ?_⟩
  · by_cases hxi : x = (i : Int)
    · exact ⟨i, hi, hxi⟩
    · rw [has_put_other (by intro e; injection e with _ e; exact hxi e)] at hx
      exact h.1 x hx
  · by_cases hji : j = i
    · subst hji
      rw [setAt_same, has_put_same hm hk]
      refine ⟨rfl, fun t z ht => ?_⟩
      cases ht
      exact atKey_put_same hm hk _ _
    · have hne : Lit.int .i64 (j : Int) ≠ .int .i64 (i : Int) := by intro e; injection e with _ e; omega
      rw [setAt_other f s hji, has_put_other hne]
      refine ⟨(h.2 j hj).1, fun t z ht => ?_⟩
      rw [atKey_put_other hne]
      exact (h.2 j hj).2 t z ht

/-- The dirty places, rising. -/
def keysN (n : Nat) (f : Nat → Option Sec) : List Nat := (List.range n).filter fun i => (f i).isSome
theorem keysN_lt {n : Nat} {f : Nat → Option Sec} {i : Nat} (h : i ∈ keysN n f) : i < n ∧ (f i).isSome = true := by simpa [keysN] using h
theorem keysN_len (n : Nat) (f : Nat → Option Sec) : (keysN n f).length ≤ n := by
  have := List.length_filter_le (fun i => (f i).isSome) (List.range n)
  simpa [keysN] using this
theorem keysN_sorted (n : Nat) (f : Nat → Option Sec) : (keysN n f).Pairwise (· < ·) := List.Pairwise.filter _ List.pairwise_lt_range
theorem int_keyed3 : Keyed Try.prog 3 := int_keyed (Try.underlying3)
section
variable {w : World} {mb n N : Nat} {D : DataW Unit} {f : Nat → Option Sec}
theorem keys_perm (hown : w.ownsMap Try.prog 3 RS mb N D) (h : Rep D n f) : ((keysN n f).map fun i : Nat => (i : Int)).Perm (intKeys D) := by
  obtain ⟨es, hD, hpw, _⟩ := hown.entries int_keyed3
  obtain ⟨es', hD', hko⟩ := hown.keysOf
  obtain rfl : es = es' := by rw [hD] at hD'; simpa using hD'
  subst hD
  refine perm_intKeys hpw (fun p hp => by obtain ⟨v, hv⟩ := hko p hp; obtain ⟨x, _, hx, _⟩ := Maps.keyOf_i64 Try.underlying3 hv; exact ⟨x, hx⟩) ?_ (fun x => ?_)
  · refine List.pairwise_map.2 ((keysN_sorted n f).imp fun {a b} hab => by omega)
  · rw [List.mem_map]
    constructor
    · rintro ⟨i, hi, rfl⟩
      obtain ⟨h1, h2⟩ := keysN_lt hi
      rw [(h.2 i h1).1]
      exact h2
    · intro hx
      obtain ⟨i, hi, rfl⟩ := h.1 x hx
      refine ⟨i, ?_, rfl⟩
      rw [(h.2 i hi).1] at hx
      simp [keysN, hi, hx]
theorem keys_sorted (hown : w.ownsMap Try.prog 3 RS mb N D) (h : Rep D n f) {ss : List Int} (hs : ss.Perm (intKeys D)) : (ss.mergeSort fun x y => decide (x ≤ y)) = (keysN n f).map fun i : Nat => (i : Int) := by
  have h1 := mergeSort_of_perm_i (hs.trans (keys_perm hown h).symm)
  rw [show (ss.mergeSort fun x y => decide (x ≤ y)) = ss.mergeSort leI from rfl, h1]
  refine List.mergeSort_of_pairwise (List.pairwise_map.2 ((keysN_sorted n f).imp fun {a b} hab => ?_))
  simp [leI]
  omega
theorem size_rep (hown : w.ownsMap Try.prog 3 RS mb N D) (h : Rep D n f) : size D ≤ n := by
  have h1 := (keys_perm hown h).length_eq
  obtain ⟨es, hD, _⟩ := hown.entries int_keyed3
  subst hD
  have h2 : size (.map es : DataW Unit) = (intKeys (.map es : DataW Unit)).length := by simp [size, intKeys]
  rw [h2, ← h1, List.length_map]
  exact keysN_len n f
theorem own_tight (h : w.ownsMap Try.prog 3 RS mb N D) : w.ownsMap Try.prog 3 RS mb (size D) D := by
  obtain ⟨es, clock, hb, F, hs, hD⟩ := h
  refine ⟨es, clock, hb, F, ?_, hD⟩
  subst hD
  simp [size, length_sorted]
end
/-- The map of a disk. -/
def MapAt (w : World) (mb n : Nat) (f : Nat → Option Sec) : Prop := ∃ D : DataW Unit, w.ownsMap Try.prog 3 RS mb (size D) D ∧ Rep D n f
theorem MapAt.lt {w : World} {mb n : Nat} {f : Nat → Option Sec} (h : MapAt w mb n f) : mb < w.heap.size := by
  obtain ⟨D, h, _⟩ := h
  exact h.lt
theorem MapAt.same {w w' : World} {mb n : Nat} {f : Nat → Option Sec} (h : MapAt w mb n f) (hb : w'.heap[mb]? = w.heap[mb]?) : MapAt w' mb n f := by
  obtain ⟨D, ⟨es, clock, h1, r⟩, h2⟩ := h
  exact ⟨D, ⟨es, clock, hb.trans h1, r⟩, h2⟩
theorem MapAt.not_blk {w : World} {mb n : Nat} {f : Nat → Option Sec} (h : MapAt w mb n f) {g : Nat} {t : TypeId} {cs : List Value} (hb : Blk w g t cs) : g ≠ mb := by
  rintro rfl
  obtain ⟨D, ⟨es, clock, h1, r⟩, h2⟩ := h
  have := (show w.heap[g]? = _ from hb).symm.trans h1
  simp at this
theorem zero68 (w : World) : (zeroValue 68).run Try.prog w = .ok Sec.zero.v w := Try.zeroValue68 w
/-- 'clear(m)'. -/
theorem clear_map {w : World} {mb n : Nat} {f : Nat → Option Sec} (h : MapAt w mb n f) (ty : TypeId) : ∃ w', Sem.run Try.prog (Builtin.clear_ #[51] ty #[.map (some mb)]) w = .ok (.tuple #[]) w' ∧ MapAt w' mb n (fun _ => none) ∧ w.grownBy w' (some mb) := by
  obtain ⟨D, ⟨es, clock, hb, _⟩, _⟩ := h
  refine ⟨setBlock w mb (.map #[] clock), ?_, ?_, ?_⟩
  · have hu : (underlying 51).run Try.prog w = .ok (.map 3 68) w := by simp [run_underlying Try.underlying51]
    unfold Builtin.clear_
    simp only [Sem.run_bind, hu, Result.andThen_ok, List.getElem?_toArray, List.getElem?_cons_zero, MapKept.run_getObj_map hb, MapKept.run_setObj_map _ hb, Sem.run_pure]
    rfl
  · refine ⟨.map [], ⟨#[], clock, heap_setBlock_same hb _, ?_, Nat.le_refl _, rfl⟩, Rep.nil n⟩
    exact ⟨by simp, by simp [MapKept.Stamped], by simp⟩
  · exact ⟨rfl, rfl, rfl, by simp [setBlock], fun i _ hi => heap_setBlock_other hb _ (fun e => hi (by rw [e]))⟩
theorem grown_chg {w w' : World} {b : Nat} (h : w.grownBy w' (some b)) : Chg (fun k => k = b) w w' :=
  ⟨h.os, h.tape, h.output, h.size, fun k hk hn => h.block k hk (by intro e; injection e with e; exact hn e)⟩
end Go.Proofs.Ytmddpjdgnamlnaa
