/- What was flushed, and not written since; whatever a crash keeps. -/
import Derived.Test.YtmddpjdgnamlnaaAll07
namespace Go.Proofs.Ytmddpjdgnamlnaa
open Go.RowKit Go.Maps

/-- What a choice leaves of one place: what it is, or what it was. -/
theorem crTo_one (keep : List Bool) (f : Nat → Option Sec) (ks : List Nat) (l : List Sec) (hk : ∀ a ∈ ks, a < l.length ∧ (f a).isSome = true) (m : Nat) (hm : m ≤ ks.length) (j : Nat) :
    (crTo keep f ks l m).getD j Sec.zero = l.getD j Sec.zero ∨ ∃ s, f j = some s ∧ (crTo keep f ks l m).getD j Sec.zero = s := by
  induction m with
  | zero => exact .inl rfl
  | succ m ih =>
    have hml : m < ks.length := by omega
    have ih := ih (by omega)
    simp only [crTo, crStep]
    split
    · exact ih
    · have ha : ks.getD m 0 = ks[m]'hml := by rw [List.getD_eq_getElem?_getD, List.getElem?_eq_getElem hml, Option.getD_some]
      rw [ha]
      obtain ⟨h1, h2⟩ := hk _ (List.getElem_mem hml)
      generalize ks[m]'hml = a at *
      obtain ⟨t, ht⟩ := Option.isSome_iff_exists.1 h2
      by_cases haj : a = j
      · subst haj
        refine .inr ⟨t, ht, ?_⟩
        rw [ht, Option.getD_some, List.getD_eq_getElem?_getD, List.getElem?_set_self (by rw [crTo_len]; exact h1), Option.getD_some]
      · rw [List.getD_eq_getElem?_getD, List.getElem?_set_ne haj, ← List.getD_eq_getElem?_getD]
        exact ih
/-- A place that was flushed as x, and since then written as y at most (where b). -/
def FI (b : Bool) (x y : Sec) (j : Nat) (d : Dk) : Prop :=
  d.now.length = 16 ∧ j < 16 ∧ ((d.was j = none ∧ d.now.getD j Sec.zero = x) ∨ (d.was j = some x ∧ (d.now.getD j Sec.zero = x ∨ b = true ∧ d.now.getD j Sec.zero = y)))
theorem Dk.step_was (d : Dk) : d.step.was = d.was := by
  unfold Dk.step
  split <;> rfl
theorem Dk.write_was (d : Dk) (i : Nat) (s : Sec) : (d.write i s).was = if (d.was i).isSome = true then d.was else setAt d.was i (d.now.getD i Sec.zero) := by
  unfold Dk.write
  rw [Dk.step_was]
  rfl
theorem Dk.flushed_now (d : Dk) : d.flushed.step.now = d.now := by rw [Dk.step_now]; rfl
theorem Dk.flushed_was (d : Dk) : d.flushed.step.was = fun _ => none := by rw [Dk.step_was]; rfl
theorem Dk.crash_down (d : Dk) (keep : List Bool) : (d.crash keep).down = false := rfl
theorem FI.write {b : Bool} {x y : Sec} {j : Nat} {d : Dk} (h : FI b x y j d) (i : Nat) (hi : i ≠ j ∨ b = true) : FI b x y j (d.write i y) := by
  obtain ⟨hn, hj, h⟩ := h
  refine ⟨by rw [Dk.write_now, List.length_set]; exact hn, hj, ?_⟩
  rw [Dk.write_now, Dk.write_was]
  by_cases hij : i = j
  · subst hij
    have hb : b = true := by rcases hi with hi | hi; exact absurd rfl hi; exact hi
    have hy : (d.now.set i y).getD i Sec.zero = y := by
      rw [List.getD_eq_getElem?_getD, List.getElem?_set_self (by omega), Option.getD_some]
    right
    rw [hy]
    refine ⟨?_, .inr ⟨hb, rfl⟩⟩
    rcases h with ⟨h1, h2⟩ | ⟨h1, _⟩
    · rw [h1, if_neg (by simp), setAt_same, h2]
    · rw [h1, if_pos (by simp), h1]
  · have hy : (d.now.set i y).getD j Sec.zero = d.now.getD j Sec.zero := by
      rw [List.getD_eq_getElem?_getD, List.getElem?_set_ne hij, ← List.getD_eq_getElem?_getD]
    have hw : (if (d.was i).isSome = true then d.was else setAt d.was i (d.now.getD i Sec.zero)) j = d.was j := by
      split
      · rfl
      · rw [setAt_other _ _ (Ne.symm hij)]
    rw [hy, hw]
    exact h
theorem FI.crash {b : Bool} {x y : Sec} {j : Nat} {d : Dk} (h : FI b x y j d) (keep : List Bool) : (d.crash keep).now.length = 16 ∧ ((d.crash keep).now.getD j Sec.zero = x ∨ (b = true ∧ (d.crash keep).now.getD j Sec.zero = y)) := by
  obtain ⟨hn, hj, h⟩ := h
  refine ⟨by unfold Dk.crash; rw [crTo_len]; exact hn, ?_⟩
  have hc := crTo_one keep d.was (keysN d.now.length d.was) d.now (fun a ha => keysN_lt ha) _ (Nat.le_refl _) j
  unfold Dk.crash
  simp only
  rcases hc with hc | ⟨s, hs, hc⟩
  · rw [hc]
    rcases h with ⟨_, h⟩ | ⟨_, h⟩
    · exact .inl h
    · exact h
  · rcases h with ⟨h1, _⟩ | ⟨h1, _⟩
    · rw [h1] at hs; cases hs
    · rw [h1] at hs
      rw [hc]
      exact .inl (Option.some.inj hs).symm
section
variable {g gl mb : Nat} {d : Dk} {w : World}
/-- A write, whatever becomes of it, where what it writes may be. -/
theorem write_fi {b : Bool} {x : Sec} {j : Nat} (i : Int) (A : Option Addr) (m c B : Nat) (l : List UInt8) (hl64 : l.length ≤ 64) (h : DiskAt w g gl mb d) (hr : Rd w B A (bv l)) (hl : l.length = m) (hf : FI b x (Sec.of l hl64) j d) (hi : i ≠ (j : Int) ∨ b = true) :
    Calls Try.prog 15 #[.pointer (some ⟨g, 0, none⟩), .int .i64 i, .slice A m c] w fun e w' => RetV e ∧ (∃ d', DiskAt w' g gl mb d' ∧ FI b x (Sec.of l hl64) j d') ∧ Chg (dkS g gl mb) w w' := by
  rcases write_cases i A m c B l h hr hl with ⟨z, _, _, hc⟩ | ⟨k, h64, rfl, _, _, hc⟩
  · refine hc.mono ?_
    rintro e w' ⟨rfl, rfl⟩
    exact ⟨RetV.mk _, ⟨d, h, hf⟩, Chg.refl _ _⟩
  · refine hc.mono ?_
    rintro e w' ⟨rfl, hd, hc⟩
    refine ⟨RetV.mk _, ⟨_, hd, hf.write k ?_⟩, hc⟩
    rcases hi with hi | hi
    · left; intro e; subst e; exact hi rfl
    · exact .inr hi
/-- What is read behind a crash. -/
theorem read_fi {b : Bool} {x y : Sec} {j : Nat} (keep : List Bool) (hj : j < 16) (hf : FI b x y j d) (h : DiskAt w g gl mb (d.crash keep)) :
    ∃ r : Sec, (r = x ∨ b = true ∧ r = y) ∧ Calls Try.prog 19 #[.pointer (some ⟨g, 0, none⟩), .int .i64 j] w fun e w' => e = .returned (.tuple #[.slice (some ⟨w.heap.size, 0, none⟩) 64 64, .int .i64 0]) ∧ Blk w' w.heap.size 68 r.cells ∧ Below w.heap.size w w' := by
  obtain ⟨h1, h2⟩ := hf.crash keep
  have hlt : j < (d.crash keep).now.length := by omega
  refine ⟨_, ?_, read_ok j h hlt⟩
  rw [List.getD_eq_getElem?_getD, List.getElem?_eq_getElem hlt, Option.getD_some] at h2
  exact h2
/-- Refused by a write, or by a Flush: why. -/
theorem why_not {x : Int} {m : Nat} (h : d.now.length = 16) (hw : d.down = true ∨ inD d x = false ∨ 64 < m) (h64 : ¬ 64 < m) : d.down = true ∨ x < 0 ∨ ¬ x < 0 ∧ 16 ≤ x := by
  rcases hw with h1 | h1 | h1
  · exact .inl h1
  · simp [inD, h] at h1
    right
    omega
  · exact absurd h1 h64
end
end Go.Proofs.Ytmddpjdgnamlnaa
