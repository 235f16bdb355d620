/- A crash that keeps nothing, one that keeps all. -/
import Derived.Test.YtmddpjdgnamlnaaFlush07
namespace Go.Proofs.Ytmddpjdgnamlnaa
open Go.RowKit Go.Maps

theorem crTo_all (keep : List Bool) (f : Nat → Option Sec) (ks : List Nat) (l : List Sec) (m : Nat) (h : ∀ j, j < m → keep.getD j false = true) : crTo keep f ks l m = l := by
  induction m with
  | zero => rfl
  | succ m ih =>
    simp only [crTo, crStep]
    rw [if_pos (h m (Nat.lt_succ_self m))]
    exact ih fun j hj => h j (by omega)
theorem crTo_none (f : Nat → Option Sec) (ks : List Nat) (l : List Sec) (hk : ∀ a ∈ ks, a < l.length) (m : Nat) (hm : m ≤ ks.length) (j : Nat) :
    (crTo [] f ks l m).getD j Sec.zero = if j ∈ ks.take m then (f j).getD Sec.zero else l.getD j Sec.zero := by
  induction m with
  | zero => simp [crTo]
  | succ m ih =>
    have hml : m < ks.length := by omega
    have ih := ih (by omega)
    simp only [crTo, crStep]
    rw [if_neg (by simp)]
    have ha : ks.getD m 0 = ks[m]'hml := by rw [List.getD_eq_getElem?_getD, List.getElem?_eq_getElem hml, Option.getD_some]
    rw [ha, List.take_succ_eq_append_getElem hml]
    have h1 := hk _ (List.getElem_mem hml)
    generalize ks[m]'hml = a at *
    by_cases haj : a = j
    · subst haj
      rw [List.getD_eq_getElem?_getD, List.getElem?_set_self (by rw [crTo_len]; exact h1), Option.getD_some, if_pos (by simp)]
    · rw [List.getD_eq_getElem?_getD, List.getElem?_set_ne haj, ← List.getD_eq_getElem?_getD, ih]
      simp [Ne.symm haj]
/-- A disk whose dirty places say what the sectors L were, and that is not down. -/
def WI (L : List Sec) (d : Dk) : Prop :=
  L.length = 16 ∧ d.now.length = 16 ∧ d.down = false ∧ d.stops = false ∧ ∀ j, j < 16 → (d.was j = none → d.now.getD j Sec.zero = L.getD j Sec.zero) ∧ ∀ s, d.was j = some s → s = L.getD j Sec.zero
theorem Dk.step_same {d : Dk} (h : d.stops = false) : d.step = d := by
  unfold Dk.step
  rw [if_neg (by rw [h]; simp)]
theorem WI.write {L : List Sec} {d : Dk} (h : WI L d) (i : Nat) (y : Sec) : WI L (d.write i y) := by
  obtain ⟨hL, hn, hd, hs, hw⟩ := h
  have e : d.write i y = (d.save i (d.now.getD i Sec.zero)).put i y := by
    unfold Dk.write
    exact Dk.step_same hs
  have hwas := Dk.write_was d i y
  have hnow := Dk.write_now d i y
  refine ⟨hL, by rw [hnow, List.length_set]; exact hn, by rw [e]; exact hd, by rw [e]; exact hs, fun j hj => ?_⟩
  rw [hwas, hnow]
  obtain ⟨h1, h2⟩ := hw j hj
  by_cases hij : i = j
  · subst hij
    cases hwi : d.was i with
    | none =>
      rw [if_neg (by simp), setAt_same]
      refine ⟨fun h => (by cases h), fun s h => ?_⟩
      rw [← Option.some.inj h]
      exact h1 hwi
    | some t =>
      rw [if_pos (by simp), hwi]
      refine ⟨fun h => (by cases h), fun s h => ?_⟩
      rw [← Option.some.inj h]
      exact h2 t hwi
  · have hy : (d.now.set i y).getD j Sec.zero = d.now.getD j Sec.zero := by
      rw [List.getD_eq_getElem?_getD, List.getElem?_set_ne hij, ← List.getD_eq_getElem?_getD]
    have hwj : (if (d.was i).isSome = true then d.was else setAt d.was i (d.now.getD i Sec.zero)) j = d.was j := by
      split
      · rfl
      · rw [setAt_other _ _ (Ne.symm hij)]
    rw [hy, hwj]
    exact ⟨h1, h2⟩
theorem WI.crash0 {L : List Sec} {d : Dk} (h : WI L d) : (d.crash []).now = L := by
  obtain ⟨hL, hn, hd, hs, hw⟩ := h
  have hl : (d.crash []).now.length = 16 := by unfold Dk.crash; rw [crTo_len]; exact hn
  have hg : ∀ j, j < 16 → (d.crash []).now.getD j Sec.zero = L.getD j Sec.zero := by
    intro j hj
    unfold Dk.crash
    simp only
    rw [crTo_none _ _ _ (fun a ha => (keysN_lt ha).1) _ (Nat.le_refl _) j, List.take_length]
    obtain ⟨h1, h2⟩ := hw j hj
    split
    · rename_i hm
      obtain ⟨t, ht⟩ := Option.isSome_iff_exists.1 (keysN_lt hm).2
      rw [ht, Option.getD_some]
      exact h2 t ht
    · rename_i hm
      refine h1 ?_
      cases hwj : d.was j with
      | none => rfl
      | some t => exact absurd (show j ∈ keysN d.now.length d.was by simp [keysN, hwj, hn, hj]) hm
  apply List.ext_getElem
  · rw [hl, hL]
  · intro j h1 h2
    have := hg j (by omega)
    rwa [List.getD_eq_getElem?_getD, List.getElem?_eq_getElem h1, Option.getD_some, List.getD_eq_getElem?_getD, List.getElem?_eq_getElem h2, Option.getD_some] at this
theorem WI.crash1 {L : List Sec} {d : Dk} (h : WI L d) : (d.crash (List.replicate 16 true)).now = d.now := by
  unfold Dk.crash
  refine crTo_all _ _ _ _ _ fun j hj => ?_
  have h1 := keysN_len d.now.length d.was
  have h2 := h.2.1
  have h3 : j < 16 := by omega
  rw [List.getD_eq_getElem?_getD, List.getElem?_replicate_of_lt h3, Option.getD_some]
theorem WI.start {d : Dk} (h : d.now.length = 16) : WI (d.crash []).now (d.crash []).flushed.step ∧ (d.crash []).flushed.step.now = (d.crash []).now := by
  have e : (d.crash []).flushed.step = (d.crash []).flushed := Dk.step_same rfl
  have hl : (d.crash []).now.length = 16 := by unfold Dk.crash; rw [crTo_len]; exact h
  rw [e]
  exact ⟨⟨hl, hl, rfl, rfl, fun j _ => ⟨fun _ => rfl, fun s hs => by cases hs⟩⟩, rfl⟩
section
variable {g gl mb : Nat} {d : Dk} {w : World}
theorem write_wi {L : List Sec} (i : Int) (A : Option Addr) (m c B : Nat) (l : List UInt8) (h : DiskAt w g gl mb d) (hr : Rd w B A (bv l)) (hl : l.length = m) (hf : WI L d) :
    Calls Try.prog 15 #[.pointer (some ⟨g, 0, none⟩), .int .i64 i, .slice A m c] w fun e w' => RetV e ∧ (∃ d', DiskAt w' g gl mb d' ∧ WI L d') ∧ Chg (dkS g gl mb) w w' := by
  rcases write_cases i A m c B l h hr hl with ⟨z, _, _, hc⟩ | ⟨k, h64, rfl, _, _, hc⟩
  · refine hc.mono ?_
    rintro e w' ⟨rfl, rfl⟩
    exact ⟨RetV.mk _, ⟨d, h, hf⟩, Chg.refl _ _⟩
  · refine hc.mono ?_
    rintro e w' ⟨rfl, hd, hc⟩
    exact ⟨RetV.mk _, ⟨_, hd, hf.write k _⟩, hc⟩
/-- A script's call in memory, its place and its bytes. -/
theorem do_facts {B : Nat} {A : Option Addr} {l : List Do} {C : Nat} (hr : Rd w C A (doCells l)) (k : Nat) (hk : k < l.length) (ho : (l[k]).at w B) :
    ∃ b off at_ A2 m c2 bs, A = some ⟨b, off, none⟩ ∧ w.drew.cell? ⟨b, off + k * 4 + 1, none⟩ = some (.int .i64 at_) ∧ w.drew.cell? ⟨b, off + k * 4 + 2, none⟩ = some (.slice A2 m c2) ∧ Rd w B A2 (bv bs) ∧ bs.length = m := by
  obtain ⟨b, off, hA, _, hc, _⟩ := rows_load (P := Try.prog) 4 Do.cells (fun _ => rfl) (by omega) l hr k hk
  obtain ⟨⟨A2, m, c2, e1, hr2, hl2⟩, _⟩ := ho
  refine ⟨b, off, _, A2, m, c2, _, hA, hc 1 _ rfl, ?_, hr2, hl2⟩
  rw [← e1]
  exact hc 2 _ rfl
end
end Go.Proofs.Ytmddpjdgnamlnaa
