/- Writing over messages: it turns no block but theirs. -/
import Derived.Test.YtbdbimnfknaakaaLarge
namespace Go.Proofs.Ytbdbimnfknaakaa
open Go.RowKit
attribute [-go_sem] loadCellsFrom storeCells
attribute [local go_sem] storeCells_one Mt.cells_len

section
variable {w : World} {S : Nat → Prop} {e : TypeId} {k n : Nat} {v : Value} {xs : List Value}
/-- A cell of a row. -/
theorem ORow.cellAt {g off cap : Nat} (h : ORow w S e k (.slice (some ⟨g, off, none⟩) n cap) n xs) (j : Nat) (hj : j < n * k) : w.cell? ⟨g, off + j, none⟩ = some (xs[j]'(by rw [h.1]; exact hj)) ∧ w.frozen? ⟨g, off + j, none⟩ = false := by
  have hl := h.1
  rcases h.2 with ⟨hv, _⟩ | ⟨g', off', cap', cur, hv, hs, hg, hn, hm, hsz, ht⟩
  · cases hv
  · cases hv
    constructor
    · have h1 := List.getElem?_eq_getElem (l := xs) (show j < xs.length by rw [hl]; exact hj)
      rw [← h1, ← ht, List.getElem?_take, if_pos hj, List.getElem?_drop]
      simp [World.cell?, hg]
    · simp [World.frozen?, hg]
theorem ORow.set_self {g off cap : Nat} (h : ORow w S e k (.slice (some ⟨g, off, none⟩) n cap) n xs) (j : Nat) (u : Value) : ORow (w.setCell ⟨g, off + j, none⟩ u) S e k (.slice (some ⟨g, off, none⟩) n cap) n (xs.set j u) := by
  have hl := h.1
  refine ⟨by rw [List.length_set]; exact hl, ?_⟩
  rcases h.2 with ⟨hv, _⟩ | ⟨g', off', cap', cur, hv, hs, hg, hn, hm, hsz, ht⟩
  · cases hv
  · cases hv
    rw [setCell_eq_setRow w g (off + j) cur e (0, 0) u hg]
    refine .inr ⟨g, off, cap, _, rfl, hs, setRow_heap w g cur _ e (0, 0) hg, hn, hm, by simpa using hsz, ?_⟩
    rw [Array.toList_setIfInBounds, List.drop_set, if_neg (by omega), List.take_set, ht]
    congr 1
    omega
theorem ORow.set_some (h : ORow w S e k v n xs) (g' j' : Nat) (u : Value) : ∃ ys, ORow (w.setCell ⟨g', j', none⟩ u) S e k v n ys := by
  rcases h.2 with ⟨rfl, rfl⟩ | ⟨g, off, cap, cur, rfl, hs, hg, hn, hm, hsz, ht⟩
  · exact ⟨[], ORow.nil _ _ _ _⟩
  · have hlen : ∀ c : Array Value, off + cap * k ≤ c.size → ((c.toList.drop off).take (n * k)).length = n * k := fun c hc => by
      have : n * k ≤ cap * k := Nat.mul_le_mul_right _ hn
      rw [List.length_take, List.length_drop, Array.length_toList]
      omega
    by_cases hgg : g' = g
    · subst hgg
      rw [setCell_eq_setRow w g' j' cur e (0, 0) u hg]
      exact ⟨_, hlen (cur.setIfInBounds j' u) (by simpa using hsz), .inr ⟨g', off, cap, _, rfl, hs, setRow_heap w g' cur _ e (0, 0) hg, hn, hm, by simpa using hsz, rfl⟩⟩
    · exact ⟨_, hlen cur hsz, .inr ⟨g, off, cap, cur, rfl, hs, by rw [Below.heap_setCell w _ u g (by simp only; omega)]; exact hg, hn, hm, hsz, rfl⟩⟩
end
/-- What stays while messages are written over: where they lie. -/
def OverInv (w : World) (S : Nat → Prop) (v : Value) (l : List Mt) : Prop :=
  (∃ xs, ORow w S 47 23 v l.length xs ∧ ∀ i (hi : i < l.length), xs[i * 23 + 8]? = some (l[i]).v) ∧ ∀ p ∈ l, ∃ ys, ORow w S 67 11 p.v p.es.length ys
theorem mtCells_get (l : List Mt) (i t : Nat) (hi : i < l.length) (ht : t < 23) : (mtCells l)[i * 23 + t]? = (l[i]).cells[t]? := by
  have h := flatten_at 23 (l.map Mt.cells) (fun r hr => by obtain ⟨a, _, rfl⟩ := List.mem_map.1 hr; rfl) i t (by simpa using hi) ht
  rw [List.getElem_map] at h
  exact h
theorem MyRow.over {w : World} {S : Nat → Prop} {v : Value} {l : List Mt} (h : MyRow w S v l) : OverInv w S v l :=
  ⟨⟨_, h.1, fun i hi => by rw [mtCells_get l i 8 hi (by omega)]; rfl⟩, fun p hp => ⟨_, (h.2 p hp).1⟩⟩
theorem OverInv.row5 {w : World} {S : Nat → Prop} {g off cap : Nat} {l : List Mt} (h : OverInv w S (.slice (some ⟨g, off, none⟩) l.length cap) l) (i : Nat) (u : Value) : OverInv (w.setCell ⟨g, off + (i * 23 + 5), none⟩ u) S (.slice (some ⟨g, off, none⟩) l.length cap) l := by
  obtain ⟨⟨xs, hr, hx⟩, he⟩ := h
  refine ⟨⟨_, hr.set_self (i * 23 + 5) u, fun j hj => ?_⟩, fun p hp => ?_⟩
  · rw [List.getElem?_set_ne (by omega)]
    exact hx j hj
  · obtain ⟨ys, hy⟩ := he p hp
    exact hy.set_some _ _ _
theorem OverInv.ent {w : World} {S : Nat → Prop} {v : Value} {l : List Mt} (h : OverInv w S v l) {g j : Nat} {c : Array Value} (hg : w.heap[g]? = some (.cells c 67 (0, 0))) (u : Value) : OverInv (w.setCell ⟨g, j, none⟩ u) S v l := by
  obtain ⟨⟨xs, hr, hx⟩, he⟩ := h
  refine ⟨⟨xs, hr.kept (fun i c' _ _ hg' => Below.heap_setCell w _ u i (fun e => ?_)) (fun _ _ h => h), hx⟩, fun p hp => ?_⟩
  · simp only at e
    subst e
    rw [hg] at hg'
    simp at hg'
  · obtain ⟨ys, hy⟩ := he p hp
    exact hy.set_some _ _ _

set_option linter.unusedSimpArgs false in
set_option maxHeartbeats 6400000 in
theorem over_any {S : Nat → Prop} {v : Value} {l : List Mt} (w : World) (h : MyRow w S v l) (hn : l.length ≤ 1000) :
    Calls Try.prog 15 #[v] w fun e w' => e = .returned (.tuple #[]) ∧ Chg S w w' := by
  obtain ⟨A, c, hv, _⟩ := h.1.slice
  subst hv
  have hov := h.over
  have hsm : ∀ p ∈ l, p.es.length ≤ 1000 := fun p hp => (h.2 p hp).2
  have H := Lib.hid (And.intro hov hsm)
  clear h hov hsm
  obtain ⟨n, hnl⟩ : ∃ n, l.length = n := ⟨_, rfl⟩
  have HN := Lib.hid hnl
  go_enter Try.func15, Try.ntmps15
  rw [hnl]
  rw [hnl] at hn
  clear hnl
  go_wp2_with fail
  go_loopw [2] (fun i wr => ∃ k : Nat, k ≤ n ∧ i = .int .i64 k ∧ OverInv wr S (.slice A n c) l ∧ Chg S w wr) (fun i _ => n - (intOf i).toNat)
  case atStart => exact ⟨0, by omega, rfl, by have := H.out.1; rw [HN.out] at this; exact this, Chg.refl _ _⟩
  case round =>
    obtain ⟨k, hk, rfl, hov, hch⟩ := hrel
    obtain ⟨W9, rfl⟩ : ∃ W9, W9 = wr := ⟨_, rfl⟩
    by_cases hlt : k < n
    · have g3 : (k : Int) < (n : Int) := by omega
      have hkl : k < l.length := by rw [HN.out]; exact hlt
      obtain ⟨⟨xs, hr, hx⟩, he⟩ := hov
      rw [HN.out] at hr
      obtain ⟨g, off, cap, cur, e, hs, _⟩ := hr.form (by omega)
      cases e
      have hc5 := hr.cellAt (k * 23 + 5) (by have := Nat.mul_le_mul_right 23 hlt; omega)
      obtain ⟨u5, q5⟩ : ∃ u5, W9.cell? ⟨g, off + k * 23 + 5, none⟩ = some u5 := ⟨_, by rw [Nat.add_assoc]; exact hc5.1⟩
      have f5 : W9.frozen? ⟨g, off + k * 23 + 5, none⟩ = false := by rw [Nat.add_assoc]; exact hc5.2
      have hov5 : OverInv (W9.setCell ⟨g, off + k * 23 + 5, none⟩ (.int .i64 (-77))) S (.slice (some ⟨g, off, none⟩) n c) l := by
        have h0 : OverInv W9 S (.slice (some ⟨g, off, none⟩) l.length c) l := ⟨⟨xs, by rw [HN.out]; exact hr, hx⟩, he⟩
        have h1 := h0.row5 k (.int .i64 (-77))
        rw [HN.out] at h1
        rw [Nat.add_assoc]
        exact h1
      have hch5 := hch.setCell (.inr hs) (off + k * 23 + 5) (.int .i64 (-77))
      obtain ⟨x, hxk⟩ : ∃ x, l[k]'hkl = x := ⟨_, rfl⟩
      have hxm : x ∈ l := hxk ▸ List.getElem_mem hkl
      have hxs := H.out.2 x hxm
      obtain ⟨yy, hyy⟩ := he x hxm
      obtain ⟨A2, c2, hxv, _⟩ := hyy.slice
      obtain ⟨W5, hW5⟩ : ∃ W5, W9.setCell ⟨g, off + k * 23 + 5, none⟩ (.int .i64 (-77)) = W5 := ⟨_, rfl⟩
      rw [hW5] at hov5 hch5
      have H5 := Lib.hid (And.intro hov5 (And.intro hch5 (And.intro hxk hxm)))
      obtain ⟨m, hm⟩ : ∃ m, x.es.length = m := ⟨_, rfl⟩
      rw [hm] at hxs hxv
      have HXV := Lib.hid (And.intro hxv hm)
      clear hov5 hch5 hxk hxm hr hx he hch hyy hc5 hm hxv hs
      go_wp2_with fail
      go_loopw [3] (fun j wr => ∃ jj : Nat, jj ≤ m ∧ j = .int .i64 jj ∧ OverInv wr S (.slice (some ⟨g, off, none⟩) n c) l ∧ Chg S w wr) (fun j _ => m - (intOf j).toNat)
      case atStart => exact ⟨0, by omega, rfl, H5.out.1, H5.out.2.1⟩
      case round =>
        obtain ⟨jj, hjj, rfl, hov, hch⟩ := hrel
        have hq8 : wr.cell? ⟨g, off + k * 23 + 8, none⟩ = some (.slice A2 m c2) := by
          obtain ⟨⟨xs, hr, hx⟩, _⟩ := hov
          rw [HN.out] at hr
          have h8 := hr.cellAt (k * 23 + 8) (by have := Nat.mul_le_mul_right 23 hlt; omega)
          have h9 := hx k hkl
          rw [H5.out.2.2.1, HXV.out.1] at h9
          rw [Nat.add_assoc, h8.1, ← List.getElem?_eq_getElem]
          exact h9
        by_cases hjlt : jj < m
        · have g4 : (jj : Int) < (m : Int) := by omega
          obtain ⟨ys, hy⟩ := hov.2 x H5.out.2.2.2
          rw [HXV.out.1, HXV.out.2] at hy
          obtain ⟨g2, off2, cap2, cur2, e2, hs2, hg2, _⟩ := hy.form (by omega)
          cases e2
          have hc0 := hy.cellAt (jj * 11) (by have := Nat.mul_le_mul_right 11 hjlt; omega)
          obtain ⟨u0, p0⟩ : ∃ u0, wr.cell? ⟨g2, off2 + jj * 11, none⟩ = some u0 := ⟨_, hc0.1⟩
          have p1 := hc0.2
          have hov2 := hov.ent (j := off2 + jj * 11) hg2 (.int .i64 (-77))
          have hch2 := hch.setCell (.inr hs2) (off2 + jj * 11) (.int .i64 (-77))
          have H6 := Lib.hid (And.intro hov2 hch2)
          clear hov2 hch2 hy hov hch hg2 hs2 hc0
          go_wp2_with fail
          go_roundw
          case rel => exact ⟨jj + 1, by omega, by go_num, H6.out.1, H6.out.2⟩
          case measure => simp [intOf]; omega
        · obtain rfl : jj = m := by omega
          have HO := Lib.hid (And.intro hov hch); clear hov hch
          go_wp2_with fail
          go_roundw
          case rel => exact ⟨k + 1, by omega, by go_num, HO.out.1, HO.out.2⟩
          case measure => simp [intOf]; omega
    · obtain rfl : k = n := by omega
      have HO := Lib.hid hch; clear hov hch
      go_wp2_with fail
      refine bodyPost_end (results_none rfl _ _ _) rfl ⟨rfl, HO.out⟩
end Go.Proofs.Ytbdbimnfknaakaa
