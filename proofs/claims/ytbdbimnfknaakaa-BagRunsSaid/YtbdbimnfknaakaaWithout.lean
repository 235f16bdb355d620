/- The document's Without. -/
import Derived.Test.YtbdbimnfknaakaaRefPut
namespace Go.Proofs.Ytbdbimnfknaakaa
open Go.RowKit
attribute [-go_sem] loadCellsFrom storeCells
attribute [local go_sem] storeCells_one Mt.cells_len Mt.fold

set_option linter.unusedSimpArgs false in
set_option maxHeartbeats 6400000 in
theorem without_any {S : Nat → Prop} {vl : Value} {l : List Mt} (i : Nat) (w : World) (h : MyRow w S vl l) (hi : i < l.length) (hl : l.length ≤ 1000) :
    Calls Try.prog 25 #[vl, .int .i64 i] w fun e w' => ∃ v', e = .returned v' ∧ MyRow w' (fun i => S i ∨ w.heap.size ≤ i) v' (l.eraseIdx i) ∧ Below w.heap.size w w' := by
  obtain ⟨g, off, cap, cur, rfl, hs, hg, hn, hm, hsz, ht⟩ := h.1.form (by omega)
  have hone := mtCells_one h.at.choose_spec.choose_spec.choose_spec.2.2.2.2
  have hrd := h.1.rd
  obtain ⟨n, hnl⟩ : ∃ n, l.length = n := ⟨_, rfl⟩
  rw [hnl] at hi hn hl ⊢
  have hlt : (mtCells (l.take i)).length = i * 23 := by rw [mtCells_len, List.length_take]; congr 1; omega
  have hld : (mtCells (l.drop (i + 1))).length = (n - (i + 1)) * 23 := by rw [mtCells_len, List.length_drop, hnl]
  have hr1 : Rd w w.heap.size (some ⟨g, off, none⟩) (mtCells (l.take i)) := by rw [← mtCells_take]; exact hrd.take _
  have hr2 : Rd w w.heap.size (if cap = i + 1 then some ⟨g, off, none⟩ else some ⟨g, off + (i + 1) * 23, none⟩) (mtCells (l.drop (i + 1))) := by
    split
    · rename_i hc
      refine .inl ?_
      have : n - (i + 1) = 0 := by omega
      exact List.eq_nil_of_length_eq_zero (by rw [hld, this, Nat.zero_mul])
    · rw [← mtCells_drop]
      rcases hrd with h0 | ⟨b, off', e, hb, hc⟩
      · exact .inl (by rw [h0]; rfl)
      · cases e
        refine .inr ⟨g, off + (i + 1) * 23, rfl, hb, fun j u hu => ?_⟩
        rw [Nat.add_assoc]
        exact hc _ u (by rw [← hu, List.getElem?_drop])
  have H := Lib.hid (And.intro h (And.intro hr1 (And.intro hr2 (And.intro hlt (And.intro hld hone)))))
  clear h hs hg hm hsz ht hr1 hr2 hrd hlt hld hone
  have a1 : (i : Int) + 1 ≤ (n : Int) := by omega
  have a2 : (n : Int) ≤ (cap : Int) := by omega
  have a3 : (i : Int) ≤ (cap : Int) := by omega
  have HN := Lib.hid hnl
  obtain ⟨i0, hi0, hz0, hz1, hz2⟩ := info_parts ms_info
  clear hnl
  go_enter Try.func25, Try.ntmps25
  go_wp2_with (at_builtin; refine wpList_append_rd w rfl (.tmp 6) (.tmp 9) _ rfl w.heap.size 47 i0 _ 23 208 Try.underlying29 hi0 hz0 hz1 hz2 rfl (by omega) (.slice none 0 0) 0 [] (World.ownsRow_nil _ _ _ _) rfl w.heap.size (some ⟨g, off, none⟩) i cap (mtCells (l.take i)) H.out.2.1 rfl H.out.2.2.2.1 ?_ ?_ ?_ (Nat.le_refl _) ?_)
  · intro u hu
    rw [← mtCells_take] at hu
    exact H.out.2.2.2.2.2 u (List.mem_of_mem_take hu)
  · unfold maxLen; omega
  · omega
  intro v1 w1 ho1 hg1
  have hb1 := below_of_grown (World.ownsRow_nil w w.heap.size 47 23) hg1 (Nat.le_refl _)
  have ho1' : w1.ownsRow w.heap.size 47 23 v1 i (mtCells (l.take i)) := by simpa using ho1
  obtain ⟨A1, c1, rfl, _⟩ := own_is_slice ho1'
  have H1 := Lib.hid (And.intro ho1' (And.intro hb1 (H.out.2.2.1.below hb1 (Nat.le_refl _))))
  clear ho1 ho1' hg1 hb1
  by_cases hcap : cap = i + 1
  · skip
    obtain rfl : n = i + 1 := by omega
    subst hcap
    have hD : mtCells (l.drop (i + 1)) = [] := List.eq_nil_of_length_eq_zero (by rw [H.out.2.2.2.2.1]; omega)
    have HD := Lib.hid hD; clear hD
    go_wp2_with (at_builtin; refine wpList_append_rd w1 rfl (.tmp 11) (.tmp 15) _ rfl w.heap.size 47 i0 _ 23 208 Try.underlying29 hi0 hz0 hz1 hz2 rfl (by omega) _ i _ H1.out.1 rfl w.heap.size _ 0 0 [] Rd.nil rfl rfl (fun u hu => by cases hu) ?_ ?_ H1.out.2.1.size ?_)
    · unfold maxLen; omega
    · omega
    intro v2 w2 ho2 hg2
    have hb2 := H1.out.2.1.trans (below_of_grown H1.out.1 hg2 H1.out.2.1.size)
    have hml : mtCells (l.take i) = mtCells (l.eraseIdx i) := by rw [List.eraseIdx_eq_take_drop_succ, mtCells_append, HD.out, List.append_nil]
    have hle : i = (l.eraseIdx i).length := by rw [List.length_eraseIdx, HN.out, if_pos hi]; omega
    rw [hml] at ho2
    replace ho2 : w2.ownsRow w.heap.size 47 23 v2 (l.eraseIdx i).length (mtCells (l.eraseIdx i)) := hle ▸ ho2
    have H2 := Lib.hid (And.intro ho2 hb2)
    clear ho2 hg2 hb2 hml hle
    go_wp2_with fail
    go_ret
    refine ⟨_, rfl, ⟨ORow.of_own H2.out.1 (fun _ h _ => .inr h), fun p hp => ?_⟩, H2.out.2⟩
    have h0 := H.out.1.2 p (List.mem_of_mem_eraseIdx hp)
    exact ⟨(h0.1.below H2.out.2).mono (fun _ _ h => .inl h), h0.2⟩
  · have h3 := H1.out.2.2
    rw [if_neg hcap] at h3
    have H3 := Lib.hid h3; clear h3
    go_wp2_with (at_builtin; refine wpList_append_rd w1 rfl (.tmp 11) (.tmp 15) _ rfl w.heap.size 47 i0 _ 23 208 Try.underlying29 hi0 hz0 hz1 hz2 rfl (by omega) _ i _ H1.out.1 rfl w.heap.size _ (n - (i + 1)) (cap - (i + 1)) (mtCells (l.drop (i + 1))) H3.out rfl H.out.2.2.2.2.1 ?_ ?_ ?_ H1.out.2.1.size ?_)
    · intro u hu
      rw [← mtCells_drop] at hu
      exact H.out.2.2.2.2.2 u (List.mem_of_mem_drop hu)
    · unfold maxLen; omega
    · omega
    intro v2 w2 ho2 hg2
    have hb2 := H1.out.2.1.trans (below_of_grown H1.out.1 hg2 H1.out.2.1.size)
    have hml : mtCells (l.take i) ++ mtCells (l.drop (i + 1)) = mtCells (l.eraseIdx i) := by rw [← mtCells_append, List.eraseIdx_eq_take_drop_succ]
    rw [hml, show i + (n - (i + 1)) = (l.eraseIdx i).length by rw [List.length_eraseIdx, HN.out, if_pos hi]; omega] at ho2
    have H2 := Lib.hid (And.intro ho2 hb2)
    clear ho2 hg2 hb2 hml
    go_wp2_with fail
    go_ret
    refine ⟨_, rfl, ⟨ORow.of_own H2.out.1 (fun _ h _ => .inr h), fun p hp => ?_⟩, H2.out.2⟩
    have h0 := H.out.1.2 p (List.mem_of_mem_eraseIdx hp)
    exact ⟨(h0.1.below H2.out.2).mono (fun _ _ h => .inl h), h0.2⟩
end Go.Proofs.Ytbdbimnfknaakaa
