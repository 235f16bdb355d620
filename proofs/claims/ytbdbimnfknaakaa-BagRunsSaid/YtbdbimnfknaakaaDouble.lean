/- Double. -/
import Derived.Test.YtbdbimnfknaakaaTake
namespace Go.Proofs.Ytbdbimnfknaakaa
open Go.RowKit
attribute [-go_sem] loadCellsFrom storeCells
attribute [local go_sem] storeCells_one Mt.cells_len Mt.fold

theorem double_nil (i : Int) (w : World) : Calls Try.prog 22 #[.pointer none, .int .i64 i] w fun e w' => e = .returned (.int .i64 3) ∧ w = w' := by
  have HPl := Lib.hid (place_nil i w)
  go_enter Try.func22, Try.ntmps22
  go_wp2_with fail
  refine HPl.out.mono ?_
  rintro e w' ⟨rfl, rfl⟩
  go_wp2_with fail
  go_ret
  exact ⟨rfl, rfl⟩
theorem double_bad {S : Nat → Prop} {g most : Nat} {v : Value} {l : List Mt} (i : Int) (w : World) (h : BagAt w S g most v l) (hi : inL l i = false) :
    Calls Try.prog 22 #[.pointer (some ⟨g, 0, none⟩), .int .i64 i] w fun e w' => e = .returned (.int .i64 120) ∧ w = w' := by
  have hpl := place_any i w h
  rw [if_neg (by rw [hi]; simp)] at hpl
  have HPl := Lib.hid hpl
  clear hpl h hi
  go_enter Try.func22, Try.ntmps22
  go_wp2_with fail
  refine HPl.out.mono ?_
  rintro e w' ⟨rfl, rfl⟩
  go_wp2_with fail
  go_ret
  exact ⟨rfl, rfl⟩

set_option linter.unusedSimpArgs false in
set_option maxHeartbeats 6400000 in
theorem double_any {S : Nat → Prop} {g most : Nat} {v : Value} {l : List Mt} (i : Nat) (w : World) (h : BagAt w S g most v l) (hS : ∀ i, w.heap.size ≤ i → S i) (h1 : 1 ≤ most) (h2 : most ≤ 200) (hi : i < l.length) :
    Calls Try.prog 22 #[.pointer (some ⟨g, 0, none⟩), .int .i64 i] w fun e w' => e = .returned (.int .i64 0) ∧
      ∃ v' l', BagAt w' S g most v' l' ∧ l'.map Mt.m = lastN most (l.map Mt.m ++ [(l[i]'hi).m]) ∧ Chg (bagS g v) w w' ∧ ∀ k, some k = v'.ownBlock → some k = v.ownBlock ∨ w.heap.size ≤ k := by
  have hin : inL l (i : Int) = true := by simp [inL, hi]
  have hpl := place_any (i : Int) w h
  rw [if_pos hin] at hpl
  obtain ⟨x, hx⟩ : ∃ x, l[i]'hi = x := ⟨_, rfl⟩
  obtain ⟨A, n, c, e, hr, hln, hnc, hes⟩ := h.ms
  obtain ⟨gr, off, cap, cur, e2, _⟩ := h.row.form (by omega)
  rw [e] at e2
  cases e2
  subst e
  obtain ⟨w2, hw2⟩ : ∃ w2, w.drew = w2 := ⟨_, rfl⟩
  have hb2 : Below w.heap.size w w2 := by rw [← hw2]; exact (Below.refl _ _).drew
  have hbag2 := h.below hb2
  obtain ⟨b, off', hA, _, _, hld⟩ := rows_load (P := Try.prog) 23 Mt.cells (fun _ => rfl) (by omega) l (hr.below hb2 (Nat.le_refl _)) i hi
  cases hA
  have hld := hld 0
  change Sem.run _ _ w2 = .ok _ w2 at hld
  rw [hx] at hld ⊢
  have q0 : w2.cell? ⟨g, 0, none⟩ = some (.slice (some ⟨gr, off, none⟩) l.length c) := by rw [hbag2.blk.cell 0, List.getElem?_cons_zero]
  have hex : EsMy w S x := by rw [← hx]; exact h.es _ (List.getElem_mem hi)
  have H := Lib.hid (And.intro h (And.intro hbag2 (And.intro (hex.below hb2) (And.intro hb2 hw2))))
  have HPl := Lib.hid hpl
  have hi2 : (i : Int) < (l.length : Int) := by omega
  have hx1 := hex.2
  have hmx : Try.prog.follows .mixedOrders = true := by kernel_rfl
  clear hpl h hbag2 hb2 hw2 hex hx hes hr hin hln
  go_enter Try.func22, Try.ntmps22
  go_wp2_with fail
  refine HPl.out.mono ?_
  rintro e w' ⟨rfl, hw⟩
  subst hw
  go_wp2_with fail
  refine region_by_hand0 hmx ?_
  rw [H.out.2.2.2.2]
  refine any_take (i := 0) _ rfl (by kernel_rfl) (by kernel_rfl) (by kernel_rfl) (by rfl) (by intro w; go_simp <;> with_reducible rfl) ?_
  simp only [Act.put, List.setIfInBounds_toArray, List.set_cons_zero, List.set_cons_succ]
  refine any_take (i := 1) _ rfl (by kernel_rfl) (by kernel_rfl) (by kernel_rfl) (by rfl) (by intro w; go_simp <;> with_reducible rfl) ?_
  simp only [Act.put, List.setIfInBounds_toArray, List.set_cons_zero, List.set_cons_succ]
  refine any_take (i := 2) _ rfl (by kernel_rfl) (by kernel_rfl) (by kernel_rfl) (by rfl) (by intro w; go_simp <;> with_reducible rfl) ?_
  simp only [Act.put, List.setIfInBounds_toArray, List.set_cons_zero, List.set_cons_succ]
  refine any_take (i := 3) _ rfl (by kernel_rfl) (by kernel_rfl) (by kernel_rfl) (by rfl) (by intro w; go_simp <;> with_reducible rfl) ?_
  simp only [Act.put, List.setIfInBounds_toArray, List.set_cons_zero, List.set_cons_succ]
  refine any_take (i := 4) _ rfl (by kernel_rfl) (by kernel_rfl) (by kernel_rfl) (by rfl) (by intro w; go_simp <;> with_reducible rfl) ?_
  simp only [Act.put, List.setIfInBounds_toArray, List.set_cons_zero, List.set_cons_succ]
  refine any_take (i := 5) _ rfl (by kernel_rfl) (by kernel_rfl) (by kernel_rfl) (by rfl) (by intro w; go_simp <;> with_reducible rfl) ?_
  simp only [Act.put, List.setIfInBounds_toArray, List.set_cons_zero, List.set_cons_succ]
  refine any_take (i := 6) _ rfl (by kernel_rfl) (by kernel_rfl) (by kernel_rfl) (by rfl) (by intro w; go_simp <;> with_reducible rfl) ?_
  simp only [Act.put, List.setIfInBounds_toArray, List.set_cons_zero, List.set_cons_succ]
  refine any_take (i := 8) _ rfl (by kernel_rfl) (by kernel_rfl) (by kernel_rfl) (by rfl) (by intro w; go_simp <;> with_reducible rfl) ?_
  simp only [Act.put, List.setIfInBounds_toArray, List.set_cons_zero, List.set_cons_succ]
  refine any_only 7 (by kernel_rfl) rfl ?_
  go_wp2_with fail
  refine ⟨rfl, ?_⟩
  refine any_only 9 (by kernel_rfl) rfl ?_
  go_wp2_with fail
  refine ⟨rfl, ?_⟩
  refine any_only 10 (by kernel_rfl) rfl ?_
  go_wp2_with fail
  refine ⟨rfl, ?_⟩
  refine any_only 11 (by kernel_rfl) rfl ?_
  go_wp2_with fail
  refine (own_any x w2.heap.size w2 H.out.2.2.1.at (Nat.le_refl _) (by omega)).mono ?_
  rintro e w3 ⟨v3, rfl, ho3, hb3⟩
  have H3 := Lib.hid (And.intro ho3 (H.out.2.2.2.1.trans (hb3.mono H.out.2.2.2.1.size))); clear ho3 hb3 hld q0
  go_wp2_with fail
  refine ⟨rfl, ?_⟩
  refine any_only 12 (by kernel_rfl) rfl ?_
  go_wp2_with fail
  refine ⟨rfl, ?_⟩
  refine any_only 13 (by kernel_rfl) rfl ?_
  have hb4 : Below w.heap.size w (w3.alloc (.cells (x.with v3).cells.toArray 47)) := H3.out.2.alloc H3.out.2.size _
  have es4 : EsMy (w3.alloc (.cells (x.with v3).cells.toArray 47)) S (x.with v3) := by
    have h0 : EsMy w3 S (x.with v3) := EsMy.of_own (p := x.with v3) H3.out.1 hx1 (fun i hi _ => hS i (Nat.le_trans H.out.2.2.2.1.size hi))
    exact h0.below ((Below.refl _ _).alloc (Nat.le_refl _) _)
  have H4 := Lib.hid (And.intro hb4 (And.intro es4 (H.out.1.below hb4))); clear hb4 es4
  go_wp2_with fail
  refine (add_any (x.with v3) w3.heap.size _ H4.out.2.2 (fun i hi => hS i (Nat.le_trans H4.out.1.size hi)) h1 h2 (Blk.new _ _ _) H4.out.2.1).mono ?_
  rintro e w5 ⟨rfl, v5, hbag5, hch5, hv5⟩
  have H5 := Lib.hid (And.intro hbag5 (And.intro hch5 hv5)); clear hbag5 hch5 hv5
  go_wp2_with fail
  refine ⟨rfl, ?_⟩
  refine wpAny_done (by kernel_rfl) ?_ _
  refine ⟨rfl, ?_⟩
  go_wp2_with fail
  go_ret
  have hc4 : Chg (bagS g (.slice (some ⟨gr, off, none⟩) l.length c)) w _ := Chg.of_below H4.out.1
  refine ⟨rfl, v5, _, H5.out.1, ?_, hc4.trans H5.out.2.1 (fun _ _ h => h), fun k hk => ?_⟩
  · rw [lastN_map, List.map_append]
    rfl
  · rcases H5.out.2.2 k hk with h | h
    · exact .inl h
    · exact .inr (Nat.le_trans hc4.size h)
end Go.Proofs.Ytbdbimnfknaakaa
