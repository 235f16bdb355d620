/- Put. -/
import Derived.Test.YtbdbimnfknaakaaAdd
import Derived.Test.YtbdbimnfknaakaaHand
namespace Go.Proofs.Ytbdbimnfknaakaa
open Go.RowKit
attribute [-go_sem] loadCellsFrom storeCells
attribute [local go_sem] storeCells_one Mt.cells_len Mt.get0 Mt.fold

/-- The document's Put. -/
def putN (most : Nat) (l more : List Ms) : List Ms := lastN most (l ++ more.filter fun m => decide (m.h.k ≠ 0))
theorem putN_nil {most : Nat} {l : List Ms} (h : l.length ≤ most) : putN most l [] = l := by simp [putN, lastN_all h]
theorem putN_snoc (most : Nat) (l more : List Ms) (m : Ms) (h : 1 ≤ most) : putN most l (more ++ [m]) = if m.h.k ≠ 0 then lastN most (putN most l more ++ [m]) else putN most l more := by
  unfold putN
  by_cases hk : m.h.k ≠ 0
  · rw [if_pos hk, lastN_snoc _ _ _ h, List.append_assoc]
    congr 2
    simp [hk]
  · rw [if_neg hk]
    congr 2
    simp only [List.filter_append]
    rw [show [m].filter (fun m => decide (m.h.k ≠ 0)) = [] by simpa using hk, List.append_nil]
/-- What holds of a row that a bag's own deeds leave. -/
def Away (w : World) (T : Nat → Prop) (B : Nat) (v : Value) (l : List Mt) : Prop := ∀ w', Chg T w w' → MsAt w' B v l

set_option linter.unusedSimpArgs false in
set_option maxHeartbeats 12800000 in
theorem put_any {S : Nat → Prop} {g most : Nat} {v : Value} {l : List Mt} (va : Value) (more : List Mt) (B : Nat) (w : World) (h : BagAt w S g most v l) (hS : ∀ i, w.heap.size ≤ i → S i) (h1 : 1 ≤ most) (h2 : most ≤ 200)
    (ha : Away w (bagS g v) B va more) (hB : B ≤ w.heap.size) (hn : more.length ≤ 1000) :
    Calls Try.prog 20 #[.pointer (some ⟨g, 0, none⟩), va] w fun e w' => e = .returned (.int .i64 0) ∧
      ∃ v' l', BagAt w' S g most v' l' ∧ l'.map Mt.m = putN most (l.map Mt.m) (more.map Mt.m) ∧ Chg (bagS g v) w w' ∧ ∀ k, some k = v'.ownBlock → some k = v.ownBlock ∨ w.heap.size ≤ k := by
  obtain ⟨A, n, c, rfl, _, hl, _, _⟩ := ha w (Chg.refl _ _)
  have H := Lib.hid (And.intro h (And.intro ha hl))
  have hsh := h.short
  clear h ha
  have hmx : Try.prog.follows .mixedOrders = true := by kernel_rfl
  go_enter Try.func20, Try.ntmps20
  go_wp2_with fail
  go_loopw [11] (fun i wr => ∃ k : Nat, k ≤ n ∧ i = .int .i64 k ∧ ∃ v' l', BagAt wr S g most v' l' ∧ l'.map Mt.m = putN most (l.map Mt.m) ((more.take k).map Mt.m) ∧ Chg (bagS g v) w wr ∧ ∀ k, some k = v'.ownBlock → some k = v.ownBlock ∨ w.heap.size ≤ k) (fun i _ => n - (intOf i).toNat)
  case atStart => exact ⟨0, by omega, rfl, v, l, H.out.1, by rw [List.take_zero, List.map_nil, putN_nil (by rw [List.length_map]; exact hsh)], Chg.refl _ _, fun k hk => .inl hk⟩
  case round =>
    obtain ⟨k, hk, rfl, v', l', hbag, hl', hch, hv'⟩ := hrel
    have HB := Lib.hid (And.intro hbag (And.intro hl' (And.intro hch hv'))); clear hbag hl' hch hv'
    by_cases hlt : k < n
    · have g3 : (k : Int) < (n : Int) := by omega
      have hka : k < more.length := by omega
      obtain ⟨A2, n2, c2, e2, hr2, _, _, hes2⟩ := H.out.2.1 wr HB.out.2.2.1
      cases e2
      obtain ⟨b, off, hA, _, _, hld⟩ := rows_load (P := Try.prog) 23 Mt.cells (fun _ => rfl) (by omega) more hr2 k hka
      have hld := hld 0
      change Sem.run _ _ wr = .ok _ wr at hld
      subst hA
      have hx := hes2 _ (List.getElem_mem hka)
      have htk : more.take (k + 1) = more.take k ++ [more[k]'hka] := List.take_succ_eq_append_getElem hka
      generalize more[k]'hka = x at *
      have hbl := (Blk.new wr 47 zero47)
      have hst := hbl.store (P := Try.prog) (cs' := x.cells) rfl (Mt.one hx.1)
      have hbl2 := hbl.set x.cells
      have hb1 : Below wr.heap.size wr ((wr.alloc (.cells zero47.toArray 47)).setRow wr.heap.size x.cells.toArray) := below_setRow ((Below.refl _ _).alloc (Nat.le_refl _) _) (Nat.le_refl _) _
      obtain ⟨W1, hW1⟩ : ∃ W1, (wr.alloc (.cells zero47.toArray 47)).setRow wr.heap.size x.cells.toArray = W1 := ⟨_, rfl⟩
      rw [hW1] at hst hbl2 hb1
      have q0 : W1.cell? ⟨wr.heap.size, 0, none⟩ = some (.int .i64 x.h.k) := hbl2.cell 0
      have hx1 : x.es.length ≤ 1000 := hx.2
      have hBr : B ≤ wr.heap.size := Nat.le_trans hB HB.out.2.2.1.size
      have HX := Lib.hid (And.intro (hx.1.below hb1 hBr) (And.intro htk (And.intro hbl2 (And.intro hb1 hr2)))); clear hx htk hbl hbl2 hb1 hr2 hes2 hW1
      simp only [zero47] at hst
      by_cases hk0 : x.h.k = 0
      · have hkb : (x.h.k != 0) = false := by simp [hk0]
        have HK := Lib.hid hk0; clear hk0
        go_wp2_with fail
        go_roundw
        case rel =>
          refine ⟨k + 1, by omega, by go_num, v', l', HB.out.1.below HX.out.2.2.2.1, ?_, HB.out.2.2.1.then HX.out.2.2.2.1, HB.out.2.2.2⟩
          rw [HX.out.2.1, List.map_append, List.map_singleton, putN_snoc _ _ _ _ h1, if_neg (by rw [Classical.not_not]; exact HK.out)]
          exact HB.out.2.1
        case measure => simp [intOf]; omega
      · have hkb : (x.h.k != 0) = true := by simp [hk0]
        have HK := Lib.hid hk0; clear hk0
        go_wp2_with fail
        refine region_by_hand0 hmx ?_
        refine any_take (i := 0) _ rfl (by kernel_rfl) (by kernel_rfl) (by kernel_rfl) (by rfl) (by intro w; go_simp <;> with_reducible rfl) ?_
        simp only [Act.put, List.setIfInBounds_toArray, List.set_cons_zero, List.set_cons_succ]
        refine any_take (i := 1) _ rfl (by kernel_rfl) (by kernel_rfl) (by kernel_rfl) (by rfl) (by intro w; go_simp <;> with_reducible rfl) ?_
        simp only [Act.put, List.setIfInBounds_toArray, List.set_cons_zero, List.set_cons_succ]
        refine any_take (i := 2) _ rfl (by kernel_rfl) (by kernel_rfl) (by kernel_rfl) (by rfl) (by intro w; go_simp <;> with_reducible rfl) ?_
        simp only [Act.put, List.setIfInBounds_toArray, List.set_cons_zero, List.set_cons_succ]
        obtain ⟨W2, hW2⟩ : ∃ W2, W1.drew = W2 := ⟨_, rfl⟩
        rw [hW2]
        have hb2 : Below wr.heap.size wr W2 := by rw [← hW2]; exact HX.out.2.2.2.1.drew
        have k2 : Blk W2 wr.heap.size 47 x.cells := by rw [← hW2]; exact HX.out.2.2.1
        have e2 : EsAt W2 B x.v x.es := by rw [← hW2]; exact HX.out.1
        have H2 := Lib.hid (And.intro hb2 (And.intro k2 e2))
        have hld2 := k2.load (P := Try.prog) (k := 23) rfl
        clear hW2 hb2 k2 e2 hld hst q0
        refine any_only 3 (by kernel_rfl) rfl ?_
        go_wp2_with fail
        refine ⟨rfl, ?_⟩
        refine any_only 4 (by kernel_rfl) rfl ?_
        go_wp2_with fail
        refine (own_any x B W2 H2.out.2.2 (Nat.le_trans hBr H2.out.1.size) (by omega)).mono ?_
        rintro e w3 ⟨v3, rfl, ho3, hb3⟩
        have H3 := Lib.hid (And.intro ho3 (H2.out.1.trans (hb3.mono H2.out.1.size))); clear ho3 hb3 hld2
        go_wp2_with fail
        refine ⟨rfl, ?_⟩
        refine any_only 5 (by kernel_rfl) rfl ?_
        go_wp2_with fail
        refine ⟨rfl, ?_⟩
        refine any_only 6 (by kernel_rfl) rfl ?_
        have hb4 : Below wr.heap.size wr (w3.alloc (.cells (x.with v3).cells.toArray 47)) := H3.out.2.alloc H3.out.2.size _
        have es4 : EsMy (w3.alloc (.cells (x.with v3).cells.toArray 47)) S (x.with v3) := by
          have h0 : EsMy w3 S (x.with v3) := EsMy.of_own (p := x.with v3) H3.out.1 hx1 (fun i hi _ => hS i (Nat.le_trans HB.out.2.2.1.size (Nat.le_trans H2.out.1.size hi)))
          exact h0.below ((Below.refl _ _).alloc (Nat.le_refl _) _)
        have H4 := Lib.hid (And.intro hb4 (And.intro es4 (HB.out.1.below hb4))); clear hb4 es4
        go_wp2_with fail
        refine (add_any (x.with v3) w3.heap.size _ H4.out.2.2 (fun i hi => hS i (Nat.le_trans HB.out.2.2.1.size (Nat.le_trans H4.out.1.size hi))) h1 h2 (Blk.new _ _ _) H4.out.2.1).mono ?_
        rintro e w5 ⟨rfl, v5, hbag5, hch5, hv5⟩
        have H5 := Lib.hid (And.intro hbag5 (And.intro hch5 hv5)); clear hbag5 hch5 hv5
        go_wp2_with fail
        refine ⟨rfl, ?_⟩
        refine wpAny_done (by kernel_rfl) ?_ _
        refine ⟨rfl, ?_⟩
        go_wp2_with fail
        go_roundw
        case rel =>
          have hc4 : Chg (bagS g v) w (w3.alloc (.cells (x.with v3).cells.toArray 47)) := HB.out.2.2.1.then H4.out.1
          refine ⟨k + 1, by omega, by go_num, v5, _, H5.out.1, ?_, bagS_trans hc4 (fun k hk => ?_) H5.out.2.1, fun k hk => ?_⟩
          · rw [HX.out.2.1, List.map_append, List.map_singleton, putN_snoc _ _ _ _ h1, if_pos (show x.m.h.k ≠ 0 from HK.out), lastN_map, List.map_append, HB.out.2.1]
            rfl
          · rcases HB.out.2.2.2 k hk with h | h
            · exact .inl h
            · exact .inr h
          · rcases H5.out.2.2 k hk with h | h
            · exact HB.out.2.2.2 k h
            · exact .inr (Nat.le_trans hc4.size h)
        case measure => simp [intOf]; omega
    · obtain rfl : k = n := by omega
      have htk : more.take k = more := List.take_of_length_le (by omega)
      rw [htk] at HB
      clear htk
      go_wp2_with fail
      go_ret
      exact ⟨rfl, v', l', HB.out.1, HB.out.2.1, HB.out.2.2.1, HB.out.2.2.2⟩
theorem put_nil (va : Value) (w : World) : Calls Try.prog 20 #[.pointer none, va] w fun e w' => e = .returned (.int .i64 3) ∧ w = w' := by
  go_enter Try.func20, Try.ntmps20
  go_wp2_with fail
  go_ret
  exact ⟨rfl, rfl⟩
end Go.Proofs.Ytbdbimnfknaakaa
