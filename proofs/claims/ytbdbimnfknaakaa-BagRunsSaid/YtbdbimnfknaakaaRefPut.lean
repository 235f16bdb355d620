/- The document's Put and Without. -/
import Derived.Test.YtbdbimnfknaakaaOver
namespace Go.Proofs.Ytbdbimnfknaakaa
open Go.RowKit
attribute [-go_sem] loadCellsFrom storeCells
attribute [local go_sem] storeCells_one Mt.cells_len Mt.fold

theorem MyRow.mono {w : World} {S T : Nat → Prop} {v : Value} {l : List Mt} (h : MyRow w S v l) (hT : ∀ i, i < w.heap.size → S i → T i) : MyRow w T v l := ⟨h.1.mono hT, fun p hp => ⟨(h.2 p hp).1.mono hT, (h.2 p hp).2⟩⟩

set_option linter.unusedSimpArgs false in
set_option maxHeartbeats 6400000 in
theorem refPut_any {S : Nat → Prop} {vl : Value} {l : List Mt} (va : Value) (more : List Mt) (B most : Nat) (w : World) (h : MyRow w S vl l) (hm : MsAt w B va more) (hB : B ≤ w.heap.size) (h1 : 1 ≤ most) (h2 : most ≤ 200) (hl : l.length ≤ 1000) (hmn : more.length ≤ 1000) :
    Calls Try.prog 24 #[vl, va, .int .i64 most] w fun e w' => ∃ v' l', e = .returned v' ∧ MyRow w' (fun i => S i ∨ w.heap.size ≤ i) v' l' ∧ l'.map Mt.m = putN most (l.map Mt.m) (more.map Mt.m) ∧ Below w.heap.size w w' := by
  obtain ⟨A0, c0, rfl, hc0, hcm0⟩ := h.1.slice
  obtain ⟨A, n, c, rfl, hr, hln, hnc, hes⟩ := hm
  have HO := Lib.hid (mtCells_one h.at.choose_spec.choose_spec.choose_spec.2.2.2.2)
  have H := Lib.hid (And.intro h (And.intro hr (And.intro hln (And.intro hes h.1.rd))))
  clear h hr hes hc0 hcm0
  obtain ⟨i0, hi0, hz0, hz1, hz2⟩ := info_parts ms_info
  go_enter Try.func24, Try.ntmps24
  go_wp2_with (at_builtin; refine wpList_append_rd w rfl (.tmp 10) (.tmp 11) _ rfl w.heap.size 47 i0 _ 23 208 Try.underlying29 hi0 hz0 hz1 hz2 rfl (by omega) (.slice none 0 0) 0 [] (World.ownsRow_nil _ _ _ _) rfl w.heap.size A0 l.length c0 (mtCells l) H.out.2.2.2.2 rfl (mtCells_len l) HO.out ?_ ?_ (Nat.le_refl _) ?_)
  · unfold maxLen; omega
  · omega
  intro v1 w1 ho1 hg1
  have hb1 := below_of_grown (World.ownsRow_nil w w.heap.size 47 23) hg1 (Nat.le_refl _)
  have hr1 : ORow w1 (fun i => w.heap.size ≤ i) 47 23 v1 l.length (mtCells l) := ORow.of_own (by simpa using ho1) (fun _ h _ => h)
  obtain ⟨A1, c1, rfl, _⟩ := hr1.slice
  have H1 := Lib.hid (And.intro hr1 (And.intro hb1 (show ∀ p ∈ l, EsMy w1 (fun i => S i ∨ w.heap.size ≤ i) p from fun p hp => ⟨((H.out.1.2 p hp).1.below hb1).mono (fun _ _ h => .inl h), (H.out.1.2 p hp).2⟩)))
  clear hr1 hb1 ho1 hg1
  go_wp2_with fail
  go_loopw [7, 8] (fun out i wr => ∃ k : Nat, k ≤ n ∧ i = .int .i64 k ∧ ∃ lo, MyRow wr (fun i => S i ∨ w.heap.size ≤ i) out lo ∧ ORow wr (fun i => w.heap.size ≤ i) 47 23 out lo.length (mtCells lo) ∧ lo.length ≤ l.length + k ∧ lo.map Mt.m = l.map Mt.m ++ ((more.take k).map Mt.m).filter (fun m => decide (m.h.k ≠ 0)) ∧ Below w.heap.size w wr) (fun _ i _ => n - (intOf i).toNat)
  case atStart => exact ⟨0, by omega, rfl, l, ⟨H1.out.1.mono (fun _ _ h => .inr h), H1.out.2.2⟩, H1.out.1, by omega, by simp, H1.out.2.1⟩
  case round =>
    obtain ⟨k, hk, rfl, lo, hmy, hrow, hlo, hlm, hb⟩ := hrel
    have HB := Lib.hid (And.intro hmy (And.intro hrow (And.intro hlm hb))); clear hmy hlm hb
    obtain ⟨Ao, co, rfl, hco, _⟩ := hrow.slice
    clear hrow
    by_cases hlt : k < n
    · have g3 : (k : Int) < (n : Int) := by omega
      have hka : k < more.length := by omega
      obtain ⟨b, off, hA, _, hc, hld⟩ := rows_load (P := Try.prog) 23 Mt.cells (fun _ => rfl) (by omega) more (H.out.2.1.below HB.out.2.2.2 hB) k hka
      have hld := hld 0
      change Sem.run _ _ wr = .ok _ wr at hld
      subst hA
      have hx := H.out.2.2.2.1 _ (List.getElem_mem hka)
      have htk : more.take (k + 1) = more.take k ++ [more[k]'hka] := List.take_succ_eq_append_getElem hka
      generalize more[k]'hka = x at *
      have q0 : wr.cell? ⟨b, off + k * 23, none⟩ = some (.int .i64 x.h.k) := hc 0 _ rfl
      have hx1 := hx.2
      have HX := Lib.hid (And.intro (hx.1.below HB.out.2.2.2 hB) htk); clear hx htk hc
      have hBr : B ≤ wr.heap.size := Nat.le_trans hB HB.out.2.2.2.size
      by_cases hk0 : x.h.k = 0
      · have hkb : (x.h.k != 0) = false := by simp [hk0]
        have HK := Lib.hid hk0; clear hk0
        go_wp2_with fail
        go_roundw
        case rel =>
          refine ⟨k + 1, by omega, by go_num, lo, HB.out.1, HB.out.2.1, by omega, ?_, HB.out.2.2.2⟩
          rw [HB.out.2.2.1, HX.out.2, List.map_append, List.filter_append]
          congr 1
          rw [show ([x].map Mt.m).filter (fun m => decide (m.h.k ≠ 0)) = [] from List.filter_eq_nil_iff.2 (fun m hm => by rw [List.mem_singleton.1 hm]; have : x.m.h.k = 0 := HK.out; simp [this]), List.append_nil]
        case measure => simp [intOf]; omega
      · have hkb : (x.h.k != 0) = true := by simp [hk0]
        have HK := Lib.hid hk0; clear hk0
        go_wp2_with fail
        refine (refOwn_any x B wr HX.out.1 hBr (by omega)).mono ?_
        rintro e w3 ⟨v3, rfl, ho3, hb3⟩
        have hz := Blk.new w3 47 zero47
        have es3 : EsMy w3 (fun i => w.heap.size ≤ i) (x.with v3) := EsMy.of_own (p := x.with v3) ho3 hx1 (fun i hi _ => Nat.le_trans HB.out.2.2.2.size hi)
        have hst := hz.store (P := Try.prog) (cs' := (x.with v3).cells) rfl (Mt.one es3.at)
        have hz4 := hz.set (x.with v3).cells
        have hb4 : Below w3.heap.size w3 ((w3.alloc (.cells zero47.toArray 47)).setRow w3.heap.size (x.with v3).cells.toArray) := below_setRow ((Below.refl _ _).alloc (Nat.le_refl _) _) (Nat.le_refl _) _
        obtain ⟨w4, hw4⟩ : ∃ w4, (w3.alloc (.cells zero47.toArray 47)).setRow w3.heap.size (x.with v3).cells.toArray = w4 := ⟨_, rfl⟩
        rw [hw4] at hst hz4 hb4
        have hld4 := hz4.load (P := Try.prog) (k := 23) rfl
        have hb34 : Below wr.heap.size wr w4 := hb3.trans (hb4.mono hb3.size)
        have hb5 : Below w4.heap.size w4 (w4.alloc (.cells (x.with v3).cells.toArray 47)) := (Below.refl _ _).alloc (Nat.le_refl _) _
        have hk5 := Blk.new w4 47 (x.with v3).cells
        have hb35 := hb34.trans (hb5.mono hb34.size)
        have H5 := Lib.hid (And.intro (HB.out.2.1.below hb35) (And.intro hk5 (And.intro (es3.below (hb4.trans (hb5.mono hb4.size))) (And.intro hb35 (show ∀ p ∈ lo, EsMy _ (fun i => S i ∨ w.heap.size ≤ i) p from fun p hp => (HB.out.1.2 p hp).below hb35)))))
        have hS5 : ∀ i, (w4.alloc (.cells (x.with v3).cells.toArray 47)).heap.size ≤ i → w.heap.size ≤ i := fun i hi => Nat.le_trans HB.out.2.2.2.size (Nat.le_trans hb35.size hi)
        have hO := Mt.one es3.at
        clear hz hz4 hb4 hb34 hb5 hk5 hb35 es3 ho3 hb3 hld q0 hw4
        simp only [zero47] at hst
        have hfold := Mt.fold (x.with v3)
        go_wp2_with (at_builtin; refine wpList_append_orow _ rfl (.tmp 30) (.tmp 32) _ rfl 47 i0 _ 23 208 Try.underlying29 hi0 hz0 hz1 hz2 rfl (by omega) (fun i => w.heap.size ≤ i) _ lo.length (mtCells lo) rfl H5.out.1 hS5 ⟨w4.heap.size, 0, none⟩ 1 1 (x.with v3).cells rfl rfl ?_ hO ?_ ?_ ?_)
        · intro j u hj
          rw [Addr.add_lit, Nat.zero_add, H5.out.2.1.cell]
          exact hj
        · unfold maxLen; omega
        · omega
        intro v6 w6 hr6 hc6 hv6
        have hblk : Below w.heap.size w w6 := by
          have h0 : Below w.heap.size _ w6 := hc6.below (B := w.heap.size) (fun i hi => (H5.out.1.lt i hi).1) (Nat.le_trans HB.out.2.2.2.size H5.out.2.2.2.1.size)
          exact (HB.out.2.2.2.trans (H5.out.2.2.2.1.mono HB.out.2.2.2.size)).trans h0
        have htag : ∀ i c', some i = (Value.slice Ao lo.length co).ownBlock → (w4.alloc (.cells (x.with v3).cells.toArray 47)).heap[i]? ≠ some (.cells c' 67 (0, 0)) := fun i c' hi hg => by
          obtain ⟨c'', hc''⟩ := H5.out.1.tag hi
          rw [hc''] at hg
          simp at hg
        have hml : mtCells lo ++ (x.with v3).cells = mtCells (lo ++ [x.with v3]) := by rw [mtCells_append]; simp [mtCells]
        rw [hml] at hr6
        have hll : (lo ++ [x.with v3]).length = lo.length + 1 := by simp
        rw [← hll] at hr6
        have hmy6 : MyRow w6 (fun i => S i ∨ w.heap.size ≤ i) v6 (lo ++ [x.with v3]) := by
          refine ⟨hr6.mono (fun _ _ h => .inr h), fun p hp => ?_⟩
          rcases List.mem_append.1 hp with hp | hp
          · exact (H5.out.2.2.2.2 p hp).chg hc6 htag
          · rw [List.mem_singleton.1 hp]
            have h0 := H5.out.2.2.1.chg hc6 htag
            exact ⟨h0.1.mono (fun _ _ h => .inr h), h0.2⟩
        have H6 := Lib.hid (And.intro hmy6 (And.intro hr6 hblk))
        clear hmy6 hr6 hblk htag hml hc6 hv6 hll
        go_wp2_with fail
        go_roundw
        case rel =>
          refine ⟨k + 1, by omega, by go_num, lo ++ [x.with v3], H6.out.1, H6.out.2.1, by simp; omega, ?_, H6.out.2.2⟩
          rw [List.map_append, HB.out.2.2.1, HX.out.2, List.map_append, List.filter_append, List.append_assoc]
          rw [show ([x].map Mt.m).filter (fun m => decide (m.h.k ≠ 0)) = [x].map Mt.m from List.filter_eq_self.2 (fun m hm => by rw [List.mem_singleton.1 hm]; exact decide_eq_true (show x.m.h.k ≠ 0 from HK.out))]
          rfl
        case measure => simp [intOf]; omega
    · obtain rfl : k = n := by omega
      have hput : putN most (l.map Mt.m) (more.map Mt.m) = lastN most (lo.map Mt.m) := by
        rw [HB.out.2.2.1, List.take_of_length_le (by omega)]
        rfl
      have HPt := Lib.hid hput; clear hput
      by_cases hgt : most < lo.length
      · have g4 : (most : Int) < (lo.length : Int) := by omega
        have g4' : decide (most < lo.length) = true := decide_eq_true hgt
        obtain ⟨gg, off, cap, cur, e2, _⟩ := HB.out.2.1.form (by omega)
        cases e2
        obtain ⟨j, hj⟩ : ∃ j, lo.length - most = j := ⟨_, rfl⟩
        have hd1 := HB.out.2.1.drop (j := j) (by omega)
        have hcapj : ¬ co = j := by omega
        rw [if_neg hcapj, mtCells_drop] at hd1
        have hjl : lo.length - j = (lo.drop j).length := by rw [List.length_drop]
        rw [hjl] at hd1
        have hmyj : MyRow wr (fun i => S i ∨ w.heap.size ≤ i) (.slice (some ⟨gg, off + j * 23, none⟩) (lo.drop j).length (co - j)) (lo.drop j) := ⟨hd1.mono (fun _ _ h => .inr h), fun p hp => HB.out.1.2 p (List.mem_of_mem_drop hp)⟩
        have hwr : (lo.length : Int) - (most : Int) = (j : Int) := by omega
        have hj1 : (j : Int) ≤ (lo.length : Int) := by omega
        have hlast : (lo.drop j).map Mt.m = lastN most (lo.map Mt.m) := by rw [← lastN_map]; unfold lastN; rw [hj]
        have HF := Lib.hid (And.intro hmyj (And.intro hlast hjl))
        clear hmyj hd1 hlast hj hjl hgt
        go_wp2_with fail
        go_ret
        refine ⟨_, lo.drop j, rfl, ?_, by rw [HPt.out]; exact HF.out.2.1, HB.out.2.2.2⟩
        have h0 := HF.out.1
        rw [← HF.out.2.2] at h0
        exact h0
      · have g4 : ¬ (most : Int) < (lo.length : Int) := by omega
        have g4' : decide (most < lo.length) = false := decide_eq_false hgt
        have hlast : lastN most (lo.map Mt.m) = lo.map Mt.m := lastN_all (by rw [List.length_map]; omega)
        have HF := Lib.hid hlast
        clear hlast hgt
        go_wp2_with fail
        go_ret
        first
          | exact ⟨_, lo, rfl, HB.out.1, by rw [HPt.out, HF.out], HB.out.2.2.2⟩
          | exact ⟨_, rfl, lo, HB.out.1, by rw [HPt.out, HF.out], HB.out.2.2.2⟩
end Go.Proofs.Ytbdbimnfknaakaa
