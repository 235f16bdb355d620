/- All: the bag's messages, in memory of the call's own. -/
import Derived.Test.YtbdbimnfknaakaaDouble
namespace Go.Proofs.Ytbdbimnfknaakaa
open Go.RowKit
attribute [-go_sem] loadCellsFrom storeCells
attribute [local go_sem] storeCells_one Mt.cells_len Mt.fold

/-- One element of a row is written anew. -/
theorem ORow.put {P : Program} {w : World} {S : Nat → Prop} {e : TypeId} {k n g off cap : Nat} {xs : List Value} (h : ORow w S e k (.slice (some ⟨g, off, none⟩) n cap) n xs) (i : Nat) (hi : i < n) (us : List Value) (hu : us.length = k) (h1 : ∀ u ∈ us, u.oneCell' = true) :
    ∃ X, Sem.run P (storeCells ⟨g, off + i * k, none⟩ us 0) w = .ok () (w.setRow g X) ∧ ORow (w.setRow g X) S e k (.slice (some ⟨g, off, none⟩) n cap) n (xs.take (i * k) ++ us ++ xs.drop ((i + 1) * k)) := by
  obtain ⟨g', off', cap', cur, e2, hs, hg, hn, hm, hsz, ht⟩ := h.form (by omega)
  cases e2
  have hx := h.1
  have h2 : (i + 1) * k ≤ n * k := Nat.mul_le_mul_right _ hi
  have h3 : n * k ≤ cap * k := Nat.mul_le_mul_right _ hn
  have h4 : (i + 1) * k = i * k + k := by rw [Nat.add_mul, Nat.one_mul]
  have hst := run_storeCells_at P g (off + i * k) e us 0 cur w hg (by omega) h1
  simp only [Nat.add_zero] at hst
  refine ⟨_, hst, ?_, .inr ⟨g, off, cap, _, rfl, hs, setRow_heap w g cur _ _ _ hg, hn, hm, ?_, ?_⟩⟩
  · simp only [List.length_append, List.length_take, List.length_drop]
    omega
  · simp only [List.size_toArray, List.length_append, List.length_take, List.length_drop, Array.length_toList]
    omega
  · subst ht
    simp only [List.append_assoc]
    rw [List.drop_append_of_le_length (by simp; omega), List.drop_take, show off + i * k - off = i * k by omega, List.take_append, List.take_take, List.take_append, List.length_take, List.length_drop, Array.length_toList, hu,
      show min (i * k) (cur.size - off) = i * k by omega, show min (n * k) (i * k) = i * k by omega, List.take_take, show min (i * k) (n * k) = i * k by omega, List.take_of_length_le (show us.length ≤ n * k - i * k by omega)]
    congr 2
    rw [List.drop_take, List.drop_drop]
    congr 1
    · omega
    · congr 1; omega
theorem mtCells_set (l : List Mt) (i : Nat) (hi : i < l.length) (p : Mt) : (mtCells l).take (i * 23) ++ p.cells ++ (mtCells l).drop ((i + 1) * 23) = mtCells (l.set i p) := by
  rw [mtCells_take, mtCells_drop, List.set_eq_take_append_cons_drop, if_pos hi, mtCells_append, List.append_assoc]
  rfl

theorem msNil (a : Option Addr) (n c : Nat) (w : World) : (binOp .eql 29 (.slice a n c) (.slice none 0 0)).run Try.prog w = .ok (.bool a.isNone) w :=
  Lib.run_eql_slice_nil w _ _ a n c 0 0 Try.underlying29
attribute [local go_sem] msNil
set_option maxHeartbeats 1600000 in
theorem cloneMs_any (v : Value) (l : List Mt) (B : Nat) (w : World) (h : MsAt w B v l) (hB : B ≤ w.heap.size) (hn : l.length ≤ 1000000) :
    Calls Try.prog 26 #[v] w fun e w' => ∃ v', e = .returned v' ∧ w'.ownsRow w.heap.size 47 23 v' l.length (mtCells l) ∧ Below w.heap.size w w' := by
  obtain ⟨A, n, c, rfl, hr, hl, hc, hes⟩ := h
  have HO := Lib.hid (mtCells_one hes); clear hes
  cases A with
  | none =>
    have hes : l = [] := by
      rcases hr with h | ⟨b, off, e, _⟩
      · exact List.eq_nil_of_length_eq_zero (by have := mtCells_len l; rw [h] at this; simp at this; omega)
      · cases e
    subst hes
    obtain rfl : n = 0 := by simpa using hl.symm
    clear hr hl hn
    go_enter Try.func26, Try.ntmps26
    go_wp2_with fail
    go_ret
    exact ⟨_, rfl, World.ownsRow_nil _ _ _ _, Below.refl _ _⟩
  | some ad =>
    have H := Lib.hid (And.intro hr hl); clear hr
    obtain ⟨i0, hi0, hz0, hz1, hz2⟩ := info_parts ms_info
    go_enter Try.func26, Try.ntmps26
    have hbe := (Below.refl w.heap.size w).alloc (Nat.le_refl _) (.cells #[] 47)
    have hown := World.ownsRow_made (base := w.heap.size) (e := 47) (size := 23) w #[] 0 (Nat.le_refl _) (by unfold maxLen; omega) rfl
    have HB := Lib.hid (And.intro hbe hown); clear hbe hown
    go_wp2_with (at_builtin; refine wpList_append_rd _ rfl (.tmp 5) (.tmp 6) _ rfl w.heap.size 47 i0 _ 23 208 Try.underlying29 hi0 hz0 hz1 hz2 rfl (by omega) _ 0 [] HB.out.2 rfl B (some ad) n c (mtCells l) (H.out.1.below HB.out.1 hB) rfl ?_ HO.out ?_ ?_ ?_ ?_)
    · rw [mtCells_len, H.out.2]
    · unfold maxLen; omega
    · omega
    · simp
    intro v1 w1 hown1 hg1
    have hb1 := HB.out.1.trans (below_of_grown HB.out.2 hg1 (by simp))
    have H1 := Lib.hid (And.intro hown1 hb1); clear hown1 hb1 hg1
    go_wp2_with fail
    go_ret
    refine ⟨_, rfl, ?_, H1.out.2⟩
    have := H1.out.1
    rw [← hl] at this
    exact this

/-- A row of messages in memory of one's own, their lists too. -/
def MyRow (w : World) (S : Nat → Prop) (v : Value) (l : List Mt) : Prop := ORow w S 47 23 v l.length (mtCells l) ∧ ∀ p ∈ l, EsMy w S p
theorem MyRow.at {w : World} {S : Nat → Prop} {v : Value} {l : List Mt} (h : MyRow w S v l) : MsAt w w.heap.size v l := by
  obtain ⟨A, c, hv, hc, _⟩ := h.1.slice
  have h1 := h.1
  rw [hv] at h1
  exact ⟨A, _, c, hv, h1.rd, rfl, hc, fun p hp => ⟨(h.2 p hp).at, (h.2 p hp).2⟩⟩
theorem MyRow.below {w w' : World} {S : Nat → Prop} {v : Value} {l : List Mt} (h : MyRow w S v l) (hb : Below w.heap.size w w') : MyRow w' S v l := ⟨h.1.below hb, fun p hp => (h.2 p hp).below hb⟩

theorem all_nil (w : World) : Calls Try.prog 13 #[.pointer none] w fun e w' => e = .returned (.slice none 0 0) ∧ w = w' := by
  go_enter Try.func13, Try.ntmps13
  go_wp2_with fail
  go_ret
  exact ⟨rfl, rfl⟩

set_option linter.unusedSimpArgs false in
set_option maxHeartbeats 6400000 in
theorem all_any {S : Nat → Prop} {g most : Nat} {v : Value} {l : List Mt} (w : World) (h : BagAt w S g most v l) (hlm : l.length ≤ 1000) :
    Calls Try.prog 13 #[.pointer (some ⟨g, 0, none⟩)] w fun e w' => ∃ v' l', e = .returned v' ∧ MyRow w' (fun k => w.heap.size ≤ k) v' l' ∧ l'.map Mt.m = l.map Mt.m ∧ Below w.heap.size w w' := by
  obtain ⟨A, n, c, rfl, hr, hln, hnc, hes⟩ := h.ms
  have q0 : w.cell? ⟨g, 0, none⟩ = some (.slice A n c) := by rw [h.blk.cell 0, List.getElem?_cons_zero]
  have HCl := Lib.hid (cloneMs_any (.slice A n c) l w.heap.size w ⟨A, n, c, rfl, hr, hln, hnc, hes⟩ (Nat.le_refl _) (by omega))
  have H := Lib.hid (And.intro h hln)
  clear h hr hes hnc
  go_enter Try.func13, Try.ntmps13
  go_wp2_with fail
  refine HCl.out.mono ?_
  rintro e w1 ⟨v1, rfl, ho1, hb1⟩
  have hr1 : ORow w1 (fun k => w.heap.size ≤ k) 47 23 v1 l.length (mtCells l) := ORow.of_own ho1 (fun _ h _ => h)
  rw [hln] at hr1
  obtain ⟨A1, c1, rfl, hc1, _⟩ := hr1.slice
  have H1 := Lib.hid (And.intro hr1 hb1); clear hr1 hb1 ho1
  clear q0
  go_wp2_with fail
  go_loopw [16] (fun i wr => ∃ k : Nat, k ≤ n ∧ i = .int .i64 k ∧ ∃ l', l'.length = n ∧ l'.map Mt.m = l.map Mt.m ∧ (∀ p ∈ l'.take k, EsMy wr (fun k => w.heap.size ≤ k) p) ∧ l'.drop k = l.drop k ∧ ORow wr (fun k => w.heap.size ≤ k) 47 23 (.slice A1 n c1) n (mtCells l') ∧ Below w.heap.size w wr) (fun i _ => n - (intOf i).toNat)
  case atStart => exact ⟨0, by omega, rfl, l, hln, rfl, fun p hp => absurd hp (by simp), rfl, H1.out.1, H1.out.2⟩
  case round =>
    obtain ⟨k, hk, rfl, l', hl', hm', hes', hd', hrow, hb⟩ := hrel
    have HR := Lib.hid (And.intro hm' (And.intro hes' (And.intro hd' (And.intro hrow hb)))); clear hm' hes' hd' hrow hb
    by_cases hlt : k < n
    · have g3 : (k : Int) < (n : Int) := by omega
      have hka : k < l.length := by omega
      have hkb : k < l'.length := by omega
      have hkl : l'[k]'hkb = l[k]'hka := by
        have h1 := congrArg (fun l => l[0]?) HR.out.2.2.1
        simp only [List.getElem?_drop, Nat.add_zero] at h1
        rw [List.getElem?_eq_getElem hkb, List.getElem?_eq_getElem hka] at h1
        injection h1
      obtain ⟨gr, off, cap, cur, e2, _⟩ := HR.out.2.2.2.1.form (by omega)
      cases e2
      obtain ⟨b, off', hA, _, _, hld⟩ := rows_load (P := Try.prog) 23 Mt.cells (fun _ => rfl) (by omega) l' HR.out.2.2.2.1.rd k hkb
      cases hA
      have hld := hld 0
      change Sem.run _ _ wr = .ok _ wr at hld
      rw [hkl] at hld
      have hex : EsMy wr S (l[k]'hka) := ((H.out.1.es _ (List.getElem_mem hka)).below HR.out.2.2.2.2)
      obtain ⟨x, hx⟩ : ∃ x, l[k]'hka = x := ⟨_, rfl⟩
      rw [hx] at hld hex hkl
      have hbl := (Blk.new wr 47 zero47)
      have hst := hbl.store (P := Try.prog) (cs' := x.cells) rfl (Mt.one hex.at)
      have hbl2 := hbl.set x.cells
      have hb1 : Below wr.heap.size wr ((wr.alloc (.cells zero47.toArray 47)).setRow wr.heap.size x.cells.toArray) := below_setRow ((Below.refl _ _).alloc (Nat.le_refl _) _) (Nat.le_refl _) _
      obtain ⟨W1, hW1⟩ : ∃ W1, (wr.alloc (.cells zero47.toArray 47)).setRow wr.heap.size x.cells.toArray = W1 := ⟨_, rfl⟩
      rw [hW1] at hst hbl2 hb1
      have hld2 := hbl2.load (P := Try.prog) (k := 23) rfl
      have hx1 : x.es.length ≤ 1000 := hex.2
      have HX := Lib.hid (And.intro (hex.below hb1) (And.intro hb1 (And.intro hkl hx))); clear hex hbl hbl2 hb1 hW1 hkl hx
      simp only [zero47] at hst
      go_wp2_with fail
      refine (own_any x W1.heap.size W1 HX.out.1.at (Nat.le_refl _) (by omega)).mono ?_
      rintro e w3 ⟨v3, rfl, ho3, hb3⟩
      have hb13 := HX.out.2.1.trans (hb3.mono HX.out.2.1.size)
      have hrow3 := HR.out.2.2.2.1.below hb13
      have hes3 : EsMy w3 (fun k => w.heap.size ≤ k) (x.with v3) := EsMy.of_own (p := x.with v3) ho3 hx1 (fun i hi _ => Nat.le_trans HR.out.2.2.2.2.size (Nat.le_trans HX.out.2.1.size hi))
      obtain ⟨X, hst3, hrow4⟩ := hrow3.put (P := Try.prog) k hlt (x.with v3).cells rfl (Mt.one hes3.at)
      rw [mtCells_set l' k hkb] at hrow4
      have hgr : w.heap.size ≤ gr := (hrow3.lt gr rfl).1
      have hb4 : Below w.heap.size w (w3.setRow gr X) := below_setRow (HR.out.2.2.2.2.trans (hb13.mono HR.out.2.2.2.2.size)) hgr X
      have hcr : Chg (fun k => k = gr) w3 (w3.setRow gr X) := (Chg.refl (fun k => k = gr) w3).setRow (g := gr) (.inr rfl) X
      have htag : ∀ i c, i = gr → w3.heap[i]? ≠ some (.cells c 67 (0, 0)) := fun i c hi hg => by
        obtain ⟨c', hc'⟩ := hrow3.tag (i := gr) rfl
        rw [hi, hc'] at hg
        simp at hg
      have H4 := Lib.hid (And.intro hrow4 (And.intro hb4 (show ∀ p ∈ (l'.set k (x.with v3)).take (k + 1), EsMy (w3.setRow gr X) (fun k => w.heap.size ≤ k) p from fun p hp => by
        rw [List.take_set, List.mem_iff_getElem?] at hp
        obtain ⟨j, hj⟩ := hp
        rw [List.getElem?_set] at hj
        split at hj
        · split at hj
          · cases hj
            exact hes3.chg hcr htag
          · cases hj
        · rename_i hne
          rw [List.getElem?_take] at hj
          split at hj
          · have hjk : j < k := by omega
            have hmem : p ∈ l'.take k := by
              rw [List.mem_iff_getElem?]
              exact ⟨j, by rw [List.getElem?_take, if_pos hjk]; exact hj⟩
            exact ((HR.out.2.1 p hmem).below hb13).chg hcr htag
          · cases hj)))
      clear hrow3 hes3 hrow4 hgr hb4 hcr htag hb13 ho3 hb3 hld hld2 hst
      go_wp2_with fail
      go_roundw
      case rel =>
        refine ⟨k + 1, by omega, by go_num, l'.set k (x.with v3), by rw [List.length_set]; exact hl', ?_, H4.out.2.2, ?_, H4.out.1, H4.out.2.1⟩
        · rw [List.map_set, ← HR.out.1]
          have : (x.with v3).m = (l'.map Mt.m)[k]'(by simpa using hkb) := by rw [List.getElem_map, HX.out.2.2.1]; rfl
          rw [this, List.set_getElem_self]
        · rw [List.drop_set_of_lt (by omega), ← List.drop_drop, HR.out.2.2.1, List.drop_drop]
      case measure => simp [intOf]; omega
    · obtain rfl : k = n := by omega
      go_wp2_with fail
      go_ret
      refine ⟨_, l', rfl, ⟨?_, fun p hp => ?_⟩, HR.out.1, HR.out.2.2.2.2⟩
      · rw [hl']
        exact HR.out.2.2.2.1
      · exact HR.out.2.1 p (by rw [List.take_of_length_le (by omega)]; exact hp)
end Go.Proofs.Ytbdbimnfknaakaa
