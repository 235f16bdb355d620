/- A script's calls: Double at a place that is. -/
import Derived.Test.YtbdbimnfknaakaaCallTake
namespace Go.Proofs.Ytbdbimnfknaakaa
open Go.RowKit
attribute [-go_sem] loadCellsFrom storeCells
attribute [local go_sem] storeCells_one Mt.cells_len Mt.fold

set_option linter.unusedSimpArgs false in
set_option maxRecDepth 100000 in
set_option maxHeartbeats 12800000 in
theorem call_double {base g most : Nat} {vl : Value} {ms : List Ms} {Sb Sr : Nat → Prop} {v : Value} {lb ll : List Mt} (i : Nat) (ov : Value) (w : World) (x : Ms) (h : St base w g most vl ms Sb Sr v lb ll) (hbase : base ≤ w.heap.size) (h1 : 1 ≤ most) (h2 : most ≤ 200) (hin : i < ms.length) (hx0 : ms[i]? = some x) :
    Calls Try.prog 11 #[.pointer (some ⟨g, 0, none⟩), vl, .agg #[.int .i64 3, .int .i64 i, ov], .int .i64 most] w (CallPost base g most w (lastN most (ms ++ [x]))) := by
  have hlb : lb.length = ms.length := by rw [← h.mb, List.length_map]
  have hll : ll.length = ms.length := by rw [← h.mr, List.length_map]
  have hms : ms.length ≤ 200 := by have := h.bag.short; omega
  obtain ⟨xb, hxb, hxbm⟩ := at_of_map h.mb hin
  obtain ⟨y, hy, hym⟩ := at_of_map h.mr hin
  have hxbx : xb.m = x := by rw [hxbm] at hx0; injection hx0
  have hyx : y.m = x := by rw [hym] at hx0; injection hx0
  have hkx : x.h.k ≠ 0 := h.kinds x (List.mem_of_getElem? hx0)
  obtain ⟨gl, offl, cl, cur, hvl, _⟩ := h.row.1.form (by omega)
  subst hvl
  have hk := Blk.new w 33 [.int .i64 3, .int .i64 i, ov]
  have hb1 := (Below.refl w.heap.size w).alloc (Nat.le_refl _) (.cells #[.int .i64 3, .int .i64 i, ov] 33)
  obtain ⟨w1, hw1⟩ : ∃ w1, w.alloc (.cells #[.int .i64 3, .int .i64 i, ov] 33) = w1 := ⟨_, rfl⟩
  have hs1 : w1.heap.size = w.heap.size + 1 := by rw [← hw1]; simp
  rw [hw1] at hk hb1
  have hst1 := h.below hb1
  have q0 : w1.cell? ⟨w.heap.size, 0, none⟩ = some (.int .i64 3) := hk.cell 0
  have q1 : w1.cell? ⟨w.heap.size, 1, none⟩ = some (.int .i64 i) := hk.cell 1
  have HT := Lib.hid (double_at (S := fun k => Sb k ∨ w1.heap.size ≤ k) i xb w1 (hst1.bag.mono fun k _ hk => .inl hk) (fun k hk => .inr hk) h1 h2 hxb)
  have HS := Lib.hid (And.intro hxbx (And.intro hy (And.intro hyx hkx)))
  have H := Lib.hid (And.intro hst1 (And.intro (hb1.mono hbase) (And.intro hk (And.intro hs1 h))))
  have HL := Lib.hid (And.intro hlb hll)
  clear h hb1 hk hst1 hxb hxbm hy hym hxbx hyx hkx hx0 hs1
  have hllr : (.slice (some ⟨gl, offl, none⟩) ll.length cl : Value) = .slice (some ⟨gl, offl, none⟩) ms.length cl := by rw [hll]
  have HLR := Lib.hid hllr
  rw [hll]
  clear hlb hll hllr
  go_enter Try.func11, Try.ntmps11
  go_wp2_with fail
  refine HT.out.mono ?_
  rintro e w2 ⟨rfl, v2, l2, hbag2, hl2, hch2, _⟩
  rw [H.out.1.mb, HS.out.1] at hl2
  have hb2 : Below base w1 w2 := hch2.below (fun k hk => (H.out.1.b k (H.out.1.bagS k hk)).1) (Nat.le_trans hbase (by have := H.out.2.2.2.1; omega))
  have hrow2 := H.out.1.row.chg hch2 (fun k hk _ ht => H.out.1.apart k (H.out.1.bagS k ht) hk)
  have hk2 := H.out.2.2.1.chg hch2 (fun ht => by have := (H.out.2.2.2.2.b _ (H.out.1.bagS _ ht)).2; omega)
  have r1 : w2.cell? ⟨w.heap.size, 1, none⟩ = some (.int .i64 i) := hk2.cell 1
  have hil : i < ll.length := by have := HL.out.2; omega
  obtain ⟨b', off', hA', _, _, hld⟩ := rows_load (P := Try.prog) 23 Mt.cells (fun _ => rfl) (by omega) ll hrow2.1.rd i hil
  cases hA'
  have hld := hld 0
  change Sem.run _ _ w2 = .ok _ w2 at hld
  rw [show ll[i]'hil = y from (List.getElem?_eq_some_iff.1 HS.out.2.1).2] at hld
  have hymem : y ∈ ll := by rw [← (List.getElem?_eq_some_iff.1 HS.out.2.1).2]; exact List.getElem_mem _
  -- a row of that message alone
  have hb3 : Below w2.heap.size w2 (w2.alloc (.cells y.cells.toArray 47)) := (Below.refl _ _).alloc (Nat.le_refl _) _
  have hk3 := Blk.new w2 47 y.cells
  have hms3 : MsAt (w2.alloc (.cells y.cells.toArray 47)) (w2.heap.size + 1) (.slice (some ⟨w2.heap.size, 0, none⟩) 1 1) [y] := by
    refine ⟨_, 1, 1, rfl, .inr ⟨w2.heap.size, 0, rfl, by omega, fun j u hu => ?_⟩, rfl, Nat.le_refl _, fun p hp => ?_⟩
    · rw [Nat.zero_add, hk3.cell]
      have e : mtCells [y] = y.cells := by simp [mtCells]
      rw [e] at hu
      exact hu
    · rw [List.mem_singleton.1 hp]
      exact ⟨EsAt.more ((hrow2.2 y hymem).at.below hb3 (Nat.le_refl _)) (Nat.le_succ _), (hrow2.2 y hymem).2⟩
  have hcp := refPut_any (.slice (some ⟨w2.heap.size, 0, none⟩) 1 1) [y] (w2.heap.size + 1) most _ (hrow2.below hb3) hms3 (by simp) h1 h2 (by have := HL.out.2; omega) (by simp)
  rw [HLR.out] at hcp
  have HCp := Lib.hid hcp
  have H3 := Lib.hid (And.intro hbag2 (And.intro hl2 (And.intro (H.out.2.1.trans hb2) (And.intro hb3 hch2.size))))
  have a1 : decide ((i : Int) < 0) = false := decide_eq_false (by omega)
  have a2 : ¬ (ms.length : Int) ≤ (i : Int) := by omega
  have a3 : decide ((ms.length : Int) ≤ (i : Int)) = false := decide_eq_false a2
  have a4 : decide (ms.length ≤ i) = false := decide_eq_false (by omega)
  have hi64 : (i : Int) < (ms.length : Int) := by omega
  clear hbag2 hl2 hb2 hb3 hk3 hms3 hcp hrow2 hk2 hch2 q0 q1 hymem
  go_wp2_with fail
  refine HCp.out.mono ?_
  rintro e w4 ⟨v4, l4, rfl, hmy4, hl4, hb4⟩
  have hput : putN most (ll.map Mt.m) ([y].map Mt.m) = lastN most (ms ++ [x]) := by
    rw [H.out.1.mr]
    unfold putN
    rw [show ([y].map Mt.m).filter (fun m => decide (m.h.k ≠ 0)) = [x] from by
      have e : [y].map Mt.m = [x] := by rw [← HS.out.2.2.1]; rfl
      rw [e]
      exact List.filter_eq_self.2 (fun m hm => by rw [List.mem_singleton.1 hm]; exact decide_eq_true HS.out.2.2.2)]
  rw [hput] at hl4
  have hb24 : Below w2.heap.size w2 w4 := H3.out.2.2.2.1.trans (hb4.mono H3.out.2.2.2.1.size)
  have HFin := Lib.hid (show CallPost base g most w (lastN most (ms ++ [x])) (.returned (.tuple #[v4, .bool true])) w4 from by
    have s0 := H.out.2.2.2.1
    have s1 := H3.out.2.2.2.2
    have s2 := H3.out.2.2.2.1.size
    have s3 := hb4.size
    have hb0 := H.out.2.2.2.2.b
    have hr0 := H.out.2.2.2.2.r
    have hsz : (w2.alloc (.cells y.cells.toArray 47)).heap.size = w2.heap.size + 1 := by simp
    refine ⟨⟨v4, (fun k => (Sb k ∨ w1.heap.size ≤ k) ∧ k < w2.heap.size), (fun k => (Sr k ∨ (w2.alloc (.cells y.cells.toArray 47)).heap.size ≤ k) ∧ k < w4.heap.size), v2, l2, l4, rfl, ?_⟩, H3.out.2.2.1.trans (hb24.mono (Nat.le_trans hbase (by omega)))⟩
    refine ⟨fun k hk => ⟨?_, by have := hk.2; omega⟩, fun k hk => ⟨?_, hk.2⟩, fun k hk hr => ?_, (H3.out.1.mono fun k hk hs => ⟨hs, hk⟩).below hb24, hmy4.mono fun k hk hs => ⟨hs, hk⟩, H3.out.2.1, hl4, fun m hm => ?_⟩
    · rcases hk.1 with h | h
      · exact (hb0 k h).1
      · omega
    · rcases hk.1 with h | h
      · exact (hr0 k h).1
      · omega
    · rcases hr.1 with h | h
      · rcases hk.1 with h' | h'
        · exact H.out.1.apart k h' h
        · have := (hr0 k h).2; omega
      · have := hk.2; omega
    · rcases List.mem_append.1 (lastN_mem hm) with h | h
      · exact H.out.1.kinds m h
      · rw [List.mem_singleton.1 h]; exact HS.out.2.2.2)
  clear hmy4 hl4 hb4 hb24 hput
  go_wp2_with fail
  go_ret2
  exact HFin.out
end Go.Proofs.Ytbdbimnfknaakaa
