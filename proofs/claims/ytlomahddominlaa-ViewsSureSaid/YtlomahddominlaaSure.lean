/- views.Sure: the greatest number that enough nodes have. -/
import Derived.Test.YtlomahddominlaaBackw
import Derived.Test.YtlomahddominlaaRange2
namespace Go.Proofs.Ytlomahddominlaa
open Go.RowKit
attribute [local go_sem] Oper.semAt_some

theorem int_info : (Try.prog.info? 3).map (fun i => (i.zero, i.size, i.bytes)) = some (some (.int .i64 0), 1, 8) := by kernel_rfl
theorem run_loadVar_one' (w : World) {A : Addr} {v : Value} (hc : w.cell? A = some v) : (loadVar 3 A).run Try.prog w = .ok v w := run_loadVar_one w Try.underlying3 rfl hc
theorem sure_results {a : Array Value} {w : World} {b : Nat} {u : Value} (h1 : a.getD 6 undef = .pointer (some ⟨b, 0, none⟩)) (c1 : w.cell? ⟨b, 0, none⟩ = some u) : (results Try.f23 a).run Try.prog w = .ok u w := by
  have hp : a[6]?.getD undef = .pointer (some ⟨b, 0, none⟩) := by simpa using h1

  simp [results, hp, asAddr, run_loadVar_one' w c1]

theorem keepsOthers_below {W W' : World} (h : Below W.heap.size W W') : KeepsOthers W W' := ⟨h.size, fun k _ hk _ => (h.block k (Array.getElem?_eq_some_iff.1 hk).1).trans hk⟩
theorem boxes5 (w : World) (t1 t2 t3 t4 t5 : TypeId) (v1 v2 v3 v4 v5 : Value) : ∃ wb, ((((w.alloc (.cells #[v1] t1)).alloc (.cells #[v2] t2)).alloc (.cells #[v3] t3)).alloc (.cells #[v4] t4)).alloc (.cells #[v5] t5) = wb ∧
    Boxed wb w.heap.size t1 v1 ∧ Boxed wb (w.heap.size + 1) t2 v2 ∧ Boxed wb (w.heap.size + 2) t3 v3 ∧ Boxed wb (w.heap.size + 3) t4 v4 ∧ Boxed wb (w.heap.size + 4) t5 v5 ∧ wb.heap.size = w.heap.size + 5 ∧ Below w.heap.size w wb := by
  have n2 := Boxed.new (w.alloc (.cells #[v1] t1)) t2 v2
  have n3 := Boxed.new ((w.alloc (.cells #[v1] t1)).alloc (.cells #[v2] t2)) t3 v3
  have n4 := Boxed.new (((w.alloc (.cells #[v1] t1)).alloc (.cells #[v2] t2)).alloc (.cells #[v3] t3)) t4 v4
  have n5 := Boxed.new ((((w.alloc (.cells #[v1] t1)).alloc (.cells #[v2] t2)).alloc (.cells #[v3] t3)).alloc (.cells #[v4] t4)) t5 v5
  simp only [World.size_alloc] at n2 n3 n4 n5
  exact ⟨_, rfl, ((((Boxed.new w t1 v1).alloc _).alloc _).alloc _).alloc _, ((n2.alloc _).alloc _).alloc _, (n3.alloc _).alloc _, n4.alloc _, n5, by simp, ((((((Below.refl _ w).alloc (Nat.le_refl _) _).alloc (by simp) _).alloc (by simp; omega) _).alloc (by simp; omega) _).alloc (by simp; omega) _)⟩

set_option maxRecDepth 100000 in
set_option maxHeartbeats 4000000 in
theorem sure_any (N own : Int) (A : Option Addr) (m c C : Nat) (l : List (Int × Int)) (w : World) (hr : Rd w C A (ackCells l)) (hC : C ≤ w.heap.size) (hl : l.length = m) (hm : m ≤ 100000) :
    Calls Try.prog 23 #[.int .i64 N, .int .i64 own, .slice A m c] w fun e w' => e = .returned (.int .i64 (sureN N own l)) ∧ Below w.heap.size w w' := by
  obtain ⟨r, hres⟩ : ∃ r, sureN N own l = r := ⟨_, rfl⟩
  rw [hres]
  have HE := Lib.hid hres; clear hres
  have H := Lib.hid (And.intro hr hl); clear hr hl
  refine (callsIn_wide (n := 6)).1 (callsIn_of_wp_marks Try.func23 rfl trivial (wpIn_wide.2 ?_) rfl)
  simp only [Try.ntmps23, List.size_toArray, List.length_cons, List.length_nil, Nat.reduceAdd, Nat.reduceSub, Array.replicate_succ, Array.replicate_zero, List.push_toArray, List.append_toArray, List.nil_append, List.cons_append]
  go_wp2_with fail
  refine (nodes_any N _).mono ?_
  rintro e w' ⟨rfl, rfl⟩
  obtain ⟨i0, hi0, hz0, hz1, hz2⟩ := info_parts int_info
  cases hnb : nodesB N
  · obtain rfl : r = 0 := by rw [← HE.out]; unfold sureN; rw [hnb]; rfl
    clear hnb
    go_wp2_with fail
    refine ⟨_, sure_results (b := w.heap.size + 1 + 1 + 1) rfl (Boxed.cell (t := 3) ?_), rfl, ?_⟩
    · have h9 := World.alloc_heap_new (((w.alloc (.cells #[.int .i64 N] 3)).alloc (.cells #[.int .i64 own] 3)).alloc (.cells #[.slice A m c] 34)) (.cells #[.int .i64 0] 3)
      simp only [World.size_alloc] at h9
      exact h9
    · exact ((((Below.refl _ w).alloc (Nat.le_refl _) _).alloc (by simp) _).alloc (by simp; omega) _).alloc (by simp; omega) _
  · have hN7 : N ≤ 7 := by have := nodesB_of hnb; omega
    have HNB := Lib.hid hnb; clear hnb
    have hsf : ∀ (W : World) (a : Addr) (fn : Fn) (f cp : Array Value) (mo : Mode), (store a (.func fn f cp) mo).run Try.prog W = stored Try.prog W a (.func fn f cp) mo := fun W a fn f cp mo => run_store Try.prog W a (.func fn f cp) mo rfl
    go_wp2_with fail
    obtain ⟨wb, hwb, b0, b1, b2, b3, b4, hsz, hBw⟩ := boxes5 w 3 3 34 3 24 (.int .i64 N) (.int .i64 own) (.slice A m c) (.int .i64 0)
      (.func (.func 37) #[] #[.pointer (some ⟨w.heap.size + 1 + 1, 0, none⟩), .pointer (some ⟨w.heap.size, 0, none⟩), .pointer (some ⟨w.heap.size + 1, 0, none⟩)])
    rw [hwb]
    have HW := Lib.hid (And.intro b0 (And.intro b1 (And.intro b2 (And.intro b3 (And.intro b4 (And.intro hsz hBw))))))
    clear hwb b0 b1 b2 b3 b4 hsz hBw
    go_loopw [8, 21] (fun v i wr => ∃ k : Nat, k ≤ m ∧ i = .int .i64 k ∧ wr.ownsRow wb.heap.size 3 1 v (k + 1) (iv (own :: (l.take k).map (·.2))) ∧ Below wb.heap.size wb wr) (fun _ i _ => m - (intOf i).toNat)
    case atStart =>
      refine ⟨0, by omega, rfl, ?_, (Below.refl _ wb).alloc (Nat.le_refl _) _⟩
      have h9 := World.ownsRow_lit (e := 3) (size := 1) wb #[.int .i64 own] 1 (Nat.le_refl wb.heap.size) (by unfold maxLen; omega) rfl
      rw [HW.out.2.2.2.2.2.1] at h9
      rw [HW.out.2.2.2.2.2.1]
      exact h9
    case round =>
      obtain ⟨k, hk, rfl, hown, hb⟩ := hrel
      have HB := Lib.hid hb
      have HO := Lib.hid hown
      have HBW := Lib.hid (HW.out.2.2.2.2.2.2.trans (hb.mono HW.out.2.2.2.2.2.2.size))
      clear hb hown
      by_cases hlt : k < m
      · have g3 : (k : Int) < (m : Int) := by omega
        have hkl : k < l.length := by have := H.out.2; omega
        obtain ⟨b, off, hA, hbC, c0, c1⟩ := ack_rd (H.out.1.below HBW.out hC) k hkl
        subst hA
        have hst : own :: (l.take (k + 1)).map (·.2) = (own :: (l.take k).map (·.2)) ++ [(l[k]'hkl).2] := by
          rw [List.take_succ_eq_append_getElem hkl]; simp only [List.map_append, List.map_cons, List.map_nil, List.cons_append]
        have HS := Lib.hid hst; clear hst
        generalize l[k]'hkl = a at *
        obtain ⟨x, y⟩ := a
        have o2 := Lib.hid (HO.out.alloc (.cells #[.int .i64 x, .int .i64 y] 37))
        have hb2 := Lib.hid (HB.out.alloc HB.out.size (.cells #[.int .i64 x, .int .i64 y] 37))
        go_wp2_with (at_builtin; refine wpList_append_one (wr.alloc (.cells #[.int .i64 x, .int .i64 y] 37)) rfl (.tmp 25) (.tmp 28) _ rfl wb.heap.size 3 i0 _ 8 Try.underlying22 hi0 hz0 hz1 hz2 rfl _ (k + 1) _ o2.out rfl (.int .i64 y) (by simp [Value.oneCell']) (by simp [Act.eval]) ?_ ?_ hb2.out.size ?_)
        · unfold maxLen; omega
        · omega
        intro v5 w5 hown5 hg5
        have H5 := Lib.hid (And.intro hown5 (hb2.out.trans (below_of_grown o2.out hg5 hb2.out.size))); clear hown5 hg5
        go_wp2_with fail
        go_roundw
        case rel => exact ⟨k + 1, by omega, by go_num, by rw [HS.out]; simpa [iv] using H5.out.1, H5.out.2⟩
        case measure => simp [intOf]; omega
      · obtain rfl : k = m := by omega
        have hall : own :: (l.take k).map (·.2) = alls own l := by rw [List.take_of_length_le (by have := H.out.2; omega)]; rfl
        have hown := HO.out
        rw [hall] at hown
        rcases own_form hown with ⟨_, h0, _⟩ | ⟨g, cap, rfl, hgb, hgl, _, _⟩
        · omega
        have HSO := Lib.hid (sort_any wb.heap.size g cap (k + 1) (alls own l) wr hown (by omega))
        clear hown hall
        go_wp2_with fail
        refine HSO.out.mono ?_
        rintro e w5 ⟨rfl, hown5, hb5⟩
        have HZ5 := Lib.hid (hb5.size)
        have H5 := Lib.hid (And.intro hown5 (HB.out.trans hb5)); clear hown5 hb5
        go_wp2_with fail
        refine (backward_any _ _ _ _).mono ?_
        rintro e w6 ⟨rfl, rfl⟩
        go_wp2_with fail
        obtain ⟨wl, hwl⟩ : ∃ wl, w5.alloc (.cells #[.slice (some ⟨g, 0, none⟩) (k + 1) cap] 22) = wl := ⟨_, rfl⟩
        have hwz : wl.heap.size = w5.heap.size + 1 := by rw [← hwl]; simp
        have hlen : (sortI (alls own l)).length = k + 1 := by rw [sortI_length]; simp [alls]; exact H.out.2
        have hbb : Boxed wl w5.heap.size 22 (.slice (some ⟨g, 0, none⟩) (k + 1) cap) := by rw [← hwl]; exact Boxed.new _ _ _
        have hwk : Below w5.heap.size w5 wl := by rw [← hwl]; exact (Below.refl _ w5).alloc (Nat.le_refl _) _
        have hg5 : g < w5.heap.size := Nat.lt_of_lt_of_le hgl HZ5.out
        have hcs : ∀ j, j < k + 1 → wl.cell? ⟨g, j, none⟩ = some (.int .i64 ((sortI (alls own l)).getD j 0)) := fun j hj => by
          have h1 := H5.out.1.cellAt j (by omega)
          have h2 : (iv (sortI (alls own l)))[j]? = some (.int .i64 ((sortI (alls own l)).getD j 0)) := by simp [iv, List.getD, show j < (sortI (alls own l)).length by omega]
          exact (hwk.cell (p := ⟨g, j, none⟩) hg5).trans (h1.trans h2)
        rw [hwl]
        have hB5 : Below wb.heap.size wb w5 := H5.out.2
        have hwb5 := HW.out.2.2.2.2.2.1
        have hBl0 : Below wb.heap.size wb wl := hB5.trans (hwk.mono hB5.size)
        have hBwl : Below w.heap.size w wl := HW.out.2.2.2.2.2.2.trans (hBl0.mono HW.out.2.2.2.2.2.2.size)
        have l0 := boxed_below HW.out.1 hBl0 (by omega)
        have l1 := boxed_below HW.out.2.1 hBl0 (by omega)
        have l2 := boxed_below HW.out.2.2.1 hBl0 (by omega)
        have l3 := boxed_below HW.out.2.2.2.1 hBl0 (by omega)
        have l4 := boxed_below HW.out.2.2.2.2.1 hBl0 (by omega)
        have HL := Lib.hid (And.intro l0 (And.intro l1 (And.intro l2 (And.intro l3 (And.intro l4 (And.intro hBwl hwz))))))
        have hle : w.heap.size + 5 ≤ w5.heap.size := by have := hB5.size; omega
        clear hwl hB5 hwb5 hBl0 hBwl l0 l1 l2 l3 l4
        have hbs := backward_stops w5.heap.size (w5.heap.size + 1) g cap (k + 1) (sortI (alls own l)) wl (by omega) (by omega) (by omega) hlen (by omega) hbb.cell (by omega) hcs
        have HG := Lib.hid (And.intro hlen hwk); clear hlen hwk hbb hcs
        refine wp_range2 (q := 12) rfl (enters_of Try.func44 (by kernel_rfl) rfl) (v1 := fun x : Nat × Int => Value.int .i64 (x.1 : Int)) (v2 := fun x : Nat × Int => Value.int .i64 x.2) hbs (by omega)
          (fun pre W => (∀ p ∈ pre, ¬ (0 < p.2 ∧ hasB N own l p.2 = true)) ∧ Below (w5.heap.size + 1) wl W)
          (fun cd pre W => (cd = .ret ∧ ∃ q p, pre = q ++ [p] ∧ (0 < p.2 ∧ hasB N own l p.2 = true) ∧ (∀ x ∈ q, ¬ (0 < x.2 ∧ hasB N own l x.2 = true)) ∧ Boxed W (w.heap.size + 3) 3 (.int .i64 p.2)) ∧ Below w.heap.size w W)
          ?hI ?hIx ?h0 ?hassign ?hbody ?hdone ?hstop
        case hI => exact OwnFrom.and (ownFrom_pure _ (fun pre : List (Nat × Int) => ∀ p ∈ pre, ¬ (0 < p.2 ∧ hasB N own l p.2 = true))) (ownFrom_below (by omega) (by omega))
        case hIx =>
          intro cd
          refine OwnFrom.and (Own.from ?_ _) (ownFrom_below (Nat.le_refl _) (by omega))
          rintro pre X Y row ⟨h1, q, p, h2, h3, h4, h5⟩ hg hr
          exact ⟨h1, q, p, h2, h3, h4, boxed_own _ _ (fun _ => _) pre X Y row h5 hg hr⟩
        case h0 => exact ⟨by simp, Below.refl _ _⟩
        case hassign =>
          intro l9 x W K hK
          simp only [List.setIfInBounds_toArray, List.set_cons_zero, List.set_cons_succ] at hK ⊢
          gi_wp2
          exact hK
        case hbody =>
          rintro l9 pre ⟨x1, x2⟩ W ⟨hq, hBl⟩ _
          simp only [List.setIfInBounds_toArray, List.set_cons_zero, List.set_cons_succ]
          have hWz := hBl.size
          have m4 := boxed_below HL.out.2.2.2.2.1 hBl (by omega)
          have m3 := boxed_below HL.out.2.2.2.1 hBl (by omega)
          have p4 := m4.cell; have p3 := m3.cell; have f3 := m3.frozen
          have hBW : Below w.heap.size w W := HL.out.2.2.2.2.2.1.trans (hBl.mono (by omega))
          have HH := Lib.hid (has_any N own x2 A k c C (w.heap.size + 1 + 1) w.heap.size (w.heap.size + 1) l W hN7 (H.out.1.below hBW hC) (by have := hBW.size; omega) H.out.2 (by omega) (boxed_below HL.out.2.2.1 hBl (by omega)) (boxed_below HL.out.1 hBl (by omega)) (boxed_below HL.out.2.1 hBl (by omega)))
          have HQ := Lib.hid (And.intro hq (And.intro hBl (And.intro hBW m3)))
          clear hq hBl hBW m4 m3 hbs
          obtain ⟨hv, hhv⟩ : ∃ hv, hasB N own l x2 = hv := ⟨_, rfl⟩
          rw [hhv] at HH
          have HV := Lib.hid hhv; clear hhv
          by_cases hx : 0 < x2
          · cases hv
            · gi_wp2
              refine ⟨trivial, (CallsIn.inRound l9 (callsIn_wide.2 HH.out)).mono ?_⟩
              rintro e W2 ⟨rfl, hb2⟩
              have H2 := Lib.hid hb2; clear hb2
              gi_wp2
              refine ⟨keepsOthers_below H2.out, ⟨H2.out.os, H2.out.tape, H2.out.output, H2.out.size, fun j hj => H2.out.block j (by omega)⟩, ⟨?_, HQ.out.2.1.trans (H2.out.mono (by omega))⟩⟩
              intro p hp
              rcases List.mem_append.1 hp with h | h
              · exact HQ.out.1 p h
              · obtain rfl : p = (x1, x2) := by simpa using h
                intro h9
                have := HV.out
                rw [h9.2] at this
                cases this
            · gi_wp2
              refine ⟨trivial, (CallsIn.inRound l9 (callsIn_wide.2 HH.out)).mono ?_⟩
              rintro e W2 ⟨rfl, hb2⟩
              have m3 := boxed_below HQ.out.2.2.2 hb2 (by omega)
              have H2 := Lib.hid (And.intro hb2 m3)
              have p5 := m3.cell; have f5 := m3.frozen
              clear hb2 m3
              gi_wp2
              refine ⟨(keepsOthers_below H2.out.1).trans (KeepsOthers.setCell _ _ _), ⟨⟨rfl, pre, (x1, x2), rfl, ⟨hx, HV.out⟩, HQ.out.1, H2.out.2.set _⟩, (HQ.out.2.2.1.trans (H2.out.1.mono (by omega))).setCell (p := ⟨_, 0, none⟩) (by simp; omega) _⟩⟩
          · gi_wp2
            refine ⟨fun _ h => (by cases h), ?_⟩
            gi_wp2
            refine ⟨KeepsOthers.refl _, Below.refl _ _, ⟨?_, HQ.out.2.1⟩⟩
            intro p hp
            rcases List.mem_append.1 hp with h | h
            · exact HQ.out.1 p h
            · obtain rfl : p = (x1, x2) := by simpa using h
              exact fun h9 => by have := h9.1; simp only at this; omega
        case hdone =>
          rintro D ys W hD rfl ⟨hq, hBl⟩ hK
          obtain rfl : r = 0 := by rw [← HE.out]; exact (sure_done HNB.out hq).symm
          have hWz := hBl.size
          have m3 := boxed_below HL.out.2.2.2.1 hBl (by omega)
          have p3 := m3.cell; have f3 := m3.frozen
          have HQ := Lib.hid (And.intro hK (And.intro (HL.out.2.2.2.2.2.1.trans (hBl.mono (by omega)) : Below w.heap.size w W) m3))
          clear hq hBl hK m3 hbs
          go_wp2_with fail
          have hK' := (KeepsOthers.setCell W ⟨w.heap.size + 1 + 1 + 1, 0, none⟩ (.int .i64 0)).same D _ HQ.out.1 rfl
          have hb9 := HQ.out.2.1.setCell (p := ⟨w.heap.size + 1 + 1 + 1, 0, none⟩) (by simp; omega) (.int .i64 0)
          refine ⟨by simp, .inl ⟨_, _, rfl, run_takeDeferred hK', ?_⟩⟩
          exact ⟨_, sure_results (b := w.heap.size + 1 + 1 + 1) rfl (boxed_putObj (HQ.out.2.2.set _) (by omega)).cell, rfl, below_putObj hb9 (by omega) hb9.size⟩
        case hstop =>
          rintro D cd pre W hD hpre ⟨⟨rfl, q, p, rfl, h3, h4, h5⟩, hBw9⟩ hK
          obtain rfl : p.2 = r := by rw [← HE.out]; exact sure_stop HNB.out hpre h3 h4
          have HQ := Lib.hid (And.intro hK (And.intro hBw9 h5))
          clear hpre h3 h4 h5 hBw9 hK hbs
          go_wp2_with fail
          refine ⟨by simp, .inl ⟨_, _, rfl, run_takeDeferred HQ.out.1, ?_⟩⟩
          exact ⟨_, sure_results (b := w.heap.size + 1 + 1 + 1) rfl (boxed_putObj HQ.out.2.2 (by omega)).cell, rfl, below_putObj HQ.out.2.1 (by omega) HQ.out.2.1.size⟩
end Go.Proofs.Ytlomahddominlaa
