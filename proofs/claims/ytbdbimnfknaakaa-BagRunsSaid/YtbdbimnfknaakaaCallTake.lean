/- A script's calls: Take and Double at a place that is. -/
import Derived.Test.YtbdbimnfknaakaaCallRest
namespace Go.Proofs.Ytbdbimnfknaakaa
open Go.RowKit
attribute [-go_sem] loadCellsFrom storeCells
attribute [local go_sem] storeCells_one Mt.cells_len Mt.fold

theorem at_of_map {l : List Mt} {ms : List Ms} (h : l.map Mt.m = ms) {i : Nat} (hi : i < ms.length) : ∃ x, l[i]? = some x ∧ ms[i]? = some x.m := by
  have hl : i < l.length := by rw [← h, List.length_map] at hi; exact hi
  exact ⟨l[i], List.getElem?_eq_getElem hl, by rw [← h, List.getElem?_map, List.getElem?_eq_getElem hl]; rfl⟩
theorem map_eraseIdx' (l : List Mt) (i : Nat) : (l.eraseIdx i).map Mt.m = (l.map Mt.m).eraseIdx i := by
  rw [List.eraseIdx_eq_take_drop_succ, List.eraseIdx_eq_take_drop_succ, List.map_append, List.map_take, List.map_drop]

set_option linter.unusedSimpArgs false in
set_option maxRecDepth 100000 in
set_option maxHeartbeats 12800000 in
theorem call_take {base g most : Nat} {vl : Value} {ms : List Ms} {Sb Sr : Nat → Prop} {v : Value} {lb ll : List Mt} (i : Nat) (ov : Value) (w : World) (h : St base w g most vl ms Sb Sr v lb ll) (hbase : base ≤ w.heap.size) (h2 : most ≤ 200) (hin : i < ms.length) :
    Calls Try.prog 11 #[.pointer (some ⟨g, 0, none⟩), vl, .agg #[.int .i64 2, .int .i64 i, ov], .int .i64 most] w (CallPost base g most w (ms.eraseIdx i)) := by
  have hlb : lb.length = ms.length := by rw [← h.mb, List.length_map]
  have hll : ll.length = ms.length := by rw [← h.mr, List.length_map]
  have hms : ms.length ≤ 200 := by have := h.bag.short; omega
  obtain ⟨x, hx, hxm⟩ := at_of_map h.mb hin
  obtain ⟨y, hy, hym⟩ := at_of_map h.mr hin
  have hxy : x.m = y.m := by rw [hxm] at hym; injection hym
  obtain ⟨gl, offl, cl, cur, hvl, _⟩ := h.row.1.form (by omega)
  subst hvl
  have hk := Blk.new w 33 [.int .i64 2, .int .i64 i, ov]
  have hb1 := (Below.refl w.heap.size w).alloc (Nat.le_refl _) (.cells #[.int .i64 2, .int .i64 i, ov] 33)
  obtain ⟨w1, hw1⟩ : ∃ w1, w.alloc (.cells #[.int .i64 2, .int .i64 i, ov] 33) = w1 := ⟨_, rfl⟩
  have hs1 : w1.heap.size = w.heap.size + 1 := by rw [← hw1]; simp
  rw [hw1] at hk hb1
  have hst1 := h.below hb1
  have q0 : w1.cell? ⟨w.heap.size, 0, none⟩ = some (.int .i64 2) := hk.cell 0
  have q1 : w1.cell? ⟨w.heap.size, 1, none⟩ = some (.int .i64 i) := hk.cell 1
  have HT := Lib.hid (take_at i x w1 hst1.bag hx (by omega))
  have HS := Lib.hid (And.intro (And.intro hx hxm) (And.intro (And.intro hy hym) hxy))
  have H := Lib.hid (And.intro hst1 (And.intro (hb1.mono hbase) (And.intro hk (And.intro hs1 h))))
  have HL := Lib.hid (And.intro hlb hll)
  clear h hb1 hk hst1 hx hxm hy hym hxy hs1
  rw [hll]
  clear hlb hll
  go_enter Try.func11, Try.ntmps11
  go_wp2_with fail
  refine HT.out.mono ?_
  rintro e w2 ⟨rfl, hes2, v2, hbag2, hch2, hv2⟩
  have hb2 : Below base w1 w2 := hch2.below (fun k hk => (H.out.1.b k (H.out.1.bagS k hk)).1) (Nat.le_trans hbase (by have := H.out.2.2.2.1; omega))
  have hrow2 := H.out.1.row.chg hch2 (fun k hk _ ht => H.out.1.apart k (H.out.1.bagS k ht) hk)
  have hk2 := H.out.2.2.1.chg hch2 (fun ht => by have := (H.out.2.2.2.2.b _ (H.out.1.bagS _ ht)).2; omega)
  have hz := Blk.new w2 47 zero47
  have hst := hz.store (P := Try.prog) (cs' := x.cells) rfl (Mt.one hes2.at)
  have hz3 := hz.set x.cells
  have hb3 : Below w2.heap.size w2 ((w2.alloc (.cells zero47.toArray 47)).setRow w2.heap.size x.cells.toArray) := below_setRow ((Below.refl _ _).alloc (Nat.le_refl _) _) (Nat.le_refl _) _
  obtain ⟨w3, hw3⟩ : ∃ w3, (w2.alloc (.cells zero47.toArray 47)).setRow w2.heap.size x.cells.toArray = w3 := ⟨_, rfl⟩
  rw [hw3] at hst hz3 hb3
  have hk3 := hk2.below hb3 hk2.lt
  have r1 : w3.cell? ⟨w.heap.size, 1, none⟩ = some (.int .i64 i) := hk3.cell 1
  have hsz13 : w1.heap.size ≤ w3.heap.size := Nat.le_trans hch2.size hb3.size
  have H3 := Lib.hid (And.intro (hbag2.below hb3) (And.intro (hrow2.below hb3) (And.intro ((H.out.2.1.trans hb2).trans (hb3.mono (Nat.le_trans (Nat.le_trans hbase (by have := H.out.2.2.2.1; omega)) hch2.size))) (And.intro hk3 (And.intro hz3 (And.intro (hes2.below hb3) hsz13))))))
  have hHi := H3.out.2.2.1.size
  have a1 : decide ((i : Int) < 0) = false := decide_eq_false (by omega)
  have a2 : ¬ (ms.length : Int) ≤ (i : Int) := by omega
  have a3 : decide ((ms.length : Int) ≤ (i : Int)) = false := decide_eq_false a2
  have a4 : decide (ms.length ≤ i) = false := decide_eq_false (by omega)
  have hllr : (.slice (some ⟨gl, offl, none⟩) ll.length cl : Value) = .slice (some ⟨gl, offl, none⟩) ms.length cl := by rw [HL.out.2]
  have HLR := Lib.hid hllr
  have hil : i < ll.length := by rw [HL.out.2]; exact hin
  have HIl := Lib.hid hil
  clear hz hz3 hb3 hb2 hk2 hk3 hw3 q0 q1 hbag2 hrow2 hch2 hes2 hv2 hsz13 hllr hHi
  simp only [zero47] at hst
  have hn3 : ll.length ≤ 1000 := by have := HL.out.2; omega
  have hi64 : (i : Int) < (ms.length : Int) := by omega
  go_wp2_with fail
  refine wp_region_mono' (by kernel_rfl) (by kernel_rfl) ?_
  iterate 3 (refine ex_det ?_; apply Exists.intro)
  refine ex_free ((fun v W => MyRow W (fun k => Sr k ∨ w3.heap.size ≤ k) v (ll.eraseIdx i))) ?_
  iterate 11 (refine ex_det ?_; apply Exists.intro)
  refine ex_free ((fun v W => MyRow W (fun k => Sr k ∨ w3.heap.size ≤ k) v (ll.eraseIdx i))) ?_
  iterate 1 (refine ex_det ?_; apply Exists.intro)
  refine ex_nil ⟨?pers, ?walk⟩
  case' walk =>
    iterate 2
      apply mwalk_det (by kernel_rfl) (by intro t w h; cases h; exact trivial) rfl
      · intro W hW hF
        go_wp2_with fail
        exact ⟨rfl, _, rfl, hW, Below.refl _ _, rfl⟩
      simp only [Act.put, List.setIfInBounds_toArray, List.set_cons_zero, List.set_cons_succ]
    apply mwalk_det (by kernel_rfl) (by intro t w h; cases h; exact trivial) rfl
    · intro W hW hF
      have q := (H3.out.2.2.2.1.below hW H3.out.2.2.2.1.lt).cell 1
      simp only [List.getElem?_cons_succ, List.getElem?_cons_zero] at q
      go_wp2_with fail
      exact ⟨rfl, _, rfl, hW, Below.refl _ _, rfl⟩
    simp only [Act.put, List.setIfInBounds_toArray, List.set_cons_zero, List.set_cons_succ]
    refine ⟨fun W hW hF => ?_, fun v88 => ?_⟩
    · have hcw := without_any i W (H3.out.2.1.below hW) HIl.out hn3
      rw [HLR.out] at hcw
      have HCw := Lib.hid hcw; clear hcw
      go_wp2_with fail
      refine HCw.out.mono ?_
      rintro e w9 ⟨v9, rfl, hmy, hb⟩
      have HB9 := Lib.hid (And.intro hb (hmy.mono (T := fun k => Sr k ∨ w3.heap.size ≤ k) (fun k _ hk => hk.elim .inl (fun h => .inr (Nat.le_trans hW.size h))))); clear hb hmy
      go_wp2_with fail
      exact ⟨rfl, _, rfl, hW.trans (HB9.out.1.mono hW.size), HB9.out.1, HB9.out.2⟩
    simp only [Act.put, List.setIfInBounds_toArray, List.set_cons_zero, List.set_cons_succ]
    iterate 3
      apply mwalk_det (by kernel_rfl) (by intro t w h; cases h; exact trivial) rfl
      · intro W hW hF
        go_wp2_with fail
        exact ⟨rfl, _, rfl, hW, Below.refl _ _, rfl⟩
      simp only [Act.put, List.setIfInBounds_toArray, List.set_cons_zero, List.set_cons_succ]
    apply mwalk_det (by kernel_rfl) (by intro t w h; cases h; exact trivial) rfl
    · intro W hW hF
      have hld := (H3.out.2.2.2.2.1.below hW H3.out.2.2.2.2.1.lt).load (P := Try.prog) (k := 23) rfl
      go_wp2_with fail
      exact ⟨rfl, _, rfl, hW, Below.refl _ _, rfl⟩
    simp only [Act.put, List.setIfInBounds_toArray, List.set_cons_zero, List.set_cons_succ]
    iterate 2
      apply mwalk_det (by kernel_rfl) (by intro t w h; cases h; exact trivial) rfl
      · intro W hW hF
        go_wp2_with fail
        exact ⟨rfl, _, rfl, hW, Below.refl _ _, rfl⟩
      simp only [Act.put, List.setIfInBounds_toArray, List.set_cons_zero, List.set_cons_succ]
    apply mwalk_det (by kernel_rfl) (by intro t w h; cases h; exact trivial) rfl
    · intro W hW hF
      have q := (H3.out.2.2.2.1.below hW H3.out.2.2.2.1.lt).cell 1
      simp only [List.getElem?_cons_succ, List.getElem?_cons_zero] at q
      go_wp2_with fail
      exact ⟨rfl, _, rfl, hW, Below.refl _ _, rfl⟩
    simp only [Act.put, List.setIfInBounds_toArray, List.set_cons_zero, List.set_cons_succ]
    iterate 1
      apply mwalk_det (by kernel_rfl) (by intro t w h; cases h; exact trivial) rfl
      · intro W hW hF
        go_wp2_with fail
        exact ⟨rfl, _, rfl, hW, Below.refl _ _, rfl⟩
      simp only [Act.put, List.setIfInBounds_toArray, List.set_cons_zero, List.set_cons_succ]
    apply mwalk_det (by kernel_rfl) (by intro t w h; cases h; exact trivial) rfl
    · intro W hW hF
      obtain ⟨b', off', hA', _, _, hld⟩ := rows_load (P := Try.prog) 23 Mt.cells (fun _ => rfl) (by omega) ll (H3.out.2.1.below hW).1.rd i HIl.out
      cases hA'
      have hld := hld 0
      change Sem.run _ _ W = .ok _ W at hld
      rw [show ll[i]'HIl.out = y from (List.getElem?_eq_some_iff.1 HS.out.2.1.1).2] at hld
      go_wp2_with fail
      exact ⟨rfl, _, rfl, hW, Below.refl _ _, rfl⟩
    simp only [Act.put, List.setIfInBounds_toArray, List.set_cons_zero, List.set_cons_succ]
    apply mwalk_det (by kernel_rfl) (by intro t w h; cases h; exact trivial) rfl
    · intro W hW hF
      have hymem : y ∈ ll := by rw [← (List.getElem?_eq_some_iff.1 HS.out.2.1.1).2]; exact List.getElem_mem _
      have hsm := refSame_any x y W.heap.size W (EsAt.more (H3.out.2.2.2.2.2.1.at.below hW (Nat.le_refl _)) hW.size) (EsAt.more ((H3.out.2.1.2 y hymem).at.below hW (Nat.le_refl _)) hW.size) (Nat.le_refl _) (Nat.le_trans H3.out.2.2.2.2.2.1.2 (by omega))
      rw [decide_eq_true HS.out.2.2] at hsm
      have HSm := Lib.hid hsm; clear hsm hymem
      go_wp2_with fail
      refine HSm.out.mono ?_
      rintro e w9 ⟨rfl, hb⟩
      have HB9 := Lib.hid hb; clear hb
      go_wp2_with fail
      exact ⟨rfl, _, rfl, hW.trans (HB9.out.mono hW.size), HB9.out, rfl⟩
    simp only [Act.put, List.setIfInBounds_toArray, List.set_cons_zero, List.set_cons_succ]
    iterate 1
      apply mwalk_det (by kernel_rfl) (by intro t w h; cases h; exact trivial) rfl
      · intro W hW hF
        go_wp2_with fail
        exact ⟨rfl, _, rfl, hW, Below.refl _ _, rfl⟩
      simp only [Act.put, List.setIfInBounds_toArray, List.set_cons_zero, List.set_cons_succ]
    refine ⟨fun W hW hF => ?_, fun v8 => ?_⟩
    · have f88 := hF 88 (of_decide_eq_true (by kernel_rfl))
      have F88 := Lib.hid f88
      clear f88
      go_wp2_with fail
      exact ⟨rfl, _, rfl, hW, Below.refl _ _, F88.out⟩
    simp only [Act.put, List.setIfInBounds_toArray, List.set_cons_zero, List.set_cons_succ]
    iterate 1
      apply mwalk_det (by kernel_rfl) (by intro t w h; cases h; exact trivial) rfl
      · intro W hW hF
        go_wp2_with fail
        exact ⟨rfl, _, rfl, hW, Below.refl _ _, rfl⟩
      simp only [Act.put, List.setIfInBounds_toArray, List.set_cons_zero, List.set_cons_succ]
    intro W hW hF
    have f8 : MyRow W (fun k => Sr k ∨ w3.heap.size ≤ k) v8 (ll.eraseIdx i) := hF 8
    have HW := Lib.hid (And.intro hW f8)
    clear hW f8
  case pers => exact ⟨pers_isV _, pers_isV _, pers_isV _, (fun _ _ _ h hb => h.below hb), pers_isV _, pers_isV _, pers_isV _, pers_isV _, pers_isV _, pers_isV _, pers_isV _, pers_isV _, pers_isV _, pers_isV _, pers_isV _, (fun _ _ _ h hb => h.below hb), pers_isV _, trivial⟩
  go_wp2_with fail
  go_ret2
  refine ⟨⟨_, (fun k => Sb k ∧ k < w3.heap.size), (fun k => (Sr k ∨ w3.heap.size ≤ k) ∧ k < W.heap.size), v2, lb.eraseIdx i, ll.eraseIdx i, rfl, ?_⟩, H3.out.2.2.1.trans (HW.out.1.mono (Nat.le_trans hbase H3.out.2.2.1.size))⟩
  have hb0 := H.out.2.2.2.2.b
  have hr0 := H.out.2.2.2.2.r
  have s1 := H3.out.2.2.1.size
  have s2 := HW.out.1.size
  refine ⟨fun k hk => ⟨(hb0 k hk.1).1, by have := hk.2; omega⟩, fun k hk => ⟨?_, hk.2⟩, fun k hk hr => ?_, (H3.out.1.below HW.out.1).mono fun k hk hs => ⟨hs, by have := (hb0 k hs).2; omega⟩, HW.out.2.mono fun k hk hs => ⟨hs, hk⟩, ?_, ?_, fun m hm => H.out.1.kinds m (List.mem_of_mem_eraseIdx hm)⟩
  · rcases hk.1 with h | h
    · exact (hr0 k h).1
    · omega
  · rcases hr.1 with h | h
    · exact H.out.1.apart k hk.1 h
    · have := hk.2; omega
  · rw [map_eraseIdx', H.out.1.mb]
  · rw [map_eraseIdx', H.out.1.mr]
end Go.Proofs.Ytbdbimnfknaakaa
