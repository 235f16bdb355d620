/- One call of a script. -/
import Derived.Test.YtmddpjdgnamlnaaWeak07
namespace Go.Proofs.Ytmddpjdgnamlnaa
open Go.RowKit Go.Maps
attribute [-go_sem] loadCellsFrom storeCells
attribute [local go_sem] storeCells_one run_makeMap Sec.cells_len

def RetV (e : Ending) : Prop := ∃ v, e = .returned v
theorem RetV.mk (v : Value) : RetV (.returned v) := ⟨v, rfl⟩
def bothS (g gl mb gm an af ad : Nat) : Nat → Prop := fun k => dkS g gl mb k ∨ mS gm an af ad k
section
variable {g gl mb n gm an af ad n2 : Nat} {w : World}
/-- What is kept by a deed of the disk, of the document's. -/
theorem deed_d {w1 w2 : World} (hm : MAt w1 gm an af ad n2) (hd : SomeDisk w1 g gl mb n) (hc : Chg (dkS g gl mb) w1 w2) (h : Chg (bothS g gl mb gm an af ad) w w1) : MAt w2 gm an af ad n2 ∧ Chg (bothS g gl mb gm an af ad) w w2 :=
  ⟨hm.chg hc (fun i hi => apart hd hm i hi), h.trans hc (fun _ _ h => .inl h)⟩

theorem deed_m {w1 w2 : World} (hm : MAt w1 gm an af ad n2) (hd : SomeDisk w1 g gl mb n) (hc : Chg (mS gm an af ad) w1 w2) (h : Chg (bothS g gl mb gm an af ad) w w1) : SomeDisk w2 g gl mb n ∧ Chg (bothS g gl mb gm an af ad) w w2 :=
  ⟨hd.chg hc (fun i hi hj => apart hd hm i hj hi), h.trans hc (fun _ _ h => .inr h)⟩
theorem box_kept {w1 w2 : World} {ko : Nat} {cs : List Value} (hk : Blk w1 ko 35 cs) (hko : w.heap.size ≤ ko) (hd : SomeDisk w g gl mb n) (hm : MAt w gm an af ad n2) (hc : Chg (bothS g gl mb gm an af ad) w1 w2) : Blk w2 ko 35 cs :=
  hk.chg hc (fun h => by
    rcases h with h | h
    · have := hd.lt _ h; omega
    · have := hm.lt _ h; omega)

set_option linter.unusedSimpArgs false in
set_option maxRecDepth 20000 in
set_option maxHeartbeats 3200000 in
theorem call_none (at_ : Int) (A A2 : Option Addr) (m c m2 c2 : Nat) (k : Int) (hk : k ≠ 1 ∧ k ≠ 2 ∧ k ≠ 3 ∧ k ≠ 4 ∧ k ≠ 5) (hd : SomeDisk w g gl mb n) (hm : MAt w gm an af ad n2) :
    Calls Try.prog 11 #[.pointer (some ⟨g, 0, none⟩), .pointer (some ⟨gm, 0, none⟩), .agg #[.int .i64 k, .int .i64 at_, .slice A m c, .slice A2 m2 c2]] w fun e w' => RetV e ∧ SomeDisk w' g gl mb n ∧ MAt w' gm an af ad n2 ∧ Chg (bothS g gl mb gm an af ad) w w' := by
  have hk1 := Blk.new w 35 [.int .i64 k, .int .i64 at_, .slice A m c, .slice A2 m2 c2]
  obtain ⟨w1, hw1⟩ : ∃ w1, w.alloc (.cells #[.int .i64 k, .int .i64 at_, .slice A m c, .slice A2 m2 c2] 35) = w1 := ⟨_, rfl⟩
  have hb1 : Below w.heap.size w w1 := by rw [← hw1]; exact (Below.refl _ _).alloc (Nat.le_refl _) _
  have hs1 : w1.heap.size = w.heap.size + 1 := by rw [← hw1]; simp
  rw [hw1] at hk1
  have hd1 := hd.below hb1
  have hm1 := hm.below hb1
  have hc1 : Chg (bothS g gl mb gm an af ad) w w1 := Chg.of_below hb1
  have q0 : w1.cell? ⟨w.heap.size, 0, none⟩ = some (.int .i64 k) := hk1.cell 0
  have q1 : w1.cell? ⟨w.heap.size, 1, none⟩ = some (.int .i64 at_) := hk1.cell 1
  have q2 : w1.cell? ⟨w.heap.size, 2, none⟩ = some (.slice A m c) := hk1.cell 2
  have q3 : w1.cell? ⟨w.heap.size, 3, none⟩ = some (.slice A2 m2 c2) := hk1.cell 3
  obtain ⟨t1, t2, t3, t4, t5⟩ := hk
  have u1 : (k == 1) = false := by simp [t1]
  have u2 : (k == 2) = false := by simp [t2]
  have u3 : (k == 3) = false := by simp [t3]
  have u4 : (k == 4) = false := by simp [t4]
  have u5 : (k == 5) = false := by simp [t5]
  have HK := Lib.hid (And.intro hk1 (And.intro hd hm))
  have H1 := Lib.hid (And.intro hd1 (And.intro hm1 (And.intro hc1 (And.intro hb1 hs1))))
  clear hk1 hd hm hd1 hm1 hc1 hb1 hs1
  go_enter Try.func11, Try.ntmps11
  go_wp2_with fail
  go_ret
  exact ⟨RetV.mk _, H1.out.1, H1.out.2.1, H1.out.2.2.1⟩
set_option linter.unusedSimpArgs false in
set_option maxRecDepth 20000 in
set_option maxHeartbeats 3200000 in
theorem call_flush (at_ : Int) (A A2 : Option Addr) (m c m2 c2 : Nat) (hd : SomeDisk w g gl mb n) (hm : MAt w gm an af ad n2) :
    Calls Try.prog 11 #[.pointer (some ⟨g, 0, none⟩), .pointer (some ⟨gm, 0, none⟩), .agg #[.int .i64 2, .int .i64 at_, .slice A m c, .slice A2 m2 c2]] w fun e w' => RetV e ∧ SomeDisk w' g gl mb n ∧ MAt w' gm an af ad n2 ∧ Chg (bothS g gl mb gm an af ad) w w' := by
  have hk1 := Blk.new w 35 [.int .i64 2, .int .i64 at_, .slice A m c, .slice A2 m2 c2]
  obtain ⟨w1, hw1⟩ : ∃ w1, w.alloc (.cells #[.int .i64 2, .int .i64 at_, .slice A m c, .slice A2 m2 c2] 35) = w1 := ⟨_, rfl⟩
  have hb1 : Below w.heap.size w w1 := by rw [← hw1]; exact (Below.refl _ _).alloc (Nat.le_refl _) _
  have hs1 : w1.heap.size = w.heap.size + 1 := by rw [← hw1]; simp
  rw [hw1] at hk1
  have hd1 := hd.below hb1
  have hm1 := hm.below hb1
  have hc1 : Chg (bothS g gl mb gm an af ad) w w1 := Chg.of_below hb1
  have q0 : w1.cell? ⟨w.heap.size, 0, none⟩ = some (.int .i64 2) := hk1.cell 0
  have q1 : w1.cell? ⟨w.heap.size, 1, none⟩ = some (.int .i64 at_) := hk1.cell 1
  have q2 : w1.cell? ⟨w.heap.size, 2, none⟩ = some (.slice A m c) := hk1.cell 2
  have q3 : w1.cell? ⟨w.heap.size, 3, none⟩ = some (.slice A2 m2 c2) := hk1.cell 3
  have HK := Lib.hid (And.intro hk1 (And.intro hd hm))
  have H1 := Lib.hid (And.intro hd1 (And.intro hm1 (And.intro hc1 (And.intro hb1 hs1))))
  clear hk1 hd hm hd1 hm1 hc1 hb1 hs1
  go_enter Try.func11, Try.ntmps11
  go_wp2_with fail
  refine (flush_w H1.out.1).mono ?_
  rintro e w2 ⟨⟨z, rfl⟩, hd2, hc2⟩
  obtain ⟨hm2, hcc2⟩ := deed_d H1.out.2.1 H1.out.1 hc2 H1.out.2.2.1
  have H2 := Lib.hid (And.intro hd2 (And.intro hm2 hcc2)); clear hd2 hm2 hc2 hcc2 q0 q1 q2 q3
  go_wp2_with fail
  refine (mflush_any H2.out.2.1).mono ?_
  rintro e w3 ⟨⟨z2, rfl⟩, hm3, hc3⟩
  obtain ⟨hd3, hcc3⟩ := deed_m H2.out.2.1 H2.out.1 hc3 H2.out.2.2
  have H3 := Lib.hid (And.intro hd3 (And.intro hm3 hcc3)); clear hd3 hm3 hc3 hcc3
  go_wp2_with fail
  go_ret
  exact ⟨RetV.mk _, H3.out.1, H3.out.2.1, H3.out.2.2⟩
set_option linter.unusedSimpArgs false in
set_option maxRecDepth 20000 in
set_option maxHeartbeats 3200000 in
theorem call_crash (at_ : Int) (A A2 : Option Addr) (m c m2 c2 : Nat) (B : Nat) (kp : List Bool) (hr : Rd w B A2 (tv kp)) (hl : kp.length = m2) (hBw : B ≤ w.heap.size) (hB1 : ∀ i, dkS g gl mb i → B ≤ i) (hB2 : ∀ i, mS gm an af ad i → B ≤ i) (hd : SomeDisk w g gl mb n) (hm : MAt w gm an af ad n2) :
    Calls Try.prog 11 #[.pointer (some ⟨g, 0, none⟩), .pointer (some ⟨gm, 0, none⟩), .agg #[.int .i64 5, .int .i64 at_, .slice A m c, .slice A2 m2 c2]] w fun e w' => RetV e ∧ SomeDisk w' g gl mb n ∧ MAt w' gm an af ad n2 ∧ Chg (bothS g gl mb gm an af ad) w w' := by
  have hk1 := Blk.new w 35 [.int .i64 5, .int .i64 at_, .slice A m c, .slice A2 m2 c2]
  obtain ⟨w1, hw1⟩ : ∃ w1, w.alloc (.cells #[.int .i64 5, .int .i64 at_, .slice A m c, .slice A2 m2 c2] 35) = w1 := ⟨_, rfl⟩
  have hb1 : Below w.heap.size w w1 := by rw [← hw1]; exact (Below.refl _ _).alloc (Nat.le_refl _) _
  have hs1 : w1.heap.size = w.heap.size + 1 := by rw [← hw1]; simp
  rw [hw1] at hk1
  have hd1 := hd.below hb1
  have hm1 := hm.below hb1
  have hc1 : Chg (bothS g gl mb gm an af ad) w w1 := Chg.of_below hb1
  have q0 : w1.cell? ⟨w.heap.size, 0, none⟩ = some (.int .i64 5) := hk1.cell 0
  have q1 : w1.cell? ⟨w.heap.size, 1, none⟩ = some (.int .i64 at_) := hk1.cell 1
  have q2 : w1.cell? ⟨w.heap.size, 2, none⟩ = some (.slice A m c) := hk1.cell 2
  have q3 : w1.cell? ⟨w.heap.size, 3, none⟩ = some (.slice A2 m2 c2) := hk1.cell 3
  have hr1 : Rd w1 B A2 (tv kp) := hr.below hb1 hBw
  have HR := Lib.hid (And.intro hr1 (And.intro hl (And.intro hB1 (And.intro hB2 hBw))))
  have HR0 := Lib.hid hr
  clear hr hr1 hl hB1 hB2 hBw
  have HK := Lib.hid (And.intro hk1 (And.intro hd hm))
  have H1 := Lib.hid (And.intro hd1 (And.intro hm1 (And.intro hc1 (And.intro hb1 hs1))))
  clear hk1 hd hm hd1 hm1 hc1 hb1 hs1
  go_enter Try.func11, Try.ntmps11
  go_wp2_with fail
  refine (mcrash_any kp A2 m2 c2 B H1.out.2.1 HR.out.1 HR.out.2.1 HR.out.2.2.2.1 (Nat.le_trans HR.out.2.2.2.2 H1.out.2.2.2.1.size)).mono ?_
  rintro e w3 ⟨rfl, hm3, hc3⟩
  obtain ⟨hd3, hcc3⟩ := deed_m H1.out.2.1 H1.out.1 hc3 H1.out.2.2.1
  have hbB : Below B w w3 := hcc3.below (fun i hi => by rcases hi with h | h; exact HR.out.2.2.1 i h; exact HR.out.2.2.2.1 i h) HR.out.2.2.2.2
  have hc13 : Chg (bothS g gl mb gm an af ad) w1 w3 := hc3.mono (fun _ _ h => .inr h)
  have hk3 := box_kept HK.out.1 (Nat.le_refl _) HK.out.2.1 HK.out.2.2 hc13
  have q3 : w3.cell? ⟨w.heap.size, 3, none⟩ = some (.slice A2 m2 c2) := hk3.cell 3
  have hr3 : Rd w3 B A2 (tv kp) := HR0.out.below hbB (Nat.le_refl _)
  have HCr := Lib.hid (crash_w kp A2 m2 c2 B hd3 hr3 HR.out.2.1 (Nat.le_trans HR.out.2.2.2.2 hcc3.size))
  have H3 := Lib.hid (And.intro hd3 (And.intro hm3 hcc3)); clear hd3 hm3 hc3 hcc3 hbB hk3 hr3 q0 q1 q2 hc13
  go_wp2_with fail
  have hend : ∀ w4, SomeDisk w4 g gl mb n → Chg (dkS g gl mb) w3 w4 → SomeDisk w4 g gl mb n ∧ MAt w4 gm an af ad n2 ∧ Chg (bothS g gl mb gm an af ad) w w4 := fun w4 hd4 hc4 => by
    obtain ⟨hm4, hcc4⟩ := deed_d H3.out.2.1 H3.out.1 hc4 H3.out.2.2
    exact ⟨hd4, hm4, hcc4⟩
  have HE := Lib.hid hend; clear hend
  refine HCr.out.mono ?_
  rintro e w4 ⟨rfl, hd4, hc4⟩
  have H4 := Lib.hid (HE.out w4 hd4 hc4); clear hd4 hc4
  go_wp2_with fail
  go_ret
  exact ⟨RetV.mk _, H4.out.1, H4.out.2.1, H4.out.2.2⟩
set_option linter.unusedSimpArgs false in
set_option maxRecDepth 20000 in
set_option maxHeartbeats 3200000 in
theorem call_stop (at_ : Int) (A A2 : Option Addr) (m c m2 c2 : Nat) (hd : SomeDisk w g gl mb n) (hm : MAt w gm an af ad n2) :
    Calls Try.prog 11 #[.pointer (some ⟨g, 0, none⟩), .pointer (some ⟨gm, 0, none⟩), .agg #[.int .i64 4, .int .i64 at_, .slice A m c, .slice A2 m2 c2]] w fun e w' => RetV e ∧ SomeDisk w' g gl mb n ∧ MAt w' gm an af ad n2 ∧ Chg (bothS g gl mb gm an af ad) w w' := by
  have hk1 := Blk.new w 35 [.int .i64 4, .int .i64 at_, .slice A m c, .slice A2 m2 c2]
  obtain ⟨w1, hw1⟩ : ∃ w1, w.alloc (.cells #[.int .i64 4, .int .i64 at_, .slice A m c, .slice A2 m2 c2] 35) = w1 := ⟨_, rfl⟩
  have hb1 : Below w.heap.size w w1 := by rw [← hw1]; exact (Below.refl _ _).alloc (Nat.le_refl _) _
  have hs1 : w1.heap.size = w.heap.size + 1 := by rw [← hw1]; simp
  rw [hw1] at hk1
  have hd1 := hd.below hb1
  have hm1 := hm.below hb1
  have hc1 : Chg (bothS g gl mb gm an af ad) w w1 := Chg.of_below hb1
  have q0 : w1.cell? ⟨w.heap.size, 0, none⟩ = some (.int .i64 4) := hk1.cell 0
  have q1 : w1.cell? ⟨w.heap.size, 1, none⟩ = some (.int .i64 at_) := hk1.cell 1
  have q2 : w1.cell? ⟨w.heap.size, 2, none⟩ = some (.slice A m c) := hk1.cell 2
  have q3 : w1.cell? ⟨w.heap.size, 3, none⟩ = some (.slice A2 m2 c2) := hk1.cell 3
  have HK := Lib.hid (And.intro hk1 (And.intro hd hm))
  have H1 := Lib.hid (And.intro hd1 (And.intro hm1 (And.intro hc1 (And.intro hb1 hs1))))
  clear hk1 hd hm hd1 hm1 hc1 hb1 hs1
  go_enter Try.func11, Try.ntmps11
  have hmx : Try.prog.follows .mixedOrders = true := by kernel_rfl
  obtain ⟨w1d, hw1d⟩ : ∃ x, w1.drew = x := ⟨_, rfl⟩
  have hc0 : Chg (fun _ => False) w1 w1d := by rw [← hw1d]; exact (Chg.refl _ _).drew
  have HD := Lib.hid (And.intro (H1.out.1.chg hc0 (fun _ h => absurd h id)) (And.intro (H1.out.2.1.chg hc0 (fun _ h => absurd h id)) (And.intro (H1.out.2.2.1.trans hc0 (fun _ _ h => absurd h id)) (And.intro (HK.out.1.chg hc0 id) hw1d))))
  have q1d : w1d.cell? ⟨w.heap.size, 1, none⟩ = some (.int .i64 at_) := HD.out.2.2.2.1.cell 1
  clear hc0 hw1d
  go_wp2_with fail
  refine region_by_hand0 hmx ?_
  rw [HD.out.2.2.2.2]
  clear q0 q1 q2 q3
  refine any_take (i := 0) _ rfl (by kernel_rfl) (by kernel_rfl) (by kernel_rfl) (by rfl) (by intro w; go_simp <;> with_reducible rfl) ?_
  simp only [Act.put, List.setIfInBounds_toArray, List.set_cons_zero, List.set_cons_succ]
  refine any_take (i := 1) _ rfl (by kernel_rfl) (by kernel_rfl) (by kernel_rfl) (by rfl) (by intro w; go_simp <;> with_reducible rfl) ?_
  simp only [Act.put, List.setIfInBounds_toArray, List.set_cons_zero, List.set_cons_succ]
  refine any_take (i := 4) _ rfl (by kernel_rfl) (by kernel_rfl) (by kernel_rfl) (by rfl) (by intro w; go_simp <;> with_reducible rfl) ?_
  simp only [Act.put, List.setIfInBounds_toArray, List.set_cons_zero, List.set_cons_succ]
  refine any_take (i := 5) _ rfl (by kernel_rfl) (by kernel_rfl) (by kernel_rfl) (by rfl) (by intro w; go_simp <;> with_reducible rfl) ?_
  simp only [Act.put, List.setIfInBounds_toArray, List.set_cons_zero, List.set_cons_succ]
  refine any_pair 2 6 (by kernel_rfl) rfl rfl ?_ ?_
  · go_wp2_with fail
    refine ⟨rfl, ?_⟩
    refine any_pair 3 6 (by kernel_rfl) rfl rfl ?_ ?_
    · go_wp2_with fail
      refine (stop_w at_ HD.out.1).mono ?_
      rintro e w2 ⟨⟨z, rfl⟩, hd2, hc2⟩
      obtain ⟨hm2, hcc2⟩ := deed_d HD.out.2.1 HD.out.1 hc2 HD.out.2.2.1
      have hc2' : Chg (bothS g gl mb gm an af ad) w1d w2 := hc2.mono (fun _ _ h => .inl h)
      have hk2 := box_kept HD.out.2.2.2.1 (Nat.le_refl _) HK.out.2.1 HK.out.2.2 hc2'
      have q2d : w2.cell? ⟨w.heap.size, 1, none⟩ = some (.int .i64 at_) := hk2.cell 1
      have H2 := Lib.hid (And.intro hd2 (And.intro hm2 hcc2)); clear hd2 hm2 hc2 hcc2 hc2' hk2 q1d
      go_wp2_with fail
      refine ⟨rfl, ?_⟩
      refine any_only 6 (by kernel_rfl) rfl ?_
      go_wp2_with fail
      refine ⟨rfl, ?_⟩
      refine any_only 7 (by kernel_rfl) rfl ?_
      go_wp2_with fail
      refine (mstop_any at_ H2.out.2.1).mono ?_
      rintro e w3 ⟨⟨z2, rfl⟩, hm3, hc3⟩
      obtain ⟨hd3, hcc3⟩ := deed_m H2.out.2.1 H2.out.1 (hc3.mono (fun _ _ h => .inl h)) H2.out.2.2
      have H3 := Lib.hid (And.intro hd3 (And.intro hm3 hcc3)); clear hd3 hm3 hc3 hcc3 q2d
      go_wp2_with fail
      refine ⟨rfl, ?_⟩
      refine any_only 8 (by kernel_rfl) rfl ?_
      go_wp2_with fail
      refine ⟨rfl, ?_⟩
      refine any_only 9 (by kernel_rfl) rfl ?_
      go_wp2_with fail
      refine ⟨rfl, ?_⟩
      refine wpAny_done (by kernel_rfl) ?_ _
      refine ⟨rfl, ?_⟩
      go_wp2_with fail
      go_ret
      exact ⟨RetV.mk _, H3.out.1, H3.out.2.1, H3.out.2.2⟩
    · go_wp2_with fail
      refine ⟨rfl, ?_⟩
      refine any_only 3 (by kernel_rfl) rfl ?_
      go_wp2_with fail
      refine (stop_w at_ HD.out.1).mono ?_
      rintro e w2 ⟨⟨z, rfl⟩, hd2, hc2⟩
      obtain ⟨hm2, hcc2⟩ := deed_d HD.out.2.1 HD.out.1 hc2 HD.out.2.2.1
      have hc2' : Chg (bothS g gl mb gm an af ad) w1d w2 := hc2.mono (fun _ _ h => .inl h)
      have hk2 := box_kept HD.out.2.2.2.1 (Nat.le_refl _) HK.out.2.1 HK.out.2.2 hc2'
      have q2d : w2.cell? ⟨w.heap.size, 1, none⟩ = some (.int .i64 at_) := hk2.cell 1
      have H2 := Lib.hid (And.intro hd2 (And.intro hm2 hcc2)); clear hd2 hm2 hc2 hcc2 hc2' hk2 q1d
      go_wp2_with fail
      refine ⟨rfl, ?_⟩
      refine any_only 7 (by kernel_rfl) rfl ?_
      go_wp2_with fail
      refine (mstop_any at_ H2.out.2.1).mono ?_
      rintro e w3 ⟨⟨z2, rfl⟩, hm3, hc3⟩
      obtain ⟨hd3, hcc3⟩ := deed_m H2.out.2.1 H2.out.1 (hc3.mono (fun _ _ h => .inl h)) H2.out.2.2
      have H3 := Lib.hid (And.intro hd3 (And.intro hm3 hcc3)); clear hd3 hm3 hc3 hcc3 q2d
      go_wp2_with fail
      refine ⟨rfl, ?_⟩
      refine any_only 8 (by kernel_rfl) rfl ?_
      go_wp2_with fail
      refine ⟨rfl, ?_⟩
      refine any_only 9 (by kernel_rfl) rfl ?_
      go_wp2_with fail
      refine ⟨rfl, ?_⟩
      refine wpAny_done (by kernel_rfl) ?_ _
      refine ⟨rfl, ?_⟩
      go_wp2_with fail
      go_ret
      exact ⟨RetV.mk _, H3.out.1, H3.out.2.1, H3.out.2.2⟩
  · go_wp2_with fail
    refine ⟨rfl, ?_⟩
    refine any_only 2 (by kernel_rfl) rfl ?_
    go_wp2_with fail
    refine ⟨rfl, ?_⟩
    refine any_only 3 (by kernel_rfl) rfl ?_
    go_wp2_with fail
    refine (stop_w at_ HD.out.1).mono ?_
    rintro e w2 ⟨⟨z, rfl⟩, hd2, hc2⟩
    obtain ⟨hm2, hcc2⟩ := deed_d HD.out.2.1 HD.out.1 hc2 HD.out.2.2.1
    have hc2' : Chg (bothS g gl mb gm an af ad) w1d w2 := hc2.mono (fun _ _ h => .inl h)
    have hk2 := box_kept HD.out.2.2.2.1 (Nat.le_refl _) HK.out.2.1 HK.out.2.2 hc2'
    have q2d : w2.cell? ⟨w.heap.size, 1, none⟩ = some (.int .i64 at_) := hk2.cell 1
    have H2 := Lib.hid (And.intro hd2 (And.intro hm2 hcc2)); clear hd2 hm2 hc2 hcc2 hc2' hk2 q1d
    go_wp2_with fail
    refine ⟨rfl, ?_⟩
    refine any_only 7 (by kernel_rfl) rfl ?_
    go_wp2_with fail
    refine (mstop_any at_ H2.out.2.1).mono ?_
    rintro e w3 ⟨⟨z2, rfl⟩, hm3, hc3⟩
    obtain ⟨hd3, hcc3⟩ := deed_m H2.out.2.1 H2.out.1 (hc3.mono (fun _ _ h => .inl h)) H2.out.2.2
    have H3 := Lib.hid (And.intro hd3 (And.intro hm3 hcc3)); clear hd3 hm3 hc3 hcc3 q2d
    go_wp2_with fail
    refine ⟨rfl, ?_⟩
    refine any_only 8 (by kernel_rfl) rfl ?_
    go_wp2_with fail
    refine ⟨rfl, ?_⟩
    refine any_only 9 (by kernel_rfl) rfl ?_
    go_wp2_with fail
    refine ⟨rfl, ?_⟩
    refine wpAny_done (by kernel_rfl) ?_ _
    refine ⟨rfl, ?_⟩
    go_wp2_with fail
    go_ret
    exact ⟨RetV.mk _, H3.out.1, H3.out.2.1, H3.out.2.2⟩
set_option linter.unusedSimpArgs false in
set_option maxRecDepth 20000 in
set_option maxHeartbeats 3200000 in
theorem call_read (at_ : Int) (A A2 : Option Addr) (m c m2 c2 : Nat) (hd : SomeDisk w g gl mb n) (hm : MAt w gm an af ad n2) :
    Calls Try.prog 11 #[.pointer (some ⟨g, 0, none⟩), .pointer (some ⟨gm, 0, none⟩), .agg #[.int .i64 3, .int .i64 at_, .slice A m c, .slice A2 m2 c2]] w fun e w' => RetV e ∧ SomeDisk w' g gl mb n ∧ MAt w' gm an af ad n2 ∧ Chg (bothS g gl mb gm an af ad) w w' := by
  have hk1 := Blk.new w 35 [.int .i64 3, .int .i64 at_, .slice A m c, .slice A2 m2 c2]
  obtain ⟨w1, hw1⟩ : ∃ w1, w.alloc (.cells #[.int .i64 3, .int .i64 at_, .slice A m c, .slice A2 m2 c2] 35) = w1 := ⟨_, rfl⟩
  have hb1 : Below w.heap.size w w1 := by rw [← hw1]; exact (Below.refl _ _).alloc (Nat.le_refl _) _
  have hs1 : w1.heap.size = w.heap.size + 1 := by rw [← hw1]; simp
  rw [hw1] at hk1
  have hd1 := hd.below hb1
  have hm1 := hm.below hb1
  have hc1 : Chg (bothS g gl mb gm an af ad) w w1 := Chg.of_below hb1
  have q0 : w1.cell? ⟨w.heap.size, 0, none⟩ = some (.int .i64 3) := hk1.cell 0
  have q1 : w1.cell? ⟨w.heap.size, 1, none⟩ = some (.int .i64 at_) := hk1.cell 1
  have q2 : w1.cell? ⟨w.heap.size, 2, none⟩ = some (.slice A m c) := hk1.cell 2
  have q3 : w1.cell? ⟨w.heap.size, 3, none⟩ = some (.slice A2 m2 c2) := hk1.cell 3
  have hcv0 := fun W : World => conv_rd (P := Try.prog) W 32 9 5 Try.underlying32 Try.underlying5 Try.underlying9 0 none 0 0 [] Rd.nil rfl
  have HK := Lib.hid (And.intro hk1 (And.intro hd hm))
  have H1 := Lib.hid (And.intro hd1 (And.intro hm1 (And.intro hc1 (And.intro hb1 hs1))))
  clear hk1 hd hm hd1 hm1 hc1 hb1 hs1
  go_enter Try.func11, Try.ntmps11
  go_wp2_with fail
  refine (read_w at_ H1.out.1).mono ?_
  rintro e w2 (⟨z, rfl, hw⟩ | ⟨x, rfl, hx, hb2⟩)
  · subst hw
    go_wp2_with fail
    refine (mread_any at_ H1.out.2.1).mono ?_
    rintro e w2 ⟨⟨s, z2, rfl⟩, hw⟩
    subst hw
    go_wp2_with fail
    · go_loopw [16] (fun i wr => i = .int .i64 0 ∧ w1 = wr) (fun _ _ => 0)
      case atStart => exact ⟨rfl, rfl⟩
      case round =>
        obtain ⟨rfl, rfl⟩ := hrel
        go_wp2_with fail
        go_ret
        exact ⟨RetV.mk _, H1.out.1, H1.out.2.1, H1.out.2.2.1⟩
    · go_loopw [16] (fun i wr => i = .int .i64 0 ∧ w1 = wr) (fun _ _ => 0)
      case atStart => exact ⟨rfl, rfl⟩
      case round =>
        obtain ⟨rfl, rfl⟩ := hrel
        go_wp2_with fail
        go_ret
        exact ⟨RetV.mk _, H1.out.1, H1.out.2.1, H1.out.2.2.1⟩
  · have hd2 := H1.out.1.below hb2
    have hm2 := H1.out.2.1.below hb2
    have hc2 : Chg (bothS g gl mb gm an af ad) w w2 := H1.out.2.2.1.trans (Chg.of_below (S := bothS g gl mb gm an af ad) hb2) (fun _ _ h => h)
    have hk2 := HK.out.1.below hb2 HK.out.1.lt
    have q1 : w2.cell? ⟨w.heap.size, 1, none⟩ = some (.int .i64 at_) := hk2.cell 1
    have hrx : Rd w2 (w1.heap.size + 1) (some ⟨w1.heap.size, 0, none⟩) (bv x.l) := .inr ⟨_, 0, rfl, by omega, fun j u hu => by rw [Nat.zero_add, hx.cell]; exact hu⟩
    have hcv := conv_rd (P := Try.prog) w2 32 9 5 Try.underlying32 Try.underlying5 Try.underlying9 _ _ 64 64 x.l hrx x.h
    have hxd : w.heap.size ≤ w1.heap.size := H1.out.2.2.2.1.size
    have H2 := Lib.hid (And.intro hd2 (And.intro hm2 (And.intro hc2 (And.intro hx (And.intro hxd (And.intro HK.out.2.1 HK.out.2.2))))))
    have HM := Lib.hid (mread_any at_ hm2)
    clear hd2 hm2 hc2 hk2 hx hxd hb2 hrx q0 q2 q3 hcv0
    -- the loop that writes over what was read
    have hend : ∀ wr, Chg (fun k => k = w1.heap.size) w2 wr → SomeDisk wr g gl mb n ∧ MAt wr gm an af ad n2 ∧ Chg (bothS g gl mb gm an af ad) w wr := by
      intro wr hc
      have h1 := H1.out.1.lt
      have h2 := H1.out.2.1.lt
      refine ⟨H2.out.1.chg hc (fun i hi hj => by have := h1 i hj; omega), H2.out.2.1.chg hc (fun i hi hj => by have := h2 i hj; omega), ?_⟩
      exact ⟨hc.os.trans H2.out.2.2.1.os, hc.tape.trans H2.out.2.2.1.tape, hc.output.trans H2.out.2.2.1.output, Nat.le_trans H2.out.2.2.1.size hc.size, fun k hk hn => (hc.block k (Nat.lt_of_lt_of_le hk H2.out.2.2.1.size) (by have := H2.out.2.2.2.2.1; omega)).trans (H2.out.2.2.1.block k hk hn)⟩
    have HE := Lib.hid hend; clear hend
    go_wp2_with fail
    refine HM.out.mono ?_
    rintro e w2' ⟨⟨s, z2, rfl⟩, hw⟩
    subst hw
    go_wp2_with fail
    · clear q1 hcv
      go_loopw [16] (fun i wr => ∃ j : Nat, j ≤ 64 ∧ i = .int .i64 j ∧ ∃ cs, Blk wr w1.heap.size 68 cs ∧ cs.length = 64 ∧ Chg (fun k => k = w1.heap.size) w2 wr) (fun i _ => 64 - (intOf i).toNat)
      case atStart => exact ⟨0, by omega, rfl, _, H2.out.2.2.2.1, Sec.cells_len _, Chg.refl _ _⟩
      case round =>
        obtain ⟨j, hj, rfl, cs, hb, hcl, hc⟩ := hrel
        by_cases hlt : j < 64
        · have g3 : (j : Int) < 64 := by omega
          have p1 : wr.cell? ⟨w1.heap.size, j, none⟩ = some (cs[j]'(by omega)) := (hb.cell j).trans (List.getElem?_eq_getElem (by omega))
          have p2 : wr.frozen? ⟨w1.heap.size, j, none⟩ = false := hb.frozen j
          have HB := Lib.hid (And.intro (hb.setCell j (.int .u8 85)) (And.intro (show (cs.set j (.int .u8 85)).length = 64 by rw [List.length_set, hcl]) (hc.setCell (.inr rfl) j (.int .u8 85))))
          clear hb hc
          go_wp2_with fail
          go_roundw
          case rel => exact ⟨j + 1, by omega, by go_num, _, HB.out.1, HB.out.2.1, HB.out.2.2⟩
          case measure => simp [intOf]; omega
        · obtain rfl : j = 64 := by omega
          have HB := Lib.hid (HE.out wr hc)
          clear hb hcl hc
          go_wp2_with fail
          go_ret
          exact ⟨RetV.mk _, HB.out.1, HB.out.2.1, HB.out.2.2⟩
    · clear q1 hcv
      go_loopw [16] (fun i wr => ∃ j : Nat, j ≤ 64 ∧ i = .int .i64 j ∧ ∃ cs, Blk wr w1.heap.size 68 cs ∧ cs.length = 64 ∧ Chg (fun k => k = w1.heap.size) w2 wr) (fun i _ => 64 - (intOf i).toNat)
      case atStart => exact ⟨0, by omega, rfl, _, H2.out.2.2.2.1, Sec.cells_len _, Chg.refl _ _⟩
      case round =>
        obtain ⟨j, hj, rfl, cs, hb, hcl, hc⟩ := hrel
        by_cases hlt : j < 64
        · have g3 : (j : Int) < 64 := by omega
          have p1 : wr.cell? ⟨w1.heap.size, j, none⟩ = some (cs[j]'(by omega)) := (hb.cell j).trans (List.getElem?_eq_getElem (by omega))
          have p2 : wr.frozen? ⟨w1.heap.size, j, none⟩ = false := hb.frozen j
          have HB := Lib.hid (And.intro (hb.setCell j (.int .u8 85)) (And.intro (show (cs.set j (.int .u8 85)).length = 64 by rw [List.length_set, hcl]) (hc.setCell (.inr rfl) j (.int .u8 85))))
          clear hb hc
          go_wp2_with fail
          go_roundw
          case rel => exact ⟨j + 1, by omega, by go_num, _, HB.out.1, HB.out.2.1, HB.out.2.2⟩
          case measure => simp [intOf]; omega
        · obtain rfl : j = 64 := by omega
          have HB := Lib.hid (HE.out wr hc)
          clear hb hcl hc
          go_wp2_with fail
          go_ret
          exact ⟨RetV.mk _, HB.out.1, HB.out.2.1, HB.out.2.2⟩
set_option linter.unusedSimpArgs false in
set_option maxRecDepth 20000 in
set_option maxHeartbeats 3200000 in
theorem call_write (at_ : Int) (A A2 : Option Addr) (m c m2 c2 : Nat) (B : Nat) (l : List UInt8) (hr : Rd w B A (bv l)) (hl : l.length = m) (hm1000 : m ≤ 1000) (hBw : B ≤ w.heap.size) (hB1 : ∀ i, dkS g gl mb i → B ≤ i) (hB2 : ∀ i, mS gm an af ad i → B ≤ i) (hd : SomeDisk w g gl mb n) (hm : MAt w gm an af ad n2) :
    Calls Try.prog 11 #[.pointer (some ⟨g, 0, none⟩), .pointer (some ⟨gm, 0, none⟩), .agg #[.int .i64 1, .int .i64 at_, .slice A m c, .slice A2 m2 c2]] w fun e w' => RetV e ∧ SomeDisk w' g gl mb n ∧ MAt w' gm an af ad n2 ∧ Chg (bothS g gl mb gm an af ad) w w' := by
  have hk1 := Blk.new w 35 [.int .i64 1, .int .i64 at_, .slice A m c, .slice A2 m2 c2]
  obtain ⟨w1, hw1⟩ : ∃ w1, w.alloc (.cells #[.int .i64 1, .int .i64 at_, .slice A m c, .slice A2 m2 c2] 35) = w1 := ⟨_, rfl⟩
  have hb1 : Below w.heap.size w w1 := by rw [← hw1]; exact (Below.refl _ _).alloc (Nat.le_refl _) _
  have hs1 : w1.heap.size = w.heap.size + 1 := by rw [← hw1]; simp
  rw [hw1] at hk1
  have hd1 := hd.below hb1
  have hm1 := hm.below hb1
  have hc1 : Chg (bothS g gl mb gm an af ad) w w1 := Chg.of_below hb1
  have q0 : w1.cell? ⟨w.heap.size, 0, none⟩ = some (.int .i64 1) := hk1.cell 0
  have q1 : w1.cell? ⟨w.heap.size, 1, none⟩ = some (.int .i64 at_) := hk1.cell 1
  have q2 : w1.cell? ⟨w.heap.size, 2, none⟩ = some (.slice A m c) := hk1.cell 2
  have q3 : w1.cell? ⟨w.heap.size, 3, none⟩ = some (.slice A2 m2 c2) := hk1.cell 3
  have hr1 : Rd w1 B A (bv l) := hr.below hb1 hBw
  have HR := Lib.hid (And.intro hr1 (And.intro hl (And.intro hB1 (And.intro hB2 hBw))))
  have HL := Lib.hid (lent_any A m c l w1 (hr1.more (Nat.le_trans hBw hb1.size)) hl (by omega))
  have HR0 := Lib.hid hr
  clear hr1 hr hl hB1 hB2 hBw
  have HK := Lib.hid (And.intro hk1 (And.intro hd hm))
  have H1 := Lib.hid (And.intro hd1 (And.intro hm1 (And.intro hc1 (And.intro hb1 hs1))))
  clear hk1 hd hm hd1 hm1 hc1 hb1 hs1
  go_enter Try.func11, Try.ntmps11
  go_wp2_with fail
  refine HL.out.mono ?_
  rintro e w2 ⟨gx, cap, rfl, hown2, hb2⟩
  have hd2 := H1.out.1.below hb2
  have hm2 := H1.out.2.1.below hb2
  have hk2 := HK.out.1.below hb2 HK.out.1.lt
  have hr2 : Rd w2 B A (bv l) := HR.out.1.below hb2 (Nat.le_trans HR.out.2.2.2.2 H1.out.2.2.2.1.size)
  have hrx : Rd w2 w2.heap.size (some ⟨gx, 0, none⟩) (bv l) := Rd.front (Rd.of_own hown2) _ _ rfl
  have hgx := (hown2.lt gx rfl).1
  have hc2 : Chg (bothS g gl mb gm an af ad) w w2 := H1.out.2.2.1.trans (Chg.of_below (S := bothS g gl mb gm an af ad) hb2) (fun _ _ h => h)
  have q1 : w2.cell? ⟨w.heap.size, 1, none⟩ = some (.int .i64 at_) := hk2.cell 1
  have HW := Lib.hid (write_w at_ (some ⟨gx, 0, none⟩) m cap _ l hd2 hrx HR.out.2.1)
  have H2 := Lib.hid (And.intro hd2 (And.intro hm2 (And.intro hk2 (And.intro hr2 (And.intro hown2 (And.intro hgx hc2))))))
  clear hd2 hm2 hk2 hr2 hown2 hb2 hrx hgx hc2 q0 q2 q3
  go_wp2_with fail
  refine HW.out.mono ?_
  rintro e w3 ⟨⟨z, rfl⟩, hd3, hc3⟩
  obtain ⟨hm3, hcc3⟩ := deed_d H2.out.2.1 H2.out.1 hc3 H2.out.2.2.2.2.2.2
  have hlt3 : ∀ i, dkS g gl mb i → i < w1.heap.size := H1.out.1.lt
  have hown3 := own_from H2.out.2.2.2.2.1 (w' := w3) (fun k hk hk2 => hc3.block k hk2 (fun h => by have := hlt3 k h; omega))
  have hk3 := box_kept H2.out.2.2.1 (Nat.le_refl _) HK.out.2.1 HK.out.2.2 (hc3.mono (T := bothS g gl mb gm an af ad) (fun _ _ h => .inl h))
  have hbB3 : Below B w w3 := hcc3.below (fun i hi => by rcases hi with h | h; exact HR.out.2.2.1 i h; exact HR.out.2.2.2.1 i h) HR.out.2.2.2.2
  have hr3 : Rd w3 B A (bv l) := HR0.out.below hbB3 (Nat.le_refl _)
  have q2 : w3.cell? ⟨w.heap.size, 2, none⟩ = some (.slice A m c) := hk3.cell 2
  have HKp := Lib.hid (kept_any w1.heap.size gx m cap c B A l w3 (by omega) hown3 hr3 HR.out.2.1)
  have hblk3 : ∃ cs, Blk w3 gx 5 cs ∧ m ≤ cs.length := by
    rcases hown3.2 with ⟨hv, _⟩ | ⟨g', cap', cur, hv, hb, hg, hn', hm', hs, ht⟩
    · cases hv
    · cases hv
      exact ⟨cur.toList, hg, by rw [Array.length_toList]; omega⟩
  have H3 := Lib.hid (And.intro hd3 (And.intro hm3 (And.intro hcc3 (And.intro hk3 (And.intro hblk3 hbB3)))))
  clear hd3 hm3 hc3 hcc3 hlt3 hown3 hk3 hr3 hblk3 hbB3 q1
  go_wp2_with fail
  refine HKp.out.mono ?_
  rintro e w3' ⟨rfl, hw⟩
  subst hw
  have hend : ∀ wr, Chg (fun k => k = gx) w3 wr → SomeDisk wr g gl mb n ∧ MAt wr gm an af ad n2 ∧ Chg (bothS g gl mb gm an af ad) w wr ∧ Blk wr w.heap.size 35 [.int .i64 1, .int .i64 at_, .slice A m c, .slice A2 m2 c2] ∧ Rd wr B A (bv l) := by
    intro wr hc
    have h1 := H1.out.1.lt
    have h2 := H1.out.2.1.lt
    have h3 := H2.out.2.2.2.2.2.1
    have h4 := H1.out.2.2.2.2
    have hcw : Chg (bothS g gl mb gm an af ad) w wr := ⟨hc.os.trans H3.out.2.2.1.os, hc.tape.trans H3.out.2.2.1.tape, hc.output.trans H3.out.2.2.1.output, Nat.le_trans H3.out.2.2.1.size hc.size, fun k hk hn => (hc.block k (Nat.lt_of_lt_of_le hk H3.out.2.2.1.size) (by omega)).trans (H3.out.2.2.1.block k hk hn)⟩
    refine ⟨H3.out.1.chg hc (fun i hi hj => by have := h1 i hj; omega), H3.out.2.1.chg hc (fun i hi hj => by have := h2 i hj; omega), hcw, H3.out.2.2.2.1.chg hc (by omega), HR0.out.below (hcw.below (fun i hi => by rcases hi with h | h; exact HR.out.2.2.1 i h; exact HR.out.2.2.2.1 i h) HR.out.2.2.2.2) (Nat.le_refl _)⟩
  have HE := Lib.hid hend; clear hend q2
  go_wp2_with fail
  go_loopw [10] (fun i wr => ∃ j : Nat, j ≤ m ∧ i = .int .i64 j ∧ (∃ cs, Blk wr gx 5 cs ∧ m ≤ cs.length) ∧ Chg (fun k => k = gx) w3 wr) (fun i _ => m - (intOf i).toNat)
  case atStart => exact ⟨0, by omega, rfl, H3.out.2.2.2.2.1, Chg.refl _ _⟩
  case round =>
    obtain ⟨j, hj, rfl, ⟨cs, hb, hcl⟩, hc⟩ := hrel
    by_cases hlt : j < m
    · have g3 : (j : Int) < (m : Int) := by omega
      have p1 : wr.cell? ⟨gx, j, none⟩ = some (cs[j]'(by omega)) := (hb.cell j).trans (List.getElem?_eq_getElem (by omega))
      have p2 : wr.frozen? ⟨gx, j, none⟩ = false := hb.frozen j
      have HB := Lib.hid (And.intro (hb.setCell j (.int .u8 85)) (And.intro (show m ≤ (cs.set j (.int .u8 85)).length by rw [List.length_set]; exact hcl) (hc.setCell (.inr rfl) j (.int .u8 85))))
      clear hb hc
      go_wp2_with fail
      go_roundw
      case rel => exact ⟨j + 1, by omega, by go_num, ⟨_, HB.out.1, HB.out.2.1⟩, HB.out.2.2⟩
      case measure => simp [intOf]; omega
    · obtain rfl : j = m := by omega
      have HB := Lib.hid (HE.out wr hc)
      have q1 : wr.cell? ⟨w.heap.size, 1, none⟩ = some (.int .i64 at_) := HB.out.2.2.2.1.cell 1
      have q2 : wr.cell? ⟨w.heap.size, 2, none⟩ = some (.slice A j c) := HB.out.2.2.2.1.cell 2
      clear hb hcl hc
      go_wp2_with fail
      refine (mwrite_any A j c B l at_ HB.out.2.1 HB.out.2.2.2.2 HR.out.2.1).mono ?_
      rintro e w5 ⟨⟨z2, rfl⟩, hm5, hc5⟩
      obtain ⟨hd5, hcc5⟩ := deed_m HB.out.2.1 HB.out.1 hc5 HB.out.2.2.1
      have H5 := Lib.hid (And.intro hd5 (And.intro hm5 hcc5)); clear hd5 hm5 hc5 hcc5 q1 q2
      go_wp2_with fail
      go_ret
      exact ⟨RetV.mk _, H5.out.1, H5.out.2.1, H5.out.2.2⟩
end
end Go.Proofs.Ytmddpjdgnamlnaa
