/- The document's Write and Crash. -/
import Derived.Test.YtmddpjdgnamlnaaRefD
namespace Go.Proofs.Ytmddpjdgnamlnaa
open Go.RowKit
attribute [-go_sem] loadCellsFrom storeCells
attribute [local go_sem] storeCells_one run_makeMap

section
variable {w w' : World} {gm an af ad n : Nat}
theorem mwrite_down (v : Value) (i : Int) (h : MAt w gm an af ad n) (c1 c2 c3 : Nat) (st : Bool) (lf : Int) (hb : Blk w gm 56 (mCells an af ad n c1 c2 c3 true st lf)) :
    Calls Try.prog 24 #[.pointer (some ⟨gm, 0, none⟩), .int .i64 i, v] w fun e w' => Ended e ∧ MAt w' gm an af ad n ∧ Chg (mS gm an af ad) w w' := by
  have q3 : w.cell? ⟨gm, 3, none⟩ = some (.bool true) := hb.cell 3
  have H := Lib.hid h
  clear h hb
  go_enter Try.func24, Try.ntmps24
  go_wp2_with fail
  go_ret
  exact ⟨Ended.mk _, H.out, Chg.refl _ _⟩
theorem mwrite_bad (v : Value) (i : Int) (h : MAt w gm an af ad n) (c1 c2 c3 : Nat) (st : Bool) (lf : Int) (hb : Blk w gm 56 (mCells an af ad n c1 c2 c3 false st lf)) (hi : (decide (0 ≤ i) && decide (i < (n : Int))) = false) :
    Calls Try.prog 24 #[.pointer (some ⟨gm, 0, none⟩), .int .i64 i, v] w fun e w' => Ended e ∧ MAt w' gm an af ad n ∧ Chg (mS gm an af ad) w w' := by
  have q3 : w.cell? ⟨gm, 3, none⟩ = some (.bool false) := hb.cell 3
  have hth := there_any i h
  rw [hi] at hth
  have HT := Lib.hid hth
  have H := Lib.hid h
  clear h hb hth hi
  go_enter Try.func24, Try.ntmps24
  go_wp2_with fail
  refine HT.out.mono ?_
  rintro e w' ⟨rfl, hw⟩
  subst hw
  go_wp2_with fail
  go_ret
  exact ⟨Ended.mk _, H.out, Chg.refl _ _⟩
theorem mwrite_long (A : Option Addr) (m c : Nat) (j : Nat) (h : MAt w gm an af ad n) (c1 c2 c3 : Nat) (st : Bool) (lf : Int) (hb : Blk w gm 56 (mCells an af ad n c1 c2 c3 false st lf)) (hj : j < n) (hm : 64 < m) :
    Calls Try.prog 24 #[.pointer (some ⟨gm, 0, none⟩), .int .i64 j, .slice A m c] w fun e w' => Ended e ∧ MAt w' gm an af ad n ∧ Chg (mS gm an af ad) w w' := by
  have q3 : w.cell? ⟨gm, 3, none⟩ = some (.bool false) := hb.cell 3
  have hth := there_any (j : Int) h
  rw [show (decide (0 ≤ (j : Int)) && decide ((j : Int) < (n : Int))) = true by simp; omega] at hth
  have HT := Lib.hid hth
  have H := Lib.hid h
  have h3 : (64 : Int) < (m : Int) := by omega
  clear h hb hth hj hm
  go_enter Try.func24, Try.ntmps24
  go_wp2_with fail
  refine HT.out.mono ?_
  rintro e w' ⟨rfl, hw⟩
  subst hw
  go_wp2_with fail
  go_ret
  exact ⟨Ended.mk _, H.out, Chg.refl _ _⟩
set_option linter.unusedSimpArgs false in
set_option maxRecDepth 20000 in
set_option maxHeartbeats 3200000 in
theorem mwrite_ok (A : Option Addr) (m c B : Nat) (l : List UInt8) (j : Nat) (h : MAt w gm an af ad n) (c1 c2 c3 : Nat) (st : Bool) (lf : Int) (hb : Blk w gm 56 (mCells an af ad n c1 c2 c3 false st lf)) (hj : j < n) (hr : Rd w B A (bv l)) (hl : l.length = m) (hm : m ≤ 64) :
    Calls Try.prog 24 #[.pointer (some ⟨gm, 0, none⟩), .int .i64 j, .slice A m c] w fun e w' => Ended e ∧ MAt w' gm an af ad n ∧ Chg (mS gm an af ad) w w' := by
  have q3 : w.cell? ⟨gm, 3, none⟩ = some (.bool false) := hb.cell 3
  have hth := there_any (j : Int) h
  rw [show (decide (0 ≤ (j : Int)) && decide ((j : Int) < (n : Int))) = true by simp; omega] at hth
  have HT := Lib.hid hth
  have h3 : ¬ (64 : Int) < (m : Int) := by omega
  have hjn : (j : Int) < (n : Int) := by omega
  have hmx : Try.prog.follows .mixedOrders = true := by kernel_rfl
  obtain ⟨w2, hw2⟩ : ∃ w2, w.drew = w2 := ⟨_, rfl⟩
  have hc2 : Chg (mS gm an af ad) w w2 := by rw [← hw2]; exact (Chg.refl _ _).drew
  have hc2' : Chg (fun _ => False) w w2 := by rw [← hw2]; exact (Chg.refl _ _).drew
  have hm2 : MAt w2 gm an af ad n := h.chg hc2' fun _ h => absurd h id
  have hr2 : Rd w2 B A (bv l) := hr.chg hc2' (fun _ _ h => absurd h id)
  obtain ⟨d1, d2, d3, s1, s2, b, q20, q21, q22, q24, q25, q26, z1, z2, z3⟩ := hm2.facts hj
  -- behind the call of Full, and the store
  have hFull := full_any A m c B l w2 hr2 hl (by omega)
  have hend : ∀ w3 (s : ByteArray), Below w2.heap.size w2 w3 → ∃ c2' c3' w4, w3.setCell ⟨an, j, none⟩ (.string s) = w4 ∧ w3.cell? ⟨gm, 0, none⟩ = some (.slice (some ⟨an, 0, none⟩) n d1) ∧ (∃ v, w3.cell? ⟨an, j, none⟩ = some v) ∧ w3.frozen? ⟨an, j, none⟩ = false ∧
      w4.cell? ⟨gm, 2, none⟩ = some (.slice (some ⟨ad, 0, none⟩) n c3') ∧ (∃ v, w4.cell? ⟨ad, j, none⟩ = some (.bool v)) ∧ w4.frozen? ⟨ad, j, none⟩ = false ∧ MAt (w4.setCell ⟨ad, j, none⟩ (.bool true)) gm an af ad n ∧ Chg (mS gm an af ad) w (w4.setCell ⟨ad, j, none⟩ (.bool true)) ∧ c2' = 0 := by
    intro w3 s hb3
    have hm3 := hm2.below hb3
    have e0 : w3.cell? ⟨gm, 0, none⟩ = some (.slice (some ⟨an, 0, none⟩) n d1) := (hb3.cell (p := ⟨gm, 0, none⟩) (World.block_lt_of_cell? w2 _ q20)).trans q20
    obtain ⟨_, _, _, t1, _, _, _, _, _, g4, _, _, y1, _, _⟩ := hm3.facts hj
    have hm4 := hm3.setNow j s
    obtain ⟨_, _, x3, _, _, t3, _, _, g2, _, _, g6, _, _, y3⟩ := hm4.facts hj
    exact ⟨0, x3, _, rfl, e0, ⟨_, g4⟩, y1, g2, ⟨_, g6⟩, y3, hm4.setDirty j true, ((hc2.trans (Chg.of_below (S := mS gm an af ad) hb3) (fun _ _ h => h)).setCell (.inr (.inr (.inl rfl))) _ _).setCell (.inr (.inr (.inr (.inr rfl)))) _ _, rfl⟩
  have HEnd := Lib.hid hend
  have HF := Lib.hid hFull
  have HW2 := Lib.hid hw2
  clear h hb hth hj hm hl hr hr2 hc2 hc2' hm2 hFull hend hw2 q21 q22 q24 q25 q26 z1 z2 z3
  go_enter Try.func24, Try.ntmps24
  go_wp2_with fail
  refine HT.out.mono ?_
  rintro e w' ⟨rfl, hw⟩
  subst hw
  go_wp2_with fail
  refine region_by_hand0 hmx ?_
  rw [HW2.out]
  refine any_take (i := 0) _ rfl (by kernel_rfl) (by kernel_rfl) (by kernel_rfl) (by rfl) (by intro w; go_simp <;> with_reducible rfl) ?_
  simp only [Act.put, List.setIfInBounds_toArray, List.set_cons_zero, List.set_cons_succ]
  refine any_take (i := 1) _ rfl (by kernel_rfl) (by kernel_rfl) (by kernel_rfl) (by rfl) (by intro w; go_simp <;> with_reducible rfl) ?_
  simp only [Act.put, List.setIfInBounds_toArray, List.set_cons_zero, List.set_cons_succ]
  refine any_take (i := 2) _ rfl (by kernel_rfl) (by kernel_rfl) (by kernel_rfl) (by rfl) (by intro w; go_simp <;> with_reducible rfl) ?_
  simp only [Act.put, List.setIfInBounds_toArray, List.set_cons_zero, List.set_cons_succ]
  refine any_take (i := 4) _ rfl (by kernel_rfl) (by kernel_rfl) (by kernel_rfl) (by rfl) (by intro w; go_simp <;> with_reducible rfl) ?_
  simp only [Act.put, List.setIfInBounds_toArray, List.set_cons_zero, List.set_cons_succ]
  refine any_take (i := 5) _ rfl (by kernel_rfl) (by kernel_rfl) (by kernel_rfl) (by rfl) (by intro w; go_simp <;> with_reducible rfl) ?_
  simp only [Act.put, List.setIfInBounds_toArray, List.set_cons_zero, List.set_cons_succ]
  refine any_pair 3 6 (by kernel_rfl) rfl rfl ?_ ?_
  · go_wp2_with fail
    refine ⟨rfl, ?_⟩
    refine any_only 6 (by kernel_rfl) rfl ?_
    go_wp2_with fail
    refine HF.out.mono ?_
    rintro e w3 ⟨rfl, hb3⟩
    obtain ⟨_, _, w4, hw4, p0, ⟨_, p1⟩, p2, p3, ⟨_, p4⟩, p5, hm5, hc5, _⟩ := HEnd.out w3 ⟨(full l).toArray⟩ hb3
    have HW4 := Lib.hid hw4
    have HS := Lib.hid (mstep_any hm5)
    have HC := Lib.hid hc5
    clear hw4 hm5 hc5 hb3
    go_wp2_with fail
    refine ⟨rfl, ?_⟩
    refine any_only 7 (by kernel_rfl) rfl ?_
    go_wp2_with fail
    refine ⟨rfl, ?_⟩
    refine any_only 8 (by kernel_rfl) rfl ?_
    go_wp2_with fail
    refine ⟨rfl, ?_⟩
    rw [HW4.out]
    refine wpAny_done (by kernel_rfl) ?_ _
    refine ⟨rfl, ?_⟩
    clear p0 p1 p2
    go_wp2_with fail
    refine HS.out.mono ?_
    rintro e w6 ⟨⟨z, rfl⟩, hm6, hc6⟩
    have H6 := Lib.hid (And.intro hm6 (HC.out.trans hc6 (fun _ _ h => .inl h))); clear hm6 hc6
    go_wp2_with fail
    go_ret
    exact ⟨Ended.mk _, H6.out.1, H6.out.2⟩
  · go_wp2_with fail
    refine HF.out.mono ?_
    rintro e w3 ⟨rfl, hb3⟩
    obtain ⟨_, _, w4, hw4, p0, ⟨_, p1⟩, p2, p3, ⟨_, p4⟩, p5, hm5, hc5, _⟩ := HEnd.out w3 ⟨(full l).toArray⟩ hb3
    have HW4 := Lib.hid hw4
    have HS := Lib.hid (mstep_any hm5)
    have HC := Lib.hid hc5
    clear hw4 hm5 hc5 hb3
    go_wp2_with fail
    refine ⟨rfl, ?_⟩
    refine any_only 3 (by kernel_rfl) rfl ?_
    go_wp2_with fail
    refine ⟨rfl, ?_⟩
    refine any_only 7 (by kernel_rfl) rfl ?_
    go_wp2_with fail
    refine ⟨rfl, ?_⟩
    refine any_only 8 (by kernel_rfl) rfl ?_
    go_wp2_with fail
    refine ⟨rfl, ?_⟩
    rw [HW4.out]
    refine wpAny_done (by kernel_rfl) ?_ _
    refine ⟨rfl, ?_⟩
    clear p0 p1 p2
    go_wp2_with fail
    refine HS.out.mono ?_
    rintro e w6 ⟨⟨z, rfl⟩, hm6, hc6⟩
    have H6 := Lib.hid (And.intro hm6 (HC.out.trans hc6 (fun _ _ h => .inl h))); clear hm6 hc6
    go_wp2_with fail
    go_ret
    exact ⟨Ended.mk _, H6.out.1, H6.out.2⟩
theorem mwrite_any (A : Option Addr) (m c B : Nat) (l : List UInt8) (i : Int) (h : MAt w gm an af ad n) (hr : Rd w B A (bv l)) (hl : l.length = m) :
    Calls Try.prog 24 #[.pointer (some ⟨gm, 0, none⟩), .int .i64 i, .slice A m c] w fun e w' => Ended e ∧ MAt w' gm an af ad n ∧ Chg (mS gm an af ad) w w' := by
  obtain ⟨c1, c2, c3, dn, st, lf, hb⟩ := h.blk
  cases dn
  · by_cases hi : 0 ≤ i ∧ i < (n : Int)
    · obtain ⟨j, rfl⟩ : ∃ j : Nat, i = (j : Int) := ⟨i.toNat, by omega⟩
      by_cases hm : 64 < m
      · exact mwrite_long A m c j h c1 c2 c3 st lf hb (by omega) hm
      · exact mwrite_ok A m c B l j h c1 c2 c3 st lf hb (by omega) hr hl (by omega)
    · exact mwrite_bad _ i h c1 c2 c3 st lf hb (by simp; omega)
  · exact mwrite_down _ i h c1 c2 c3 st lf hb
set_option maxRecDepth 20000 in
set_option maxHeartbeats 3200000 in
theorem mcrash_any (keep : List Bool) (A : Option Addr) (m c B : Nat) (h : MAt w gm an af ad n) (hr : Rd w B A (tv keep)) (hl : keep.length = m) (hB : ∀ i, mS gm an af ad i → B ≤ i) (hBw : B ≤ w.heap.size) :
    Calls Try.prog 28 #[.pointer (some ⟨gm, 0, none⟩), .slice A m c] w fun e w' => e = .returned (.tuple #[]) ∧ MAt w' gm an af ad n ∧ Chg (mS gm an af ad) w w' := by
  obtain ⟨hn1, hn2⟩ := h.len
  have H := Lib.hid (And.intro h (And.intro hr (And.intro hl (And.intro hB hBw))))
  clear h hr hl hB hBw
  go_enter Try.func28, Try.ntmps28
  go_wp2_with fail
  go_loopw [4, 5] (fun kv iv wr => ∃ i k : Nat, i ≤ n ∧ k ≤ i ∧ iv = .int .i64 i ∧ kv = .int .i64 k ∧ MAt wr gm an af ad n ∧ Chg (mS gm an af ad) w wr) (fun _ iv _ => n - (intOf iv).toNat)
  case atStart => exact ⟨0, 0, by omega, by omega, rfl, rfl, H.out.1, Chg.refl _ _⟩
  case round =>
    obtain ⟨i, k, hi, hki, rfl, rfl, hm, hc⟩ := hrel
    by_cases hlt : i < n
    · have g3 : (i : Int) < (n : Int) := by omega
      obtain ⟨c1, c2, c3, s1, s2, b, q0, q1, q2, q3, q4, q5, z1, z2, z3⟩ := hm.facts hlt
      cases b
      · have H8 := Lib.hid (And.intro hm hc); clear hm hc
        go_wp2_with fail
        go_roundw
        case rel => exact ⟨i + 1, k, by omega, by omega, by go_num, rfl, H8.out.1, H8.out.2⟩
        case measure => simp [intOf]; omega
      · by_cases hkm : k < m
        · have hgn : ¬ ((m : Int) ≤ (k : Int)) := by omega
          have hgn2 : (k : Int) < (m : Int) := by omega
          have hkl : k < keep.length := by rw [H.out.2.2.1]; exact hkm
          obtain ⟨kp, hkp0⟩ : ∃ kp, keep[k]'hkl = kp := ⟨_, rfl⟩
          have hbB : Below B w wr := hc.below H.out.2.2.2.1 H.out.2.2.2.2
          obtain ⟨b2, off2, hA2, hcell2⟩ : ∃ b off, A = some ⟨b, off, none⟩ ∧ wr.cell? ⟨b, off + k, none⟩ = some (.bool kp) := by
            rcases H.out.2.1.below hbB (Nat.le_refl _) with h | ⟨b, off, e, _, hc⟩
            · have := congrArg List.length h; simp [tv] at this; subst this; simp at hkl
            · exact ⟨b, off, e, hc k _ (by rw [tv_at keep k hkl, hkp0])⟩
          subst hA2
          clear hkp0 hkl hkm hbB
          cases kp
          · have hn0 := hm.gmN
            obtain ⟨w6, hw6⟩ : ∃ w6, (wr.setCell ⟨an, i, none⟩ (.string s2)).drew = w6 := ⟨_, rfl⟩
            have hm6 : MAt w6 gm an af ad n := by rw [← hw6]; exact (hm.setNow i s2).drew
            have hc6 : Chg (mS gm an af ad) w w6 := by rw [← hw6]; exact (hc.setCell (.inr (.inr (.inl rfl))) _ _).drew
            obtain ⟨e1, e2, e3, u1, u2, u3, k0, k1, k2, k4, k5, k6, y1, y2, y3⟩ := hm6.facts hlt
            have hnA := hm6.gmS
            have hnB := hm6.sD
            have hm8 := ((hm6.setSafe i u1).setDirty i false).drew
            have hc8 : Chg (mS gm an af ad) w ((w6.setCell ⟨af, i, none⟩ (.string u1)).setCell ⟨ad, i, none⟩ (.bool false)).drew := (((hc6).setCell (.inr (.inr (.inr (.inl rfl)))) _ _).setCell (.inr (.inr (.inr (.inr rfl)))) _ _).drew
            have H8 := Lib.hid (And.intro hm8 hc8); clear hm8 hc8
            have HW6 := Lib.hid hw6
            clear hm hc hm6 hc6 hw6
            go_wp2_with fail
            go_still_tail 13, (by kernel_rfl)
            change wpList _ _ _ _ _ wr.drew
            go_wp2_with fail
            rw [HW6.out]
            clear q0 q1 q2 q3 q4 q5 z1 z2 z3
            go_still_tail 13, (by kernel_rfl)
            change wpList _ _ _ _ _ w6.drew
            go_wp2_with fail
            go_roundw
            case rel => exact ⟨i + 1, k + 1, by omega, by omega, by go_num, by go_num, H8.out.1, H8.out.2⟩
            case measure => simp [intOf]; omega
          · have hnA := hm.gmS
            have hnB := hm.sD
            have hm8 := ((hm.setSafe i s1).setDirty i false).drew
            have hc8 : Chg (mS gm an af ad) w ((wr.setCell ⟨af, i, none⟩ (.string s1)).setCell ⟨ad, i, none⟩ (.bool false)).drew := (((hc).setCell (.inr (.inr (.inr (.inl rfl)))) _ _).setCell (.inr (.inr (.inr (.inr rfl)))) _ _).drew
            have H8 := Lib.hid (And.intro hm8 hc8); clear hm8 hc8
            clear hm hc
            go_wp2_with fail
            go_still_tail 13, (by kernel_rfl)
            change wpList _ _ _ _ _ wr.drew
            go_wp2_with fail
            go_roundw
            case rel => exact ⟨i + 1, k + 1, by omega, by omega, by go_num, by go_num, H8.out.1, H8.out.2⟩
            case measure => simp [intOf]; omega
        · have hgn : (m : Int) ≤ (k : Int) := by omega
          clear hkm
          have hn0 := hm.gmN
          obtain ⟨w6, hw6⟩ : ∃ w6, (wr.setCell ⟨an, i, none⟩ (.string s2)).drew = w6 := ⟨_, rfl⟩
          have hm6 : MAt w6 gm an af ad n := by rw [← hw6]; exact (hm.setNow i s2).drew
          have hc6 : Chg (mS gm an af ad) w w6 := by rw [← hw6]; exact (hc.setCell (.inr (.inr (.inl rfl))) _ _).drew
          obtain ⟨e1, e2, e3, u1, u2, u3, k0, k1, k2, k4, k5, k6, y1, y2, y3⟩ := hm6.facts hlt
          have hnA := hm6.gmS
          have hnB := hm6.sD
          have hm8 := ((hm6.setSafe i u1).setDirty i false).drew
          have hc8 : Chg (mS gm an af ad) w ((w6.setCell ⟨af, i, none⟩ (.string u1)).setCell ⟨ad, i, none⟩ (.bool false)).drew := (((hc6).setCell (.inr (.inr (.inr (.inl rfl)))) _ _).setCell (.inr (.inr (.inr (.inr rfl)))) _ _).drew
          have H8 := Lib.hid (And.intro hm8 hc8); clear hm8 hc8
          have HW6 := Lib.hid hw6
          clear hm hc hm6 hc6 hw6
          go_wp2_with fail
          go_still_tail 13, (by kernel_rfl)
          change wpList _ _ _ _ _ wr.drew
          go_wp2_with fail
          rw [HW6.out]
          clear q0 q1 q2 q3 q4 q5 z1 z2 z3
          go_still_tail 13, (by kernel_rfl)
          change wpList _ _ _ _ _ w6.drew
          go_wp2_with fail
          go_roundw
          case rel => exact ⟨i + 1, k + 1, by omega, by omega, by go_num, by go_num, H8.out.1, H8.out.2⟩
          case measure => simp [intOf]; omega
    · obtain rfl : i = n := by omega
      obtain ⟨c1, c2, c3, dn, st, lf, hb⟩ := hm.blk
      have q0 : wr.cell? ⟨gm, 0, none⟩ = some (.slice (some ⟨an, 0, none⟩) i c1) := hb.cell 0
      have q3 : wr.cell? ⟨gm, 3, none⟩ = some (.bool dn) := hb.cell 3
      have q4 : wr.cell? ⟨gm, 4, none⟩ = some (.bool st) := hb.cell 4
      have z3 : wr.frozen? ⟨gm, 3, none⟩ = false := hb.frozen 3
      have z4 : wr.frozen? ⟨gm, 4, none⟩ = false := hb.frozen 4
      have hb2 := (hb.setCell 3 (.bool false)).setCell 4 (.bool false)
      have hcg := ((Chg.refl (fun k => k = gm) wr).setCell (.inr rfl) 3 (.bool false)).setCell (.inr rfl) 4 (.bool false)
      have H9 := Lib.hid (And.intro (hm.setOwn hcg hb2) (hc.trans hcg (fun _ _ h => .inl h)))
      clear hb hb2 hcg hm hc
      go_wp2_with fail
      exact bodyPost_end (results_none rfl _ _ _) rfl ⟨rfl, H9.out.1, H9.out.2⟩
end
end Go.Proofs.Ytmddpjdgnamlnaa
