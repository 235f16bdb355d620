/- PdiskFlushed: what was flushed and not written since is there behind any crash, at every script, place, bytes and choice. No condition. -/
import Derived.Test.YtmddpjdgnamlnaaFlush07
import Derived.Test.YtmddpjdgnamlnaaOpen
namespace Go.Proofs.Ytmddpjdgnamlnaa
open Go.RowKit

attribute [-go_sem] loadCellsFrom storeCells
attribute [local go_sem] storeCells_one run_makeMap Sec.cells_len

set_option linter.unusedVariables false in
set_option maxRecDepth 40000 in
set_option maxHeartbeats 6400000 in
theorem pdiskFlushed_walk (a0 : Option Addr) (n0 c0 : Nat) (l0 : List Do) (x1 : Int) (a2 : Option Addr) (n2 c2 : Nat) (l2 : List UInt8) (a3 : Option Addr) (n3 c3 : Nat) (l3 : List UInt8) (t4 : Bool) (a5 : Option Addr) (n5 c5 : Nat) (l5 : List Bool) (w : World) (r0 : Rd w w.heap.size a0 (doCells l0)) (e0 : l0.length = n0) (b0 : n0 ≤ c0) (m0 : c0 ≤ maxLen) (o0 : ∀ o ∈ l0, o.raw w) (f1 : (Lit.int .i64 x1).wf = true) (r2 : Rd w w.heap.size a2 (bv l2)) (e2 : l2.length = n2) (b2 : n2 ≤ c2) (m2 : c2 ≤ maxLen) (r3 : Rd w w.heap.size a3 (bv l3)) (e3 : l3.length = n3) (b3 : n3 ≤ c3) (m3 : c3 ≤ maxLen) (r5 : Rd w w.heap.size a5 (tv l5)) (e5 : l5.length = n5) (b5 : n5 ≤ c5) (m5 : c5 ≤ maxLen) :
    Calls Try.prog 5 #[.slice a0 n0 c0, .int .i64 x1, .slice a2 n2 c2, .slice a3 n3 c3, .bool t4, .slice a5 n5 c5] w fun e w' => e = .returned (.bool true) ∧ Below w.heap.size w w' := by
  have HB0 := Lib.hid (Below.refl w.heap.size w)
  by_cases hlong2 : 64 < n2
  · have gL2 : (64 : Int) < (n2 : Int) := by omega
    have HLg := Lib.hid (large_any a0 n0 c0 w.heap.size l0 w r0 e0 o0)
    clear r0 o0
    go_enter Try.func5, Try.ntmps5
    go_wp2_with fail
    refine HLg.out.mono ?_
    rintro e w1 ⟨hw, rfl | ⟨rfl, _, _⟩⟩
    · subst hw
      go_wp2_with fail
      go_ret
      exact ⟨rfl, Below.refl _ _⟩
    · subst hw
      go_wp2_with fail
      go_ret
      exact ⟨rfl, Below.refl _ _⟩
  have gL2 : ¬ (64 : Int) < (n2 : Int) := by omega
  by_cases hlong3 : 64 < n3
  · have gL3 : (64 : Int) < (n3 : Int) := by omega
    have HLg := Lib.hid (large_any a0 n0 c0 w.heap.size l0 w r0 e0 o0)
    clear r0 o0
    go_enter Try.func5, Try.ntmps5
    go_wp2_with fail
    refine HLg.out.mono ?_
    rintro e w1 ⟨hw, rfl | ⟨rfl, _, _⟩⟩
    · subst hw
      go_wp2_with fail
      go_ret
      exact ⟨rfl, Below.refl _ _⟩
    · subst hw
      go_wp2_with fail
      go_ret
      exact ⟨rfl, Below.refl _ _⟩
  have gL3 : ¬ (64 : Int) < (n3 : Int) := by omega
  by_cases hlong5 : 5000 < n5
  · have gL5 : (5000 : Int) < (n5 : Int) := by omega
    have HLg := Lib.hid (large_any a0 n0 c0 w.heap.size l0 w r0 e0 o0)
    clear r0 o0
    go_enter Try.func5, Try.ntmps5
    go_wp2_with fail
    refine HLg.out.mono ?_
    rintro e w1 ⟨hw, rfl | ⟨rfl, _, _⟩⟩
    · subst hw
      go_wp2_with fail
      go_ret
      exact ⟨rfl, Below.refl _ _⟩
    · subst hw
      go_wp2_with fail
      go_ret
      exact ⟨rfl, Below.refl _ _⟩
  have gL5 : ¬ (5000 : Int) < (n5 : Int) := by omega
  have HR2 := Lib.hid (And.intro r2 (And.intro e2 (show l2.length ≤ 64 by omega)))
  have HR3 := Lib.hid (And.intro r3 (And.intro e3 (show l3.length ≤ 64 by omega)))
  have HR5 := Lib.hid (And.intro r5 e5)
  have HO := Lib.hid (And.intro r0 (And.intro e0 o0))
  have HLg := Lib.hid (large_any a0 n0 c0 w.heap.size l0 w r0 e0 o0)
  clear r0 o0 b0 m0 e0 r2 b2 m2 e2 r3 b3 m3 e3 r5 b5 m5 e5 hlong2 hlong3 hlong5
  go_enter Try.func5, Try.ntmps5
  go_wp2_with fail
  refine HLg.out.mono ?_
  rintro e w1 ⟨hw, rfl | ⟨rfl, hl100, hok⟩⟩
  · subst hw
    go_wp2_with fail
    go_ret
    exact ⟨rfl, Below.refl _ _⟩
  subst hw
  have hn100 : n0 ≤ 100 := by rw [← HO.out.2.1]; exact hl100
  have HOk := Lib.hid hok; clear hok hl100
  go_wp2_with fail
  refine (dnew_any 16 w (by omega) (by omega)).mono ?_
  rintro e w1 ⟨g, gl, mb, rfl, hd1, hg, hgl, hmb, hb1⟩
  have hS1 : ∀ i, dkS g gl mb i → w.heap.size ≤ i := by rintro i (rfl | rfl | rfl) <;> first | exact Nat.le_trans HB0.out.size hg | exact Nat.le_trans HB0.out.size hgl | exact Nat.le_trans HB0.out.size hmb
  have H1 := Lib.hid (And.intro (show SomeDisk w1 g gl mb 16 from ⟨_, hd1, by simp [Dk.new]⟩) (And.intro hS1 (HB0.out.trans (hb1.mono HB0.out.size)))); clear hd1 hb1 hS1 hg hgl hmb
  go_wp2_with fail
  refine (mnew_any 16 w1 (by omega) (by omega)).mono ?_
  rintro e w2 ⟨gm, rfl, an, af, ad, hm2, hS2, hb2⟩
  have H2 := Lib.hid (And.intro (H1.out.1.below hb2) (And.intro hm2 (And.intro H1.out.2.1 (And.intro (show ∀ i, mS gm an af ad i → w.heap.size ≤ i from fun i hi => Nat.le_trans H1.out.2.2.size (hS2 i hi)) (H1.out.2.2.trans (hb2.mono H1.out.2.2.size)))))); clear hm2 hb2 hS2
  go_wp2_with fail
  go_loopw [17] (fun i wr => ∃ k : Nat, k ≤ n0 ∧ i = .int .i64 k ∧ SomeDisk wr g gl mb 16 ∧ MAt wr gm an af ad 16 ∧ Below w.heap.size w wr) (fun i _ => n0 - (intOf i).toNat)
  case atStart => exact ⟨0, by omega, rfl, H2.out.1, H2.out.2.1, H2.out.2.2.2.2⟩
  case round =>
    obtain ⟨k, hk, rfl, hd, hm, hb⟩ := hrel
    by_cases hlt : k < n0
    · have g3 : (k : Int) < (n0 : Int) := by omega
      have hka : k < l0.length := by rw [HO.out.2.1]; exact hlt
      have hrd := HO.out.1.below hb (Nat.le_refl _)
      obtain ⟨b, off, hA, hbC, hc, hld⟩ := rows_load (P := Try.prog) 4 Do.cells (fun _ => rfl) (by omega) l0 hrd k hka
      subst hA
      have hld := hld 0
      change Sem.run _ _ wr = .ok _ wr at hld
      have hat := (HO.out.2.2 _ (List.getElem_mem hka)).at hb
      have hok := (HOk.out _ (List.getElem_mem hka)).1
      generalize l0[k]'hka = o at *
      have HC := Lib.hid (call_any o hat hok hd hm hb.size H2.out.2.2.1 H2.out.2.2.2.1)
      have HB := Lib.hid hb
      clear hc hat hok hd hm hb hrd
      go_wp2_with fail
      refine HC.out.mono ?_
      rintro e w3 ⟨⟨v, rfl⟩, hd3, hm3, hb3⟩
      have H3 := Lib.hid (And.intro hd3 (And.intro hm3 (HB.out.trans hb3))); clear hd3 hm3 hb3
      go_wp2_with fail
      go_roundw
      case rel => exact ⟨k + 1, by omega, by go_num, H3.out.1, H3.out.2.1, H3.out.2.2⟩
      case measure => simp [intOf]; omega
    · obtain rfl : k = n0 := by omega
      have H4 := Lib.hid (And.intro hd (And.intro hm hb)); clear hd hm hb
      obtain ⟨d, hd, hn⟩ := H4.out.1
      have hr4 : Rd wr w.heap.size a2 (bv l2) := HR2.out.1.below H4.out.2.2 (Nat.le_refl _)
      rcases write_cases x1 a2 n2 c2 w.heap.size l2 hd hr4 HR2.out.2.1 with ⟨z, hz, hwhy, hcw⟩ | ⟨j, h64, hxj, hdn, hj, hcw⟩
      · have HCW := Lib.hid hcw
        have hwy := why_not hn hwhy (by omega)
        have H5 := Lib.hid (And.intro hd H4.out.2.2)
        clear hcw hd hn hr4 hwhy
        cases hdn : d.down
        · rw [hdn] at hwy
          have hwz := hwy.resolve_left (by simp)
          clear hwy
          have HDn := Lib.hid hdn
          clear hdn
          rcases hwz with hx | ⟨hx, hx2⟩
          · go_wp2_with fail
            refine HCW.out.mono ?_
            rintro e w' ⟨rfl, hw⟩
            subst hw
            go_wp2_with fail
            refine (awake_any wr).mono ?_
            rintro e w8 ⟨rfl, hb8⟩
            have hdw := down_any (H5.out.1.below hb8)
            rw [HDn.out] at hdw
            have HDw := Lib.hid hdw
            have B8 := Lib.hid (H5.out.2.trans (hb8.mono H5.out.2.size))
            clear hdw hb8
            go_wp2_with fail
            refine HDw.out.mono ?_
            rintro e w' ⟨rfl, hw⟩
            subst hw
            go_wp2_with fail
            go_ret
            exact ⟨rfl, B8.out⟩
          · go_wp2_with fail
            refine HCW.out.mono ?_
            rintro e w' ⟨rfl, hw⟩
            subst hw
            go_wp2_with fail
            refine (awake_any wr).mono ?_
            rintro e w8 ⟨rfl, hb8⟩
            have hdw := down_any (H5.out.1.below hb8)
            rw [HDn.out] at hdw
            have HDw := Lib.hid hdw
            have B8 := Lib.hid (H5.out.2.trans (hb8.mono H5.out.2.size))
            clear hdw hb8
            go_wp2_with fail
            refine HDw.out.mono ?_
            rintro e w' ⟨rfl, hw⟩
            subst hw
            go_wp2_with fail
            go_ret
            exact ⟨rfl, B8.out⟩
        · clear hwy
          go_wp2_with fail
          refine HCW.out.mono ?_
          rintro e w' ⟨rfl, hw⟩
          subst hw
          go_wp2_with fail
          refine (awake_any wr).mono ?_
          rintro e w8 ⟨rfl, hb8⟩
          have hdw := down_any (H5.out.1.below hb8)
          rw [hdn] at hdw
          have HDw := Lib.hid hdw
          have B8 := Lib.hid (H5.out.2.trans (hb8.mono H5.out.2.size))
          clear hdw hb8
          go_wp2_with fail
          refine HDw.out.mono ?_
          rintro e w' ⟨rfl, hw⟩
          subst hw
          go_wp2_with fail
          go_ret
          exact ⟨rfl, B8.out⟩
      · obtain ⟨F1, hF1⟩ : ∃ F, Sec.of l2 h64 = F := ⟨_, rfl⟩
        rw [hF1] at hcw
        have HCW := Lib.hid hcw
        have HF1 := Lib.hid hF1.symm
        have HD := Lib.hid (And.intro hn hj)
        have HH := Lib.hid (And.intro hd hr4)
        clear hcw hd hr4 hF1 hn hj hdn
        subst hxj
        go_wp2_with fail
        refine HCW.out.mono ?_
        rintro e w5 ⟨rfl, hd5, hc5⟩
        have hB5 := H4.out.2.2.trans (hc5.below H2.out.2.2.1 H4.out.2.2.size)
        have H5 := Lib.hid (And.intro hd5 hB5)
        clear hd5 hc5 hB5
        cases hdn : (d.write j F1).down
        · have HFl := Lib.hid (flush_ok H5.out.1 hdn)
          clear hdn
          go_wp2_with fail
          refine HFl.out.mono ?_
          rintro e w6 ⟨rfl, hd6, hc6⟩
          have hB6 := H5.out.2.trans ((hc6.mono (T := dkS g gl mb) (fun k _ h => h.elim .inl (fun h => .inr (.inr h)))).below H2.out.2.2.1 H5.out.2.size)
          have hj16 : j < 16 := by have := HD.out; omega
          have hfi : ∀ b, FI b F1 (Sec.of l3 HR3.out.2.2) j (d.write j F1).flushed.step := by
            intro b
            refine ⟨by rw [Dk.flushed_now, Dk.write_now, List.length_set]; exact HD.out.1, hj16, .inl ⟨by rw [Dk.flushed_was], ?_⟩⟩
            rw [Dk.flushed_now, Dk.write_now, List.getD_eq_getElem?_getD, List.getElem?_set_self HD.out.2, Option.getD_some]
          cases t4
          · have H5 := Lib.hid (And.intro (show ∃ d, DiskAt w6 g gl mb d ∧ FI false F1 (Sec.of l3 HR3.out.2.2) j d from ⟨_, hd6, hfi false⟩) hB6)
            clear hd6 hc6 hB6 hfi hj16
            go_wp2_with fail
            go_loopw [18] (fun i wr => ∃ k : Nat, k ≤ 16 ∧ i = .int .i64 k ∧ (∃ d, DiskAt wr g gl mb d ∧ FI false F1 (Sec.of l3 HR3.out.2.2) j d) ∧ Below w.heap.size w wr) (fun i _ => 16 - (intOf i).toNat)
            case atStart => exact ⟨0, by omega, rfl, H5.out.1, H5.out.2⟩
            case round =>
              obtain ⟨k, hk, rfl, ⟨d, hd, hfi⟩, hb⟩ := hrel
              by_cases hlt : k < 16
              · have g3 : (k : Int) < 16 := by omega
                by_cases hkj : k = j
                · have g4 : ((k : Int) == (j : Int)) = true := by rw [hkj]; simp
                  have H6 := Lib.hid (And.intro (show ∃ d, DiskAt wr g gl mb d ∧ FI false F1 (Sec.of l3 HR3.out.2.2) j d from ⟨d, hd, hfi⟩) hb)
                  clear hd hfi hb hkj
                  go_wp2_with fail
                  go_roundw
                  case rel => exact ⟨k + 1, by omega, by go_num, H6.out.1, H6.out.2⟩
                  case measure => simp [intOf]; omega
                · have g4 : ((k : Int) == (j : Int)) = false := by simp; omega
                  have hrr : Rd wr w.heap.size a3 (bv l3) := HR3.out.1.below hb (Nat.le_refl _)
                  have HC := Lib.hid (write_fi (b := false) (x := F1) (j := j) (k : Int) a3 n3 c3 w.heap.size l3 HR3.out.2.2 hd hrr HR3.out.2.1 hfi (.inl (by omega)))
                  have HB := Lib.hid hb
                  clear hd hfi hb hrr hkj
                  go_wp2_with fail
                  refine HC.out.mono ?_
                  rintro e w6 ⟨⟨v, rfl⟩, hd6, hc6⟩
                  have H6 := Lib.hid (And.intro hd6 (HB.out.trans (hc6.below H2.out.2.2.1 HB.out.size))); clear hd6 hc6
                  go_wp2_with fail
                  go_roundw
                  case rel => exact ⟨k + 1, by omega, by go_num, H6.out.1, H6.out.2⟩
                  case measure => simp [intOf]; omega
              · obtain rfl : k = 16 := by omega
                have hr5 : Rd wr w.heap.size a5 (tv l5) := HR5.out.1.below hb (Nat.le_refl _)
                have HCr := Lib.hid (crash_any l5 a5 n5 c5 w.heap.size hd hr5 HR5.out.2 hb.size)
                have HF := Lib.hid (And.intro hfi hb)
                clear hd hfi hb hr5
                go_wp2_with fail
                refine HCr.out.mono ?_
                rintro e w6 ⟨rfl, hd6, hc6⟩
                obtain ⟨r, hor, hrd⟩ := read_fi l5 HF.out.1.2.1 HF.out.1 hd6
                have HRd := Lib.hid hrd
                have H6 := Lib.hid (And.intro hd6 (HF.out.2.trans (hc6.below H2.out.2.2.1 HF.out.2.size)))
                have HOR := Lib.hid hor
                clear hd6 hc6 hrd hor
                go_wp2_with fail
                refine HRd.out.mono ?_
                rintro e w7 ⟨rfl, hk7, hb7⟩
                have hb07 := H6.out.2.trans (hb7.mono H6.out.2.size)
                have hr7 : Rd w7 w.heap.size a2 (bv l2) := HR2.out.1.below hb07 (Nat.le_refl _)
                have HFu := Lib.hid (full_any a2 n2 c2 w.heap.size l2 w7 hr7 HR2.out.2.1 (by omega))
                have H7 := Lib.hid (And.intro hk7 (And.intro (H6.out.1.below hb7) hb07))
                clear hk7 hb7 hb07 hr7
                go_wp2_with fail
                refine HFu.out.mono ?_
                rintro e w8 ⟨rfl, hb8⟩
                have HK := Lib.hid (And.intro (H7.out.1.below hb8 H7.out.1.lt) (And.intro (H7.out.2.1.below hb8) (H7.out.2.2.trans (hb8.mono H7.out.2.2.size))))
                clear hb8
                obtain ⟨S1, hS1⟩ : ∃ S : ByteArray, ⟨(full l2).toArray⟩ = S := ⟨_, rfl⟩
                obtain ⟨S2, hS2⟩ : ∃ S : ByteArray, ⟨r.l.toArray⟩ = S := ⟨_, rfl⟩
                rw [hS1]
                by_cases h12 : S2 = S1
                · subst h12
                  have HS := Lib.hid (And.intro hS2 True.intro)
                  clear hS1 hS2
                  go_wp2_with fail
                  refine wp_region_mono' (by kernel_rfl) (by kernel_rfl) ?_
                  iterate 27 (refine ex_det ?_; apply Exists.intro)
                  refine ex_nil ⟨?pers, ?walk⟩
                  case' walk =>
                    apply mwalk_det (by kernel_rfl) (by intro t w h; cases h; exact trivial) rfl
                    · intro W hW hF
                      go_wp2_with fail
                      refine (awake_any W).mono ?_
                      rintro e w9 ⟨rfl, hb⟩
                      have HB9 := Lib.hid hb; clear hb
                      go_wp2_with fail
                      exact ⟨rfl, _, rfl, hW.trans (HB9.out.mono hW.size), HB9.out, rfl⟩
                    simp only [Act.put, List.setIfInBounds_toArray, List.set_cons_zero, List.set_cons_succ]
                    iterate 6
                      apply mwalk_det (by kernel_rfl) (by intro t w h; cases h; exact trivial) rfl
                      · intro W hW hF
                        go_wp2_with fail
                        exact ⟨rfl, _, rfl, hW, Below.refl _ _, rfl⟩
                      simp only [Act.put, List.setIfInBounds_toArray, List.set_cons_zero, List.set_cons_succ]
                    apply mwalk_det (by kernel_rfl) (by intro t w h; cases h; exact trivial) rfl
                    · intro W hW hF
                      have hcvW := conv_rd (P := Try.prog) W 32 9 5 Try.underlying32 Try.underlying5 Try.underlying9 _ _ 64 64 r.l (HK.out.1.below hW HK.out.1.lt).rd r.h
                      rw [HS.out.1] at hcvW
                      go_wp2_with fail
                      exact ⟨rfl, _, rfl, hW, Below.refl _ _, rfl⟩
                    simp only [Act.put, List.setIfInBounds_toArray, List.set_cons_zero, List.set_cons_succ]
                    iterate 15
                      apply mwalk_det (by kernel_rfl) (by intro t w h; cases h; exact trivial) rfl
                      · intro W hW hF
                        go_wp2_with fail
                        exact ⟨rfl, _, rfl, hW, Below.refl _ _, rfl⟩
                      simp only [Act.put, List.setIfInBounds_toArray, List.set_cons_zero, List.set_cons_succ]
                    apply mwalk_det (by kernel_rfl) (by intro t w h; cases h; exact trivial) rfl
                    · intro W hW hF
                      have hdW := down_any (HK.out.2.1.below hW)
                      rw [Dk.crash_down] at hdW
                      have HdW := Lib.hid hdW; clear hdW
                      go_wp2_with fail
                      refine HdW.out.mono ?_
                      rintro e w9 ⟨rfl, hw⟩
                      subst hw
                      go_wp2_with fail
                      exact ⟨rfl, _, rfl, hW, Below.refl _ _, rfl⟩
                    simp only [Act.put, List.setIfInBounds_toArray, List.set_cons_zero, List.set_cons_succ]
                    iterate 3
                      apply mwalk_det (by kernel_rfl) (by intro t w h; cases h; exact trivial) rfl
                      · intro W hW hF
                        go_wp2_with fail
                        exact ⟨rfl, _, rfl, hW, Below.refl _ _, rfl⟩
                      simp only [Act.put, List.setIfInBounds_toArray, List.set_cons_zero, List.set_cons_succ]
                    intro W hW hF
                    have HW := Lib.hid (HK.out.2.2.trans (hW.mono HK.out.2.2.size))
                    clear hW
                  case pers => exact ⟨pers_isV _, pers_isV _, pers_isV _, pers_isV _, pers_isV _, pers_isV _, pers_isV _, pers_isV _, pers_isV _, pers_isV _, pers_isV _, pers_isV _, pers_isV _, pers_isV _, pers_isV _, pers_isV _, pers_isV _, pers_isV _, pers_isV _, pers_isV _, pers_isV _, pers_isV _, pers_isV _, pers_isV _, pers_isV _, pers_isV _, pers_isV _, trivial⟩
                  go_wp2_with fail
                  go_ret
                  exact ⟨rfl, HW.out⟩
                · refine absurd ?_ h12
                  rcases HOR.out with h | h
                  · rw [← hS1, ← hS2, h, HF1.out]; rfl
                  · cases h.1
          · have hr6 : Rd w6 w.heap.size a3 (bv l3) := HR3.out.1.below hB6 (Nat.le_refl _)
            have HC6 := Lib.hid (write_fi (b := true) (x := F1) (j := j) (j : Int) a3 n3 c3 w.heap.size l3 HR3.out.2.2 hd6 hr6 HR3.out.2.1 (hfi true) (.inr rfl))
            have HB6 := Lib.hid hB6
            clear hd6 hc6 hB6 hfi hj16 hr6
            go_wp2_with fail
            refine HC6.out.mono ?_
            rintro e w7 ⟨⟨v, rfl⟩, hd7, hc7⟩
            have H5 := Lib.hid (And.intro hd7 (HB6.out.trans (hc7.below H2.out.2.2.1 HB6.out.size))); clear hd7 hc7
            go_wp2_with fail
            go_loopw [18] (fun i wr => ∃ k : Nat, k ≤ 16 ∧ i = .int .i64 k ∧ (∃ d, DiskAt wr g gl mb d ∧ FI true F1 (Sec.of l3 HR3.out.2.2) j d) ∧ Below w.heap.size w wr) (fun i _ => 16 - (intOf i).toNat)
            case atStart => exact ⟨0, by omega, rfl, H5.out.1, H5.out.2⟩
            case round =>
              obtain ⟨k, hk, rfl, ⟨d, hd, hfi⟩, hb⟩ := hrel
              by_cases hlt : k < 16
              · have g3 : (k : Int) < 16 := by omega
                by_cases hkj : k = j
                · have g4 : ((k : Int) == (j : Int)) = true := by rw [hkj]; simp
                  have H6 := Lib.hid (And.intro (show ∃ d, DiskAt wr g gl mb d ∧ FI true F1 (Sec.of l3 HR3.out.2.2) j d from ⟨d, hd, hfi⟩) hb)
                  clear hd hfi hb hkj
                  go_wp2_with fail
                  go_roundw
                  case rel => exact ⟨k + 1, by omega, by go_num, H6.out.1, H6.out.2⟩
                  case measure => simp [intOf]; omega
                · have g4 : ((k : Int) == (j : Int)) = false := by simp; omega
                  have hrr : Rd wr w.heap.size a3 (bv l3) := HR3.out.1.below hb (Nat.le_refl _)
                  have HC := Lib.hid (write_fi (b := true) (x := F1) (j := j) (k : Int) a3 n3 c3 w.heap.size l3 HR3.out.2.2 hd hrr HR3.out.2.1 hfi (.inl (by omega)))
                  have HB := Lib.hid hb
                  clear hd hfi hb hrr hkj
                  go_wp2_with fail
                  refine HC.out.mono ?_
                  rintro e w6 ⟨⟨v, rfl⟩, hd6, hc6⟩
                  have H6 := Lib.hid (And.intro hd6 (HB.out.trans (hc6.below H2.out.2.2.1 HB.out.size))); clear hd6 hc6
                  go_wp2_with fail
                  go_roundw
                  case rel => exact ⟨k + 1, by omega, by go_num, H6.out.1, H6.out.2⟩
                  case measure => simp [intOf]; omega
              · obtain rfl : k = 16 := by omega
                have hr5 : Rd wr w.heap.size a5 (tv l5) := HR5.out.1.below hb (Nat.le_refl _)
                have HCr := Lib.hid (crash_any l5 a5 n5 c5 w.heap.size hd hr5 HR5.out.2 hb.size)
                have HF := Lib.hid (And.intro hfi hb)
                clear hd hfi hb hr5
                go_wp2_with fail
                refine HCr.out.mono ?_
                rintro e w6 ⟨rfl, hd6, hc6⟩
                obtain ⟨r, hor, hrd⟩ := read_fi l5 HF.out.1.2.1 HF.out.1 hd6
                have HRd := Lib.hid hrd
                have H6 := Lib.hid (And.intro hd6 (HF.out.2.trans (hc6.below H2.out.2.2.1 HF.out.2.size)))
                have HOR := Lib.hid hor
                clear hd6 hc6 hrd hor
                go_wp2_with fail
                refine HRd.out.mono ?_
                rintro e w7 ⟨rfl, hk7, hb7⟩
                have hb07 := H6.out.2.trans (hb7.mono H6.out.2.size)
                have hr7 : Rd w7 w.heap.size a2 (bv l2) := HR2.out.1.below hb07 (Nat.le_refl _)
                have HFu := Lib.hid (full_any a2 n2 c2 w.heap.size l2 w7 hr7 HR2.out.2.1 (by omega))
                have H7 := Lib.hid (And.intro hk7 (And.intro (H6.out.1.below hb7) hb07))
                clear hk7 hb7 hb07 hr7
                go_wp2_with fail
                refine HFu.out.mono ?_
                rintro e w8 ⟨rfl, hb8⟩
                have HK := Lib.hid (And.intro (H7.out.1.below hb8 H7.out.1.lt) (And.intro (H7.out.2.1.below hb8) (H7.out.2.2.trans (hb8.mono H7.out.2.2.size))))
                clear hb8
                obtain ⟨S1, hS1⟩ : ∃ S : ByteArray, ⟨(full l2).toArray⟩ = S := ⟨_, rfl⟩
                obtain ⟨S2, hS2⟩ : ∃ S : ByteArray, ⟨r.l.toArray⟩ = S := ⟨_, rfl⟩
                rw [hS1]
                by_cases h12 : S2 = S1
                · subst h12
                  have HS := Lib.hid (And.intro hS2 True.intro)
                  clear hS1 hS2
                  go_wp2_with fail
                  refine wp_region_mono' (by kernel_rfl) (by kernel_rfl) ?_
                  iterate 27 (refine ex_det ?_; apply Exists.intro)
                  refine ex_nil ⟨?pers1, ?walk1⟩
                  case' walk1 =>
                    apply mwalk_det (by kernel_rfl) (by intro t w h; cases h; exact trivial) rfl
                    · intro W hW hF
                      go_wp2_with fail
                      refine (awake_any W).mono ?_
                      rintro e w9 ⟨rfl, hb⟩
                      have HB9 := Lib.hid hb; clear hb
                      go_wp2_with fail
                      exact ⟨rfl, _, rfl, hW.trans (HB9.out.mono hW.size), HB9.out, rfl⟩
                    simp only [Act.put, List.setIfInBounds_toArray, List.set_cons_zero, List.set_cons_succ]
                    iterate 6
                      apply mwalk_det (by kernel_rfl) (by intro t w h; cases h; exact trivial) rfl
                      · intro W hW hF
                        go_wp2_with fail
                        exact ⟨rfl, _, rfl, hW, Below.refl _ _, rfl⟩
                      simp only [Act.put, List.setIfInBounds_toArray, List.set_cons_zero, List.set_cons_succ]
                    apply mwalk_det (by kernel_rfl) (by intro t w h; cases h; exact trivial) rfl
                    · intro W hW hF
                      have hcvW := conv_rd (P := Try.prog) W 32 9 5 Try.underlying32 Try.underlying5 Try.underlying9 _ _ 64 64 r.l (HK.out.1.below hW HK.out.1.lt).rd r.h
                      rw [HS.out.1] at hcvW
                      go_wp2_with fail
                      exact ⟨rfl, _, rfl, hW, Below.refl _ _, rfl⟩
                    simp only [Act.put, List.setIfInBounds_toArray, List.set_cons_zero, List.set_cons_succ]
                    iterate 15
                      apply mwalk_det (by kernel_rfl) (by intro t w h; cases h; exact trivial) rfl
                      · intro W hW hF
                        go_wp2_with fail
                        exact ⟨rfl, _, rfl, hW, Below.refl _ _, rfl⟩
                      simp only [Act.put, List.setIfInBounds_toArray, List.set_cons_zero, List.set_cons_succ]
                    apply mwalk_det (by kernel_rfl) (by intro t w h; cases h; exact trivial) rfl
                    · intro W hW hF
                      have hdW := down_any (HK.out.2.1.below hW)
                      rw [Dk.crash_down] at hdW
                      have HdW := Lib.hid hdW; clear hdW
                      go_wp2_with fail
                      refine HdW.out.mono ?_
                      rintro e w9 ⟨rfl, hw⟩
                      subst hw
                      go_wp2_with fail
                      exact ⟨rfl, _, rfl, hW, Below.refl _ _, rfl⟩
                    simp only [Act.put, List.setIfInBounds_toArray, List.set_cons_zero, List.set_cons_succ]
                    iterate 3
                      apply mwalk_det (by kernel_rfl) (by intro t w h; cases h; exact trivial) rfl
                      · intro W hW hF
                        go_wp2_with fail
                        exact ⟨rfl, _, rfl, hW, Below.refl _ _, rfl⟩
                      simp only [Act.put, List.setIfInBounds_toArray, List.set_cons_zero, List.set_cons_succ]
                    intro W hW hF
                    have HW := Lib.hid (HK.out.2.2.trans (hW.mono HK.out.2.2.size))
                    clear hW
                  case pers1 => exact ⟨pers_isV _, pers_isV _, pers_isV _, pers_isV _, pers_isV _, pers_isV _, pers_isV _, pers_isV _, pers_isV _, pers_isV _, pers_isV _, pers_isV _, pers_isV _, pers_isV _, pers_isV _, pers_isV _, pers_isV _, pers_isV _, pers_isV _, pers_isV _, pers_isV _, pers_isV _, pers_isV _, pers_isV _, pers_isV _, pers_isV _, pers_isV _, trivial⟩
                  go_wp2_with fail
                  go_ret
                  exact ⟨rfl, HW.out⟩
                · have h23 : r = Sec.of l3 HR3.out.2.2 := by
                    rcases HOR.out with h | h
                    · exact absurd (by rw [← hS1, ← hS2, h, HF1.out]; rfl) h12
                    · exact h.2
                  have HS := Lib.hid (And.intro hS2 (show (⟨(full l3).toArray⟩ : ByteArray) = S2 by rw [← hS2, h23]; rfl))
                  have hne : (S2.toList == S1.toList) = false := by
                    rw [ByteArray.toList_eq, ByteArray.toList_eq]
                    simp only [beq_eq_false_iff_ne, ne_eq]
                    intro h
                    exact h12 (ba_ext h)
                  clear hS1 hS2 h12 h23
                  go_wp2_with fail
                  refine wp_region_mono' (by kernel_rfl) (by kernel_rfl) ?_
                  iterate 27 (refine ex_det ?_; apply Exists.intro)
                  refine ex_nil ⟨?pers2, ?walk2⟩
                  case' walk2 =>
                    apply mwalk_det (by kernel_rfl) (by intro t w h; cases h; exact trivial) rfl
                    · intro W hW hF
                      go_wp2_with fail
                      refine (awake_any W).mono ?_
                      rintro e w9 ⟨rfl, hb⟩
                      have HB9 := Lib.hid hb; clear hb
                      go_wp2_with fail
                      exact ⟨rfl, _, rfl, hW.trans (HB9.out.mono hW.size), HB9.out, rfl⟩
                    simp only [Act.put, List.setIfInBounds_toArray, List.set_cons_zero, List.set_cons_succ]
                    iterate 6
                      apply mwalk_det (by kernel_rfl) (by intro t w h; cases h; exact trivial) rfl
                      · intro W hW hF
                        go_wp2_with fail
                        exact ⟨rfl, _, rfl, hW, Below.refl _ _, rfl⟩
                      simp only [Act.put, List.setIfInBounds_toArray, List.set_cons_zero, List.set_cons_succ]
                    apply mwalk_det (by kernel_rfl) (by intro t w h; cases h; exact trivial) rfl
                    · intro W hW hF
                      have hcvW := conv_rd (P := Try.prog) W 32 9 5 Try.underlying32 Try.underlying5 Try.underlying9 _ _ 64 64 r.l (HK.out.1.below hW HK.out.1.lt).rd r.h
                      rw [HS.out.1] at hcvW
                      go_wp2_with fail
                      exact ⟨rfl, _, rfl, hW, Below.refl _ _, rfl⟩
                    simp only [Act.put, List.setIfInBounds_toArray, List.set_cons_zero, List.set_cons_succ]
                    iterate 6
                      apply mwalk_det (by kernel_rfl) (by intro t w h; cases h; exact trivial) rfl
                      · intro W hW hF
                        go_wp2_with fail
                        exact ⟨rfl, _, rfl, hW, Below.refl _ _, rfl⟩
                      simp only [Act.put, List.setIfInBounds_toArray, List.set_cons_zero, List.set_cons_succ]
                    apply mwalk_det (by kernel_rfl) (by intro t w h; cases h; exact trivial) rfl
                    · intro W hW hF
                      have hcvW := conv_rd (P := Try.prog) W 32 9 5 Try.underlying32 Try.underlying5 Try.underlying9 _ _ 64 64 r.l (HK.out.1.below hW HK.out.1.lt).rd r.h
                      rw [HS.out.1] at hcvW
                      go_wp2_with fail
                      exact ⟨rfl, _, rfl, hW, Below.refl _ _, rfl⟩
                    simp only [Act.put, List.setIfInBounds_toArray, List.set_cons_zero, List.set_cons_succ]
                    iterate 1
                      apply mwalk_det (by kernel_rfl) (by intro t w h; cases h; exact trivial) rfl
                      · intro W hW hF
                        go_wp2_with fail
                        exact ⟨rfl, _, rfl, hW, Below.refl _ _, rfl⟩
                      simp only [Act.put, List.setIfInBounds_toArray, List.set_cons_zero, List.set_cons_succ]
                    apply mwalk_det (by kernel_rfl) (by intro t w h; cases h; exact trivial) rfl
                    · intro W hW hF
                      have hrW := HR3.out.1.below (HK.out.2.2.trans (hW.mono HK.out.2.2.size)) (Nat.le_refl _)
                      have hfW := full_any a3 n3 c3 w.heap.size l3 W hrW HR3.out.2.1 (by omega)
                      rw [HS.out.2] at hfW
                      have HfW := Lib.hid hfW; clear hfW hrW
                      go_wp2_with fail
                      refine HfW.out.mono ?_
                      rintro e w9 ⟨rfl, hb⟩
                      have HB9 := Lib.hid hb; clear hb
                      go_wp2_with fail
                      exact ⟨rfl, _, rfl, hW.trans (HB9.out.mono hW.size), HB9.out, rfl⟩
                    simp only [Act.put, List.setIfInBounds_toArray, List.set_cons_zero, List.set_cons_succ]
                    iterate 6
                      apply mwalk_det (by kernel_rfl) (by intro t w h; cases h; exact trivial) rfl
                      · intro W hW hF
                        go_wp2_with fail
                        exact ⟨rfl, _, rfl, hW, Below.refl _ _, rfl⟩
                      simp only [Act.put, List.setIfInBounds_toArray, List.set_cons_zero, List.set_cons_succ]
                    apply mwalk_det (by kernel_rfl) (by intro t w h; cases h; exact trivial) rfl
                    · intro W hW hF
                      have hdW := down_any (HK.out.2.1.below hW)
                      rw [Dk.crash_down] at hdW
                      have HdW := Lib.hid hdW; clear hdW
                      go_wp2_with fail
                      refine HdW.out.mono ?_
                      rintro e w9 ⟨rfl, hw⟩
                      subst hw
                      go_wp2_with fail
                      exact ⟨rfl, _, rfl, hW, Below.refl _ _, rfl⟩
                    simp only [Act.put, List.setIfInBounds_toArray, List.set_cons_zero, List.set_cons_succ]
                    iterate 3
                      apply mwalk_det (by kernel_rfl) (by intro t w h; cases h; exact trivial) rfl
                      · intro W hW hF
                        go_wp2_with fail
                        exact ⟨rfl, _, rfl, hW, Below.refl _ _, rfl⟩
                      simp only [Act.put, List.setIfInBounds_toArray, List.set_cons_zero, List.set_cons_succ]
                    intro W hW hF
                    have HW := Lib.hid (HK.out.2.2.trans (hW.mono HK.out.2.2.size))
                    clear hW
                  case pers2 => exact ⟨pers_isV _, pers_isV _, pers_isV _, pers_isV _, pers_isV _, pers_isV _, pers_isV _, pers_isV _, pers_isV _, pers_isV _, pers_isV _, pers_isV _, pers_isV _, pers_isV _, pers_isV _, pers_isV _, pers_isV _, pers_isV _, pers_isV _, pers_isV _, pers_isV _, pers_isV _, pers_isV _, pers_isV _, pers_isV _, pers_isV _, pers_isV _, trivial⟩
                  go_wp2_with fail
                  go_ret
                  exact ⟨rfl, HW.out⟩
        · have HFl := Lib.hid (flush_down H5.out.1 hdn)
          go_wp2_with fail
          refine HFl.out.mono ?_
          rintro e w' ⟨rfl, hw⟩
          subst hw
          go_wp2_with fail
          refine (awake_any w5).mono ?_
          rintro e w8 ⟨rfl, hb8⟩
          have hdw := down_any (H5.out.1.below hb8)
          rw [hdn] at hdw
          have HDw := Lib.hid hdw
          have B8 := Lib.hid (H5.out.2.trans (hb8.mono H5.out.2.size))
          clear hdw hb8
          go_wp2_with fail
          refine HDw.out.mono ?_
          rintro e w' ⟨rfl, hw⟩
          subst hw
          go_wp2_with fail
          go_ret
          exact ⟨rfl, B8.out⟩

end Go.Proofs.Ytmddpjdgnamlnaa
namespace Go.Proofs.Ytmddpjdgnamlnaa.pdiskFlushed
open Go.ChangeShapes Go.WideShapes Go.ChangeAt Go.RowKit
open Go.ChangeMaps (open_string shut_string)

set_option linter.unusedVariables false in
set_option maxRecDepth 100000 in
theorem lifted (os : Os) (started : os.Started) (H : Type) (enc : TypeId × Value → H) :
    ReturnsInHanded {} Try.checked os 5 .any (Rows.pdiskFlushedSpec.pre6 enc Try.prog Try.f5 Rows.pdiskFlushedRow.domain false) (Rows.pdiskFlushedSpec.post enc Try.prog Try.f5 false true false false) := by
  refine returnsInHanded_of_change (C := Try.checked) own started (by kernel_rfl) Try.func5
    (ChangeSpec.witness6 (enc := enc) (C := Try.checked) false ⟨#[], #[.slice none 0 0, .int .i64 0, .slice none 0 0, .slice none 0 0, .bool false, .slice none 0 0], []⟩ 8 (by kernel_rfl) (by kernel_rfl) (by kernel_rfl) (by kernel_rfl)) ?_
  intro W base args ds gs before hval0 hW hcnd _
  have hval : ∀ (j : Nat) t v, Try.f5.params[j]? = some t → args[j]? = some v → Value.okWide Try.prog W .any base t v := hval0
  have hW' := hW
  obtain ⟨p, q, hA0, hV, rfl, hfz, hnd⟩ := hW
  have hA : DataW.TrodAll enc Try.prog W 0 (fun _ => true) true Try.f5.params.toList args.toList ds p := hA0
  rw [Try.params5] at hA hval
  obtain ⟨v0, vs0, d0, ds0, p0, q0, hargs, rfl, rfl, h0, r'0⟩ := trodAll_cons hA
  obtain ⟨v1, vs1, d1, ds1, p1, q1, rfl, rfl, rfl, h1, r'1⟩ := trodAll_cons r'0
  obtain ⟨v2, vs2, d2, ds2, p2, q2, rfl, rfl, rfl, h2, r'2⟩ := trodAll_cons r'1
  obtain ⟨v3, vs3, d3, ds3, p3, q3, rfl, rfl, rfl, h3, r'3⟩ := trodAll_cons r'2
  obtain ⟨v4, vs4, d4, ds4, p4, q4, rfl, rfl, rfl, h4, r'4⟩ := trodAll_cons r'3
  obtain ⟨v5, vs5, d5, ds5, p5, q5, rfl, rfl, rfl, h5, r'5⟩ := trodAll_cons r'4
  obtain ⟨rfl, rfl, rfl⟩ := trodAll_nil r'5
  obtain rfl : args = #[v0, v1, v2, v3, v4, v5] := by cases args; simp_all
  obtain ⟨rfl, rfl⟩ := trodVars_none hV
  have k0 := h0
  have lt0 : ∀ x ∈ p0, x.block < W.heap.size := by obtain ⟨m, hm⟩ := k0; exact DataW.trod_lt m _ _ _ hm
  obtain ⟨a0, n0, c0, rfl⟩ := okWide_slice Try.underlying22 (hval 0 22 v0 rfl rfl)
  obtain ⟨l0, r0, e0, b0, m0, o0⟩ := openDos h0
  have k1 := h1
  have lt1 : ∀ x ∈ p1, x.block < W.heap.size := by obtain ⟨m, hm⟩ := k1; exact DataW.trod_lt m _ _ _ hm
  obtain ⟨x1, rfl, rfl, rfl, f1⟩ := open_int Try.underlying3 (hval 1 3 v1 rfl rfl) h1
  have k2 := h2
  have lt2 : ∀ x ∈ p2, x.block < W.heap.size := by obtain ⟨m, hm⟩ := k2; exact DataW.trod_lt m _ _ _ hm
  obtain ⟨a2, n2, c2, rfl⟩ := okWide_slice Try.underlying32 (hval 2 32 v2 rfl rfl)
  obtain ⟨l2, r2, e2, b2, m2⟩ := openBytes Try.underlying32 Try.underlying5 (by kernel_rfl) h2
  have k3 := h3
  have lt3 : ∀ x ∈ p3, x.block < W.heap.size := by obtain ⟨m, hm⟩ := k3; exact DataW.trod_lt m _ _ _ hm
  obtain ⟨a3, n3, c3, rfl⟩ := okWide_slice Try.underlying32 (hval 3 32 v3 rfl rfl)
  obtain ⟨l3, r3, e3, b3, m3⟩ := openBytes Try.underlying32 Try.underlying5 (by kernel_rfl) h3
  have k4 := h4
  have lt4 : ∀ x ∈ p4, x.block < W.heap.size := by obtain ⟨m, hm⟩ := k4; exact DataW.trod_lt m _ _ _ hm
  obtain ⟨t4, rfl, rfl, rfl⟩ := open_bool Try.underlying4 (hval 4 4 v4 rfl rfl) h4
  have k5 := h5
  have lt5 : ∀ x ∈ p5, x.block < W.heap.size := by obtain ⟨m, hm⟩ := k5; exact DataW.trod_lt m _ _ _ hm
  obtain ⟨a5, n5, c5, rfl⟩ := okWide_slice Try.underlying33 (hval 5 33 v5 rfl rfl)
  obtain ⟨l5, r5, e5, b5, m5⟩ := openBools h5
  clear hA0 hval0
  refine (pdiskFlushed_walk a0 n0 c0 l0 x1 a2 n2 c2 l2 a3 n3 c3 l3 t4 a5 n5 c5 l5 W r0 e0 b0 m0 o0 f1 r2 e2 b2 m2 r3 e3 b3 m3 r5 e5 b5 m5).mono fun e W' ⟨he, bel⟩ => ?_
  subst he
  exact ⟨_, rfl, _, _, _, [], _, [], hW', trodAll_mk1 (shut_bool Try.underlying4 _), (trodAll_cons_mk (Below.trod laidOut (by kernel_rfl) (of_decide_eq_true (by kernel_rfl)) k0 bel lt0) (trodAll_cons_mk (Below.trod laidOut (by kernel_rfl) (of_decide_eq_true (by kernel_rfl)) k1 bel lt1) (trodAll_cons_mk (Below.trod laidOut (by kernel_rfl) (of_decide_eq_true (by kernel_rfl)) k2 bel lt2) (trodAll_cons_mk (Below.trod laidOut (by kernel_rfl) (of_decide_eq_true (by kernel_rfl)) k3 bel lt3) (trodAll_cons_mk (Below.trod laidOut (by kernel_rfl) (of_decide_eq_true (by kernel_rfl)) k4 bel lt4) (trodAll_cons_mk (Below.trod laidOut (by kernel_rfl) (of_decide_eq_true (by kernel_rfl)) k5 bel lt5) trodAll_mk0)))))), rfl, bel.frame _, fun h => by cases h⟩

theorem over : Rows.pdiskFlushedRow.holds Try.pinned (OpenSpec.ofChange Rows.pdiskFlushedSpec) :=
  OpenClaim.holds_of_wide 5 Try.f5 rfl rfl rfl rfl rfl rfl rfl ⟨rfl, rfl, rfl, rfl, rfl⟩ rfl rfl rfl rfl rfl (by kernel_rfl) Try.func5 (by kernel_rfl)
    (of_decide_eq_true (by kernel_rfl)) (by unfold Func.isWrapper; first | (rw [if_pos (by decide +kernel)]; kernel_rfl) | (rw [if_neg (by decide +kernel)]; exact ⟨rfl, rfl⟩))
    (fun os started H enc _ => lifted os started H enc)

/-- The statement. -/
theorem proved : Rows.PdiskFlushedSaid := over
#print axioms proved
end Go.Proofs.Ytmddpjdgnamlnaa.pdiskFlushed
