/- CodeOne: what is read and put anew is the same bytes.. No condition. -/
import Derived.Test.YtlipnncbpbbdnaaBack
import Derived.Test.YtlipnncbpbbdnaaMono
import Derived.Test.YtlipnncbpbbdnaaOpen
namespace Go.Proofs.Ytlipnncbpbbdnaa
open Go.RowKit

/-- A reader that nobody has asked: its block holds the slice as it was given. -/
def Fresh (w : World) (g : Nat) (A : Option Addr) (n c : Nat) : Prop := w.heap[g]? = some (.cells #[.slice A n c] 58 (0, 0))
theorem Fresh.lt {w : World} {g : Nat} {A : Option Addr} {n c : Nat} (h : Fresh w g A n c) : g < w.heap.size := (Array.getElem?_eq_some_iff.1 h).1
theorem Fresh.below {w w' : World} {g : Nat} {A : Option Addr} {n c : Nat} (h : Fresh w g A n c) (hb : Below w.heap.size w w') : Fresh w' g A n c := by
  unfold Fresh
  rw [hb.block g h.lt]
  exact h
theorem Fresh.keep {w w' : World} {g x : Nat} {A : Option Addr} {n c : Nat} (h : Fresh w g A n c) (hb : w.grownBy w' (some x)) (hne : x ≠ g) : Fresh w' g A n c := by
  unfold Fresh
  rw [hb.block g h.lt (fun e => hne (by injection e with e; exact e.symm))]
  exact h
theorem Fresh.holds {w0 w : World} {g : Nat} {A : Option Addr} {n c : Nat} {l : List UInt8} (h : Fresh w g A n c) (hb : Below w0.heap.size w0 w) (hr : Rd w0 w0.heap.size A (bv l)) (hg : w0.heap.size ≤ g) (hl : l.length = n) (hc : n ≤ c) (hm : c ≤ maxLen) : Holds w g l :=
  ⟨A, n, c, h, (hr.below hb (Nat.le_refl _)).more hg, hl, hc, hm⟩
theorem new_fresh (A : Option Addr) (n c : Nat) (w : World) :
    Calls Try.prog 21 #[.slice A n c] w fun e w' => ∃ g, e = .returned (.pointer (some ⟨g, 0, none⟩)) ∧ w.heap.size ≤ g ∧ Fresh w' g A n c ∧ Below w.heap.size w w' := by
  go_enter Try.func21, Try.ntmps21
  go_wp2_with fail
  go_ret
  exact ⟨w.heap.size, rfl, Nat.le_refl _, heap_alloc_new w _, (Below.refl _ _).alloc (Nat.le_refl _) _⟩
/-- A slice that reads as the eight bytes of n. -/
def Word8 (n : Int) : Value → World → Prop := fun v w => ∃ A c, v = .slice A 8 c ∧ ∃ w1, Rd w1 w1.heap.size A (bv (beN 8 (word n))) ∧ Below w1.heap.size w1 w
theorem pers_word8 (n : Int) : Pers (Word8 n) := by
  rintro v w w' ⟨A, c, e, w1, hr, hb⟩ hb'
  exact ⟨A, c, e, w1, hr, hb.trans (hb'.mono hb.size)⟩
theorem conv_later {A : Option Addr} {n : Int} {w1 : World} (hr : Rd w1 w1.heap.size A (bv (beN 8 (word n)))) (c : Nat) : ∀ W, Below w1.heap.size w1 W →
    Sem.run Try.prog (convert 22 9 (.slice A 8 c)) W = .ok (.string ⟨(beN 8 (word n)).toArray⟩) W := fun W hb =>
  conv_rd (P := Try.prog) W 22 9 5 Try.underlying22 Try.underlying5 Try.underlying9 _ A 8 c _ (hr.below hb (Nat.le_refl _)) (by simp [beN, beP])
theorem putInt_nil (n : Int) (w : World) : Calls Try.prog 19 #[.slice none 0 0, .int .i64 n] w fun e w' => ∃ A c, e = .returned (.slice A 8 c) ∧ Rd w' w'.heap.size A (bv (beN 8 (word n))) ∧ Below w.heap.size w w' := by
  refine (putInt_any none 0 0 [] n w Rd.nil rfl (by omega)).mono ?_
  rintro e w' ⟨v, rfl, hown, hb⟩
  rw [← bv_append, List.nil_append] at hown
  obtain ⟨A, c, rfl, hr, _⟩ := own_rd hown
  exact ⟨A, c, rfl, hr, hb⟩

set_option linter.unusedVariables false in
set_option maxRecDepth 40000 in
set_option maxHeartbeats 1600000 in
theorem codeOne_walk (a0 : Option Addr) (n0 c0 : Nat) (l0 : List UInt8) (w : World) (r0 : Rd w w.heap.size a0 (bv l0)) (e0 : l0.length = n0) (b0 : n0 ≤ c0) (m0 : c0 ≤ maxLen) :
    Calls Try.prog 11 #[.slice a0 n0 c0] w fun e w' => e = .returned (.bool true) ∧ Below w.heap.size w w' := by
  have z0 : c0 ≤ 9223372036854775807 := by unfold maxLen at m0; omega
  by_cases hlong : 262144 < n0
  · go_enter Try.func11, Try.ntmps11
    go_wp2_with fail
    go_ret
    exact ⟨rfl, Below.refl _ _⟩
  have hn : n0 ≤ 262144 := by omega
  clear hlong
  have H0 := Lib.hid (And.intro r0 (And.intro e0 m0)); clear r0 e0 m0
  have hcv0 : ∀ (W : World) (k : Nat), Below w.heap.size w W → k ≤ n0 → Sem.run Try.prog (convert 22 9 (.slice a0 k c0)) W = .ok (.string ⟨(l0.take k).toArray⟩) W := fun W k hb hk =>
    conv_rd (P := Try.prog) W 22 9 5 Try.underlying22 Try.underlying5 Try.underlying9 w.heap.size a0 k c0 (l0.take k) (by rw [← bv_take]; exact (H0.out.1.below hb (Nat.le_refl _)).take k) (by rw [List.length_take, H0.out.2.1]; omega)
  have HCV := Lib.hid hcv0; clear hcv0
  go_enter Try.func11, Try.ntmps11
  go_wp2_with fail
  refine (new_fresh a0 n0 c0 w).mono ?_
  rintro e w1 ⟨g1, rfl, hg1, hf1, hb1⟩
  have l1 := hf1.lt
  have F1 := Lib.hid hf1
  have B1 := Lib.hid hb1; clear hf1 hb1
  go_wp2_with fail
  refine (new_fresh a0 n0 c0 w1).mono ?_
  rintro e w2 ⟨g2, rfl, hg2, hf2, hb2⟩
  have l2 := hf2.lt
  have F12 := Lib.hid (F1.out.below hb2)
  have F2 := Lib.hid hf2
  have B2 := Lib.hid (B1.out.trans (hb2.mono B1.out.size)); clear hf2 hb2
  go_wp2_with fail
  refine (new_fresh a0 n0 c0 w2).mono ?_
  rintro e w3 ⟨g3, rfl, hg3, hf3, hb3⟩
  have F13 := Lib.hid (F12.out.below hb3)
  have F23 := Lib.hid (F2.out.below hb3)
  have F33 := Lib.hid hf3
  have B3 := Lib.hid (B2.out.trans (hb3.mono B2.out.size)); clear hf3 hb3
  have h12 : g1 < g2 := by omega
  have h23 : g2 < g3 := by omega
  have hg2' : w.heap.size ≤ g2 := by omega
  have hg3' : w.heap.size ≤ g3 := by omega
  clear hg2 hg3 l1 l2
  have c1 := text_any g1 l0 w3 (F13.out.holds B3.out H0.out.1 hg1 H0.out.2.1 b0 H0.out.2.2)
  have T1 := Lib.hid (text_one l0)
  obtain ⟨t, k, er, ht⟩ : ∃ t k er, text l0 = (t, k, er) := ⟨_, _, _, rfl⟩
  rw [ht] at c1 T1
  clear ht
  have C1 := Lib.hid c1; clear c1
  go_wp2_with fail
  refine Calls.mono C1.out ?_
  rintro e w4 ⟨rfl, hh, hgr⟩
  have B4 := Lib.hid (below_row B3.out hgr hg1 B3.out.size)
  have F24 := Lib.hid (F23.out.keep hgr (by omega))
  have F34 := Lib.hid (F33.out.keep hgr (by omega))
  have HH4 := Lib.hid hh; clear hh hgr
  go_upto_if 39 with fail
  go_cut [8, 9] (fun s8 s9 wx => Fresh wx g2 a0 n0 c0 ∧ Fresh wx g3 a0 n0 c0 ∧ Below w.heap.size w wx)
  case first =>
    by_cases he : er = 0
    · subst he
      obtain ⟨t1, t2, t3, t4⟩ := T1.out rfl
      have hkn : k ≤ n0 := by have := H0.out.2.1; omega
      rw [← t2] at t4
      have T4 := Lib.hid t4
      clear t2 t3 t4
      go_wp2_with fail
      refine (putText_ok none 0 0 [] t w4 Rd.nil rfl (by omega) t1).mono ?_
      rintro e w5 ⟨v, rfl, hown, hb5⟩
      rw [← bv_append, ← bv_append, List.nil_append, T4.out] at hown
      obtain ⟨A5, c5, rfl, hr5, hl5, _, _⟩ := own_rd hown
      have hcvA : ∀ W, Below w5.heap.size w5 W → Sem.run Try.prog (convert 22 9 (.slice A5 (0 + 4 + t.size) c5)) W = .ok (.string ⟨(l0.take k).toArray⟩) W := fun W hb =>
        conv_rd (P := Try.prog) W 22 9 5 Try.underlying22 Try.underlying5 Try.underlying9 _ A5 _ c5 _ (hr5.below hb (Nat.le_refl _)) hl5
      have B5 := Lib.hid (B4.out.trans (hb5.mono B4.out.size))
      have hcvB : ∀ W, Below w5.heap.size w5 W → Sem.run Try.prog (convert 22 9 (.slice a0 k c0)) W = .ok (.string ⟨(l0.take k).toArray⟩) W := fun W hb => HCV.out W k (B5.out.trans (hb.mono B5.out.size)) hkn
      have F25 := Lib.hid (F24.out.below hb5)
      have F35 := Lib.hid (F34.out.below hb5)
      have hleft : ∀ W, Below w5.heap.size w5 W → Calls Try.prog 28 #[.pointer (some ⟨g1, 0, none⟩)] W fun e w' => e = .returned (.int .i64 ((n0 : Int) - (k : Int))) ∧ W = w' := fun W hb => by
        have h9 := left_any g1 _ W ((HH4.out.below hb5).below hb)
        have e9 : (((l0.drop k).length : Nat) : Int) = (n0 : Int) - (k : Int) := by rw [List.length_drop, H0.out.2.1]; omega
        rw [e9] at h9
        exact h9
      have hcvA := Lib.hid hcvA
      have hcvB := Lib.hid hcvB
      have hleft := Lib.hid hleft
      clear hown hr5 hl5 hb5
      go_upto_region 11 with fail
      refine wp_region_mono' (by kernel_rfl) (by kernel_rfl) ?_
      iterate 15 (refine ex_det ?_; apply Exists.intro)
      refine ex_nil ⟨?pers, ?walk⟩
      case walk =>
        iterate 4
          apply mwalk_det (by kernel_rfl) (by intro t w h; cases h; exact trivial) rfl
          · intro W hW hF
            go_wp2_with fail
            exact ⟨rfl, _, rfl, hW, Below.refl _ _, rfl⟩
          simp only [Act.put, List.setIfInBounds_toArray, List.set_cons_zero, List.set_cons_succ]
        apply mwalk_det (by kernel_rfl) (by intro t w h; cases h; exact trivial) rfl
        · intro W hW hF
          have hcv := hcvA.out W hW
          go_wp2_with fail
          exact ⟨rfl, _, rfl, hW, Below.refl _ _, rfl⟩
        simp only [Act.put, List.setIfInBounds_toArray, List.set_cons_zero, List.set_cons_succ]
        iterate 4
          apply mwalk_det (by kernel_rfl) (by intro t w h; cases h; exact trivial) rfl
          · intro W hW hF
            go_wp2_with fail
            exact ⟨rfl, _, rfl, hW, Below.refl _ _, rfl⟩
          simp only [Act.put, List.setIfInBounds_toArray, List.set_cons_zero, List.set_cons_succ]
        apply mwalk_det (by kernel_rfl) (by intro t w h; cases h; exact trivial) rfl
        · intro W hW hF
          have hlf := Lib.hid (hleft.out W hW)
          go_wp2_with fail
          refine Calls.mono hlf.out ?_
          rintro e w9 ⟨rfl, rfl⟩
          go_wp2_with fail
          exact ⟨rfl, _, rfl, hW, Below.refl _ _, rfl⟩
        simp only [Act.put, List.setIfInBounds_toArray, List.set_cons_zero, List.set_cons_succ]
        apply mwalk_det (by kernel_rfl) (by intro t w h; cases h; exact trivial) rfl
        · intro W hW hF
          go_wp2_with fail
          exact ⟨rfl, _, rfl, hW, Below.refl _ _, ret_i (show _ = ((k : Nat) : Int) by omega)⟩
        simp only [Act.put, List.setIfInBounds_toArray, List.set_cons_zero, List.set_cons_succ]
        iterate 1
          apply mwalk_det (by kernel_rfl) (by intro t w h; cases h; exact trivial) rfl
          · intro W hW hF
            go_wp2_with fail
            exact ⟨rfl, _, rfl, hW, Below.refl _ _, rfl⟩
          simp only [Act.put, List.setIfInBounds_toArray, List.set_cons_zero, List.set_cons_succ]
        apply mwalk_det (by kernel_rfl) (by intro t w h; cases h; exact trivial) rfl
        · intro W hW hF
          have hcv := hcvB.out W hW
          go_wp2_with fail
          exact ⟨rfl, _, rfl, hW, Below.refl _ _, rfl⟩
        simp only [Act.put, List.setIfInBounds_toArray, List.set_cons_zero, List.set_cons_succ]
        iterate 2
          apply mwalk_det (by kernel_rfl) (by intro t w h; cases h; exact trivial) rfl
          · intro W hW hF
            go_wp2_with fail
            exact ⟨rfl, _, rfl, hW, Below.refl _ _, rfl⟩
          simp only [Act.put, List.setIfInBounds_toArray, List.set_cons_zero, List.set_cons_succ]
        intro W hW hF
        have HW := Lib.hid hW
        clear hW
        go_wp2_with fail
        go_meet
        exact ⟨F25.out.below HW.out, F35.out.below HW.out, B5.out.trans (HW.out.mono B5.out.size)⟩
      case pers => exact ⟨pers_isV _, pers_isV _, pers_isV _, pers_isV _, pers_isV _, pers_isV _, pers_isV _, pers_isV _, pers_isV _, pers_isV _, pers_isV _, pers_isV _, pers_isV _, pers_isV _, pers_isV _, trivial⟩
    · have he' : (er == 0) = false := by simpa using he
      clear he
      go_wp2_with fail
      go_meet
      exact ⟨F24.out, F34.out, B4.out⟩
  case rest =>
    obtain ⟨hf2, hf3, hbx⟩ := hcut
    clear C1 T1 HH4 F24 F34 B4 F13 F23 F33 B3 F12 F2 B2 F1 B1
    have F2 := Lib.hid hf2
    have F3 := Lib.hid hf3
    have BX := Lib.hid hbx
    clear hf2 hf3 hbx
    have c1 := number_any g2 l0 _ (F2.out.holds BX.out H0.out.1 hg2' H0.out.2.1 b0 H0.out.2.2)
    have T1 := Lib.hid (num_one l0)
    obtain ⟨t, k, er, ht⟩ : ∃ t k er, num l0 = (t, k, er) := ⟨_, _, _, rfl⟩
    rw [ht] at c1 T1
    clear ht
    have C1 := Lib.hid c1; clear c1
    go_wp2_with fail
    refine Calls.mono C1.out ?_
    rintro e w4 ⟨rfl, hh, hgr⟩
    have B4 := Lib.hid (below_row BX.out hgr hg2' BX.out.size)
    have F34 := Lib.hid (F3.out.keep hgr (by omega))
    have HH4 := Lib.hid hh; clear hh hgr
    go_upto_if 66 with fail
    go_cut [11, 12] (fun s8 s9 wx => Fresh wx g3 a0 n0 c0 ∧ Below w.heap.size w wx)
    case first =>
      by_cases he : er = 0
      · subst he
        obtain ⟨t1, t2, u, t3, t5, t4⟩ := T1.out rfl
        have t1' : k = 4 := t1
        have t5' : t = (u : Int) := t5
        subst t1' t5'
        clear t1 t5
        have hkn : 4 ≤ n0 := by have := H0.out.2.1; omega
        have T4 := Lib.hid t4
        clear t2 t4
        go_wp2_with fail
        refine (putNumber_ok none 0 0 [] u w4 Rd.nil rfl (by omega) t3).mono ?_
        rintro e w5 ⟨v, rfl, hown, hb5⟩
        rw [← bv_append, List.nil_append, T4.out] at hown
        obtain ⟨A5, c5, rfl, hr5, hl5, _, _⟩ := own_rd hown
        have hcvA : ∀ W, Below w5.heap.size w5 W → Sem.run Try.prog (convert 22 9 (.slice A5 (0 + 4) c5)) W = .ok (.string ⟨(l0.take 4).toArray⟩) W := fun W hb =>
          conv_rd (P := Try.prog) W 22 9 5 Try.underlying22 Try.underlying5 Try.underlying9 _ A5 _ c5 _ (hr5.below hb (Nat.le_refl _)) hl5
        have B5 := Lib.hid (B4.out.trans (hb5.mono B4.out.size))
        have hcvB : ∀ W, Below w5.heap.size w5 W → Sem.run Try.prog (convert 22 9 (.slice a0 4 c0)) W = .ok (.string ⟨(l0.take 4).toArray⟩) W := fun W hb => HCV.out W 4 (B5.out.trans (hb.mono B5.out.size)) hkn
        have F35 := Lib.hid (F34.out.below hb5)
        have hleft : ∀ W, Below w5.heap.size w5 W → Calls Try.prog 28 #[.pointer (some ⟨g2, 0, none⟩)] W fun e w' => e = .returned (.int .i64 ((n0 : Int) - 4)) ∧ W = w' := fun W hb => by
          have h9 := left_any g2 _ W ((HH4.out.below hb5).below hb)
          have e9 : (((l0.drop 4).length : Nat) : Int) = (n0 : Int) - 4 := by rw [List.length_drop, H0.out.2.1]; omega
          rw [e9] at h9
          exact h9
        have hcvA := Lib.hid hcvA
        have hcvB := Lib.hid hcvB
        have hleft := Lib.hid hleft
        clear hown hr5 hl5 hb5
        go_upto_region 16 with fail
        refine wp_region_mono' (by kernel_rfl) (by kernel_rfl) ?_
        iterate 15 (refine ex_det ?_; apply Exists.intro)
        refine ex_nil ⟨?pers, ?walk⟩
        case walk =>
          iterate 4
            apply mwalk_det (by kernel_rfl) (by intro t w h; cases h; exact trivial) rfl
            · intro W hW hF
              go_wp2_with fail
              exact ⟨rfl, _, rfl, hW, Below.refl _ _, rfl⟩
            simp only [Act.put, List.setIfInBounds_toArray, List.set_cons_zero, List.set_cons_succ]
          apply mwalk_det (by kernel_rfl) (by intro t w h; cases h; exact trivial) rfl
          · intro W hW hF
            have hcv := hcvA.out W hW
            go_wp2_with fail
            exact ⟨rfl, _, rfl, hW, Below.refl _ _, rfl⟩
          simp only [Act.put, List.setIfInBounds_toArray, List.set_cons_zero, List.set_cons_succ]
          iterate 4
            apply mwalk_det (by kernel_rfl) (by intro t w h; cases h; exact trivial) rfl
            · intro W hW hF
              go_wp2_with fail
              exact ⟨rfl, _, rfl, hW, Below.refl _ _, rfl⟩
            simp only [Act.put, List.setIfInBounds_toArray, List.set_cons_zero, List.set_cons_succ]
          apply mwalk_det (by kernel_rfl) (by intro t w h; cases h; exact trivial) rfl
          · intro W hW hF
            have hlf := Lib.hid (hleft.out W hW)
            go_wp2_with fail
            refine Calls.mono hlf.out ?_
            rintro e w9 ⟨rfl, rfl⟩
            go_wp2_with fail
            exact ⟨rfl, _, rfl, hW, Below.refl _ _, rfl⟩
          simp only [Act.put, List.setIfInBounds_toArray, List.set_cons_zero, List.set_cons_succ]
          apply mwalk_det (by kernel_rfl) (by intro t w h; cases h; exact trivial) rfl
          · intro W hW hF
            go_wp2_with fail
            exact ⟨rfl, _, rfl, hW, Below.refl _ _, ret_i (show _ = ((4 : Nat) : Int) by omega)⟩
          simp only [Act.put, List.setIfInBounds_toArray, List.set_cons_zero, List.set_cons_succ]
          iterate 1
            apply mwalk_det (by kernel_rfl) (by intro t w h; cases h; exact trivial) rfl
            · intro W hW hF
              go_wp2_with fail
              exact ⟨rfl, _, rfl, hW, Below.refl _ _, rfl⟩
            simp only [Act.put, List.setIfInBounds_toArray, List.set_cons_zero, List.set_cons_succ]
          apply mwalk_det (by kernel_rfl) (by intro t w h; cases h; exact trivial) rfl
          · intro W hW hF
            have hcv := hcvB.out W hW
            go_wp2_with fail
            exact ⟨rfl, _, rfl, hW, Below.refl _ _, rfl⟩
          simp only [Act.put, List.setIfInBounds_toArray, List.set_cons_zero, List.set_cons_succ]
          iterate 2
            apply mwalk_det (by kernel_rfl) (by intro t w h; cases h; exact trivial) rfl
            · intro W hW hF
              go_wp2_with fail
              exact ⟨rfl, _, rfl, hW, Below.refl _ _, rfl⟩
            simp only [Act.put, List.setIfInBounds_toArray, List.set_cons_zero, List.set_cons_succ]
          intro W hW hF
          have HW := Lib.hid hW
          clear hW
          go_wp2_with fail
          go_meet
          exact ⟨F35.out.below HW.out, B5.out.trans (HW.out.mono B5.out.size)⟩
        case pers => exact ⟨pers_isV _, pers_isV _, pers_isV _, pers_isV _, pers_isV _, pers_isV _, pers_isV _, pers_isV _, pers_isV _, pers_isV _, pers_isV _, pers_isV _, pers_isV _, pers_isV _, pers_isV _, trivial⟩
      · have he' : (er == 0) = false := by simpa using he
        clear he
        go_wp2_with fail
        go_meet
        exact ⟨F34.out, B4.out⟩
    case rest =>
      obtain ⟨hf3, hbx⟩ := hcut
      clear C1 T1 HH4 F34 B4 F2 F3 BX
      have F3 := Lib.hid hf3
      have BX := Lib.hid hbx
      clear hf3 hbx
      have c1 := int_any g3 l0 _ (F3.out.holds BX.out H0.out.1 hg3' H0.out.2.1 b0 H0.out.2.2)
      have T1 := Lib.hid (int_one l0)
      obtain ⟨t, k, er, ht⟩ : ∃ t k er, int l0 = (t, k, er) := ⟨_, _, _, rfl⟩
      rw [ht] at c1 T1
      clear ht
      have C1 := Lib.hid c1; clear c1
      go_wp2_with fail
      refine Calls.mono C1.out ?_
      rintro e w4 ⟨rfl, hh, hgr⟩
      have B4 := Lib.hid (below_row BX.out hgr hg3' BX.out.size)
      have HH4 := Lib.hid hh; clear hh hgr
      go_upto_region 19 with fail
      by_cases he : er = 0
      · subst he
        obtain ⟨t1, t2, t4⟩ := T1.out rfl
        have t1' : k = 8 := t1
        subst t1'
        have hkn : 8 ≤ n0 := by have := H0.out.2.1; omega
        have T4 := Lib.hid t4
        clear t1 t2 t4
        have hcvB : ∀ W, Below w4.heap.size w4 W → Sem.run Try.prog (convert 22 9 (.slice a0 8 c0)) W = .ok (.string ⟨(l0.take 8).toArray⟩) W := fun W hb => HCV.out W 8 (B4.out.trans (hb.mono B4.out.size)) hkn
        have hleft : ∀ W, Below w4.heap.size w4 W → Calls Try.prog 28 #[.pointer (some ⟨g3, 0, none⟩)] W fun e w' => e = .returned (.int .i64 ((n0 : Int) - 8)) ∧ W = w' := fun W hb => by
          have h9 := left_any g3 _ W (HH4.out.below hb)
          have e9 : (((l0.drop 8).length : Nat) : Int) = (n0 : Int) - 8 := by rw [List.length_drop, H0.out.2.1]; omega
          rw [e9] at h9
          exact h9
        have hcvB := Lib.hid hcvB
        have hleft := Lib.hid hleft
        clear C1 T1 HH4 h12 h23 hg2' hg3' F3 BX HCV hg1
        refine wp_region_mono' (by kernel_rfl) (by kernel_rfl) ?_
        iterate 9 (refine ex_det ?_; apply Exists.intro)
        refine ex_free (Word8 t) ?_
        iterate 13 (refine ex_det ?_; apply Exists.intro)
        refine ex_nil ⟨?pers, ?walk⟩
        case walk =>
          apply mwalk_det (by kernel_rfl) (by intro t w h; cases h; exact trivial) rfl
          · intro W hW hF
            go_wp2_with fail
            refine (puts_any _).mono ?_
            rintro e w9 ⟨rfl, hb⟩
            go_wp2_with fail
            exact ⟨rfl, _, rfl, hW.trans (hb.mono hW.size), hb, rfl⟩
          simp only [Act.put, List.setIfInBounds_toArray, List.set_cons_zero, List.set_cons_succ]
          iterate 1
            apply mwalk_det (by kernel_rfl) (by intro t w h; cases h; exact trivial) rfl
            · intro W hW hF
              go_wp2_with fail
              exact ⟨rfl, _, rfl, hW, Below.refl _ _, rfl⟩
            simp only [Act.put, List.setIfInBounds_toArray, List.set_cons_zero, List.set_cons_succ]
          apply mwalk_det (by kernel_rfl) (by intro t w h; cases h; exact trivial) rfl
          · intro W hW hF
            go_wp2_with fail
            refine (reads_any _).mono ?_
            rintro e w9 ⟨rfl, hb⟩
            go_wp2_with fail
            exact ⟨rfl, _, rfl, hW.trans (hb.mono hW.size), hb, rfl⟩
          simp only [Act.put, List.setIfInBounds_toArray, List.set_cons_zero, List.set_cons_succ]
          iterate 6
            apply mwalk_det (by kernel_rfl) (by intro t w h; cases h; exact trivial) rfl
            · intro W hW hF
              go_wp2_with fail
              exact ⟨rfl, _, rfl, hW, Below.refl _ _, rfl⟩
            simp only [Act.put, List.setIfInBounds_toArray, List.set_cons_zero, List.set_cons_succ]
          refine ⟨fun W hW hF => ?_, fun v101 => ?_⟩
          · go_wp2_with fail
            refine (putInt_nil t _).mono ?_
            rintro e w9 ⟨A, c, rfl, hr, hb⟩
            go_wp2_with fail
            exact ⟨rfl, _, rfl, hW.trans (hb.mono hW.size), hb, A, c, rfl, _, hr, Below.refl _ _⟩
          simp only [Act.put, List.setIfInBounds_toArray, List.set_cons_zero, List.set_cons_succ]
          apply mwalk_det (by kernel_rfl) (by intro t w h; cases h; exact trivial) rfl
          · intro W hW hF
            have f101 := hF 101 (of_decide_eq_true (by kernel_rfl))
            obtain ⟨A, c, rfl, w9, hr, hb⟩ := f101
            have hcv := conv_later hr c W hb
            rw [T4.out] at hcv
            go_wp2_with fail
            exact ⟨rfl, _, rfl, hW, Below.refl _ _, rfl⟩
          simp only [Act.put, List.setIfInBounds_toArray, List.set_cons_zero, List.set_cons_succ]
          iterate 4
            apply mwalk_det (by kernel_rfl) (by intro t w h; cases h; exact trivial) rfl
            · intro W hW hF
              go_wp2_with fail
              exact ⟨rfl, _, rfl, hW, Below.refl _ _, rfl⟩
            simp only [Act.put, List.setIfInBounds_toArray, List.set_cons_zero, List.set_cons_succ]
          apply mwalk_det (by kernel_rfl) (by intro t w h; cases h; exact trivial) rfl
          · intro W hW hF
            have hlf := Lib.hid (hleft.out W hW)
            go_wp2_with fail
            refine Calls.mono hlf.out ?_
            rintro e w9 ⟨rfl, rfl⟩
            go_wp2_with fail
            exact ⟨rfl, _, rfl, hW, Below.refl _ _, rfl⟩
          simp only [Act.put, List.setIfInBounds_toArray, List.set_cons_zero, List.set_cons_succ]
          apply mwalk_det (by kernel_rfl) (by intro t w h; cases h; exact trivial) rfl
          · intro W hW hF
            go_wp2_with fail
            exact ⟨rfl, _, rfl, hW, Below.refl _ _, ret_i (show _ = ((8 : Nat) : Int) by omega)⟩
          simp only [Act.put, List.setIfInBounds_toArray, List.set_cons_zero, List.set_cons_succ]
          iterate 1
            apply mwalk_det (by kernel_rfl) (by intro t w h; cases h; exact trivial) rfl
            · intro W hW hF
              go_wp2_with fail
              exact ⟨rfl, _, rfl, hW, Below.refl _ _, rfl⟩
            simp only [Act.put, List.setIfInBounds_toArray, List.set_cons_zero, List.set_cons_succ]
          apply mwalk_det (by kernel_rfl) (by intro t w h; cases h; exact trivial) rfl
          · intro W hW hF
            have hcv := hcvB.out W hW
            go_wp2_with fail
            exact ⟨rfl, _, rfl, hW, Below.refl _ _, rfl⟩
          simp only [Act.put, List.setIfInBounds_toArray, List.set_cons_zero, List.set_cons_succ]
          iterate 4
            apply mwalk_det (by kernel_rfl) (by intro t w h; cases h; exact trivial) rfl
            · intro W hW hF
              go_wp2_with fail
              exact ⟨rfl, _, rfl, hW, Below.refl _ _, rfl⟩
            simp only [Act.put, List.setIfInBounds_toArray, List.set_cons_zero, List.set_cons_succ]
          intro W hW hF
          go_wp2_with fail
          go_ret
          exact ⟨rfl, B4.out.trans (hW.mono B4.out.size)⟩
        case pers => exact ⟨pers_isV _, pers_isV _, pers_isV _, pers_isV _, pers_isV _, pers_isV _, pers_isV _, pers_isV _, pers_isV _, pers_word8 _, pers_isV _, pers_isV _, pers_isV _, pers_isV _, pers_isV _, pers_isV _, pers_isV _, pers_isV _, pers_isV _, pers_isV _, pers_isV _, pers_isV _, pers_isV _, trivial⟩
      · have he' : (er != 0) = true := by simpa using he
        clear he C1 T1 HH4 h12 h23 hg2' hg3' F3 BX HCV hg1
        refine wp_region_mono' (by kernel_rfl) (by kernel_rfl) ?_
        iterate 23 (refine ex_det ?_; apply Exists.intro)
        refine ex_nil ⟨?pers, ?walk⟩
        case walk =>
          apply mwalk_det (by kernel_rfl) (by intro t w h; cases h; exact trivial) rfl
          · intro W hW hF
            go_wp2_with fail
            refine (puts_any _).mono ?_
            rintro e w9 ⟨rfl, hb⟩
            go_wp2_with fail
            exact ⟨rfl, _, rfl, hW.trans (hb.mono hW.size), hb, rfl⟩
          simp only [Act.put, List.setIfInBounds_toArray, List.set_cons_zero, List.set_cons_succ]
          iterate 1
            apply mwalk_det (by kernel_rfl) (by intro t w h; cases h; exact trivial) rfl
            · intro W hW hF
              go_wp2_with fail
              exact ⟨rfl, _, rfl, hW, Below.refl _ _, rfl⟩
            simp only [Act.put, List.setIfInBounds_toArray, List.set_cons_zero, List.set_cons_succ]
          apply mwalk_det (by kernel_rfl) (by intro t w h; cases h; exact trivial) rfl
          · intro W hW hF
            go_wp2_with fail
            refine (reads_any _).mono ?_
            rintro e w9 ⟨rfl, hb⟩
            go_wp2_with fail
            exact ⟨rfl, _, rfl, hW.trans (hb.mono hW.size), hb, rfl⟩
          simp only [Act.put, List.setIfInBounds_toArray, List.set_cons_zero, List.set_cons_succ]
          iterate 20
            apply mwalk_det (by kernel_rfl) (by intro t w h; cases h; exact trivial) rfl
            · intro W hW hF
              go_wp2_with fail
              exact ⟨rfl, _, rfl, hW, Below.refl _ _, rfl⟩
            simp only [Act.put, List.setIfInBounds_toArray, List.set_cons_zero, List.set_cons_succ]
          intro W hW hF
          go_wp2_with fail
          go_ret
          exact ⟨rfl, B4.out.trans (hW.mono B4.out.size)⟩
        case pers => exact ⟨pers_isV _, pers_isV _, pers_isV _, pers_isV _, pers_isV _, pers_isV _, pers_isV _, pers_isV _, pers_isV _, pers_isV _, pers_isV _, pers_isV _, pers_isV _, pers_isV _, pers_isV _, pers_isV _, pers_isV _, pers_isV _, pers_isV _, pers_isV _, pers_isV _, pers_isV _, pers_isV _, trivial⟩

end Go.Proofs.Ytlipnncbpbbdnaa
namespace Go.Proofs.Ytlipnncbpbbdnaa.codeOne
open Go.ChangeShapes Go.WideShapes Go.ChangeAt Go.RowKit
open Go.ChangeMaps (open_string shut_string)

set_option linter.unusedVariables false in
set_option maxRecDepth 100000 in
theorem lifted (os : Os) (started : os.Started) (H : Type) (enc : TypeId × Value → H) :
    ReturnsInHanded {} Try.checked os 11 .any (Rows.codeOneSpec.pre6 enc Try.prog Try.f11 Rows.codeOneRow.domain false) (Rows.codeOneSpec.post enc Try.prog Try.f11 false true false false) := by
  refine returnsInHanded_of_change (C := Try.checked) own started (by kernel_rfl) Try.func11
    (ChangeSpec.witness6 (enc := enc) (C := Try.checked) false ⟨#[], #[.slice none 0 0], []⟩ 8 (by kernel_rfl) (by kernel_rfl) (by kernel_rfl) (by kernel_rfl)) ?_
  intro W base args ds gs before hval0 hW hcnd _
  have hval : ∀ (j : Nat) t v, Try.f11.params[j]? = some t → args[j]? = some v → Value.okWide Try.prog W .any base t v := hval0
  have hW' := hW
  obtain ⟨p, q, hA0, hV, rfl, hfz, hnd⟩ := hW
  have hA : DataW.TrodAll enc Try.prog W 0 (fun _ => true) true Try.f11.params.toList args.toList ds p := hA0
  rw [Try.params11] at hA hval
  obtain ⟨v0, vs0, d0, ds0, p0, q0, hargs, rfl, rfl, h0, r'0⟩ := trodAll_cons hA
  obtain ⟨rfl, rfl, rfl⟩ := trodAll_nil r'0
  obtain rfl : args = #[v0] := by cases args; simp_all
  obtain ⟨rfl, rfl⟩ := trodVars_none hV
  have k0 := h0
  have lt0 : ∀ x ∈ p0, x.block < W.heap.size := by obtain ⟨m, hm⟩ := k0; exact DataW.trod_lt m _ _ _ hm
  obtain ⟨a0, n0, c0, rfl⟩ := okWide_slice Try.underlying22 (hval 0 22 v0 rfl rfl)
  obtain ⟨l0, r0, e0, b0, m0⟩ := openBytes Try.underlying22 Try.underlying5 (by kernel_rfl) h0
  clear hA0 hval0
  refine (codeOne_walk a0 n0 c0 l0 W r0 e0 b0 m0).mono fun e W' ⟨he, bel⟩ => ?_
  subst he
  exact ⟨_, rfl, _, _, _, [], _, [], hW', trodAll_mk1 (shut_bool Try.underlying4 _), (trodAll_cons_mk (Below.trod laidOut (by kernel_rfl) (of_decide_eq_true (by kernel_rfl)) k0 bel lt0) trodAll_mk0), rfl, bel.frame _, fun h => by cases h⟩

theorem over : Rows.codeOneRow.holds Try.pinned (OpenSpec.ofChange Rows.codeOneSpec) :=
  OpenClaim.holds_of_wide 11 Try.f11 rfl rfl rfl rfl rfl rfl rfl ⟨rfl, rfl, rfl, rfl, rfl⟩ rfl rfl rfl rfl rfl (by kernel_rfl) Try.func11 (by kernel_rfl)
    (of_decide_eq_true (by kernel_rfl)) (by unfold Func.isWrapper; first | (rw [if_pos (by decide +kernel)]; kernel_rfl) | (rw [if_neg (by decide +kernel)]; exact ⟨rfl, rfl⟩))
    (fun os started H enc _ => lifted os started H enc)

/-- The statement. -/
theorem proved : Rows.CodeOneSaid := over
#print axioms proved
end Go.Proofs.Ytlipnncbpbbdnaa.codeOne
