/- bag.Same. -/
import Derived.Test.YtbdbimnfknaakaaSame
namespace Go.Proofs.Ytbdbimnfknaakaa
open Go.RowKit
attribute [-go_sem] loadCellsFrom storeCells
attribute [local go_sem] storeCells_one Mt.cells_len Mt.get8

theorem below_drewN {C : Nat} {w w' : World} (h : Below C w w') (q : Nat) : Below C w (w'.drewN q) := ⟨h.os, h.tape, h.output, h.size, h.block⟩
theorem ms_eq (p q : Mt) : decide (p.m = q.m) = (decide (p.h = q.h) && decide (p.es = q.es)) := by
  obtain ⟨h, v, es⟩ := p
  obtain ⟨h', v', es'⟩ := q
  simp only [Mt.m, Ms.mk.injEq]
  exact Bool.decide_and _ _
set_option maxHeartbeats 3200000 in
theorem bagSame_any (p q : Mt) (B : Nat) (w : World) (hp : EsAt w B p.v p.es) (hq : EsAt w B q.v q.es) (hB : B ≤ w.heap.size) (hn : p.es.length ≤ 1000000) :
    Calls Try.prog 17 #[.agg p.cells.toArray, .agg q.cells.toArray] w fun e w' => e = .returned (.bool (decide (p.m = q.m))) ∧ Below w.heap.size w w' := by
  obtain ⟨r, hr⟩ : ∃ r, decide (p.m = q.m) = r := ⟨_, rfl⟩
  rw [hr]
  rw [ms_eq] at hr
  have HR := Lib.hid hr; clear hr
  have hk1 := (Blk.new w 47 p.cells).alloc (.cells q.cells.toArray 47)
  have hk2 := Blk.new (w.alloc (.cells p.cells.toArray 47)) 47 q.cells
  simp only [World.size_alloc] at hk2
  have hb0 := ((Below.refl w.heap.size w).alloc (Nat.le_refl _) (.cells p.cells.toArray 47)).alloc (by simp) (.cells q.cells.toArray 47)
  have K := Lib.hid (And.intro hk1 (And.intro hk2 (And.intro hb0 (And.intro (hp.below hb0 hB) (hq.below hb0 hB)))))
  clear hk1 hk2 hb0 hp hq
  by_cases hh : ¬ p.h = q.h
  · have hq : ∀ w, Sem.run Try.prog (binOp .eql 69 (.agg p.h.bare.toArray) (.agg q.h.bare.toArray)) w = .ok (.bool false) w := fun w => by rw [bare_eq, decide_eq_false hh]
    have HQ := Lib.hid hq
    have hrf : r = false := by rw [← HR.out, decide_eq_false hh]; rfl
    subst hrf
    clear hh hq
    go_enter Try.func17, Try.ntmps17
    go_wp2_with fail
    obtain ⟨W0, hW0⟩ : ∃ W0, (w.alloc (.cells p.cells.toArray 47)).alloc (.cells q.cells.toArray 47) = W0 := ⟨_, rfl⟩
    rw [hW0] at K ⊢
    clear hW0
    refine wp_region_mono' (by kernel_rfl) (by kernel_rfl) ?_
    iterate 13 (refine ex_det ?_; apply Exists.intro)
    refine ex_nil ⟨?pers, ?walk⟩
    case walk =>
      apply mwalk_det (by kernel_rfl) (by intro t w h; cases h; exact trivial) rfl
      · intro W hW hF
        have hld := (K.out.1.below hW K.out.1.lt).load (P := Try.prog) (k := 23) rfl
        go_wp2_with fail
        exact ⟨rfl, _, rfl, hW, Below.refl _ _, rfl⟩
      simp only [Act.put, List.setIfInBounds_toArray, List.set_cons_zero, List.set_cons_succ]
      apply mwalk_det (by kernel_rfl) (by intro t w h; cases h; exact trivial) rfl
      · intro W hW hF
        go_wp2_with fail
        refine (of_any p W).mono ?_
        rintro e w9 ⟨rfl, hb⟩
        have HB := Lib.hid hb; clear hb
        go_wp2_with fail
        exact ⟨rfl, _, rfl, hW.trans (HB.out.mono hW.size), HB.out, rfl⟩
      simp only [Act.put, List.setIfInBounds_toArray, List.set_cons_zero, List.set_cons_succ]
      apply mwalk_det (by kernel_rfl) (by intro t w h; cases h; exact trivial) rfl
      · intro W hW hF
        have hld := (K.out.2.1.below hW K.out.2.1.lt).load (P := Try.prog) (k := 23) rfl
        go_wp2_with fail
        exact ⟨rfl, _, rfl, hW, Below.refl _ _, rfl⟩
      simp only [Act.put, List.setIfInBounds_toArray, List.set_cons_zero, List.set_cons_succ]
      apply mwalk_det (by kernel_rfl) (by intro t w h; cases h; exact trivial) rfl
      · intro W hW hF
        go_wp2_with fail
        refine (of_any q W).mono ?_
        rintro e w9 ⟨rfl, hb⟩
        have HB := Lib.hid hb; clear hb
        go_wp2_with fail
        exact ⟨rfl, _, rfl, hW.trans (HB.out.mono hW.size), HB.out, rfl⟩
      simp only [Act.put, List.setIfInBounds_toArray, List.set_cons_zero, List.set_cons_succ]
      apply mwalk_det (by kernel_rfl) (by intro t w h; cases h; exact trivial) rfl
      · intro W hW hF
        have hq := HQ.out
        go_wp2_with fail
        exact ⟨rfl, _, rfl, hW, Below.refl _ _, rfl⟩
      simp only [Act.put, List.setIfInBounds_toArray, List.set_cons_zero, List.set_cons_succ]
      iterate 8
        apply mwalk_det (by kernel_rfl) (by intro t w h; cases h; exact trivial) rfl
        · intro W hW hF
          go_wp2_with fail
          exact ⟨rfl, _, rfl, hW, Below.refl _ _, rfl⟩
        simp only [Act.put, List.setIfInBounds_toArray, List.set_cons_zero, List.set_cons_succ]
      intro W hW hF
      have HW := Lib.hid (K.out.2.2.1.trans (hW.mono K.out.2.2.1.size))
      clear hW
      go_wp2_with fail
      go_ret
      exact ⟨rfl, HW.out⟩
    case pers => exact ⟨pers_isV _, pers_isV _, pers_isV _, pers_isV _, pers_isV _, pers_isV _, pers_isV _, pers_isV _, pers_isV _, pers_isV _, pers_isV _, pers_isV _, pers_isV _, trivial⟩
  · replace hh := Classical.not_not.1 hh
    have hq : ∀ w, Sem.run Try.prog (binOp .eql 69 (.agg p.h.bare.toArray) (.agg q.h.bare.toArray)) w = .ok (.bool true) w := fun w => by rw [bare_eq, decide_eq_true hh]
    have HQ := Lib.hid hq
    have hrf : r = decide (p.es = q.es) := by rw [← HR.out, decide_eq_true hh]; rfl
    have HRR := Lib.hid hrf
    clear hh hq hrf
    go_enter Try.func17, Try.ntmps17
    go_wp2_with fail
    obtain ⟨W0, hW0⟩ : ∃ W0, (w.alloc (.cells p.cells.toArray 47)).alloc (.cells q.cells.toArray 47) = W0 := ⟨_, rfl⟩
    rw [hW0] at K ⊢
    clear hW0
    refine wp_region_mono' (by kernel_rfl) (by kernel_rfl) ?_
    iterate 13 (refine ex_det ?_; apply Exists.intro)
    refine ex_nil ⟨?pers, ?walk⟩
    case walk =>
      apply mwalk_det (by kernel_rfl) (by intro t w h; cases h; exact trivial) rfl
      · intro W hW hF
        have hld := (K.out.1.below hW K.out.1.lt).load (P := Try.prog) (k := 23) rfl
        go_wp2_with fail
        exact ⟨rfl, _, rfl, hW, Below.refl _ _, rfl⟩
      simp only [Act.put, List.setIfInBounds_toArray, List.set_cons_zero, List.set_cons_succ]
      apply mwalk_det (by kernel_rfl) (by intro t w h; cases h; exact trivial) rfl
      · intro W hW hF
        go_wp2_with fail
        refine (of_any p W).mono ?_
        rintro e w9 ⟨rfl, hb⟩
        have HB := Lib.hid hb; clear hb
        go_wp2_with fail
        exact ⟨rfl, _, rfl, hW.trans (HB.out.mono hW.size), HB.out, rfl⟩
      simp only [Act.put, List.setIfInBounds_toArray, List.set_cons_zero, List.set_cons_succ]
      apply mwalk_det (by kernel_rfl) (by intro t w h; cases h; exact trivial) rfl
      · intro W hW hF
        have hld := (K.out.2.1.below hW K.out.2.1.lt).load (P := Try.prog) (k := 23) rfl
        go_wp2_with fail
        exact ⟨rfl, _, rfl, hW, Below.refl _ _, rfl⟩
      simp only [Act.put, List.setIfInBounds_toArray, List.set_cons_zero, List.set_cons_succ]
      apply mwalk_det (by kernel_rfl) (by intro t w h; cases h; exact trivial) rfl
      · intro W hW hF
        go_wp2_with fail
        refine (of_any q W).mono ?_
        rintro e w9 ⟨rfl, hb⟩
        have HB := Lib.hid hb; clear hb
        go_wp2_with fail
        exact ⟨rfl, _, rfl, hW.trans (HB.out.mono hW.size), HB.out, rfl⟩
      simp only [Act.put, List.setIfInBounds_toArray, List.set_cons_zero, List.set_cons_succ]
      apply mwalk_det (by kernel_rfl) (by intro t w h; cases h; exact trivial) rfl
      · intro W hW hF
        have hq := HQ.out
        go_wp2_with fail
        exact ⟨rfl, _, rfl, hW, Below.refl _ _, rfl⟩
      simp only [Act.put, List.setIfInBounds_toArray, List.set_cons_zero, List.set_cons_succ]
      iterate 2
        apply mwalk_det (by kernel_rfl) (by intro t w h; cases h; exact trivial) rfl
        · intro W hW hF
          go_wp2_with fail
          exact ⟨rfl, _, rfl, hW, Below.refl _ _, rfl⟩
        simp only [Act.put, List.setIfInBounds_toArray, List.set_cons_zero, List.set_cons_succ]
      apply mwalk_det (by kernel_rfl) (by intro t w h; cases h; exact trivial) rfl
      · intro W hW hF
        have q8 : W.cell? ⟨w.heap.size, 8, none⟩ = some p.v := (K.out.1.below hW K.out.1.lt).cell 8
        go_wp2_with fail
        exact ⟨rfl, _, rfl, hW, Below.refl _ _, rfl⟩
      simp only [Act.put, List.setIfInBounds_toArray, List.set_cons_zero, List.set_cons_succ]
      iterate 1
        apply mwalk_det (by kernel_rfl) (by intro t w h; cases h; exact trivial) rfl
        · intro W hW hF
          go_wp2_with fail
          exact ⟨rfl, _, rfl, hW, Below.refl _ _, rfl⟩
        simp only [Act.put, List.setIfInBounds_toArray, List.set_cons_zero, List.set_cons_succ]
      apply mwalk_det (by kernel_rfl) (by intro t w h; cases h; exact trivial) rfl
      · intro W hW hF
        have q8 : W.cell? ⟨w.heap.size + 1, 8, none⟩ = some q.v := (K.out.2.1.below hW K.out.2.1.lt).cell 8
        go_wp2_with fail
        exact ⟨rfl, _, rfl, hW, Below.refl _ _, rfl⟩
      simp only [Act.put, List.setIfInBounds_toArray, List.set_cons_zero, List.set_cons_succ]
      apply mwalk_det (by kernel_rfl) (by intro t w h; cases h; exact trivial) rfl
      · intro W hW hF
        go_wp2_with fail
        refine (equal_any p.v q.v p.es q.es B W (K.out.2.2.2.1.below hW (Nat.le_trans hB K.out.2.2.1.size)) (K.out.2.2.2.2.below hW (Nat.le_trans hB K.out.2.2.1.size)) hn).mono ?_
        rintro e w9 ⟨rfl, n9, rfl⟩
        rw [← HRR.out]
        go_wp2_with fail
        exact ⟨rfl, _, rfl, below_drewN hW _, below_drewN (Below.refl _ _) _, rfl⟩
      simp only [Act.put, List.setIfInBounds_toArray, List.set_cons_zero, List.set_cons_succ]
      iterate 2
        apply mwalk_det (by kernel_rfl) (by intro t w h; cases h; exact trivial) rfl
        · intro W hW hF
          go_wp2_with fail
          exact ⟨rfl, _, rfl, hW, Below.refl _ _, rfl⟩
        simp only [Act.put, List.setIfInBounds_toArray, List.set_cons_zero, List.set_cons_succ]
      intro W hW hF
      have HW := Lib.hid (K.out.2.2.1.trans (hW.mono K.out.2.2.1.size))
      clear hW
      go_wp2_with fail
      go_ret
      exact ⟨rfl, HW.out⟩
    case pers => exact ⟨pers_isV _, pers_isV _, pers_isV _, pers_isV _, pers_isV _, pers_isV _, pers_isV _, pers_isV _, pers_isV _, pers_isV _, pers_isV _, pers_isV _, pers_isV _, trivial⟩
end Go.Proofs.Ytbdbimnfknaakaa
