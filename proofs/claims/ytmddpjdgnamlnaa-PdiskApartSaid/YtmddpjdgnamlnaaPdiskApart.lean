/- PdiskApart: what is written into a sector changes no other one. No condition. -/
import Derived.Test.YtmddpjdgnamlnaaAll07
import Derived.Test.YtmddpjdgnamlnaaOpen
namespace Go.Proofs.Ytmddpjdgnamlnaa
open Go.RowKit

attribute [-go_sem] loadCellsFrom storeCells
attribute [local go_sem] storeCells_one run_makeMap Sec.cells_len

set_option linter.unusedVariables false in
set_option maxRecDepth 40000 in
set_option maxHeartbeats 6400000 in
theorem pdiskApart_walk (a0 : Option Addr) (n0 c0 : Nat) (l0 : List Do) (x1 : Int) (a2 : Option Addr) (n2 c2 : Nat) (l2 : List UInt8) (w : World) (r0 : Rd w w.heap.size a0 (doCells l0)) (e0 : l0.length = n0) (b0 : n0 ≤ c0) (m0 : c0 ≤ maxLen) (o0 : ∀ o ∈ l0, o.raw w) (f1 : (Lit.int .i64 x1).wf = true) (r2 : Rd w w.heap.size a2 (bv l2)) (e2 : l2.length = n2) (b2 : n2 ≤ c2) (m2 : c2 ≤ maxLen) :
    Calls Try.prog 4 #[.slice a0 n0 c0, .int .i64 x1, .slice a2 n2 c2] w fun e w' => e = .returned (.bool true) ∧ Below w.heap.size w w' := by
  have HB0 := Lib.hid (Below.refl w.heap.size w)
  by_cases hlong : 1000 < n2
  · have gL : (1000 : Int) < (n2 : Int) := by omega
    have HLg := Lib.hid (large_any a0 n0 c0 w.heap.size l0 w r0 e0 o0)
    clear r0 o0
    go_enter Try.func4, Try.ntmps4
    go_wp2_with fail
    refine HLg.out.mono ?_
    rintro e w1 ⟨hw, rfl | ⟨rfl, _, _⟩⟩
    · subst hw
      go_wp2_with fail
      go_ret
      exact ⟨rfl, Below.refl _ _⟩
    · subst hw
      go_wp2_with fail
      go_ret
      exact ⟨rfl, Below.refl _ _⟩
  have gL : ¬ (1000 : Int) < (n2 : Int) := by omega
  have HR2 := Lib.hid (And.intro r2 e2)
  have HO := Lib.hid (And.intro r0 (And.intro e0 o0))
  have HLg := Lib.hid (large_any a0 n0 c0 w.heap.size l0 w r0 e0 o0)
  clear r0 o0 b0 m0 e0 r2 b2 m2 e2 hlong
  go_enter Try.func4, Try.ntmps4
  go_wp2_with fail
  refine HLg.out.mono ?_
  rintro e w1 ⟨hw, rfl | ⟨rfl, hl100, hok⟩⟩
  · subst hw
    go_wp2_with fail
    go_ret
    exact ⟨rfl, Below.refl _ _⟩
  subst hw
  have hn100 : n0 ≤ 100 := by rw [← HO.out.2.1]; exact hl100
  have HOk := Lib.hid hok; clear hok hl100
  go_wp2_with fail
  refine (dnew_any 16 w (by omega) (by omega)).mono ?_
  rintro e w1 ⟨g, gl, mb, rfl, hd1, hg, hgl, hmb, hb1⟩
  have hS1 : ∀ i, dkS g gl mb i → w.heap.size ≤ i := by rintro i (rfl | rfl | rfl) <;> first | exact Nat.le_trans HB0.out.size hg | exact Nat.le_trans HB0.out.size hgl | exact Nat.le_trans HB0.out.size hmb
  have H1 := Lib.hid (And.intro (show SomeDisk w1 g gl mb 16 from ⟨_, hd1, by simp [Dk.new]⟩) (And.intro hS1 (HB0.out.trans (hb1.mono HB0.out.size)))); clear hd1 hb1 hS1 hg hgl hmb
  go_wp2_with fail
  refine (mnew_any 16 w1 (by omega) (by omega)).mono ?_
  rintro e w2 ⟨gm, rfl, an, af, ad, hm2, hS2, hb2⟩
  have H2 := Lib.hid (And.intro (H1.out.1.below hb2) (And.intro hm2 (And.intro H1.out.2.1 (And.intro (show ∀ i, mS gm an af ad i → w.heap.size ≤ i from fun i hi => Nat.le_trans H1.out.2.2.size (hS2 i hi)) (H1.out.2.2.trans (hb2.mono H1.out.2.2.size)))))); clear hm2 hb2 hS2
  go_wp2_with fail
  go_loopw [11] (fun i wr => ∃ k : Nat, k ≤ n0 ∧ i = .int .i64 k ∧ SomeDisk wr g gl mb 16 ∧ MAt wr gm an af ad 16 ∧ Below w.heap.size w wr) (fun i _ => n0 - (intOf i).toNat)
  case atStart => exact ⟨0, by omega, rfl, H2.out.1, H2.out.2.1, H2.out.2.2.2.2⟩
  case round =>
    obtain ⟨k, hk, rfl, hd, hm, hb⟩ := hrel
    by_cases hlt : k < n0
    · have g3 : (k : Int) < (n0 : Int) := by omega
      have hka : k < l0.length := by rw [HO.out.2.1]; exact hlt
      have hrd := HO.out.1.below hb (Nat.le_refl _)
      obtain ⟨b, off, hA, hbC, hc, hld⟩ := rows_load (P := Try.prog) 4 Do.cells (fun _ => rfl) (by omega) l0 hrd k hka
      subst hA
      have hld := hld 0
      change Sem.run _ _ wr = .ok _ wr at hld
      have hat := (HO.out.2.2 _ (List.getElem_mem hka)).at hb
      have hok := (HOk.out _ (List.getElem_mem hka)).1
      generalize l0[k]'hka = o at *
      have HC := Lib.hid (call_any o hat hok hd hm hb.size H2.out.2.2.1 H2.out.2.2.2.1)
      have HB := Lib.hid hb
      clear hc hat hok hd hm hb hrd
      go_wp2_with fail
      refine HC.out.mono ?_
      rintro e w3 ⟨⟨v, rfl⟩, hd3, hm3, hb3⟩
      have H3 := Lib.hid (And.intro hd3 (And.intro hm3 (HB.out.trans hb3))); clear hd3 hm3 hb3
      go_wp2_with fail
      go_roundw
      case rel => exact ⟨k + 1, by omega, by go_num, H3.out.1, H3.out.2.1, H3.out.2.2⟩
      case measure => simp [intOf]; omega
    · obtain rfl : k = n0 := by omega
      have H4 := Lib.hid (And.intro hd (And.intro hm hb)); clear hd hm hb
      obtain ⟨d, hd, hn⟩ := H4.out.1
      have HAll := Lib.hid (all_any hd)
      have H4d := Lib.hid (And.intro hd hn); clear hd hn
      go_wp2_with fail
      refine HAll.out.mono ?_
      rintro e w5 ⟨rfl, hb5⟩
      have hd5 := H4d.out.1.below hb5
      have hB5 := H4.out.2.2.trans (hb5.mono H4.out.2.2.size)
      have hr5 : Rd w5 w.heap.size a2 (bv l2) := HR2.out.1.below hB5 (Nat.le_refl _)
      rcases write_cases x1 a2 n2 c2 w.heap.size l2 hd5 hr5 HR2.out.2 with ⟨z, hz, _, hcw⟩ | ⟨j, h64, hxj, hdn, hj, hcw⟩
      · have HCW := Lib.hid hcw
        have H5 := Lib.hid (And.intro hd5 hB5)
        clear hcw hd5 hB5 hr5 hb5
        go_wp2_with fail
        refine HCW.out.mono ?_
        rintro e w' ⟨rfl, hw⟩
        subst hw
        go_wp2_with fail
        refine (awake_any w5).mono ?_
        rintro e w6 ⟨rfl, hb6⟩
        have HA6 := Lib.hid (all_any (H5.out.1.below hb6))
        have B6 := Lib.hid (H5.out.2.trans (hb6.mono H5.out.2.size)); clear hb6
        go_wp2_with fail
        refine HA6.out.mono ?_
        rintro e w7 ⟨rfl, hb7⟩
        have B7 := Lib.hid (B6.out.trans (hb7.mono B6.out.size)); clear hb7
        go_wp2_with fail
        go_ret
        exact ⟨rfl, B7.out⟩
      · have HCW := Lib.hid hcw
        have H5 := Lib.hid (And.intro hd5 hB5)
        clear hcw hd5 hB5 hr5 hb5
        subst hxj
        go_wp2_with fail
        refine HCW.out.mono ?_
        rintro e w6 ⟨rfl, hd6, hc6⟩
        have HA6 := Lib.hid (all_any hd6)
        have H6 := Lib.hid (And.intro hd6 (H5.out.2.trans (hc6.below H2.out.2.2.1 H5.out.2.size))); clear hd6 hc6
        go_wp2_with fail
        refine HA6.out.mono ?_
        rintro e w7 ⟨rfl, hb7⟩
        have hB7 := H6.out.2.trans (hb7.mono H6.out.2.size)
        have hr7 : Rd w7 w.heap.size a2 (bv l2) := HR2.out.1.below hB7 (Nat.le_refl _)
        have H7 := Lib.hid (And.intro hB7 hr7); clear hB7 hr7 hb7
        obtain ⟨S0, hS0⟩ : ∃ S, allS d.now = S := ⟨_, rfl⟩
        obtain ⟨S1, hS1⟩ : ∃ S, allS (d.write j (Sec.of l2 h64)).now = S := ⟨_, rfl⟩
        have hz0 : S0.size = 1024 := by rw [← hS0]; simp [allS, ByteArray.size, allB_len, H4d.out.2]
        have hz1 : S1.size = 1024 := by rw [← hS1, Dk.write_now]; simp [allS, ByteArray.size, allB_len, H4d.out.2]
        have hj16 : (j : Int) < 16 := by have := H4d.out.2; omega
        have e1 : S1.extract 0 (64 * j) = S0.extract 0 (64 * j) := by rw [← hS0, ← hS1, Dk.write_now, allS_take, allS_take, List.take_set_of_le (Nat.le_refl j)]
        have e2 : S1.extract (64 * j + 64) 1024 = S0.extract (64 * j + 64) 1024 := by
          rw [← hS0, ← hS1, Dk.write_now, show 64 * j + 64 = 64 * (j + 1) by omega, allS_drop _ _ _ (by rw [List.length_set, H4d.out.2]; exact Nat.le_refl _), allS_drop _ _ _ (by rw [H4d.out.2]; exact Nat.le_refl _), List.drop_set_of_lt (by omega)]
        have e3 : S1.extract (64 * j) (64 * j + 64) = ⟨(full l2).toArray⟩ := by
          rw [← hS1, Dk.write_now, allS_mid _ _ (by rw [List.length_set]; exact hj), List.getElem_set_self]
          rfl
        rw [hS0, hS1]
        have HSS := Lib.hid (And.intro hS0 (And.intro hS1 (And.intro hdn hj)))
        have h64n : ¬ 64 < n2 := by have := HR2.out.2; omega
        clear hS0 hS1 hdn hj
        go_wp2_with fail
        refine wp_region_mono' (by kernel_rfl) (by kernel_rfl) ?_
        iterate 45 (refine ex_det ?_; apply Exists.intro)
        refine ex_nil ⟨?pers, ?walk⟩
        case' walk =>
          apply mwalk_det (by kernel_rfl) (by intro t w h; cases h; exact trivial) rfl
          · intro W hW hF
            go_wp2_with fail
            refine (awake_any W).mono ?_
            rintro e w9 ⟨rfl, hb⟩
            have HB9 := Lib.hid hb; clear hb
            go_wp2_with fail
            exact ⟨rfl, _, rfl, hW.trans (HB9.out.mono hW.size), HB9.out, rfl⟩
          simp only [Act.put, List.setIfInBounds_toArray, List.set_cons_zero, List.set_cons_succ]
          iterate 40
            apply mwalk_det (by kernel_rfl) (by intro t w h; cases h; exact trivial) rfl
            · intro W hW hF
              go_wp2_with fail
              exact ⟨rfl, _, rfl, hW, Below.refl _ _, rfl⟩
            simp only [Act.put, List.setIfInBounds_toArray, List.set_cons_zero, List.set_cons_succ]
          apply mwalk_det (by kernel_rfl) (by intro t w h; cases h; exact trivial) rfl
          · intro W hW hF
            have hrW := H7.out.2.below hW (Nat.le_of_lt_succ (Nat.lt_succ_of_le H7.out.1.size))
            go_wp2_with fail
            refine (full_any a2 n2 c2 w.heap.size l2 W hrW HR2.out.2 (by omega)).mono ?_
            rintro e w9 ⟨rfl, hb⟩
            have HB9 := Lib.hid hb; clear hb
            go_wp2_with fail
            exact ⟨rfl, _, rfl, hW.trans (HB9.out.mono hW.size), HB9.out, rfl⟩
          simp only [Act.put, List.setIfInBounds_toArray, List.set_cons_zero, List.set_cons_succ]
          iterate 3
            apply mwalk_det (by kernel_rfl) (by intro t w h; cases h; exact trivial) rfl
            · intro W hW hF
              go_wp2_with fail
              exact ⟨rfl, _, rfl, hW, Below.refl _ _, rfl⟩
            simp only [Act.put, List.setIfInBounds_toArray, List.set_cons_zero, List.set_cons_succ]
          intro W hW hF
          have HW := Lib.hid (H7.out.1.trans (hW.mono H7.out.1.size))
          clear hW
        case pers => exact ⟨pers_isV _, pers_isV _, pers_isV _, pers_isV _, pers_isV _, pers_isV _, pers_isV _, pers_isV _, pers_isV _, pers_isV _, pers_isV _, pers_isV _, pers_isV _, pers_isV _, pers_isV _, pers_isV _, pers_isV _, pers_isV _, pers_isV _, pers_isV _, pers_isV _, pers_isV _, pers_isV _, pers_isV _, pers_isV _, pers_isV _, pers_isV _, pers_isV _, pers_isV _, pers_isV _, pers_isV _, pers_isV _, pers_isV _, pers_isV _, pers_isV _, pers_isV _, pers_isV _, pers_isV _, pers_isV _, pers_isV _, pers_isV _, pers_isV _, pers_isV _, pers_isV _, pers_isV _, trivial⟩
        go_wp2_with fail
        go_ret
        exact ⟨rfl, HW.out⟩

end Go.Proofs.Ytmddpjdgnamlnaa
namespace Go.Proofs.Ytmddpjdgnamlnaa.pdiskApart
open Go.ChangeShapes Go.WideShapes Go.ChangeAt Go.RowKit
open Go.ChangeMaps (open_string shut_string)

set_option linter.unusedVariables false in
set_option maxRecDepth 100000 in
theorem lifted (os : Os) (started : os.Started) (H : Type) (enc : TypeId × Value → H) :
    ReturnsInHanded {} Try.checked os 4 .any (Rows.pdiskApartSpec.pre6 enc Try.prog Try.f4 Rows.pdiskApartRow.domain false) (Rows.pdiskApartSpec.post enc Try.prog Try.f4 false true false false) := by
  refine returnsInHanded_of_change (C := Try.checked) own started (by kernel_rfl) Try.func4
    (ChangeSpec.witness6 (enc := enc) (C := Try.checked) false ⟨#[], #[.slice none 0 0, .int .i64 0, .slice none 0 0], []⟩ 8 (by kernel_rfl) (by kernel_rfl) (by kernel_rfl) (by kernel_rfl)) ?_
  intro W base args ds gs before hval0 hW hcnd _
  have hval : ∀ (j : Nat) t v, Try.f4.params[j]? = some t → args[j]? = some v → Value.okWide Try.prog W .any base t v := hval0
  have hW' := hW
  obtain ⟨p, q, hA0, hV, rfl, hfz, hnd⟩ := hW
  have hA : DataW.TrodAll enc Try.prog W 0 (fun _ => true) true Try.f4.params.toList args.toList ds p := hA0
  rw [Try.params4] at hA hval
  obtain ⟨v0, vs0, d0, ds0, p0, q0, hargs, rfl, rfl, h0, r'0⟩ := trodAll_cons hA
  obtain ⟨v1, vs1, d1, ds1, p1, q1, rfl, rfl, rfl, h1, r'1⟩ := trodAll_cons r'0
  obtain ⟨v2, vs2, d2, ds2, p2, q2, rfl, rfl, rfl, h2, r'2⟩ := trodAll_cons r'1
  obtain ⟨rfl, rfl, rfl⟩ := trodAll_nil r'2
  obtain rfl : args = #[v0, v1, v2] := by cases args; simp_all
  obtain ⟨rfl, rfl⟩ := trodVars_none hV
  have k0 := h0
  have lt0 : ∀ x ∈ p0, x.block < W.heap.size := by obtain ⟨m, hm⟩ := k0; exact DataW.trod_lt m _ _ _ hm
  obtain ⟨a0, n0, c0, rfl⟩ := okWide_slice Try.underlying22 (hval 0 22 v0 rfl rfl)
  obtain ⟨l0, r0, e0, b0, m0, o0⟩ := openDos h0
  have k1 := h1
  have lt1 : ∀ x ∈ p1, x.block < W.heap.size := by obtain ⟨m, hm⟩ := k1; exact DataW.trod_lt m _ _ _ hm
  obtain ⟨x1, rfl, rfl, rfl, f1⟩ := open_int Try.underlying3 (hval 1 3 v1 rfl rfl) h1
  have k2 := h2
  have lt2 : ∀ x ∈ p2, x.block < W.heap.size := by obtain ⟨m, hm⟩ := k2; exact DataW.trod_lt m _ _ _ hm
  obtain ⟨a2, n2, c2, rfl⟩ := okWide_slice Try.underlying32 (hval 2 32 v2 rfl rfl)
  obtain ⟨l2, r2, e2, b2, m2⟩ := openBytes Try.underlying32 Try.underlying5 (by kernel_rfl) h2
  clear hA0 hval0
  refine (pdiskApart_walk a0 n0 c0 l0 x1 a2 n2 c2 l2 W r0 e0 b0 m0 o0 f1 r2 e2 b2 m2).mono fun e W' ⟨he, bel⟩ => ?_
  subst he
  exact ⟨_, rfl, _, _, _, [], _, [], hW', trodAll_mk1 (shut_bool Try.underlying4 _), (trodAll_cons_mk (Below.trod laidOut (by kernel_rfl) (of_decide_eq_true (by kernel_rfl)) k0 bel lt0) (trodAll_cons_mk (Below.trod laidOut (by kernel_rfl) (of_decide_eq_true (by kernel_rfl)) k1 bel lt1) (trodAll_cons_mk (Below.trod laidOut (by kernel_rfl) (of_decide_eq_true (by kernel_rfl)) k2 bel lt2) trodAll_mk0))), rfl, bel.frame _, fun h => by cases h⟩

theorem over : Rows.pdiskApartRow.holds Try.pinned (OpenSpec.ofChange Rows.pdiskApartSpec) :=
  OpenClaim.holds_of_wide 4 Try.f4 rfl rfl rfl rfl rfl rfl rfl ⟨rfl, rfl, rfl, rfl, rfl⟩ rfl rfl rfl rfl rfl (by kernel_rfl) Try.func4 (by kernel_rfl)
    (of_decide_eq_true (by kernel_rfl)) (by unfold Func.isWrapper; first | (rw [if_pos (by decide +kernel)]; kernel_rfl) | (rw [if_neg (by decide +kernel)]; exact ⟨rfl, rfl⟩))
    (fun os started H enc _ => lifted os started H enc)

/-- The statement. -/
theorem proved : Rows.PdiskApartSaid := over
#print axioms proved
end Go.Proofs.Ytmddpjdgnamlnaa.pdiskApart
