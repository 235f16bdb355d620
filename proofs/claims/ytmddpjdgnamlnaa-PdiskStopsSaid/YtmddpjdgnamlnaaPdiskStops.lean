/- PdiskStops: a disk that has stopped is written by nothing, but read, at every script, place and bytes. No condition. -/
import Derived.Test.YtmddpjdgnamlnaaCallAny07
import Derived.Test.YtmddpjdgnamlnaaOpen
namespace Go.Proofs.Ytmddpjdgnamlnaa
open Go.RowKit

attribute [-go_sem] loadCellsFrom storeCells
attribute [local go_sem] storeCells_one run_makeMap Sec.cells_len
theorem Blk.rd {W : World} {g : Nat} {t : TypeId} {cs : List Value} (h : Blk W g t cs) : Rd W (g + 1) (some ⟨g, 0, none⟩) cs :=
  .inr ⟨g, 0, rfl, by omega, fun j u hu => by rw [Nat.zero_add, h.cell]; exact hu⟩

set_option linter.unusedVariables false in
set_option maxRecDepth 40000 in
set_option maxHeartbeats 6400000 in
theorem pdiskStops_walk (a0 : Option Addr) (n0 c0 : Nat) (l0 : List Do) (x1 : Int) (a2 : Option Addr) (n2 c2 : Nat) (l2 : List UInt8) (w : World) (r0 : Rd w w.heap.size a0 (doCells l0)) (e0 : l0.length = n0) (b0 : n0 ≤ c0) (m0 : c0 ≤ maxLen) (o0 : ∀ o ∈ l0, o.raw w) (f1 : (Lit.int .i64 x1).wf = true) (r2 : Rd w w.heap.size a2 (bv l2)) (e2 : l2.length = n2) (b2 : n2 ≤ c2) (m2 : c2 ≤ maxLen) :
    Calls Try.prog 6 #[.slice a0 n0 c0, .int .i64 x1, .slice a2 n2 c2] w fun e w' => e = .returned (.bool true) ∧ Below w.heap.size w w' := by
  have HB0 := Lib.hid (Below.refl w.heap.size w)
  by_cases hlong : 1000 < n2
  · have gL : (1000 : Int) < (n2 : Int) := by omega
    have HLg := Lib.hid (large_any a0 n0 c0 w.heap.size l0 w r0 e0 o0)
    clear r0 o0
    go_enter Try.func6, Try.ntmps6
    go_wp2_with fail
    refine HLg.out.mono ?_
    rintro e w1 ⟨hw, rfl | ⟨rfl, _, _⟩⟩
    · subst hw
      go_wp2_with fail
      go_ret
      exact ⟨rfl, Below.refl _ _⟩
    · subst hw
      go_wp2_with fail
      go_ret
      exact ⟨rfl, Below.refl _ _⟩
  have gL : ¬ (1000 : Int) < (n2 : Int) := by omega
  have HO := Lib.hid (And.intro r0 (And.intro e0 o0))
  have HLg := Lib.hid (large_any a0 n0 c0 w.heap.size l0 w r0 e0 o0)
  clear r0 o0 b0 m0 e0 r2 b2 m2 e2 hlong
  go_enter Try.func6, Try.ntmps6
  go_wp2_with fail
  refine HLg.out.mono ?_
  rintro e w1 ⟨hw, rfl | ⟨rfl, hl100, hok⟩⟩
  · subst hw
    go_wp2_with fail
    go_ret
    exact ⟨rfl, Below.refl _ _⟩
  subst hw
  have hn100 : n0 ≤ 100 := by rw [← HO.out.2.1]; exact hl100
  have HOk := Lib.hid hok; clear hok hl100
  go_wp2_with fail
  refine (dnew_any 16 w (by omega) (by omega)).mono ?_
  rintro e w1 ⟨g, gl, mb, rfl, hd1, hg, hgl, hmb, hb1⟩
  have hS1 : ∀ i, dkS g gl mb i → w.heap.size ≤ i := by rintro i (rfl | rfl | rfl) <;> first | exact Nat.le_trans HB0.out.size hg | exact Nat.le_trans HB0.out.size hgl | exact Nat.le_trans HB0.out.size hmb
  have H1 := Lib.hid (And.intro (show SomeDisk w1 g gl mb 16 from ⟨_, hd1, by simp [Dk.new]⟩) (And.intro hS1 (HB0.out.trans (hb1.mono HB0.out.size)))); clear hd1 hb1 hS1 hg hgl hmb
  go_wp2_with fail
  refine (mnew_any 16 w1 (by omega) (by omega)).mono ?_
  rintro e w2 ⟨gm, rfl, an, af, ad, hm2, hS2, hb2⟩
  have H2 := Lib.hid (And.intro (H1.out.1.below hb2) (And.intro hm2 (And.intro H1.out.2.1 (And.intro (show ∀ i, mS gm an af ad i → w.heap.size ≤ i from fun i hi => Nat.le_trans H1.out.2.2.size (hS2 i hi)) (H1.out.2.2.trans (hb2.mono H1.out.2.2.size)))))); clear hm2 hb2 hS2
  go_wp2_with fail
  go_loopw [11] (fun i wr => ∃ k : Nat, k ≤ n0 ∧ i = .int .i64 k ∧ SomeDisk wr g gl mb 16 ∧ MAt wr gm an af ad 16 ∧ Below w.heap.size w wr) (fun i _ => n0 - (intOf i).toNat)
  case atStart => exact ⟨0, by omega, rfl, H2.out.1, H2.out.2.1, H2.out.2.2.2.2⟩
  case round =>
    obtain ⟨k, hk, rfl, hd, hm, hb⟩ := hrel
    by_cases hlt : k < n0
    · have g3 : (k : Int) < (n0 : Int) := by omega
      have hka : k < l0.length := by rw [HO.out.2.1]; exact hlt
      have hrd := HO.out.1.below hb (Nat.le_refl _)
      obtain ⟨b, off, hA, hbC, hc, hld⟩ := rows_load (P := Try.prog) 4 Do.cells (fun _ => rfl) (by omega) l0 hrd k hka
      subst hA
      have hld := hld 0
      change Sem.run _ _ wr = .ok _ wr at hld
      have hat := (HO.out.2.2 _ (List.getElem_mem hka)).at hb
      have hok := (HOk.out _ (List.getElem_mem hka)).1
      generalize l0[k]'hka = o at *
      have HC := Lib.hid (call_any o hat hok hd hm hb.size H2.out.2.2.1 H2.out.2.2.2.1)
      have HB := Lib.hid hb
      clear hc hat hok hd hm hb hrd
      go_wp2_with fail
      refine HC.out.mono ?_
      rintro e w3 ⟨⟨v, rfl⟩, hd3, hm3, hb3⟩
      have H3 := Lib.hid (And.intro hd3 (And.intro hm3 (HB.out.trans hb3))); clear hd3 hm3 hb3
      go_wp2_with fail
      go_roundw
      case rel => exact ⟨k + 1, by omega, by go_num, H3.out.1, H3.out.2.1, H3.out.2.2⟩
      case measure => simp [intOf]; omega
    · obtain rfl : k = n0 := by omega
      have H4 := Lib.hid (And.intro hd (And.intro hm hb)); clear hd hm hb
      go_wp2_with fail
      refine (stop0_any H4.out.1).mono ?_
      rintro e w5 ⟨⟨z, rfl⟩, ⟨d, hd5⟩, hc5⟩
      have H5 := Lib.hid (And.intro hd5 (H4.out.2.2.trans (hc5.below H2.out.2.2.1 H4.out.2.2.size))); clear hd5 hc5
      have hdd := H5.out.1.1
      have hdn := H5.out.1.2.2
      cases hi : inD d x1
      · have HRd := Lib.hid (read_bad x1 hdd hi)
        have HWr := Lib.hid (write_down x1 (.slice a2 n2 c2) hdd hdn)
        have HFl := Lib.hid (flush_down hdd hdn)
        have HSt := Lib.hid (stop_down 5 hdd hdn)
        have hdw := down_any hdd
        rw [hdn] at hdw
        have HDw := Lib.hid hdw
        clear hdd hdn hi hdw
        go_wp2_with fail
        refine HRd.out.mono ?_
        rintro e w' ⟨rfl, hw⟩
        subst hw
        go_wp2_with fail
        refine HWr.out.mono ?_
        rintro e w' ⟨rfl, hw⟩
        subst hw
        go_wp2_with fail
        refine HFl.out.mono ?_
        rintro e w' ⟨rfl, hw⟩
        subst hw
        go_wp2_with fail
        refine HSt.out.mono ?_
        rintro e w' ⟨rfl, hw⟩
        subst hw
        go_wp2_with fail
        refine HDw.out.mono ?_
        rintro e w' ⟨rfl, hw⟩
        subst hw
        go_wp2_with fail
        refine HRd.out.mono ?_
        rintro e w' ⟨rfl, hw⟩
        subst hw
        go_wp2_with fail
        refine (awake_any w5).mono ?_
        rintro e w6 ⟨rfl, hb6⟩
        have hcv := conv_rd (P := Try.prog) w6 32 9 5 Try.underlying32 Try.underlying5 Try.underlying9 0 none 0 0 [] Rd.nil rfl
        have B6 := Lib.hid (H5.out.2.trans (hb6.mono H5.out.2.size)); clear hb6
        go_wp2_with fail
        go_ret
        exact ⟨rfl, B6.out⟩
      · simp [inD] at hi
        obtain ⟨j, rfl⟩ : ∃ j : Nat, x1 = (j : Int) := ⟨x1.toNat, by omega⟩
        have hj : j < d.now.length := by omega
        have hrdx : ∀ W, DiskAt W g gl mb d → ∃ x, d.now[j]'hj = x ∧ Calls Try.prog 19 #[.pointer (some ⟨g, 0, none⟩), .int .i64 j] W fun e w' => e = .returned (.tuple #[.slice (some ⟨W.heap.size, 0, none⟩) 64 64, .int .i64 0]) ∧ Blk w' W.heap.size 68 x.cells ∧ Below W.heap.size W w' := fun W hW => ⟨_, rfl, read_ok j hW hj⟩
        obtain ⟨x, hx, hr5⟩ := hrdx w5 hdd
        have HRd := Lib.hid hr5
        have HX := Lib.hid (And.intro hx hrdx)
        clear hr5 hx hrdx hdd hdn hi
        go_wp2_with fail
        refine HRd.out.mono ?_
        rintro e w6 ⟨rfl, hk6, hb6⟩
        have hd6 := H5.out.1.1.below hb6
        have H6 := Lib.hid (And.intro hk6 (And.intro hd6 (H5.out.2.trans (hb6.mono H5.out.2.size))))
        have HWr := Lib.hid (write_down (j : Int) (.slice a2 n2 c2) hd6 H5.out.1.2.2)
        have HFl := Lib.hid (flush_down hd6 H5.out.1.2.2)
        have HSt := Lib.hid (stop_down 5 hd6 H5.out.1.2.2)
        have hdw := down_any hd6
        rw [H5.out.1.2.2] at hdw
        have HDw := Lib.hid hdw
        obtain ⟨x', hx', hr6⟩ := HX.out.2 w6 hd6
        have hxx : x' = x := hx'.symm.trans HX.out.1
        subst hxx
        have HRd2 := Lib.hid hr6
        clear hk6 hb6 hd6 hdw hx' hr6
        go_wp2_with fail
        refine HWr.out.mono ?_
        rintro e w' ⟨rfl, hw⟩
        subst hw
        go_wp2_with fail
        refine HFl.out.mono ?_
        rintro e w' ⟨rfl, hw⟩
        subst hw
        go_wp2_with fail
        refine HSt.out.mono ?_
        rintro e w' ⟨rfl, hw⟩
        subst hw
        go_wp2_with fail
        refine HDw.out.mono ?_
        rintro e w' ⟨rfl, hw⟩
        subst hw
        go_wp2_with fail
        refine HRd2.out.mono ?_
        rintro e w7 ⟨rfl, hk7, hb7⟩
        have H7 := Lib.hid (And.intro (H6.out.1.below hb7 H6.out.1.lt) (And.intro hk7 (H6.out.2.2.trans (hb7.mono H6.out.2.2.size)))); clear hk7 hb7
        go_wp2_with fail
        refine (awake_any w7).mono ?_
        rintro e w8 ⟨rfl, hb8⟩
        have hka := H7.out.1.below hb8 H7.out.1.lt
        have hkb := H7.out.2.1.below hb8 H7.out.2.1.lt
        have hcv1 := conv_rd (P := Try.prog) w8 32 9 5 Try.underlying32 Try.underlying5 Try.underlying9 _ _ 64 64 x'.l hka.rd x'.h
        have hcv2 := conv_rd (P := Try.prog) w8 32 9 5 Try.underlying32 Try.underlying5 Try.underlying9 _ _ 64 64 x'.l hkb.rd x'.h
        have B8 := Lib.hid (H7.out.2.2.trans (hb8.mono H7.out.2.2.size)); clear hb8 hka hkb
        go_wp2_with fail
        go_ret
        exact ⟨rfl, B8.out⟩

end Go.Proofs.Ytmddpjdgnamlnaa
namespace Go.Proofs.Ytmddpjdgnamlnaa.pdiskStops
open Go.ChangeShapes Go.WideShapes Go.ChangeAt Go.RowKit
open Go.ChangeMaps (open_string shut_string)

set_option linter.unusedVariables false in
set_option maxRecDepth 100000 in
theorem lifted (os : Os) (started : os.Started) (H : Type) (enc : TypeId × Value → H) :
    ReturnsInHanded {} Try.checked os 6 .any (Rows.pdiskStopsSpec.pre6 enc Try.prog Try.f6 Rows.pdiskStopsRow.domain false) (Rows.pdiskStopsSpec.post enc Try.prog Try.f6 false true false false) := by
  refine returnsInHanded_of_change (C := Try.checked) own started (by kernel_rfl) Try.func6
    (ChangeSpec.witness6 (enc := enc) (C := Try.checked) false ⟨#[], #[.slice none 0 0, .int .i64 0, .slice none 0 0], []⟩ 8 (by kernel_rfl) (by kernel_rfl) (by kernel_rfl) (by kernel_rfl)) ?_
  intro W base args ds gs before hval0 hW hcnd _
  have hval : ∀ (j : Nat) t v, Try.f6.params[j]? = some t → args[j]? = some v → Value.okWide Try.prog W .any base t v := hval0
  have hW' := hW
  obtain ⟨p, q, hA0, hV, rfl, hfz, hnd⟩ := hW
  have hA : DataW.TrodAll enc Try.prog W 0 (fun _ => true) true Try.f6.params.toList args.toList ds p := hA0
  rw [Try.params6] at hA hval
  obtain ⟨v0, vs0, d0, ds0, p0, q0, hargs, rfl, rfl, h0, r'0⟩ := trodAll_cons hA
  obtain ⟨v1, vs1, d1, ds1, p1, q1, rfl, rfl, rfl, h1, r'1⟩ := trodAll_cons r'0
  obtain ⟨v2, vs2, d2, ds2, p2, q2, rfl, rfl, rfl, h2, r'2⟩ := trodAll_cons r'1
  obtain ⟨rfl, rfl, rfl⟩ := trodAll_nil r'2
  obtain rfl : args = #[v0, v1, v2] := by cases args; simp_all
  obtain ⟨rfl, rfl⟩ := trodVars_none hV
  have k0 := h0
  have lt0 : ∀ x ∈ p0, x.block < W.heap.size := by obtain ⟨m, hm⟩ := k0; exact DataW.trod_lt m _ _ _ hm
  obtain ⟨a0, n0, c0, rfl⟩ := okWide_slice Try.underlying22 (hval 0 22 v0 rfl rfl)
  obtain ⟨l0, r0, e0, b0, m0, o0⟩ := openDos h0
  have k1 := h1
  have lt1 : ∀ x ∈ p1, x.block < W.heap.size := by obtain ⟨m, hm⟩ := k1; exact DataW.trod_lt m _ _ _ hm
  obtain ⟨x1, rfl, rfl, rfl, f1⟩ := open_int Try.underlying3 (hval 1 3 v1 rfl rfl) h1
  have k2 := h2
  have lt2 : ∀ x ∈ p2, x.block < W.heap.size := by obtain ⟨m, hm⟩ := k2; exact DataW.trod_lt m _ _ _ hm
  obtain ⟨a2, n2, c2, rfl⟩ := okWide_slice Try.underlying32 (hval 2 32 v2 rfl rfl)
  obtain ⟨l2, r2, e2, b2, m2⟩ := openBytes Try.underlying32 Try.underlying5 (by kernel_rfl) h2
  clear hA0 hval0
  refine (pdiskStops_walk a0 n0 c0 l0 x1 a2 n2 c2 l2 W r0 e0 b0 m0 o0 f1 r2 e2 b2 m2).mono fun e W' ⟨he, bel⟩ => ?_
  subst he
  exact ⟨_, rfl, _, _, _, [], _, [], hW', trodAll_mk1 (shut_bool Try.underlying4 _), (trodAll_cons_mk (Below.trod laidOut (by kernel_rfl) (of_decide_eq_true (by kernel_rfl)) k0 bel lt0) (trodAll_cons_mk (Below.trod laidOut (by kernel_rfl) (of_decide_eq_true (by kernel_rfl)) k1 bel lt1) (trodAll_cons_mk (Below.trod laidOut (by kernel_rfl) (of_decide_eq_true (by kernel_rfl)) k2 bel lt2) trodAll_mk0))), rfl, bel.frame _, fun h => by cases h⟩

theorem over : Rows.pdiskStopsRow.holds Try.pinned (OpenSpec.ofChange Rows.pdiskStopsSpec) :=
  OpenClaim.holds_of_wide 6 Try.f6 rfl rfl rfl rfl rfl rfl rfl ⟨rfl, rfl, rfl, rfl, rfl⟩ rfl rfl rfl rfl rfl (by kernel_rfl) Try.func6 (by kernel_rfl)
    (of_decide_eq_true (by kernel_rfl)) (by unfold Func.isWrapper; first | (rw [if_pos (by decide +kernel)]; kernel_rfl) | (rw [if_neg (by decide +kernel)]; exact ⟨rfl, rfl⟩))
    (fun os started H enc _ => lifted os started H enc)

/-- The statement. -/
theorem proved : Rows.PdiskStopsSaid := over
#print axioms proved
end Go.Proofs.Ytmddpjdgnamlnaa.pdiskStops
