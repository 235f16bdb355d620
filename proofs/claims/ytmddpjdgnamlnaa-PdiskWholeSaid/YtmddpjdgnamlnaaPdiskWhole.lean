/- PdiskWhole: a crash that keeps all changes nothing, one that keeps nothing leaves what was flushed, at every script and writes. No condition. -/
import Derived.Test.YtmddpjdgnamlnaaWhole07
import Derived.Test.YtmddpjdgnamlnaaOpen
namespace Go.Proofs.Ytmddpjdgnamlnaa
open Go.RowKit

attribute [-go_sem] loadCellsFrom storeCells
attribute [local go_sem] storeCells_one run_makeMap Sec.cells_len

set_option linter.unusedVariables false in
set_option maxRecDepth 40000 in
set_option maxHeartbeats 6400000 in
theorem pdiskWhole_walk (a0 : Option Addr) (n0 c0 : Nat) (l0 : List Do) (a1 : Option Addr) (n1 c1 : Nat) (l1 : List Do) (w : World) (r0 : Rd w w.heap.size a0 (doCells l0)) (e0 : l0.length = n0) (b0 : n0 ≤ c0) (m0 : c0 ≤ maxLen) (o0 : ∀ o ∈ l0, o.raw w) (r1 : Rd w w.heap.size a1 (doCells l1)) (e1 : l1.length = n1) (b1 : n1 ≤ c1) (m1 : c1 ≤ maxLen) (o1 : ∀ o ∈ l1, o.raw w) :
    Calls Try.prog 3 #[.slice a0 n0 c0, .slice a1 n1 c1] w fun e w' => e = .returned (.bool true) ∧ Below w.heap.size w w' := by
  have HB0 := Lib.hid (Below.refl w.heap.size w)
  obtain ⟨j0, hj0, hy0, hy1, hy2⟩ := info_parts bool_info
  have HO := Lib.hid (And.intro r0 (And.intro e0 o0))
  have HO1 := Lib.hid (And.intro r1 (And.intro e1 o1))
  have HLg := Lib.hid (large_any a0 n0 c0 w.heap.size l0 w r0 e0 o0)
  have HLg1 := Lib.hid (large_any a1 n1 c1 w.heap.size l1 w r1 e1 o1)
  clear r0 o0 b0 m0 e0 r1 o1 b1 m1 e1
  go_enter Try.func3, Try.ntmps3
  go_wp2_with fail
  refine HLg.out.mono ?_
  rintro e w1 ⟨hw, rfl | ⟨rfl, hl100, hok⟩⟩
  · subst hw
    go_wp2_with fail
    go_ret
    exact ⟨rfl, Below.refl _ _⟩
  subst hw
  have hn100 : n0 ≤ 100 := by rw [← HO.out.2.1]; exact hl100
  have HOk := Lib.hid hok; clear hok hl100
  go_wp2_with fail
  refine HLg1.out.mono ?_
  rintro e w1 ⟨hw, rfl | ⟨rfl, hl100, hok⟩⟩
  · subst hw
    go_wp2_with fail
    go_ret
    exact ⟨rfl, Below.refl _ _⟩
  subst hw
  have hn1001 : n1 ≤ 100 := by rw [← HO1.out.2.1]; exact hl100
  have HOk1 := Lib.hid hok; clear hok hl100
  go_wp2_with fail
  go_loopw [5, 6, 7, 8, 9, 10, 11, 12, 13, 14] (fun i _ _ _ _ _ _ _ _ _ wr => ∃ k : Nat, k ≤ 2 ∧ i = .int .i64 k ∧ Below w.heap.size w wr) (fun i _ _ _ _ _ _ _ _ _ _ => 2 - (intOf i).toNat)
  case atStart => exact ⟨0, by omega, rfl, HB0.out⟩
  case round =>
    obtain ⟨kk, hkk, rfl, hbo⟩ := hrel
    obtain ⟨wo, rfl⟩ : ∃ x, x = wr := ⟨_, rfl⟩
    have HBo := Lib.hid hbo
    clear hbo
    by_cases hk2 : kk < 2
    · have g2 : (kk : Int) < 2 := by omega
      go_wp2_with fail
      refine (dnew_any 16 wo (by omega) (by omega)).mono ?_
      rintro e w1 ⟨g, gl, mb, rfl, hd1, hg, hgl, hmb, hb1⟩
      have hS1 : ∀ i, dkS g gl mb i → w.heap.size ≤ i := by rintro i (rfl | rfl | rfl) <;> first | exact Nat.le_trans HBo.out.size hg | exact Nat.le_trans HBo.out.size hgl | exact Nat.le_trans HBo.out.size hmb
      have H1 := Lib.hid (And.intro (show SomeDisk w1 g gl mb 16 from ⟨_, hd1, by simp [Dk.new]⟩) (And.intro hS1 (HBo.out.trans (hb1.mono HBo.out.size)))); clear hd1 hb1 hS1 hg hgl hmb
      go_wp2_with fail
      refine (mnew_any 16 w1 (by omega) (by omega)).mono ?_
      rintro e w2 ⟨gm, rfl, an, af, ad, hm2, hS2, hb2⟩
      have H2 := Lib.hid (And.intro (H1.out.1.below hb2) (And.intro hm2 (And.intro H1.out.2.1 (And.intro (show ∀ i, mS gm an af ad i → w.heap.size ≤ i from fun i hi => Nat.le_trans H1.out.2.2.size (hS2 i hi)) (H1.out.2.2.trans (hb2.mono H1.out.2.2.size)))))); clear hm2 hb2 hS2
      go_wp2_with fail
      go_loopw [10] (fun i wr => ∃ k : Nat, k ≤ n0 ∧ i = .int .i64 k ∧ SomeDisk wr g gl mb 16 ∧ MAt wr gm an af ad 16 ∧ Below w.heap.size w wr) (fun i _ => n0 - (intOf i).toNat)
      case atStart => exact ⟨0, by omega, rfl, H2.out.1, H2.out.2.1, H2.out.2.2.2.2⟩
      case round =>
        obtain ⟨k, hk, rfl, hd, hm, hb⟩ := hrel
        by_cases hlt : k < n0
        · have g3 : (k : Int) < (n0 : Int) := by omega
          have hka : k < l0.length := by rw [HO.out.2.1]; exact hlt
          have hrd := HO.out.1.below hb (Nat.le_refl _)
          obtain ⟨b, off, hA, hbC, hc, hld⟩ := rows_load (P := Try.prog) 4 Do.cells (fun _ => rfl) (by omega) l0 hrd k hka
          subst hA
          have hld := hld 0
          change Sem.run _ _ wr = .ok _ wr at hld
          have hat := (HO.out.2.2 _ (List.getElem_mem hka)).at hb
          have hok := (HOk.out _ (List.getElem_mem hka)).1
          generalize l0[k]'hka = o at *
          have HC := Lib.hid (call_any o hat hok hd hm hb.size H2.out.2.2.1 H2.out.2.2.2.1)
          have HB := Lib.hid hb
          clear hc hat hok hd hm hb hrd
          go_wp2_with fail
          refine HC.out.mono ?_
          rintro e w3 ⟨⟨v, rfl⟩, hd3, hm3, hb3⟩
          have H3 := Lib.hid (And.intro hd3 (And.intro hm3 (HB.out.trans hb3))); clear hd3 hm3 hb3
          go_wp2_with fail
          go_roundw
          case rel => exact ⟨k + 1, by omega, by go_num, H3.out.1, H3.out.2.1, H3.out.2.2⟩
          case measure => simp [intOf]; omega
        · obtain rfl : k = n0 := by omega
          have H4 := Lib.hid (And.intro hd (And.intro hm hb)); clear hd hm hb
          obtain ⟨d0, hd0, hn0'⟩ := H4.out.1
          have HCr := Lib.hid (crash_any [] none 0 0 0 hd0 Rd.nil rfl (Nat.zero_le _))
          obtain ⟨hwi, hnow⟩ := WI.start hn0'
          clear hd0 hn0'
          have HWI := Lib.hid (And.intro hwi hnow)
          clear hwi hnow
          go_wp2_with fail
          refine HCr.out.mono ?_
          rintro e w3 ⟨rfl, hd3, hc3⟩
          have HFl := Lib.hid (flush_ok hd3 rfl)
          have HB3 := Lib.hid (H4.out.2.2.trans (hc3.below H2.out.2.2.1 H4.out.2.2.size))
          clear hd3 hc3
          go_wp2_with fail
          refine HFl.out.mono ?_
          rintro e w4 ⟨rfl, hd4, hc4⟩
          have hall := all_any hd4
          rw [HWI.out.2] at hall
          generalize (d0.crash []).flushed.step = d4 at *
          generalize (d0.crash []).now = L at *
          have HAll := Lib.hid hall
          have H5 := Lib.hid (And.intro hd4 (HB3.out.trans ((hc4.mono (T := dkS g gl mb) (fun k _ h => h.elim .inl (fun h => .inr (.inr h)))).below H2.out.2.2.1 HB3.out.size)))
          clear hd4 hc4 hall
          obtain ⟨S0, hS0⟩ : ∃ S, allS L = S := ⟨_, rfl⟩
          have HS0 := Lib.hid hS0
          clear hS0
          go_wp2_with fail
          refine HAll.out.mono ?_
          rintro e w5 ⟨rfl, hb5⟩
          rw [HS0.out]
          have H6 := Lib.hid (And.intro (show ∃ d, DiskAt w5 g gl mb d ∧ WI L d from ⟨d4, H5.out.1.below hb5, HWI.out.1⟩) (H5.out.2.trans (hb5.mono H5.out.2.size)))
          clear hb5
          go_wp2_with fail
          go_loopw [12] (fun i wr => ∃ k : Nat, k ≤ n1 ∧ i = .int .i64 k ∧ (∃ d, DiskAt wr g gl mb d ∧ WI L d) ∧ Below w.heap.size w wr) (fun i _ => n1 - (intOf i).toNat)
          case atStart => exact ⟨0, by omega, rfl, H6.out.1, H6.out.2⟩
          case round =>
            obtain ⟨k, hk, rfl, ⟨d, hd, hwi⟩, hb⟩ := hrel
            by_cases hlt : k < n1
            · have g3 : (k : Int) < (n1 : Int) := by omega
              have hka : k < l1.length := by rw [HO1.out.2.1]; exact hlt
              have hrd := HO1.out.1.below hb (Nat.le_refl _)
              have hat := (HO1.out.2.2 _ (List.getElem_mem hka)).at hb
              obtain ⟨b, off, at_, A2, m, c2, bs, hA, q1, q2, hr2, hl2⟩ := do_facts hrd k hka hat
              subst hA
              have hcd : Chg (fun _ => False) wr wr.drew := (Chg.refl _ _).drew
              have HC := Lib.hid (write_wi at_ A2 m c2 w.heap.size bs (hd.chg hcd id id id) hr2.drew hl2 hwi)
              have HB := Lib.hid (show Below w.heap.size w wr.drew from hb.trans (hcd.below (fun _ h => absurd h id) hb.size))
              clear hd hwi hb hka hrd hat hr2 hl2 hcd
              go_wp2_with fail
              go_still_tail 11, (by kernel_rfl)
              change wpList _ _ _ _ _ wr.drew
              obtain ⟨wd, hwd⟩ : ∃ x, wr.drew = x := ⟨_, rfl⟩
              rw [hwd] at HC HB q1 q2 ⊢
              clear hwd
              go_wp2_with fail
              refine HC.out.mono ?_
              rintro e w7 ⟨⟨v, rfl⟩, hd7, hc7⟩
              have H7 := Lib.hid (And.intro hd7 (HB.out.trans (hc7.below H2.out.2.2.1 HB.out.size))); clear hd7 hc7
              go_wp2_with fail
              go_roundw
              case rel => exact ⟨k + 1, by omega, by go_num, H7.out.1, H7.out.2⟩
              case measure => simp [intOf]; omega
            · obtain rfl : k = n1 := by omega
              obtain ⟨w6, rfl⟩ : ∃ x, x = wr := ⟨_, rfl⟩
              rcases (show kk = 0 ∨ kk = 1 by omega) with h01 | h01
              · have g7 : ((kk : Int) == 1) = false := by subst h01; rfl
                have HCr2 := Lib.hid (crash_any [] none 0 0 0 hd Rd.nil rfl (Nat.zero_le _))
                have HW2 := Lib.hid hwi
                have HB6 := Lib.hid hb
                clear hd hwi hb h01
                go_wp2_with fail
                refine HCr2.out.mono ?_
                rintro e w7 ⟨rfl, hd7, hc7⟩
                have hal7 := all_any hd7
                rw [HW2.out.crash0, HS0.out] at hal7
                have HA7 := Lib.hid hal7
                have HB7 := Lib.hid (HB6.out.trans (hc7.below H2.out.2.2.1 HB6.out.size))
                clear hd7 hc7 hal7
                go_wp2_with fail
                refine HA7.out.mono ?_
                rintro e w8 ⟨rfl, hb8⟩
                have H9 := Lib.hid (HB7.out.trans (hb8.mono HB7.out.size))
                clear hb8
                go_wp2_with fail
                go_roundw
                case rel => exact ⟨kk + 1, by omega, by go_num, H9.out⟩
                case measure => simp [intOf]; omega
              · have g7 : ((kk : Int) == 1) = true := by subst h01; rfl
                have HA6 := Lib.hid (all_any hd)
                have HW2 := Lib.hid (And.intro hwi hd)
                have HB6 := Lib.hid hb
                clear hd hwi hb h01
                go_wp2_with fail
                refine HA6.out.mono ?_
                rintro e w7 ⟨rfl, hb7⟩
                obtain ⟨S1, hS1⟩ : ∃ S, allS d.now = S := ⟨_, rfl⟩
                rw [hS1]
                have HS1 := Lib.hid hS1
                have H7 := Lib.hid (And.intro (HW2.out.2.below hb7) (HB6.out.trans (hb7.mono HB6.out.size)))
                clear hb7 hS1
                go_wp2_with fail
                go_loopw [13, 14] (fun v i wr => ∃ k : Nat, k ≤ 16 ∧ i = .int .i64 k ∧ wr.ownsRow w7.heap.size 4 1 v k (tv (List.replicate k true)) ∧ Below w7.heap.size w7 wr) (fun _ i _ => 16 - (intOf i).toNat)
                case atStart => exact ⟨0, by omega, rfl, World.ownsRow_nil _ _ _ _, Below.refl _ _⟩
                case round =>
                  obtain ⟨k, hk, rfl, hown, hb⟩ := hrel
                  obtain ⟨A1, c1, rfl, hc1, hm1⟩ := own_is_slice hown
                  by_cases hlt : k < 16
                  · have g3 : (k : Int) < 16 := by omega
                    go_wp2_with (at_builtin; refine wpList_append_one wr rfl (.tmp 89) (.tmp 90) _ rfl w7.heap.size 4 j0 (.bool false) 1 Try.underlying33 hj0 hy0 hy1 hy2 rfl _ k _ hown rfl (.bool true) rfl rfl ?_ ?_ hb.size ?_)
                    · unfold maxLen; omega
                    · omega
                    intro v2 w8 hown2 hg2
                    have e1 : tv (List.replicate k true) ++ [.bool true] = tv (List.replicate (k + 1) true) := by
                      rw [List.replicate_succ']
                      simp [tv]
                    rw [e1] at hown2
                    have hb2 := hb.trans (below_of_grown hown hg2 hb.size)
                    obtain ⟨A2, c2, rfl, hc2, hm2⟩ := own_is_slice hown2
                    have H8 := Lib.hid (And.intro hown2 hb2); clear hown2 hb2 hg2 hown hb e1
                    go_wp2_with fail
                    go_roundw
                    case rel => exact ⟨k + 1, by omega, by go_num, H8.out.1, H8.out.2⟩
                    case measure => simp [intOf]; omega
                  · obtain rfl : k = 16 := by omega
                    have hrk : Rd wr wr.heap.size A1 (tv (List.replicate 16 true)) := Rd.of_own hown
                    have HCr2 := Lib.hid (crash_any (List.replicate 16 true) A1 16 c1 wr.heap.size (H7.out.1.below hb) hrk (by simp) (Nat.le_refl _))
                    have HB8 := Lib.hid (H7.out.2.trans (hb.mono H7.out.2.size))
                    clear hown hb hrk
                    go_wp2_with fail
                    refine HCr2.out.mono ?_
                    rintro e w9 ⟨rfl, hd9, hc9⟩
                    have hal9 := all_any hd9
                    rw [HW2.out.1.crash1, HS1.out] at hal9
                    have HA9 := Lib.hid hal9
                    have HB9 := Lib.hid (HB8.out.trans (hc9.below H2.out.2.2.1 HB8.out.size))
                    clear hd9 hc9 hal9
                    go_wp2_with fail
                    refine HA9.out.mono ?_
                    rintro e w10 ⟨rfl, hb10⟩
                    have H9 := Lib.hid (HB9.out.trans (hb10.mono HB9.out.size))
                    clear hb10
                    go_wp2_with fail
                    go_roundw
                    case rel => exact ⟨kk + 1, by omega, by go_num, H9.out⟩
                    case measure => simp [intOf]; omega
    · obtain rfl : kk = 2 := by omega
      go_wp2_with fail
      refine (awake_any wo).mono ?_
      rintro e w8 ⟨rfl, hb8⟩
      have B8 := Lib.hid (HBo.out.trans (hb8.mono HBo.out.size)); clear hb8
      go_wp2_with fail
      go_ret
      exact ⟨rfl, B8.out⟩

end Go.Proofs.Ytmddpjdgnamlnaa
namespace Go.Proofs.Ytmddpjdgnamlnaa.pdiskWhole
open Go.ChangeShapes Go.WideShapes Go.ChangeAt Go.RowKit
open Go.ChangeMaps (open_string shut_string)

set_option linter.unusedVariables false in
set_option maxRecDepth 100000 in
theorem lifted (os : Os) (started : os.Started) (H : Type) (enc : TypeId × Value → H) :
    ReturnsInHanded {} Try.checked os 3 .any (Rows.pdiskWholeSpec.pre6 enc Try.prog Try.f3 Rows.pdiskWholeRow.domain false) (Rows.pdiskWholeSpec.post enc Try.prog Try.f3 false true false false) := by
  refine returnsInHanded_of_change (C := Try.checked) own started (by kernel_rfl) Try.func3
    (ChangeSpec.witness6 (enc := enc) (C := Try.checked) false ⟨#[], #[.slice none 0 0, .slice none 0 0], []⟩ 8 (by kernel_rfl) (by kernel_rfl) (by kernel_rfl) (by kernel_rfl)) ?_
  intro W base args ds gs before hval0 hW hcnd _
  have hval : ∀ (j : Nat) t v, Try.f3.params[j]? = some t → args[j]? = some v → Value.okWide Try.prog W .any base t v := hval0
  have hW' := hW
  obtain ⟨p, q, hA0, hV, rfl, hfz, hnd⟩ := hW
  have hA : DataW.TrodAll enc Try.prog W 0 (fun _ => true) true Try.f3.params.toList args.toList ds p := hA0
  rw [Try.params3] at hA hval
  obtain ⟨v0, vs0, d0, ds0, p0, q0, hargs, rfl, rfl, h0, r'0⟩ := trodAll_cons hA
  obtain ⟨v1, vs1, d1, ds1, p1, q1, rfl, rfl, rfl, h1, r'1⟩ := trodAll_cons r'0
  obtain ⟨rfl, rfl, rfl⟩ := trodAll_nil r'1
  obtain rfl : args = #[v0, v1] := by cases args; simp_all
  obtain ⟨rfl, rfl⟩ := trodVars_none hV
  have k0 := h0
  have lt0 : ∀ x ∈ p0, x.block < W.heap.size := by obtain ⟨m, hm⟩ := k0; exact DataW.trod_lt m _ _ _ hm
  obtain ⟨a0, n0, c0, rfl⟩ := okWide_slice Try.underlying22 (hval 0 22 v0 rfl rfl)
  obtain ⟨l0, r0, e0, b0, m0, o0⟩ := openDos h0
  have k1 := h1
  have lt1 : ∀ x ∈ p1, x.block < W.heap.size := by obtain ⟨m, hm⟩ := k1; exact DataW.trod_lt m _ _ _ hm
  obtain ⟨a1, n1, c1, rfl⟩ := okWide_slice Try.underlying22 (hval 1 22 v1 rfl rfl)
  obtain ⟨l1, r1, e1, b1, m1, o1⟩ := openDos h1
  clear hA0 hval0
  refine (pdiskWhole_walk a0 n0 c0 l0 a1 n1 c1 l1 W r0 e0 b0 m0 o0 r1 e1 b1 m1 o1).mono fun e W' ⟨he, bel⟩ => ?_
  subst he
  exact ⟨_, rfl, _, _, _, [], _, [], hW', trodAll_mk1 (shut_bool Try.underlying4 _), (trodAll_cons_mk (Below.trod laidOut (by kernel_rfl) (of_decide_eq_true (by kernel_rfl)) k0 bel lt0) (trodAll_cons_mk (Below.trod laidOut (by kernel_rfl) (of_decide_eq_true (by kernel_rfl)) k1 bel lt1) trodAll_mk0)), rfl, bel.frame _, fun h => by cases h⟩

theorem over : Rows.pdiskWholeRow.holds Try.pinned (OpenSpec.ofChange Rows.pdiskWholeSpec) :=
  OpenClaim.holds_of_wide 3 Try.f3 rfl rfl rfl rfl rfl rfl rfl ⟨rfl, rfl, rfl, rfl, rfl⟩ rfl rfl rfl rfl rfl (by kernel_rfl) Try.func3 (by kernel_rfl)
    (of_decide_eq_true (by kernel_rfl)) (by unfold Func.isWrapper; first | (rw [if_pos (by decide +kernel)]; kernel_rfl) | (rw [if_neg (by decide +kernel)]; exact ⟨rfl, rfl⟩))
    (fun os started H enc _ => lifted os started H enc)

/-- The statement. -/
theorem proved : Rows.PdiskWholeSaid := over
#print axioms proved
end Go.Proofs.Ytmddpjdgnamlnaa.pdiskWhole
