/- ViewsHave: what is sure, enough nodes have. No condition. -/
import Derived.Test.YtlomahddominlaaOpenA
import Derived.Test.YtlomahddominlaaOpen
namespace Go.Proofs.Ytlomahddominlaa
open Go.RowKit

theorem have_enough {N own id : Int} {l : List (Int × Int)} (hN : nodesB N = true) (h1 : 1 ≤ id) (h2 : id ≤ N) (hno : ∀ a ∈ l, a.1 ≠ id) (h0 : sureN N own l ≠ 0) :
    enoughB N ((if sureN N own l ≤ own then [id] else []) ++ lN l (sureN N own l)) = true := by
  have hh := sure_has h0
  have hN7 : N ≤ 7 := by have := nodesB_of hN; omega
  unfold hasB cntA at hh
  simp only [decide_eq_true_eq] at hh
  unfold enoughB
  rw [hN]
  simp only [Bool.true_and, decide_eq_true_eq]
  by_cases ho : sureN N own l ≤ own
  · rw [if_pos ho] at hh ⊢
    have hnm : id ∉ lN l (sureN N own l) := by
      intro hm
      simp only [lN, List.mem_map, List.mem_filter] at hm
      obtain ⟨a, ⟨ha, _⟩, he⟩ := hm
      exact hno a ha he
    have := cntUp_cons_new N id _ hnm h1 h2 hN7
    rw [List.singleton_append, this]
    omega
  · rw [if_neg ho] at hh ⊢
    rw [List.nil_append]
    omega


set_option linter.unusedVariables false in
set_option maxRecDepth 40000 in
set_option maxHeartbeats 3200000 in
theorem viewsHave_walk (x0 : Int) (x1 : Int) (x2 : Int) (a3 : Option Addr) (n3 c3 : Nat) (l3 : List (Int × Int)) (w : World) (f0 : (Lit.int .i64 x0).wf = true) (f1 : (Lit.int .i64 x1).wf = true) (f2 : (Lit.int .i64 x2).wf = true) (r3 : Rd w w.heap.size a3 (ackCells l3)) (e3 : l3.length = n3) (b3 : n3 ≤ c3) (m3 : c3 ≤ maxLen) :
    Calls Try.prog 10 #[.int .i64 x0, .int .i64 x1, .int .i64 x2, .slice a3 n3 c3] w fun e w' => e = .returned (.bool true) ∧ Below w.heap.size w w' := by
  unfold maxLen at m3
  by_cases hlong : 300 < n3
  · have h1 : (300 : Int) < (n3 : Int) := by omega
    go_enter Try.func10, Try.ntmps10
    go_wp2_with fail
    refine (asks_any _).mono ?_
    rintro e w1 ⟨rfl, hb1⟩
    have B1 := Lib.hid hb1; clear hb1
    go_wp2_with fail
    refine (sureRow_any _).mono ?_
    rintro e w2 ⟨rfl, hb2⟩
    have B2 := Lib.hid (B1.out.trans (hb2.mono B1.out.size)); clear hb2
    go_wp2_with fail
    go_ret
    exact ⟨rfl, B2.out⟩
  have h1 : ¬ (300 : Int) < (n3 : Int) := by omega
  have hd1 : decide ((300 : Int) < (n3 : Int)) = false := by simp; omega
  have hn3 : n3 ≤ 300 := by omega
  have H := Lib.hid (And.intro r3 e3)
  clear r3 e3 b3 m3 hlong f0 f1 f2
  have HNo := Lib.hid (nodes_any x0 w)
  by_cases hbad : nodesB x0 = false ∨ x1 < 1 ∨ x0 < x1
  · cases hnb : nodesB x0
    · rw [hnb] at HNo
      clear hbad hnb
      go_enter Try.func10, Try.ntmps10
      go_wp2_with fail
      refine HNo.out.mono ?_
      rintro e w' ⟨rfl, rfl⟩
      go_wp2_with fail
      refine (asks_any _).mono ?_
      rintro e w1 ⟨rfl, hb1⟩
      have B1 := Lib.hid hb1; clear hb1
      go_wp2_with fail
      refine (sureRow_any _).mono ?_
      rintro e w2 ⟨rfl, hb2⟩
      have B2 := Lib.hid (B1.out.trans (hb2.mono B1.out.size)); clear hb2
      go_wp2_with fail
      go_ret
      exact ⟨rfl, B2.out⟩
    · rw [hnb] at HNo
      have hb' : x1 < 1 ∨ x0 < x1 := by
        rcases hbad with h | h
        · rw [hnb] at h; cases h
        · exact h
      clear hbad hnb
      by_cases hx1 : x1 < 1
      · clear hb'
        go_enter Try.func10, Try.ntmps10
        go_wp2_with fail
        refine HNo.out.mono ?_
        rintro e w' ⟨rfl, rfl⟩
        go_wp2_with fail
        refine (asks_any _).mono ?_
        rintro e w1 ⟨rfl, hb1⟩
        have B1 := Lib.hid hb1; clear hb1
        go_wp2_with fail
        refine (sureRow_any _).mono ?_
        rintro e w2 ⟨rfl, hb2⟩
        have B2 := Lib.hid (B1.out.trans (hb2.mono B1.out.size)); clear hb2
        go_wp2_with fail
        go_ret
        exact ⟨rfl, B2.out⟩
      · have hx2 : x0 < x1 := by omega
        have hd2 : decide (x1 < 1) = false := by simp; omega
        clear hb'
        go_enter Try.func10, Try.ntmps10
        go_wp2_with fail
        refine HNo.out.mono ?_
        rintro e w' ⟨rfl, rfl⟩
        go_wp2_with fail
        refine (asks_any _).mono ?_
        rintro e w1 ⟨rfl, hb1⟩
        have B1 := Lib.hid hb1; clear hb1
        go_wp2_with fail
        refine (sureRow_any _).mono ?_
        rintro e w2 ⟨rfl, hb2⟩
        have B2 := Lib.hid (B1.out.trans (hb2.mono B1.out.size)); clear hb2
        go_wp2_with fail
        go_ret
        exact ⟨rfl, B2.out⟩
  have hnb : nodesB x0 = true := by
    cases h : nodesB x0
    · exact absurd (.inl h) hbad
    · rfl
  have hx1 : 1 ≤ x1 := by omega
  have hx2 : x1 ≤ x0 := by omega
  have hd2 : decide (x1 < 1) = false := by simp; omega
  have hd3 : decide (x0 < x1) = false := by simp; omega
  rw [hnb] at HNo
  have hs0 := sure_nonneg x0 x2 l3
  have HV := Lib.hid (fun (hno : ∀ a ∈ l3, a.1 ≠ x1) (h0 : sureN x0 x2 l3 ≠ 0) => have_enough (own := x2) hnb hx1 hx2 hno h0)
  have HNB := Lib.hid hnb
  have HSu := Lib.hid (sure_any x0 x2 a3 n3 c3 w.heap.size l3 w H.out.1 (Nat.le_refl _) H.out.2 (by omega))
  clear hbad hnb
  obtain ⟨i0, hi0, hz0, hz1, hz2⟩ := info_parts int_info
  generalize sureN x0 x2 l3 = sn at *
  by_cases ho : sn ≤ x2
  · go_enter Try.func10, Try.ntmps10
    go_wp2_with fail
    refine HNo.out.mono ?_
    rintro e w' ⟨rfl, rfl⟩
    go_wp2_with fail
    refine HSu.out.mono ?_
    rintro e w1 ⟨rfl, hb1⟩
    have B1 := Lib.hid hb1; clear hb1
    go_wp2_with (at_builtin; refine wpList_append_one w1 rfl (.tmp 40) (.tmp 42) _ rfl w.heap.size 3 i0 _ 8 Try.underlying22 hi0 hz0 hz1 hz2 rfl (.slice none 0 0) 0 [] (World.ownsRow_nil _ _ _ _) rfl (.int .i64 x1) (by simp [Value.oneCell']) rfl ?_ ?_ B1.out.size ?_)
    · unfold maxLen; omega
    · omega
    intro v2 w2 hown2 hg2
    have H2 := Lib.hid (And.intro hown2 (B1.out.trans (below_of_grown (World.ownsRow_nil w1 w.heap.size 3 1) hg2 B1.out.size))); clear hown2 hg2
    go_wp2_with fail
    go_loopw [10, 11] (fun v i wr => ∃ (k n0 : Nat), k ≤ n3 ∧ n0 ≤ k + 1 ∧ i = .int .i64 k ∧ wr.ownsRow w.heap.size 3 1 v n0 (iv ([x1] ++ lN (l3.take k) sn)) ∧ (∀ a ∈ l3.take k, a.1 ≠ x1) ∧ Below w.heap.size w wr) (fun _ i _ => n3 - (intOf i).toNat)
    case atStart => exact ⟨0, 1, by omega, by omega, rfl, H2.out.1, by simp, H2.out.2⟩
    case round =>
      obtain ⟨k, n0, hk, hn0, rfl, hown, hno, hb⟩ := hrel
      have HO := Lib.hid (And.intro hown (And.intro hno hb)); clear hown hno hb
      by_cases hlt : k < n3
      · have g3 : (k : Int) < (n3 : Int) := by omega
        have hkl : k < l3.length := by have := H.out.2; omega
        obtain ⟨b, off, hA, hbC, q0, q1⟩ := ack_rd (H.out.1.below HO.out.2.2 (Nat.le_refl _)) k hkl
        subst hA
        have hst := lN_snoc (l3.take k) sn (l3[k]'hkl)
        rw [← List.take_succ_eq_append_getElem hkl] at hst
        have htk : l3.take (k + 1) = l3.take k ++ [l3[k]'hkl] := List.take_succ_eq_append_getElem hkl
        have HS := Lib.hid (And.intro hst htk); clear hst htk
        generalize l3[k]'hkl = a at *
        obtain ⟨x, y⟩ := a
        by_cases hxe : x = x1
        · have hcm : (x == x1) = true := by simp [hxe]
          have HX := Lib.hid hxe; clear hxe
          go_wp2_with fail
          refine (asks_any _).mono ?_
          rintro e w5 ⟨rfl, hb5⟩
          have B5 := Lib.hid (HO.out.2.2.trans (hb5.mono HO.out.2.2.size)); clear hb5
          go_wp2_with fail
          refine (sureRow_any _).mono ?_
          rintro e w6 ⟨rfl, hb6⟩
          have B6 := Lib.hid (B5.out.trans (hb6.mono B5.out.size)); clear hb6
          go_wp2_with fail
          go_ret
          exact ⟨rfl, B6.out⟩
        · have hcm : (x == x1) = false := by simp [hxe]
          have hno2 : ∀ a ∈ l3.take (k + 1), a.1 ≠ x1 := by
            rw [HS.out.2]
            intro a ha
            rcases List.mem_append.1 ha with h | h
            · exact HO.out.2.1 a h
            · obtain rfl : a = (x, y) := by simpa using h
              exact hxe
          have HN2 := Lib.hid hno2; clear hno2 hxe
          by_cases hy : sn ≤ y
          · have hs2 : lN (l3.take (k + 1)) sn = lN (l3.take k) sn ++ [x] := by rw [HS.out.1, if_pos hy]
            have HS2 := Lib.hid hs2; clear hs2
            go_wp2_with (at_builtin; refine wpList_append_one wr rfl (.tmp 68) (.tmp 74) _ rfl w.heap.size 3 i0 _ 8 Try.underlying22 hi0 hz0 hz1 hz2 rfl _ n0 _ HO.out.1 rfl (.int .i64 x) (by simp [Value.oneCell']) rfl ?_ ?_ HO.out.2.2.size ?_)
            · unfold maxLen; omega
            · omega
            intro v5 w5 hown5 hg5
            have H5 := Lib.hid (And.intro hown5 (HO.out.2.2.trans (below_of_grown HO.out.1 hg5 HO.out.2.2.size))); clear hown5 hg5
            go_wp2_with fail
            go_roundw
            case rel => exact ⟨k + 1, n0 + 1, by omega, by omega, by go_num, by rw [HS2.out, ← List.append_assoc, iv_append]; exact H5.out.1, HN2.out, H5.out.2⟩
            case measure => simp [intOf]; omega
          · have hs2 : lN (l3.take (k + 1)) sn = lN (l3.take k) sn := by rw [HS.out.1, if_neg hy, List.append_nil]
            have HS2 := Lib.hid hs2; clear hs2
            go_wp2_with fail
            go_roundw
            case rel => exact ⟨k + 1, n0, by omega, by omega, by go_num, by rw [HS2.out]; exact HO.out.1, HN2.out, HO.out.2.2⟩
            case measure => simp [intOf]; omega
      · obtain rfl : k = n3 := by omega
        have htk : l3.take k = l3 := List.take_of_length_le (by have := H.out.2; omega)
        rw [htk] at HO
        obtain ⟨A9, c9, rfl, _, _⟩ := own_is_slice HO.out.1
        go_wp2_with fail
        refine (asks_any _).mono ?_
        rintro e w5 ⟨rfl, hb5⟩
        have B5 := Lib.hid (HO.out.2.2.trans (hb5.mono HO.out.2.2.size))
        have O5 := Lib.hid (own_below HO.out.1 hb5 (Nat.le_refl _)); clear hb5
        go_wp2_with fail
        refine (sureRow_any _).mono ?_
        rintro e w6 ⟨rfl, hb6⟩
        have B6 := Lib.hid (B5.out.trans (hb6.mono B5.out.size))
        have O6 := Lib.hid (own_below O5.out hb6 (Nat.le_refl _)); clear hb6
        by_cases hz : sn = 0
        · have hzz : (sn == 0) = true := by simp [hz]
          have HZ := Lib.hid hz; clear hz
          go_wp2_with fail
          go_ret
          exact ⟨rfl, B6.out⟩
        · have hzz : (sn == 0) = false := by simp [hz]
          have hen := HV.out HO.out.2.1 hz
          rw [if_pos ho] at hen
          have hll : ([x1] ++ lN l3 sn).length = n0 := by have := O6.out.1; rw [iv_length] at this; omega
          have HEn := enough_any x0 A9 n0 c9 w6.heap.size ([x1] ++ lN l3 sn) w6 (Rd.of_own O6.out) hll (by omega)
          rw [hen] at HEn
          have HEn := Lib.hid HEn
          clear hen hll hz htk
          go_wp2_with fail
          refine HEn.out.mono ?_
          rintro e w7 ⟨rfl, rfl⟩
          go_wp2_with fail
          go_ret
          exact ⟨rfl, B6.out⟩
  · go_enter Try.func10, Try.ntmps10
    go_wp2_with fail
    refine HNo.out.mono ?_
    rintro e w' ⟨rfl, rfl⟩
    go_wp2_with fail
    refine HSu.out.mono ?_
    rintro e w1 ⟨rfl, hb1⟩
    have B1 := Lib.hid hb1; clear hb1
    go_wp2_with fail
    go_loopw [10, 11] (fun v i wr => ∃ (k n0 : Nat), k ≤ n3 ∧ n0 ≤ k ∧ i = .int .i64 k ∧ wr.ownsRow w.heap.size 3 1 v n0 (iv (lN (l3.take k) sn)) ∧ (∀ a ∈ l3.take k, a.1 ≠ x1) ∧ Below w.heap.size w wr) (fun _ i _ => n3 - (intOf i).toNat)
    case atStart => exact ⟨0, 0, by omega, by omega, rfl, World.ownsRow_nil _ _ _ _, by simp, B1.out⟩
    case round =>
      obtain ⟨k, n0, hk, hn0, rfl, hown, hno, hb⟩ := hrel
      have HO := Lib.hid (And.intro hown (And.intro hno hb)); clear hown hno hb
      by_cases hlt : k < n3
      · have g3 : (k : Int) < (n3 : Int) := by omega
        have hkl : k < l3.length := by have := H.out.2; omega
        obtain ⟨b, off, hA, hbC, q0, q1⟩ := ack_rd (H.out.1.below HO.out.2.2 (Nat.le_refl _)) k hkl
        subst hA
        have hst := lN_snoc (l3.take k) sn (l3[k]'hkl)
        rw [← List.take_succ_eq_append_getElem hkl] at hst
        have htk : l3.take (k + 1) = l3.take k ++ [l3[k]'hkl] := List.take_succ_eq_append_getElem hkl
        have HS := Lib.hid (And.intro hst htk); clear hst htk
        generalize l3[k]'hkl = a at *
        obtain ⟨x, y⟩ := a
        by_cases hxe : x = x1
        · have hcm : (x == x1) = true := by simp [hxe]
          have HX := Lib.hid hxe; clear hxe
          go_wp2_with fail
          refine (asks_any _).mono ?_
          rintro e w5 ⟨rfl, hb5⟩
          have B5 := Lib.hid (HO.out.2.2.trans (hb5.mono HO.out.2.2.size)); clear hb5
          go_wp2_with fail
          refine (sureRow_any _).mono ?_
          rintro e w6 ⟨rfl, hb6⟩
          have B6 := Lib.hid (B5.out.trans (hb6.mono B5.out.size)); clear hb6
          go_wp2_with fail
          go_ret
          exact ⟨rfl, B6.out⟩
        · have hcm : (x == x1) = false := by simp [hxe]
          have hno2 : ∀ a ∈ l3.take (k + 1), a.1 ≠ x1 := by
            rw [HS.out.2]
            intro a ha
            rcases List.mem_append.1 ha with h | h
            · exact HO.out.2.1 a h
            · obtain rfl : a = (x, y) := by simpa using h
              exact hxe
          have HN2 := Lib.hid hno2; clear hno2 hxe
          by_cases hy : sn ≤ y
          · have hs2 : lN (l3.take (k + 1)) sn = lN (l3.take k) sn ++ [x] := by rw [HS.out.1, if_pos hy]
            have HS2 := Lib.hid hs2; clear hs2
            go_wp2_with (at_builtin; refine wpList_append_one wr rfl (.tmp 68) (.tmp 74) _ rfl w.heap.size 3 i0 _ 8 Try.underlying22 hi0 hz0 hz1 hz2 rfl _ n0 _ HO.out.1 rfl (.int .i64 x) (by simp [Value.oneCell']) rfl ?_ ?_ HO.out.2.2.size ?_)
            · unfold maxLen; omega
            · omega
            intro v5 w5 hown5 hg5
            have H5 := Lib.hid (And.intro hown5 (HO.out.2.2.trans (below_of_grown HO.out.1 hg5 HO.out.2.2.size))); clear hown5 hg5
            go_wp2_with fail
            go_roundw
            case rel => exact ⟨k + 1, n0 + 1, by omega, by omega, by go_num, by rw [HS2.out, iv_append]; exact H5.out.1, HN2.out, H5.out.2⟩
            case measure => simp [intOf]; omega
          · have hs2 : lN (l3.take (k + 1)) sn = lN (l3.take k) sn := by rw [HS.out.1, if_neg hy, List.append_nil]
            have HS2 := Lib.hid hs2; clear hs2
            go_wp2_with fail
            go_roundw
            case rel => exact ⟨k + 1, n0, by omega, by omega, by go_num, by rw [HS2.out]; exact HO.out.1, HN2.out, HO.out.2.2⟩
            case measure => simp [intOf]; omega
      · obtain rfl : k = n3 := by omega
        have htk : l3.take k = l3 := List.take_of_length_le (by have := H.out.2; omega)
        rw [htk] at HO
        obtain ⟨A9, c9, rfl, _, _⟩ := own_is_slice HO.out.1
        go_wp2_with fail
        refine (asks_any _).mono ?_
        rintro e w5 ⟨rfl, hb5⟩
        have B5 := Lib.hid (HO.out.2.2.trans (hb5.mono HO.out.2.2.size))
        have O5 := Lib.hid (own_below HO.out.1 hb5 (Nat.le_refl _)); clear hb5
        go_wp2_with fail
        refine (sureRow_any _).mono ?_
        rintro e w6 ⟨rfl, hb6⟩
        have B6 := Lib.hid (B5.out.trans (hb6.mono B5.out.size))
        have O6 := Lib.hid (own_below O5.out hb6 (Nat.le_refl _)); clear hb6
        by_cases hz : sn = 0
        · have hzz : (sn == 0) = true := by simp [hz]
          have HZ := Lib.hid hz; clear hz
          go_wp2_with fail
          go_ret
          exact ⟨rfl, B6.out⟩
        · have hzz : (sn == 0) = false := by simp [hz]
          have hen := HV.out HO.out.2.1 hz
          rw [if_neg (show ¬ sn ≤ x2 by omega), List.nil_append] at hen
          have hll : (lN l3 sn).length = n0 := by have := O6.out.1; rw [iv_length] at this; omega
          have HEn := enough_any x0 A9 n0 c9 w6.heap.size (lN l3 sn) w6 (Rd.of_own O6.out) hll (by omega)
          rw [hen] at HEn
          have HEn := Lib.hid HEn
          clear hen hll hz htk
          go_wp2_with fail
          refine HEn.out.mono ?_
          rintro e w7 ⟨rfl, rfl⟩
          go_wp2_with fail
          go_ret
          exact ⟨rfl, B6.out⟩

end Go.Proofs.Ytlomahddominlaa
namespace Go.Proofs.Ytlomahddominlaa.viewsHave
open Go.ChangeShapes Go.WideShapes Go.ChangeAt Go.RowKit
open Go.ChangeMaps (open_string shut_string)

set_option linter.unusedVariables false in
set_option maxRecDepth 100000 in
theorem lifted (os : Os) (started : os.Started) (H : Type) (enc : TypeId × Value → H) :
    ReturnsInHanded {} Try.checked os 10 .any (Rows.viewsHaveSpec.pre6 enc Try.prog Try.f10 Rows.viewsHaveRow.domain false) (Rows.viewsHaveSpec.post enc Try.prog Try.f10 false true false false) := by
  refine returnsInHanded_of_change (C := Try.checked) own started (by kernel_rfl) Try.func10
    (ChangeSpec.witness6 (enc := enc) (C := Try.checked) false ⟨#[], #[.int .i64 0, .int .i64 0, .int .i64 0, .slice none 0 0], []⟩ 8 (by kernel_rfl) (by kernel_rfl) (by kernel_rfl) (by kernel_rfl)) ?_
  intro W base args ds gs before hval0 hW hcnd _
  have hval : ∀ (j : Nat) t v, Try.f10.params[j]? = some t → args[j]? = some v → Value.okWide Try.prog W .any base t v := hval0
  have hW' := hW
  obtain ⟨p, q, hA0, hV, rfl, hfz, hnd⟩ := hW
  have hA : DataW.TrodAll enc Try.prog W 0 (fun _ => true) true Try.f10.params.toList args.toList ds p := hA0
  rw [Try.params10] at hA hval
  obtain ⟨v0, vs0, d0, ds0, p0, q0, hargs, rfl, rfl, h0, r'0⟩ := trodAll_cons hA
  obtain ⟨v1, vs1, d1, ds1, p1, q1, rfl, rfl, rfl, h1, r'1⟩ := trodAll_cons r'0
  obtain ⟨v2, vs2, d2, ds2, p2, q2, rfl, rfl, rfl, h2, r'2⟩ := trodAll_cons r'1
  obtain ⟨v3, vs3, d3, ds3, p3, q3, rfl, rfl, rfl, h3, r'3⟩ := trodAll_cons r'2
  obtain ⟨rfl, rfl, rfl⟩ := trodAll_nil r'3
  obtain rfl : args = #[v0, v1, v2, v3] := by cases args; simp_all
  obtain ⟨rfl, rfl⟩ := trodVars_none hV
  have k0 := h0
  have lt0 : ∀ x ∈ p0, x.block < W.heap.size := by obtain ⟨m, hm⟩ := k0; exact DataW.trod_lt m _ _ _ hm
  obtain ⟨x0, rfl, rfl, rfl, f0⟩ := open_int Try.underlying3 (hval 0 3 v0 rfl rfl) h0
  have k1 := h1
  have lt1 : ∀ x ∈ p1, x.block < W.heap.size := by obtain ⟨m, hm⟩ := k1; exact DataW.trod_lt m _ _ _ hm
  obtain ⟨x1, rfl, rfl, rfl, f1⟩ := open_int Try.underlying3 (hval 1 3 v1 rfl rfl) h1
  have k2 := h2
  have lt2 : ∀ x ∈ p2, x.block < W.heap.size := by obtain ⟨m, hm⟩ := k2; exact DataW.trod_lt m _ _ _ hm
  obtain ⟨x2, rfl, rfl, rfl, f2⟩ := open_int Try.underlying3 (hval 2 3 v2 rfl rfl) h2
  have k3 := h3
  have lt3 : ∀ x ∈ p3, x.block < W.heap.size := by obtain ⟨m, hm⟩ := k3; exact DataW.trod_lt m _ _ _ hm
  obtain ⟨a3, n3, c3, rfl⟩ := okWide_slice Try.underlying34 (hval 3 34 v3 rfl rfl)
  obtain ⟨l3, r3, e3, b3, m3⟩ := openAcks h3
  clear hA0 hval0
  refine (viewsHave_walk x0 x1 x2 a3 n3 c3 l3 W f0 f1 f2 r3 e3 b3 m3).mono fun e W' ⟨he, bel⟩ => ?_
  subst he
  exact ⟨_, rfl, _, _, _, [], _, [], hW', trodAll_mk1 (shut_bool Try.underlying4 _), (trodAll_cons_mk (Below.trod laidOut (by kernel_rfl) (of_decide_eq_true (by kernel_rfl)) k0 bel lt0) (trodAll_cons_mk (Below.trod laidOut (by kernel_rfl) (of_decide_eq_true (by kernel_rfl)) k1 bel lt1) (trodAll_cons_mk (Below.trod laidOut (by kernel_rfl) (of_decide_eq_true (by kernel_rfl)) k2 bel lt2) (trodAll_cons_mk (Below.trod laidOut (by kernel_rfl) (of_decide_eq_true (by kernel_rfl)) k3 bel lt3) trodAll_mk0)))), rfl, bel.frame _, fun h => by cases h⟩

theorem over : Rows.viewsHaveRow.holds Try.pinned (OpenSpec.ofChange Rows.viewsHaveSpec) :=
  OpenClaim.holds_of_wide 10 Try.f10 rfl rfl rfl rfl rfl rfl rfl ⟨rfl, rfl, rfl, rfl, rfl⟩ rfl rfl rfl rfl rfl (by kernel_rfl) Try.func10 (by kernel_rfl)
    (of_decide_eq_true (by kernel_rfl)) (by unfold Func.isWrapper; first | (rw [if_pos (by decide +kernel)]; kernel_rfl) | (rw [if_neg (by decide +kernel)]; exact ⟨rfl, rfl⟩))
    (fun os started H enc _ => lifted os started H enc)

/-- The statement. -/
theorem proved : Rows.ViewsHaveSaid := over
#print axioms proved
end Go.Proofs.Ytlomahddominlaa.viewsHave
