/- ChunkOther: of chunks one of which is another piece nothing is joined, but where it has the same sum. No condition. -/
import Derived.Test.YtdfjaephlabnhaaOther
import Derived.Test.YtdfjaephlabnhaaOpen
namespace Go.Proofs.Ytdfjaephlabnhaa
open Go.RowKit

theorem str_info : (Try.prog.info? 9).map (fun i => (i.zero, i.size, i.bytes)) = some (some (.string ⟨#[]⟩), 1, 16) := by kernel_rfl
theorem sv_swap_succ (s : ByteArray) (k j : Nat) (p : ByteArray) (hj : j < nPieces s.size) : sv ((swapped s k p).take (j + 1)) = sv ((swapped s k p).take j) ++ [.string (if k = j then p else piece s j)] := by
  have h : j < (swapped s k p).length := by rw [swapped_length]; exact hj
  rw [List.take_succ_eq_append_getElem h, swapped_at]
  simp [sv]


set_option linter.unusedVariables false in
set_option maxRecDepth 40000 in
set_option maxHeartbeats 3200000 in
theorem chunkOther_walk (s0 : ByteArray) (x1 : Int) (s2 : ByteArray) (w : World) (m0 : s0.size ≤ maxLen) (f1 : (Lit.int .i64 x1).wf = true) (m2 : s2.size ≤ maxLen) :
    Calls Try.prog 8 #[.string s0, .int .i64 x1, .string s2] w fun e w' => e = .returned (.bool true) ∧ Below w.heap.size w w' := by
  unfold maxLen at m0 m2
  have hwf := bounds_i64 f1
  by_cases hlong : 5000 < s0.size
  · have h1 : (5000 : Int) < (s0.size : Int) := by omega
    go_enter Try.func8, Try.ntmps8
    go_wp2_with fail
    go_ret
    exact ⟨rfl, Below.refl _ _⟩
  have h1 : ¬ (5000 : Int) < (s0.size : Int) := by omega
  have hd1 : decide ((5000 : Int) < (s0.size : Int)) = false := by simp; omega
  by_cases hlong2 : 5000 < s2.size
  · have h2 : (5000 : Int) < (s2.size : Int) := by omega
    go_enter Try.func8, Try.ntmps8
    go_wp2_with fail
    go_ret
    exact ⟨rfl, Below.refl _ _⟩
  have h2 : ¬ (5000 : Int) < (s2.size : Int) := by omega
  have hd2 : decide ((5000 : Int) < (s2.size : Int)) = false := by simp; omega
  have hok : s0.size ≤ 65536 := by omega
  have hs2 : s2.size ≤ 5000 := by omega
  have HOf := Lib.hid (of_ok s0 w hok)
  have HCu := Lib.hid (fun (k : Nat) (W : World) => cut_any s0 k W (by omega))
  clear hlong hlong2 m0 m2 f1
  obtain ⟨n, hn⟩ : ∃ n, nPieces s0.size = n := ⟨_, rfl⟩
  have hN : n ≤ 1000 := by rw [← hn]; unfold nPieces; omega
  have HN := Lib.hid hn
  obtain ⟨i0, hi0, hz0, hz1, hz2⟩ := info_parts str_info
  have HLS := Lib.hid (iv_sums_length s0)
  clear hn
  by_cases hat : x1 < 0 ∨ (n : Int) ≤ x1
  · have hg : (decide (x1 < 0) || decide ((n : Int) ≤ x1)) = true := by simp; omega
    rcases hat with hat | hat
    all_goals
      go_enter Try.func8, Try.ntmps8
      go_wp2_with fail
      refine HOf.out.mono ?_
      rintro e w1 ⟨V, rfl, hown1, hb1⟩
      rw [HN.out] at hown1
      obtain ⟨A1, c1, rfl, _, _⟩ := own_is_slice hown1
      have B1 := Lib.hid (hb1.alloc hb1.size (.cells #[.int .i64 s0.size, .slice A1 n c1] 24)); clear hb1 hown1
      go_wp2_with fail
      refine (cuts_any _).mono ?_
      rintro e w2 ⟨rfl, hb2⟩
      have B2 := Lib.hid (B1.out.trans (hb2.mono B1.out.size)); clear hb2
      go_wp2_with fail
      refine (joins_any _).mono ?_
      rintro e w3 ⟨rfl, hb3⟩
      have B3 := Lib.hid (B2.out.trans (hb3.mono B2.out.size)); clear hb3
      go_wp2_with fail
      go_ret
      exact ⟨rfl, B3.out⟩
  obtain ⟨kk, rfl⟩ := Int.eq_ofNat_of_zero_le (show 0 ≤ x1 by omega)
  have hkk : kk < n := by omega
  have ha1 : decide ((kk : Int) < 0) = false := by simp
  have ha2 : decide ((n : Int) ≤ (kk : Int)) = false := by simp; omega
  have ha3 : decide (n ≤ kk) = false := by simp; omega
  clear hat hwf
  go_enter Try.func8, Try.ntmps8
  go_wp2_with fail
  refine HOf.out.mono ?_
  rintro e w1 ⟨V, rfl, hown1, hb1⟩
  rw [HN.out] at hown1
  obtain ⟨A1, c1, rfl, _, _⟩ := own_is_slice hown1
  have T1 := Lib.hid (Two.new_at w1 _ rfl 24 (.int .i64 s0.size) (.slice A1 n c1))
  have B1 := Lib.hid (hb1.alloc hb1.size (.cells #[.int .i64 s0.size, .slice A1 n c1] 24))
  have R1 := Lib.hid (Rd.more ((Rd.of_own hown1).alloc (Nat.le_refl _) (.cells #[.int .i64 s0.size, .slice A1 n c1] 24)) (by simp) : Rd _ (w1.alloc (.cells #[.int .i64 s0.size, .slice A1 n c1] 24)).heap.size A1 (iv (sumsOf s0)))
  have S1 := Lib.hid (show w1.heap.size < (w1.alloc (.cells #[.int .i64 s0.size, .slice A1 n c1] 24)).heap.size by simp)
  clear hb1 hown1
  go_wp2_with fail
  generalize w1.alloc (.cells #[.int .i64 s0.size, .slice A1 n c1] 24) = wx at *
  go_loopw [9, 10, 11] (fun v sm i wr => ∃ k : Nat, k ≤ n ∧ i = .int .i64 k ∧ sm = .bool (decide (kk < k) && likeB s0 kk s2) ∧ wr.ownsRow wx.heap.size 9 1 v k (sv ((swapped s0 kk s2).take k)) ∧ Below wx.heap.size wx wr) (fun _ _ i _ => n - (intOf i).toNat)
  case atStart => exact ⟨0, by omega, rfl, rfl, World.ownsRow_nil _ _ _ _, Below.refl _ _⟩
  case round =>
    obtain ⟨k, hk, rfl, rfl, hown, hb⟩ := hrel
    have t3 := T1.out.below hb S1.out
    have p0 := t3.cell0; have p1 := t3.cell1
    have HO := Lib.hid (And.intro hown hb); clear hown hb t3
    by_cases hlt : k < n
    · have g3 : (k : Int) < (n : Int) := by omega
      have hkp : k < nPieces s0.size := by rw [HN.out]; exact hlt
      obtain ⟨eS, eE⟩ := cutS_piece s0 k hok hkp
      have hl8 : (piece s0 k).size ≤ 80 := by rw [piece_size]; omega
      have HSV := Lib.hid (sv_swap_succ s0 kk k s2 hkp)
      obtain ⟨smv, hsm⟩ : ∃ b, (decide (kk < k) && likeB s0 kk s2) = b := ⟨_, rfl⟩
      rw [hsm]
      have HSM := Lib.hid hsm; clear hsm hkp
      go_wp2_with fail
      refine (HCu.out k _).mono ?_
      rintro e w2 ⟨rfl, hb2⟩
      rw [eS, eE]
      have HB2 := Lib.hid (And.intro (own_below HO.out.1 hb2 (Nat.le_refl _)) (HO.out.2.trans (hb2.mono HO.out.2.size)))
      clear hb2 eS eE p0 p1
      by_cases hke : k = kk
      · subst hke
        have hcmp : ((k : Int) == (k : Int)) = true := by simp
        have hls : likeB s0 k s2 = (decide ((piece s0 k).size = s2.size) && decide (sumOf (piece s0 k) = sumOf s2)) := rfl
        have HX := Lib.hid hls; clear hls
        generalize piece s0 k = x at *
        by_cases hsz : x.size = s2.size
        · have hcz : ((x.size : Int) == (s2.size : Int)) = true := by rw [hsz]; simp
          have HZ := Lib.hid hsz; clear hsz
          obtain ⟨v9, w9, hcr, hb9, A9, c9, rfl, w8, hr9, hb8⟩ := bytes_made x w2
          have HB9 := Lib.hid (And.intro (own_below HB2.out.1 hb9 (Nat.le_refl _)) (And.intro (HB2.out.2.trans (hb9.mono HB2.out.2.size)) (hr9.below hb8 (Nat.le_refl _)))); clear hb9 hr9 hb8
          obtain ⟨v7, w7, hcr7, hb7, A7, c7, rfl, w6, hr7, hb6⟩ := bytes_made s2 w9
          have HB7 := Lib.hid (And.intro (own_below HB9.out.1 hb7 (Nat.le_refl _)) (And.intro (HB9.out.2.1.trans (hb7.mono HB9.out.2.1.size)) (hr7.below hb6 (Nat.le_refl _)))); clear hb7 hr7 hb6
          have HS9 := Lib.hid (sum_any A9 x.size c9 _ x.data.toList w9 HB9.out.2.2 (by simp) (by omega))
          have HS7 := Lib.hid (sum_any A7 s2.size c7 _ s2.data.toList w7 HB7.out.2.2 (by simp) (by omega))
          go_wp2_with fail
          refine Calls.mono HS9.out ?_
          rintro e w' ⟨rfl, rfl⟩
          go_wp2_with fail
          refine Calls.mono HS7.out ?_
          rintro e w' ⟨rfl, rfl⟩
          have hsz7 := Lib.hid HB7.out.2.1.size
          go_wp2_with (at_builtin; refine wpList_append_one w7 rfl (.tmp 79) (.tmp 81) _ rfl wx.heap.size 9 i0 _ 16 Try.underlying40 hi0 hz0 hz1 hz2 rfl _ k _ HB7.out.1 rfl (.string s2) (by simp [Value.oneCell']) rfl ?_ ?_ hsz7.out ?_)
          · unfold maxLen; omega
          · omega
          intro v5 w5 hown5 hg5
          have HB5 := Lib.hid (And.intro hown5 (HB7.out.2.1.trans (below_of_grown HB7.out.1 hg5 HB7.out.2.1.size))); clear hown5 hg5
          go_wp2_with fail
          go_roundw
          case rel =>
            refine ⟨k + 1, by omega, by go_num, ?_, by rw [HSV.out, if_pos trivial]; exact HB5.out.1, HB5.out.2⟩
            rw [HX.out, decide_eq_true (Nat.lt_succ_self k), decide_eq_true HZ.out]
            simp only [Bool.true_and]
            exact congrArg Value.bool (decide_eq_decide.2 Iff.rfl)
          case measure => simp [intOf]; omega
        · have hcz : ((x.size : Int) == (s2.size : Int)) = false := by simp; omega
          have HZ := Lib.hid hsz; clear hsz
          have hsz2 := Lib.hid HB2.out.2.size
          go_wp2_with (at_builtin; refine wpList_append_one w2 rfl (.tmp 79) (.tmp 81) _ rfl wx.heap.size 9 i0 _ 16 Try.underlying40 hi0 hz0 hz1 hz2 rfl _ k _ HB2.out.1 rfl (.string s2) (by simp [Value.oneCell']) rfl ?_ ?_ hsz2.out ?_)
          · unfold maxLen; omega
          · omega
          intro v5 w5 hown5 hg5
          have HB5 := Lib.hid (And.intro hown5 (HB2.out.2.trans (below_of_grown HB2.out.1 hg5 HB2.out.2.size))); clear hown5 hg5
          go_wp2_with fail
          go_roundw
          case rel =>
            refine ⟨k + 1, by omega, by go_num, ?_, by rw [HSV.out, if_pos trivial]; exact HB5.out.1, HB5.out.2⟩
            rw [HX.out, decide_eq_false HZ.out]
            simp
          case measure => simp [intOf]; omega
      · have hcmp : ((k : Int) == (kk : Int)) = false := by simp; omega
        have HK := Lib.hid hke; clear hke
        have hsz2 := Lib.hid HB2.out.2.size
        generalize piece s0 k = x at *
        go_wp2_with (at_builtin; refine wpList_append_one w2 rfl (.tmp 79) (.tmp 81) _ rfl wx.heap.size 9 i0 _ 16 Try.underlying40 hi0 hz0 hz1 hz2 rfl _ k _ HB2.out.1 rfl (.string x) (by simp [Value.oneCell']) rfl ?_ ?_ hsz2.out ?_)
        · unfold maxLen; omega
        · omega
        intro v5 w5 hown5 hg5
        have HB5 := Lib.hid (And.intro hown5 (HB2.out.2.trans (below_of_grown HB2.out.1 hg5 HB2.out.2.size))); clear hown5 hg5
        go_wp2_with fail
        go_roundw
        case rel =>
          refine ⟨k + 1, by omega, by go_num, ?_, by rw [HSV.out, if_neg (fun e => HK.out e.symm)]; exact HB5.out.1, HB5.out.2⟩
          rw [← HSM.out]
          congr 2
          rw [decide_eq_decide]
          have := HK.out
          omega
        case measure => simp [intOf]; omega
    · obtain rfl : k = n := by omega
      have hown := HO.out.1
      obtain ⟨A2, c2, rfl, hc2, _⟩ := own_is_slice hown
      have hkp : kk < nPieces s0.size := by rw [HN.out]; exact hkk
      have hpl : (swapped s0 kk s2).length = k := by rw [swapped_length]; exact HN.out
      have hrp : Rd wr wr.heap.size A2 (sv (swapped s0 kk s2)) := by
        have h := Rd.of_own hown
        rw [List.take_of_length_le (by omega)] at h
        exact h
      have hpz : ∀ p ∈ swapped s0 kk s2, p.size ≤ 1000000 := by
        intro p hp
        obtain ⟨j, hj, rfl⟩ := List.getElem_of_mem hp
        rw [swapped_at]
        split
        · omega
        · rw [piece_size]; omega
      have hjp := join_swapped s0 kk s2 hok hkp
      have hsame := swapped_same s0 kk s2
      have HJ := join_any s0.size A1 A2 k c1 wx.heap.size k c2 wr.heap.size (sumsOf s0) (swapped s0 kk s2) wr (R1.out.below HO.out.2 (Nat.le_refl _)) HO.out.2.size (HLS.out.trans HN.out) (by omega) hrp (Nat.le_refl _) hpl hc2 (by omega) hpz
      rw [hjp.1, hjp.2] at HJ
      have HJ := Lib.hid HJ
      have HSM := Lib.hid hsame
      clear hpl hrp hpz hjp hown hc2 hsame hkp
      rw [decide_eq_true hkk, Bool.true_and]
      generalize joinS (swapped s0 kk s2) = t at *
      cases hlk : likeB s0 kk s2
      · rw [hlk] at HJ
        simp only [Bool.false_eq_true, if_false] at HJ
        clear HSM hlk
        go_wp2_with fail
        refine HJ.out.mono ?_
        rintro e w2 ⟨rfl, hb2⟩
        have HB2 := Lib.hid (B1.out.trans ((HO.out.2.trans (hb2.mono HO.out.2.size)).mono B1.out.size)); clear hb2 p0 p1
        go_wp2_with fail
        refine (cuts_any _).mono ?_
        rintro e w4 ⟨rfl, hb4⟩
        have HB4 := Lib.hid (HB2.out.trans (hb4.mono HB2.out.size)); clear hb4
        go_wp2_with fail
        refine (joins_any _).mono ?_
        rintro e w5 ⟨rfl, hb5⟩
        have HB5 := Lib.hid (HB4.out.trans (hb5.mono HB4.out.size)); clear hb5
        go_wp2_with fail
        go_ret
        exact ⟨rfl, HB5.out⟩
      · rw [hlk] at HJ
        simp only [if_true] at HJ
        have HT := Lib.hid (HSM.out hlk)
        clear HSM hlk
        go_wp2_with fail
        refine HJ.out.mono ?_
        rintro e w2 ⟨rfl, hb2⟩
        have HB2 := Lib.hid (HO.out.2.trans (hb2.mono HO.out.2.size)); clear hb2 p0 p1
        have HO2 := of_ok t w2 (by rw [HT.out.1]; exact hok)
        rw [HT.out.1, HT.out.2, HN.out] at HO2
        have HO2 := Lib.hid HO2
        go_wp2_with fail
        refine HO2.out.mono ?_
        rintro e w3 ⟨V3, rfl, hown3, hb3⟩
        obtain ⟨A3, c3, rfl, _, _⟩ := own_is_slice hown3
        have T3 := Lib.hid (Two.new_at w3 _ rfl 24 (.int .i64 s0.size) (.slice A3 k c3))
        have HB3 := Lib.hid (HB2.out.trans (hb3.mono HB2.out.size))
        have R3 := Lib.hid (Rd.more ((Rd.of_own hown3).alloc (Nat.le_refl _) (.cells #[.int .i64 s0.size, .slice A3 k c3] 24)) (by simp) : Rd _ (w3.alloc (.cells #[.int .i64 s0.size, .slice A3 k c3] 24)).heap.size A3 (iv (sumsOf s0)))
        have BX := Lib.hid (HB3.out.alloc HB3.out.size (.cells #[.int .i64 s0.size, .slice A3 k c3] 24))
        have S3 := Lib.hid (show w3.heap.size < (w3.alloc (.cells #[.int .i64 s0.size, .slice A3 k c3] 24)).heap.size by simp)
        clear hb3 hown3
        go_wp2_with fail
        generalize w3.alloc (.cells #[.int .i64 s0.size, .slice A3 k c3] 24) = wy at *
        refine (cuts_any _).mono ?_
        rintro e w4 ⟨rfl, hb4⟩
        have HY4 := Lib.hid hb4; clear hb4
        go_wp2_with fail
        refine (joins_any _).mono ?_
        rintro e w5 ⟨rfl, hb5⟩
        have HY5 := Lib.hid (HY4.out.trans (hb5.mono HY4.out.size)); clear hb5
        have t5 := T3.out.below HY5.out S3.out
        have HX5 := Lib.hid (BX.out.trans (HY5.out.mono BX.out.size))
        have t6 := T1.out.below HX5.out S1.out
        have u0 := t5.cell0; have u1 := t5.cell1; have u2 := t6.cell0; have u3 := t6.cell1
        have hss : ((s0.size : Int) == (s0.size : Int)) = true := by simp
        have HI := Lib.hid (ints_any A3 A1 k k c3 c1 wy.heap.size wx.heap.size (sumsOf s0) (sumsOf s0) w5 (R3.out.below HY5.out (Nat.le_refl _)) (HLS.out.trans HN.out) (R1.out.below HX5.out (Nat.le_refl _)) (HLS.out.trans HN.out) (by omega) (by omega))
        have HB5 := Lib.hid (B1.out.trans (HX5.out.mono B1.out.size))
        clear t5 t6
        go_wp2_with fail
        refine HI.out.mono ?_
        rintro e w6 ⟨rfl, q6, rfl⟩
        simp only [decide_true]
        go_wp2_with fail
        go_ret
        exact ⟨rfl, below_drewN HB5.out _⟩

end Go.Proofs.Ytdfjaephlabnhaa
namespace Go.Proofs.Ytdfjaephlabnhaa.chunkOther
open Go.ChangeShapes Go.WideShapes Go.ChangeAt Go.RowKit
open Go.ChangeMaps (open_string shut_string)

set_option linter.unusedVariables false in
set_option maxRecDepth 100000 in
theorem lifted (os : Os) (started : os.Started) (H : Type) (enc : TypeId × Value → H) :
    ReturnsInHanded {} Try.checked os 8 .any (Rows.chunkOtherSpec.pre6 enc Try.prog Try.f8 Rows.chunkOtherRow.domain false) (Rows.chunkOtherSpec.post enc Try.prog Try.f8 false true false false) := by
  refine returnsInHanded_of_change (C := Try.checked) own started (by kernel_rfl) Try.func8
    (ChangeSpec.witness6 (enc := enc) (C := Try.checked) false ⟨#[], #[.string ByteArray.empty, .int .i64 0, .string ByteArray.empty], []⟩ 8 (by kernel_rfl) (by kernel_rfl) (by kernel_rfl) (by kernel_rfl)) ?_
  intro W base args ds gs before hval0 hW hcnd _
  have hval : ∀ (j : Nat) t v, Try.f8.params[j]? = some t → args[j]? = some v → Value.okWide Try.prog W .any base t v := hval0
  have hW' := hW
  obtain ⟨p, q, hA0, hV, rfl, hfz, hnd⟩ := hW
  have hA : DataW.TrodAll enc Try.prog W 0 (fun _ => true) true Try.f8.params.toList args.toList ds p := hA0
  rw [Try.params8] at hA hval
  obtain ⟨v0, vs0, d0, ds0, p0, q0, hargs, rfl, rfl, h0, r'0⟩ := trodAll_cons hA
  obtain ⟨v1, vs1, d1, ds1, p1, q1, rfl, rfl, rfl, h1, r'1⟩ := trodAll_cons r'0
  obtain ⟨v2, vs2, d2, ds2, p2, q2, rfl, rfl, rfl, h2, r'2⟩ := trodAll_cons r'1
  obtain ⟨rfl, rfl, rfl⟩ := trodAll_nil r'2
  obtain rfl : args = #[v0, v1, v2] := by cases args; simp_all
  obtain ⟨rfl, rfl⟩ := trodVars_none hV
  have k0 := h0
  have lt0 : ∀ x ∈ p0, x.block < W.heap.size := by obtain ⟨m, hm⟩ := k0; exact DataW.trod_lt m _ _ _ hm
  obtain ⟨s0, rfl, rfl, rfl, m0⟩ := open_string Try.underlying9 (hval 0 9 v0 rfl rfl) h0
  have k1 := h1
  have lt1 : ∀ x ∈ p1, x.block < W.heap.size := by obtain ⟨m, hm⟩ := k1; exact DataW.trod_lt m _ _ _ hm
  obtain ⟨x1, rfl, rfl, rfl, f1⟩ := open_int Try.underlying3 (hval 1 3 v1 rfl rfl) h1
  have k2 := h2
  have lt2 : ∀ x ∈ p2, x.block < W.heap.size := by obtain ⟨m, hm⟩ := k2; exact DataW.trod_lt m _ _ _ hm
  obtain ⟨s2, rfl, rfl, rfl, m2⟩ := open_string Try.underlying9 (hval 2 9 v2 rfl rfl) h2
  clear hA0 hval0
  refine (chunkOther_walk s0 x1 s2 W m0 f1 m2).mono fun e W' ⟨he, bel⟩ => ?_
  subst he
  exact ⟨_, rfl, _, _, _, [], _, [], hW', trodAll_mk1 (shut_bool Try.underlying4 _), (trodAll_cons_mk (Below.trod laidOut (by kernel_rfl) (of_decide_eq_true (by kernel_rfl)) k0 bel lt0) (trodAll_cons_mk (Below.trod laidOut (by kernel_rfl) (of_decide_eq_true (by kernel_rfl)) k1 bel lt1) (trodAll_cons_mk (Below.trod laidOut (by kernel_rfl) (of_decide_eq_true (by kernel_rfl)) k2 bel lt2) trodAll_mk0))), rfl, bel.frame _, fun h => by cases h⟩

theorem over : Rows.chunkOtherRow.holds Try.pinned (OpenSpec.ofChange Rows.chunkOtherSpec) :=
  OpenClaim.holds_of_wide 8 Try.f8 rfl rfl rfl rfl rfl rfl rfl ⟨rfl, rfl, rfl, rfl, rfl⟩ rfl rfl rfl rfl rfl (by kernel_rfl) Try.func8 (by kernel_rfl)
    (of_decide_eq_true (by kernel_rfl)) (by unfold Func.isWrapper; first | (rw [if_pos (by decide +kernel)]; kernel_rfl) | (rw [if_neg (by decide +kernel)]; exact ⟨rfl, rfl⟩))
    (fun os started H enc _ => lifted os started H enc)

/-- The statement. -/
theorem proved : Rows.ChunkOtherSaid := over
#print axioms proved
end Go.Proofs.Ytdfjaephlabnhaa.chunkOther
