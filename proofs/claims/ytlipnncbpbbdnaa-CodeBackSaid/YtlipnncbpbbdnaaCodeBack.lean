/- CodeBack: what is put is read, with anything behind it.. No condition. -/
import Derived.Test.YtlipnncbpbbdnaaBack
import Derived.Test.YtlipnncbpbbdnaaOpen
namespace Go.Proofs.Ytlipnncbpbbdnaa
open Go.RowKit

theorem putText_res (A : Option Addr) (n c : Nat) (l : List UInt8) (s : ByteArray) (w : World) (hr : Rd w w.heap.size A (bv l)) (hl : l.length = n) (hn : n ≤ 1099511627776) (hs : s.size ≤ maxLen) :
    Calls Try.prog 17 #[.slice A n c, .string s] w fun e w' => ∃ v f, e = .returned (.tuple #[v, .int .i64 f]) ∧ Below w.heap.size w w' := by
  by_cases h : s.size ≤ 65536
  · exact (putText_ok A n c l s w hr hl hn h).mono fun e w' ⟨v, h1, _, h2⟩ => ⟨v, 0, h1, h2⟩
  · exact (putText_no A n c s w (by omega) hs).mono fun e w' ⟨h1, h2⟩ => ⟨_, 2, h1, h2 ▸ Below.refl _ _⟩

set_option linter.unusedVariables false in
set_option maxRecDepth 40000 in
set_option maxHeartbeats 800000 in
theorem codeBack_walk (x0 : Int) (x1 : Int) (s2 : ByteArray) (a3 : Option Addr) (n3 c3 : Nat) (l3 : List UInt8) (w : World) (f0 : (Lit.int .i64 x0).wf = true) (f1 : (Lit.int .i64 x1).wf = true) (m2 : s2.size ≤ maxLen) (r3 : Rd w w.heap.size a3 (bv l3)) (e3 : l3.length = n3) (b3 : n3 ≤ c3) (m3 : c3 ≤ maxLen) :
    Calls Try.prog 10 #[.int .i64 x0, .int .i64 x1, .string s2, .slice a3 n3 c3] w fun e w' => e = .returned (.bool true) ∧ Below w.heap.size w w' := by
  have wa := bounds_i64 f0
  have wb := bounds_i64 f1
  clear f0 f1
  have z2 : s2.size ≤ 9223372036854775807 := by unfold maxLen at m2; omega
  have z3 : n3 ≤ 9223372036854775807 := by unfold maxLen at m3; omega
  by_cases hlong : 262144 < s2.size
  · go_enter Try.func10, Try.ntmps10
    go_wp2_with fail
    go_ret
    exact ⟨rfl, Below.refl _ _⟩
  have hd0 : decide (262144 < (s2.size : Int)) = false := by simp; omega
  by_cases hlong1 : 262144 < n3
  · go_enter Try.func10, Try.ntmps10
    go_wp2_with fail
    go_ret
    exact ⟨rfl, Below.refl _ _⟩
  have hn3 : n3 ≤ 262144 := by omega
  have hd1 : decide (262144 < (n3 : Int)) = false := by simp; omega
  clear hlong hlong1
  have H3 := Lib.hid (And.intro r3 e3)
  have M2 := Lib.hid m2
  clear r3 e3 m3 m2
  by_cases hx : x0 < 0 ∨ 2147483647 < x0
  · have hx2 : x0 < 0 ∨ (decide (x0 < 0) = false ∧ decide (2147483647 < x0) = true) := by
      rcases hx with h | h
      · exact .inl h
      · exact .inr ⟨by simp; omega, by simpa using h⟩
    have HX := Lib.hid hx
    clear hx
    rcases hx2 with hx2 | ⟨hx2, hx3⟩
    all_goals
      go_enter Try.func10, Try.ntmps10
      go_wp2_with fail
      refine (putNumber_no none 0 0 x0 w HX.out).mono ?_
      rintro e w' ⟨rfl, rfl⟩
      go_wp2_with fail
      refine (putInt_any none 0 0 [] x1 w Rd.nil rfl (by omega)).mono ?_
      rintro e w1 ⟨v, rfl, hown, hb1⟩
      rw [← bv_append] at hown
      obtain ⟨A, c, rfl, hr, hl, _, _⟩ := own_rd hown
      have HR := Lib.hid (And.intro hr (And.intro hl hb1)); clear hr hl hown hb1
      go_wp2_with fail
      refine (putText_res A _ c _ s2 w1 HR.out.1 HR.out.2.1 (by omega) M2.out).mono ?_
      rintro e w2 ⟨v, f, rfl, hb2⟩
      have B2 := Lib.hid (HR.out.2.2.trans (hb2.mono HR.out.2.2.size)); clear hb2
      go_wp2_with fail
      refine (puts_any w2).mono ?_
      rintro e w3 ⟨rfl, hb3⟩
      have B3 := Lib.hid (B2.out.trans (hb3.mono B2.out.size)); clear hb3
      go_wp2_with fail
      refine (reads_any w3).mono ?_
      rintro e w4 ⟨rfl, hb4⟩
      have B4 := Lib.hid (B3.out.trans (hb4.mono B3.out.size)); clear hb4
      go_wp2_with fail
      go_ret
      exact ⟨rfl, B4.out⟩
  obtain ⟨u, rfl⟩ : ∃ u : Nat, x0 = u := ⟨x0.toNat, by omega⟩
  have hu : u ≤ 2147483647 := by omega
  have hu0 : decide ((u : Int) < 0) = false := by simp
  have hu1 : decide (2147483647 < (u : Int)) = false := by simp; omega
  clear hx wa
  have HW := Lib.hid wb; clear wb
  by_cases hs : 65536 < s2.size
  · have hs' : decide (65536 < (s2.size : Int)) = true := by simp; omega
    have HS := Lib.hid hs; clear hs
    go_enter Try.func10, Try.ntmps10
    go_wp2_with fail
    refine (putNumber_ok none 0 0 [] u w Rd.nil rfl (by omega) hu).mono ?_
    rintro e w1 ⟨v, rfl, hown, hb1⟩
    rw [← bv_append] at hown
    obtain ⟨A, c, rfl, hr, hl, _, _⟩ := own_rd hown
    have HR := Lib.hid (And.intro hr (And.intro hl hb1)); clear hr hl hown hb1
    go_wp2_with fail
    refine (putInt_any A _ c _ x1 w1 HR.out.1 HR.out.2.1 (by omega)).mono ?_
    rintro e w2 ⟨v, rfl, hown, hb2⟩
    rw [← bv_append] at hown
    obtain ⟨A2, c2, rfl, hr, hl, _, _⟩ := own_rd hown
    have HB2 := Lib.hid (HR.out.2.2.trans (hb2.mono HR.out.2.2.size)); clear hb2
    have HR2 := Lib.hid (And.intro hr hl); clear hr hl hown
    go_wp2_with fail
    refine (putText_no A2 _ c2 s2 w2 HS.out M2.out).mono ?_
    rintro e w' ⟨rfl, rfl⟩
    go_wp2_with fail
    refine (puts_any w2).mono ?_
    rintro e w3 ⟨rfl, hb3⟩
    have B3 := Lib.hid (HB2.out.trans (hb3.mono HB2.out.size)); clear hb3
    go_wp2_with fail
    refine (reads_any w3).mono ?_
    rintro e w4 ⟨rfl, hb4⟩
    have B4 := Lib.hid (B3.out.trans (hb4.mono B3.out.size)); clear hb4
    go_wp2_with fail
    go_ret
    exact ⟨rfl, B4.out⟩
  have hs2 : s2.size ≤ 65536 := by omega
  clear hs
  obtain ⟨i0, hi0, hz0, hz1, hz2⟩ := info_parts u8_info
  go_enter Try.func10, Try.ntmps10
  go_wp2_with fail
  refine (putNumber_ok none 0 0 [] u w Rd.nil rfl (by omega) hu).mono ?_
  rintro e w1 ⟨v, rfl, hown, hb1⟩
  rw [← bv_append] at hown
  obtain ⟨A, c, rfl, hr, hl, _, _⟩ := own_rd hown
  have HR := Lib.hid (And.intro hr (And.intro hl hb1)); clear hr hl hown hb1
  go_wp2_with fail
  refine (putInt_any A _ c _ x1 w1 HR.out.1 HR.out.2.1 (by omega)).mono ?_
  rintro e w2 ⟨v, rfl, hown, hb2⟩
  rw [← bv_append] at hown
  obtain ⟨A2, c2, rfl, hr, hl, _, _⟩ := own_rd hown
  have HB2 := Lib.hid (HR.out.2.2.trans (hb2.mono HR.out.2.2.size)); clear hb2
  have HR2 := Lib.hid (And.intro hr hl); clear hr hl hown
  go_wp2_with fail
  refine (putText_ok A2 _ c2 _ s2 w2 HR2.out.1 HR2.out.2 (by omega) hs2).mono ?_
  rintro e w3 ⟨v, rfl, hown, hb3⟩
  have B3 := Lib.hid (HB2.out.trans (hb3.mono HB2.out.size)); clear hb3
  have hown := own_base hown HB2.out.size
  obtain ⟨A3, c3', rfl, hv1, hv2⟩ := own_is_slice hown
  have hr3 := H3.out.1.below B3.out (Nat.le_refl _)
  go_wp2_with (at_builtin; refine wpList_append_rd _ rfl (.tmp 64) (.tmp 65) _ rfl w.heap.size 5 i0 (.int .u8 0) 1 1 Try.underlying22 hi0 hz0 hz1 hz2 rfl (by omega) _ _ _ hown rfl w.heap.size a3 n3 c3 (bv l3) hr3 rfl ?_ (bv_one l3) ?_ ?_ B3.out.size ?_)
  · rw [bv_length, H3.out.2]; omega
  · unfold maxLen; omega
  · omega
  intro v4 w4 hown4 hg4
  have B4 := Lib.hid (B3.out.trans (below_of_grown hown hg4 B3.out.size))
  clear hown hg4 hr3
  obtain ⟨A4, c4, rfl, hr4, hc4, hm4⟩ : ∃ A c, v4 = .slice A (0 + 4 + 8 + 4 + s2.size + n3) c ∧ Rd w4 w4.heap.size A (bv (beN 4 u ++ (beN 8 (word x1) ++ (beN 4 s2.size ++ (s2.data.toList ++ l3))))) ∧ (0 + 4 + 8 + 4 + s2.size + n3) ≤ c ∧ c ≤ maxLen := by
    obtain ⟨A, c, e, h1, h2⟩ := own_is_slice hown4
    subst e
    refine ⟨A, c, rfl, ?_, h1, h2⟩
    have := Rd.of_own hown4
    simpa only [← bv_append, List.nil_append, List.append_assoc] using this
  clear hown4
  have HR4 := Lib.hid (And.intro hr4 (And.intro hc4 hm4)); clear hr4 hc4 hm4
  go_wp2_with fail
  refine (new_any A4 _ c4 _ w4 HR4.out.1 (by simp only [List.length_append, beN_length, H3.out.2]; simp; omega) HR4.out.2.1 HR4.out.2.2).mono ?_
  rintro e w5 ⟨g, rfl, hg, hh, hb5⟩
  have hg0 : w.heap.size ≤ g := Nat.le_trans B4.out.size hg
  have B5 := Lib.hid (B4.out.trans (hb5.mono B4.out.size)); clear hb5 hg
  have C1 := number_any g _ w5 hh
  rw [num_put u _ hu] at C1
  have C1 := Lib.hid C1; clear hh
  go_wp2_with fail
  refine Calls.mono C1.out ?_
  rintro e w6 ⟨rfl, hh, hgr⟩
  have B6 := Lib.hid (below_row B5.out hgr hg0 B5.out.size)
  have C2 := int_any g _ w6 hh
  rw [List.drop_left' (beN_length 4 u), int_put x1 _ HW.out.1 HW.out.2] at C2
  have C2 := Lib.hid C2; clear hh hgr
  go_wp2_with fail
  refine Calls.mono C2.out ?_
  rintro e w7 ⟨rfl, hh, hgr⟩
  have B7 := Lib.hid (below_row B6.out hgr hg0 B6.out.size)
  have C3 := text_any g _ w7 hh
  rw [List.drop_left' (beN_length 8 _), text_put s2 _ hs2] at C3
  have C3 := Lib.hid C3; clear hh hgr
  go_wp2_with fail
  refine Calls.mono C3.out ?_
  rintro e w8 ⟨rfl, hh, hgr⟩
  have B8 := Lib.hid (below_row B7.out hgr hg0 B7.out.size)
  have hh2 : Holds w8 g l3 := by
    have e4 : (beN 4 s2.size ++ (s2.data.toList ++ l3)).drop (4 + s2.size) = l3 := by
      rw [← List.append_assoc]
      exact List.drop_left' (by simp [beN_length])
    rw [e4] at hh
    exact hh
  have HH := Lib.hid hh2; clear hh hh2 hgr
  go_wp2_with fail
  refine (puts_any w8).mono ?_
  rintro e w9 ⟨rfl, hb9⟩
  have HH9 := Lib.hid (HH.out.below hb9)
  have B9 := Lib.hid (B8.out.trans (hb9.mono B8.out.size)); clear hb9
  go_wp2_with fail
  refine (reads_any w9).mono ?_
  rintro e w10 ⟨rfl, hb10⟩
  have C4 := left_any g _ w10 (HH9.out.below hb10)
  rw [H3.out.2] at C4
  have C4 := Lib.hid C4
  have B10 := Lib.hid (B9.out.trans (hb10.mono B9.out.size)); clear hb10
  go_wp2_with fail
  refine Calls.mono C4.out ?_
  rintro e w' ⟨rfl, rfl⟩
  go_wp2_with fail
  go_ret
  exact ⟨rfl, B10.out⟩

end Go.Proofs.Ytlipnncbpbbdnaa
namespace Go.Proofs.Ytlipnncbpbbdnaa.codeBack
open Go.ChangeShapes Go.WideShapes Go.ChangeAt Go.RowKit
open Go.ChangeMaps (open_string shut_string)

set_option linter.unusedVariables false in
set_option maxRecDepth 100000 in
theorem lifted (os : Os) (started : os.Started) (H : Type) (enc : TypeId × Value → H) :
    ReturnsInHanded {} Try.checked os 10 .any (Rows.codeBackSpec.pre6 enc Try.prog Try.f10 Rows.codeBackRow.domain false) (Rows.codeBackSpec.post enc Try.prog Try.f10 false true false false) := by
  refine returnsInHanded_of_change (C := Try.checked) own started (by kernel_rfl) Try.func10
    (ChangeSpec.witness6 (enc := enc) (C := Try.checked) false ⟨#[], #[.int .i64 0, .int .i64 0, .string ByteArray.empty, .slice none 0 0], []⟩ 8 (by kernel_rfl) (by kernel_rfl) (by kernel_rfl) (by kernel_rfl)) ?_
  intro W base args ds gs before hval0 hW hcnd _
  have hval : ∀ (j : Nat) t v, Try.f10.params[j]? = some t → args[j]? = some v → Value.okWide Try.prog W .any base t v := hval0
  have hW' := hW
  obtain ⟨p, q, hA0, hV, rfl, hfz, hnd⟩ := hW
  have hA : DataW.TrodAll enc Try.prog W 0 (fun _ => true) true Try.f10.params.toList args.toList ds p := hA0
  rw [Try.params10] at hA hval
  obtain ⟨v0, vs0, d0, ds0, p0, q0, hargs, rfl, rfl, h0, r'0⟩ := trodAll_cons hA
  obtain ⟨v1, vs1, d1, ds1, p1, q1, rfl, rfl, rfl, h1, r'1⟩ := trodAll_cons r'0
  obtain ⟨v2, vs2, d2, ds2, p2, q2, rfl, rfl, rfl, h2, r'2⟩ := trodAll_cons r'1
  obtain ⟨v3, vs3, d3, ds3, p3, q3, rfl, rfl, rfl, h3, r'3⟩ := trodAll_cons r'2
  obtain ⟨rfl, rfl, rfl⟩ := trodAll_nil r'3
  obtain rfl : args = #[v0, v1, v2, v3] := by cases args; simp_all
  obtain ⟨rfl, rfl⟩ := trodVars_none hV
  have k0 := h0
  have lt0 : ∀ x ∈ p0, x.block < W.heap.size := by obtain ⟨m, hm⟩ := k0; exact DataW.trod_lt m _ _ _ hm
  obtain ⟨x0, rfl, rfl, rfl, f0⟩ := open_int Try.underlying3 (hval 0 3 v0 rfl rfl) h0
  have k1 := h1
  have lt1 : ∀ x ∈ p1, x.block < W.heap.size := by obtain ⟨m, hm⟩ := k1; exact DataW.trod_lt m _ _ _ hm
  obtain ⟨x1, rfl, rfl, rfl, f1⟩ := open_int Try.underlying3 (hval 1 3 v1 rfl rfl) h1
  have k2 := h2
  have lt2 : ∀ x ∈ p2, x.block < W.heap.size := by obtain ⟨m, hm⟩ := k2; exact DataW.trod_lt m _ _ _ hm
  obtain ⟨s2, rfl, rfl, rfl, m2⟩ := open_string Try.underlying9 (hval 2 9 v2 rfl rfl) h2
  have k3 := h3
  have lt3 : ∀ x ∈ p3, x.block < W.heap.size := by obtain ⟨m, hm⟩ := k3; exact DataW.trod_lt m _ _ _ hm
  obtain ⟨a3, n3, c3, rfl⟩ := okWide_slice Try.underlying22 (hval 3 22 v3 rfl rfl)
  obtain ⟨l3, r3, e3, b3, m3⟩ := openBytes Try.underlying22 Try.underlying5 (by kernel_rfl) h3
  clear hA0 hval0
  refine (codeBack_walk x0 x1 s2 a3 n3 c3 l3 W f0 f1 m2 r3 e3 b3 m3).mono fun e W' ⟨he, bel⟩ => ?_
  subst he
  exact ⟨_, rfl, _, _, _, [], _, [], hW', trodAll_mk1 (shut_bool Try.underlying4 _), (trodAll_cons_mk (Below.trod laidOut (by kernel_rfl) (of_decide_eq_true (by kernel_rfl)) k0 bel lt0) (trodAll_cons_mk (Below.trod laidOut (by kernel_rfl) (of_decide_eq_true (by kernel_rfl)) k1 bel lt1) (trodAll_cons_mk (Below.trod laidOut (by kernel_rfl) (of_decide_eq_true (by kernel_rfl)) k2 bel lt2) (trodAll_cons_mk (Below.trod laidOut (by kernel_rfl) (of_decide_eq_true (by kernel_rfl)) k3 bel lt3) trodAll_mk0)))), rfl, bel.frame _, fun h => by cases h⟩

theorem over : Rows.codeBackRow.holds Try.pinned (OpenSpec.ofChange Rows.codeBackSpec) :=
  OpenClaim.holds_of_wide 10 Try.f10 rfl rfl rfl rfl rfl rfl rfl ⟨rfl, rfl, rfl, rfl, rfl⟩ rfl rfl rfl rfl rfl (by kernel_rfl) Try.func10 (by kernel_rfl)
    (of_decide_eq_true (by kernel_rfl)) (by unfold Func.isWrapper; first | (rw [if_pos (by decide +kernel)]; kernel_rfl) | (rw [if_neg (by decide +kernel)]; exact ⟨rfl, rfl⟩))
    (fun os started H enc _ => lifted os started H enc)

/-- The statement. -/
theorem proved : Rows.CodeBackSaid := over
#print axioms proved
end Go.Proofs.Ytlipnncbpbbdnaa.codeBack
