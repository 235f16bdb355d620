/- CodeReads: bytes are read as just these things, in any order of asking.. No condition. -/
import Derived.Test.YtlipnncbpbbdnaaReads
import Derived.Test.YtlipnncbpbbdnaaOpen
namespace Go.Proofs.Ytlipnncbpbbdnaa
open Go.RowKit

theorem own_drewN {w : World} {base : Nat} {e : TypeId} {size n : Nat} {v : Value} {xs : List Value} (h : w.ownsRow base e size v n xs) (m : Nat) : (w.drewN m).ownsRow base e size v n xs := h
theorem holds_drewN {w : World} {g : Nat} {l : List UInt8} (h : Holds w g l) (m : Nat) : Holds (w.drewN m) g l := h
theorem grown_drewN {w : World} {g : Nat} (m : Nat) : w.grownBy (w.drewN m) (some g) := ⟨rfl, rfl, rfl, Nat.le_refl _, fun _ _ _ => rfl⟩
theorem num_le (l : List UInt8) : (num l).2.1 ≤ l.length := by
  unfold num
  split
  · simp
  · split
    · simp
    · show 4 ≤ _
      omega
theorem int_le (l : List UInt8) : (int l).2.1 ≤ l.length := by
  unfold int
  split
  · simp
  · show 8 ≤ _
    omega
theorem text_le (l : List UInt8) : (text l).2.1 ≤ l.length := by
  unfold text
  split
  · simp
  · split
    · simp
    · split
      · simp
      · show 4 + _ ≤ _
        omega

set_option linter.unusedVariables false in
set_option maxRecDepth 40000 in
set_option maxHeartbeats 800000 in
theorem codeReads_walk (a0 : Option Addr) (n0 c0 : Nat) (l0 : List UInt8) (a1 : Option Addr) (n1 c1 : Nat) (l1 : List Int) (w : World) (r0 : Rd w w.heap.size a0 (bv l0)) (e0 : l0.length = n0) (b0 : n0 ≤ c0) (m0 : c0 ≤ maxLen) (r1 : Rd w w.heap.size a1 (iv l1)) (e1 : l1.length = n1) (b1 : n1 ≤ c1) (m1 : c1 ≤ maxLen) (f1 : ∀ n ∈ l1, (Lit.int .i64 n).wf = true) :
    Calls Try.prog 7 #[.slice a0 n0 c0, .slice a1 n1 c1] w fun e w' => e = .returned (.bool true) ∧ Below w.heap.size w w' := by
  have z1 : n1 ≤ 9223372036854775807 := by unfold maxLen at m1; omega
  have z0 : c0 ≤ 9223372036854775807 := by unfold maxLen at m0; omega
  by_cases hlong : 262144 < n0
  · go_enter Try.func7, Try.ntmps7
    go_wp2_with fail
    go_ret
    exact ⟨rfl, Below.refl _ _⟩
  have hn : n0 ≤ 262144 := by omega
  have hd0 : decide (262144 < (n0 : Int)) = false := by simp; omega
  by_cases hlong1 : 100 < n1
  · go_enter Try.func7, Try.ntmps7
    go_wp2_with fail
    go_ret
    exact ⟨rfl, Below.refl _ _⟩
  have hn1 : n1 ≤ 100 := by omega
  have hd1 : decide (100 < (n1 : Int)) = false := by simp; omega
  clear hlong hlong1 m0 m1
  have H0 := Lib.hid (And.intro r0 e0)
  have H1 := Lib.hid (And.intro r1 (And.intro e1 f1))
  clear r0 e0 r1 e1 f1
  go_enter Try.func7, Try.ntmps7
  go_wp2_with fail
  refine (lent_any a0 n0 c0 l0 w H0.out.1 H0.out.2 (by omega)).mono ?_
  rintro e w1 ⟨x, cap, rfl, hx1, hb1⟩
  have hxx : w.heap.size ≤ x ∧ x < w1.heap.size ∧ n0 + 6 ≤ cap ∧ cap ≤ maxLen := by
    rcases own_form hx1 with ⟨h, _⟩ | ⟨g', cap', h, h1, h2, h3, h4⟩
    · cases h
    · injection h with h5 _ h6
      injection h5 with h5
      injection h5 with h5
      subst h5 h6
      exact ⟨h1, h2, h3, h4⟩
  have Hx := Lib.hid hx1; clear hx1
  have B1 := Lib.hid hb1; clear hb1
  go_wp2_with fail
  refine (new_any _ n0 cap l0 w1 (Rd.front (Rd.of_own Hx.out) _ _ rfl) H0.out.2 (by omega) hxx.2.2.2).mono ?_
  rintro e w2 ⟨g, rfl, hg, hh, hb2⟩
  have hxg : x < g := by omega
  have hwg : w.heap.size ≤ g := by omega
  clear hg
  have B2 := Lib.hid (B1.out.trans (hb2.mono B1.out.size))
  have Hx2 := Lib.hid (own_below Hx.out hb2 (Nat.le_refl _))
  have HH := Lib.hid hh; clear hh hb2
  go_wp2_with fail
  go_loopw [7, 8, 9] (fun at_ i nn wr => ∃ k t : Nat, k ≤ n1 ∧ t ≤ n0 ∧ i = .int .i64 k ∧ at_ = .int .i64 t ∧ Holds wr g (l0.drop t) ∧
    wr.ownsRow w.heap.size 5 1 (.slice (some ⟨x, 0, none⟩) (n0 + 6) cap) (n0 + 6) (bv l0 ++ bv (marks 6)) ∧ Below w.heap.size w wr) (fun _ i _ _ => n1 - (intOf i).toNat)
  case atStart => exact ⟨0, 0, by omega, by omega, rfl, rfl, HH.out, Hx2.out, B2.out⟩
  case round =>
    obtain ⟨k, t, hk, ht, rfl, rfl, hhold, hown, hb⟩ := hrel
    have HHold := Lib.hid hhold; clear hhold
    have HO := Lib.hid hown; clear hown
    have HB := Lib.hid hb; clear hb
    by_cases hlt : k < n1
    · have hkl : k < l1.length := by have := H1.out.2.1; omega
      obtain ⟨bb, off, rfl, hbb, hc⟩ := (H1.out.1.below HB.out (Nat.le_refl _)).at_ (k := k) (by rw [iv_length]; exact hkl)
      have hcell : wr.cell? ⟨bb, off + k, none⟩ = some (.int .i64 l1[k]) := hc k _ (iv_at l1 k hkl)
      clear hc
      generalize l1[k] = q at hcell
      have hcut := H0.out.1.cut (k := t) (cap := c0) (by rw [bv_length]; have := H0.out.2; omega)
      obtain ⟨A', hA'⟩ : ∃ A', (if c0 = t then a0 else a0.map (·.add t)) = A' := ⟨_, rfl⟩
      rw [hA', bv_drop] at hcut
      have HA := Lib.hid hcut; clear hcut
      by_cases hq0 : q = 0
      · subst hq0
        have hspec : ∃ v kk er, num (l0.drop t) = (v, kk, er) := ⟨_, _, _, rfl⟩
        obtain ⟨v, kk, er, hs⟩ := hspec
        have hkk : kk ≤ n0 - t := by
          have h9 := num_le (l0.drop t)
          rw [hs, List.length_drop, H0.out.2] at h9
          exact h9
        have c1 := number_any g (l0.drop t) wr HHold.out
        rw [hs] at c1
        have C1 := Lib.hid c1; clear c1
        go_wp2_with fail
        refine Calls.mono C1.out ?_
        rintro e w3 ⟨rfl, hh3, hg3⟩
        have B3 := Lib.hid (below_row HB.out hg3 hwg HB.out.size)
        have O3 := Lib.hid (HO.out.kept hg3 (.inr (by simp [Value.ownBlock]; omega)))
        have HH3 := Lib.hid hh3; clear hh3 hg3
        have c2 := refNumber_any A' (n0 - t) (c0 - t) w.heap.size (l0.drop t) w3 ((HA.out).below B3.out (Nat.le_refl _)) (by rw [List.length_drop, H0.out.2]) (by omega)
        rw [hs] at c2
        have C2 := Lib.hid c2; clear c2 hs
        go_wp2_with fail
        refine Calls.mono C2.out ?_
        rintro e w4 ⟨rfl, m, rfl⟩
        have c3 := left_any g _ (w3.drewN m) (holds_drewN HH3.out m)
        have hlen : (((List.drop kk (l0.drop t)).length : Nat) : Int) = (n0 : Int) - ((t : Int) + (kk : Int)) := by
          rw [List.length_drop, List.length_drop, H0.out.2]
          omega
        rw [hlen] at c3
        have C3 := Lib.hid c3; clear c3 hlen
        go_wp2_with fail
        refine Calls.mono C3.out ?_
        rintro e w5 ⟨rfl, rfl⟩
        go_wp2_with fail
        go_roundw
        case rel => exact ⟨k + 1, t + kk, by omega, by omega, by go_num, by go_num, by have h9 := HH3.out; rw [List.drop_drop] at h9; exact h9, O3.out, B3.out.trans ⟨rfl, rfl, rfl, Nat.le_refl _, fun _ _ => rfl⟩⟩
        case measure => simp [intOf]; omega
      have hq0' : (q == 0) = false := by simpa using hq0
      by_cases hq1 : q = 1
      · subst hq1
        have hspec : ∃ v kk er, int (l0.drop t) = (v, kk, er) := ⟨_, _, _, rfl⟩
        obtain ⟨v, kk, er, hs⟩ := hspec
        have hkk : kk ≤ n0 - t := by
          have h9 := int_le (l0.drop t)
          rw [hs, List.length_drop, H0.out.2] at h9
          exact h9
        have c1 := int_any g (l0.drop t) wr HHold.out
        rw [hs] at c1
        have C1 := Lib.hid c1; clear c1
        go_wp2_with fail
        refine Calls.mono C1.out ?_
        rintro e w3 ⟨rfl, hh3, hg3⟩
        have B3 := Lib.hid (below_row HB.out hg3 hwg HB.out.size)
        have O3 := Lib.hid (HO.out.kept hg3 (.inr (by simp [Value.ownBlock]; omega)))
        have HH3 := Lib.hid hh3; clear hh3 hg3
        have c2 := refInt_any A' (n0 - t) (c0 - t) w.heap.size (l0.drop t) w3 ((HA.out).below B3.out (Nat.le_refl _)) (by rw [List.length_drop, H0.out.2]) (by omega)
        rw [hs] at c2
        have C2 := Lib.hid c2; clear c2 hs
        go_wp2_with fail
        refine Calls.mono C2.out ?_
        rintro e w4 ⟨rfl, rfl⟩
        have c3 := left_any g _ w3 HH3.out
        have hlen : (((List.drop kk (l0.drop t)).length : Nat) : Int) = (n0 : Int) - ((t : Int) + (kk : Int)) := by
          rw [List.length_drop, List.length_drop, H0.out.2]
          omega
        rw [hlen] at c3
        have C3 := Lib.hid c3; clear c3 hlen
        go_wp2_with fail
        refine Calls.mono C3.out ?_
        rintro e w5 ⟨rfl, rfl⟩
        go_wp2_with fail
        go_roundw
        case rel => exact ⟨k + 1, t + kk, by omega, by omega, by go_num, by go_num, by have h9 := HH3.out; rw [List.drop_drop] at h9; exact h9, O3.out, B3.out⟩
        case measure => simp [intOf]; omega
      have hq1' : (q == 1) = false := by simpa using hq1
      by_cases hq2 : q = 2
      · subst hq2
        have hspec : ∃ v kk er, text (l0.drop t) = (v, kk, er) := ⟨_, _, _, rfl⟩
        obtain ⟨v, kk, er, hs⟩ := hspec
        have hkk : kk ≤ n0 - t := by
          have h9 := text_le (l0.drop t)
          rw [hs, List.length_drop, H0.out.2] at h9
          exact h9
        have c1 := text_any g (l0.drop t) wr HHold.out
        rw [hs] at c1
        have C1 := Lib.hid c1; clear c1
        go_wp2_with fail
        refine Calls.mono C1.out ?_
        rintro e w3 ⟨rfl, hh3, hg3⟩
        have B3 := Lib.hid (below_row HB.out hg3 hwg HB.out.size)
        have O3 := Lib.hid (HO.out.kept hg3 (.inr (by simp [Value.ownBlock]; omega)))
        have HH3 := Lib.hid hh3; clear hh3 hg3
        have c2 := refText_any A' (n0 - t) (c0 - t) w.heap.size (l0.drop t) w3 ((HA.out).below B3.out (Nat.le_refl _)) (by rw [List.length_drop, H0.out.2]) (by omega) (by omega)
        rw [hs] at c2
        have C2 := Lib.hid c2; clear c2 hs
        go_wp2_with fail
        refine Calls.mono C2.out ?_
        rintro e w4 ⟨rfl, m, rfl⟩
        have c3 := left_any g _ (w3.drewN m) (holds_drewN HH3.out m)
        have hlen : (((List.drop kk (l0.drop t)).length : Nat) : Int) = (n0 : Int) - ((t : Int) + (kk : Int)) := by
          rw [List.length_drop, List.length_drop, H0.out.2]
          omega
        rw [hlen] at c3
        have C3 := Lib.hid c3; clear c3 hlen
        go_wp2_with fail
        refine Calls.mono C3.out ?_
        rintro e w5 ⟨rfl, rfl⟩
        go_wp2_with fail
        go_roundw
        case rel => exact ⟨k + 1, t + kk, by omega, by omega, by go_num, by go_num, by have h9 := HH3.out; rw [List.drop_drop] at h9; exact h9, O3.out, B3.out.trans ⟨rfl, rfl, rfl, Nat.le_refl _, fun _ _ => rfl⟩⟩
        case measure => simp [intOf]; omega
      have hq2' : (q == 2) = false := by simpa using hq2
      have c3 := left_any g _ wr HHold.out
      have hlen : (((l0.drop t).length : Nat) : Int) = (n0 : Int) - (t : Int) := by
        rw [List.length_drop, H0.out.2]
        omega
      rw [hlen] at c3
      have C3 := Lib.hid c3; clear c3 hlen
      clear hq0 hq1 hq2
      go_wp2_with fail
      refine Calls.mono C3.out ?_
      rintro e w5 ⟨rfl, rfl⟩
      go_wp2_with fail
      go_roundw
      case rel => exact ⟨k + 1, t, by omega, by omega, by go_num, rfl, HHold.out, HO.out, HB.out⟩
      case measure => simp [intOf]; omega
    · obtain rfl : k = n1 := by omega
      go_wp2_with fail
      refine (reads_any wr).mono ?_
      rintro e w3 ⟨rfl, hb3⟩
      have B3 := Lib.hid hb3; clear hb3
      have HO3 := Lib.hid (own_below HO.out B3.out (Nat.le_refl _))
      have hb4 := HB.out.trans (B3.out.mono HB.out.size)
      have B4 := Lib.hid hb4; clear hb4
      go_wp2_with fail
      refine (kept_any w.heap.size x n0 cap c0 w.heap.size a0 l0 w3 (by omega) HO3.out (H0.out.1.below B4.out (Nat.le_refl _)) H0.out.2).mono ?_
      rintro e w' ⟨rfl, rfl⟩
      go_wp2_with fail
      go_ret
      exact ⟨rfl, B4.out⟩

end Go.Proofs.Ytlipnncbpbbdnaa
namespace Go.Proofs.Ytlipnncbpbbdnaa.codeReads
open Go.ChangeShapes Go.WideShapes Go.ChangeAt Go.RowKit
open Go.ChangeMaps (open_string shut_string)

set_option linter.unusedVariables false in
set_option maxRecDepth 100000 in
theorem lifted (os : Os) (started : os.Started) (H : Type) (enc : TypeId × Value → H) :
    ReturnsInHanded {} Try.checked os 7 .any (Rows.codeReadsSpec.pre6 enc Try.prog Try.f7 Rows.codeReadsRow.domain false) (Rows.codeReadsSpec.post enc Try.prog Try.f7 false true false false) := by
  refine returnsInHanded_of_change (C := Try.checked) own started (by kernel_rfl) Try.func7
    (ChangeSpec.witness6 (enc := enc) (C := Try.checked) false ⟨#[], #[.slice none 0 0, .slice none 0 0], []⟩ 8 (by kernel_rfl) (by kernel_rfl) (by kernel_rfl) (by kernel_rfl)) ?_
  intro W base args ds gs before hval0 hW hcnd _
  have hval : ∀ (j : Nat) t v, Try.f7.params[j]? = some t → args[j]? = some v → Value.okWide Try.prog W .any base t v := hval0
  have hW' := hW
  obtain ⟨p, q, hA0, hV, rfl, hfz, hnd⟩ := hW
  have hA : DataW.TrodAll enc Try.prog W 0 (fun _ => true) true Try.f7.params.toList args.toList ds p := hA0
  rw [Try.params7] at hA hval
  obtain ⟨v0, vs0, d0, ds0, p0, q0, hargs, rfl, rfl, h0, r'0⟩ := trodAll_cons hA
  obtain ⟨v1, vs1, d1, ds1, p1, q1, rfl, rfl, rfl, h1, r'1⟩ := trodAll_cons r'0
  obtain ⟨rfl, rfl, rfl⟩ := trodAll_nil r'1
  obtain rfl : args = #[v0, v1] := by cases args; simp_all
  obtain ⟨rfl, rfl⟩ := trodVars_none hV
  have k0 := h0
  have lt0 : ∀ x ∈ p0, x.block < W.heap.size := by obtain ⟨m, hm⟩ := k0; exact DataW.trod_lt m _ _ _ hm
  obtain ⟨a0, n0, c0, rfl⟩ := okWide_slice Try.underlying22 (hval 0 22 v0 rfl rfl)
  obtain ⟨l0, r0, e0, b0, m0⟩ := openBytes Try.underlying22 Try.underlying5 (by kernel_rfl) h0
  have k1 := h1
  have lt1 : ∀ x ∈ p1, x.block < W.heap.size := by obtain ⟨m, hm⟩ := k1; exact DataW.trod_lt m _ _ _ hm
  obtain ⟨a1, n1, c1, rfl⟩ := okWide_slice Try.underlying37 (hval 1 37 v1 rfl rfl)
  obtain ⟨l1, r1, e1, b1, m1, f1⟩ := openInts Try.underlying37 Try.underlying3 (by kernel_rfl) h1
  clear hA0 hval0
  refine (codeReads_walk a0 n0 c0 l0 a1 n1 c1 l1 W r0 e0 b0 m0 r1 e1 b1 m1 f1).mono fun e W' ⟨he, bel⟩ => ?_
  subst he
  exact ⟨_, rfl, _, _, _, [], _, [], hW', trodAll_mk1 (shut_bool Try.underlying4 _), (trodAll_cons_mk (Below.trod laidOut (by kernel_rfl) (of_decide_eq_true (by kernel_rfl)) k0 bel lt0) (trodAll_cons_mk (Below.trod laidOut (by kernel_rfl) (of_decide_eq_true (by kernel_rfl)) k1 bel lt1) trodAll_mk0)), rfl, bel.frame _, fun h => by cases h⟩

theorem over : Rows.codeReadsRow.holds Try.pinned (OpenSpec.ofChange Rows.codeReadsSpec) :=
  OpenClaim.holds_of_wide 7 Try.f7 rfl rfl rfl rfl rfl rfl rfl ⟨rfl, rfl, rfl, rfl, rfl⟩ rfl rfl rfl rfl rfl (by kernel_rfl) Try.func7 (by kernel_rfl)
    (of_decide_eq_true (by kernel_rfl)) (by unfold Func.isWrapper; first | (rw [if_pos (by decide +kernel)]; kernel_rfl) | (rw [if_neg (by decide +kernel)]; exact ⟨rfl, rfl⟩))
    (fun os started H enc _ => lifted os started H enc)

/-- The statement. -/
theorem proved : Rows.CodeReadsSaid := over
#print axioms proved
end Go.Proofs.Ytlipnncbpbbdnaa.codeReads
