/- SumOpens: bytes are opened just so, or refused.. No condition. -/
import Derived.Test.YthjnlngpgleplaaSeals
import Derived.Test.YthjnlngpgleplaaKeep
import Derived.Test.YthjnlngpgleplaaOpen
namespace Go.Proofs.Ythjnlngpgleplaa
open Go.RowKit

theorem below_row' {w w1 w2 : World} {C g : Nat} (hb : Below C w w1) (hg : w1.grownBy w2 (some g)) (hC : C ≤ g) (hC1 : C ≤ w1.heap.size) : Below C w w2 :=
  hb.grown hg hC1 fun k hk => by injection hk with hk; omega

set_option linter.unusedVariables false in
set_option maxRecDepth 40000 in
set_option maxHeartbeats 800000 in
theorem sumOpens_walk (a0 : Option Addr) (n0 c0 : Nat) (l0 : List UInt8) (w : World) (r0 : Rd w w.heap.size a0 (bv l0)) (e0 : l0.length = n0) (b0 : n0 ≤ c0) (m0 : c0 ≤ maxLen) :
    Calls Try.prog 7 #[.slice a0 n0 c0] w fun e w' => e = .returned (.bool true) ∧ Below w.heap.size w w' := by
  have z0 : n0 ≤ 9223372036854775807 := by unfold maxLen at m0; omega
  by_cases hlong : 65536 < n0
  · go_enter Try.func7, Try.ntmps7
    go_wp2_with fail
    go_ret
    exact ⟨rfl, Below.refl _ _⟩
  have hn : n0 ≤ 65536 := by omega
  clear hlong m0
  have H0 := Lib.hid (And.intro r0 e0); clear r0 e0
  go_enter Try.func7, Try.ntmps7
  go_wp2_with fail
  refine (lent_any a0 n0 c0 l0 w H0.out.1 H0.out.2 (by omega)).mono ?_
  rintro e w1 ⟨g, cap, rfl, hx1, hb1⟩
  have hxx : w.heap.size ≤ g ∧ g < w1.heap.size ∧ n0 + 6 ≤ cap := by
    rcases own_form hx1 with ⟨h, _⟩ | ⟨g', cap', h, h1, h2, h3, h4⟩
    · cases h
    · injection h with h5 _ h6
      injection h5 with h5
      injection h5 with h5
      subst h5 h6
      exact ⟨h1, h2, h3⟩
  have Hx := Lib.hid hx1; clear hx1
  have B1 := Lib.hid hb1; clear hb1
  go_wp2_with fail
  by_cases h4 : n0 < 4
  · refine (open_short _ n0 cap w1 h4).mono ?_
    rintro e w2 ⟨rfl, q, rfl⟩
    go_wp2_with fail
    refine (refOpen_short a0 n0 c0 _ h4).mono ?_
    rintro e w3 ⟨rfl, q2, rfl⟩
    have Hx3 := Lib.hid (show ((w1.drewN q).drewN q2).ownsRow w.heap.size 5 1 (.slice (some ⟨g, 0, none⟩) (n0 + 6) cap) (n0 + 6) (bv l0 ++ bv (marks 6)) from Hx.out)
    have B3 := Lib.hid (below_drewN' (below_drewN' B1.out q) q2)
    generalize (w1.drewN q).drewN q2 = w3 at *
    have hcv := conv_rd (P := Try.prog) w3 22 9 5 Try.underlying22 Try.underlying5 Try.underlying9 0 none 0 0 [] Rd.nil rfl
    go_wp2_with fail
    go_loopw [9] (fun i wr => i = .int .i64 0 ∧ wr = w3) (fun _ _ => 0)
    case atStart => exact ⟨rfl, rfl⟩
    case round =>
      obtain ⟨rfl, rfl⟩ := hrel
      go_wp2_with fail
      refine (seals_any _).mono ?_
      rintro e w5 ⟨rfl, hb5⟩
      have B5 := Lib.hid (B3.out.trans (hb5.mono B3.out.size))
      have Hx5 := Lib.hid (own_below Hx3.out hb5 (Nat.le_refl _))
      clear hb5
      go_wp2_with fail
      refine (kept_any w.heap.size g n0 cap c0 w.heap.size a0 l0 w5 (by omega) Hx5.out (H0.out.1.below B5.out (Nat.le_refl _)) H0.out.2).mono ?_
      rintro e w' ⟨rfl, rfl⟩
      go_wp2_with fail
      go_ret
      exact ⟨rfl, B5.out⟩
  obtain ⟨m, rfl⟩ : ∃ m, n0 = m + 4 := ⟨n0 - 4, by omega⟩
  have c1 := open_any (some ⟨g, 0, none⟩) (m + 4) cap l0 w1 (Rd.front (Rd.of_own Hx.out) _ _ rfl) H0.out.2 (by omega) (by omega) (by omega)
  have c2 := fun (w2 : World) (hb : Below w.heap.size w w2) => refOpen_any a0 (m + 4) c0 l0 w2 ((H0.out.1.below hb (Nat.le_refl _)).more hb.size) H0.out.2 (by omega) (by omega) (by omega)
  rw [show m + 4 - 4 = m by omega] at c1 c2
  have LT := Lib.hid (show (l0.take m).length = m by have := H0.out.2; rw [List.length_take]; omega)
  obtain ⟨b, hb⟩ : ∃ b, goodB l0 = b := ⟨_, rfl⟩
  rw [hb] at c1 c2
  have C1 := Lib.hid c1
  have C2 := Lib.hid c2
  clear c1 c2 hb h4
  cases b
  · refine Calls.mono C1.out ?_
    rintro e w2 ⟨hbad, _, hb2⟩
    obtain rfl := hbad rfl
    have B2 := Lib.hid (B1.out.trans (hb2.mono B1.out.size))
    have Hx2 := Lib.hid (own_below Hx.out hb2 (Nat.le_refl _))
    have C3 := Lib.hid (C2.out w2 B2.out)
    clear hbad hb2
    go_wp2_with fail
    refine Calls.mono C3.out ?_
    rintro e w3 ⟨rfl, hb3⟩
    have B3 := Lib.hid (B2.out.trans (hb3.mono B2.out.size))
    have Hx3 := Lib.hid (own_below Hx2.out hb3 (Nat.le_refl _))
    clear hb3
    have hcv := conv_rd (P := Try.prog) w3 22 9 5 Try.underlying22 Try.underlying5 Try.underlying9 0 none 0 0 [] Rd.nil rfl
    simp only [Bool.false_eq_true, if_false]
    go_wp2_with fail
    go_loopw [9] (fun i wr => i = .int .i64 0 ∧ wr = w3) (fun _ _ => 0)
    case atStart => exact ⟨rfl, rfl⟩
    case round =>
      obtain ⟨rfl, rfl⟩ := hrel
      go_wp2_with fail
      refine (seals_any _).mono ?_
      rintro e w5 ⟨rfl, hb5⟩
      have B5 := Lib.hid (B3.out.trans (hb5.mono B3.out.size))
      have Hx5 := Lib.hid (own_below Hx3.out hb5 (Nat.le_refl _))
      clear hb5
      go_wp2_with fail
      refine (kept_any w.heap.size g (m + 4) cap c0 w.heap.size a0 l0 w5 (by omega) Hx5.out (H0.out.1.below B5.out (Nat.le_refl _)) H0.out.2).mono ?_
      rintro e w' ⟨rfl, rfl⟩
      go_wp2_with fail
      go_ret
      exact ⟨rfl, B5.out⟩
  · refine Calls.mono C1.out ?_
    rintro e w2 ⟨_, hgood, hb2⟩
    obtain ⟨v, rfl, hown⟩ := hgood rfl
    have B2 := Lib.hid (B1.out.trans (hb2.mono B1.out.size))
    have Hx2 := Lib.hid (own_below Hx.out hb2 (Nat.le_refl _))
    have C3 := Lib.hid (C2.out w2 B2.out)
    obtain ⟨A2, c2, rfl, _, _⟩ := own_is_slice hown
    have HO2 := Lib.hid hown
    clear hgood hb2 hown
    go_wp2_with fail
    refine Calls.mono C3.out ?_
    rintro e w3 ⟨rfl, hb3⟩
    have B3 := Lib.hid (B2.out.trans (hb3.mono B2.out.size))
    have Hx3 := Lib.hid (own_below Hx2.out hb3 (Nat.le_refl _))
    have HO3 := Lib.hid (own_below HO2.out hb3 (Nat.le_refl _))
    clear hb3
    have hcv1 := conv_rd (P := Try.prog) w3 22 9 5 Try.underlying22 Try.underlying5 Try.underlying9 _ A2 m c2 _ (Rd.of_own HO3.out) LT.out
    have hcv2 := conv_rd (P := Try.prog) w3 22 9 5 Try.underlying22 Try.underlying5 Try.underlying9 w.heap.size a0 m c0 (l0.take m) (by rw [← bv_take]; exact (H0.out.1.below B3.out (Nat.le_refl _)).take m) LT.out
    simp only [if_true]
    go_wp2_with fail
    clear hcv1 hcv2
    go_loopw [9] (fun i wr => ∃ k : Nat, ∃ xs, k ≤ m ∧ i = .int .i64 k ∧ wr.ownsRow w1.heap.size 5 1 (.slice A2 m c2) m xs ∧
      wr.ownsRow w.heap.size 5 1 (.slice (some ⟨g, 0, none⟩) (m + 4 + 6) cap) (m + 4 + 6) (bv l0 ++ bv (marks 6)) ∧ Below w.heap.size w wr) (fun i _ => m - (intOf i).toNat)
    case atStart => exact ⟨0, _, by omega, rfl, HO3.out, Hx3.out, B3.out⟩
    case round =>
      obtain ⟨k, xs, hk, rfl, hown, hlent, hb⟩ := hrel
      by_cases hlt : k < m
      · rcases own_form hown with ⟨_, h0, _⟩ | ⟨g2, cap2, h5, hg2, _, hcap2, _⟩
        · omega
        injection h5 with h6 _ h7
        subst h6 h7
        have hxl : k < xs.length := by have := hown.1; omega
        have hcA := (hown.cellAt k (by omega)).trans (List.getElem?_eq_getElem hxl)
        have hfA := hown.frozenAt k
        obtain ⟨ho2, hgr⟩ := hown.stored k (.int .u8 7)
        have HO := Lib.hid (And.intro ho2 (And.intro (hlent.kept hgr (.inr (by simp [Value.ownBlock]; omega))) (below_row' hb hgr (by omega) hb.size)))
        clear hown ho2 hgr hlent hb
        go_wp2_with fail
        go_roundw
        case rel => exact ⟨k + 1, _, by omega, by go_num, HO.out.1, HO.out.2.1, HO.out.2.2⟩
        case measure => simp [intOf]; omega
      · obtain rfl : k = m := by omega
        have HL := Lib.hid (And.intro hlent hb)
        clear hown hlent hb
        go_wp2_with fail
        refine (seals_any _).mono ?_
        rintro e w5 ⟨rfl, hb5⟩
        have B5 := Lib.hid (HL.out.2.trans (hb5.mono HL.out.2.size))
        have Hx5 := Lib.hid (own_below HL.out.1 hb5 (Nat.le_refl _))
        clear hb5
        go_wp2_with fail
        refine (kept_any w.heap.size g (k + 4) cap c0 w.heap.size a0 l0 w5 (by omega) Hx5.out (H0.out.1.below B5.out (Nat.le_refl _)) H0.out.2).mono ?_
        rintro e w' ⟨rfl, rfl⟩
        go_wp2_with fail
        go_ret
        exact ⟨rfl, B5.out⟩

end Go.Proofs.Ythjnlngpgleplaa
namespace Go.Proofs.Ythjnlngpgleplaa.sumOpens
open Go.ChangeShapes Go.WideShapes Go.ChangeAt Go.RowKit
open Go.ChangeMaps (open_string shut_string)

set_option linter.unusedVariables false in
set_option maxRecDepth 100000 in
theorem lifted (os : Os) (started : os.Started) (H : Type) (enc : TypeId × Value → H) :
    ReturnsInHanded {} Try.checked os 7 .any (Rows.sumOpensSpec.pre6 enc Try.prog Try.f7 Rows.sumOpensRow.domain false) (Rows.sumOpensSpec.post enc Try.prog Try.f7 false true false false) := by
  refine returnsInHanded_of_change (C := Try.checked) own started (by kernel_rfl) Try.func7
    (ChangeSpec.witness6 (enc := enc) (C := Try.checked) false ⟨#[], #[.slice none 0 0], []⟩ 8 (by kernel_rfl) (by kernel_rfl) (by kernel_rfl) (by kernel_rfl)) ?_
  intro W base args ds gs before hval0 hW hcnd _
  have hval : ∀ (j : Nat) t v, Try.f7.params[j]? = some t → args[j]? = some v → Value.okWide Try.prog W .any base t v := hval0
  have hW' := hW
  obtain ⟨p, q, hA0, hV, rfl, hfz, hnd⟩ := hW
  have hA : DataW.TrodAll enc Try.prog W 0 (fun _ => true) true Try.f7.params.toList args.toList ds p := hA0
  rw [Try.params7] at hA hval
  obtain ⟨v0, vs0, d0, ds0, p0, q0, hargs, rfl, rfl, h0, r'0⟩ := trodAll_cons hA
  obtain ⟨rfl, rfl, rfl⟩ := trodAll_nil r'0
  obtain rfl : args = #[v0] := by cases args; simp_all
  obtain ⟨rfl, rfl⟩ := trodVars_none hV
  have k0 := h0
  have lt0 : ∀ x ∈ p0, x.block < W.heap.size := by obtain ⟨m, hm⟩ := k0; exact DataW.trod_lt m _ _ _ hm
  obtain ⟨a0, n0, c0, rfl⟩ := okWide_slice Try.underlying22 (hval 0 22 v0 rfl rfl)
  obtain ⟨l0, r0, e0, b0, m0⟩ := openBytes Try.underlying22 Try.underlying5 (by kernel_rfl) h0
  clear hA0 hval0
  refine (sumOpens_walk a0 n0 c0 l0 W r0 e0 b0 m0).mono fun e W' ⟨he, bel⟩ => ?_
  subst he
  exact ⟨_, rfl, _, _, _, [], _, [], hW', trodAll_mk1 (shut_bool Try.underlying4 _), (trodAll_cons_mk (Below.trod laidOut (by kernel_rfl) (of_decide_eq_true (by kernel_rfl)) k0 bel lt0) trodAll_mk0), rfl, bel.frame _, fun h => by cases h⟩

theorem over : Rows.sumOpensRow.holds Try.pinned (OpenSpec.ofChange Rows.sumOpensSpec) :=
  OpenClaim.holds_of_wide 7 Try.f7 rfl rfl rfl rfl rfl rfl rfl ⟨rfl, rfl, rfl, rfl, rfl⟩ rfl rfl rfl rfl rfl (by kernel_rfl) Try.func7 (by kernel_rfl)
    (of_decide_eq_true (by kernel_rfl)) (by unfold Func.isWrapper; first | (rw [if_pos (by decide +kernel)]; kernel_rfl) | (rw [if_neg (by decide +kernel)]; exact ⟨rfl, rfl⟩))
    (fun os started H enc _ => lifted os started H enc)

/-- The statement. -/
theorem proved : Rows.SumOpensSaid := over
#print axioms proved
end Go.Proofs.Ythjnlngpgleplaa.sumOpens
