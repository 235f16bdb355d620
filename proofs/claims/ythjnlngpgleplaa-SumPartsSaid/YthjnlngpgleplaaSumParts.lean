/- SumParts: bytes in whatever parts have the sum of all: the law returns true at every input, and leaves what came in as it was. No condition. -/
import Derived.Test.YthjnlngpgleplaaSums
import Derived.Test.YthjnlngpgleplaaOpen2
import Derived.Test.YthjnlngpgleplaaOpen
namespace Go.Proofs.Ythjnlngpgleplaa
open Go.RowKit

theorem moreN_append (s : Nat) (l m : List UInt8) : moreN (moreN s l) m = moreN s (l ++ m) := by
  unfold moreN
  rw [inv_inv, sumW_append]
/-- All bytes of some slices, one behind the other. -/
def flat (l : List BRow) : List UInt8 := l.flatMap BRow.l
theorem flat_snoc (l : List BRow) (k : Nat) (h : k < l.length) : flat (l.take (k + 1)) = flat (l.take k) ++ (l[k]).l := by
  unfold flat
  rw [List.take_succ_eq_append_getElem h, List.flatMap_append]
  simp only [List.flatMap_cons, List.flatMap_nil, List.append_nil]

set_option linter.unusedVariables false in
set_option maxHeartbeats 800000 in
theorem sumParts_walk (a0 : Option Addr) (n0 c0 : Nat) (l0 : List BRow) (w : World) (r0 : Rd w w.heap.size a0 (l0.map BRow.val)) (e0 : l0.length = n0) (b0 : n0 ≤ c0) (m0 : c0 ≤ maxLen) (f0 : ∀ r ∈ l0, r.ok w) :
    Calls Try.prog 4 #[.slice a0 n0 c0] w fun e w' => e = .returned (.bool true) ∧ Below w.heap.size w w' := by
  by_cases hlong : 1000 < n0
  · go_enter Try.func4, Try.ntmps4
    unfold maxLen at m0
    go_wp2_with fail
    go_ret
    exact ⟨rfl, Below.refl _ _⟩
  have hn : n0 ≤ 1000 := by omega
  clear hlong m0
  obtain ⟨i0, hi0, hz0, hz1, hz2⟩ := info_parts u8_info
  have H0 := Lib.hid (And.intro r0 (And.intro e0 f0))
  clear r0 e0 f0
  go_enter Try.func4, Try.ntmps4
  go_wp2_with fail
  refine (sum_any none 0 0 0 [] w Rd.nil rfl (by omega)).mono ?_
  rintro e w' ⟨rfl, rfl⟩
  go_wp2_with fail
  go_loopw [3, 4, 5, 6, 7] (fun v s i u6 u7 wr => ∃ k : Nat, k ≤ n0 ∧ i = .int .i64 k ∧ s = .int .i64 (moreN 0 (flat (l0.take k))) ∧ (flat (l0.take k)).length ≤ 65536 ∧
    wr.ownsRow w.heap.size 5 1 v (flat (l0.take k)).length (bv (flat (l0.take k))) ∧ Below w.heap.size w wr) (fun _ _ i _ _ _ => n0 - (intOf i).toNat)
  case atStart => exact ⟨0, by omega, rfl, rfl, by simp [flat], World.ownsRow_nil _ _ _ _, Below.refl _ _⟩
  case round =>
    obtain ⟨k, hk, rfl, rfl, hfl, hown, hb⟩ := hrel
    have HF := Lib.hid (moreN_lt (flat (l0.take k)) (show 0 < 4294967296 by omega))
    by_cases hlt : k < n0
    · have hkl : k < l0.length := by have := H0.out.2.1; omega
      obtain ⟨bb, off, rfl, hbb, hc⟩ := (H0.out.1.below hb (Nat.le_refl _)).at_ (k := k) (by rw [List.length_map]; exact hkl)
      have hcell := hc k _ (show _ = some (l0[k]).val by simp [hkl])
      clear hc
      have hok := H0.out.2.2 _ (List.getElem_mem hkl)
      have hsn := flat_snoc l0 k hkl
      obtain ⟨ra, rn, rc, rl, hrow⟩ : ∃ ra rn rc, ∃ rl, l0[k] = ⟨ra, rn, rc, rl⟩ := ⟨_, _, _, _, rfl⟩
      rw [hrow] at hcell hok hsn
      clear hrow
      simp only [BRow.val] at hcell
      obtain ⟨g1, g2, g3, g4⟩ := hok
      dsimp only at g1 g2 g3 g4 hsn
      have HS := Lib.hid hsn; clear hsn
      have g5 : rn ≤ 9223372036854775807 := by unfold maxLen at g4; omega
      have G := Lib.hid (And.intro g1 g2); clear g1 g2 g4
      obtain ⟨va, vc, rfl, hv1, hv2⟩ := own_is_slice hown
      generalize flat (l0.take k) = fl at hfl hown HF HS hv1 ⊢
      by_cases hbig : 65536 - (fl.length : Int) < rn
      · go_wp2_with fail
        go_ret
        exact ⟨rfl, hb⟩
      · go_wp2_with (at_builtin; refine wpList_append_rd _ rfl (.tmp 27) (.tmp 31) _ rfl w.heap.size 5 i0 (.int .u8 0) 1 1 Try.underlying22 hi0 hz0 hz1 hz2 rfl (by omega) _ fl.length (bv fl) hown rfl w.heap.size ra rn rc (bv rl) (G.out.1.below hb (Nat.le_refl _)) rfl ?_ (bv_one rl) ?_ ?_ hb.size ?_)
        · rw [bv_length, G.out.2]
        · unfold maxLen; omega
        · omega
        intro v2 w2 hown2 hg2
        have hb2 := hb.trans (below_of_grown hown hg2 hb.size)
        rw [← bv_append] at hown2
        have hcell2 : w2.cell? ⟨bb, off + k, none⟩ = some (.slice ra rn rc) := by
          rw [← hcell]
          exact (below_of_grown hown hg2 hb.size).cell (p := ⟨bb, off + k, none⟩) hbb
        clear hown hcell
        go_wp2_with fail
        refine (more_ok (moreN 0 fl) ra rn rc _ rl w2 HF.out (G.out.1.below hb2 (Nat.le_refl _)) G.out.2 (by omega)).mono ?_
        rintro e w' ⟨rfl, rfl⟩
        rw [moreN_append]
        go_wp2_with fail
        go_roundw
        case rel => exact ⟨k + 1, by omega, by go_num, by rw [HS.out], by rw [HS.out, List.length_append, G.out.2]; omega, by rw [HS.out, List.length_append, G.out.2]; exact hown2, hb2⟩
        case measure => simp [intOf]; omega
    · obtain rfl : k = n0 := by omega
      have e1 : l0.take k = l0 := List.take_of_length_le (by have := H0.out.2.1; omega)
      rw [e1] at hown hfl ⊢
      obtain ⟨va, vc, rfl, hv1, hv2⟩ := own_is_slice hown
      have HO := Lib.hid hown; clear hown
      generalize flat l0 = fl at hfl HO hv1 ⊢
      go_wp2_with fail
      refine (sums_any wr).mono ?_
      rintro e w2 ⟨rfl, hb2⟩
      go_wp2_with fail
      refine (sum_any va fl.length vc _ fl w2 ((Rd.of_own HO.out).below hb2 (Nat.le_refl _)) rfl (by omega)).mono ?_
      rintro e w' ⟨rfl, rfl⟩
      go_wp2_with fail
      go_ret
      exact ⟨rfl, hb.trans (hb2.mono hb.size)⟩

end Go.Proofs.Ythjnlngpgleplaa
namespace Go.Proofs.Ythjnlngpgleplaa.sumParts
open Go.ChangeShapes Go.WideShapes Go.ChangeAt Go.RowKit
open Go.ChangeMaps (open_string shut_string)

set_option linter.unusedVariables false in
set_option maxRecDepth 100000 in
theorem lifted (os : Os) (started : os.Started) (H : Type) (enc : TypeId × Value → H) :
    ReturnsInHanded {} Try.checked os 4 .any (Rows.sumPartsSpec.pre6 enc Try.prog Try.f4 Rows.sumPartsRow.domain false) (Rows.sumPartsSpec.post enc Try.prog Try.f4 false true false false) := by
  refine returnsInHanded_of_change (C := Try.checked) own started (by kernel_rfl) Try.func4
    (ChangeSpec.witness6 (enc := enc) (C := Try.checked) false ⟨#[], #[.slice none 0 0], []⟩ 8 (by kernel_rfl) (by kernel_rfl) (by kernel_rfl) (by kernel_rfl)) ?_
  intro W base args ds gs before hval0 hW hcnd _
  have hval : ∀ (j : Nat) t v, Try.f4.params[j]? = some t → args[j]? = some v → Value.okWide Try.prog W .any base t v := hval0
  have hW' := hW
  obtain ⟨p, q, hA0, hV, rfl, hfz, hnd⟩ := hW
  have hA : DataW.TrodAll enc Try.prog W 0 (fun _ => true) true Try.f4.params.toList args.toList ds p := hA0
  rw [Try.params4] at hA hval
  obtain ⟨v0, vs0, d0, ds0, p0, q0, hargs, rfl, rfl, h0, r'0⟩ := trodAll_cons hA
  obtain ⟨rfl, rfl, rfl⟩ := trodAll_nil r'0
  obtain rfl : args = #[v0] := by cases args; simp_all
  obtain ⟨rfl, rfl⟩ := trodVars_none hV
  have k0 := h0
  have lt0 : ∀ x ∈ p0, x.block < W.heap.size := by obtain ⟨m, hm⟩ := k0; exact DataW.trod_lt m _ _ _ hm
  obtain ⟨a0, n0, c0, rfl⟩ := okWide_slice Try.underlying31 (hval 0 31 v0 rfl rfl)
  obtain ⟨l0, r0, e0, b0, m0, f0⟩ := openRows Try.underlying31 Try.underlying22 Try.underlying5 (by kernel_rfl) (by kernel_rfl) h0
  clear hA0 hval0
  refine (sumParts_walk a0 n0 c0 l0 W r0 e0 b0 m0 f0).mono fun e W' ⟨he, bel⟩ => ?_
  subst he
  exact ⟨_, rfl, _, _, _, [], _, [], hW', trodAll_mk1 (shut_bool Try.underlying4 _), (trodAll_cons_mk (Below.trod laidOut (by kernel_rfl) (of_decide_eq_true (by kernel_rfl)) k0 bel lt0) trodAll_mk0), rfl, bel.frame _, fun h => by cases h⟩

theorem over : Rows.sumPartsRow.holds Try.pinned (OpenSpec.ofChange Rows.sumPartsSpec) :=
  OpenClaim.holds_of_wide 4 Try.f4 rfl rfl rfl rfl rfl rfl rfl ⟨rfl, rfl, rfl, rfl, rfl⟩ rfl rfl rfl rfl rfl (by kernel_rfl) Try.func4 (by kernel_rfl)
    (of_decide_eq_true (by kernel_rfl)) (by unfold Func.isWrapper; first | (rw [if_pos (by decide +kernel)]; kernel_rfl) | (rw [if_neg (by decide +kernel)]; exact ⟨rfl, rfl⟩))
    (fun os started H enc _ => lifted os started H enc)

/-- The statement. -/
theorem proved : Rows.SumPartsSaid := over
#print axioms proved
end Go.Proofs.Ythjnlngpgleplaa.sumParts
