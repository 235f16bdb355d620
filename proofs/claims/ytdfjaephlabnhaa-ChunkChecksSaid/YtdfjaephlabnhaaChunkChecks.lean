/- ChunkChecks: a manifest is right, or is not; a piece fits, or does not. No condition. -/
import Derived.Test.YtdfjaephlabnhaaFitsAll
import Derived.Test.YtdfjaephlabnhaaOpen
namespace Go.Proofs.Ytdfjaephlabnhaa
open Go.RowKit

set_option linter.unusedVariables false in
set_option maxRecDepth 40000 in
set_option maxHeartbeats 1600000 in
theorem chunkChecks_walk (x0 : Int) (a1 : Option Addr) (n1 c1 : Nat) (l1 : List Int) (x2 : Int) (s3 : ByteArray) (w : World) (f0 : (Lit.int .i64 x0).wf = true) (r1 : Rd w w.heap.size a1 (iv l1)) (e1 : l1.length = n1) (b1 : n1 ≤ c1) (m1 : c1 ≤ maxLen) (f1 : ∀ n ∈ l1, (Lit.int .i64 n).wf = true) (f2 : (Lit.int .i64 x2).wf = true) (m3 : s3.size ≤ maxLen) :
    Calls Try.prog 5 #[.int .i64 x0, .slice a1 n1 c1, .int .i64 x2, .string s3] w fun e w' => e = .returned (.bool true) ∧ Below w.heap.size w w' := by
  unfold maxLen at m1 m3
  have hone : ∀ b : Bool, (b == b) = true := fun b => by cases b <;> rfl
  by_cases hlong : 2000 < n1
  · have h1 : (2000 : Int) < (n1 : Int) := by omega
    go_enter Try.func5, Try.ntmps5
    go_wp2_with fail
    go_ret
    exact ⟨rfl, Below.refl _ _⟩
  have hn1 : ¬ (2000 : Int) < (n1 : Int) := by omega
  have hd1 : decide ((2000 : Int) < (n1 : Int)) = false := by simp; omega
  by_cases hlong3 : 131072 < s3.size
  · have h1 : (131072 : Int) < (s3.size : Int) := by omega
    go_enter Try.func5, Try.ntmps5
    go_wp2_with fail
    go_ret
    exact ⟨rfl, Below.refl _ _⟩
  have hs3 : ¬ (131072 : Int) < (s3.size : Int) := by omega
  have hd3 : decide ((131072 : Int) < (s3.size : Int)) = false := by simp; omega
  have hnn : n1 ≤ 2000 := by omega
  have hss : s3.size ≤ 131072 := by omega
  obtain ⟨i0, hi0, hz0, hz1, hz2⟩ := info_parts int_info
  have R0 := Lib.hid (And.intro r1 e1); clear r1 e1 hlong hlong3 m1 m3 b1 f0 f1 f2
  go_enter Try.func5, Try.ntmps5
  go_wp2_with (at_builtin; refine wpList_append_rd _ rfl (.tmp 20) (.tmp 21) _ rfl w.heap.size 3 i0 _ 1 8 Try.underlying22 hi0 hz0 hz1 hz2 rfl (by omega) (.slice none 0 0) 0 [] (World.ownsRow_nil _ _ _ _) rfl w.heap.size a1 n1 c1 (iv l1) R0.out.1 rfl ?_ (iv_one l1) ?_ ?_ ?_ ?_)
  · rw [iv_length, R0.out.2]
  · unfold maxLen; omega
  · omega
  intro v1 w1 hown1 hg1
  have hb1 : Below w.heap.size w w1 := (Below.refl _ _).grown hg1 (Nat.le_refl _) (by simp [Value.ownBlock])
  obtain ⟨A2, c2, rfl, _, _⟩ := own_is_slice hown1
  have T1 := Lib.hid (Two.new_at w1 _ rfl 24 (.int .i64 x0) (.slice a1 n1 c1))
  have O1 := Lib.hid (hown1.alloc (.cells #[.int .i64 x0, .slice a1 n1 c1] 24))
  have B1 := Lib.hid (hb1.alloc hb1.size (.cells #[.int .i64 x0, .slice a1 n1 c1] 24))
  clear hown1 hg1 hb1
  have p0 := T1.out.cell0; have p1 := T1.out.cell1
  have HK := Lib.hid (check_any x0 a1 n1 c1 w.heap.size l1 (w1.alloc (.cells #[.int .i64 x0, .slice a1 n1 c1] 24)) (R0.out.1.below B1.out (Nat.le_refl _)) B1.out.size R0.out.2 (by omega))
  go_wp2_with fail
  refine HK.out.mono ?_
  rintro e w2 ⟨rfl, hb2⟩
  have T2 := Lib.hid (T1.out.below hb2 (by simp))
  have O2 := Lib.hid (own_below O1.out hb2 (Nat.le_refl _))
  have B2 := Lib.hid (B1.out.trans (hb2.mono B1.out.size)); clear hb2
  cases hrr : rightB x0 l1
  all_goals
    simp only [Bool.false_eq_true, if_false, if_true]
    have HRR := Lib.hid hrr; clear hrr
    go_wp2_with fail
    refine (cuts_any _).mono ?_
    rintro e w3 ⟨rfl, hb3⟩
    have T3 := Lib.hid (T2.out.below hb3 T2.out.lt)
    have O3 := Lib.hid (own_below O2.out hb3 (Nat.le_refl _))
    have B3 := Lib.hid (B2.out.trans (hb3.mono B2.out.size)); clear hb3
    have HJ := refRight_any x0 A2 n1 c2 _ l1 w3 (Rd.of_own O3.out) R0.out.2 (by omega)
    rw [HRR.out] at HJ
    have HJ := Lib.hid HJ
    have p2 := T3.out.cell0; have p3 := T3.out.cell1
    go_wp2_with fail
    refine HJ.out.mono ?_
    rintro e w' ⟨rfl, rfl⟩
    have HF := Lib.hid (fits_any x0 a1 n1 c1 w.heap.size l1 x2 s3 w3 (R0.out.1.below B3.out (Nat.le_refl _)) B3.out.size R0.out.2 (by omega) (by omega))
    go_wp2_with fail
    refine HF.out.mono ?_
    rintro e w4 ⟨rfl, hb4⟩
    have O4 := Lib.hid (own_below O3.out hb4 (Nat.le_refl _))
    have B4 := Lib.hid (B3.out.trans (hb4.mono B3.out.size)); clear hb4
    have HG := Lib.hid (refFits_any x0 A2 n1 c2 _ l1 x2 s3 w4 (Rd.of_own O4.out) (Nat.le_refl _) R0.out.2 (by omega) (by omega))
    generalize fitsB x0 l1 x2 s3 = fb at *
    have hfb := hone fb
    go_wp2_with fail
    refine HG.out.mono ?_
    rintro e w5 ⟨rfl, hb5⟩
    have O5 := Lib.hid (own_below O4.out hb5 (Nat.le_refl _))
    have B5 := Lib.hid (B4.out.trans (hb5.mono B4.out.size)); clear hb5
    have HI := Lib.hid (ints_any a1 A2 n1 n1 c1 c2 _ _ l1 l1 w5 (R0.out.1.below B5.out (Nat.le_refl _)) R0.out.2 (Rd.of_own O5.out) R0.out.2 (by omega) (by omega))
    go_wp2_with fail
    refine HI.out.mono ?_
    rintro e w6 ⟨rfl, q6, rfl⟩
    simp only [decide_true]
    go_wp2_with fail
    go_ret
    exact ⟨rfl, below_drewN B5.out _⟩

end Go.Proofs.Ytdfjaephlabnhaa
namespace Go.Proofs.Ytdfjaephlabnhaa.chunkChecks
open Go.ChangeShapes Go.WideShapes Go.ChangeAt Go.RowKit
open Go.ChangeMaps (open_string shut_string)

set_option linter.unusedVariables false in
set_option maxRecDepth 100000 in
theorem lifted (os : Os) (started : os.Started) (H : Type) (enc : TypeId × Value → H) :
    ReturnsInHanded {} Try.checked os 5 .any (Rows.chunkChecksSpec.pre6 enc Try.prog Try.f5 Rows.chunkChecksRow.domain false) (Rows.chunkChecksSpec.post enc Try.prog Try.f5 false true false false) := by
  refine returnsInHanded_of_change (C := Try.checked) own started (by kernel_rfl) Try.func5
    (ChangeSpec.witness6 (enc := enc) (C := Try.checked) false ⟨#[], #[.int .i64 0, .slice none 0 0, .int .i64 0, .string ByteArray.empty], []⟩ 8 (by kernel_rfl) (by kernel_rfl) (by kernel_rfl) (by kernel_rfl)) ?_
  intro W base args ds gs before hval0 hW hcnd _
  have hval : ∀ (j : Nat) t v, Try.f5.params[j]? = some t → args[j]? = some v → Value.okWide Try.prog W .any base t v := hval0
  have hW' := hW
  obtain ⟨p, q, hA0, hV, rfl, hfz, hnd⟩ := hW
  have hA : DataW.TrodAll enc Try.prog W 0 (fun _ => true) true Try.f5.params.toList args.toList ds p := hA0
  rw [Try.params5] at hA hval
  obtain ⟨v0, vs0, d0, ds0, p0, q0, hargs, rfl, rfl, h0, r'0⟩ := trodAll_cons hA
  obtain ⟨v1, vs1, d1, ds1, p1, q1, rfl, rfl, rfl, h1, r'1⟩ := trodAll_cons r'0
  obtain ⟨v2, vs2, d2, ds2, p2, q2, rfl, rfl, rfl, h2, r'2⟩ := trodAll_cons r'1
  obtain ⟨v3, vs3, d3, ds3, p3, q3, rfl, rfl, rfl, h3, r'3⟩ := trodAll_cons r'2
  obtain ⟨rfl, rfl, rfl⟩ := trodAll_nil r'3
  obtain rfl : args = #[v0, v1, v2, v3] := by cases args; simp_all
  obtain ⟨rfl, rfl⟩ := trodVars_none hV
  have k0 := h0
  have lt0 : ∀ x ∈ p0, x.block < W.heap.size := by obtain ⟨m, hm⟩ := k0; exact DataW.trod_lt m _ _ _ hm
  obtain ⟨x0, rfl, rfl, rfl, f0⟩ := open_int Try.underlying3 (hval 0 3 v0 rfl rfl) h0
  have k1 := h1
  have lt1 : ∀ x ∈ p1, x.block < W.heap.size := by obtain ⟨m, hm⟩ := k1; exact DataW.trod_lt m _ _ _ hm
  obtain ⟨a1, n1, c1, rfl⟩ := okWide_slice Try.underlying22 (hval 1 22 v1 rfl rfl)
  obtain ⟨l1, r1, e1, b1, m1, f1⟩ := openInts Try.underlying22 Try.underlying3 (by kernel_rfl) h1
  have k2 := h2
  have lt2 : ∀ x ∈ p2, x.block < W.heap.size := by obtain ⟨m, hm⟩ := k2; exact DataW.trod_lt m _ _ _ hm
  obtain ⟨x2, rfl, rfl, rfl, f2⟩ := open_int Try.underlying3 (hval 2 3 v2 rfl rfl) h2
  have k3 := h3
  have lt3 : ∀ x ∈ p3, x.block < W.heap.size := by obtain ⟨m, hm⟩ := k3; exact DataW.trod_lt m _ _ _ hm
  obtain ⟨s3, rfl, rfl, rfl, m3⟩ := open_string Try.underlying9 (hval 3 9 v3 rfl rfl) h3
  clear hA0 hval0
  refine (chunkChecks_walk x0 a1 n1 c1 l1 x2 s3 W f0 r1 e1 b1 m1 f1 f2 m3).mono fun e W' ⟨he, bel⟩ => ?_
  subst he
  exact ⟨_, rfl, _, _, _, [], _, [], hW', trodAll_mk1 (shut_bool Try.underlying4 _), (trodAll_cons_mk (Below.trod laidOut (by kernel_rfl) (of_decide_eq_true (by kernel_rfl)) k0 bel lt0) (trodAll_cons_mk (Below.trod laidOut (by kernel_rfl) (of_decide_eq_true (by kernel_rfl)) k1 bel lt1) (trodAll_cons_mk (Below.trod laidOut (by kernel_rfl) (of_decide_eq_true (by kernel_rfl)) k2 bel lt2) (trodAll_cons_mk (Below.trod laidOut (by kernel_rfl) (of_decide_eq_true (by kernel_rfl)) k3 bel lt3) trodAll_mk0)))), rfl, bel.frame _, fun h => by cases h⟩

theorem over : Rows.chunkChecksRow.holds Try.pinned (OpenSpec.ofChange Rows.chunkChecksSpec) :=
  OpenClaim.holds_of_wide 5 Try.f5 rfl rfl rfl rfl rfl rfl rfl ⟨rfl, rfl, rfl, rfl, rfl⟩ rfl rfl rfl rfl rfl (by kernel_rfl) Try.func5 (by kernel_rfl)
    (of_decide_eq_true (by kernel_rfl)) (by unfold Func.isWrapper; first | (rw [if_pos (by decide +kernel)]; kernel_rfl) | (rw [if_neg (by decide +kernel)]; exact ⟨rfl, rfl⟩))
    (fun os started H enc _ => lifted os started H enc)

/-- The statement. -/
theorem proved : Rows.ChunkChecksSaid := over
#print axioms proved
end Go.Proofs.Ytdfjaephlabnhaa.chunkChecks
