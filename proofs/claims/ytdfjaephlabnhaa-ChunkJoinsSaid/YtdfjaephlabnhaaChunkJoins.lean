/- ChunkJoins: pieces are just this text, or none. No condition. -/
import Derived.Test.YtdfjaephlabnhaaJoinsAny
import Derived.Test.YtdfjaephlabnhaaOpen
namespace Go.Proofs.Ytdfjaephlabnhaa
open Go.RowKit

set_option linter.unusedVariables false in
set_option maxRecDepth 40000 in
set_option maxHeartbeats 1600000 in
theorem chunkJoins_walk (x0 : Int) (a1 : Option Addr) (n1 c1 : Nat) (l1 : List Int) (a2 : Option Addr) (n2 c2 : Nat) (l2 : List ByteArray) (w : World) (f0 : (Lit.int .i64 x0).wf = true) (r1 : Rd w w.heap.size a1 (iv l1)) (e1 : l1.length = n1) (b1 : n1 ≤ c1) (m1 : c1 ≤ maxLen) (f1 : ∀ n ∈ l1, (Lit.int .i64 n).wf = true) (r2 : Rd w w.heap.size a2 (sv l2)) (e2 : l2.length = n2) (b2 : n2 ≤ c2) (m2 : c2 ≤ maxLen) (f2 : ∀ s ∈ l2, s.size ≤ maxLen) :
    Calls Try.prog 6 #[.int .i64 x0, .slice a1 n1 c1, .slice a2 n2 c2] w fun e w' => e = .returned (.bool true) ∧ Below w.heap.size w w' := by
  unfold maxLen at m1 m2
  have hone : ∀ b : Bool, (b == b) = true := fun b => by cases b <;> rfl
  by_cases hlong : 2000 < n1
  · have h1 : (2000 : Int) < (n1 : Int) := by omega
    go_enter Try.func6, Try.ntmps6
    go_wp2_with fail
    go_ret
    exact ⟨rfl, Below.refl _ _⟩
  have hd1 : decide ((2000 : Int) < (n1 : Int)) = false := by simp; omega
  have hn1 : ¬ (2000 : Int) < (n1 : Int) := by omega
  by_cases hlong2 : 2000 < n2
  · have h1 : (2000 : Int) < (n2 : Int) := by omega
    go_enter Try.func6, Try.ntmps6
    go_wp2_with fail
    go_ret
    exact ⟨rfl, Below.refl _ _⟩
  have hd2 : decide ((2000 : Int) < (n2 : Int)) = false := by simp; omega
  have hn2 : ¬ (2000 : Int) < (n2 : Int) := by omega
  have hnn1 : n1 ≤ 2000 := by omega
  have hnn2 : n2 ≤ 2000 := by omega
  have R0 := Lib.hid (And.intro r1 (And.intro e1 (And.intro r2 (And.intro e2 (And.intro f2 b2)))))
  clear r1 e1 r2 e2 f0 f1 f2 b1 b2 m1 m2 hlong hlong2
  go_enter Try.func6, Try.ntmps6
  go_wp2_with fail
  go_loop [7, 8] (fun s i => ∃ k t : Nat, k ≤ n2 ∧ i = .int .i64 k ∧ s = .int .i64 t ∧ t ≤ 131072 ∧ ∀ p ∈ l2.take k, p.size ≤ 131072) (fun _ i => n2 - (intOf i).toNat)
  case atStart => exact ⟨0, 0, by omega, rfl, rfl, by omega, by simp⟩
  case round =>
    obtain ⟨k, t, hk, rfl, rfl, ht, hall⟩ := hrel
    have HA := Lib.hid hall; clear hall
    by_cases hlt : k < n2
    · have g3 : (k : Int) < (n2 : Int) := by omega
      have hkl : k < l2.length := by have := R0.out.2.2.2.1; omega
      obtain ⟨bb, off, hBe, hb1, hc1⟩ := R0.out.2.2.1.at_ (k := k) (by simp [sv]; omega)
      have q5 := hc1 k _ (sv_at l2 k hkl)
      subst hBe
      clear hc1
      have hpk : (l2[k]'hkl).size ≤ maxLen := R0.out.2.2.2.2.1 _ (List.getElem_mem _)
      have hst : l2.take (k + 1) = l2.take k ++ [l2[k]'hkl] := List.take_succ_eq_append_getElem hkl
      have HS := Lib.hid hst; clear hst
      unfold maxLen at hpk
      generalize l2[k]'hkl = x at *
      by_cases hbig : (131072 : Int) - t < x.size
      · go_wp2_with fail
        go_ret
        exact ⟨rfl, Below.refl _ _⟩
      · have hx : x.size ≤ 131072 := by omega
        have htx : t + x.size ≤ 131072 := by omega
        go_wp2_with fail
        go_round
        case rel =>
          refine ⟨k + 1, t + x.size, by omega, by go_num, by go_num, by omega, ?_⟩
          intro p hp
          rw [HS.out] at hp
          rcases List.mem_append.1 hp with h | h
          · exact HA.out p h
          · obtain rfl : p = x := by simpa using h
            exact hx
        case measure => simp [intOf]; omega
    · obtain rfl : k = n2 := by omega
      have hps : ∀ p ∈ l2, p.size ≤ 1000000 := by
        have h := HA.out
        rw [List.take_of_length_le (by have := R0.out.2.2.2.1; omega)] at h
        exact fun p hp => Nat.le_trans (h p hp) (by omega)
      have HJ := Lib.hid (join_any x0 a1 a2 n1 c1 w.heap.size k c2 w.heap.size l1 l2 w R0.out.1 (Nat.le_refl _) R0.out.2.1 (by omega) R0.out.2.2.1 (Nat.le_refl _) R0.out.2.2.2.1 R0.out.2.2.2.2.2 (by omega) hps)
      have HP := Lib.hid hps; clear hps
      go_wp2_with fail
      refine HJ.out.mono ?_
      rintro e w1 ⟨rfl, hb1⟩
      have B1 := Lib.hid hb1
      have HK := Lib.hid (refJoin_any x0 a1 a2 n1 c1 w.heap.size k c2 w.heap.size l1 l2 w1 (R0.out.1.below hb1 (Nat.le_refl _)) hb1.size R0.out.2.1 (by omega) (R0.out.2.2.1.below hb1 (Nat.le_refl _)) hb1.size R0.out.2.2.2.1 (by omega) HP.out)
      clear hb1
      generalize joinR x0 l1 l2 = jr at *
      generalize joinE x0 l1 l2 = je at *
      go_wp2_with fail
      refine HK.out.mono ?_
      rintro e w2 ⟨rfl, hb2⟩
      have B2 := Lib.hid (B1.out.trans (hb2.mono B1.out.size)); clear hb2
      go_wp2_with fail
      refine (joins_any _).mono ?_
      rintro e w3 ⟨rfl, hb3⟩
      have B3 := Lib.hid (B2.out.trans (hb3.mono B2.out.size)); clear hb3
      go_wp2_with fail
      go_ret
      exact ⟨rfl, B3.out⟩

end Go.Proofs.Ytdfjaephlabnhaa
namespace Go.Proofs.Ytdfjaephlabnhaa.chunkJoins
open Go.ChangeShapes Go.WideShapes Go.ChangeAt Go.RowKit
open Go.ChangeMaps (open_string shut_string)

set_option linter.unusedVariables false in
set_option maxRecDepth 100000 in
theorem lifted (os : Os) (started : os.Started) (H : Type) (enc : TypeId × Value → H) :
    ReturnsInHanded {} Try.checked os 6 .any (Rows.chunkJoinsSpec.pre6 enc Try.prog Try.f6 Rows.chunkJoinsRow.domain false) (Rows.chunkJoinsSpec.post enc Try.prog Try.f6 false true false false) := by
  refine returnsInHanded_of_change (C := Try.checked) own started (by kernel_rfl) Try.func6
    (ChangeSpec.witness6 (enc := enc) (C := Try.checked) false ⟨#[], #[.int .i64 0, .slice none 0 0, .slice none 0 0], []⟩ 8 (by kernel_rfl) (by kernel_rfl) (by kernel_rfl) (by kernel_rfl)) ?_
  intro W base args ds gs before hval0 hW hcnd _
  have hval : ∀ (j : Nat) t v, Try.f6.params[j]? = some t → args[j]? = some v → Value.okWide Try.prog W .any base t v := hval0
  have hW' := hW
  obtain ⟨p, q, hA0, hV, rfl, hfz, hnd⟩ := hW
  have hA : DataW.TrodAll enc Try.prog W 0 (fun _ => true) true Try.f6.params.toList args.toList ds p := hA0
  rw [Try.params6] at hA hval
  obtain ⟨v0, vs0, d0, ds0, p0, q0, hargs, rfl, rfl, h0, r'0⟩ := trodAll_cons hA
  obtain ⟨v1, vs1, d1, ds1, p1, q1, rfl, rfl, rfl, h1, r'1⟩ := trodAll_cons r'0
  obtain ⟨v2, vs2, d2, ds2, p2, q2, rfl, rfl, rfl, h2, r'2⟩ := trodAll_cons r'1
  obtain ⟨rfl, rfl, rfl⟩ := trodAll_nil r'2
  obtain rfl : args = #[v0, v1, v2] := by cases args; simp_all
  obtain ⟨rfl, rfl⟩ := trodVars_none hV
  have k0 := h0
  have lt0 : ∀ x ∈ p0, x.block < W.heap.size := by obtain ⟨m, hm⟩ := k0; exact DataW.trod_lt m _ _ _ hm
  obtain ⟨x0, rfl, rfl, rfl, f0⟩ := open_int Try.underlying3 (hval 0 3 v0 rfl rfl) h0
  have k1 := h1
  have lt1 : ∀ x ∈ p1, x.block < W.heap.size := by obtain ⟨m, hm⟩ := k1; exact DataW.trod_lt m _ _ _ hm
  obtain ⟨a1, n1, c1, rfl⟩ := okWide_slice Try.underlying22 (hval 1 22 v1 rfl rfl)
  obtain ⟨l1, r1, e1, b1, m1, f1⟩ := openInts Try.underlying22 Try.underlying3 (by kernel_rfl) h1
  have k2 := h2
  have lt2 : ∀ x ∈ p2, x.block < W.heap.size := by obtain ⟨m, hm⟩ := k2; exact DataW.trod_lt m _ _ _ hm
  obtain ⟨a2, n2, c2, rfl⟩ := okWide_slice Try.underlying40 (hval 2 40 v2 rfl rfl)
  obtain ⟨l2, r2, e2, b2, m2, f2⟩ := openStrings Try.underlying40 Try.underlying9 (by kernel_rfl) h2
  clear hA0 hval0
  refine (chunkJoins_walk x0 a1 n1 c1 l1 a2 n2 c2 l2 W f0 r1 e1 b1 m1 f1 r2 e2 b2 m2 f2).mono fun e W' ⟨he, bel⟩ => ?_
  subst he
  exact ⟨_, rfl, _, _, _, [], _, [], hW', trodAll_mk1 (shut_bool Try.underlying4 _), (trodAll_cons_mk (Below.trod laidOut (by kernel_rfl) (of_decide_eq_true (by kernel_rfl)) k0 bel lt0) (trodAll_cons_mk (Below.trod laidOut (by kernel_rfl) (of_decide_eq_true (by kernel_rfl)) k1 bel lt1) (trodAll_cons_mk (Below.trod laidOut (by kernel_rfl) (of_decide_eq_true (by kernel_rfl)) k2 bel lt2) trodAll_mk0))), rfl, bel.frame _, fun h => by cases h⟩

theorem over : Rows.chunkJoinsRow.holds Try.pinned (OpenSpec.ofChange Rows.chunkJoinsSpec) :=
  OpenClaim.holds_of_wide 6 Try.f6 rfl rfl rfl rfl rfl rfl rfl ⟨rfl, rfl, rfl, rfl, rfl⟩ rfl rfl rfl rfl rfl (by kernel_rfl) Try.func6 (by kernel_rfl)
    (of_decide_eq_true (by kernel_rfl)) (by unfold Func.isWrapper; first | (rw [if_pos (by decide +kernel)]; kernel_rfl) | (rw [if_neg (by decide +kernel)]; exact ⟨rfl, rfl⟩))
    (fun os started H enc _ => lifted os started H enc)

/-- The statement. -/
theorem proved : Rows.ChunkJoinsSaid := over
#print axioms proved
end Go.Proofs.Ytdfjaephlabnhaa.chunkJoins
