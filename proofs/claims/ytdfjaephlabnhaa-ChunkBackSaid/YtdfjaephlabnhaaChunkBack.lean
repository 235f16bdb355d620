/- ChunkBack: a text is joined from its chunks by its manifest; each fits in its place. No condition. -/
import Derived.Test.YtdfjaephlabnhaaJoinsAny
import Derived.Test.YtdfjaephlabnhaaOpen
namespace Go.Proofs.Ytdfjaephlabnhaa
open Go.RowKit

theorem str_info : (Try.prog.info? 9).map (fun i => (i.zero, i.size, i.bytes)) = some (some (.string ⟨#[]⟩), 1, 16) := by kernel_rfl
theorem sv_upto_succ (s : ByteArray) (k : Nat) : sv (upto s (k + 1)) = sv (upto s k) ++ [.string (piece s k)] := by simp [sv, upto_succ]


set_option linter.unusedVariables false in
set_option maxRecDepth 40000 in
set_option maxHeartbeats 1600000 in
theorem chunkBack_walk (s0 : ByteArray) (w : World) (m0 : s0.size ≤ maxLen) :
    Calls Try.prog 7 #[.string s0] w fun e w' => e = .returned (.bool true) ∧ Below w.heap.size w w' := by
  unfold maxLen at m0
  by_cases hlong : 131072 < s0.size
  · have h1 : (131072 : Int) < (s0.size : Int) := by omega
    go_enter Try.func7, Try.ntmps7
    go_wp2_with fail
    go_ret
    exact ⟨rfl, Below.refl _ _⟩
  have h1 : ¬ (131072 : Int) < (s0.size : Int) := by omega
  clear hlong
  by_cases hb6 : 65536 < s0.size
  · have HOf := Lib.hid (of_no s0 w hb6)
    have h6 : (65536 : Int) < (s0.size : Int) := by omega
    clear hb6 m0
    go_enter Try.func7, Try.ntmps7
    go_wp2_with fail
    refine HOf.out.mono ?_
    rintro e w1 ⟨rfl, hb1⟩
    have B1 := Lib.hid (hb1.alloc hb1.size (.cells #[.int .i64 0, .slice none 0 0] 24)); clear hb1
    go_wp2_with fail
    refine (cuts_any _).mono ?_
    rintro e w2 ⟨rfl, hb2⟩
    have B2 := Lib.hid (B1.out.trans (hb2.mono B1.out.size)); clear hb2
    go_wp2_with fail
    refine (joins_any _).mono ?_
    rintro e w3 ⟨rfl, hb3⟩
    have B3 := Lib.hid (B2.out.trans (hb3.mono B2.out.size)); clear hb3
    go_wp2_with fail
    go_ret
    exact ⟨rfl, B3.out⟩
  have hok : s0.size ≤ 65536 := by omega
  have HOf := Lib.hid (of_ok s0 w hok)
  have HCu := Lib.hid (fun (k : Nat) (W : World) => cut_any s0 k W (by omega))
  clear hb6 m0
  obtain ⟨n, hn⟩ : ∃ n, nPieces s0.size = n := ⟨_, rfl⟩
  have hN : n ≤ 1000 := by rw [← hn]; unfold nPieces; omega
  have HN := Lib.hid hn
  obtain ⟨i0, hi0, hz0, hz1, hz2⟩ := info_parts str_info
  have HLS := Lib.hid (iv_sums_length s0)
  go_enter Try.func7, Try.ntmps7
  go_wp2_with fail
  refine HOf.out.mono ?_
  rintro e w1 ⟨V, rfl, hown1, hb1⟩
  rw [HN.out] at hown1
  obtain ⟨A1, c1, rfl, _, _⟩ := own_is_slice hown1
  clear hn
  have T1 := Lib.hid (Two.new_at w1 _ rfl 24 (.int .i64 s0.size) (.slice A1 n c1))
  have B1 := Lib.hid (hb1.alloc hb1.size (.cells #[.int .i64 s0.size, .slice A1 n c1] 24))
  have R1 := Lib.hid (Rd.more ((Rd.of_own hown1).alloc (Nat.le_refl _) (.cells #[.int .i64 s0.size, .slice A1 n c1] 24)) (by simp) : Rd _ (w1.alloc (.cells #[.int .i64 s0.size, .slice A1 n c1] 24)).heap.size A1 (iv (sumsOf s0)))
  have S1 := Lib.hid (show w1.heap.size < (w1.alloc (.cells #[.int .i64 s0.size, .slice A1 n c1] 24)).heap.size by simp)
  clear hb1 hown1
  go_wp2_with fail
  generalize w1.alloc (.cells #[.int .i64 s0.size, .slice A1 n c1] 24) = wx at *
  go_loopw [5, 6] (fun v i wr => ∃ k : Nat, k ≤ n ∧ i = .int .i64 k ∧ wr.ownsRow wx.heap.size 9 1 v k (sv (upto s0 k)) ∧ Below wx.heap.size wx wr) (fun _ i _ => n - (intOf i).toNat)
  case atStart => exact ⟨0, by omega, rfl, World.ownsRow_nil _ _ _ _, Below.refl _ _⟩
  case round =>
    obtain ⟨k, hk, rfl, hown, hb⟩ := hrel
    have t3 := T1.out.below hb S1.out
    have p0 := t3.cell0; have p1 := t3.cell1
    have HO := Lib.hid (And.intro hown hb); clear hown hb t3
    by_cases hlt : k < n
    · have g3 : (k : Int) < (n : Int) := by omega
      have hkp : k < nPieces s0.size := by rw [HN.out]; exact hlt
      have hk8 : 80 * k < s0.size := by have := HN.out; unfold nPieces at this; omega
      obtain ⟨eS, eE⟩ := cutS_piece s0 k hok hkp
      have hps := piece_size s0 k
      have hfp := fits_piece s0 k hok hkp
      have hl1 : 1 ≤ (piece s0 k).size := by omega
      have hl8 : (piece s0 k).size ≤ 80 := by omega
      go_wp2_with fail
      refine (HCu.out k _).mono ?_
      rintro e w2 ⟨rfl, hb2⟩
      rw [eS, eE]
      have HB2 := Lib.hid (And.intro (own_below HO.out.1 hb2 (Nat.le_refl _)) (HO.out.2.trans (hb2.mono HO.out.2.size)))
      have t2 := T1.out.below HB2.out.2 S1.out
      have r0 := t2.cell0; have r1' := t2.cell1
      clear hb2 t2 eS eE p0 p1
      have HFT := fits_any s0.size A1 n c1 wx.heap.size (sumsOf s0) k (piece s0 k) w2 (R1.out.below HB2.out.2 (Nat.le_refl _)) HB2.out.2.size (HLS.out.trans HN.out) (by omega) (by omega)
      rw [hfp] at HFT
      have HFT := Lib.hid HFT
      have HSV := Lib.hid (sv_upto_succ s0 k)
      clear hfp hps hk8 hkp
      generalize piece s0 k = x at *
      have hc1 : decide ((x.size : Int) < 1) = false := by simp; omega
      have hc2 : decide ((80 : Int) < (x.size : Int)) = false := by simp; omega
      go_wp2_with fail
      refine HFT.out.mono ?_
      rintro e w4 ⟨rfl, hb4⟩
      have HB4 := Lib.hid (And.intro (own_below HB2.out.1 hb4 (Nat.le_refl _)) (HB2.out.2.trans (hb4.mono HB2.out.2.size))); clear hb4
      have hsz := Lib.hid HB4.out.2.size
      go_wp2_with (at_builtin; refine wpList_append_one w4 rfl (.tmp 64) (.tmp 66) _ rfl wx.heap.size 9 i0 _ 16 Try.underlying40 hi0 hz0 hz1 hz2 rfl _ k _ HB4.out.1 rfl (.string x) (by simp [Value.oneCell']) rfl ?_ ?_ hsz.out ?_)
      · unfold maxLen; omega
      · omega
      intro v5 w5 hown5 hg5
      have HB5 := Lib.hid (And.intro hown5 (HB4.out.2.trans (below_of_grown HB4.out.1 hg5 HB4.out.2.size))); clear hown5 hg5
      go_wp2_with fail
      go_roundw
      case rel => exact ⟨k + 1, by omega, by go_num, by rw [HSV.out]; exact HB5.out.1, HB5.out.2⟩
      case measure => simp [intOf]; omega
    · obtain rfl : k = n := by omega
      have hown := HO.out.1
      obtain ⟨A2, c2, rfl, hc2, _⟩ := own_is_slice hown
      have hpl : (pieces s0).length = k := by rw [pieces_length]; exact HN.out
      have e5 : upto s0 k = pieces s0 := by rw [← HN.out]; rfl
      have hrp : Rd wr wr.heap.size A2 (sv (pieces s0)) := by rw [← e5]; exact Rd.of_own hown
      have hpz : ∀ p ∈ pieces s0, p.size ≤ 1000000 := by
        intro p hp
        obtain ⟨j, hj, rfl⟩ := List.getElem_of_mem hp
        have : (pieces s0)[j] = piece s0 j := by simp [pieces, upto]
        rw [this, piece_size]
        omega
      have hjp := join_pieces s0 hok
      have HJ := join_any s0.size A1 A2 k c1 wx.heap.size k c2 wr.heap.size (sumsOf s0) (pieces s0) wr (R1.out.below HO.out.2 (Nat.le_refl _)) HO.out.2.size (HLS.out.trans HN.out) (by omega) hrp (Nat.le_refl _) hpl hc2 (by omega) hpz
      rw [hjp.1, hjp.2] at HJ
      have HJ := Lib.hid HJ
      have hcE : cutE s0 k = 100 := by
        have : cutOk s0 k = false := by simp [cutOk]; have := HN.out; omega
        simp [cutE, this]
      have HE := Lib.hid hcE
      clear hpl e5 hrp hpz hjp hown hcE hc2
      go_wp2_with fail
      refine HJ.out.mono ?_
      rintro e w2 ⟨rfl, hb2⟩
      have HB2 := Lib.hid (HO.out.2.trans (hb2.mono HO.out.2.size)); clear hb2
      have t2 := T1.out.below HB2.out S1.out
      have r0 := t2.cell0; have r1' := t2.cell1
      clear t2 p0 p1
      go_wp2_with fail
      refine (HCu.out k _).mono ?_
      rintro e w3 ⟨rfl, hb3⟩
      rw [HE.out]
      have HB3 := Lib.hid (B1.out.trans ((HB2.out.trans (hb3.mono HB2.out.size)).mono B1.out.size)); clear hb3
      generalize cutS s0 k = cs
      go_wp2_with fail
      refine (cuts_any _).mono ?_
      rintro e w4 ⟨rfl, hb4⟩
      have HB4 := Lib.hid (HB3.out.trans (hb4.mono HB3.out.size)); clear hb4
      go_wp2_with fail
      refine (joins_any _).mono ?_
      rintro e w5 ⟨rfl, hb5⟩
      have HB5 := Lib.hid (HB4.out.trans (hb5.mono HB4.out.size)); clear hb5
      go_wp2_with fail
      go_ret
      exact ⟨rfl, HB5.out⟩

end Go.Proofs.Ytdfjaephlabnhaa
namespace Go.Proofs.Ytdfjaephlabnhaa.chunkBack
open Go.ChangeShapes Go.WideShapes Go.ChangeAt Go.RowKit
open Go.ChangeMaps (open_string shut_string)

set_option linter.unusedVariables false in
set_option maxRecDepth 100000 in
theorem lifted (os : Os) (started : os.Started) (H : Type) (enc : TypeId × Value → H) :
    ReturnsInHanded {} Try.checked os 7 .any (Rows.chunkBackSpec.pre6 enc Try.prog Try.f7 Rows.chunkBackRow.domain false) (Rows.chunkBackSpec.post enc Try.prog Try.f7 false true false false) := by
  refine returnsInHanded_of_change (C := Try.checked) own started (by kernel_rfl) Try.func7
    (ChangeSpec.witness6 (enc := enc) (C := Try.checked) false ⟨#[], #[.string ByteArray.empty], []⟩ 8 (by kernel_rfl) (by kernel_rfl) (by kernel_rfl) (by kernel_rfl)) ?_
  intro W base args ds gs before hval0 hW hcnd _
  have hval : ∀ (j : Nat) t v, Try.f7.params[j]? = some t → args[j]? = some v → Value.okWide Try.prog W .any base t v := hval0
  have hW' := hW
  obtain ⟨p, q, hA0, hV, rfl, hfz, hnd⟩ := hW
  have hA : DataW.TrodAll enc Try.prog W 0 (fun _ => true) true Try.f7.params.toList args.toList ds p := hA0
  rw [Try.params7] at hA hval
  obtain ⟨v0, vs0, d0, ds0, p0, q0, hargs, rfl, rfl, h0, r'0⟩ := trodAll_cons hA
  obtain ⟨rfl, rfl, rfl⟩ := trodAll_nil r'0
  obtain rfl : args = #[v0] := by cases args; simp_all
  obtain ⟨rfl, rfl⟩ := trodVars_none hV
  have k0 := h0
  have lt0 : ∀ x ∈ p0, x.block < W.heap.size := by obtain ⟨m, hm⟩ := k0; exact DataW.trod_lt m _ _ _ hm
  obtain ⟨s0, rfl, rfl, rfl, m0⟩ := open_string Try.underlying9 (hval 0 9 v0 rfl rfl) h0
  clear hA0 hval0
  refine (chunkBack_walk s0 W m0).mono fun e W' ⟨he, bel⟩ => ?_
  subst he
  exact ⟨_, rfl, _, _, _, [], _, [], hW', trodAll_mk1 (shut_bool Try.underlying4 _), (trodAll_cons_mk (Below.trod laidOut (by kernel_rfl) (of_decide_eq_true (by kernel_rfl)) k0 bel lt0) trodAll_mk0), rfl, bel.frame _, fun h => by cases h⟩

theorem over : Rows.chunkBackRow.holds Try.pinned (OpenSpec.ofChange Rows.chunkBackSpec) :=
  OpenClaim.holds_of_wide 7 Try.f7 rfl rfl rfl rfl rfl rfl rfl ⟨rfl, rfl, rfl, rfl, rfl⟩ rfl rfl rfl rfl rfl (by kernel_rfl) Try.func7 (by kernel_rfl)
    (of_decide_eq_true (by kernel_rfl)) (by unfold Func.isWrapper; first | (rw [if_pos (by decide +kernel)]; kernel_rfl) | (rw [if_neg (by decide +kernel)]; exact ⟨rfl, rfl⟩))
    (fun os started H enc _ => lifted os started H enc)

/-- The statement. -/
theorem proved : Rows.ChunkBackSaid := over
#print axioms proved
end Go.Proofs.Ytdfjaephlabnhaa.chunkBack
