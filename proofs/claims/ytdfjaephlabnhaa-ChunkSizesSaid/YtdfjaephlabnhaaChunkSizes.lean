/- ChunkSizes: a text's chunks have all its bytes, each but the last one 80. No condition. -/
import Derived.Test.YtdfjaephlabnhaaCuts
import Derived.Test.YtdfjaephlabnhaaOpen
namespace Go.Proofs.Ytdfjaephlabnhaa
open Go.RowKit

theorem piece_cut (s : ByteArray) (k m : Nat) (hk : 80 * k ≤ s.size) (hm : m = min 80 (s.size - 80 * k)) : s.extract (80 * k) (80 * k + m) = piece s k := by
  have h3 := left_piece s k m (by omega)
  rw [ByteArray.extract_extract] at h3
  rw [← h3]
  congr 1
  omega
theorem piece_size (s : ByteArray) (k : Nat) : (piece s k).size = min 80 (s.size - 80 * k) := by
  have h := left_piece s k (min 80 (s.size - 80 * k)) (by omega)
  rw [← h, ByteArray.size_extract, ext_size]
  omega


set_option linter.unusedVariables false in
set_option maxRecDepth 40000 in
set_option maxHeartbeats 3200000 in
theorem chunkSizes_walk (s0 : ByteArray) (w : World) (m0 : s0.size ≤ maxLen) :
    Calls Try.prog 4 #[.string s0] w fun e w' => e = .returned (.bool true) ∧ Below w.heap.size w w' := by
  unfold maxLen at m0
  by_cases hlong : 131072 < s0.size
  · have h1 : (131072 : Int) < (s0.size : Int) := by omega
    go_enter Try.func4, Try.ntmps4
    go_wp2_with fail
    go_ret
    exact ⟨rfl, Below.refl _ _⟩
  have h1 : ¬ (131072 : Int) < (s0.size : Int) := by omega
  clear hlong
  by_cases hb6 : 65536 < s0.size
  · have HOf := Lib.hid (of_no s0 w hb6)
    clear hb6 m0
    go_enter Try.func4, Try.ntmps4
    go_wp2_with fail
    refine HOf.out.mono ?_
    rintro e w1 ⟨rfl, hb1⟩
    have B1 := Lib.hid (hb1.alloc hb1.size (.cells #[.int .i64 0, .slice none 0 0] 24)); clear hb1
    go_wp2_with fail
    refine (cuts_any _).mono ?_
    rintro e w2 ⟨rfl, hb2⟩
    have B2 := Lib.hid (B1.out.trans (hb2.mono B1.out.size)); clear hb2
    go_wp2_with fail
    go_ret
    exact ⟨rfl, B2.out⟩
  have hok : s0.size ≤ 65536 := by omega
  have HOf := Lib.hid (of_ok s0 w hok)
  have HCu := Lib.hid (fun (k : Nat) (W : World) => cut_any s0 k W (by omega))
  clear hb6 m0
  obtain ⟨n, hn⟩ : ∃ n, nPieces s0.size = n := ⟨_, rfl⟩
  have hN : n ≤ 1000 := by rw [← hn]; unfold nPieces; omega
  have HN := Lib.hid hn
  go_enter Try.func4, Try.ntmps4
  go_wp2_with fail
  refine HOf.out.mono ?_
  rintro e w1 ⟨V, rfl, hown1, hb1⟩
  rw [HN.out] at hown1
  obtain ⟨A1, c1, rfl, _, _⟩ := own_is_slice hown1
  clear hn
  have T1 := Lib.hid (Two.new_at w1 _ rfl 24 (.int .i64 s0.size) (.slice A1 n c1))
  have B1 := Lib.hid (hb1.alloc hb1.size (.cells #[.int .i64 s0.size, .slice A1 n c1] 24)); clear hb1 hown1
  go_wp2_with fail
  go_loopw [5, 6] (fun a i wr => ∃ k : Nat, k ≤ n ∧ i = .int .i64 k ∧ a = .int .i64 (min (80 * k) s0.size : Nat) ∧ Two wr w1.heap.size 24 (.int .i64 s0.size) (.slice A1 n c1) ∧ Below w.heap.size w wr) (fun _ i _ => n - (intOf i).toNat)
  case atStart => exact ⟨0, by omega, rfl, by simp, T1.out, B1.out⟩
  case round =>
    obtain ⟨k, hk, rfl, rfl, t1, hb⟩ := hrel
    have p1 := t1.cell1
    have HO := Lib.hid (And.intro t1 hb); clear t1 hb
    by_cases hlt : k < n
    · have g3 : (k : Int) < (n : Int) := by omega
      have hk8 : 80 * k < s0.size := by have := HN.out; unfold nPieces at this; omega
      obtain ⟨eS, eE⟩ := cutS_piece s0 k hok (by rw [HN.out]; exact hlt)
      have hps := piece_size s0 k
      have hpc := piece_cut s0 k _ (by omega) rfl
      have hmin : min (80 * k) s0.size = 80 * k := by omega
      have hnx : min (80 * (k + 1)) s0.size = 80 * k + min 80 (s0.size - 80 * k) := by omega
      have hfull : k + 1 < n → min 80 (s0.size - 80 * k) = 80 := by intro h; have := HN.out; unfold nPieces at this; omega
      rw [hmin]
      have hm0 : 80 * k + min 80 (s0.size - 80 * k) ≤ s0.size := by omega
      have HF := Lib.hid (And.intro hnx hfull)
      clear hmin hnx hfull hk8
      generalize min 80 (s0.size - 80 * k) = m at *
      generalize hat : 80 * k = at' at *
      have HA := Lib.hid hat; clear hat
      rw [← hps] at hpc
      go_wp2_with fail
      refine (HCu.out k _).mono ?_
      rintro e w2 ⟨rfl, hb2⟩
      rw [eS, eE]
      have t2 := HO.out.1.below hb2 HO.out.1.lt
      have p2 := t2.cell1
      have HO2 := Lib.hid (And.intro t2 (HO.out.2.trans (hb2.mono HO.out.2.size))); clear hb2 t2 eS eE
      generalize piece s0 k = x at *
      have c1' : decide ((s0.size : Int) < (at' : Int) + (x.size : Int)) = false := by simp; omega
      by_cases hk1 : k + 1 < n
      · have hm8 : x.size = 80 := by rw [hps]; exact HF.out.2 hk1
        have g4 : (k : Int) + 1 < (n : Int) := by omega
        rw [hm8] at hpc
        have c2' : decide ((s0.size : Int) < (at' : Int) + 80) = false := by simp; omega
        have hxs : (at' : Int) + 80 ≤ (s0.size : Int) := by omega
        clear c1'
        have hpl : (s0.extract at' (at' + 80)).toList = x.toList := by rw [hpc]
        clear hpc
        have HX := Lib.hid hps; clear hps
        go_wp2_with fail
        go_roundw
        case rel => exact ⟨k + 1, by omega, by go_num, by rw [HF.out.1, ← HX.out, hm8]; simp, HO2.out.1, HO2.out.2⟩
        case measure => simp [intOf]; omega
      · have g4 : ¬ (k : Int) + 1 < (n : Int) := by omega
        have HX := Lib.hid hps
        have hxs : at' + x.size ≤ s0.size := by omega
        have hpl : (s0.extract at' (at' + x.size)).toList = x.toList := by rw [hpc]
        clear hpc
        clear hps
        go_wp2_with fail
        go_roundw
        case rel => exact ⟨k + 1, by omega, by go_num, by rw [HF.out.1, ← HX.out]; simp, HO2.out.1, HO2.out.2⟩
        case measure => simp [intOf]; omega
    · obtain rfl : k = n := by omega
      have hfin : min (80 * k) s0.size = s0.size := by have := HN.out; unfold nPieces at this; omega
      rw [hfin]
      clear hfin
      go_wp2_with fail
      refine (cuts_any _).mono ?_
      rintro e w3 ⟨rfl, hb3⟩
      have q3 := (HO.out.1.below hb3 HO.out.1.lt).cell0
      have B3 := Lib.hid (HO.out.2.trans (hb3.mono HO.out.2.size)); clear hb3
      go_wp2_with fail
      go_ret
      exact ⟨rfl, B3.out⟩

end Go.Proofs.Ytdfjaephlabnhaa
namespace Go.Proofs.Ytdfjaephlabnhaa.chunkSizes
open Go.ChangeShapes Go.WideShapes Go.ChangeAt Go.RowKit
open Go.ChangeMaps (open_string shut_string)

set_option linter.unusedVariables false in
set_option maxRecDepth 100000 in
theorem lifted (os : Os) (started : os.Started) (H : Type) (enc : TypeId × Value → H) :
    ReturnsInHanded {} Try.checked os 4 .any (Rows.chunkSizesSpec.pre6 enc Try.prog Try.f4 Rows.chunkSizesRow.domain false) (Rows.chunkSizesSpec.post enc Try.prog Try.f4 false true false false) := by
  refine returnsInHanded_of_change (C := Try.checked) own started (by kernel_rfl) Try.func4
    (ChangeSpec.witness6 (enc := enc) (C := Try.checked) false ⟨#[], #[.string ByteArray.empty], []⟩ 8 (by kernel_rfl) (by kernel_rfl) (by kernel_rfl) (by kernel_rfl)) ?_
  intro W base args ds gs before hval0 hW hcnd _
  have hval : ∀ (j : Nat) t v, Try.f4.params[j]? = some t → args[j]? = some v → Value.okWide Try.prog W .any base t v := hval0
  have hW' := hW
  obtain ⟨p, q, hA0, hV, rfl, hfz, hnd⟩ := hW
  have hA : DataW.TrodAll enc Try.prog W 0 (fun _ => true) true Try.f4.params.toList args.toList ds p := hA0
  rw [Try.params4] at hA hval
  obtain ⟨v0, vs0, d0, ds0, p0, q0, hargs, rfl, rfl, h0, r'0⟩ := trodAll_cons hA
  obtain ⟨rfl, rfl, rfl⟩ := trodAll_nil r'0
  obtain rfl : args = #[v0] := by cases args; simp_all
  obtain ⟨rfl, rfl⟩ := trodVars_none hV
  have k0 := h0
  have lt0 : ∀ x ∈ p0, x.block < W.heap.size := by obtain ⟨m, hm⟩ := k0; exact DataW.trod_lt m _ _ _ hm
  obtain ⟨s0, rfl, rfl, rfl, m0⟩ := open_string Try.underlying9 (hval 0 9 v0 rfl rfl) h0
  clear hA0 hval0
  refine (chunkSizes_walk s0 W m0).mono fun e W' ⟨he, bel⟩ => ?_
  subst he
  exact ⟨_, rfl, _, _, _, [], _, [], hW', trodAll_mk1 (shut_bool Try.underlying4 _), (trodAll_cons_mk (Below.trod laidOut (by kernel_rfl) (of_decide_eq_true (by kernel_rfl)) k0 bel lt0) trodAll_mk0), rfl, bel.frame _, fun h => by cases h⟩

theorem over : Rows.chunkSizesRow.holds Try.pinned (OpenSpec.ofChange Rows.chunkSizesSpec) :=
  OpenClaim.holds_of_wide 4 Try.f4 rfl rfl rfl rfl rfl rfl rfl ⟨rfl, rfl, rfl, rfl, rfl⟩ rfl rfl rfl rfl rfl (by kernel_rfl) Try.func4 (by kernel_rfl)
    (of_decide_eq_true (by kernel_rfl)) (by unfold Func.isWrapper; first | (rw [if_pos (by decide +kernel)]; kernel_rfl) | (rw [if_neg (by decide +kernel)]; exact ⟨rfl, rfl⟩))
    (fun os started H enc _ => lifted os started H enc)

/-- The statement. -/
theorem proved : Rows.ChunkSizesSaid := over
#print axioms proved
end Go.Proofs.Ytdfjaephlabnhaa.chunkSizes
