/- CodeRows: a list of texts, one behind the other, is read as it was.. No condition. -/
import Derived.Test.YtlipnncbpbbdnaaBack
import Derived.Test.YtlipnncbpbbdnaaOpen
namespace Go.Proofs.Ytlipnncbpbbdnaa
open Go.RowKit

/-- The bytes of texts, one behind the other. -/
def rowsB (l : List ByteArray) : List UInt8 := l.flatMap fun s => beN 4 s.size ++ s.data.toList
theorem rowsB_snoc (l : List ByteArray) (k : Nat) (h : k < l.length) : rowsB (l.take (k + 1)) = rowsB (l.take k) ++ (beN 4 (l[k]).size ++ (l[k]).data.toList) := by
  unfold rowsB
  rw [List.take_succ_eq_append_getElem h, List.flatMap_append]
  simp only [List.flatMap_cons, List.flatMap_nil, List.append_nil]
theorem rowsB_cut (l : List ByteArray) (k : Nat) (h : k < l.length) : rowsB (l.drop k) = beN 4 (l[k]).size ++ ((l[k]).data.toList ++ rowsB (l.drop (k + 1))) := by
  unfold rowsB
  rw [List.drop_eq_getElem_cons h, List.flatMap_cons, List.append_assoc]
/-- How many bytes the texts have. -/
def sumB (l : List ByteArray) : Nat := (l.map ByteArray.size).sum
theorem sumB_snoc (l : List ByteArray) (k : Nat) (h : k < l.length) : sumB (l.take (k + 1)) = sumB (l.take k) + (l[k]).size := by
  unfold sumB
  rw [List.take_succ_eq_append_getElem h, List.map_append, List.sum_append]
  simp
theorem rowsB_length (l : List ByteArray) : (rowsB l).length = 4 * l.length + sumB l := by
  unfold rowsB sumB
  induction l with
  | nil => rfl
  | cons s l ih =>
    rw [List.flatMap_cons, List.length_append, ih]
    simp [beN_length]
    omega

set_option linter.unusedVariables false in
set_option maxRecDepth 40000 in
set_option maxHeartbeats 800000 in
theorem codeRows_walk (a0 : Option Addr) (n0 c0 : Nat) (l0 : List ByteArray) (w : World) (r0 : Rd w w.heap.size a0 (sv l0)) (e0 : l0.length = n0) (b0 : n0 ≤ c0) (m0 : c0 ≤ maxLen) (f0 : ∀ s ∈ l0, s.size ≤ maxLen) :
    Calls Try.prog 9 #[.slice a0 n0 c0] w fun e w' => e = .returned (.bool true) ∧ Below w.heap.size w w' := by
  have z0 : n0 ≤ 9223372036854775807 := by unfold maxLen at m0; omega
  by_cases hlong : 1000 < n0
  · go_enter Try.func9, Try.ntmps9
    go_wp2_with fail
    go_ret
    exact ⟨rfl, Below.refl _ _⟩
  have hn : n0 ≤ 1000 := by omega
  clear hlong m0
  have H0 := Lib.hid (And.intro r0 (And.intro e0 f0))
  clear r0 e0 f0
  go_enter Try.func9, Try.ntmps9
  go_wp2_with fail
  refine (putNumber_ok none 0 0 [] n0 w Rd.nil rfl (by omega) (by omega)).mono ?_
  rintro e w1 ⟨v, rfl, hown, hb1⟩
  rw [← bv_append, List.nil_append] at hown
  have HR := Lib.hid (And.intro hown hb1); clear hown hb1
  go_wp2_with fail
  go_loopw [3, 4, 5, 6] (fun n v e i wr => ∃ k : Nat, k ≤ n0 ∧ i = .int .i64 k ∧ e = .int .i64 0 ∧ n = .int .i64 (sumB (l0.take k)) ∧ sumB (l0.take k) ≤ 262144 ∧
    (∃ m, wr.ownsRow w.heap.size 5 1 v m (bv (beN 4 n0 ++ rowsB (l0.take k)))) ∧ Below w.heap.size w wr ∧ ∀ (j : Nat) (h : j < l0.length), j < k → (l0[j]).size ≤ 65536) (fun _ _ _ i _ => n0 - (intOf i).toNat)
  case atStart => exact ⟨0, by omega, rfl, rfl, rfl, by simp [sumB], ⟨_, by simpa [rowsB] using HR.out.1⟩, HR.out.2, fun j _ hj => absurd hj (by omega)⟩
  case round =>
    obtain ⟨k, hk, rfl, rfl, rfl, hsum, ⟨m, hown⟩, hb, hsm⟩ := hrel
    have HSM := Lib.hid hsm; clear hsm
    have hml : m = 4 + (4 * (l0.take k).length + sumB (l0.take k)) := by
      have h9 := hown.1
      rw [bv_length, List.length_append, beN_length, rowsB_length] at h9
      omega
    have hm9 : m ≤ 1000000 := by
      rw [hml, List.length_take]
      omega
    clear hml
    have HO := Lib.hid hown; clear hown
    have HB := Lib.hid hb; clear hb
    by_cases hlt : k < n0
    · have hkl : k < l0.length := by have := H0.out.2.1; omega
      obtain ⟨bb, off, rfl, hbb, hc⟩ := (H0.out.1.below HB.out (Nat.le_refl _)).at_ (k := k) (by simp [sv]; exact hkl)
      have hcell := hc k _ (sv_at l0 k hkl)
      clear hc
      have hmx := H0.out.2.2 _ (List.getElem_mem hkl)
      have HS := Lib.hid (sumB_snoc l0 k hkl)
      have HY := Lib.hid (rowsB_snoc l0 k hkl)
      obtain ⟨s, hs⟩ : ∃ s, l0[k] = s := ⟨_, rfl⟩
      rw [hs] at hcell hmx HS HY
      have HJ := Lib.hid hs; clear hs
      have HM := Lib.hid hmx
      have hmx2 : s.size ≤ 9223372036854775807 := by unfold maxLen at hmx; omega
      clear hmx
      generalize sumB (l0.take k) = q at hsum HS ⊢
      by_cases hbig : 65536 < s.size
      · go_wp2_with fail
        refine (puts_any wr).mono ?_
        rintro e w3 ⟨rfl, hb3⟩
        have B3 := Lib.hid (HB.out.trans (hb3.mono HB.out.size)); clear hb3
        go_wp2_with fail
        refine (reads_any w3).mono ?_
        rintro e w4 ⟨rfl, hb4⟩
        have B4 := Lib.hid (B3.out.trans (hb4.mono B3.out.size)); clear hb4
        go_wp2_with fail
        go_ret
        exact ⟨rfl, B4.out⟩
      have hbig1 : s.size ≤ 65536 := by omega
      have hbig' : decide (65536 < (s.size : Int)) = false := by simp; omega
      clear hbig
      by_cases hbig2 : 262144 - (q : Int) < (s.size : Int)
      · go_wp2_with fail
        refine (puts_any wr).mono ?_
        rintro e w3 ⟨rfl, hb3⟩
        have B3 := Lib.hid (HB.out.trans (hb3.mono HB.out.size)); clear hb3
        go_wp2_with fail
        refine (reads_any w3).mono ?_
        rintro e w4 ⟨rfl, hb4⟩
        have B4 := Lib.hid (B3.out.trans (hb4.mono B3.out.size)); clear hb4
        go_wp2_with fail
        go_ret
        exact ⟨rfl, B4.out⟩
      have hq2 : q + s.size ≤ 262144 := by omega
      have hbig2' : decide (262144 - (q : Int) < (s.size : Int)) = false := by simp; omega
      clear hbig2
      obtain ⟨A, c, rfl, hr, hl, _, _⟩ := own_rd HO.out
      have HR3 := Lib.hid (And.intro hr hl); clear hr hl
      go_wp2_with fail
      refine (putText_ok A m c _ s wr HR3.out.1 HR3.out.2 (by omega) hbig1).mono ?_
      rintro e w3 ⟨v, rfl, hown, hb3⟩
      have B3 := Lib.hid (HB.out.trans (hb3.mono HB.out.size)); clear hb3
      have HO3 := Lib.hid (own_base hown HB.out.size); clear hown
      go_wp2_with fail
      go_roundw
      case rel =>
        refine ⟨k + 1, by omega, by go_num, rfl, by rw [HS.out]; go_num, by rw [HS.out]; exact hq2, ⟨m + 4 + s.size, ?_⟩, B3.out, fun j hj hjk => ?_⟩
        rotate_left
        · by_cases h : j < k
          · exact HSM.out j hj h
          · obtain rfl : j = k := by omega
            rw [HJ.out]
            exact hbig1
        have h9 := HO3.out
        rw [← bv_append, ← bv_append, List.append_assoc, List.append_assoc] at h9
        rw [HY.out]
        exact h9
      case measure => simp [intOf]; omega
    · obtain rfl : k = n0 := by omega
      have e : l0.take k = l0 := List.take_of_length_le (by have := H0.out.2.1; omega)
      rw [e] at HO
      clear hsum e
      obtain ⟨A, c, rfl, hr, hl, h1, h2⟩ := own_rd HO.out
      have HR3 := Lib.hid (And.intro hr (And.intro hl (And.intro h1 h2))); clear hr hl h1 h2
      go_wp2_with fail
      refine (new_any A m c _ wr HR3.out.1 HR3.out.2.1 HR3.out.2.2.1 HR3.out.2.2.2).mono ?_
      rintro e w5 ⟨g, rfl, hg, hh, hb5⟩
      have hg0 : w.heap.size ≤ g := Nat.le_trans HB.out.size hg
      have B5 := Lib.hid (HB.out.trans (hb5.mono HB.out.size)); clear hb5 hg
      have C1 := number_any g _ w5 hh
      rw [num_put k _ (by omega)] at C1
      have C1 := Lib.hid C1; clear hh
      go_wp2_with fail
      refine Calls.mono C1.out ?_
      rintro e w6 ⟨rfl, hh, hgr⟩
      have B6 := Lib.hid (below_row B5.out hgr hg0 B5.out.size)
      rw [List.drop_left' (beN_length 4 k)] at hh
      have HH6 := Lib.hid hh; clear hh hgr
      go_wp2_with fail
      go_loopw [10, 11, 12] (fun i s e wr => ∃ t : Nat, t ≤ k ∧ i = .int .i64 t ∧ Holds wr g (rowsB (l0.drop t)) ∧ Below w.heap.size w wr) (fun i _ _ _ => k - (intOf i).toNat)
      case atStart => exact ⟨0, by omega, rfl, HH6.out, B6.out⟩
      case round =>
        obtain ⟨t, ht, rfl, hh, hb⟩ := hrel
        by_cases hlt2 : t < k
        · have hkl : t < l0.length := by have := H0.out.2.1; omega
          have hmx := HSM.out t hkl hlt2
          have C1 := text_any g _ _ hh
          rw [rowsB_cut l0 t hkl, text_put _ _ hmx] at C1
          have C1 := Lib.hid C1; clear hh
          obtain ⟨bb, off, rfl, hbb, hc⟩ := H0.out.1.at_ (k := t) (by simp [sv]; exact hkl)
          have HB7 := Lib.hid hb; clear hb
          have HC := Lib.hid (And.intro hbb (hc t _ (sv_at l0 t hkl)))
          clear hc hbb hmx
          have HD := Lib.hid (show ∀ m, (beN 4 (l0[t]).size ++ ((l0[t]).data.toList ++ m)).drop (4 + (l0[t]).size) = m by
            intro m
            rw [← List.append_assoc]
            exact List.drop_left' (by simp [beN_length]))
          generalize l0[t] = s at *
          go_wp2_with fail
          refine Calls.mono C1.out ?_
          rintro e w7 ⟨rfl, hh, hgr⟩
          have hbE := below_row HB7.out hgr hg0 HB7.out.size
          have hcell := (hbE.cell (p := ⟨bb, off + t, none⟩) HC.out.1).trans HC.out.2
          have HE := Lib.hid hbE
          rw [HD.out] at hh
          have HH7 := Lib.hid hh
          clear hh hgr hbE
          go_wp2_with fail
          go_roundw
          case rel => exact ⟨t + 1, by omega, by go_num, HH7.out, HE.out⟩
          case measure => simp [intOf]; omega
        · obtain rfl : t = k := by omega
          have e : l0.drop t = [] := List.drop_eq_nil_of_le (by have := H0.out.2.1; omega)
          rw [e] at hh
          have HH8 := Lib.hid hh; clear hh
          have B8 := Lib.hid hb; clear hb
          go_wp2_with fail
          refine (puts_any _).mono ?_
          rintro e w9 ⟨rfl, hb9⟩
          have HH9 := Lib.hid (HH8.out.below hb9)
          have B9 := Lib.hid (B8.out.trans (hb9.mono B8.out.size)); clear hb9
          go_wp2_with fail
          refine (reads_any w9).mono ?_
          rintro e w10 ⟨rfl, hb10⟩
          have C4 := left_any g _ w10 (HH9.out.below hb10)
          have C4 := Lib.hid C4
          have B10 := Lib.hid (B9.out.trans (hb10.mono B9.out.size)); clear hb10
          go_wp2_with fail
          refine Calls.mono C4.out ?_
          rintro e w' ⟨rfl, rfl⟩
          go_wp2_with fail
          go_ret
          exact ⟨rfl, B10.out⟩

end Go.Proofs.Ytlipnncbpbbdnaa
namespace Go.Proofs.Ytlipnncbpbbdnaa.codeRows
open Go.ChangeShapes Go.WideShapes Go.ChangeAt Go.RowKit
open Go.ChangeMaps (open_string shut_string)

set_option linter.unusedVariables false in
set_option maxRecDepth 100000 in
theorem lifted (os : Os) (started : os.Started) (H : Type) (enc : TypeId × Value → H) :
    ReturnsInHanded {} Try.checked os 9 .any (Rows.codeRowsSpec.pre6 enc Try.prog Try.f9 Rows.codeRowsRow.domain false) (Rows.codeRowsSpec.post enc Try.prog Try.f9 false true false false) := by
  refine returnsInHanded_of_change (C := Try.checked) own started (by kernel_rfl) Try.func9
    (ChangeSpec.witness6 (enc := enc) (C := Try.checked) false ⟨#[], #[.slice none 0 0], []⟩ 8 (by kernel_rfl) (by kernel_rfl) (by kernel_rfl) (by kernel_rfl)) ?_
  intro W base args ds gs before hval0 hW hcnd _
  have hval : ∀ (j : Nat) t v, Try.f9.params[j]? = some t → args[j]? = some v → Value.okWide Try.prog W .any base t v := hval0
  have hW' := hW
  obtain ⟨p, q, hA0, hV, rfl, hfz, hnd⟩ := hW
  have hA : DataW.TrodAll enc Try.prog W 0 (fun _ => true) true Try.f9.params.toList args.toList ds p := hA0
  rw [Try.params9] at hA hval
  obtain ⟨v0, vs0, d0, ds0, p0, q0, hargs, rfl, rfl, h0, r'0⟩ := trodAll_cons hA
  obtain ⟨rfl, rfl, rfl⟩ := trodAll_nil r'0
  obtain rfl : args = #[v0] := by cases args; simp_all
  obtain ⟨rfl, rfl⟩ := trodVars_none hV
  have k0 := h0
  have lt0 : ∀ x ∈ p0, x.block < W.heap.size := by obtain ⟨m, hm⟩ := k0; exact DataW.trod_lt m _ _ _ hm
  obtain ⟨a0, n0, c0, rfl⟩ := okWide_slice Try.underlying52 (hval 0 52 v0 rfl rfl)
  obtain ⟨l0, r0, e0, b0, m0, f0⟩ := openStrings Try.underlying52 Try.underlying9 (by kernel_rfl) h0
  clear hA0 hval0
  refine (codeRows_walk a0 n0 c0 l0 W r0 e0 b0 m0 f0).mono fun e W' ⟨he, bel⟩ => ?_
  subst he
  exact ⟨_, rfl, _, _, _, [], _, [], hW', trodAll_mk1 (shut_bool Try.underlying4 _), (trodAll_cons_mk (Below.trod laidOut (by kernel_rfl) (of_decide_eq_true (by kernel_rfl)) k0 bel lt0) trodAll_mk0), rfl, bel.frame _, fun h => by cases h⟩

theorem over : Rows.codeRowsRow.holds Try.pinned (OpenSpec.ofChange Rows.codeRowsSpec) :=
  OpenClaim.holds_of_wide 9 Try.f9 rfl rfl rfl rfl rfl rfl rfl ⟨rfl, rfl, rfl, rfl, rfl⟩ rfl rfl rfl rfl rfl (by kernel_rfl) Try.func9 (by kernel_rfl)
    (of_decide_eq_true (by kernel_rfl)) (by unfold Func.isWrapper; first | (rw [if_pos (by decide +kernel)]; kernel_rfl) | (rw [if_neg (by decide +kernel)]; exact ⟨rfl, rfl⟩))
    (fun os started H enc _ => lifted os started H enc)

/-- The statement. -/
theorem proved : Rows.CodeRowsSaid := over
#print axioms proved
end Go.Proofs.Ytlipnncbpbbdnaa.codeRows
