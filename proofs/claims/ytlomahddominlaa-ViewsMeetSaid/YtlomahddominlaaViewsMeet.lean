/- ViewsMeet: two rows of nodes that are enough have one in common: the law returns true at every input, and leaves what came in as it was. No condition. -/
import Derived.Test.YtlomahddominlaaMeet
import Derived.Test.YtlomahddominlaaOpen
namespace Go.Proofs.Ytlomahddominlaa
open Go.RowKit

set_option linter.unusedVariables false in
set_option maxHeartbeats 800000 in
theorem viewsMeet_walk (x0 : Int) (a1 : Option Addr) (n1 c1 : Nat) (l1 : List Int) (a2 : Option Addr) (n2 c2 : Nat) (l2 : List Int) (w : World) (f0 : (Lit.int .i64 x0).wf = true) (r1 : Rd w w.heap.size a1 (iv l1)) (e1 : l1.length = n1) (b1 : n1 ≤ c1) (m1 : c1 ≤ maxLen) (f1 : ∀ n ∈ l1, (Lit.int .i64 n).wf = true) (r2 : Rd w w.heap.size a2 (iv l2)) (e2 : l2.length = n2) (b2 : n2 ≤ c2) (m2 : c2 ≤ maxLen) (f2 : ∀ n ∈ l2, (Lit.int .i64 n).wf = true) :
    Calls Try.prog 4 #[.int .i64 x0, .slice a1 n1 c1, .slice a2 n2 c2] w fun e w' => e = .returned (.bool true) ∧ Below w.heap.size w w' := by
  by_cases hl1 : 300 < n1
  · unfold maxLen at m1
    go_enter Try.func4, Try.ntmps4
    go_wp2_with fail
    refine (asks_any w).mono ?_
    rintro e w1 ⟨rfl, hb⟩
    go_wp2_with fail
    go_ret
    exact ⟨rfl, hb⟩
  have hd1 : decide (300 < (n1 : Int)) = false := by simp; omega
  have hn1 : n1 ≤ 300 := by omega
  clear hl1 m1
  by_cases hl2 : 300 < n2
  · unfold maxLen at m2
    go_enter Try.func4, Try.ntmps4
    go_wp2_with fail
    refine (asks_any w).mono ?_
    rintro e w1 ⟨rfl, hb⟩
    go_wp2_with fail
    go_ret
    exact ⟨rfl, hb⟩
  have hd2 : decide (300 < (n2 : Int)) = false := by simp; omega
  have hn2 : n2 ≤ 300 := by omega
  clear hl2 m2 f0 f1 f2
  have H := Lib.hid (And.intro r1 (And.intro e1 (And.intro r2 e2))); clear r1 e1 r2 e2
  by_cases ha : enoughB x0 l1 = true
  · by_cases hb : enoughB x0 l2 = true
    · have HM := Lib.hid (meet ha hb)
      go_enter Try.func4, Try.ntmps4
      go_wp2_with fail
      refine (enough_any x0 a1 n1 c1 _ l1 w H.out.1 H.out.2.1 (by omega)).mono ?_
      rintro e w' ⟨rfl, rfl⟩
      go_wp2_with fail
      refine (enough_any x0 a2 n2 c2 _ l2 w H.out.2.2.1 H.out.2.2.2 (by omega)).mono ?_
      rintro e w' ⟨rfl, rfl⟩
      go_wp2_with fail
      go_loopw [7, 8] (fun i u8 wr => ∃ k : Nat, k ≤ n1 ∧ i = .int .i64 k ∧ (∃ nq, wr = w.drewN nq) ∧ Hid (∀ y, y ∈ l1.take k → ¬ (y ∈ l2 ∧ 1 ≤ y ∧ y ≤ x0))) (fun i _ _ => n1 - (intOf i).toNat)
      case atStart => exact ⟨0, by omega, rfl, ⟨0, rfl⟩, Lib.hid fun y hy => by simp at hy⟩
      case round =>
        obtain ⟨k, hk, rfl, ⟨nq, rfl⟩, HN⟩ := hrel
        by_cases hlt : k < n1
        · have hkl : k < l1.length := by have := H.out.2.1; omega
          obtain ⟨bb, off, rfl, hbb, hc⟩ := H.out.1.at_ (k := k) (by rw [iv_length]; exact hkl)
          have hcell := hc k _ (iv_at l1 k hkl)
          clear hc
          go_wp2_with fail
          go_loopw [8] (fun i wr => ∃ t : Nat, t ≤ n2 ∧ i = .int .i64 t ∧ (∃ nq, wr = w.drewN nq) ∧ Hid (∀ y, y ∈ l2.take t → ¬ (y = l1[k] ∧ 1 ≤ y ∧ y ≤ x0))) (fun i _ => n2 - (intOf i).toNat)
          case atStart => exact ⟨0, by omega, rfl, ⟨nq, rfl⟩, Lib.hid fun y hy => by simp at hy⟩
          case round =>
            obtain ⟨t, ht, rfl, ⟨nq2, rfl⟩, HT⟩ := hrel
            by_cases hlt2 : t < n2
            · have htl : t < l2.length := by have := H.out.2.2.2; omega
              obtain ⟨b2, off2, rfl, hb2, hc2⟩ := H.out.2.2.1.at_ (k := t) (by rw [iv_length]; exact htl)
              have hcell2 := hc2 t _ (iv_at l2 t htl)
              clear hc2
              have i1 : (k : Int) < n1 := by omega
              have i2 : (t : Int) < n2 := by omega
              have HK := Lib.hid (show ∀ y, y ∈ l2.take (t + 1) → y ∈ l2.take t ∨ y = l2[t] by
                intro y hy
                rw [List.take_succ_eq_append_getElem htl, List.mem_append, List.mem_singleton] at hy
                exact hy)
              by_cases heq : l1[k] = l2[t]
              · have c1 : (l1[k] == l2[t]) = true := by simp [heq]
                have HE := Lib.hid heq; clear heq
                by_cases h1 : 1 ≤ l1[k]
                · have c2 : decide (1 ≤ l1[k]) = true := by simp [h1]
                  by_cases h2 : l1[k] ≤ x0
                  · have c3 : decide (l1[k] ≤ x0) = true := by simp [h2]
                    clear h1 h2
                    go_wp2_with fail
                    go_quiet (fail)
                    go_wp2_with fail
                    refine (asks_any _).mono ?_
                    rintro e w1 ⟨rfl, hb⟩
                    go_wp2_with fail
                    go_ret
                    exact ⟨rfl, ⟨hb.os, hb.tape, hb.output, hb.size, hb.block⟩⟩
                  · have c3 : decide (l1[k] ≤ x0) = false := by simpa using h2
                    have HX := Lib.hid h2
                    clear h1 h2
                    go_wp2_with fail
                    go_quiet (fail)
                    go_wp2_with fail
                    go_roundw
                    case rel => exact ⟨t + 1, by omega, by go_num, ⟨_, rfl⟩, Lib.hid fun y hy => by
                      rcases HK.out y hy with hy | rfl
                      · exact HT.out y hy
                      · intro hh; have g1 := HX.out; have g2 := HE.out; have g3 := hh.2.2; omega⟩
                    case measure => simp [intOf]; omega
                · have c2 : decide (1 ≤ l1[k]) = false := by simpa using h1
                  have HX := Lib.hid h1
                  clear h1
                  go_wp2_with fail
                  go_quiet (fail)
                  go_wp2_with fail
                  go_roundw
                  case rel => exact ⟨t + 1, by omega, by go_num, ⟨_, rfl⟩, Lib.hid fun y hy => by
                    rcases HK.out y hy with hy | rfl
                    · exact HT.out y hy
                    · intro hh; have g1 := HX.out; have g2 := HE.out; have g3 := hh.2.1; omega⟩
                  case measure => simp [intOf]; omega
              · have c1 : (l1[k] == l2[t]) = false := by simp [heq]
                have HE := Lib.hid heq; clear heq
                go_wp2_with fail
                go_quiet (fail)
                go_wp2_with fail
                go_roundw
                case rel => exact ⟨t + 1, by omega, by go_num, ⟨_, rfl⟩, Lib.hid fun y hy => by
                  rcases HK.out y hy with hy | rfl
                  · exact HT.out y hy
                  · intro hh; exact HE.out hh.1.symm⟩
                case measure => simp [intOf]; omega
            · obtain rfl : t = n2 := by omega
              have e2' : l2.take t = l2 := List.take_of_length_le (by have := H.out.2.2.2; omega)
              rw [e2'] at HT
              clear e2'
              go_wp2_with fail
              go_roundw
              case rel => exact ⟨k + 1, by omega, by go_num, ⟨_, rfl⟩, Lib.hid fun y hy => by
                rw [List.take_succ_eq_append_getElem hkl, List.mem_append, List.mem_singleton] at hy
                rcases hy with hy | rfl
                · exact HN.out y hy
                · intro hh; exact HT.out _ hh.1 ⟨rfl, hh.2⟩⟩
              case measure => simp [intOf]; omega
        · exfalso
          obtain rfl : k = n1 := by omega
          have e1' : l1.take k = l1 := List.take_of_length_le (by have := H.out.2.1; omega)
          obtain ⟨y, h1, h2, h3, h4⟩ := HM.out
          have := HN.out y
          rw [e1'] at this
          exact this h1 ⟨h2, h3, h4⟩
    · have hbf : enoughB x0 l2 = false := by simpa using hb
      clear hb
      go_enter Try.func4, Try.ntmps4
      go_wp2_with fail
      refine (enough_any x0 a1 n1 c1 _ l1 w H.out.1 H.out.2.1 (by omega)).mono ?_
      rintro e w' ⟨rfl, rfl⟩
      go_wp2_with fail
      refine (enough_any x0 a2 n2 c2 _ l2 w H.out.2.2.1 H.out.2.2.2 (by omega)).mono ?_
      rintro e w' ⟨rfl, rfl⟩
      go_wp2_with fail
      refine (asks_any w).mono ?_
      rintro e w1 ⟨rfl, hb⟩
      go_wp2_with fail
      go_ret
      exact ⟨rfl, hb⟩
  · have haf : enoughB x0 l1 = false := by simpa using ha
    clear ha
    go_enter Try.func4, Try.ntmps4
    go_wp2_with fail
    refine (enough_any x0 a1 n1 c1 _ l1 w H.out.1 H.out.2.1 (by omega)).mono ?_
    rintro e w' ⟨rfl, rfl⟩
    go_wp2_with fail
    refine (asks_any w).mono ?_
    rintro e w1 ⟨rfl, hb⟩
    go_wp2_with fail
    go_ret
    exact ⟨rfl, hb⟩

end Go.Proofs.Ytlomahddominlaa
namespace Go.Proofs.Ytlomahddominlaa.viewsMeet
open Go.ChangeShapes Go.WideShapes Go.ChangeAt Go.RowKit
open Go.ChangeMaps (open_string shut_string)

set_option linter.unusedVariables false in
set_option maxRecDepth 100000 in
theorem lifted (os : Os) (started : os.Started) (H : Type) (enc : TypeId × Value → H) :
    ReturnsInHanded {} Try.checked os 4 .any (Rows.viewsMeetSpec.pre6 enc Try.prog Try.f4 Rows.viewsMeetRow.domain false) (Rows.viewsMeetSpec.post enc Try.prog Try.f4 false true false false) := by
  refine returnsInHanded_of_change (C := Try.checked) own started (by kernel_rfl) Try.func4
    (ChangeSpec.witness6 (enc := enc) (C := Try.checked) false ⟨#[], #[.int .i64 0, .slice none 0 0, .slice none 0 0], []⟩ 8 (by kernel_rfl) (by kernel_rfl) (by kernel_rfl) (by kernel_rfl)) ?_
  intro W base args ds gs before hval0 hW hcnd _
  have hval : ∀ (j : Nat) t v, Try.f4.params[j]? = some t → args[j]? = some v → Value.okWide Try.prog W .any base t v := hval0
  have hW' := hW
  obtain ⟨p, q, hA0, hV, rfl, hfz, hnd⟩ := hW
  have hA : DataW.TrodAll enc Try.prog W 0 (fun _ => true) true Try.f4.params.toList args.toList ds p := hA0
  rw [Try.params4] at hA hval
  obtain ⟨v0, vs0, d0, ds0, p0, q0, hargs, rfl, rfl, h0, r'0⟩ := trodAll_cons hA
  obtain ⟨v1, vs1, d1, ds1, p1, q1, rfl, rfl, rfl, h1, r'1⟩ := trodAll_cons r'0
  obtain ⟨v2, vs2, d2, ds2, p2, q2, rfl, rfl, rfl, h2, r'2⟩ := trodAll_cons r'1
  obtain ⟨rfl, rfl, rfl⟩ := trodAll_nil r'2
  obtain rfl : args = #[v0, v1, v2] := by cases args; simp_all
  obtain ⟨rfl, rfl⟩ := trodVars_none hV
  have k0 := h0
  have lt0 : ∀ x ∈ p0, x.block < W.heap.size := by obtain ⟨m, hm⟩ := k0; exact DataW.trod_lt m _ _ _ hm
  obtain ⟨x0, rfl, rfl, rfl, f0⟩ := open_int Try.underlying3 (hval 0 3 v0 rfl rfl) h0
  have k1 := h1
  have lt1 : ∀ x ∈ p1, x.block < W.heap.size := by obtain ⟨m, hm⟩ := k1; exact DataW.trod_lt m _ _ _ hm
  obtain ⟨a1, n1, c1, rfl⟩ := okWide_slice Try.underlying22 (hval 1 22 v1 rfl rfl)
  obtain ⟨l1, r1, e1, b1, m1, f1⟩ := openInts Try.underlying22 Try.underlying3 (by kernel_rfl) h1
  have k2 := h2
  have lt2 : ∀ x ∈ p2, x.block < W.heap.size := by obtain ⟨m, hm⟩ := k2; exact DataW.trod_lt m _ _ _ hm
  obtain ⟨a2, n2, c2, rfl⟩ := okWide_slice Try.underlying22 (hval 2 22 v2 rfl rfl)
  obtain ⟨l2, r2, e2, b2, m2, f2⟩ := openInts Try.underlying22 Try.underlying3 (by kernel_rfl) h2
  clear hA0 hval0
  refine (viewsMeet_walk x0 a1 n1 c1 l1 a2 n2 c2 l2 W f0 r1 e1 b1 m1 f1 r2 e2 b2 m2 f2).mono fun e W' ⟨he, bel⟩ => ?_
  subst he
  exact ⟨_, rfl, _, _, _, [], _, [], hW', trodAll_mk1 (shut_bool Try.underlying4 _), (trodAll_cons_mk (Below.trod laidOut (by kernel_rfl) (of_decide_eq_true (by kernel_rfl)) k0 bel lt0) (trodAll_cons_mk (Below.trod laidOut (by kernel_rfl) (of_decide_eq_true (by kernel_rfl)) k1 bel lt1) (trodAll_cons_mk (Below.trod laidOut (by kernel_rfl) (of_decide_eq_true (by kernel_rfl)) k2 bel lt2) trodAll_mk0))), rfl, bel.frame _, fun h => by cases h⟩

theorem over : Rows.viewsMeetRow.holds Try.pinned (OpenSpec.ofChange Rows.viewsMeetSpec) :=
  OpenClaim.holds_of_wide 4 Try.f4 rfl rfl rfl rfl rfl rfl rfl ⟨rfl, rfl, rfl, rfl, rfl⟩ rfl rfl rfl rfl rfl (by kernel_rfl) Try.func4 (by kernel_rfl)
    (of_decide_eq_true (by kernel_rfl)) (by unfold Func.isWrapper; first | (rw [if_pos (by decide +kernel)]; kernel_rfl) | (rw [if_neg (by decide +kernel)]; exact ⟨rfl, rfl⟩))
    (fun os started H enc _ => lifted os started H enc)

/-- The statement. -/
theorem proved : Rows.ViewsMeetSaid := over
#print axioms proved
end Go.Proofs.Ytlomahddominlaa.viewsMeet
