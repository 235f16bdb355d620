/- ViewsHalves: of a row of nodes and of those that are not in it just one is enough: the law returns true at every input, and leaves what came in as it was. No condition. -/
import Derived.Test.YtlomahddominlaaMeet
import Derived.Test.YtlomahddominlaaOpen
namespace Go.Proofs.Ytlomahddominlaa
open Go.RowKit

theorem int_info : (Try.prog.info? 3).map (fun i => (i.zero, i.size, i.bytes)) = some (some (.int .i64 0), 1, 8) := by kernel_rfl
/-- The nodes that are not in a row. -/
def restUp (l : List Int) (k : Nat) : List Int := ((List.range k).filter fun (j : Nat) => decide (1 ≤ j) && !inB j l).map fun (j : Nat) => (j : Int)
theorem restUp_succ (l : List Int) (k : Nat) (hk : 1 ≤ k) : restUp l (k + 1) = restUp l k ++ (if inB k l = true then [] else [(k : Int)]) := by
  unfold restUp
  rw [List.range_succ, List.filter_append, List.map_append]
  congr 1
  by_cases h : inB k l = true
  · simp [h]
  · have h' : inB k l = false := by simpa using h
    simp [h', hk]
theorem restUp_len (l : List Int) (k : Nat) : (restUp l k).length ≤ k := by
  unfold restUp
  rw [List.length_map]
  exact Nat.le_trans (List.length_filter_le _ _) (by simp)
theorem in_restUp (l : List Int) (m k : Nat) (h1 : 1 ≤ k) (h2 : k < m) : inB k (restUp l m) = !inB k l := by
  unfold inB restUp
  cases hb : decide ((k : Int) ∈ l) with
  | true =>
    simp only [Bool.not_true, decide_eq_false_iff_not, List.mem_map, List.mem_filter, not_exists, not_and]
    intro j hj e
    have : j = k := by omega
    subst this
    have h := hj.2
    unfold inB at h
    rw [hb] at h
    simp at h
  | false =>
    simp only [Bool.not_false, decide_eq_true_eq, List.mem_map, List.mem_filter]
    exact ⟨k, ⟨by simpa using h2, by unfold inB; rw [hb]; simp [h1]⟩, rfl⟩
theorem inB_take (x : Int) (l : List Int) (i : Nat) (h : i < l.length) : inB x (l.take (i + 1)) = (inB x (l.take i) || (l[i] == x)) := by
  unfold inB
  rw [List.take_succ_eq_append_getElem h, Bool.eq_iff_iff]
  simp only [decide_eq_true_eq, Bool.or_eq_true, beq_iff_eq, List.mem_append, List.mem_singleton]
  constructor
  · rintro (h | h)
    · exact .inl h
    · exact .inr h.symm
  · rintro (h | h)
    · exact .inl h
    · exact .inr h.symm

set_option linter.unusedVariables false in
set_option maxHeartbeats 800000 in
theorem viewsHalves_walk (x0 : Int) (a1 : Option Addr) (n1 c1 : Nat) (l1 : List Int) (w : World) (f0 : (Lit.int .i64 x0).wf = true) (r1 : Rd w w.heap.size a1 (iv l1)) (e1 : l1.length = n1) (b1 : n1 ≤ c1) (m1 : c1 ≤ maxLen) (f1 : ∀ n ∈ l1, (Lit.int .i64 n).wf = true) :
    Calls Try.prog 6 #[.int .i64 x0, .slice a1 n1 c1] w fun e w' => e = .returned (.bool true) ∧ Below w.heap.size w w' := by
  by_cases hlong : 300 < n1
  · go_enter Try.func6, Try.ntmps6
    unfold maxLen at m1
    go_wp2_with fail
    refine (asks_any w).mono ?_
    rintro e w1 ⟨rfl, hb⟩
    go_wp2_with fail
    go_ret
    exact ⟨rfl, hb⟩
  have hd : decide (300 < (n1 : Int)) = false := by simp; omega
  have hn : n1 ≤ 300 := by omega
  clear hlong m1 f0
  by_cases hx : nodesB x0 = true
  · have hxx := nodesB_of hx
    have hx7 : x0 ≤ 7 := by omega
    have hx1 : 1 ≤ x0 := by omega
    clear hxx
    obtain ⟨i0, hi0, hz0, hz1, hz2⟩ := info_parts int_info
    have H := Lib.hid (And.intro r1 e1); clear r1 e1 f1
    go_enter Try.func6, Try.ntmps6
    go_wp2_with fail
    refine (nodes_any x0 w).mono ?_
    rintro e w' ⟨rfl, rfl⟩
    go_wp2_with fail
    go_loopw [5, 6, 7, 8] (fun v n u7 u8 wr => ∃ k : Nat, 1 ≤ k ∧ (k : Int) ≤ x0 + 1 ∧ n = .int .i64 k ∧ wr.ownsRow w.heap.size 3 1 v (restUp l1 k).length (iv (restUp l1 k)) ∧ Below w.heap.size w wr) (fun _ n _ _ _ => (x0 + 1 - intOf n).toNat)
    case atStart => exact ⟨1, by omega, by omega, rfl, by simpa [restUp, List.range_succ, iv] using World.ownsRow_nil w w.heap.size 3 1, Below.refl _ _⟩
    case round =>
      obtain ⟨k, hk1, hk2, rfl, hown, hb⟩ := hrel
      have hrl := restUp_len l1 k
      by_cases hlt : (k : Int) ≤ x0
      · have HO := Lib.hid hown; clear hown
        go_wp2_with fail
        go_loop [7, 8] (fun b i => ∃ t : Nat, t ≤ n1 ∧ i = .int .i64 t ∧ b = .bool (inB k (l1.take t))) (fun _ i => n1 - (intOf i).toNat)
        case atStart => exact ⟨0, by omega, rfl, by simp [inB]⟩
        case round =>
          obtain ⟨t, ht, rfl, rfl⟩ := hrel
          by_cases hlt2 : t < n1
          · have htl : t < l1.length := by have := H.out.2; omega
            obtain ⟨bb, off, rfl, hbb, hc⟩ := (H.out.1.below hb (Nat.le_refl _)).at_ (k := t) (by rw [iv_length]; exact htl)
            have hcell := hc t _ (iv_at l1 t htl)
            clear hc
            have HT := Lib.hid (inB_take k l1 t htl)
            by_cases hin : inB k (l1.take t) = true
            · rw [hin] at HT ⊢
              go_wp2_with fail
              go_round
              case rel => exact ⟨t + 1, by omega, by go_num, by rw [HT.out]; rfl⟩
              case measure => simp [intOf]; omega
            · have hinf : inB k (l1.take t) = false := by simpa using hin
              rw [hinf] at HT ⊢
              clear hin hinf
              go_wp2_with fail
              go_round
              case rel => exact ⟨t + 1, by omega, by go_num, by rw [HT.out]; rfl⟩
              case measure => simp [intOf]; omega
          · obtain rfl : t = n1 := by omega
            have e : l1.take t = l1 := List.take_of_length_le (by have := H.out.2; omega)
            rw [e]
            have HS := Lib.hid (restUp_succ l1 k hk1)
            by_cases hin : inB k l1 = true
            · rw [hin] at HS ⊢
              go_wp2_with fail
              go_roundw
              case rel => exact ⟨k + 1, by omega, by omega, by go_num, by rw [HS.out]; simpa using HO.out, hb⟩
              case measure => simp [intOf]; omega
            · have hinf : inB k l1 = false := by simpa using hin
              rw [hinf] at HS ⊢
              clear hin hinf
              go_wp2_with (at_builtin; refine wpList_append_one wr rfl (.tmp 40) (.tmp 42) _ rfl w.heap.size 3 i0 (.int .i64 0) 8 Try.underlying22 hi0 hz0 hz1 hz2 rfl u5 _ _ HO.out rfl (.int .i64 k) rfl rfl ?_ ?_ hb.size ?_)
              · unfold maxLen; omega
              · omega
              intro v3 w3 hown3 hg3
              have hb3 := hb.trans (below_of_grown HO.out hg3 hb.size)
              go_wp2_with fail
              go_roundw
              case rel => exact ⟨k + 1, by omega, by omega, by go_num, by rw [HS.out, List.length_append, iv_append]; simpa [iv] using hown3, hb3⟩
              case measure => simp [intOf]; omega
      · obtain ⟨va, vc, rfl, hv1, hv2⟩ := own_is_slice hown
        have HH := Lib.hid (halves (a := l1) (b := restUp l1 k) hx fun j h1 h2 => in_restUp l1 k j h1 (by omega))
        have HO := Lib.hid hown; clear hown
        generalize restUp l1 k = rs at hrl HO HH hv1 ⊢
        go_wp2_with fail
        refine (asks_any wr).mono ?_
        rintro e w2 ⟨rfl, hb2⟩
        go_wp2_with fail
        refine (enough_any x0 a1 n1 c1 _ l1 w2 (H.out.1.below (hb.trans (hb2.mono hb.size)) (Nat.le_refl _)) H.out.2 (by omega)).mono ?_
        rintro e w' ⟨rfl, rfl⟩
        go_wp2_with fail
        refine (enough_any x0 va rs.length vc _ rs w2 ((Rd.of_own HO.out).below hb2 (Nat.le_refl _)) rfl (by omega)).mono ?_
        rintro e w' ⟨rfl, rfl⟩
        have hne := HH.out
        go_wp2_with fail
        go_ret
        exact ⟨rfl, hb.trans (hb2.mono hb.size)⟩
  · have hnf : nodesB x0 = false := by simpa using hx
    clear hx
    go_enter Try.func6, Try.ntmps6
    go_wp2_with fail
    refine (nodes_any x0 w).mono ?_
    rintro e w' ⟨rfl, rfl⟩
    go_wp2_with fail
    refine (asks_any w).mono ?_
    rintro e w1 ⟨rfl, hb⟩
    go_wp2_with fail
    go_ret
    exact ⟨rfl, hb⟩

end Go.Proofs.Ytlomahddominlaa
namespace Go.Proofs.Ytlomahddominlaa.viewsHalves
open Go.ChangeShapes Go.WideShapes Go.ChangeAt Go.RowKit
open Go.ChangeMaps (open_string shut_string)

set_option linter.unusedVariables false in
set_option maxRecDepth 100000 in
theorem lifted (os : Os) (started : os.Started) (H : Type) (enc : TypeId × Value → H) :
    ReturnsInHanded {} Try.checked os 6 .any (Rows.viewsHalvesSpec.pre6 enc Try.prog Try.f6 Rows.viewsHalvesRow.domain false) (Rows.viewsHalvesSpec.post enc Try.prog Try.f6 false true false false) := by
  refine returnsInHanded_of_change (C := Try.checked) own started (by kernel_rfl) Try.func6
    (ChangeSpec.witness6 (enc := enc) (C := Try.checked) false ⟨#[], #[.int .i64 0, .slice none 0 0], []⟩ 8 (by kernel_rfl) (by kernel_rfl) (by kernel_rfl) (by kernel_rfl)) ?_
  intro W base args ds gs before hval0 hW hcnd _
  have hval : ∀ (j : Nat) t v, Try.f6.params[j]? = some t → args[j]? = some v → Value.okWide Try.prog W .any base t v := hval0
  have hW' := hW
  obtain ⟨p, q, hA0, hV, rfl, hfz, hnd⟩ := hW
  have hA : DataW.TrodAll enc Try.prog W 0 (fun _ => true) true Try.f6.params.toList args.toList ds p := hA0
  rw [Try.params6] at hA hval
  obtain ⟨v0, vs0, d0, ds0, p0, q0, hargs, rfl, rfl, h0, r'0⟩ := trodAll_cons hA
  obtain ⟨v1, vs1, d1, ds1, p1, q1, rfl, rfl, rfl, h1, r'1⟩ := trodAll_cons r'0
  obtain ⟨rfl, rfl, rfl⟩ := trodAll_nil r'1
  obtain rfl : args = #[v0, v1] := by cases args; simp_all
  obtain ⟨rfl, rfl⟩ := trodVars_none hV
  have k0 := h0
  have lt0 : ∀ x ∈ p0, x.block < W.heap.size := by obtain ⟨m, hm⟩ := k0; exact DataW.trod_lt m _ _ _ hm
  obtain ⟨x0, rfl, rfl, rfl, f0⟩ := open_int Try.underlying3 (hval 0 3 v0 rfl rfl) h0
  have k1 := h1
  have lt1 : ∀ x ∈ p1, x.block < W.heap.size := by obtain ⟨m, hm⟩ := k1; exact DataW.trod_lt m _ _ _ hm
  obtain ⟨a1, n1, c1, rfl⟩ := okWide_slice Try.underlying22 (hval 1 22 v1 rfl rfl)
  obtain ⟨l1, r1, e1, b1, m1, f1⟩ := openInts Try.underlying22 Try.underlying3 (by kernel_rfl) h1
  clear hA0 hval0
  refine (viewsHalves_walk x0 a1 n1 c1 l1 W f0 r1 e1 b1 m1 f1).mono fun e W' ⟨he, bel⟩ => ?_
  subst he
  exact ⟨_, rfl, _, _, _, [], _, [], hW', trodAll_mk1 (shut_bool Try.underlying4 _), (trodAll_cons_mk (Below.trod laidOut (by kernel_rfl) (of_decide_eq_true (by kernel_rfl)) k0 bel lt0) (trodAll_cons_mk (Below.trod laidOut (by kernel_rfl) (of_decide_eq_true (by kernel_rfl)) k1 bel lt1) trodAll_mk0)), rfl, bel.frame _, fun h => by cases h⟩

theorem over : Rows.viewsHalvesRow.holds Try.pinned (OpenSpec.ofChange Rows.viewsHalvesSpec) :=
  OpenClaim.holds_of_wide 6 Try.f6 rfl rfl rfl rfl rfl rfl rfl ⟨rfl, rfl, rfl, rfl, rfl⟩ rfl rfl rfl rfl rfl (by kernel_rfl) Try.func6 (by kernel_rfl)
    (of_decide_eq_true (by kernel_rfl)) (by unfold Func.isWrapper; first | (rw [if_pos (by decide +kernel)]; kernel_rfl) | (rw [if_neg (by decide +kernel)]; exact ⟨rfl, rfl⟩))
    (fun os started H enc _ => lifted os started H enc)

/-- The statement. -/
theorem proved : Rows.ViewsHalvesSaid := over
#print axioms proved
end Go.Proofs.Ytlomahddominlaa.viewsHalves
