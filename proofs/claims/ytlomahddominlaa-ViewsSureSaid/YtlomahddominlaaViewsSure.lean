/- ViewsSure: the greatest number that enough have is just this. No condition. -/
import Derived.Test.YtlomahddominlaaRefSure
import Derived.Test.YtlomahddominlaaOpenA
import Derived.Test.YtlomahddominlaaOpen
namespace Go.Proofs.Ytlomahddominlaa
open Go.RowKit

theorem ack_info : (Try.prog.info? 37).map (fun i => (i.zero, i.size, i.bytes)) = some (some (.agg #[.int .i64 0, .int .i64 0]), 2, 16) := by kernel_rfl
theorem own_acks {w : World} {base n c : Nat} {A : Option Addr} {xs : List Value} (h : w.ownsRow base 37 2 (.slice A n c) n xs) : Rd w w.heap.size A xs := by
  rcases h.2 with ⟨hv, rfl⟩ | ⟨g, cap, cur, hv, _, hg, _, _, _, _⟩
  · exact .inl (List.eq_nil_of_length_eq_zero (by simpa using h.1))
  · have hA : A = some ⟨g, 0, none⟩ := by injection hv
    subst hA
    exact .inr ⟨g, 0, rfl, (Array.getElem?_eq_some_iff.1 hg).1, fun j u hu => by simpa [Addr.add_lit] using h.cells (g := g) rfl j u hu⟩
theorem acks_one (l : List (Int × Int)) : ∀ u ∈ ackCells l, u.oneCell' = true := by
  intro u hu
  simp only [ackCells, List.mem_flatten, List.mem_map] at hu
  obtain ⟨r, ⟨a, _, rfl⟩, hu⟩ := hu
  simp only [List.mem_cons, List.not_mem_nil, or_false] at hu
  rcases hu with rfl | rfl <;> rfl
theorem ack_same (x y : Int) (w : World) : Sem.run Try.prog (binOp .neq 37 (.agg #[.int .i64 x, .int .i64 y]) (.agg #[.int .i64 x, .int .i64 y])) w = .ok (.bool false) w := by
  have u3 := Try.underlying3
  have hS : Try.prog.underlying 37 = some (.struct (Try.prog.fieldsOf 37)) := by kernel_rfl
  have hp : Try.prog.stoodInHeld 37 = false := by kernel_rfl
  rw [run_neq_struct, show (10000 : Nat) = 9999 + 1 from rfl, run_equalIn_agg w 9999 _ _ _ hS hp]
  simp only [Program.fieldsOf, Try.underlying37]
  go_simp
  all_goals simp

theorem below_drewS {C : Nat} {w w' : World} (h : Below C w w') (q : Nat) : Below C w (w'.drewN q) := ⟨h.os, h.tape, h.output, h.size, h.block⟩


set_option linter.unusedVariables false in
set_option maxRecDepth 40000 in
set_option maxHeartbeats 3200000 in
theorem viewsSure_walk (x0 : Int) (x1 : Int) (a2 : Option Addr) (n2 c2 : Nat) (l2 : List (Int × Int)) (w : World) (f0 : (Lit.int .i64 x0).wf = true) (f1 : (Lit.int .i64 x1).wf = true) (r2 : Rd w w.heap.size a2 (ackCells l2)) (e2 : l2.length = n2) (b2 : n2 ≤ c2) (m2 : c2 ≤ maxLen) :
    Calls Try.prog 9 #[.int .i64 x0, .int .i64 x1, .slice a2 n2 c2] w fun e w' => e = .returned (.bool true) ∧ Below w.heap.size w w' := by
  unfold maxLen at m2
  by_cases hlong : 300 < n2
  · have h1 : (300 : Int) < (n2 : Int) := by omega
    go_enter Try.func9, Try.ntmps9
    go_wp2_with fail
    go_ret
    exact ⟨rfl, Below.refl _ _⟩
  have h1 : ¬ (300 : Int) < (n2 : Int) := by omega
  have hn2 : n2 ≤ 300 := by omega
  have H := Lib.hid (And.intro r2 e2)
  clear r2 e2 b2 m2 hlong f0 f1
  obtain ⟨i0, hi0, hz0, hz1, hz2⟩ := info_parts ack_info
  go_enter Try.func9, Try.ntmps9
  go_wp2_with (at_builtin; refine wpList_append_rd w rfl (.tmp 13) (.tmp 14) _ rfl w.heap.size 37 i0 _ 2 16 Try.underlying34 hi0 hz0 hz1 hz2 rfl (by omega) (.slice none 0 0) 0 [] (World.ownsRow_nil _ _ _ _) rfl w.heap.size a2 n2 c2 (ackCells l2) H.out.1 rfl ?_ (acks_one l2) ?_ ?_ (Nat.le_refl _) ?_)
  · rw [ackCells_len, H.out.2]
  · unfold maxLen; omega
  · omega
  intro v1 w1 hown1 hg1
  have hb1 := below_of_grown (World.ownsRow_nil w w.heap.size 37 2) hg1 (Nat.le_refl _)
  have O1 := Lib.hid (And.intro hown1 hb1); clear hown1 hb1 hg1
  have HSu := Lib.hid (sure_any x0 x1 a2 n2 c2 w.heap.size l2 w1 (H.out.1.below O1.out.2 (Nat.le_refl _)) O1.out.2.size H.out.2 (by omega))
  obtain ⟨sn, hsn⟩ : ∃ sn, sureN x0 x1 l2 = sn := ⟨_, rfl⟩
  rw [hsn] at HSu
  have HSN := Lib.hid hsn; clear hsn
  go_wp2_with fail
  refine HSu.out.mono ?_
  rintro e w2 ⟨rfl, hb2⟩
  have B2 := Lib.hid (O1.out.2.trans (hb2.mono O1.out.2.size))
  have O2 := Lib.hid (own_below O1.out.1 hb2 (Nat.le_refl _)); clear hb2
  obtain ⟨A9, c9, rfl, _, _⟩ := own_is_slice O2.out
  go_wp2_with fail
  go_loopw [9] (fun i wr => ∃ k : Nat, k ≤ n2 ∧ i = .int .i64 k ∧ ∃ q, wr = w2.drewN q) (fun i _ => n2 - (intOf i).toNat)
  case atStart => exact ⟨0, by omega, rfl, 0, rfl⟩
  case round =>
    obtain ⟨k, hk, rfl, q, hq⟩ := hrel
    have HQ := Lib.hid hq
    have hbq : Below w2.heap.size w2 wr := by rw [hq]; exact below_drewS (Below.refl _ _) _
    clear hq
    have HB := Lib.hid hbq; clear hbq
    by_cases hlt : k < n2
    · have g3 : (k : Int) < (n2 : Int) := by omega
      have hkl : k < l2.length := by have := H.out.2; omega
      obtain ⟨b, off, hA, hbC, q0, q1⟩ := ack_rd ((H.out.1.below B2.out (Nat.le_refl _)).below HB.out B2.out.size) k hkl
      obtain ⟨bb, off', hA', hbC', p0, p1⟩ := ack_rd (own_acks (own_below O2.out HB.out (Nat.le_refl _))) k hkl
      subst hA hA'
      generalize l2[k]'hkl = a at *
      obtain ⟨x, y⟩ := a
      simp only at q0 q1 p0 p1
      have hne := ack_same x y
      go_wp2_with fail
      go_quiet (fail)
      go_wp2_with fail
      go_roundw
      case rel => exact ⟨k + 1, by omega, by go_num, _, by rw [HQ.out, World.drewN_drewN]⟩
      case measure => simp [intOf]; omega
    · obtain rfl : k = n2 := by omega
      go_wp2_with fail
      refine (sureRow_any _).mono ?_
      rintro e w5 ⟨rfl, hb5⟩
      have B5 := Lib.hid ((B2.out.trans (HB.out.mono B2.out.size)).trans (hb5.mono (Nat.le_trans B2.out.size HB.out.size)))
      have O5 := Lib.hid (own_below (own_below O2.out HB.out (Nat.le_refl _)) hb5 (Nat.le_refl _)); clear hb5
      have HRf := refSure_any x0 x1 A9 k c9 w5.heap.size l2 w5 (own_acks O5.out) H.out.2 (by omega)
      rw [HSN.out] at HRf
      have HRf := Lib.hid HRf
      go_wp2_with fail
      refine HRf.out.mono ?_
      rintro e w7 ⟨rfl, rfl⟩
      go_wp2_with fail
      go_ret
      exact ⟨rfl, B5.out⟩

end Go.Proofs.Ytlomahddominlaa
namespace Go.Proofs.Ytlomahddominlaa.viewsSure
open Go.ChangeShapes Go.WideShapes Go.ChangeAt Go.RowKit
open Go.ChangeMaps (open_string shut_string)

set_option linter.unusedVariables false in
set_option maxRecDepth 100000 in
theorem lifted (os : Os) (started : os.Started) (H : Type) (enc : TypeId × Value → H) :
    ReturnsInHanded {} Try.checked os 9 .any (Rows.viewsSureSpec.pre6 enc Try.prog Try.f9 Rows.viewsSureRow.domain false) (Rows.viewsSureSpec.post enc Try.prog Try.f9 false true false false) := by
  refine returnsInHanded_of_change (C := Try.checked) own started (by kernel_rfl) Try.func9
    (ChangeSpec.witness6 (enc := enc) (C := Try.checked) false ⟨#[], #[.int .i64 0, .int .i64 0, .slice none 0 0], []⟩ 8 (by kernel_rfl) (by kernel_rfl) (by kernel_rfl) (by kernel_rfl)) ?_
  intro W base args ds gs before hval0 hW hcnd _
  have hval : ∀ (j : Nat) t v, Try.f9.params[j]? = some t → args[j]? = some v → Value.okWide Try.prog W .any base t v := hval0
  have hW' := hW
  obtain ⟨p, q, hA0, hV, rfl, hfz, hnd⟩ := hW
  have hA : DataW.TrodAll enc Try.prog W 0 (fun _ => true) true Try.f9.params.toList args.toList ds p := hA0
  rw [Try.params9] at hA hval
  obtain ⟨v0, vs0, d0, ds0, p0, q0, hargs, rfl, rfl, h0, r'0⟩ := trodAll_cons hA
  obtain ⟨v1, vs1, d1, ds1, p1, q1, rfl, rfl, rfl, h1, r'1⟩ := trodAll_cons r'0
  obtain ⟨v2, vs2, d2, ds2, p2, q2, rfl, rfl, rfl, h2, r'2⟩ := trodAll_cons r'1
  obtain ⟨rfl, rfl, rfl⟩ := trodAll_nil r'2
  obtain rfl : args = #[v0, v1, v2] := by cases args; simp_all
  obtain ⟨rfl, rfl⟩ := trodVars_none hV
  have k0 := h0
  have lt0 : ∀ x ∈ p0, x.block < W.heap.size := by obtain ⟨m, hm⟩ := k0; exact DataW.trod_lt m _ _ _ hm
  obtain ⟨x0, rfl, rfl, rfl, f0⟩ := open_int Try.underlying3 (hval 0 3 v0 rfl rfl) h0
  have k1 := h1
  have lt1 : ∀ x ∈ p1, x.block < W.heap.size := by obtain ⟨m, hm⟩ := k1; exact DataW.trod_lt m _ _ _ hm
  obtain ⟨x1, rfl, rfl, rfl, f1⟩ := open_int Try.underlying3 (hval 1 3 v1 rfl rfl) h1
  have k2 := h2
  have lt2 : ∀ x ∈ p2, x.block < W.heap.size := by obtain ⟨m, hm⟩ := k2; exact DataW.trod_lt m _ _ _ hm
  obtain ⟨a2, n2, c2, rfl⟩ := okWide_slice Try.underlying34 (hval 2 34 v2 rfl rfl)
  obtain ⟨l2, r2, e2, b2, m2⟩ := openAcks h2
  clear hA0 hval0
  refine (viewsSure_walk x0 x1 a2 n2 c2 l2 W f0 f1 r2 e2 b2 m2).mono fun e W' ⟨he, bel⟩ => ?_
  subst he
  exact ⟨_, rfl, _, _, _, [], _, [], hW', trodAll_mk1 (shut_bool Try.underlying4 _), (trodAll_cons_mk (Below.trod laidOut (by kernel_rfl) (of_decide_eq_true (by kernel_rfl)) k0 bel lt0) (trodAll_cons_mk (Below.trod laidOut (by kernel_rfl) (of_decide_eq_true (by kernel_rfl)) k1 bel lt1) (trodAll_cons_mk (Below.trod laidOut (by kernel_rfl) (of_decide_eq_true (by kernel_rfl)) k2 bel lt2) trodAll_mk0))), rfl, bel.frame _, fun h => by cases h⟩

theorem over : Rows.viewsSureRow.holds Try.pinned (OpenSpec.ofChange Rows.viewsSureSpec) :=
  OpenClaim.holds_of_wide 9 Try.f9 rfl rfl rfl rfl rfl rfl rfl ⟨rfl, rfl, rfl, rfl, rfl⟩ rfl rfl rfl rfl rfl (by kernel_rfl) Try.func9 (by kernel_rfl)
    (of_decide_eq_true (by kernel_rfl)) (by unfold Func.isWrapper; first | (rw [if_pos (by decide +kernel)]; kernel_rfl) | (rw [if_neg (by decide +kernel)]; exact ⟨rfl, rfl⟩))
    (fun os started H enc _ => lifted os started H enc)

/-- The statement. -/
theorem proved : Rows.ViewsSureSaid := over
#print axioms proved
end Go.Proofs.Ytlomahddominlaa.viewsSure
