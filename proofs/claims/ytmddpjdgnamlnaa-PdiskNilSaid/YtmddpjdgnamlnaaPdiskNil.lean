/- PdiskNil: no disk answers as the document says, at every call. No condition. -/
import Derived.Test.YtmddpjdgnamlnaaAwake07
import Derived.Test.YtmddpjdgnamlnaaLarge07
import Derived.Test.YtmddpjdgnamlnaaOpen
namespace Go.Proofs.Ytmddpjdgnamlnaa
open Go.RowKit

attribute [-go_sem] loadCellsFrom storeCells
attribute [local go_sem] storeCells_one
theorem Blk.rd {W : World} {g : Nat} {t : TypeId} {cs : List Value} (h : Blk W g t cs) : Rd W (g + 1) (some ⟨g, 0, none⟩) cs :=
  .inr ⟨g, 0, rfl, by omega, fun j u hu => by rw [Nat.zero_add, h.cell]; exact hu⟩

set_option linter.unusedVariables false in
set_option maxRecDepth 40000 in
set_option maxHeartbeats 6400000 in
theorem pdiskNil_walk (do0 : Do) (w : World) (e0 : do0.raw w) :
    Calls Try.prog 7 #[.agg do0.cells.toArray] w fun e w' => e = .returned (.bool true) ∧ Below w.heap.size w w' := by
  obtain ⟨ok, on, ov, ol, kv, kl⟩ := do0
  have hsl : ∃ A n c, ov = .slice A n c := by obtain ⟨⟨A, n, c, h, _⟩, _⟩ := e0; exact ⟨A, n, c, h⟩
  have hsl2 : ∃ A n c, kv = .slice A n c := by obtain ⟨_, ⟨A, n, c, h, _⟩⟩ := e0; exact ⟨A, n, c, h⟩
  obtain ⟨A, n, c, rfl⟩ := hsl
  obtain ⟨A2, n2, c2, rfl⟩ := hsl2
  have hk1 := Blk.new w 35 [.int .i64 ok, .int .i64 on, .slice A n c, .slice A2 n2 c2]
  have hb1 := (Below.refl w.heap.size w).alloc (Nat.le_refl _) (.cells #[.int .i64 ok, .int .i64 on, .slice A n c, .slice A2 n2 c2] 35)
  obtain ⟨w1, hw1⟩ : ∃ w1, w.alloc (.cells #[.int .i64 ok, .int .i64 on, .slice A n c, .slice A2 n2 c2] 35) = w1 := ⟨_, rfl⟩
  rw [hw1] at hk1 hb1
  have hld1 := hk1.load (P := Try.prog) (k := 4) rfl
  have hk2 := Blk.new w1 35 [.int .i64 ok, .int .i64 on, .slice A n c, .slice A2 n2 c2]
  have hb2 := (Below.refl w1.heap.size w1).alloc (Nat.le_refl _) (.cells #[.int .i64 ok, .int .i64 on, .slice A n c, .slice A2 n2 c2] 35)
  have hb12 := hb1.trans (hb2.mono hb1.size)
  have hraw2 := e0.below hb12
  have HLg := Lib.hid (large_any (some ⟨w1.heap.size, 0, none⟩) 1 1 (w1.heap.size + 1) [⟨ok, on, .slice A n c, ol, .slice A2 n2 c2, kl⟩] _ hk2.rd rfl (fun o ho => by rw [List.mem_singleton.1 ho]; exact hraw2))
  have H := Lib.hid (And.intro (hk1.below hb2 hk1.lt) hb12)
  clear hk1 hb1 hk2 hb2 hb12 hraw2 e0
  simp only [Do.cells]
  go_enter Try.func7, Try.ntmps7
  go_wp2_with fail
  refine HLg.out.mono ?_
  rintro e w3 ⟨hw, rfl | ⟨rfl, _, hok⟩⟩
  · subst hw
    go_wp2_with fail
    go_ret
    exact ⟨rfl, H.out.2⟩
  rw [hw] at H
  have q1 : w3.cell? ⟨w.heap.size, 1, none⟩ = some (.int .i64 on) := H.out.1.cell 1
  clear hok hw hw1 hld1 HLg
  go_wp2_with fail
  refine (read_nil on w3).mono ?_
  rintro e w' ⟨rfl, hw⟩
  subst hw
  go_wp2_with fail
  refine (awake_any w3).mono ?_
  rintro e w4 ⟨rfl, hb4⟩
  have hk4 := H.out.1.below hb4 H.out.1.lt
  have q1 : w4.cell? ⟨w.heap.size, 1, none⟩ = some (.int .i64 on) := hk4.cell 1
  have q2 : w4.cell? ⟨w.heap.size, 2, none⟩ = some (.slice A n c) := hk4.cell 2
  have q3 : w4.cell? ⟨w.heap.size, 3, none⟩ = some (.slice A2 n2 c2) := hk4.cell 3
  have B4 := Lib.hid (H.out.2.trans (hb4.mono H.out.2.size))
  clear hb4 hk4
  go_wp2_with fail
  refine (write_nil on _ w4).mono ?_
  rintro e w' ⟨rfl, hw⟩
  subst hw
  go_wp2_with fail
  refine (flush_nil w4).mono ?_
  rintro e w' ⟨rfl, hw⟩
  subst hw
  go_wp2_with fail
  refine (stop_nil on w4).mono ?_
  rintro e w' ⟨rfl, hw⟩
  subst hw
  go_wp2_with fail
  refine (crash_nil _ w4).mono ?_
  rintro e w' ⟨rfl, hw⟩
  subst hw
  go_wp2_with fail
  refine (size_nil w4).mono ?_
  rintro e w' ⟨rfl, hw⟩
  subst hw
  go_wp2_with fail
  refine (down_nil w4).mono ?_
  rintro e w' ⟨rfl, hw⟩
  subst hw
  go_wp2_with fail
  go_ret
  exact ⟨rfl, B4.out⟩

end Go.Proofs.Ytmddpjdgnamlnaa
namespace Go.Proofs.Ytmddpjdgnamlnaa.pdiskNil
open Go.ChangeShapes Go.WideShapes Go.ChangeAt Go.RowKit
open Go.ChangeMaps (open_string shut_string)

set_option linter.unusedVariables false in
set_option maxRecDepth 100000 in
theorem lifted (os : Os) (started : os.Started) (H : Type) (enc : TypeId × Value → H) :
    ReturnsInHanded {} Try.checked os 7 .any (Rows.pdiskNilSpec.pre6 enc Try.prog Try.f7 Rows.pdiskNilRow.domain false) (Rows.pdiskNilSpec.post enc Try.prog Try.f7 false true false false) := by
  refine returnsInHanded_of_change (C := Try.checked) own started (by kernel_rfl) Try.func7
    (ChangeSpec.witness6 (enc := enc) (C := Try.checked) false ⟨#[], #[.agg #[.int .i64 0, .int .i64 0, .slice none 0 0, .slice none 0 0]], []⟩ 8 (by kernel_rfl) (by kernel_rfl) (by kernel_rfl) (by kernel_rfl)) ?_
  intro W base args ds gs before hval0 hW hcnd _
  have hval : ∀ (j : Nat) t v, Try.f7.params[j]? = some t → args[j]? = some v → Value.okWide Try.prog W .any base t v := hval0
  have hW' := hW
  obtain ⟨p, q, hA0, hV, rfl, hfz, hnd⟩ := hW
  have hA : DataW.TrodAll enc Try.prog W 0 (fun _ => true) true Try.f7.params.toList args.toList ds p := hA0
  rw [Try.params7] at hA hval
  obtain ⟨v0, vs0, d0, ds0, p0, q0, hargs, rfl, rfl, h0, r'0⟩ := trodAll_cons hA
  obtain ⟨rfl, rfl, rfl⟩ := trodAll_nil r'0
  obtain rfl : args = #[v0] := by cases args; simp_all
  obtain ⟨rfl, rfl⟩ := trodVars_none hV
  have k0 := h0
  have lt0 : ∀ x ∈ p0, x.block < W.heap.size := by obtain ⟨m, hm⟩ := k0; exact DataW.trod_lt m _ _ _ hm
  obtain ⟨cs0, hv0, hs0⟩ := okWide_struct Try.underlying35 (hval 0 35 v0 rfl rfl)
  obtain ⟨do0, rfl, e0⟩ := openDo hv0 hs0 h0
  clear hA0 hval0
  refine (pdiskNil_walk do0 W e0).mono fun e W' ⟨he, bel⟩ => ?_
  subst he
  exact ⟨_, rfl, _, _, _, [], _, [], hW', trodAll_mk1 (shut_bool Try.underlying4 _), (trodAll_cons_mk (Below.trod laidOut (by kernel_rfl) (of_decide_eq_true (by kernel_rfl)) k0 bel lt0) trodAll_mk0), rfl, bel.frame _, fun h => by cases h⟩

theorem over : Rows.pdiskNilRow.holds Try.pinned (OpenSpec.ofChange Rows.pdiskNilSpec) :=
  OpenClaim.holds_of_wide 7 Try.f7 rfl rfl rfl rfl rfl rfl rfl ⟨rfl, rfl, rfl, rfl, rfl⟩ rfl rfl rfl rfl rfl (by kernel_rfl) Try.func7 (by kernel_rfl)
    (of_decide_eq_true (by kernel_rfl)) (by unfold Func.isWrapper; first | (rw [if_pos (by decide +kernel)]; kernel_rfl) | (rw [if_neg (by decide +kernel)]; exact ⟨rfl, rfl⟩))
    (fun os started H enc _ => lifted os started H enc)

/-- The statement. -/
theorem proved : Rows.PdiskNilSaid := over
#print axioms proved
end Go.Proofs.Ytmddpjdgnamlnaa.pdiskNil
