/- The document's fields: may an act's numbers stand in a line? -/
import Derived.Test.YtehhgpnaemffnaaDoorGuess22
namespace Go.Proofs.YtehhgpnaemffnaaDoor
open Go.RowKit
attribute [-go_sem] loadCellsFrom storeCells
attribute [local go_sem] storeCells_one

def May (n : Int) : Prop := 0 ≤ n ∧ n ≤ 1000000
set_option linter.unusedVariables false in
def FieldsP (k node n client ok h i nn kk v t : Int) : Prop :=
  (∀ x ∈ [node, client, h, i, nn, kk, t], May x) ∧ (May n ∨ (n = -1 ∧ k = 7)) ∧ -1000000 ≤ v ∧ v ≤ 1000000
section
variable {w : World}
theorem may_yes (n : Int) (h : May n) : Calls Tryd.prog 22 #[.int .i64 n] w fun e w' => e = .returned (.bool true) ∧ w = w' := by
  obtain ⟨h0, h1⟩ := h
  go_enter Tryd.func22, Tryd.ntmps22
  go_wp2_with fail
  go_ret
  exact ⟨rfl, rfl⟩
theorem may_no (n : Int) (h : ¬ May n) : Calls Tryd.prog 22 #[.int .i64 n] w fun e w' => e = .returned (.bool false) ∧ w = w' := by
  by_cases h0 : 0 ≤ n
  · have h1 : ¬ n ≤ 1000000 := fun h2 => h ⟨h0, h2⟩
    clear h
    go_enter Tryd.func22, Tryd.ntmps22
    go_wp2_with fail
    go_ret
    exact ⟨rfl, rfl⟩
  · clear h
    go_enter Tryd.func22, Tryd.ntmps22
    go_wp2_with fail
    go_ret
    exact ⟨rfl, rfl⟩
set_option linter.unusedVariables false in
set_option maxRecDepth 20000 in
set_option maxHeartbeats 3200000 in
theorem fields_any (k node n client ok h i nn kk v t : Int) :
    Calls Tryd.prog 15 #[.agg (ac k node n client ok h i nn kk v t).toArray] w fun e w' => ∃ b, e = .returned (.bool b) ∧ (b = true ↔ FieldsP k node n client ok h i nn kk v t) ∧ Below w.heap.size w w' := by
  have hbx : Below w.heap.size w (w.alloc (.cells (ac k node n client ok h i nn kk v t).toArray 27)) := (Below.refl _ _).alloc (Nat.le_refl _) _
  have hkx := Blk.new w 27 (ac k node n client ok h i nn kk v t)
  obtain ⟨w0, hw0⟩ : ∃ x, w.alloc (.cells (ac k node n client ok h i nn kk v t).toArray 27) = x := ⟨_, rfl⟩
  rw [hw0] at hbx hkx
  have hs0 : w0.heap.size = w.heap.size + 1 := by rw [← hw0]; simp
  simp only [ac] at hw0
  have hld := hkx.loadOff (P := Tryd.prog) 4 7 (oc ok h i nn kk v t) rfl rfl
  have hkz := Blk.new w0 25 (oc 0 0 0 0 0 0 0)
  have hst := hkz.store (P := Tryd.prog) (cs' := oc ok h i nn kk v t) rfl (oc_one ok h i nn kk v t)
  have hkz2 := hkz.set (oc ok h i nn kk v t)
  have hbz := below_setRow ((Below.refl w0.heap.size w0).alloc (Nat.le_refl _) (.cells (oc 0 0 0 0 0 0 0).toArray 25)) (Nat.le_refl _) (oc ok h i nn kk v t).toArray
  obtain ⟨w1, hw1⟩ : ∃ x, (w0.alloc (.cells (oc 0 0 0 0 0 0 0).toArray 25)).setRow w0.heap.size (oc ok h i nn kk v t).toArray = x := ⟨_, rfl⟩
  rw [hw1] at hst hkz2 hbz
  have hkx1 := hkx.below hbz hkx.lt
  have hb01 := hbx.trans (hbz.mono hbx.size)
  rw [hs0] at hst hkz2
  simp only [oc] at hld hst
  have r1 : w1.cell? ⟨w.heap.size, 1, none⟩ = some (.int .i64 node) := hkx1.cell 1
  have r3 : w1.cell? ⟨w.heap.size, 3, none⟩ = some (.int .i64 client) := hkx1.cell 3
  have p1 : w1.cell? ⟨w.heap.size + 1, 1, none⟩ = some (.int .i64 h) := hkz2.cell 1
  have p2 : w1.cell? ⟨w.heap.size + 1, 2, none⟩ = some (.int .i64 i) := hkz2.cell 2
  have p3 : w1.cell? ⟨w.heap.size + 1, 3, none⟩ = some (.int .i64 nn) := hkz2.cell 3
  have p4 : w1.cell? ⟨w.heap.size + 1, 4, none⟩ = some (.int .i64 kk) := hkz2.cell 4
  have p6 : w1.cell? ⟨w.heap.size + 1, 6, none⟩ = some (.int .i64 t) := hkz2.cell 6
  -- the seven, laid
  have hb3 : Below w1.heap.size w1 (w1.alloc (.cells (iv [node, client, h, i, nn, kk, t]).toArray 3)) := (Below.refl _ _).alloc (Nat.le_refl _) _
  have hk3 := Blk.new w1 3 (iv [node, client, h, i, nn, kk, t])
  obtain ⟨w3, hw3⟩ : ∃ x, w1.alloc (.cells (iv [node, client, h, i, nn, kk, t]).toArray 3) = x := ⟨_, rfl⟩
  rw [hw3] at hb3 hk3
  have hrd : Rd w3 (w1.heap.size + 1) (some ⟨w1.heap.size, 0, none⟩) (iv [node, client, h, i, nn, kk, t]) := .inr ⟨w1.heap.size, 0, rfl, by omega, fun j u hu => by rw [Nat.zero_add, hk3.cell]; exact hu⟩
  have hkx3 := hkx1.below hb3 hkx1.lt
  have hkz3 := hkz2.below hb3 hkz2.lt
  have y0 : w3.cell? ⟨w.heap.size, 0, none⟩ = some (.int .i64 k) := hkx3.cell 0
  have y2 : w3.cell? ⟨w.heap.size, 2, none⟩ = some (.int .i64 n) := hkx3.cell 2
  have y5 : w3.cell? ⟨w.heap.size + 1, 5, none⟩ = some (.int .i64 v) := hkz3.cell 5
  have HB := Lib.hid (And.intro (hb01.trans (hb3.mono hb01.size)) hrd)
  simp only [iv, List.map_cons, List.map_nil] at hw3
  clear hbx hkx hkz hkz2 hbz hkx1 hb01 hb3 hk3 hrd hkx3 hkz3 hw1
  obtain ⟨L, hL⟩ : ∃ L, [node, client, h, i, nn, kk, t] = L := ⟨_, rfl⟩
  have hL7 : L.length = 7 := by rw [← hL]; rfl
  have HL := Lib.hid (And.intro hL hL7)
  rw [hL] at HB
  clear hL hL7
  simp only [ac]
  go_enter Tryd.func15, Tryd.ntmps15
  go_wp2_with fail
  go_loopw [5] (fun i wr => ∃ j : Nat, j ≤ 7 ∧ i = .int .i64 j ∧ (∀ x ∈ L.take j, May x) ∧ w3 = wr) (fun i _ => 7 - (intOf i).toNat)
  case atStart => exact ⟨0, by omega, rfl, by simp, rfl⟩
  case round =>
    obtain ⟨j, hj, rfl, hall, rfl⟩ := hrel
    by_cases hlt : j < 7
    · have g3 : (j : Int) < 7 := by omega
      have hjl : j < L.length := by rw [HL.out.2]; exact hlt
      obtain ⟨b0, off, hA, hc⟩ := ints_at HB.out.2 hjl
      cases hA
      rw [Nat.zero_add] at hc
      have htk : L.take (j + 1) = L.take j ++ [L[j]'hjl] := List.take_succ_eq_append_getElem hjl
      have hmem : L[j]'hjl ∈ L := List.getElem_mem hjl
      generalize L[j]'hjl = x at *
      by_cases hx : May x
      · have HM := Lib.hid (may_yes (w := w3) x hx)
        have HA := Lib.hid (show ∀ y ∈ L.take (j + 1), May y by
          rw [htk]
          intro y hy
          rcases List.mem_append.1 hy with h | h
          · exact hall y h
          · simp only [List.mem_cons, List.not_mem_nil, or_false] at h; rw [h]; exact hx)
        clear hall htk hmem hx hjl
        go_wp2_with fail
        refine HM.out.mono ?_
        rintro e w' ⟨rfl, hw⟩
        subst hw
        go_wp2_with fail
        go_roundw
        case rel => exact ⟨j + 1, by omega, by go_num, HA.out, trivial⟩
        case measure => simp [intOf]; omega
      · have HM := Lib.hid (may_no (w := w3) x hx)
        have HF := Lib.hid (show ¬ FieldsP k node n client ok h i nn kk v t from fun hf => hx (hf.1 x (by rw [HL.out.1]; exact hmem)))
        clear hall htk hmem hx hjl
        go_wp2_with fail
        refine HM.out.mono ?_
        rintro e w' ⟨rfl, hw⟩
        subst hw
        go_wp2_with fail
        go_ret
        exact ⟨false, rfl, ⟨fun h => (by cases h), fun h => absurd h HF.out⟩, HB.out.1⟩
    · obtain rfl : j = 7 := by omega
      have hAll : ∀ x ∈ [node, client, h, i, nn, kk, t], May x := by
        rw [HL.out.1]
        intro x hx
        refine hall x ?_
        rw [List.take_of_length_le (by rw [HL.out.2]; exact Nat.le_refl _)]
        exact hx
      have HAll := Lib.hid hAll
      clear hall hAll
      by_cases hn : May n
      · have HM := Lib.hid (may_yes (w := w3) n hn)
        have HN := Lib.hid hn
        clear hn
        by_cases hv1 : (-1000000 : Int) ≤ v
        · by_cases hv2 : v ≤ (1000000 : Int)
          · have HV := Lib.hid (And.intro hv1 hv2)
            go_wp2_with fail
            refine HM.out.mono ?_
            rintro e w' ⟨rfl, hw⟩
            subst hw
            go_wp2_with fail
            go_ret
            exact ⟨true, rfl, ⟨fun _ => ⟨HAll.out, (.inl HN.out), HV.out.1, HV.out.2⟩, fun _ => rfl⟩, HB.out.1⟩
          · have e2 : decide (v ≤ (1000000 : Int)) = false := by simp; omega
            have HV := Lib.hid (show (1000000 : Int) < v by omega)
            go_wp2_with fail
            refine HM.out.mono ?_
            rintro e w' ⟨rfl, hw⟩
            subst hw
            go_wp2_with fail
            go_ret
            exact ⟨false, rfl, ⟨fun h => (by cases h), fun h => absurd h.2.2.2 (by have := HV.out; omega)⟩, HB.out.1⟩
        · have e1 : decide ((-1000000 : Int) ≤ v) = false := by simp; omega
          have HV := Lib.hid (show v < (-1000000 : Int) by omega)
          go_wp2_with fail
          refine HM.out.mono ?_
          rintro e w' ⟨rfl, hw⟩
          subst hw
          go_wp2_with fail
          go_ret
          exact ⟨false, rfl, ⟨fun h => (by cases h), fun h => absurd h.2.2.1 (by have := HV.out; omega)⟩, HB.out.1⟩
      · have HM := Lib.hid (may_no (w := w3) n hn)
        have HN := Lib.hid hn
        clear hn
        by_cases hn1 : n = -1
        · have u1 : (n == -1) = true := by rw [hn1]; rfl
          by_cases hk7 : k = 7
          · have u2 : (k == 7) = true := by rw [hk7]; rfl
            have HK := Lib.hid (And.intro hn1 hk7)
            clear hn1 hk7
            by_cases hv1 : (-1000000 : Int) ≤ v
            · by_cases hv2 : v ≤ (1000000 : Int)
              · have HV := Lib.hid (And.intro hv1 hv2)
                go_wp2_with fail
                refine HM.out.mono ?_
                rintro e w' ⟨rfl, hw⟩
                subst hw
                go_wp2_with fail
                go_ret
                exact ⟨true, rfl, ⟨fun _ => ⟨HAll.out, (.inr HK.out), HV.out.1, HV.out.2⟩, fun _ => rfl⟩, HB.out.1⟩
              · have e2 : decide (v ≤ (1000000 : Int)) = false := by simp; omega
                have HV := Lib.hid (show (1000000 : Int) < v by omega)
                go_wp2_with fail
                refine HM.out.mono ?_
                rintro e w' ⟨rfl, hw⟩
                subst hw
                go_wp2_with fail
                go_ret
                exact ⟨false, rfl, ⟨fun h => (by cases h), fun h => absurd h.2.2.2 (by have := HV.out; omega)⟩, HB.out.1⟩
            · have e1 : decide ((-1000000 : Int) ≤ v) = false := by simp; omega
              have HV := Lib.hid (show v < (-1000000 : Int) by omega)
              go_wp2_with fail
              refine HM.out.mono ?_
              rintro e w' ⟨rfl, hw⟩
              subst hw
              go_wp2_with fail
              go_ret
              exact ⟨false, rfl, ⟨fun h => (by cases h), fun h => absurd h.2.2.1 (by have := HV.out; omega)⟩, HB.out.1⟩
          · have u2 : (k == 7) = false := by simpa using hk7
            have HK := Lib.hid hk7
            clear hn1 hk7
            go_wp2_with fail
            refine HM.out.mono ?_
            rintro e w' ⟨rfl, hw⟩
            subst hw
            go_wp2_with fail
            go_ret
            exact ⟨false, rfl, ⟨fun h => (by cases h), fun h => h.2.1.elim (fun h => absurd h HN.out) (fun h => absurd h.2 HK.out)⟩, HB.out.1⟩
        · have u1 : (n == -1) = false := by simpa using hn1
          have HK := Lib.hid hn1
          clear hn1
          go_wp2_with fail
          refine HM.out.mono ?_
          rintro e w' ⟨rfl, hw⟩
          subst hw
          go_wp2_with fail
          go_ret
          exact ⟨false, rfl, ⟨fun h => (by cases h), fun h => h.2.1.elim (fun h => absurd h HN.out) (fun h => absurd h.1 HK.out)⟩, HB.out.1⟩
end
end Go.Proofs.YtehhgpnaemffnaaDoor
