/- views.Best and the document's Best: the place of the first of the greatest. -/
import Derived.Test.YtlomahddominlaaIndexFunc
namespace Go.Proofs.Ytlomahddominlaa
open Go.RowKit

/-- The place of the first of the greatest; -1: there is none. -/
def bestI (l : List Vt) (d : Vt) : Int := if l.length = 0 then -1 else (top l d (l.length - 1) : Int)

theorem best_any (A : Option Addr) (n c : Nat) (l : List Vt) (d : Vt) (w : World) (hr : Rd w w.heap.size A (vtCells l)) (hl : l.length = n) (hn : n ≤ 1000000) :
    Calls Try.prog 21 #[.slice A n c] w fun e w' => e = .returned (.int .i64 (bestI l d)) ∧ Below w.heap.size w w' := by
  by_cases h0 : n = 0
  · subst h0
    have HB := Lib.hid (show bestI l d = -1 by unfold bestI; rw [if_pos hl])
    clear hr hl
    go_enter Try.func21, Try.ntmps21
    go_wp2_with fail
    go_ret
    exact ⟨by rw [HB.out]; rfl, Below.refl _ _⟩
  · have HB := Lib.hid (show bestI l d = (top l d (n - 1) : Int) by unfold bestI; rw [if_neg (by omega), hl])
    have h0' : ((n : Int) == 0) = false := by simp; omega
    have HM := Lib.hid (maxFunc_any A n c l d w hr hl hn (by omega))
    have H := Lib.hid (And.intro hr hl)
    have hti := top_le l d (n - 1)
    have htf := (top_first l d (n - 1)).1
    generalize top l d (n - 1) = i at *
    have HT := Lib.hid (show ∀ j, j < i → ¬ ((l.getD j d).n = (l.getD i d).n ∧ (l.getD j d).u = (l.getD i d).u) from fun j hj he => by
      have h9 := htf j hj
      unfold gt at h9
      rw [he.1, he.2] at h9
      simp at h9)
    obtain ⟨m, hm⟩ : ∃ m, l.getD i d = m := ⟨_, rfl⟩
    rw [hm] at HM HT
    have HMM := Lib.hid hm
    clear htf hr hl hm
    have hpos : 0 < n := by omega
    go_enter Try.func21, Try.ntmps21
    go_wp2_with fail
    refine Calls.mono HM.out ?_
    rintro e w1 ⟨rfl, hb1⟩
    have B1 := Lib.hid hb1; clear hb1
    obtain ⟨m0, m1, m2, m3, m4, ma, mn, mc⟩ := m
    unfold Vt.val voteV
    dsimp only
    go_wp2_with fail
    have hba := (Below.refl w1.heap.size w1).alloc (Nat.le_refl _) (.cells (Vt.cells ⟨m0, m1, m2, m3, m4, ma, mn, mc⟩).toArray 48)
    refine (indexFunc_any A n c w1.heap.size l d ⟨m0, m1, m2, m3, m4, ma, mn, mc⟩ i _ (((H.out.1.below B1.out (Nat.le_refl _)).more B1.out.size).below hba (Nat.le_refl _)) H.out.2 hn (heap_alloc_new w1 _) (by omega) HMM.out HT.out).mono ?_
    rintro e w2 ⟨rfl, hb2⟩
    have HB2 := Lib.hid (B1.out.trans ((hba.trans (hb2.mono hba.size)).mono B1.out.size)); clear hb2 hba
    go_wp2_with fail
    go_ret
    exact ⟨by rw [HB.out]; rfl, HB2.out⟩

set_option linter.unusedVariables false in
set_option maxRecDepth 40000 in
set_option maxHeartbeats 3200000 in
theorem refBest_any (A : Option Addr) (n c B : Nat) (l : List Vt) (d : Vt) (w : World) (hr : Rd w B A (vtCells l)) (hl : l.length = n) (hn : n ≤ 1000000) :
    Calls Try.prog 22 #[.slice A n c] w fun e w' => e = .returned (.int .i64 (bestI l d)) ∧ ∃ q, w' = w.drewN q := by
  have HB := Lib.hid (show bestI l d = if n = 0 then (-1 : Int) else (top l d (n - 1) : Int) by unfold bestI; rw [hl])
  have H := Lib.hid (And.intro hr hl); clear hr hl
  go_enter Try.func22, Try.ntmps22
  go_wp2_with fail
  go_loopw [3, 4] (fun a i wr => ∃ k : Nat, k ≤ n ∧ i = .int .i64 k ∧ a = .int .i64 (if k = 0 then (-1 : Int) else (top l d (k - 1) : Int)) ∧ ∃ q, wr = w.drewN q) (fun _ i _ => n - (intOf i).toNat)
  case atStart => exact ⟨0, by omega, rfl, rfl, 0, rfl⟩
  case round =>
    obtain ⟨k, hk, rfl, rfl, q, hq⟩ := hrel
    have HQ := Lib.hid hq
    have HR := Lib.hid (show Rd wr B A (vtCells l) from hq ▸ H.out.1.drewN q)
    clear hq
    by_cases hlt : k < n
    · by_cases hk0 : k = 0
      · subst hk0
        simp only [if_true]
        go_wp2_with fail
        go_quiet (fail)
        go_wp2_with fail
        go_roundw
        case rel => exact ⟨1, by omega, by go_num, rfl, _, by rw [HQ.out, World.drewN_drewN]⟩
        case measure => simp [intOf]; omega
      · rw [if_neg hk0]
        have hts := top_step l d k (by omega)
        have hjl := top_le l d (k - 1)
        obtain ⟨j, hj⟩ : ∃ j, top l d (k - 1) = j := ⟨_, rfl⟩
        rw [hj] at hts hjl ⊢
        have HJ := Lib.hid hj; clear hj
        have hkl : k < l.length := by have := H.out.2; omega
        have hjl2 : j < l.length := by have := H.out.2; omega
        have hjn : j < n := by omega
        obtain ⟨b, off, rfl, _, hc⟩ := HR.out.at_ (k := 0) (by rw [vtCells_len]; omega)
        have hcell : ∀ i (hi : i < l.length) t, t < 6 → wr.cell? ⟨b, off + (i * 6 + t), none⟩ = (l[i]).cells[t]? := fun i hi t ht => by
          rw [← vtCells_at l i t hi ht]
          have hj : i * 6 + t < (vtCells l).length := by rw [vtCells_len]; omega
          rw [List.getElem?_eq_getElem hj]
          exact hc _ _ (List.getElem?_eq_getElem hj)
        have hdk : l.getD k d = l[k] := by rw [List.getD_eq_getElem?_getD, List.getElem?_eq_getElem hkl]; rfl
        have hdj : l.getD j d = l[j] := by rw [List.getD_eq_getElem?_getD, List.getElem?_eq_getElem hjl2]; rfl
        have x1 : wr.cell? ⟨b, off + k * 6 + 1, none⟩ = some (.int .i64 (l[k]).n) := hcell k hkl 1 (by omega)
        have x3 : wr.cell? ⟨b, off + k * 6 + 3, none⟩ = some (.int .i64 (l[k]).u) := hcell k hkl 3 (by omega)
        have m1 : wr.cell? ⟨b, off + j * 6 + 1, none⟩ = some (.int .i64 (l[j]).n) := hcell j hjl2 1 (by omega)
        have m3 : wr.cell? ⟨b, off + j * 6 + 3, none⟩ = some (.int .i64 (l[j]).u) := hcell j hjl2 3 (by omega)
        rw [hdk, hdj] at hts
        clear hcell hc hdk hdj
        unfold gt at hts
        generalize (l[k]).n = a1 at *
        generalize (l[k]).u = a3 at *
        generalize (l[j]).n = b1 at *
        generalize (l[j]).u = b3 at *
        have hneg : decide ((j : Int) < 0) = false := by simp
        by_cases h1 : b1 < a1
        · have hb1 : decide (b1 < a1) = true := by simpa using h1
          rw [hb1] at hts
          have HTS := Lib.hid (show top l d (k + 1 - 1) = k by rw [hts]; simp)
          clear hts h1
          go_wp2_with fail
          go_quiet (fail)
          go_wp2_with fail
          go_roundw
          case rel => exact ⟨k + 1, by omega, by go_num, by rw [if_neg (by omega), HTS.out], _, by rw [HQ.out, World.drewN_drewN]⟩
          case measure => simp [intOf]; omega
        · have hb1 : decide (b1 < a1) = false := by simpa using h1
          rw [hb1] at hts
          clear h1
          by_cases h2 : a1 = b1
          · have hb2 : (a1 == b1) = true := by simpa using h2
            rw [decide_eq_true h2] at hts
            clear h2
            by_cases h3 : b3 < a3
            · have hb3 : decide (b3 < a3) = true := by simpa using h3
              rw [hb3] at hts
              have HTS := Lib.hid (show top l d (k + 1 - 1) = k by rw [hts]; simp)
              clear hts h3
              go_wp2_with fail
              go_quiet (fail)
              go_wp2_with fail
              go_roundw
              case rel => exact ⟨k + 1, by omega, by go_num, by rw [if_neg (by omega), HTS.out], _, by rw [HQ.out, World.drewN_drewN]⟩
              case measure => simp [intOf]; omega
            · have hb3 : decide (b3 < a3) = false := by simpa using h3
              rw [hb3] at hts
              have HTS := Lib.hid (show top l d (k + 1 - 1) = j by rw [hts]; simp)
              clear hts h3
              go_wp2_with fail
              go_quiet (fail)
              go_wp2_with fail
              go_roundw
              case rel => exact ⟨k + 1, by omega, by go_num, by rw [if_neg (by omega), HTS.out], _, by rw [HQ.out, World.drewN_drewN]⟩
              case measure => simp [intOf]; omega
          · have hb2 : (a1 == b1) = false := by simpa using h2
            rw [decide_eq_false h2] at hts
            have HTS := Lib.hid (show top l d (k + 1 - 1) = j by rw [hts]; simp)
            clear hts h2
            go_wp2_with fail
            go_quiet (fail)
            go_wp2_with fail
            go_roundw
            case rel => exact ⟨k + 1, by omega, by go_num, by rw [if_neg (by omega), HTS.out], _, by rw [HQ.out, World.drewN_drewN]⟩
            case measure => simp [intOf]; omega
    · obtain rfl : k = n := by omega
      have HE := Lib.hid HB.out
      generalize (if k = 0 then (-1 : Int) else (top l d (k - 1) : Int)) = r at *
      go_wp2_with fail
      go_ret
      exact ⟨by rw [HB.out]; rfl, _, HQ.out⟩
end Go.Proofs.Ytlomahddominlaa
