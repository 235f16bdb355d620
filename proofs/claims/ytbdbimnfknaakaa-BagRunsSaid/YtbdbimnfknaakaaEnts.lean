/- Two rows of entries: are they the same? slices.Equal, and the document's Entries. -/
import Derived.Test.YtbdbimnfknaakaaEqs
import Derived.Deep.QuietTactic
import Derived.BigQuiet
namespace Go.Proofs.Ytbdbimnfknaakaa
open Go.RowKit
attribute [-go_sem] loadCellsFrom storeCells
attribute [local go_sem] storeCells_one

/-- A struct of a row: its cells, and the load of all of them. -/
theorem rows_load {α : Type} {P : Program} {w : World} {B : Nat} {A : Option Addr} (k : Nat) (enc : α → List Value) (hk : ∀ a, (enc a).length = k) (h0 : 0 < k) (l : List α) (hr : Rd w B A (l.map enc).flatten) (i : Nat) (hi : i < l.length) :
    ∃ b off, A = some ⟨b, off, none⟩ ∧ b < B ∧ (∀ t u, (enc (l[i]))[t]? = some u → w.cell? ⟨b, off + i * k + t, none⟩ = some u) ∧
      ∀ n, Sem.run P (loadCellsFrom ⟨b, off + i * k, none⟩ 0 k #[]) (w.drewN n) = .ok (enc (l[i])).toArray (w.drewN n) := by
  have hlen := flatten_len k (l.map enc) (fun r hr => by obtain ⟨a, _, rfl⟩ := List.mem_map.1 hr; exact hk a)
  rw [List.length_map] at hlen
  have hat := fun t ht => flatten_at k (l.map enc) (fun r hr => by obtain ⟨a, _, rfl⟩ := List.mem_map.1 hr; exact hk a) i t (by simpa using hi) ht
  simp only [List.getElem_map] at hat
  obtain ⟨b, off, hA, hb, hc⟩ := hr.at_ (k := i * k) (by rw [hlen]; exact Nat.mul_lt_mul_of_pos_right hi h0)
  have hcell : ∀ t u, (enc (l[i]))[t]? = some u → w.cell? ⟨b, off + i * k + t, none⟩ = some u := fun t u hu => by
    have ht : t < k := by have := (List.getElem?_eq_some_iff.1 hu).1; rw [hk] at this; exact this
    rw [Nat.add_assoc]
    exact hc _ _ ((hat t ht).trans hu)
  refine ⟨b, off, hA, hb, hcell, fun n => ?_⟩
  have := run_loadCells_list (P := P) (w := w.drewN n) ⟨b, off + i * k, none⟩ (enc (l[i])) (fun j v hv => by
    rw [Addr.add_lit]
    exact hcell j v hv)
  rw [hk] at this
  simpa [loadCells] using this

set_option maxHeartbeats 1600000 in
theorem refEntries_any (va vb : Value) (la lb : List En) (B : Nat) (w : World) (ha : EsAt w B va la) (hb : EsAt w B vb lb) (hn : la.length ≤ 1000000) :
    Calls Try.prog 30 #[va, vb] w fun e w' => e = .returned (.bool (decide (la = lb))) ∧ ∃ q, w' = w.drewN q := by
  obtain ⟨A, n, c, rfl, hr, hl, hc⟩ := ha
  obtain ⟨A', n', c', rfl, hr', hl', hc'⟩ := hb
  have H := Lib.hid (And.intro hr (And.intro hl (And.intro hr' hl')))
  obtain ⟨r, hres⟩ : ∃ r, decide (la = lb) = r := ⟨_, rfl⟩
  rw [hres]
  have HR := Lib.hid hres; clear hres hr hr' hc hc'
  by_cases hne : ¬ n = n'
  · have hnb : ((n : Int) != (n' : Int)) = true := by simp; omega
    have hrf : r = false := by rw [← HR.out]; exact decide_eq_false fun h => by rw [← hl, ← hl', h] at hne; exact hne rfl
    subst hrf
    go_enter Try.func30, Try.ntmps30
    go_wp2_with fail
    go_ret
    exact ⟨rfl, 0, rfl⟩
  replace hne := Classical.not_not.1 hne
  subst hne
  clear hl hl'
  go_enter Try.func30, Try.ntmps30
  go_wp2_with fail
  go_loopw [5] (fun i wr => ∃ k : Nat, k ≤ n ∧ i = .int .i64 k ∧ la.take k = lb.take k ∧ ∃ q, wr = w.drewN q) (fun i _ => n - (intOf i).toNat)
  case atStart => exact ⟨0, by omega, rfl, by simp, 0, rfl⟩
  case round =>
    obtain ⟨k, hk, rfl, htk, q, hq⟩ := hrel
    have HQ := Lib.hid hq
    have HRd := Lib.hid (show Rd wr B A (enCells la) ∧ Rd wr B A' (enCells lb) from by rw [hq]; exact ⟨H.out.1.drewN q, H.out.2.2.1.drewN q⟩)
    have HT := Lib.hid htk
    clear hq htk
    by_cases hlt : k < n
    · have g3 : (k : Int) < (n : Int) := by omega
      have hka : k < la.length := by have := H.out.2.1; omega
      have hkb : k < lb.length := by have := H.out.2.2.2; omega
      obtain ⟨b, off, hA, _, _, hld⟩ := rows_load (P := Try.prog) 11 En.cells (fun _ => rfl) (by omega) la HRd.out.1 k hka
      obtain ⟨b', off', hA', _, _, hld'⟩ := rows_load (P := Try.prog) 11 En.cells (fun _ => rfl) (by omega) lb HRd.out.2 k hkb
      subst hA hA'
      have hta : la.take (k + 1) = la.take k ++ [la[k]'hka] := List.take_succ_eq_append_getElem hka
      have htb : lb.take (k + 1) = lb.take k ++ [lb[k]'hkb] := List.take_succ_eq_append_getElem hkb
      have hgx := List.getElem?_eq_getElem hka
      have hgy := List.getElem?_eq_getElem hkb
      generalize la[k]'hka = x at *
      generalize lb[k]'hkb = y at *
      have hcmp := en_neq x y
      have HTT := Lib.hid (And.intro hta (And.intro htb (And.intro hgx hgy))); clear hta htb hgx hgy
      by_cases hxy : x = y
      · subst hxy
        have hcmp' : ∀ w : World, Sem.run Try.prog (binOp .neq 67 (.agg x.cells.toArray) (.agg x.cells.toArray)) w = .ok (.bool false) w := fun w => by rw [hcmp w]; simp
        clear hcmp
        go_wp2_with fail
        go_quiet (fail)
        go_wp2_with fail
        go_roundw
        case rel => exact ⟨k + 1, by omega, by go_num, by rw [HTT.out.1, HTT.out.2.1, HT.out], _, by rw [HQ.out, World.drewN_drewN]⟩
        case measure => simp [intOf]; omega
      · have hcmp' : ∀ w : World, Sem.run Try.prog (binOp .neq 67 (.agg x.cells.toArray) (.agg y.cells.toArray)) w = .ok (.bool true) w := fun w => by rw [hcmp w, decide_eq_false hxy]; rfl
        have hrf : r = false := by
          rw [← HR.out]
          exact decide_eq_false fun h => hxy (by have h1 := HTT.out.2.2.1; rw [h, HTT.out.2.2.2] at h1; injection h1 with h1; exact h1.symm)
        subst hrf
        have HXY := Lib.hid hxy
        clear hcmp hxy
        go_wp2_with fail
        go_quiet (fail)
        go_wp2_with fail
        go_ret
        exact ⟨rfl, _, by rw [HQ.out, World.drewN_drewN]⟩
    · obtain rfl : k = n := by omega
      have hrt : r = true := by
        rw [← HR.out]
        have h1 := HT.out
        rw [List.take_of_length_le (by have := H.out.2.1; omega), List.take_of_length_le (by have := H.out.2.2.2; omega)] at h1
        exact decide_eq_true h1
      subst hrt
      go_wp2_with fail
      go_ret
      exact ⟨rfl, _, HQ.out⟩

set_option maxHeartbeats 1600000 in
theorem equal_any (va vb : Value) (la lb : List En) (B : Nat) (w : World) (ha : EsAt w B va la) (hb : EsAt w B vb lb) (hn : la.length ≤ 1000000) :
    Calls Try.prog 29 #[va, vb] w fun e w' => e = .returned (.bool (decide (la = lb))) ∧ ∃ q, w' = w.drewN q := by
  obtain ⟨A, n, c, rfl, hr, hl, hc⟩ := ha
  obtain ⟨A', n', c', rfl, hr', hl', hc'⟩ := hb
  have H := Lib.hid (And.intro hr (And.intro hl (And.intro hr' hl')))
  obtain ⟨r, hres⟩ : ∃ r, decide (la = lb) = r := ⟨_, rfl⟩
  rw [hres]
  have HR := Lib.hid hres; clear hres hr hr' hc hc'
  by_cases hne : ¬ n = n'
  · have hnb : ((n : Int) != (n' : Int)) = true := by simp; omega
    have hrf : r = false := by rw [← HR.out]; exact decide_eq_false fun h => by rw [← hl, ← hl', h] at hne; exact hne rfl
    subst hrf
    go_enter Try.func29, Try.ntmps29
    go_wp2_with fail
    go_ret
    exact ⟨rfl, 0, rfl⟩
  replace hne := Classical.not_not.1 hne
  subst hne
  clear hl hl'
  go_enter Try.func29, Try.ntmps29
  go_wp2_with fail
  go_loopw [5, 13] (fun _ i wr => ∃ k : Nat, k ≤ n ∧ i = .int .i64 k ∧ la.take k = lb.take k ∧ ∃ q, wr = w.drewN q) (fun _ i _ => n - (intOf i).toNat)
  case atStart => exact ⟨0, by omega, rfl, by simp, 0, rfl⟩
  case round =>
    obtain ⟨k, hk, rfl, htk, q, hq⟩ := hrel
    have HQ := Lib.hid hq
    have HRd := Lib.hid (show Rd wr B A (enCells la) ∧ Rd wr B A' (enCells lb) from by rw [hq]; exact ⟨H.out.1.drewN q, H.out.2.2.1.drewN q⟩)
    have HT := Lib.hid htk
    clear hq htk
    by_cases hlt : k < n
    · have g3 : (k : Int) < (n : Int) := by omega
      have hka : k < la.length := by have := H.out.2.1; omega
      have hkb : k < lb.length := by have := H.out.2.2.2; omega
      obtain ⟨b, off, hA, _, _, hld⟩ := rows_load (P := Try.prog) 11 En.cells (fun _ => rfl) (by omega) la HRd.out.1 k hka
      obtain ⟨b', off', hA', _, _, hld'⟩ := rows_load (P := Try.prog) 11 En.cells (fun _ => rfl) (by omega) lb HRd.out.2 k hkb
      subst hA hA'
      have hta : la.take (k + 1) = la.take k ++ [la[k]'hka] := List.take_succ_eq_append_getElem hka
      have htb : lb.take (k + 1) = lb.take k ++ [lb[k]'hkb] := List.take_succ_eq_append_getElem hkb
      have hgx := List.getElem?_eq_getElem hka
      have hgy := List.getElem?_eq_getElem hkb
      generalize la[k]'hka = x at *
      generalize lb[k]'hkb = y at *
      have hcmp := en_neq x y
      have HTT := Lib.hid (And.intro hta (And.intro htb (And.intro hgx hgy))); clear hta htb hgx hgy
      by_cases hxy : x = y
      · subst hxy
        have hcmp' : ∀ w : World, Sem.run Try.prog (binOp .neq 67 (.agg x.cells.toArray) (.agg x.cells.toArray)) w = .ok (.bool false) w := fun w => by rw [hcmp w]; simp
        clear hcmp
        go_wp2_with fail
        go_quiet (fail)
        go_wp2_with fail
        go_roundw
        case rel => exact ⟨k + 1, by omega, by go_num, by rw [HTT.out.1, HTT.out.2.1, HT.out], _, by rw [HQ.out, World.drewN_drewN]⟩
        case measure => simp [intOf]; omega
      · have hcmp' : ∀ w : World, Sem.run Try.prog (binOp .neq 67 (.agg x.cells.toArray) (.agg y.cells.toArray)) w = .ok (.bool true) w := fun w => by rw [hcmp w, decide_eq_false hxy]; rfl
        have hrf : r = false := by
          rw [← HR.out]
          exact decide_eq_false fun h => hxy (by have h1 := HTT.out.2.2.1; rw [h, HTT.out.2.2.2] at h1; injection h1 with h1; exact h1.symm)
        subst hrf
        have HXY := Lib.hid hxy
        clear hcmp hxy
        go_wp2_with fail
        go_quiet (fail)
        go_wp2_with fail
        go_ret
        exact ⟨rfl, _, by rw [HQ.out, World.drewN_drewN]⟩
    · obtain rfl : k = n := by omega
      have hrt : r = true := by
        rw [← HR.out]
        have h1 := HT.out
        rw [List.take_of_length_le (by have := H.out.2.1; omega), List.take_of_length_le (by have := H.out.2.2.2; omega)] at h1
        exact decide_eq_true h1
      subst hrt
      go_wp2_with fail
      go_ret
      exact ⟨rfl, _, HQ.out⟩
end Go.Proofs.Ytbdbimnfknaakaa
