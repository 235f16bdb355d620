/- All sectors, one behind the other. -/
import Derived.Test.YtmddpjdgnamlnaaCallAny07
namespace Go.Proofs.Ytmddpjdgnamlnaa
open Go.RowKit Go.Maps
attribute [-go_sem] loadCellsFrom storeCells
attribute [local go_sem] storeCells_one run_makeMap Sec.cells_len

def allB (l : List Sec) : List UInt8 := (l.map Sec.l).flatten
theorem allB_len (l : List Sec) : (allB l).length = l.length * 64 := by
  induction l with
  | nil => rfl
  | cons a l ih => simp only [allB, List.map_cons, List.flatten_cons, List.length_append, a.h, List.length_cons] at ih ⊢; rw [ih]; omega
theorem allB_append (l m : List Sec) : allB (l ++ m) = allB l ++ allB m := by simp [allB]
theorem allB_cons (a : Sec) (l : List Sec) : allB (a :: l) = a.l ++ allB l := rfl
theorem allB_drop (l : List Sec) (j : Nat) : (allB l).drop (j * 64) = allB (l.drop j) := by
  induction l generalizing j with
  | nil => simp [allB]
  | cons a l ih =>
    cases j with
    | zero => simp
    | succ j => rw [allB_cons, List.drop_append, List.drop_eq_nil_of_le (by rw [a.h]; omega), a.h, show (j + 1) * 64 - 64 = j * 64 by omega, ih]; rfl
theorem allB_take (l : List Sec) (j : Nat) : (allB l).take (j * 64) = allB (l.take j) := by
  induction l generalizing j with
  | nil => simp [allB]
  | cons a l ih =>
    cases j with
    | zero => simp [allB]
    | succ j =>
      rw [allB_cons, List.take_append, List.take_of_length_le (by rw [a.h]; omega), a.h, show (j + 1) * 64 - 64 = j * 64 by omega, ih]
      rfl
def allS (l : List Sec) : ByteArray := ⟨(allB l).toArray⟩
theorem Blk.rd {W : World} {g : Nat} {t : TypeId} {cs : List Value} (h : Blk W g t cs) : Rd W (g + 1) (some ⟨g, 0, none⟩) cs :=
  .inr ⟨g, 0, rfl, by omega, fun j u hu => by rw [Nat.zero_add, h.cell]; exact hu⟩
theorem allS_snoc (l : List Sec) (x : Sec) : allS l ++ (⟨x.l.toArray⟩ : ByteArray) = allS (l ++ [x]) := by
  unfold allS
  rw [ByteArray.mk_append_mk, allB_append]
  simp [allB]
set_option maxHeartbeats 1600000 in
theorem all_any {g gl mb : Nat} {d : Dk} {w : World} (h : DiskAt w g gl mb d) :
    Calls Try.prog 14 #[.pointer (some ⟨g, 0, none⟩)] w fun e w' => e = .returned (.string (allS d.now)) ∧ Below w.heap.size w w' := by
  have hn := h.len.2
  have H := Lib.hid h
  obtain ⟨n, hnl⟩ : ∃ n, d.now.length = n := ⟨_, rfl⟩
  have HN := Lib.hid hnl
  rw [hnl] at hn
  clear h hnl
  go_enter Try.func14, Try.ntmps14
  go_wp2_with fail
  go_loopw [3, 4, 5, 6] (fun s i _ _ wr => ∃ k : Nat, k ≤ n ∧ i = .int .i64 k ∧ s = .string (allS (d.now.take k)) ∧ Below w.heap.size w wr) (fun _ i _ _ _ => n - (intOf i).toNat)
  case atStart => exact ⟨0, by omega, rfl, rfl, Below.refl _ _⟩
  case round =>
    obtain ⟨k, hk, rfl, rfl, hb⟩ := hrel
    have hdr := H.out.below hb
    have hsz := size_any hdr
    rw [HN.out] at hsz
    have HS := Lib.hid hsz
    by_cases hlt : k < n
    · have g3 : (k : Int) < (n : Int) := by omega
      have hka : k < d.now.length := by rw [HN.out]; exact hlt
      have htk : d.now.take (k + 1) = d.now.take k ++ [d.now[k]'hka] := List.take_succ_eq_append_getElem hka
      have hrd := read_ok k hdr hka
      generalize d.now[k]'hka = x at *
      have HR := Lib.hid hrd
      have HT := Lib.hid htk
      have HB := Lib.hid hb
      clear hdr hsz hka htk hrd hb
      go_wp2_with fail
      refine HS.out.mono ?_
      rintro e w' ⟨rfl, hw⟩
      subst hw
      go_wp2_with fail
      refine HR.out.mono ?_
      rintro e w2 ⟨rfl, hx, hb2⟩
      have hcv := conv_rd (P := Try.prog) w2 32 9 5 Try.underlying32 Try.underlying5 Try.underlying9 _ _ 64 64 x.l hx.rd x.h
      have H2 := Lib.hid (HB.out.trans (hb2.mono HB.out.size)); clear hx hb2
      obtain ⟨xs, hxs⟩ : ∃ xs : ByteArray, (⟨x.l.toArray⟩ : ByteArray) = xs := ⟨_, rfl⟩
      rw [hxs] at hcv
      have hcs : (allS (d.now.take k)).size + xs.size ≤ 9223372036854775807 := by
        have h1 : (allS (d.now.take k)).size = (allB (d.now.take k)).length := by simp [allS, ByteArray.size]
        have h2 : xs.size = 64 := by rw [← hxs]; simp [ByteArray.size, x.h]
        rw [h1, h2, allB_len, List.length_take]
        omega
      have HX := Lib.hid hxs
      clear hxs
      go_wp2_with fail
      go_roundw
      case rel => exact ⟨k + 1, by omega, by go_num, by rw [HT.out, ← allS_snoc, HX.out], H2.out⟩
      case measure => simp [intOf]; omega
    · obtain rfl : k = n := by omega
      have e : d.now.take k = d.now := List.take_of_length_le (by rw [HN.out]; exact Nat.le_refl _)
      rw [e]
      have HB := Lib.hid hb
      clear hdr hsz e hb
      go_wp2_with fail
      refine HS.out.mono ?_
      rintro e w' ⟨rfl, hw⟩
      subst hw
      go_wp2_with fail
      go_ret
      exact ⟨rfl, HB.out⟩
theorem ba_ext {a b : ByteArray} (h : a.data.toList = b.data.toList) : a = b := by
  obtain ⟨⟨a⟩⟩ := a
  obtain ⟨⟨b⟩⟩ := b
  simp only at h
  rw [h]
theorem allS_take (l : List Sec) (j : Nat) : (allS l).extract 0 (64 * j) = allS (l.take j) := by
  apply ba_ext
  simp only [allS, ByteArray.data_extract, Array.toList_extract, List.extract_eq_take_drop, List.drop_zero, Nat.sub_zero]
  rw [Nat.mul_comm, allB_take]
theorem allS_drop (l : List Sec) (j N : Nat) (h : l.length * 64 ≤ N) : (allS l).extract (64 * j) N = allS (l.drop j) := by
  apply ba_ext
  simp only [allS, ByteArray.data_extract, Array.toList_extract, List.extract_eq_take_drop]
  rw [Nat.mul_comm, allB_drop, List.take_of_length_le (by rw [allB_len, List.length_drop, Nat.sub_mul]; omega)]
theorem allS_mid (l : List Sec) (j : Nat) (h : j < l.length) : (allS l).extract (64 * j) (64 * j + 64) = ⟨(l[j]'h).l.toArray⟩ := by
  apply ba_ext
  simp only [allS, ByteArray.data_extract, Array.toList_extract, List.extract_eq_take_drop]
  rw [Nat.mul_comm, allB_drop, List.drop_eq_getElem_cons h, allB_cons, show j * 64 + 64 - j * 64 = 64 by omega, List.take_append_of_le_length (by rw [Sec.h]; exact Nat.le_refl _), List.take_of_length_le (by rw [Sec.h]; exact Nat.le_refl _)]
theorem Dk.step_now (d : Dk) : d.step.now = d.now := by
  unfold Dk.step
  split <;> rfl
theorem Dk.write_now (d : Dk) (j : Nat) (s : Sec) : (d.write j s).now = d.now.set j s := by
  unfold Dk.write
  rw [Dk.step_now]
  rfl
/-- A write: refused, or done. -/
theorem write_cases {g gl mb : Nat} {d : Dk} {w : World} (i : Int) (A : Option Addr) (m c B : Nat) (l : List UInt8) (h : DiskAt w g gl mb d) (hr : Rd w B A (bv l)) (hl : l.length = m) :
    (∃ z : Int, z ≠ 0 ∧ (d.down = true ∨ inD d i = false ∨ 64 < m) ∧ Calls Try.prog 15 #[.pointer (some ⟨g, 0, none⟩), .int .i64 i, .slice A m c] w fun e w' => e = .returned (.int .i64 z) ∧ w = w') ∨
    ∃ (j : Nat) (h64 : l.length ≤ 64), i = (j : Int) ∧ d.down = false ∧ j < d.now.length ∧ Calls Try.prog 15 #[.pointer (some ⟨g, 0, none⟩), .int .i64 i, .slice A m c] w fun e w' => e = .returned (.int .i64 0) ∧ DiskAt w' g gl mb (d.write j (Sec.of l h64)) ∧ Chg (dkS g gl mb) w w' := by
  cases hdn : d.down
  · cases hi : inD d i
    · exact .inl ⟨71, by decide, .inr (.inl rfl), write_bad i _ h hdn hi⟩
    · simp [inD] at hi
      obtain ⟨j, rfl⟩ : ∃ j : Nat, i = (j : Int) := ⟨i.toNat, by omega⟩
      by_cases hm : 64 < m
      · exact .inl ⟨1, by decide, .inr (.inr hm), write_long j A m c h hdn (by omega) hm⟩
      · exact .inr ⟨j, by omega, rfl, rfl, by omega, write_ok j B A m c l h hdn (by omega) hr hl (by omega)⟩
  · exact .inl ⟨70, by decide, .inl rfl, write_down i _ h hdn⟩
end Go.Proofs.Ytmddpjdgnamlnaa
