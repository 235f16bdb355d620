/- code.Reader: a pointer to a slice of the bytes that are left. What New, Left, peek, count, pass, Number, Int and Text do. -/
import Derived.Test.YtlipnncbpbbdnaaEnc
namespace Go.Proofs.Ytlipnncbpbbdnaa
open Go.RowKit

/-- The number that bytes are, the highest first. -/
def beV (l : List UInt8) : Nat := l.foldl (fun u c => u * 256 + c.toNat) 0
theorem beV_snoc (l : List UInt8) (c : UInt8) : beV (l ++ [c]) = beV l * 256 + c.toNat := by simp [beV]
theorem beV_lt (l : List UInt8) : beV l < 256 ^ l.length := by
  suffices h : ∀ (m : List UInt8), beV m.reverse < 256 ^ m.length by
    have := h l.reverse
    simpa using this
  intro m
  induction m with
  | nil => simp [beV]
  | cons c m ih =>
    rw [List.reverse_cons, beV_snoc, List.length_cons, Nat.pow_succ]
    have := c.toNat_lt
    omega
theorem beV_lt8 (l : List UInt8) (h : l.length ≤ 8) : beV l < 18446744073709551616 :=
  Nat.lt_of_lt_of_le (beV_lt l) (by
    have := Nat.pow_le_pow_right (n := 256) (by omega) h
    omega)
theorem beV_lt7 (l : List UInt8) (h : l.length ≤ 7) : beV l < 72057594037927936 :=
  Nat.lt_of_lt_of_le (beV_lt l) (by
    have := Nat.pow_le_pow_right (n := 256) (by omega) h
    omega)
theorem beV_lt4 (l : List UInt8) (h : l.length ≤ 4) : beV l < 4294967296 :=
  Nat.lt_of_lt_of_le (beV_lt l) (by
    have := Nat.pow_le_pow_right (n := 256) (by omega) h
    omega)

theorem or_add (y q : Nat) (hy : y < 72057594037927936) (hq : q < 2 ^ 8) : bits .or .u64 ((y : Int) * 256) (q : Int) = ((y * 256 + q : Nat) : Int) := by
  have h := u64_or_nat (y * 256) q (by omega) (by omega)
  have h2 := Nat.shiftLeft_add_eq_or_of_lt hq y
  rw [Nat.shiftLeft_eq] at h2
  rw [show y * 256 + q = y * 256 ||| q from h2]
  have e : ((y * 256 : Nat) : Int) = (y : Int) * 256 := by omega
  rw [e] at h
  exact h

/-- A reader at block g that has the bytes l left. -/
def Holds (w : World) (g : Nat) (l : List UInt8) : Prop :=
  ∃ A n c, w.heap[g]? = some (.cells #[.slice A n c] 58 (0, 0)) ∧ Rd w g A (bv l) ∧ l.length = n ∧ n ≤ c ∧ c ≤ maxLen
theorem Holds.lt {w : World} {g : Nat} {l : List UInt8} (h : Holds w g l) : g < w.heap.size := by
  obtain ⟨A, n, c, h, _⟩ := h
  exact (Array.getElem?_eq_some_iff.1 h).1
theorem cell_of_block {w : World} {g : Nat} {v : Value} {t : TypeId} (h : w.heap[g]? = some (.cells #[v] t (0, 0))) : w.cell? ⟨g, 0, none⟩ = some v := by
  rw [cell_of_row w g 0 _ _ _ h]; rfl
theorem frozen_of_block {w : World} {g : Nat} {v : Value} {t : TypeId} (h : w.heap[g]? = some (.cells #[v] t (0, 0))) : w.frozen? ⟨g, 0, none⟩ = false := frozen_of_row w g 0 _ _ h
theorem Holds.keep {w w' : World} {g : Nat} {l : List UInt8} (h : Holds w g l) {row : Option Nat} (hg : w.grownBy w' row) (hne : row ≠ some g) (hr : ∀ b, row = some b → g ≤ b) : Holds w' g l := by
  have hlt := h.lt
  obtain ⟨A, n, c, h1, h2, h3⟩ := h
  refine ⟨A, n, c, by rw [hg.block g hlt (fun e => hne e.symm)]; exact h1, h2.grown hg (Nat.le_of_lt hlt) hr, h3⟩
theorem Holds.below {w w' : World} {g : Nat} {l : List UInt8} (h : Holds w g l) (hb : Below w.heap.size w w') : Holds w' g l := by
  have hlt := h.lt
  obtain ⟨A, n, c, h1, h2, h3⟩ := h
  exact ⟨A, n, c, by rw [hb.block g hlt]; exact h1, h2.below hb (Nat.le_of_lt hlt), h3⟩

theorem new_any (A : Option Addr) (n c : Nat) (l : List UInt8) (w : World) (hr : Rd w w.heap.size A (bv l)) (hl : l.length = n) (hc : n ≤ c) (hm : c ≤ maxLen) :
    Calls Try.prog 21 #[.slice A n c] w fun e w' => ∃ g, e = .returned (.pointer (some ⟨g, 0, none⟩)) ∧ w.heap.size ≤ g ∧ Holds w' g l ∧ Below w.heap.size w w' := by
  have H := Lib.hid (And.intro hr hl); clear hr hl
  go_enter Try.func21, Try.ntmps21
  go_wp2_with fail
  go_ret
  refine ⟨w.heap.size, rfl, Nat.le_refl _, ⟨A, n, c, heap_alloc_new w _, H.out.1.alloc (Nat.le_refl _) _, H.out.2, hc, hm⟩, (Below.refl _ _).alloc (Nat.le_refl _) _⟩

theorem left_any (g : Nat) (l : List UInt8) (w : World) (h : Holds w g l) :
    Calls Try.prog 28 #[.pointer (some ⟨g, 0, none⟩)] w fun e w' => e = .returned (.int .i64 l.length) ∧ w = w' := by
  obtain ⟨A, n, c, hb, hr, hl, hc, hm⟩ := h
  have hcell := cell_of_block hb
  have HL := Lib.hid hl; clear hl hr hb
  go_enter Try.func28, Try.ntmps28
  go_wp2_with fail
  go_ret
  exact ⟨by rw [HL.out]; rfl, rfl⟩
theorem left_nil (w : World) :
    Calls Try.prog 28 #[.pointer none] w fun e w' => e = .returned (.int .i64 0) ∧ w = w' := by
  go_enter Try.func28, Try.ntmps28
  go_wp2_with fail
  go_ret
  exact ⟨rfl, rfl⟩

theorem pass_any (g : Nat) (l : List UInt8) (k : Nat) (w : World) (h : Holds w g l) (hk : k ≤ l.length) :
    Calls Try.prog 35 #[.pointer (some ⟨g, 0, none⟩), .int .i64 k] w fun e w' => e = .returned (.tuple #[]) ∧ Holds w' g (l.drop k) ∧ w.grownBy w' (some g) := by
  obtain ⟨A, n, c, hb, hr, hl, hc, hm⟩ := h
  have hcell := cell_of_block hb
  have hfr := frozen_of_block hb
  have hkn : k ≤ n := by omega
  have hcut := hr.cut (k := k) (cap := c) (by rw [bv_length]; omega)
  obtain ⟨A', hA'⟩ : ∃ A', (if c = k then A else A.map (·.add k)) = A' := ⟨_, rfl⟩
  have HC := Lib.hid hcut
  have HL := Lib.hid (And.intro hb hl); clear hl hr hb hcut
  go_enter Try.func35, Try.ntmps35
  go_wp2_with fail
  go_end0
  refine ⟨rfl, ⟨A', n - k, c - k, heap_setCell_same w g 0 _ _ _ HL.out.1, ?_, by rw [List.length_drop, HL.out.2], by omega, by omega⟩, ⟨rfl, rfl, rfl, by simp, fun j _ hj => heap_setCell_other w ⟨g, 0, none⟩ j _ (fun e => hj (by simp [e]))⟩⟩
  have h1 := HC.out
  rw [hA', bv_drop] at h1
  exact h1.setCell (Nat.le_refl _) _

theorem peek_nil (k : Nat) (w : World) :
    Calls Try.prog 36 #[.pointer none, .int .i64 k] w fun e w' => e = .returned (.tuple #[.int .u64 0, .int .i64 3]) ∧ w = w' := by
  go_enter Try.func36, Try.ntmps36
  go_wp2_with fail
  go_ret2
  exact ⟨rfl, rfl⟩
theorem peek_end (g : Nat) (l : List UInt8) (k : Nat) (w : World) (h : Holds w g l) (hk : l.length < k) :
    Calls Try.prog 36 #[.pointer (some ⟨g, 0, none⟩), .int .i64 k] w fun e w' => e = .returned (.tuple #[.int .u64 0, .int .i64 10]) ∧ w = w' := by
  obtain ⟨A, n, c, hb, hr, hl, hc, hm⟩ := h
  have hcell := cell_of_block hb
  have hkn : n < k := by omega
  clear hl hr hb hk
  go_enter Try.func36, Try.ntmps36
  go_wp2_with fail
  go_ret2
  exact ⟨rfl, rfl⟩
theorem peek_ok (g : Nat) (l : List UInt8) (k : Nat) (w : World) (h : Holds w g l) (hk : k ≤ l.length) (h8 : k ≤ 8) :
    Calls Try.prog 36 #[.pointer (some ⟨g, 0, none⟩), .int .i64 k] w fun e w' => e = .returned (.tuple #[.int .u64 (beV (l.take k)), .int .i64 0]) ∧ w = w' := by
  obtain ⟨A, n, c, hb, hr, hl, hc, hm⟩ := h
  have hcell := cell_of_block hb
  have hkn : k ≤ n := by omega
  have HL := Lib.hid (And.intro hr hl)
  clear hl hr hb hk
  go_enter Try.func36, Try.ntmps36
  go_wp2_with fail
  go_loop [6, 8, 25] (fun v o i => ∃ t : Nat, t ≤ k ∧ i = .int .i64 t ∧ v = .int .u64 (beV (l.take t))) (fun _ _ i => k - (intOf i).toNat)
  case atStart => exact ⟨0, by omega, rfl, rfl⟩
  case round =>
    obtain ⟨t, ht, rfl, rfl⟩ := hrel
    by_cases hlt : t < k
    · have htl : t < l.length := by have := HL.out.2; omega
      obtain ⟨b, off, rfl, _, hc2⟩ := HL.out.1.at_ (k := t) (by rw [bv_length]; exact htl)
      have hcell2 := hc2 t _ (bv_at l t htl)
      clear hc2
      have hsn := beV_snoc (l.take t) l[t]
      rw [← List.take_succ_eq_append_getElem htl] at hsn
      have HS := Lib.hid hsn; clear hsn
      have hy := beV_lt7 (l.take t) (by simp; omega)
      have hq := (l[t]).toNat_lt
      generalize beV (l.take t) = y at *
      generalize (l[t]).toNat = q at *
      have HO := Lib.hid (or_add y q hy hq)
      go_wp2_with fail
      go_round
      case rel => exact ⟨t + 1, by omega, by go_num, by rw [HS.out, HO.out]⟩
      case measure => simp [intOf]; omega
    · obtain rfl : t = k := by omega
      go_wp2_with fail
      go_ret2
      exact ⟨rfl, rfl⟩

/-- What a number is read as: its value, how many bytes, the error. -/
def num (l : List UInt8) : Int × Nat × Int :=
  if l.length < 4 then (0, 0, 10) else if 2147483647 < beV (l.take 4) then (0, 0, 11) else (beV (l.take 4), 4, 0)
/-- An int. -/
def int (l : List UInt8) : Int × Nat × Int :=
  if l.length < 8 then (0, 0, 10) else (wrap64 (beV (l.take 8)), 8, 0)
/-- A text. -/
def text (l : List UInt8) : ByteArray × Nat × Int :=
  if l.length < 4 then (⟨#[]⟩, 0, 10) else if 65536 < beV (l.take 4) then (⟨#[]⟩, 0, 11) else if l.length - 4 < beV (l.take 4) then (⟨#[]⟩, 0, 10) else
    (⟨((l.drop 4).take (beV (l.take 4))).toArray⟩, 4 + beV (l.take 4), 0)

theorem count_nil (w : World) :
    Calls Try.prog 34 #[.pointer none] w fun e w' => e = .returned (.tuple #[.int .i64 0, .int .i64 3]) ∧ w = w' := by
  go_enter Try.func34, Try.ntmps34
  go_wp2_with fail
  refine (peek_nil 4 w).mono ?_
  rintro e w' ⟨rfl, rfl⟩
  go_wp2_with fail
  go_ret2
  exact ⟨rfl, rfl⟩
theorem count_any (g : Nat) (l : List UInt8) (w : World) (h : Holds w g l) :
    Calls Try.prog 34 #[.pointer (some ⟨g, 0, none⟩)] w fun e w' => e = .returned (.tuple #[.int .i64 (num l).1, .int .i64 (num l).2.2]) ∧ w = w' := by
  unfold num
  by_cases h4 : l.length < 4
  · rw [if_pos h4]
    go_enter Try.func34, Try.ntmps34
    go_wp2_with fail
    refine (peek_end g l 4 w h h4).mono ?_
    rintro e w' ⟨rfl, rfl⟩
    go_wp2_with fail
    go_ret2
    exact ⟨rfl, rfl⟩
  · rw [if_neg h4]
    have h5 : beV (l.take 4) < 4294967296 := beV_lt4 _ (by simp; omega)
    have HN := Lib.hid (show 4 ≤ l.length by omega); clear h4
    have H := Lib.hid (peek_ok g l 4 w h HN.out (by omega))
    generalize beV (l.take 4) = y at *
    by_cases hb : 2147483647 < y
    · rw [if_pos hb]
      go_enter Try.func34, Try.ntmps34
      go_wp2_with fail
      refine Calls.mono H.out ?_
      rintro e w' ⟨rfl, rfl⟩
      go_wp2_with fail
      go_ret2
      exact ⟨rfl, rfl⟩
    · rw [if_neg hb]
      have hb2 : decide (2147483647 < (y : Int)) = false := by simp; omega
      go_enter Try.func34, Try.ntmps34
      go_wp2_with fail
      refine Calls.mono H.out ?_
      rintro e w' ⟨rfl, rfl⟩
      go_wp2_with fail
      go_ret2
      exact ⟨rfl, rfl⟩

/-- The value of a pointer to the reader's slice. -/
def ptr (g : Nat) : Value := .pointer (some ⟨g, 0, none⟩)

theorem number_nil (w : World) :
    Calls Try.prog 22 #[.pointer none] w fun e w' => e = .returned (.tuple #[.int .i64 0, .int .i64 3]) ∧ w = w' := by
  go_enter Try.func22, Try.ntmps22
  go_wp2_with fail
  refine (count_nil w).mono ?_
  rintro e w' ⟨rfl, rfl⟩
  go_wp2_with fail
  go_ret2
  exact ⟨rfl, rfl⟩
theorem num_ok (l : List UInt8) (h : (num l).2.2 = 0) : (num l).2.1 = 4 ∧ 4 ≤ l.length := by
  unfold num at h ⊢
  split at h
  · simp at h
  · rename_i h4
    split at h
    · simp at h
    · rename_i h5
      rw [if_neg h4, if_neg h5]
      exact ⟨rfl, by omega⟩
theorem num_no (l : List UInt8) (h : ¬ (num l).2.2 = 0) : (num l).2.1 = 0 := by
  unfold num at h ⊢
  split
  · rfl
  · rename_i h4
    rw [if_neg h4] at h
    split
    · rfl
    · rename_i h5
      rw [if_neg h5] at h
      simp at h
theorem number_any (g : Nat) (l : List UInt8) (w : World) (h : Holds w g l) :
    Calls Try.prog 22 #[.pointer (some ⟨g, 0, none⟩)] w fun e w' => e = .returned (.tuple #[.int .i64 (num l).1, .int .i64 (num l).2.2]) ∧ Holds w' g (l.drop (num l).2.1) ∧ w.grownBy w' (some g) := by
  have hc := Lib.hid (count_any g l w h)
  by_cases he : (num l).2.2 = 0
  · obtain ⟨h1, h2⟩ := num_ok l he
    rw [h1]
    rw [he] at hc ⊢
    have HH := Lib.hid (pass_any g l 4 w h h2)
    clear he h1 h2
    generalize (num l).1 = v at *
    go_enter Try.func22, Try.ntmps22
    go_wp2_with fail
    refine Calls.mono hc.out ?_
    rintro e w' ⟨rfl, rfl⟩
    go_wp2_with fail
    refine Calls.mono HH.out ?_
    rintro e w' ⟨rfl, h2, h3⟩
    have H2 := Lib.hid (And.intro h2 h3); clear h2 h3
    go_wp2_with fail
    go_ret2
    exact ⟨rfl, H2.out⟩
  · have h1 := num_no l he
    rw [h1]
    have he2 : ((num l).2.2 == 0) = false := by simpa using he
    clear h1 he
    generalize (num l).1 = v at *
    generalize (num l).2.2 = e1 at *
    have HH := Lib.hid h; clear h
    go_enter Try.func22, Try.ntmps22
    go_wp2_with fail
    refine Calls.mono hc.out ?_
    rintro e w' ⟨rfl, rfl⟩
    go_wp2_with fail
    go_ret2
    exact ⟨rfl, HH.out, World.grownBy.refl _ _⟩

theorem int_nil (w : World) :
    Calls Try.prog 24 #[.pointer none] w fun e w' => e = .returned (.tuple #[.int .i64 0, .int .i64 3]) ∧ w = w' := by
  go_enter Try.func24, Try.ntmps24
  go_wp2_with fail
  refine (peek_nil 8 w).mono ?_
  rintro e w' ⟨rfl, rfl⟩
  go_wp2_with fail
  go_ret2
  exact ⟨rfl, rfl⟩
theorem int_any (g : Nat) (l : List UInt8) (w : World) (h : Holds w g l) :
    Calls Try.prog 24 #[.pointer (some ⟨g, 0, none⟩)] w fun e w' => e = .returned (.tuple #[.int .i64 (int l).1, .int .i64 (int l).2.2]) ∧ Holds w' g (l.drop (int l).2.1) ∧ w.grownBy w' (some g) := by
  unfold int
  by_cases h4 : l.length < 8
  · rw [if_pos h4]
    have HH := Lib.hid h
    go_enter Try.func24, Try.ntmps24
    go_wp2_with fail
    refine (peek_end g l 8 w h h4).mono ?_
    rintro e w' ⟨rfl, rfl⟩
    go_wp2_with fail
    go_ret2
    exact ⟨rfl, HH.out, World.grownBy.refl _ _⟩
  · rw [if_neg h4]
    have h5 : beV (l.take 8) < 18446744073709551616 := beV_lt8 _ (by simp; omega)
    have HN := Lib.hid (show 8 ≤ l.length by omega); clear h4
    have H := Lib.hid (peek_ok g l 8 w h HN.out (by omega))
    have HP := Lib.hid (pass_any g l 8 w h HN.out)
    clear h
    generalize beV (l.take 8) = y at *
    go_enter Try.func24, Try.ntmps24
    go_wp2_with fail
    refine Calls.mono H.out ?_
    rintro e w' ⟨rfl, rfl⟩
    go_wp2_with fail
    refine Calls.mono HP.out ?_
    rintro e w' ⟨rfl, h2, h3⟩
    have H2 := Lib.hid (And.intro h2 h3); clear h2 h3
    go_wp2_with fail
    go_ret2
    exact ⟨rfl, H2.out⟩
end Go.Proofs.Ytlipnncbpbbdnaa
