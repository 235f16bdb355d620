/- The document's sums of a text's pieces; the law's own rows: row and cuts. -/
import Derived.Test.YtdfjaephlabnhaaRight
import Derived.Deep.OwnRows
namespace Go.Proofs.Ytdfjaephlabnhaa
open Go.RowKit

theorem cutS_piece (s : ByteArray) (k : Nat) (hs : s.size ≤ 65536) (hk : k < nPieces s.size) : cutS s k = piece s k ∧ cutE s k = 0 := by
  have ok : cutOk s k = true := by simp [cutOk]; omega
  exact ⟨by simp [cutS, ok], by simp [cutE, ok]⟩
theorem sums_succ (s : ByteArray) (k : Nat) : (upto s (k + 1)).map sumOf = (upto s k).map sumOf ++ [sumOf (piece s k)] := by rw [upto_succ]; simp
theorem upto_length (s : ByteArray) (k : Nat) : (upto s k).length = k := by simp [upto]

set_option maxHeartbeats 1600000 in
theorem refSums_ok (s : ByteArray) (w : World) (hs : s.size ≤ 65536) :
    Calls Try.prog 10 #[.string s] w fun e w' => ∃ V, e = .returned (.tuple #[V, .int .i64 0]) ∧ w'.ownsRow w.heap.size 3 1 V (nPieces s.size) (iv (sumsOf s)) ∧ Below w.heap.size w w' := by
  obtain ⟨i0, hi0, hz0, hz1, hz2⟩ := info_parts int_info
  have hmay : decide (s.size ≤ 65536) = true := by simp; omega
  have hN : nPieces s.size ≤ 1000 := by unfold nPieces; omega
  have HM := Lib.hid (fun W : World => many_any s.size W (by omega))
  have HC := Lib.hid (fun (k : Nat) (W : World) => refCut_any s k W (by omega))
  go_enter Try.func10, Try.ntmps10
  go_wp2_with fail
  refine (may_any s.size w (by omega)).mono ?_
  rintro e w' ⟨rfl, rfl⟩
  rw [hmay]
  go_wp2_with fail
  go_loopw [4, 5] (fun v i wr => ∃ k : Nat, k ≤ nPieces s.size ∧ i = .int .i64 k ∧ wr.ownsRow w.heap.size 3 1 v k (iv ((upto s k).map sumOf)) ∧ Below w.heap.size w wr) (fun _ i _ => nPieces s.size - (intOf i).toNat)
  case atStart => exact ⟨0, by omega, rfl, World.ownsRow_nil _ _ _ _, Below.refl _ _⟩
  case round =>
    obtain ⟨k, hk, rfl, hown, hb⟩ := hrel
    have HO := Lib.hid (And.intro hown hb); clear hown hb
    by_cases hlt : k < nPieces s.size
    · have hlt' : (k : Int) < ((nPieces s.size : Nat) : Int) := by omega
      obtain ⟨eS, eE⟩ := cutS_piece s k hs hlt
      have hpz : (piece s k).size ≤ 80 := by simp [piece, ByteArray.size_extract]; omega
      go_wp2_with fail
      refine (HM.out _).mono ?_
      rintro e w' ⟨rfl, rfl⟩
      go_wp2_with fail
      refine (HC.out k _).mono ?_
      rintro e w' ⟨rfl, rfl⟩
      rw [eS, eE]
      have HP := Lib.hid (show sumOf (piece s k) = sumOf (piece s k) from rfl)
      have HSu := Lib.hid (sums_succ s k)
      have hsz : (piece s k).data.toList.length = (piece s k).size := by simp
      generalize piece s k = x at *
      have kc := run_bytes_of_string (P := Try.prog) wr 9 45 5 x Try.underlying9 Try.underlying45 Try.underlying5
      obtain ⟨cap, hcap⟩ : ∃ cap, grownCap wr x.size 0 5 = cap := ⟨_, rfl⟩
      rw [hcap] at kc
      have hr2 := rd_bytesRow wr.drew x cap 5 ((bytesRow x cap).size, (bytesRow x cap).size + 1)
      obtain ⟨W2, hW2⟩ : ∃ W2, wr.drew.alloc (.cells (bytesRow x cap) 5 ((bytesRow x cap).size, (bytesRow x cap).size + 1)) = W2 := ⟨_, rfl⟩
      have hg2 : wr.grownBy W2 none := by rw [← hW2]; exact ⟨rfl, rfl, rfl, by simp, fun k hk _ => Below.heap_alloc wr.drew _ k hk⟩
      have hsz2 : W2.heap.size = wr.heap.size + 1 := by rw [← hW2]; simp
      rw [hW2] at kc hr2
      have HR2 := Lib.hid (And.intro hr2 (And.intro hg2 hsz2)); clear hr2 hg2 hsz2 hcap hW2 eS eE hsz
      go_wp2_with fail
      refine (refSum_any _ x.size cap _ x.data.toList W2 HR2.out.1 (by simp) (by omega)).mono ?_
      rintro e w' ⟨rfl, rfl⟩
      have o2 := row_own HO.out.1 HR2.out.2.1 (by simp)
      have hb2 := HO.out.2.trans (below_of_grown HO.out.1 (⟨HR2.out.2.1.os, HR2.out.2.1.tape, HR2.out.2.1.output, HR2.out.2.1.size, fun k hk _ => HR2.out.2.1.block k hk (by simp)⟩) HO.out.2.size)
      go_wp2_with (at_builtin; refine wpList_append_one W2 rfl (.tmp 25) (.tmp 29) _ rfl w.heap.size 3 i0 _ 8 Try.underlying22 hi0 hz0 hz1 hz2 rfl _ k _ o2 rfl (.int .i64 (sumOf x)) (by simp [Value.oneCell']) rfl ?_ ?_ hb2.size ?_)
      · unfold maxLen; omega
      · omega
      intro v3 w3 hown3 hg3
      have hb3 := hb2.trans (below_of_grown o2 hg3 hb2.size)
      have H3 := Lib.hid (And.intro hown3 hb3); clear hown3 hg3 hb3 o2 hb2
      go_wp2_with fail
      go_roundw
      case rel => exact ⟨k + 1, by omega, by go_num, by rw [HSu.out]; simpa [iv] using H3.out.1, H3.out.2⟩
      case measure => simp [intOf]; omega
    · obtain rfl : k = nPieces s.size := by omega
      go_wp2_with fail
      refine (HM.out _).mono ?_
      rintro e w' ⟨rfl, rfl⟩
      go_wp2_with fail
      go_ret2
      exact ⟨_, rfl, HO.out.1, HO.out.2⟩

theorem refSums_no (s : ByteArray) (w : World) (h0 : 65536 < s.size) (hs : s.size ≤ 1000000) :
    Calls Try.prog 10 #[.string s] w fun e w' => e = .returned (.tuple #[.slice none 0 0, .int .i64 100]) ∧ w = w' := by
  have hmay : decide (s.size ≤ 65536) = false := by simp; omega
  go_enter Try.func10, Try.ntmps10
  go_wp2_with fail
  refine (may_any s.size w hs).mono ?_
  rintro e w' ⟨rfl, rfl⟩
  rw [hmay]
  go_wp2_with fail
  go_ret2
  exact ⟨rfl, rfl⟩

/-- The bytes 0, 1, .., n - 1, the rest of m bytes 0. -/
def rowL (m k : Nat) : List UInt8 := (List.range m).map fun j => if j < k then UInt8.ofNat j else 0
def rowS (n : Nat) : ByteArray := ⟨(rowL n n).toArray⟩
theorem rowL_zero (m : Nat) : bv (rowL m 0) = List.replicate m (.int .u8 0) := by
  apply List.ext_getElem
  · simp [rowL, bv]
  · intro i h1 h2; simp [rowL, bv]
theorem rowL_set (m k : Nat) (h2 : k < 256) : (bv (rowL m k)).set k (.int .u8 (k : Int)) = bv (rowL m (k + 1)) := by
  apply List.ext_getElem
  · simp [rowL, bv]
  · intro i h1 h3
    by_cases e : k = i
    · subst e; simp [rowL, bv]; omega
    · rw [List.getElem_set_ne e]
      simp only [rowL, bv, List.getElem_map, List.getElem_range]
      by_cases hi : i < k
      · rw [if_pos hi, if_pos (by omega)]
      · rw [if_neg hi, if_neg (by omega)]

set_option maxHeartbeats 1600000 in
theorem row_any (n : Nat) (w : World) (hn : n ≤ 200) :
    Calls Try.prog 28 #[.int .i64 n] w fun e w' => e = .returned (.string (rowS n)) ∧ Below w.heap.size w w' := by
  have hmk := fun W : World => run_make_row' (P := Try.prog) 45 5 (.int .u8 0) 1 Try.underlying45 u8_info rfl .i64 .i64 n (by omega) (by omega) W
  go_enter Try.func28, Try.ntmps28
  go_wp2_with fail
  generalize hg : w.heap.size = g
  have HG := Lib.hid hg; clear hg
  go_loopw [4] (fun i wr => ∃ k : Nat, k ≤ n ∧ i = .int .i64 k ∧ wr.ownsRow w.heap.size 5 1 (.slice (some ⟨g, 0, none⟩) n n) n (bv (rowL n k)) ∧ Below w.heap.size w wr) (fun i _ => n - (intOf i).toNat)
  case atStart =>
    refine ⟨0, by omega, rfl, ?_, (Below.refl _ _).alloc (Nat.le_refl _) _⟩
    rw [rowL_zero, ← toList_madeCells_one, ← HG.out]
    exact World.ownsRow_lit w _ n (Nat.le_refl _) (by unfold maxLen; omega) (by rw [size_madeCells]; simp)
  case round =>
    obtain ⟨k, hk, rfl, hown, hb⟩ := hrel
    by_cases hlt : k < n
    · have hu : (bv (rowL n k))[k]? = some ((bv (rowL n k))[k]'(by simp [rowL, bv]; omega)) := List.getElem?_eq_getElem _
      have hcA := (hown.cellAt k (by omega)).trans hu
      have hfA := hown.frozenAt k
      obtain ⟨ho2, hg2⟩ := hown.stored k (.int .u8 (k : Int))
      rw [rowL_set n k (by omega)] at ho2
      have hb2 := hb.trans (below_of_grown hown hg2 hb.size)
      have HO := Lib.hid (And.intro ho2 hb2); clear ho2 hb2 hg2 hown hu
      generalize (bv (rowL n k))[k]'(by simp [rowL, bv]; omega) = u at *
      have hmod : (k : Int) % 256 = k := by omega
      go_wp2_with fail
      go_roundw
      case rel => exact ⟨k + 1, by omega, by go_num, HO.out.1, ⟨HO.out.2.os, HO.out.2.tape, HO.out.2.output, HO.out.2.size, HO.out.2.block⟩⟩
      case measure => simp [intOf]; omega
    · obtain rfl : k = n := by omega
      have hcv := conv_rd (P := Try.prog) wr 45 9 5 Try.underlying45 Try.underlying5 Try.underlying9 _ (some ⟨g, 0, none⟩) k k (rowL k k) (Rd.of_own hown) (by simp [rowL])
      have HB := Lib.hid hb; clear hown hb
      go_wp2_with fail
      go_ret
      exact ⟨rfl, HB.out⟩

theorem Two.below {W W' : World} {B C : Nat} {t : TypeId} {x y : Value} (h : Two W B t x y) (hb : Below C W W') (hB : B < C) : Two W' B t x y := (hb.block B hB).trans h
theorem sumOf_in (x : ByteArray) : inB (sumOf x) = true := by
  have h := moreN_lt (s := 0) x.data.toList (by omega)
  have h2 : sumOf x = ((moreN 0 x.data.toList : Nat) : Int) := rfl
  simp [inB]
  omega
theorem right_of (s : ByteArray) (h : s.size ≤ 65536) : rightB s.size (sumsOf s) = true := by
  unfold rightB
  rw [decide_eq_true (by refine ⟨by omega, by omega, ?_⟩; simp [sumsOf, pieces_length])]
  simp only [Bool.true_and, List.all_eq_true, sumsOf, List.mem_map]
  rintro x ⟨y, _, rfl⟩
  exact sumOf_in y
theorem iv_sums_length (s : ByteArray) : (sumsOf s).length = nPieces s.size := by simp [sumsOf, pieces_length]

set_option maxHeartbeats 1600000 in
theorem cuts_any (w : World) : Calls Try.prog 14 #[] w fun e w' => e = .returned (.bool true) ∧ Below w.heap.size w w' := by
  have HR := Lib.hid (fun W : World => row_any 81 W (by omega))
  have HO := Lib.hid (fun W : World => of_ok (rowS 81) W (by decide))
  have HO0 := Lib.hid (fun W : World => of_ok ⟨#[]⟩ W (by decide))
  have HC := Lib.hid (fun W : World => cut_any (rowS 81) 1 W (by decide))
  have HC0 := Lib.hid (fun W : World => cut_any ⟨#[]⟩ 0 W (by decide))
  have e1 : (rowS 81).size = 81 := by decide
  have e2 : cutS (rowS 81) 1 = ⟨#[80]⟩ := by decide +kernel
  have e3 : cutE (rowS 81) 1 = 0 := by decide +kernel
  have e4 : cutE ⟨#[]⟩ 0 = 100 := by decide +kernel
  have e5 : nPieces (rowS 81).size = 2 := by decide
  have e6 : nPieces (ByteArray.size ⟨#[]⟩) = 0 := by decide
  have e7 : (ByteArray.size ⟨#[]⟩) = 0 := by decide
  have HRi := Lib.hid (right_of (rowS 81) (by decide))
  have HL := Lib.hid (iv_sums_length (rowS 81))
  have HE := Lib.hid (And.intro e1 (And.intro e2 (And.intro e3 (And.intro e4 (And.intro e5 (And.intro e6 e7))))))
  clear e1 e2 e3 e4 e5 e6 e7
  generalize rowS 81 = r at *
  go_enter Try.func14, Try.ntmps14
  go_wp2_with fail
  refine (HR.out w).mono ?_
  rintro e w1 ⟨rfl, hb1⟩
  have B1 := Lib.hid hb1; clear hb1
  go_wp2_with fail
  refine (HO.out w1).mono ?_
  rintro e w2 ⟨V, rfl, hown, hb2⟩
  rw [HE.out.2.2.2.2.1] at hown
  obtain ⟨A2, c2, rfl, _, _⟩ := own_is_slice hown
  rw [HE.out.1]
  have hr2 := Rd.of_own hown
  have B2 := Lib.hid (B1.out.trans (hb2.mono B1.out.size))
  have R2 := Lib.hid hr2
  clear hown hb2 hr2
  go_wp2_with fail
  have t1 := Lib.hid (Two.new_at w2 _ rfl 24 (.int .i64 81) (.slice A2 2 c2))
  have B2' := Lib.hid (B2.out.alloc B2.out.size (.cells #[.int .i64 81, .slice A2 2 c2] 24))
  have R2' := Lib.hid (R2.out.alloc (Nat.le_refl _) (.cells #[.int .i64 81, .slice A2 2 c2] 24))
  refine (HR.out _).mono ?_
  rintro e w3 ⟨rfl, hb3⟩
  have T3 := Lib.hid (t1.out.below hb3 (by simp))
  have B3 := Lib.hid (B2'.out.trans (hb3.mono B2'.out.size))
  have R3 := Lib.hid (R2'.out.below hb3 (by simp))
  have S3 := Lib.hid (show w2.heap.size + 1 ≤ w3.heap.size by have := hb3.size; simpa using this); clear hb3
  go_wp2_with fail
  refine (HC.out w3).mono ?_
  rintro e w4 ⟨rfl, hb4⟩
  rw [HE.out.2.1, HE.out.2.2.1]
  have T4 := Lib.hid (T3.out.below hb4 (by have := S3.out; omega))
  have B4 := Lib.hid (B3.out.trans (hb4.mono B3.out.size))
  have R4 := Lib.hid (R3.out.below hb4 (by have := S3.out; omega))
  have S4 := Lib.hid (show w2.heap.size + 1 ≤ w4.heap.size by have := hb4.size; have := S3.out; omega); clear hb4
  go_wp2_with fail
  refine (HC0.out w4).mono ?_
  rintro e w5 ⟨rfl, hb5⟩
  rw [HE.out.2.2.2.1]
  have T5 := Lib.hid (T4.out.below hb5 (by have := S4.out; omega))
  have B5 := Lib.hid (B4.out.trans (hb5.mono B4.out.size))
  have R5 := Lib.hid (R4.out.below hb5 (by have := S4.out; omega))
  have S5 := Lib.hid (show w2.heap.size + 1 ≤ w5.heap.size by have := hb5.size; have := S4.out; omega); clear hb5
  go_wp2_with fail
  refine (HO0.out w5).mono ?_
  rintro e w6 ⟨V, rfl, hown, hb6⟩
  rw [HE.out.2.2.2.2.2.1] at hown
  obtain ⟨A6, c6, rfl, _, _⟩ := own_is_slice hown
  rw [HE.out.2.2.2.2.2.2]
  have T6 := Lib.hid (T5.out.below hb6 (by have := S5.out; omega))
  have B6 := Lib.hid (B5.out.trans (hb6.mono B5.out.size))
  have R6 := Lib.hid (R5.out.below hb6 (by have := S5.out; omega))
  have S6 := Lib.hid (show w2.heap.size + 1 ≤ w6.heap.size by have := hb6.size; have := S5.out; omega); clear hb6 hown
  have t7 := Two.new_at w6 _ rfl 24 (.int .i64 0) (.slice A6 0 c6)
  have t1' := T6.out.alloc (.cells #[.int .i64 0, .slice A6 0 c6] 24)
  have q1 := t1'.cell0; have q2 := t1'.cell1; have q7 := t7.cell0; have q8 := t7.cell1
  have hck := check_any 81 A2 2 c2 _ _ (w6.alloc (.cells #[.int .i64 0, .slice A6 0 c6] 24)) (R6.out.alloc (by have := S6.out; omega) _) (by have := S6.out; simp; omega) (HL.out.trans HE.out.2.2.2.2.1) (by omega)
  have hri : rightB 81 (sumsOf r) = true := by have := HRi.out; rw [HE.out.1] at this; exact this
  rw [if_pos hri] at hck
  have HK := Lib.hid hck
  have B7 := Lib.hid (B6.out.alloc B6.out.size (.cells #[.int .i64 0, .slice A6 0 c6] 24))
  have T7 := Lib.hid (And.intro t1' t7)
  clear hck hri t7 t1'
  go_wp2_with fail
  refine HK.out.mono ?_
  rintro e w8 ⟨rfl, hb8⟩
  have t8 := T7.out.2.below hb8 (by simp)
  have q9 := t8.cell0; have q10 := t8.cell1
  have B8 := Lib.hid (B7.out.trans (hb8.mono B7.out.size)); clear hb8 t8
  go_wp2_with fail
  go_ret
  exact ⟨rfl, B8.out⟩

/-- A manifest's size, its error, how many sums, the sums: of whatever text. -/
def mSz (s : ByteArray) : Int := if s.size ≤ 65536 then s.size else 0
def mEr (s : ByteArray) : Int := if s.size ≤ 65536 then 0 else 100
def mSums (s : ByteArray) : List Int := if s.size ≤ 65536 then sumsOf s else []
def mN (s : ByteArray) : Nat := (mSums s).length
theorem mN_le (s : ByteArray) : mN s ≤ 1000 := by
  unfold mN mSums
  split
  · rw [iv_sums_length]; unfold nPieces; omega
  · simp
theorem of_any (s : ByteArray) (w : World) :
    Calls Try.prog 9 #[.string s] w fun e w' => ∃ A c, e = .returned (.tuple #[.agg #[.int .i64 (mSz s), .slice A (mN s) c], .int .i64 (mEr s)]) ∧ w'.ownsRow w.heap.size 3 1 (.slice A (mN s) c) (mN s) (iv (mSums s)) ∧ Below w.heap.size w w' := by
  by_cases h : s.size ≤ 65536
  · refine (of_ok s w h).mono ?_
    rintro e w' ⟨V, rfl, hown, hb⟩
    have e1 : mN s = nPieces s.size := by unfold mN mSums; rw [if_pos h, iv_sums_length]
    obtain ⟨A, c, rfl, _, _⟩ := own_is_slice hown
    refine ⟨A, c, ?_, ?_, hb⟩
    · unfold mSz mEr; rw [e1, if_pos h, if_pos h]
    · rw [e1]; unfold mSums; rw [if_pos h]; exact hown
  · refine (of_no s w (by omega)).mono ?_
    rintro e w' ⟨rfl, hb⟩
    have e1 : mN s = 0 := by unfold mN mSums; rw [if_neg h]; rfl
    refine ⟨none, 0, ?_, ?_, hb⟩
    · unfold mSz mEr; rw [e1, if_neg h, if_neg h]
    · rw [e1]; unfold mSums; rw [if_neg h]; exact World.ownsRow_nil _ _ _ _
theorem refSums_any (s : ByteArray) (w : World) (hs : s.size ≤ 1000000) :
    Calls Try.prog 10 #[.string s] w fun e w' => ∃ A c, e = .returned (.tuple #[.slice A (mN s) c, .int .i64 (mEr s)]) ∧ w'.ownsRow w.heap.size 3 1 (.slice A (mN s) c) (mN s) (iv (mSums s)) ∧ Below w.heap.size w w' := by
  by_cases h : s.size ≤ 65536
  · refine (refSums_ok s w h).mono ?_
    rintro e w' ⟨V, rfl, hown, hb⟩
    have e1 : mN s = nPieces s.size := by unfold mN mSums; rw [if_pos h, iv_sums_length]
    obtain ⟨A, c, rfl, _, _⟩ := own_is_slice hown
    refine ⟨A, c, ?_, ?_, hb⟩
    · unfold mEr; rw [e1, if_pos h]
    · rw [e1]; unfold mSums; rw [if_pos h]; exact hown
  · refine (refSums_no s w (by omega) hs).mono ?_
    rintro e w' ⟨rfl, rfl⟩
    have e1 : mN s = 0 := by unfold mN mSums; rw [if_neg h]; rfl
    refine ⟨none, 0, ?_, ?_, Below.refl _ _⟩
    · unfold mEr; rw [e1, if_neg h]
    · rw [e1]; unfold mSums; rw [if_neg h]; exact World.ownsRow_nil _ _ _ _
theorem below_drewN {C : Nat} {w w' : World} (h : Below C w w') (q : Nat) : Below C w (w'.drewN q) := ⟨h.os, h.tape, h.output, h.size, h.block⟩
end Go.Proofs.Ytdfjaephlabnhaa
