/- A text is joined from its own pieces; the law's own row: joins. -/
import Derived.Test.YtdfjaephlabnhaaJoin
namespace Go.Proofs.Ytdfjaephlabnhaa
open Go.RowKit

theorem piece_size (s : ByteArray) (k : Nat) : (piece s k).size = min 80 (s.size - 80 * k) := by
  have h := left_piece s k (min 80 (s.size - 80 * k)) (by omega)
  rw [← h, ByteArray.size_extract, ext_size]
  omega
theorem fits_piece (s : ByteArray) (k : Nat) (hs : s.size ≤ 65536) (hk : k < nPieces s.size) : fitsB s.size (sumsOf s) k (piece s k) = true := by
  have hl : (sumsOf s).length = nPieces s.size := iv_sums_length s
  have hk2 : 80 * k < s.size := by unfold nPieces at hk; omega
  simp only [fitsB]
  rw [right_of s hs, decide_eq_true (by rw [hl]; omega), decide_eq_true (by rw [piece_size]; omega), decide_eq_true]
  · rfl
  · simp only [Int.toNat_natCast, List.getD]
    have : (sumsOf s)[k]? = some (sumOf (piece s k)) := by simp [sumsOf, pieces, upto, hk]
    rw [this]; rfl
theorem getD_pieces (s : ByteArray) (k : Nat) (hk : k < nPieces s.size) : (pieces s).getD k ⟨#[]⟩ = piece s k := by simp [List.getD, pieces, upto, hk]
theorem okAt_pieces (s : ByteArray) (hs : s.size ≤ 65536) : ∀ k, k ≤ nPieces s.size → okAt s.size (sumsOf s) (pieces s) k = true
  | 0, _ => by
    simp only [okAt, List.range_zero, List.all_nil, Bool.and_true]
    rw [right_of s hs, decide_eq_true (by rw [iv_sums_length, pieces_length])]
    rfl
  | k + 1, h => by rw [okAt_succ, okAt_pieces s hs k (by omega), getD_pieces s k (by omega), fits_piece s k hs (by omega)]; rfl
theorem joinS_upto (s : ByteArray) : ∀ k, k ≤ nPieces s.size → joinS (upto s k) = s.extract 0 (80 * k)
  | 0, _ => by apply ByteArray.ext; simp [joinS, upto]
  | k + 1, h => by
    have h1 : (joinS (upto s (k + 1))) = joinS (upto s k) ++ piece s k := by
      rw [upto_succ]
      apply ByteArray.ext
      apply Array.ext'
      simp only [joinS, ByteArray.data_append, Array.toList_append, List.map_append, List.map_cons, List.map_nil, List.flatten_append, List.flatten_cons, List.flatten_nil, List.append_nil]
    rw [h1, joinS_upto s k (by omega), piece]
    have h2 : 80 * k ≤ s.size := by unfold nPieces at h; omega
    apply ByteArray.ext
    apply Array.ext'
    simp only [ByteArray.data_append, ByteArray.data_extract, Array.toList_append, Array.toList_extract, List.extract_eq_take_drop, List.drop_zero, Nat.sub_zero]
    rw [show 80 * (k + 1) = 80 * k + 80 by omega, List.take_add]
    congr 2
    omega
theorem joinS_pieces (s : ByteArray) : joinS (pieces s) = s := by
  rw [pieces, joinS_upto s _ (Nat.le_refl _)]
  apply ByteArray.ext
  apply Array.ext'
  simp only [ByteArray.data_extract, Array.toList_extract, List.extract_eq_take_drop, List.drop_zero, Nat.sub_zero]
  have : s.size = s.data.toList.length := by simp
  exact List.take_of_length_le (by unfold nPieces; omega)
theorem join_pieces (s : ByteArray) (hs : s.size ≤ 65536) : joinR s.size (sumsOf s) (pieces s) = s ∧ joinE s.size (sumsOf s) (pieces s) = 0 := by
  have h := okAt_pieces s hs (pieces s).length (by rw [pieces_length]; exact Nat.le_refl _)
  exact ⟨by unfold joinR; rw [if_pos h, joinS_pieces], by unfold joinE; rw [if_pos h]⟩

/-- A row of texts, just laid. -/
def Strs (n : Nat) (ps : List ByteArray) : Value → World → Prop := fun v w => ∃ A c, v = .slice A n c ∧ n ≤ c ∧ ∃ w1, Rd w1 w1.heap.size A (sv ps) ∧ Below w1.heap.size w1 w
theorem pers_strs (n : Nat) (ps : List ByteArray) : Pers (Strs n ps) := by
  rintro v w w' ⟨A, c, rfl, hc, w1, hr, hb⟩ hb2
  exact ⟨A, c, rfl, hc, w1, hr, hb.trans (hb2.mono hb.size)⟩
theorem strs_new (w : World) (ps : List ByteArray) (C : Array Value) (hC : C = (sv ps).toArray) (t : TypeId) : Rd (w.alloc (.cells C t)) (w.alloc (.cells C t)).heap.size (some ⟨w.heap.size, 0, none⟩) (sv ps) := by
  subst hC
  refine .inr ⟨w.heap.size, 0, rfl, by simp, fun j u hu => ?_⟩
  rw [Nat.zero_add]
  have hnew : (w.alloc (.cells (sv ps).toArray t)).heap[w.heap.size]? = some (.cells (sv ps).toArray t) := World.alloc_heap_new w _
  simp only [World.cell?, hnew]
  simpa using hu
end Go.Proofs.Ytdfjaephlabnhaa
