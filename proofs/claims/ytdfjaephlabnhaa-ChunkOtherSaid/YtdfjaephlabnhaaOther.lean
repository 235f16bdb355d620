/- A text's pieces one of which is another: what is joined. Plain lists. -/
import Derived.Test.YtdfjaephlabnhaaJoinsAny
namespace Go.Proofs.Ytdfjaephlabnhaa
open Go.RowKit

theorem joinS_size (ps : List ByteArray) (n : Nat) (h : ∀ j (hj : j < ps.length), (ps[j]).size = min 80 (n - 80 * j)) : ∀ k, k ≤ ps.length → (joinS (ps.take k)).size = min (80 * k) n
  | 0, _ => by simp [joinS]; rfl
  | k + 1, hk => by
    rw [joinS_take ps k (by omega), ByteArray.size_append, joinS_size ps n h k (by omega), h k (by omega)]
    omega
theorem joinS_data (ps : List ByteArray) : (joinS ps).data.toList = (ps.map (·.data.toList)).flatten := rfl
theorem piece_join (ps : List ByteArray) (n : Nat) (hl : ps.length = nPieces n) (h : ∀ j (hj : j < ps.length), (ps[j]).size = min 80 (n - 80 * j)) (j : Nat) (hj : j < ps.length) : piece (joinS ps) j = ps[j] := by
  have h8 : 80 * j < n := by unfold nPieces at hl; omega
  have hF := joinS_size ps n h j (by omega)
  have hF2 : ((ps.take j).map (·.data.toList)).flatten.length = 80 * j := by
    have e : (joinS (ps.take j)).size = ((ps.take j).map (·.data.toList)).flatten.length := by simp only [joinS, ByteArray.size, List.size_toArray]
    rw [← e, hF]; omega
  have hx := h j hj
  have hxl : (ps[j]).data.toList.length = (ps[j]).size := by simp
  have hsplit : (ps.map (·.data.toList)).flatten = ((ps.take j).map (·.data.toList)).flatten ++ ((ps[j]).data.toList ++ ((ps.drop (j + 1)).map (·.data.toList)).flatten) := by
    conv => lhs; rw [← List.take_append_drop j ps, List.drop_eq_getElem_cons hj]
    simp only [List.map_append, List.map_cons, List.flatten_append, List.flatten_cons]
  apply ByteArray.ext
  apply Array.ext'
  simp only [piece, ByteArray.data_extract, Array.toList_extract, List.extract_eq_take_drop]
  rw [joinS_data, hsplit, List.drop_left' hF2, show 80 * j + 80 - 80 * j = 80 by omega]
  by_cases hlast : j + 1 < ps.length
  · have : (ps[j]).data.toList.length = 80 := by rw [hxl, hx]; unfold nPieces at hl; omega
    exact List.take_left' this
  · have : ps.drop (j + 1) = [] := List.drop_of_length_le (by omega)
    rw [this]
    simp only [List.map_nil, List.flatten_nil, List.append_nil]
    exact List.take_of_length_le (by omega)

/-- Are these a piece's length and sum? -/
def likeB (s : ByteArray) (k : Nat) (p : ByteArray) : Bool := decide ((piece s k).size = p.size) && decide (sumOf (piece s k) = sumOf p)
theorem fits_like (s : ByteArray) (k : Nat) (p : ByteArray) (hs : s.size ≤ 65536) (hk : k < nPieces s.size) : fitsB s.size (sumsOf s) k p = likeB s k p := by
  have hl : (sumsOf s).length = nPieces s.size := iv_sums_length s
  have hk2 : 80 * k < s.size := by unfold nPieces at hk; omega
  have hg : (sumsOf s).getD k 0 = sumOf (piece s k) := by
    have : (sumsOf s)[k]? = some (sumOf (piece s k)) := by simp [sumsOf, pieces, upto, hk]
    simp [List.getD, this]
  simp only [fitsB, likeB, Int.toNat_natCast, hg]
  rw [right_of s hs, decide_eq_true (p := 0 ≤ (k : Int) ∧ (k : Int) < ((sumsOf s).length : Int)) (by rw [hl]; omega)]
  simp only [Bool.true_and]
  congr 1
  · rw [decide_eq_decide, piece_size]; omega
  · rw [decide_eq_decide]; exact eq_comm
def swapped (s : ByteArray) (k : Nat) (p : ByteArray) : List ByteArray := (pieces s).set k p
theorem swapped_length (s : ByteArray) (k : Nat) (p : ByteArray) : (swapped s k p).length = nPieces s.size := by simp [swapped, pieces_length]
theorem getD_swapped (s : ByteArray) (k j : Nat) (p : ByteArray) (hj : j < nPieces s.size) : (swapped s k p).getD j ⟨#[]⟩ = if k = j then p else piece s j := by
  have h2 : j < (pieces s).length := by rw [pieces_length]; exact hj
  have h3 : (pieces s)[j]? = some (piece s j) := by simp [pieces, upto, hj]
  simp only [swapped, List.getD, List.getElem?_set]
  split
  · rename_i e
    subst e
    rw [if_pos h2]
    rfl
  · rw [h3]
    rfl
theorem okAt_swapped (s : ByteArray) (k : Nat) (p : ByteArray) (hs : s.size ≤ 65536) (hk : k < nPieces s.size) : ∀ j, j ≤ nPieces s.size → okAt s.size (sumsOf s) (swapped s k p) j = (decide (j ≤ k) || likeB s k p)
  | 0, _ => by
    simp only [okAt, List.range_zero, List.all_nil, Bool.and_true]
    rw [right_of s hs, decide_eq_true (by rw [iv_sums_length, swapped_length]), decide_eq_true (Nat.zero_le k)]
    rfl
  | j + 1, h => by
    rw [okAt_succ, okAt_swapped s k p hs hk j (by omega), getD_swapped s k j p (by omega)]
    by_cases e : k = j
    · subst e
      rw [if_pos rfl, fits_like s k p hs hk, decide_eq_true (Nat.le_refl k), decide_eq_false (by omega)]
      simp
    · rw [if_neg e, fits_piece s j hs (by omega), Bool.and_true]
      by_cases h2 : j ≤ k
      · rw [decide_eq_true h2, decide_eq_true (by omega)]
      · rw [decide_eq_false h2, decide_eq_false (by omega)]
theorem join_swapped (s : ByteArray) (k : Nat) (p : ByteArray) (hs : s.size ≤ 65536) (hk : k < nPieces s.size) :
    joinR s.size (sumsOf s) (swapped s k p) = (if likeB s k p then joinS (swapped s k p) else ⟨#[]⟩) ∧ joinE s.size (sumsOf s) (swapped s k p) = if likeB s k p then 0 else 100 := by
  have h := okAt_swapped s k p hs hk (swapped s k p).length (by rw [swapped_length]; exact Nat.le_refl _)
  rw [decide_eq_false (by rw [swapped_length]; omega), Bool.false_or] at h
  exact ⟨by unfold joinR; rw [h], by unfold joinE; rw [h]⟩
theorem swapped_at (s : ByteArray) (k j : Nat) (p : ByteArray) (hj : j < (swapped s k p).length) : (swapped s k p)[j] = if k = j then p else piece s j := by
  have h1 := getD_swapped s k j p (by rw [← swapped_length s k p]; exact hj)
  rw [← h1]
  simp [List.getD, hj]
theorem swapped_same (s : ByteArray) (k : Nat) (p : ByteArray) (h : likeB s k p = true) : (joinS (swapped s k p)).size = s.size ∧ sumsOf (joinS (swapped s k p)) = sumsOf s := by
  simp only [likeB, Bool.and_eq_true, decide_eq_true_eq] at h
  have hsz : ∀ j (hj : j < (swapped s k p).length), ((swapped s k p)[j]).size = min 80 (s.size - 80 * j) := by
    intro j hj
    rw [swapped_at]
    split
    · rename_i e; subst e; rw [← h.1, piece_size]
    · rw [piece_size]
  have hlen := swapped_length s k p
  have h1 : (joinS (swapped s k p)).size = s.size := by
    have := joinS_size (swapped s k p) s.size hsz (swapped s k p).length (Nat.le_refl _)
    rw [List.take_length, hlen] at this
    rw [this]
    unfold nPieces
    omega
  refine ⟨h1, ?_⟩
  simp only [sumsOf, pieces, upto, h1, List.map_map]
  apply List.map_congr_left
  intro j hj
  have hj' : j < (swapped s k p).length := by rw [hlen]; simpa using hj
  show sumOf (piece (joinS (swapped s k p)) j) = sumOf (piece s j)
  rw [piece_join _ s.size hlen hsz j hj', swapped_at]
  split
  · rename_i e; subst e; exact h.2.symm
  · rfl
end Go.Proofs.Ytdfjaephlabnhaa
