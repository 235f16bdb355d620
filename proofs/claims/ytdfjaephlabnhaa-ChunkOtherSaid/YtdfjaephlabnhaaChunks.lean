/- chunk.chunks: an iterator that hands over a text's pieces of 80 bytes, one by one. -/
import Derived.Test.YtdfjaephlabnhaaRange
import Derived.Lib.MinMax
namespace Go.Proofs.Ytdfjaephlabnhaa
open Go.RowKit
attribute [local go_sem] Oper.semAt_some

/-- A text's k-th piece. -/
def piece (s : ByteArray) (k : Nat) : ByteArray := s.extract (80 * k) (80 * k + 80)
def nPieces (n : Nat) : Nat := (n + 79) / 80
def upto (s : ByteArray) (k : Nat) : List ByteArray := (List.range k).map (piece s)
def pieces (s : ByteArray) : List ByteArray := upto s (nPieces s.size)
theorem upto_succ (s : ByteArray) (k : Nat) : upto s (k + 1) = upto s k ++ [piece s k] := by simp [upto, List.range_succ]
theorem upto_split (s : ByteArray) (k n : Nat) (h : k < n) : ∃ rest, upto s n = upto s k ++ piece s k :: rest := by
  refine ⟨(upto s n).drop (k + 1), ?_⟩
  have h1 : (upto s n).take (k + 1) = upto s k ++ [piece s k] := by
    rw [← upto_succ]
    simp [upto, ← List.map_take, List.take_range, show min (k + 1) n = k + 1 by omega]
  calc upto s n = (upto s n).take (k + 1) ++ (upto s n).drop (k + 1) := (List.take_append_drop _ _).symm
    _ = _ := by rw [h1]; simp
theorem upto_prefix (s : ByteArray) (k n : Nat) (h : k ≤ n) : upto s k <+: upto s n := by
  refine ⟨(upto s n).drop k, ?_⟩
  have h1 : (upto s n).take k = upto s k := by
    simp [upto, ← List.map_take, List.take_range, show min k n = k by omega]
  rw [← h1, List.take_append_drop]
theorem ext_size (s : ByteArray) (i : Nat) : (s.extract i s.size).size = s.size - i := by simp [ByteArray.size_extract]
theorem left_piece (s : ByteArray) (k m : Nat) (hm : m = min (s.size - 80 * k) 80) : (s.extract (80 * k) s.size).extract 0 m = piece s k := by
  apply ByteArray.ext
  apply Array.ext'
  simp only [piece, ByteArray.data_extract, Array.toList_extract, List.extract_eq_take_drop, List.drop_zero, List.take_take]
  have : s.size = s.data.toList.length := by simp
  rw [show min (m - 0) (s.size - 80 * k) = m by omega]
  by_cases h : 80 ≤ s.size - 80 * k
  · congr 1; omega
  · rw [List.take_of_length_le (by simp; omega), List.take_of_length_le (by simp; omega)]
theorem left_next (s : ByteArray) (k m c : Nat) (hm : m = min (s.size - 80 * k) 80) (h : 80 * k < s.size) (hc : s.size - 80 * k ≤ c) : (s.extract (80 * k) s.size).extract m c = s.extract (80 * (k + 1)) s.size := by
  apply ByteArray.ext
  apply Array.ext'
  simp only [ByteArray.data_extract, Array.toList_extract, List.extract_eq_take_drop]
  have : s.size = s.data.toList.length := by simp
  rw [List.drop_take, List.drop_drop, List.take_take]
  by_cases h8 : 80 ≤ s.size - 80 * k
  · rw [show 80 * k + m = 80 * (k + 1) by omega]
    congr 1; omega
  · rw [List.drop_of_length_le (by omega), List.drop_of_length_le (by omega)]
    simp

def leftIn (b : Nat) (W : World) : Nat := match W.cell? ⟨b, 0, none⟩ with | some (.string s) => s.size | _ => 0

set_option maxRecDepth 100000 in
set_option maxHeartbeats 2000000 in
theorem chunks_seq (s : ByteArray) (b : Nat) (W0 : World) (hs : s.size ≤ 1000000) (hc : W0.cell? ⟨b, 0, none⟩ = some (.string s)) (hf : W0.frozen? ⟨b, 0, none⟩ = false) :
    CellSeq Try.prog 32 #[.pointer (some ⟨b, 0, none⟩)] Value.string b (pieces s) W0 := by
  intro l J Jx hJ hY W hW h0
  have same : ∀ {A B : World}, B.heap[b]? = A.heap[b]? → B.cell? ⟨b, 0, none⟩ = A.cell? ⟨b, 0, none⟩ ∧ B.frozen? ⟨b, 0, none⟩ = A.frozen? ⟨b, 0, none⟩ := fun h => by
    constructor
    · simp only [World.cell?, h]
    · simp only [World.frozen?, h]
  have hcW := (same hW).1.trans hc
  have hfW := (same hW).2.trans hf
  refine callsIn_of_wp Try.func32 rfl trivial ?_ rfl
  simp only [Try.ntmps32, List.size_toArray, List.length_cons, List.length_nil, Nat.reduceAdd, Nat.reduceSub, Array.replicate_succ, Array.replicate_zero, List.push_toArray, List.append_toArray, List.nil_append, List.cons_append]
  gi_wp2
  gi_loopw [3] (fun _ wr => ∃ k : Nat, k ≤ nPieces s.size ∧ J (upto s k) wr ∧ wr.cell? ⟨b, 0, none⟩ = some (.string (s.extract (80 * k) s.size)) ∧ wr.frozen? ⟨b, 0, none⟩ = false)
    (fun _ wr => leftIn b wr)
  case atStart => exact ⟨0, Nat.zero_le _, h0, by rw [hcW]; simp, hfW⟩
  case round =>
    obtain ⟨k, hk, hj, hck, hfk⟩ := hrel
    have hsz := ext_size s (80 * k)
    by_cases hlt : 80 * k < s.size
    · have hp := left_piece s k _ rfl
      have hn := fun c => left_next s k _ c rfl hlt
      have hpos : (0 : Int) < ((s.extract (80 * k) s.size).size : Int) := by omega
      have hmin : min ((s.extract (80 * k) s.size).size : Int) 80 = ((min (s.size - 80 * k) 80 : Nat) : Int) := by omega
      have hms : min (s.size - 80 * k) 80 ≤ (s.extract (80 * k) s.size).size := by omega
      have hsz' : (s.extract (80 * k) s.size).size ≤ 1000000 := by omega
      have hge := Lib.hid (show s.size - 80 * k ≤ (s.extract (80 * k) s.size).size by omega)
      obtain ⟨rest, hre⟩ := upto_split s k (nPieces s.size) (by unfold nPieces; omega)
      obtain ⟨fn, tmps, assign, body, hy, hR⟩ := hY _ _ rest wr hre hj
      have hme : leftIn b wr = s.size - 80 * k := by simp only [leftIn, hck, hsz]
      have hpL := Lib.hid hre; clear hre
      clear hsz
      generalize s.extract (80 * k) s.size = d at *
      generalize min (s.size - 80 * k) 80 = m at *
      gi_wp2
      refine hR.mono ?_
      rintro e W3 (⟨rfl, hJ3, hk3⟩ | ⟨rfl, hJx3⟩)
      · have hc3 := (same hk3).1.trans hck
        have hf3 := (same hk3).2.trans hfk
        have hn' := hn d.size hge.out
        gi_wp2
        go_roundw
        case rel => exact ⟨k + 1, by unfold nPieces at hk ⊢; omega, by rw [upto_succ]; exact hJ _ _ _ hJ3, World.cell?_setCell_same' _ _ _ (by rw [hc3]; rfl), by rw [World.frozen?_setCell]; exact hf3⟩
        case measure =>
          rw [hme, leftIn, World.cell?_setCell_same' _ _ _ (by rw [hc3]; rfl)]
          simp only [ext_size]
          omega
      · gi_wp2
        refine bodyPost_ret (results_none rfl _ _ _) rfl ?_
        exact ⟨⟨_, rfl⟩, .inr ⟨_, by rw [← upto_succ]; exact upto_prefix _ _ _ (by unfold nPieces at hk ⊢; omega), hJx3⟩⟩
    · have hd : (s.extract (80 * k) s.size).size = 0 := by omega
      obtain rfl : k = nPieces s.size := by unfold nPieces at hk ⊢; omega
      clear hsz
      generalize s.extract (80 * nPieces s.size) s.size = d at *
      have hd' : ¬ (0 : Int) < (d.size : Int) := by omega
      gi_wp2
      go_end0
      exact ⟨⟨_, rfl⟩, .inl hj⟩

theorem chunks_any (s : ByteArray) (w : World) :
    Calls Try.prog 23 #[.string s] w fun e w' => e = .returned (.func (.func 32) #[] #[.pointer (some ⟨w.heap.size, 0, none⟩)]) ∧ w' = w.alloc (.cells #[.string s] 9) := by
  go_enter Try.func23, Try.ntmps23
  go_wp2_with fail
  go_ret
  exact ⟨rfl, rfl⟩
end Go.Proofs.Ytdfjaephlabnhaa
