/- A line's words, in plain Lean; what strings.Split gives at a blank. -/
import Derived.Lib.Split
import Derived.Lib.IndexBytes
import Derived.Lib.IndexLaws
namespace Go.Proofs.YtehhgpnaemffnaaDoor
open Go.Lib

def wordsFrom (acc : List UInt8) : List UInt8 → List (List UInt8)
  | [] => [acc]
  | c :: r => if c = 32 then acc :: wordsFrom [] r else wordsFrom (acc ++ [c]) r
def wordsL (l : List UInt8) : List (List UInt8) := wordsFrom [] l
theorem wordsFrom_plain (acc p r : List UInt8) (h : ∀ c ∈ p, c ≠ 32) : wordsFrom acc (p ++ r) = wordsFrom (acc ++ p) r := by
  induction p generalizing acc with
  | nil => simp
  | cons c p ih =>
    simp only [List.cons_append, wordsFrom]
    rw [if_neg (h c List.mem_cons_self), ih _ fun d hd => h d (List.mem_cons_of_mem _ hd)]
    simp
theorem wordsL_none (p : List UInt8) (h : ∀ c ∈ p, c ≠ 32) : wordsL p = [p] := by
  have := wordsFrom_plain [] p [] h
  simpa [wordsL, wordsFrom] using this
theorem wordsL_some (p r : List UInt8) (h : ∀ c ∈ p, c ≠ 32) : wordsL (p ++ 32 :: r) = p :: wordsL r := by
  have := wordsFrom_plain [] p (32 :: r) h
  simpa [wordsL, wordsFrom] using this
/-- Words, a blank between them. -/
def joinL : List (List UInt8) → List UInt8
  | [] => []
  | [w] => w
  | w :: r => w ++ 32 :: joinL r
theorem joinL_cons (w : List UInt8) (r : List (List UInt8)) (h : r ≠ []) : joinL (w :: r) = w ++ 32 :: joinL r := by
  cases r with
  | nil => exact absurd rfl h
  | cons a r => rfl
theorem wordsFrom_ne (acc l : List UInt8) : wordsFrom acc l ≠ [] := by
  induction l generalizing acc with
  | nil => simp [wordsFrom]
  | cons c l ih =>
    simp only [wordsFrom]
    split
    · simp
    · exact ih _
theorem joinL_wordsFrom (acc l : List UInt8) : joinL (wordsFrom acc l) = acc ++ l := by
  induction l generalizing acc with
  | nil => simp [wordsFrom, joinL]
  | cons c l ih =>
    simp only [wordsFrom]
    split
    · rename_i h
      rw [joinL_cons _ _ (wordsFrom_ne _ _), ih, h]
      simp
    · rw [ih]
      simp
theorem joinL_wordsL (l : List UInt8) : joinL (wordsL l) = l := joinL_wordsFrom [] l
theorem wordsL_joinL (ws : List (List UInt8)) (h0 : ws ≠ []) (h : ∀ w ∈ ws, ∀ c ∈ w, c ≠ 32) : wordsL (joinL ws) = ws := by
  induction ws with
  | nil => exact absurd rfl h0
  | cons w r ih =>
    by_cases hr : r = []
    · subst hr
      exact wordsL_none w (h w List.mem_cons_self)
    · rw [joinL_cons _ _ hr, wordsL_some _ _ (h w List.mem_cons_self), ih hr fun v hv => h v (List.mem_cons_of_mem _ hv)]
theorem wordsFrom_len (acc l : List UInt8) (N : Nat) (h : acc.length + l.length ≤ N) : ∀ w ∈ wordsFrom acc l, w.length ≤ N := by
  induction l generalizing acc with
  | nil => intro w hw; simp only [wordsFrom, List.mem_singleton] at hw; subst hw; simpa using h
  | cons c l ih =>
    simp only [List.length_cons] at h
    simp only [wordsFrom]
    split
    · intro w hw
      rcases List.mem_cons.1 hw with rfl | hw
      · omega
      · exact ih [] (by simp; omega) w hw
    · exact ih _ (by simp; omega)
theorem wordsFrom_count (acc l : List UInt8) : (wordsFrom acc l).length ≤ l.length + 1 := by
  induction l generalizing acc with
  | nil => simp [wordsFrom]
  | cons c l ih =>
    simp only [wordsFrom]
    split
    · have := ih []
      simp only [List.length_cons]
      omega
    · have := ih (acc ++ [c])
      simp only [List.length_cons]
      omega
/-- strings.Split at a blank. -/
theorem splitK_words (n : Nat) : ∀ l : List UInt8, l.length ≤ n → splitK [32] 0 (count l [32]) l = wordsL l := by
  induction n with
  | zero =>
    intro l hl
    obtain rfl : l = [] := List.eq_nil_of_length_eq_zero (by omega)
    rfl
  | succ n ih =>
    intro l hl
    have hi := index_one l 32
    by_cases hm : indexByte l 32 = -1
    · rw [hm] at hi
      rw [count_miss hi]
      simp only [splitK]
      refine (wordsL_none l fun c hc e => ?_).symm
      subst e
      obtain ⟨k, hk⟩ := List.mem_iff_getElem?.1 hc
      exact indexByte_none hm k hk
    · obtain ⟨i, hio⟩ : ∃ i : Nat, indexByte l 32 = i := ⟨(indexByte l 32).toNat, by have := indexByte_ge l 32; omega⟩
      rw [hio] at hi
      obtain ⟨h1, h2⟩ := indexByte_some hio
      rw [count_hit (by simp) hi, Nat.add_comm 1]
      simp only [splitK]
      rw [if_neg (by rw [hi]; simp), hi]
      simp only [Int.toNat_natCast, Nat.add_zero, List.length_singleton]
      have hlt : i < l.length := (List.getElem?_eq_some_iff.1 h1).1
      rw [ih _ (by rw [List.length_drop]; omega)]
      have hsp : l = l.take i ++ 32 :: l.drop (i + 1) := by
        have e := List.drop_eq_getElem_cons hlt
        rw [(List.getElem?_eq_some_iff.1 h1).2] at e
        rw [← e, List.take_append_drop]
      have hno : ∀ c ∈ l.take i, c ≠ 32 := by
        intro c hc e
        subst e
        obtain ⟨k, hk⟩ := List.mem_iff_getElem?.1 hc
        have hki : k < i := by
          have := (List.getElem?_eq_some_iff.1 hk).1
          rw [List.length_take] at this
          omega
        rw [List.getElem?_take_of_lt hki] at hk
        exact h2 k hki hk
      have := wordsL_some (l.take i) (l.drop (i + 1)) hno
      rw [← hsp] at this
      exact this.symm
def blank : ByteArray := ⟨#[32]⟩
theorem split_words (s : ByteArray) : (splitB blank 0 (countB s blank) s).map (·.data.toList) = wordsL s.data.toList := by
  rw [splitB_data]
  exact splitK_words _ _ (Nat.le_refl _)
theorem count_words (n : Nat) : ∀ l : List UInt8, l.length ≤ n → (splitK [32] 0 (count l [32]) l).length = count l [32] + 1 := by
  induction n with
  | zero =>
    intro l hl
    obtain rfl : l = [] := List.eq_nil_of_length_eq_zero (by omega)
    rfl
  | succ n ih =>
    intro l hl
    have hi := index_one l 32
    by_cases hm : indexByte l 32 = -1
    · rw [hm] at hi
      rw [count_miss hi]
      rfl
    · obtain ⟨i, hio⟩ : ∃ i : Nat, indexByte l 32 = i := ⟨(indexByte l 32).toNat, by have := indexByte_ge l 32; omega⟩
      rw [hio] at hi
      have hlt : i < l.length := (List.getElem?_eq_some_iff.1 (indexByte_some hio).1).1
      rw [count_hit (by simp) hi, Nat.add_comm 1]
      simp only [splitK]
      rw [if_neg (by rw [hi]; simp), hi]
      simp only [Int.toNat_natCast, List.length_cons, List.length_nil, Nat.zero_add]
      rw [ih _ (by rw [List.length_drop]; omega)]
theorem split_len (s : ByteArray) : (splitB blank 0 (countB s blank) s).length = countB s blank + 1 := by
  have h := congrArg List.length (splitB_data blank 0 (countB s blank) s)
  rw [List.length_map] at h
  rw [h]
  exact count_words _ _ (Nat.le_refl _)
end Go.Proofs.YtehhgpnaemffnaaDoor
