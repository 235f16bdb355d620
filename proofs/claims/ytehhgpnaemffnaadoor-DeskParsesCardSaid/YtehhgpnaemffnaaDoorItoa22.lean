/- Numbers as text, and back: what desk and the document read of them. -/
import Derived.Test.YtehhgpnaemffnaaDoorParseR22
namespace Go.Proofs.YtehhgpnaemffnaaDoor
open Go.RowKit

theorem dec_step (u : Nat) (h : 10 ≤ u) : Lib.decDigits u = Lib.decDigits (u / 10) ++ [UInt8.ofNat (48 + u % 10)] := by
  rw [Lib.decDigits, dif_neg (by omega)]
theorem dig_toNat (d : Nat) (h : d < 10) : (UInt8.ofNat (48 + d)).toNat = 48 + d := by
  simp
  omega
theorem dec_digits (u : Nat) : ∀ c ∈ Lib.decDigits u, 48 ≤ c.toNat ∧ c.toNat ≤ 57 := by
  induction u using Nat.strongRecOn with
  | _ u ih =>
    by_cases h : u < 10
    · rw [Lib.decDigits_one h]
      intro c hc
      simp only [List.mem_cons, List.not_mem_nil, or_false] at hc
      rw [hc, dig_toNat u h]
      omega
    · rw [dec_step u (by omega)]
      intro c hc
      rcases List.mem_append.1 hc with hc | hc
      · exact ih (u / 10) (by omega) c hc
      · simp only [List.mem_cons, List.not_mem_nil, or_false] at hc
        rw [hc, dig_toNat _ (by omega)]
        omega
theorem dec_ne (u : Nat) : Lib.decDigits u ≠ [] := by
  by_cases h : u < 10
  · rw [Lib.decDigits_one h]; simp
  · rw [dec_step u (by omega)]; simp
theorem itoa_no32 (n : Int) : ∀ c ∈ Lib.itoa n, c ≠ 32 := by
  have hd : ∀ u : Nat, ∀ c ∈ Lib.decDigits u, c ≠ 32 := by
    intro u c hc e
    have := dec_digits u c hc
    rw [e] at this
    simp at this
  unfold Lib.itoa
  split
  · intro c hc
    rcases List.mem_cons.1 hc with rfl | hc
    · decide
    · exact hd _ c hc
  · exact hd _
theorem dec_len (k : Nat) : ∀ u : Nat, u < 10 ^ k → 1 ≤ k → (Lib.decDigits u).length ≤ k := by
  induction k with
  | zero => intro u _ h; omega
  | succ k ih =>
    intro u hu _
    by_cases h : u < 10
    · rw [Lib.decDigits_one h]; simp
    · rw [dec_step u (by omega), List.length_append, List.length_singleton]
      have hk : 1 ≤ k := by
        cases k with
        | zero => simp at hu; omega
        | succ k => omega
      have h10 : 10 ^ (k + 1) = 10 * 10 ^ k := by rw [Nat.pow_succ, Nat.mul_comm]
      have := ih (u / 10) (by omega) hk
      omega
theorem itoa_len8 (n : Int) (h0 : -1000000 ≤ n) (h1 : n ≤ 1000000) : (Lib.itoa n).length ≤ 8 := by
  unfold Lib.itoa
  split
  · rw [List.length_cons]
    have := dec_len 7 n.natAbs (by omega) (by omega)
    omega
  · have := dec_len 7 n.toNat (by omega) (by omega)
    omega
theorem pu_app (a b : List UInt8) : ∀ (acc u : Nat), Lib.parseUint10 acc a = .ok u → Lib.parseUint10 acc (a ++ b) = Lib.parseUint10 u b := by
  induction a with
  | nil => intro acc u h; simp only [Lib.parseUint10] at h; injection h with h; rw [h]; rfl
  | cons c r ih =>
    intro acc u h
    simp only [Lib.parseUint10, List.cons_append] at h ⊢
    split at h
    · rename_i h1
      rw [if_pos h1]
      split at h
      · cases h
      · rename_i h2
        rw [if_neg h2]
        split at h
        · cases h
        · rename_i h3
          rw [if_neg h3]
          exact ih _ u h
    · cases h
theorem pu_dec (u : Nat) : u < 10 ^ 18 → Lib.parseUint10 0 (Lib.decDigits u) = .ok u := by
  induction u using Nat.strongRecOn with
  | _ u ih =>
    intro hu
    by_cases h : u < 10
    · rw [Lib.decDigits_one h]
      simp only [Lib.parseUint10, dig_toNat u h]
      rw [if_pos (by omega), if_neg (by omega), if_neg (by omega)]
      congr 1
      omega
    · rw [dec_step u (by omega), pu_app _ _ 0 (u / 10) (ih (u / 10) (by omega) (by omega))]
      simp only [Lib.parseUint10, dig_toNat (u % 10) (by omega)]
      rw [if_pos (by omega), if_neg (by omega), if_neg (by omega)]
      congr 1
      omega
theorem atoi_itoa (n : Int) (h0 : -1000000 ≤ n) (h1 : n ≤ 1000000) : Lib.atoiAll (Lib.itoa n) = .ok n := by
  unfold Lib.itoa
  split
  · rename_i hn
    simp only [Lib.atoiAll]
    have e : (if (45 : UInt8).toNat = 43 ∨ (45 : UInt8).toNat = 45 then Lib.decDigits n.natAbs else 45 :: Lib.decDigits n.natAbs) = Lib.decDigits n.natAbs := if_pos (by decide)
    rw [e]
    unfold Lib.parseMag
    rw [if_neg (dec_ne _), pu_dec _ (by omega)]
    simp only
    rw [if_neg (by simp), if_neg (by omega), if_pos (by decide)]
    congr 1
    omega
  · rename_i hn
    obtain ⟨u, rfl⟩ : ∃ u : Nat, n = u := ⟨n.toNat, by omega⟩
    rw [Int.toNat_natCast]
    cases hd : Lib.decDigits u with
    | nil => exact absurd hd (dec_ne u)
    | cons c r =>
      have hc := dec_digits u c (by rw [hd]; exact List.mem_cons_self)
      simp only [Lib.atoiAll]
      rw [if_neg (show ¬ (c.toNat = 43 ∨ c.toNat = 45) by omega), ← hd]
      unfold Lib.parseMag
      rw [if_neg (dec_ne _), pu_dec _ (by omega)]
      simp only
      rw [if_neg (by omega), if_neg (by omega), if_neg (by omega)]
theorem numV_itoa (n low : Int) (h0 : -1000000 ≤ n) (h1 : n ≤ 1000000) (hl : low ≤ n) : numV (Lib.itoa n) low = some n := by
  unfold numV
  rw [atoi_itoa n h0 h1]
  exact if_pos ⟨itoa_len8 n h0 h1, hl, h1, rfl⟩
theorem numV_inv {w : List UInt8} {low n : Int} (h : numV w low = some n) : Lib.itoa n = w ∧ low ≤ n ∧ n ≤ 1000000 := by
  unfold numV at h
  split at h
  · split at h
    · rename_i hc
      obtain rfl := Option.some.inj h
      exact ⟨hc.2.2.2, hc.2.1, hc.2.2.1⟩
    · cases h
  · cases h
theorem numD_pre (a b : List UInt8) : ∀ k, k ≤ a.length → numD (a ++ b) k = numD a k
  | 0, _ => rfl
  | k + 1, h => by
    simp only [numD]
    rw [List.getElem?_append_left (by omega), numD_pre a b k (by omega)]
theorem numD_dec (u : Nat) : numD (Lib.decDigits u) (Lib.decDigits u).length = (u, false) := by
  induction u using Nat.strongRecOn with
  | _ u ih =>
    by_cases h : u < 10
    · rw [Lib.decDigits_one h]
      show numD [UInt8.ofNat (48 + u)] (0 + 1) = _
      simp only [numD, List.getElem?_cons_zero, dig_toNat u h]
      rw [if_pos (by omega)]
      have : (UInt8.ofNat (48 + u) == 45) = false := by
        simp only [beq_eq_false_iff_ne, ne_eq]
        intro e
        have := congrArg UInt8.toNat e
        rw [dig_toNat u h] at this
        simp at this
        omega
      rw [this]
      simp
    · rw [dec_step u (by omega), List.length_append, List.length_singleton]
      simp only [numD]
      rw [List.getElem?_append_right (Nat.le_refl _), Nat.sub_self, List.getElem?_cons_zero, numD_pre _ _ _ (Nat.le_refl _), ih (u / 10) (by omega)]
      simp only [dig_toNat (u % 10) (by omega)]
      rw [if_pos (by omega)]
      have : (UInt8.ofNat (48 + u % 10) == 45) = false := by
        simp only [beq_eq_false_iff_ne, ne_eq]
        intro e
        have := congrArg UInt8.toNat e
        rw [dig_toNat _ (by omega)] at this
        simp at this
        omega
      rw [this]
      simp
      omega
theorem numD_neg (ds : List UInt8) : ∀ k, numD (45 :: ds) (k + 1) = ((numD ds k).1, true)
  | 0 => by
    simp only [numD, List.getElem?_cons_zero]
    rfl
  | k + 1 => by
    have ih := numD_neg ds k
    show numD (45 :: ds) ((k + 1) + 1) = _
    rw [numD, List.getElem?_cons_succ, ih]
    conv => rhs; rw [numD]
    cases ds[k]? with
    | none => rfl
    | some c => simp
theorem numR_itoa (n : Int) (h0 : -1000000 ≤ n) (h1 : n ≤ 1000000) : numR (Lib.itoa n) = n := by
  have h8 := itoa_len8 n h0 h1
  unfold numR
  unfold Lib.itoa at h8 ⊢
  split at h8
  · rename_i hn
    rw [if_pos hn, show 9 = 8 + 1 from rfl, numD_neg]
    rw [List.length_cons] at h8
    have e := numD_end (Lib.decDigits n.natAbs) _ (Nat.le_refl _) (8 - (Lib.decDigits n.natAbs).length)
    rw [show (Lib.decDigits n.natAbs).length + (8 - (Lib.decDigits n.natAbs).length) = 8 by omega] at e
    rw [e, numD_dec]
    simp
    omega
  · rename_i hn
    rw [if_neg hn]
    have e := numD_end (Lib.decDigits n.toNat) _ (Nat.le_refl _) (9 - (Lib.decDigits n.toNat).length)
    rw [show (Lib.decDigits n.toNat).length + (9 - (Lib.decDigits n.toNat).length) = 9 by omega] at e
    rw [e, numD_dec]
    simp
    omega
/-- A word and numbers: their words. -/
def itoaB (n : Int) : ByteArray := ⟨(Lib.itoa n).toArray⟩
theorem joinL_nums (w : List UInt8) (ns : List Int) (tl : List (List UInt8)) : joinL (w :: (ns.map Lib.itoa ++ tl)) = w ++ numsL ns ++ (tl.flatMap fun t => 32 :: t) := by
  induction ns generalizing w with
  | nil =>
    simp only [List.map_nil, List.nil_append, numsL, List.flatMap_nil, List.append_nil]
    induction tl generalizing w with
    | nil => simp [joinL]
    | cons t tl ih =>
      rw [joinL_cons _ _ (by simp), ih]
      simp
  | cons n ns ih =>
    rw [List.map_cons, List.cons_append, joinL_cons _ _ (by simp), ih]
    simp [numsL]
theorem words_nums (nm : ByteArray) (hn : ∀ c ∈ nm.data.toList, c ≠ 32) (ns : List Int) : wsB (nm ++ numsB ns) = nm :: ns.map itoaB := by
  have h1 : (nm ++ numsB ns).data.toList = joinL (nm.data.toList :: (ns.map Lib.itoa ++ [])) := by
    rw [joinL_nums]
    simp [numsB]
  unfold wsB
  rw [h1, wordsL_joinL _ (by simp) (by
    intro w hw c hc
    simp only [List.append_nil, List.mem_cons, List.mem_map] at hw
    rcases hw with rfl | ⟨n, _, rfl⟩
    · exact hn c hc
    · exact itoa_no32 n c hc)]
  simp only [List.append_nil, List.map_cons, List.map_map]
  congr 1
theorem words_now (nm : ByteArray) (hn : ∀ c ∈ nm.data.toList, c ≠ 32) (ns : List Int) : wsB (nm ++ numsB ns ++ behindNow) = nm :: (ns.map itoaB ++ [nmNow]) := by
  have h1 : (nm ++ numsB ns ++ behindNow).data.toList = joinL (nm.data.toList :: (ns.map Lib.itoa ++ [[110, 111, 119]])) := by
    rw [joinL_nums]
    simp [numsB, behindNow]
  unfold wsB
  rw [h1, wordsL_joinL _ (by simp) (by
    intro w hw c hc
    simp only [List.mem_cons, List.mem_append, List.mem_map, List.not_mem_nil, or_false] at hw
    rcases hw with rfl | ⟨n, _, rfl⟩ | rfl
    · exact hn c hc
    · exact itoa_no32 n c hc
    · simp only [List.mem_cons, List.not_mem_nil, or_false] at hc
      rcases hc with rfl | rfl | rfl <;> decide)]
  simp only [List.map_cons, List.map_append, List.map_map, List.map_nil]
  congr 1
/-- Back from the words. -/
theorem of_words {s nm : ByteArray} {ns : List Int} (h : wsB s = nm :: ns.map itoaB) : s = nm ++ numsB ns := by
  have h1 : (wsB s).map (·.data.toList) = wordsL s.data.toList := by
    unfold wsB
    rw [List.map_map]
    conv => rhs; rw [← List.map_id (wordsL s.data.toList)]
    rfl
  apply ba_ext
  rw [← joinL_wordsL s.data.toList, ← h1, h, List.map_cons, List.map_map]
  have := joinL_nums nm.data.toList ns []
  rw [List.append_nil] at this
  have e : ((fun x : ByteArray => x.data.toList) ∘ itoaB) = Lib.itoa := by
    funext n
    simp [itoaB]
  rw [e, this]
  simp [numsB]
theorem of_words_now {s nm : ByteArray} {ns : List Int} (h : wsB s = nm :: (ns.map itoaB ++ [nmNow])) : s = nm ++ numsB ns ++ behindNow := by
  have h1 : (wsB s).map (·.data.toList) = wordsL s.data.toList := by
    unfold wsB
    rw [List.map_map]
    conv => rhs; rw [← List.map_id (wordsL s.data.toList)]
    rfl
  apply ba_ext
  rw [← joinL_wordsL s.data.toList, ← h1, h, List.map_cons, List.map_append, List.map_map]
  have := joinL_nums nm.data.toList ns [[110, 111, 119]]
  have e : ((fun x : ByteArray => x.data.toList) ∘ itoaB) = Lib.itoa := by
    funext n
    simp [itoaB]
  rw [e, show List.map (fun x : ByteArray => x.data.toList) [nmNow] = [[110, 111, 119]] from rfl, this]
  simp [numsB, behindNow]
end Go.Proofs.YtehhgpnaemffnaaDoor
