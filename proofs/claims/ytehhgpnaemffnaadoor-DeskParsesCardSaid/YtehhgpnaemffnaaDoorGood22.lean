/- desk's Parse and the document's: the same. -/
import Derived.Test.YtehhgpnaemffnaaDoorItoa22
namespace Go.Proofs.YtehhgpnaemffnaaDoor
open Go.RowKit

def Canon (k node n client ok h i nn kk v t : Int) : Prop :=
  (k = 1 ∧ n = 0 ∧ client = 0 ∧ ok = 0 ∧ h = 0 ∧ i = 0 ∧ nn = 0 ∧ kk = 0 ∧ v = 0 ∧ t = 0) ∨
  (k = 8 ∧ n = 0 ∧ client = 0 ∧ ok = 0 ∧ h = 0 ∧ i = 0 ∧ nn = 0 ∧ kk = 0 ∧ v = 0 ∧ t = 0) ∨
  (k = 2 ∧ node = 0 ∧ client = 0 ∧ ok = 0 ∧ h = 0 ∧ i = 0 ∧ nn = 0 ∧ kk = 0 ∧ v = 0 ∧ t = 0) ∨
  (k = 3 ∧ node = 0 ∧ client = 0 ∧ ok = 0 ∧ h = 0 ∧ i = 0 ∧ nn = 0 ∧ kk = 0 ∧ v = 0 ∧ t = 0) ∨
  (k = 4 ∧ node = 0 ∧ client = 0 ∧ ok = 0 ∧ h = 0 ∧ i = 0 ∧ nn = 0 ∧ kk = 0 ∧ v = 0 ∧ t = 0) ∨
  (k = 6 ∧ node = 0 ∧ n = 0 ∧ ok = 0 ∧ h = 0 ∧ i = 0 ∧ nn = 0 ∧ kk = 0 ∧ v = 0 ∧ t = 0) ∨
  (k = 7 ∧ client = 0 ∧ ok = 0 ∧ h = 0 ∧ i = 0 ∧ nn = 0 ∧ kk = 0 ∧ v = 0 ∧ t = 0) ∨
  (k = 5 ∧ ok = 1 ∧ node = 0 ∧ n = 0 ∧ h = 0 ∧ i = 0 ∧ v = 0 ∧ t = 0) ∨
  (k = 5 ∧ ok = 2 ∧ node = 0 ∧ n = 0 ∧ i = 0 ∧ nn = 0 ∧ kk = 0 ∧ v = 0 ∧ t = 0) ∨
  (k = 5 ∧ ok = 3 ∧ node = 0 ∧ n = 0 ∧ nn = 0 ∧ kk = 0 ∧ t = 0) ∨
  (k = 5 ∧ ok = 4 ∧ node = 0 ∧ n = 0 ∧ nn = 0 ∧ kk = 0 ∧ v = 0) ∨
  (k = 5 ∧ ok = 5 ∧ node = 0 ∧ n = 0 ∧ h = 0 ∧ nn = 0 ∧ kk = 0 ∧ v = 0) ∨
  (k = 5 ∧ ok = 6 ∧ node = 0 ∧ n = 0 ∧ nn = 0 ∧ kk = 0 ∧ v = 0 ∧ t = 0) ∨
  (k = 5 ∧ ok = 7 ∧ node = 0 ∧ n = 0 ∧ nn = 0 ∧ kk = 0 ∧ v = 0 ∧ t = 0) ∨
  (k = 5 ∧ ok = 8 ∧ node = 0 ∧ n = 0 ∧ h = 0 ∧ nn = 0 ∧ kk = 0 ∧ v = 0 ∧ t = 0)
def Good (s : ByteArray) (k node n client ok h i nn kk v t : Int) : Prop := Canon k node n client ok h i nn kk v t ∧ FieldsP k node n client ok h i nn kk v t ∧ textB k node n client ok h i nn kk v t = s
theorem text_of_tick {k node n client ok h i nn kk v t : Int} (hk : k = 1) : textB k node n client ok h i nn kk v t = nmTick ++ numsB [node] := by
  unfold textB
  rw [if_pos hk]
theorem text_of_start {k node n client ok h i nn kk v t : Int} (hk : k = 8) : textB k node n client ok h i nn kk v t = nmStart ++ numsB [node] := by
  unfold textB
  rw [if_neg (by omega)]
  rw [if_pos hk]
theorem text_of_deliver {k node n client ok h i nn kk v t : Int} (hk : k = 2) : textB k node n client ok h i nn kk v t = nmDeliver ++ numsB [n] := by
  unfold textB
  rw [if_neg (by omega)]
  rw [if_neg (by omega)]
  rw [if_pos hk]
theorem text_of_drop {k node n client ok h i nn kk v t : Int} (hk : k = 3) : textB k node n client ok h i nn kk v t = nmDrop ++ numsB [n] := by
  unfold textB
  rw [if_neg (by omega)]
  rw [if_neg (by omega)]
  rw [if_neg (by omega)]
  rw [if_pos hk]
theorem text_of_double {k node n client ok h i nn kk v t : Int} (hk : k = 4) : textB k node n client ok h i nn kk v t = nmDouble ++ numsB [n] := by
  unfold textB
  rw [if_neg (by omega)]
  rw [if_neg (by omega)]
  rw [if_neg (by omega)]
  rw [if_neg (by omega)]
  rw [if_pos hk]
theorem text_of_retry {k node n client ok h i nn kk v t : Int} (hk : k = 6) : textB k node n client ok h i nn kk v t = nmRetry ++ numsB [client] := by
  unfold textB
  rw [if_neg (by omega)]
  rw [if_neg (by omega)]
  rw [if_neg (by omega)]
  rw [if_neg (by omega)]
  rw [if_neg (by omega)]
  rw [if_pos hk]
theorem text_of_now {k node n client ok h i nn kk v t : Int} (hk : k = 7) (hn : n < 0) : textB k node n client ok h i nn kk v t = nmCrash ++ numsB [node] ++ behindNow := by
  unfold textB
  rw [if_neg (by omega)]
  rw [if_neg (by omega)]
  rw [if_neg (by omega)]
  rw [if_neg (by omega)]
  rw [if_neg (by omega)]
  rw [if_neg (by omega)]
  rw [if_neg (by omega)]
  rw [if_pos hk]
  rw [if_pos hn]
theorem text_of_crash {k node n client ok h i nn kk v t : Int} (hk : k = 7) (hn : ¬ n < 0) : textB k node n client ok h i nn kk v t = nmCrash ++ numsB [node, n] := by
  unfold textB
  rw [if_neg (by omega)]
  rw [if_neg (by omega)]
  rw [if_neg (by omega)]
  rw [if_neg (by omega)]
  rw [if_neg (by omega)]
  rw [if_neg (by omega)]
  rw [if_neg (by omega)]
  rw [if_pos hk]
  rw [if_neg hn]
theorem text_of_alloc {k node n client ok h i nn kk v t : Int} (hk : k = 5) (ho : ok = 1) : textB k node n client ok h i nn kk v t = nmAlloc ++ numsB [client, nn, kk] := by
  unfold textB
  rw [if_neg (by omega)]
  rw [if_neg (by omega)]
  rw [if_neg (by omega)]
  rw [if_neg (by omega)]
  rw [if_neg (by omega)]
  rw [if_neg (by omega)]
  rw [if_pos hk]
  unfold callB
  rw [if_pos ho]
theorem text_of_free {k node n client ok h i nn kk v t : Int} (hk : k = 5) (ho : ok = 2) : textB k node n client ok h i nn kk v t = nmFree ++ numsB [client, h] := by
  unfold textB
  rw [if_neg (by omega)]
  rw [if_neg (by omega)]
  rw [if_neg (by omega)]
  rw [if_neg (by omega)]
  rw [if_neg (by omega)]
  rw [if_neg (by omega)]
  rw [if_pos hk]
  unfold callB
  rw [if_neg (by omega)]
  rw [if_pos ho]
theorem text_of_write {k node n client ok h i nn kk v t : Int} (hk : k = 5) (ho : ok = 3) : textB k node n client ok h i nn kk v t = nmWrite ++ numsB [client, h, i, v] := by
  unfold textB
  rw [if_neg (by omega)]
  rw [if_neg (by omega)]
  rw [if_neg (by omega)]
  rw [if_neg (by omega)]
  rw [if_neg (by omega)]
  rw [if_neg (by omega)]
  rw [if_pos hk]
  unfold callB
  rw [if_neg (by omega)]
  rw [if_neg (by omega)]
  rw [if_pos ho]
theorem text_of_link {k node n client ok h i nn kk v t : Int} (hk : k = 5) (ho : ok = 4) : textB k node n client ok h i nn kk v t = nmLink ++ numsB [client, h, i, t] := by
  unfold textB
  rw [if_neg (by omega)]
  rw [if_neg (by omega)]
  rw [if_neg (by omega)]
  rw [if_neg (by omega)]
  rw [if_neg (by omega)]
  rw [if_neg (by omega)]
  rw [if_pos hk]
  unfold callB
  rw [if_neg (by omega)]
  rw [if_neg (by omega)]
  rw [if_neg (by omega)]
  rw [if_pos ho]
theorem text_of_root {k node n client ok h i nn kk v t : Int} (hk : k = 5) (ho : ok = 5) : textB k node n client ok h i nn kk v t = nmRoot ++ numsB [client, i, t] := by
  unfold textB
  rw [if_neg (by omega)]
  rw [if_neg (by omega)]
  rw [if_neg (by omega)]
  rw [if_neg (by omega)]
  rw [if_neg (by omega)]
  rw [if_neg (by omega)]
  rw [if_pos hk]
  unfold callB
  rw [if_neg (by omega)]
  rw [if_neg (by omega)]
  rw [if_neg (by omega)]
  rw [if_neg (by omega)]
  rw [if_pos ho]
theorem text_of_read {k node n client ok h i nn kk v t : Int} (hk : k = 5) (ho : ok = 6) : textB k node n client ok h i nn kk v t = nmRead ++ numsB [client, h, i] := by
  unfold textB
  rw [if_neg (by omega)]
  rw [if_neg (by omega)]
  rw [if_neg (by omega)]
  rw [if_neg (by omega)]
  rw [if_neg (by omega)]
  rw [if_neg (by omega)]
  rw [if_pos hk]
  unfold callB
  rw [if_neg (by omega)]
  rw [if_neg (by omega)]
  rw [if_neg (by omega)]
  rw [if_neg (by omega)]
  rw [if_neg (by omega)]
  rw [if_pos ho]
theorem text_of_follow {k node n client ok h i nn kk v t : Int} (hk : k = 5) (ho : ok = 7) : textB k node n client ok h i nn kk v t = nmFollow ++ numsB [client, h, i] := by
  unfold textB
  rw [if_neg (by omega)]
  rw [if_neg (by omega)]
  rw [if_neg (by omega)]
  rw [if_neg (by omega)]
  rw [if_neg (by omega)]
  rw [if_neg (by omega)]
  rw [if_pos hk]
  unfold callB
  rw [if_neg (by omega)]
  rw [if_neg (by omega)]
  rw [if_neg (by omega)]
  rw [if_neg (by omega)]
  rw [if_neg (by omega)]
  rw [if_neg (by omega)]
  rw [if_pos ho]
theorem text_of_top {k node n client ok h i nn kk v t : Int} (hk : k = 5) (ho : ok = 8) : textB k node n client ok h i nn kk v t = nmTop ++ numsB [client, i] := by
  unfold textB
  rw [if_neg (by omega)]
  rw [if_neg (by omega)]
  rw [if_neg (by omega)]
  rw [if_neg (by omega)]
  rw [if_neg (by omega)]
  rw [if_neg (by omega)]
  rw [if_pos hk]
  unfold callB
  rw [if_neg (by omega)]
  rw [if_neg (by omega)]
  rw [if_neg (by omega)]
  rw [if_neg (by omega)]
  rw [if_neg (by omega)]
  rw [if_neg (by omega)]
  rw [if_neg (by omega)]
  rw [if_pos ho]
theorem RelN.inv {st : Option (List ByteArray)} {low n : Int} {r : List ByteArray} (h : RelN st low n (some r)) : st = some (itoaB n :: r) ∧ low ≤ n ∧ n ≤ 1000000 := by
  unfold RelN numS at h
  cases hw : wordS st with
  | none => rw [hw] at h; cases h
  | some x =>
    obtain ⟨a, q⟩ := x
    rw [hw] at h
    simp only at h
    cases hv : numV a.data.toList low with
    | none => rw [hv] at h; cases h
    | some m =>
      rw [hv] at h
      obtain ⟨h1, h2⟩ := h
      obtain ⟨e1, e2, e3⟩ := numV_inv hv
      have hq : r = q := Option.some.inj h2
      have hst : st = some (a :: q) := by
        cases st with
        | none => cases hw
        | some l =>
          cases l with
          | nil => cases hw
          | cons b l =>
            simp only [wordS, Option.some.injEq, Prod.mk.injEq] at hw
            rw [hw.1, hw.2]
      rw [hst, hq, h1]
      refine ⟨?_, e2, e3⟩
      rw [show itoaB m = a from ba_ext (by simp [itoaB, e1])]
theorem RelN.fwd {n low n' : Int} {r : List ByteArray} {st' : Option (List ByteArray)} (h : RelN (some (itoaB n :: r)) low n' st') (h0 : -1000000 ≤ n) (h1 : n ≤ 1000000) (hl : low ≤ n) : n' = n ∧ st' = some r := by
  unfold RelN numS at h
  simp only [wordS] at h
  rw [show (itoaB n).data.toList = Lib.itoa n by simp [itoaB], numV_itoa n low h0 h1 hl] at h
  exact h
theorem nth1 (a b : ByteArray) (r : List ByteArray) : nth (a :: b :: r) 1 = numR b.data.toList := rfl
theorem nth2 (a b c : ByteArray) (r : List ByteArray) : nth (a :: b :: c :: r) 2 = numR c.data.toList := rfl
theorem nth3 (a b c d : ByteArray) (r : List ByteArray) : nth (a :: b :: c :: d :: r) 3 = numR d.data.toList := rfl
theorem nth4 (a b c d e : ByteArray) (r : List ByteArray) : nth (a :: b :: c :: d :: e :: r) 4 = numR e.data.toList := rfl
theorem numR_B (n : Int) (h0 : -1000000 ≤ n) (h1 : n ≤ 1000000) : numR (itoaB n).data.toList = n := by
  rw [show (itoaB n).data.toList = Lib.itoa n by simp [itoaB]]
  exact numR_itoa n h0 h1
theorem relW_words {s s0 : ByteArray} {st1 : Option (List ByteArray)} (h : RelW (some (wsB s)) s0 st1) : ∃ r, wsB s = s0 :: r ∧ st1 = some r := by
  obtain ⟨a, ha⟩ := wsB_ne s
  cases hw : wsB s with
  | nil => rw [hw] at ha; cases ha
  | cons b r =>
    rw [hw] at h
    obtain ⟨h1, h2⟩ := h
    exact ⟨r, by rw [h1], h2⟩
theorem itoaB_now (n : Int) : itoaB n ≠ nmNow := by
  intro e
  have h := congrArg (fun b : ByteArray => b.data.toList) e
  simp only [itoaB] at h
  have h2 : Lib.itoa n = [110, 111, 119] := h
  have h3 : ∀ u : Nat, Lib.decDigits u ≠ [110, 111, 119] := by
    intro u e
    have := dec_digits u 110 (by rw [e]; simp)
    simp at this
  unfold Lib.itoa at h2
  split at h2
  · simp at h2
  · exact h3 _ h2
set_option maxHeartbeats 1600000 in
theorem parse_sound {s s0 : ByteArray} {st1 : Option (List ByteArray)} {k node n client ok h i nn kk v t : Int} (hw : RelW (some (wsB s)) s0 st1) (ha : ActRel s0 st1 k node n client ok h i nn kk v t (some [])) : Good s k node n client ok h i nn kk v t := by
  obtain ⟨r, hws, rfl⟩ := relW_words hw
  unfold ActRel at ha
  rcases ha with ha | ha | ha | ha | ha | ha | ha | ha
  · obtain ⟨hs, hk, hr, z0, z1, z2, z3, z4, z5, z6, z7, z8⟩ := ha
    obtain ⟨hr, l1, l2⟩ := hr.inv
    obtain rfl := Option.some.inj hr
    have hx := of_words (nm := s0) (ns := [node]) hws
    rw [hs] at hx
    refine ⟨(.inl ⟨by omega, by omega, by omega, by omega, by omega, by omega, by omega, by omega, by omega, by omega⟩), ?_, ?_⟩
    · refine ⟨?_, ?_, by omega, by omega⟩
      · intro x hx
        simp only [List.mem_cons, List.not_mem_nil, or_false] at hx
        rcases hx with hx | hx | hx | hx | hx | hx | hx <;> exact ⟨by omega, by omega⟩
      · exact .inl ⟨by omega, by omega⟩
    · rw [text_of_tick hk, hx]
  · obtain ⟨hs, hk, hr, z0, z1, z2, z3, z4, z5, z6, z7, z8⟩ := ha
    obtain ⟨hr, l1, l2⟩ := hr.inv
    obtain rfl := Option.some.inj hr
    have hx := of_words (nm := s0) (ns := [node]) hws
    rw [hs] at hx
    refine ⟨(.inr (.inl ⟨by omega, by omega, by omega, by omega, by omega, by omega, by omega, by omega, by omega, by omega⟩)), ?_, ?_⟩
    · refine ⟨?_, ?_, by omega, by omega⟩
      · intro x hx
        simp only [List.mem_cons, List.not_mem_nil, or_false] at hx
        rcases hx with hx | hx | hx | hx | hx | hx | hx <;> exact ⟨by omega, by omega⟩
      · exact .inl ⟨by omega, by omega⟩
    · rw [text_of_start hk, hx]
  · obtain ⟨hs, hk, hr, z0, z1, z2, z3, z4, z5, z6, z7, z8⟩ := ha
    obtain ⟨hr, l1, l2⟩ := hr.inv
    obtain rfl := Option.some.inj hr
    have hx := of_words (nm := s0) (ns := [n]) hws
    rw [hs] at hx
    refine ⟨(.inr (.inr (.inl ⟨by omega, by omega, by omega, by omega, by omega, by omega, by omega, by omega, by omega, by omega⟩))), ?_, ?_⟩
    · refine ⟨?_, ?_, by omega, by omega⟩
      · intro x hx
        simp only [List.mem_cons, List.not_mem_nil, or_false] at hx
        rcases hx with hx | hx | hx | hx | hx | hx | hx <;> exact ⟨by omega, by omega⟩
      · exact .inl ⟨by omega, by omega⟩
    · rw [text_of_deliver hk, hx]
  · obtain ⟨hs, hk, hr, z0, z1, z2, z3, z4, z5, z6, z7, z8⟩ := ha
    obtain ⟨hr, l1, l2⟩ := hr.inv
    obtain rfl := Option.some.inj hr
    have hx := of_words (nm := s0) (ns := [n]) hws
    rw [hs] at hx
    refine ⟨(.inr (.inr (.inr (.inl ⟨by omega, by omega, by omega, by omega, by omega, by omega, by omega, by omega, by omega, by omega⟩)))), ?_, ?_⟩
    · refine ⟨?_, ?_, by omega, by omega⟩
      · intro x hx
        simp only [List.mem_cons, List.not_mem_nil, or_false] at hx
        rcases hx with hx | hx | hx | hx | hx | hx | hx <;> exact ⟨by omega, by omega⟩
      · exact .inl ⟨by omega, by omega⟩
    · rw [text_of_drop hk, hx]
  · obtain ⟨hs, hk, hr, z0, z1, z2, z3, z4, z5, z6, z7, z8⟩ := ha
    obtain ⟨hr, l1, l2⟩ := hr.inv
    obtain rfl := Option.some.inj hr
    have hx := of_words (nm := s0) (ns := [n]) hws
    rw [hs] at hx
    refine ⟨(.inr (.inr (.inr (.inr (.inl ⟨by omega, by omega, by omega, by omega, by omega, by omega, by omega, by omega, by omega, by omega⟩))))), ?_, ?_⟩
    · refine ⟨?_, ?_, by omega, by omega⟩
      · intro x hx
        simp only [List.mem_cons, List.not_mem_nil, or_false] at hx
        rcases hx with hx | hx | hx | hx | hx | hx | hx <;> exact ⟨by omega, by omega⟩
      · exact .inl ⟨by omega, by omega⟩
    · rw [text_of_double hk, hx]
  · obtain ⟨hs, hk, hr, z0, z1, z2, z3, z4, z5, z6, z7, z8⟩ := ha
    obtain ⟨hr, l1, l2⟩ := hr.inv
    obtain rfl := Option.some.inj hr
    have hx := of_words (nm := s0) (ns := [client]) hws
    rw [hs] at hx
    refine ⟨(.inr (.inr (.inr (.inr (.inr (.inl ⟨by omega, by omega, by omega, by omega, by omega, by omega, by omega, by omega, by omega, by omega⟩)))))), ?_, ?_⟩
    · refine ⟨?_, ?_, by omega, by omega⟩
      · intro x hx
        simp only [List.mem_cons, List.not_mem_nil, or_false] at hx
        rcases hx with hx | hx | hx | hx | hx | hx | hx <;> exact ⟨by omega, by omega⟩
      · exact .inl ⟨by omega, by omega⟩
    · rw [text_of_retry hk, hx]
  · obtain ⟨hs, hk, st2, hr, hc, z0, z1, z2, z3, z4, z5, z6, z7⟩ := ha
    rcases hc with ⟨h1, h2, _⟩ | ⟨h1, h2⟩
    · rw [h1] at hr
      obtain ⟨hr, l1, l2⟩ := hr.inv
      obtain rfl := Option.some.inj hr
      have hx := of_words_now (nm := s0) (ns := [node]) hws
      rw [hs] at hx
      refine ⟨(.inr (.inr (.inr (.inr (.inr (.inr (.inl ⟨by omega, by omega, by omega, by omega, by omega, by omega, by omega, by omega, by omega⟩))))))), ?_, ?_⟩
      · refine ⟨?_, ?_, by omega, by omega⟩
        · intro x hx
          simp only [List.mem_cons, List.not_mem_nil, or_false] at hx
          rcases hx with hx | hx | hx | hx | hx | hx | hx <;> exact ⟨by omega, by omega⟩
        · exact .inr ⟨by omega, by omega⟩
      · rw [text_of_now hk (by omega), hx]
    · obtain ⟨h3, m1, m2⟩ := h2.inv
      rw [h3] at hr
      obtain ⟨hr, l1, l2⟩ := hr.inv
      obtain rfl := Option.some.inj hr
      have hx := of_words (nm := s0) (ns := [node, n]) hws
      rw [hs] at hx
      refine ⟨(.inr (.inr (.inr (.inr (.inr (.inr (.inl ⟨by omega, by omega, by omega, by omega, by omega, by omega, by omega, by omega, by omega⟩))))))), ?_, ?_⟩
      · refine ⟨?_, ?_, by omega, by omega⟩
        · intro x hx
          simp only [List.mem_cons, List.not_mem_nil, or_false] at hx
          rcases hx with hx | hx | hx | hx | hx | hx | hx <;> exact ⟨by omega, by omega⟩
        · exact .inl ⟨by omega, by omega⟩
      · rw [text_of_crash hk (by omega), hx]
  · obtain ⟨_, hk, y1, y2, st2, hr, hc⟩ := ha
    unfold CallRel at hc
    rcases hc with hc | hc | hc | hc | hc | hc | hc | hc | hc
    · obtain ⟨hs, ho, sx0, z0, z1, z2, z3, r0, r1⟩ := hc
      obtain ⟨e1, p1, q1⟩ := r1.inv
      rw [e1] at r0
      obtain ⟨e0, p0, q0⟩ := r0.inv
      rw [e0] at hr
      obtain ⟨hr, l1, l2⟩ := hr.inv
      obtain rfl := Option.some.inj hr
      have hx := of_words (nm := s0) (ns := [client, nn, kk]) hws
      rw [hs] at hx
      refine ⟨(.inr (.inr (.inr (.inr (.inr (.inr (.inr (.inl ⟨by omega, by omega, by omega, by omega, by omega, by omega, by omega, by omega⟩)))))))), ?_, ?_⟩
      · refine ⟨?_, ?_, by omega, by omega⟩
        · intro x hx
          simp only [List.mem_cons, List.not_mem_nil, or_false] at hx
          rcases hx with hx | hx | hx | hx | hx | hx | hx <;> exact ⟨by omega, by omega⟩
        · exact .inl ⟨by omega, by omega⟩
      · rw [text_of_alloc hk ho, hx]
    · obtain ⟨hs, ho, z0, z1, z2, z3, z4, r0⟩ := hc
      obtain ⟨e0, p0, q0⟩ := r0.inv
      rw [e0] at hr
      obtain ⟨hr, l1, l2⟩ := hr.inv
      obtain rfl := Option.some.inj hr
      have hx := of_words (nm := s0) (ns := [client, h]) hws
      rw [hs] at hx
      refine ⟨(.inr (.inr (.inr (.inr (.inr (.inr (.inr (.inr (.inl ⟨by omega, by omega, by omega, by omega, by omega, by omega, by omega, by omega, by omega⟩))))))))), ?_, ?_⟩
      · refine ⟨?_, ?_, by omega, by omega⟩
        · intro x hx
          simp only [List.mem_cons, List.not_mem_nil, or_false] at hx
          rcases hx with hx | hx | hx | hx | hx | hx | hx <;> exact ⟨by omega, by omega⟩
        · exact .inl ⟨by omega, by omega⟩
      · rw [text_of_free hk ho, hx]
    · obtain ⟨hs, ho, sx0, sx1, z0, z1, z2, r0, r1, r2⟩ := hc
      obtain ⟨e2, p2, q2⟩ := r2.inv
      rw [e2] at r1
      obtain ⟨e1, p1, q1⟩ := r1.inv
      rw [e1] at r0
      obtain ⟨e0, p0, q0⟩ := r0.inv
      rw [e0] at hr
      obtain ⟨hr, l1, l2⟩ := hr.inv
      obtain rfl := Option.some.inj hr
      have hx := of_words (nm := s0) (ns := [client, h, i, v]) hws
      rw [hs] at hx
      refine ⟨(.inr (.inr (.inr (.inr (.inr (.inr (.inr (.inr (.inr (.inl ⟨by omega, by omega, by omega, by omega, by omega, by omega, by omega⟩)))))))))), ?_, ?_⟩
      · refine ⟨?_, ?_, by omega, by omega⟩
        · intro x hx
          simp only [List.mem_cons, List.not_mem_nil, or_false] at hx
          rcases hx with hx | hx | hx | hx | hx | hx | hx <;> exact ⟨by omega, by omega⟩
        · exact .inl ⟨by omega, by omega⟩
      · rw [text_of_write hk ho, hx]
    · obtain ⟨hs, ho, sx0, sx1, z0, z1, z2, r0, r1, r2⟩ := hc
      obtain ⟨e2, p2, q2⟩ := r2.inv
      rw [e2] at r1
      obtain ⟨e1, p1, q1⟩ := r1.inv
      rw [e1] at r0
      obtain ⟨e0, p0, q0⟩ := r0.inv
      rw [e0] at hr
      obtain ⟨hr, l1, l2⟩ := hr.inv
      obtain rfl := Option.some.inj hr
      have hx := of_words (nm := s0) (ns := [client, h, i, t]) hws
      rw [hs] at hx
      refine ⟨(.inr (.inr (.inr (.inr (.inr (.inr (.inr (.inr (.inr (.inr (.inl ⟨by omega, by omega, by omega, by omega, by omega, by omega, by omega⟩))))))))))), ?_, ?_⟩
      · refine ⟨?_, ?_, by omega, by omega⟩
        · intro x hx
          simp only [List.mem_cons, List.not_mem_nil, or_false] at hx
          rcases hx with hx | hx | hx | hx | hx | hx | hx <;> exact ⟨by omega, by omega⟩
        · exact .inl ⟨by omega, by omega⟩
      · rw [text_of_link hk ho, hx]
    · obtain ⟨hs, ho, sx0, z0, z1, z2, z3, r0, r1⟩ := hc
      obtain ⟨e1, p1, q1⟩ := r1.inv
      rw [e1] at r0
      obtain ⟨e0, p0, q0⟩ := r0.inv
      rw [e0] at hr
      obtain ⟨hr, l1, l2⟩ := hr.inv
      obtain rfl := Option.some.inj hr
      have hx := of_words (nm := s0) (ns := [client, i, t]) hws
      rw [hs] at hx
      refine ⟨(.inr (.inr (.inr (.inr (.inr (.inr (.inr (.inr (.inr (.inr (.inr (.inl ⟨by omega, by omega, by omega, by omega, by omega, by omega, by omega, by omega⟩)))))))))))), ?_, ?_⟩
      · refine ⟨?_, ?_, by omega, by omega⟩
        · intro x hx
          simp only [List.mem_cons, List.not_mem_nil, or_false] at hx
          rcases hx with hx | hx | hx | hx | hx | hx | hx <;> exact ⟨by omega, by omega⟩
        · exact .inl ⟨by omega, by omega⟩
      · rw [text_of_root hk ho, hx]
    · obtain ⟨hs, ho, sx0, z0, z1, z2, z3, r0, r1⟩ := hc
      obtain ⟨e1, p1, q1⟩ := r1.inv
      rw [e1] at r0
      obtain ⟨e0, p0, q0⟩ := r0.inv
      rw [e0] at hr
      obtain ⟨hr, l1, l2⟩ := hr.inv
      obtain rfl := Option.some.inj hr
      have hx := of_words (nm := s0) (ns := [client, h, i]) hws
      rw [hs] at hx
      refine ⟨(.inr (.inr (.inr (.inr (.inr (.inr (.inr (.inr (.inr (.inr (.inr (.inr (.inl ⟨by omega, by omega, by omega, by omega, by omega, by omega, by omega, by omega⟩))))))))))))), ?_, ?_⟩
      · refine ⟨?_, ?_, by omega, by omega⟩
        · intro x hx
          simp only [List.mem_cons, List.not_mem_nil, or_false] at hx
          rcases hx with hx | hx | hx | hx | hx | hx | hx <;> exact ⟨by omega, by omega⟩
        · exact .inl ⟨by omega, by omega⟩
      · rw [text_of_read hk ho, hx]
    · obtain ⟨hs, ho, sx0, z0, z1, z2, z3, r0, r1⟩ := hc
      obtain ⟨e1, p1, q1⟩ := r1.inv
      rw [e1] at r0
      obtain ⟨e0, p0, q0⟩ := r0.inv
      rw [e0] at hr
      obtain ⟨hr, l1, l2⟩ := hr.inv
      obtain rfl := Option.some.inj hr
      have hx := of_words (nm := s0) (ns := [client, h, i]) hws
      rw [hs] at hx
      refine ⟨(.inr (.inr (.inr (.inr (.inr (.inr (.inr (.inr (.inr (.inr (.inr (.inr (.inr (.inl ⟨by omega, by omega, by omega, by omega, by omega, by omega, by omega, by omega⟩)))))))))))))), ?_, ?_⟩
      · refine ⟨?_, ?_, by omega, by omega⟩
        · intro x hx
          simp only [List.mem_cons, List.not_mem_nil, or_false] at hx
          rcases hx with hx | hx | hx | hx | hx | hx | hx <;> exact ⟨by omega, by omega⟩
        · exact .inl ⟨by omega, by omega⟩
      · rw [text_of_follow hk ho, hx]
    · obtain ⟨hs, ho, z0, z1, z2, z3, z4, r0⟩ := hc
      obtain ⟨e0, p0, q0⟩ := r0.inv
      rw [e0] at hr
      obtain ⟨hr, l1, l2⟩ := hr.inv
      obtain rfl := Option.some.inj hr
      have hx := of_words (nm := s0) (ns := [client, i]) hws
      rw [hs] at hx
      refine ⟨(.inr (.inr (.inr (.inr (.inr (.inr (.inr (.inr (.inr (.inr (.inr (.inr (.inr (.inr (⟨by omega, by omega, by omega, by omega, by omega, by omega, by omega, by omega, by omega⟩))))))))))))))), ?_, ?_⟩
      · refine ⟨?_, ?_, by omega, by omega⟩
        · intro x hx
          simp only [List.mem_cons, List.not_mem_nil, or_false] at hx
          rcases hx with hx | hx | hx | hx | hx | hx | hx <;> exact ⟨by omega, by omega⟩
        · exact .inl ⟨by omega, by omega⟩
      · rw [text_of_top hk ho, hx]
    · obtain ⟨_, hc⟩ := hc
      cases hc
set_option maxHeartbeats 3200000 in
theorem parse_complete {s s0 : ByteArray} {st1 st' : Option (List ByteArray)} {k node n client ok h i nn kk v t k' node' n' client' ok' h' i' nn' kk' v' t' : Int} (hg : Good s k node n client ok h i nn kk v t) (hw : RelW (some (wsB s)) s0 st1) (ha : ActRel s0 st1 k' node' n' client' ok' h' i' nn' kk' v' t' st') : st' = some [] ∧ k' = k ∧ node' = node ∧ n' = n ∧ client' = client ∧ ok' = ok ∧ h' = h ∧ i' = i ∧ nn' = nn ∧ kk' = kk ∧ v' = v ∧ t' = t := by
  obtain ⟨hc, hf, ht⟩ := hg
  obtain ⟨hf1, hf2, hf3, hf4⟩ := hf
  have m1 : May node := hf1 _ (by simp)
  have m2 : May client := hf1 _ (by simp)
  have m3 : May h := hf1 _ (by simp)
  have m4 : May i := hf1 _ (by simp)
  have m5 : May nn := hf1 _ (by simp)
  have m6 : May kk := hf1 _ (by simp)
  have m7 : May t := hf1 _ (by simp)
  unfold May at m1 m2 m3 m4 m5 m6 m7 hf2
  unfold Canon at hc
  rcases hc with hc | hc | hc | hc | hc | hc | hc | hc | hc | hc | hc | hc | hc | hc | hc
  · obtain ⟨hk, z0, z1, z2, z3, z4, z5, z6, z7, z8⟩ := hc
    rw [text_of_tick hk] at ht
    have hws := words_nums nmTick (by decide) [node]
    rw [ht] at hws
    simp only [List.map_cons, List.map_nil] at hws
    obtain ⟨q, hq, rfl⟩ := relW_words hw
    rw [hws] at hq
    obtain ⟨hq1, rfl⟩ := List.cons.inj hq
    unfold ActRel at ha
    rcases ha with ha | ha | ha | ha | ha | ha | ha | ha
    · obtain ⟨_, hk', hr, y0, y1, y2, y3, y4, y5, y6, y7, y8⟩ := ha
      obtain ⟨e1, e2⟩ := hr.fwd (by omega) (by omega) (by omega)
      exact ⟨e2, by omega, by omega, by omega, by omega, by omega, by omega, by omega, by omega, by omega, by omega, by omega⟩
    · exact absurd (congrArg (fun b : ByteArray => b.data.toList) (hq1.trans ha.1)) (by decide)
    · exact absurd (congrArg (fun b : ByteArray => b.data.toList) (hq1.trans ha.1)) (by decide)
    · exact absurd (congrArg (fun b : ByteArray => b.data.toList) (hq1.trans ha.1)) (by decide)
    · exact absurd (congrArg (fun b : ByteArray => b.data.toList) (hq1.trans ha.1)) (by decide)
    · exact absurd (congrArg (fun b : ByteArray => b.data.toList) (hq1.trans ha.1)) (by decide)
    · exact absurd (congrArg (fun b : ByteArray => b.data.toList) (hq1.trans ha.1)) (by decide)
    · exact absurd hq1.symm ha.1.1
  · obtain ⟨hk, z0, z1, z2, z3, z4, z5, z6, z7, z8⟩ := hc
    rw [text_of_start hk] at ht
    have hws := words_nums nmStart (by decide) [node]
    rw [ht] at hws
    simp only [List.map_cons, List.map_nil] at hws
    obtain ⟨q, hq, rfl⟩ := relW_words hw
    rw [hws] at hq
    obtain ⟨hq1, rfl⟩ := List.cons.inj hq
    unfold ActRel at ha
    rcases ha with ha | ha | ha | ha | ha | ha | ha | ha
    · exact absurd (congrArg (fun b : ByteArray => b.data.toList) (hq1.trans ha.1)) (by decide)
    · obtain ⟨_, hk', hr, y0, y1, y2, y3, y4, y5, y6, y7, y8⟩ := ha
      obtain ⟨e1, e2⟩ := hr.fwd (by omega) (by omega) (by omega)
      exact ⟨e2, by omega, by omega, by omega, by omega, by omega, by omega, by omega, by omega, by omega, by omega, by omega⟩
    · exact absurd (congrArg (fun b : ByteArray => b.data.toList) (hq1.trans ha.1)) (by decide)
    · exact absurd (congrArg (fun b : ByteArray => b.data.toList) (hq1.trans ha.1)) (by decide)
    · exact absurd (congrArg (fun b : ByteArray => b.data.toList) (hq1.trans ha.1)) (by decide)
    · exact absurd (congrArg (fun b : ByteArray => b.data.toList) (hq1.trans ha.1)) (by decide)
    · exact absurd (congrArg (fun b : ByteArray => b.data.toList) (hq1.trans ha.1)) (by decide)
    · exact absurd hq1.symm ha.1.2.1
  · obtain ⟨hk, z0, z1, z2, z3, z4, z5, z6, z7, z8⟩ := hc
    rw [text_of_deliver hk] at ht
    have hws := words_nums nmDeliver (by decide) [n]
    rw [ht] at hws
    simp only [List.map_cons, List.map_nil] at hws
    obtain ⟨q, hq, rfl⟩ := relW_words hw
    rw [hws] at hq
    obtain ⟨hq1, rfl⟩ := List.cons.inj hq
    unfold ActRel at ha
    rcases ha with ha | ha | ha | ha | ha | ha | ha | ha
    · exact absurd (congrArg (fun b : ByteArray => b.data.toList) (hq1.trans ha.1)) (by decide)
    · exact absurd (congrArg (fun b : ByteArray => b.data.toList) (hq1.trans ha.1)) (by decide)
    · obtain ⟨_, hk', hr, y0, y1, y2, y3, y4, y5, y6, y7, y8⟩ := ha
      obtain ⟨e1, e2⟩ := hr.fwd (by omega) (by omega) (by omega)
      exact ⟨e2, by omega, by omega, by omega, by omega, by omega, by omega, by omega, by omega, by omega, by omega, by omega⟩
    · exact absurd (congrArg (fun b : ByteArray => b.data.toList) (hq1.trans ha.1)) (by decide)
    · exact absurd (congrArg (fun b : ByteArray => b.data.toList) (hq1.trans ha.1)) (by decide)
    · exact absurd (congrArg (fun b : ByteArray => b.data.toList) (hq1.trans ha.1)) (by decide)
    · exact absurd (congrArg (fun b : ByteArray => b.data.toList) (hq1.trans ha.1)) (by decide)
    · exact absurd hq1.symm ha.1.2.2.1
  · obtain ⟨hk, z0, z1, z2, z3, z4, z5, z6, z7, z8⟩ := hc
    rw [text_of_drop hk] at ht
    have hws := words_nums nmDrop (by decide) [n]
    rw [ht] at hws
    simp only [List.map_cons, List.map_nil] at hws
    obtain ⟨q, hq, rfl⟩ := relW_words hw
    rw [hws] at hq
    obtain ⟨hq1, rfl⟩ := List.cons.inj hq
    unfold ActRel at ha
    rcases ha with ha | ha | ha | ha | ha | ha | ha | ha
    · exact absurd (congrArg (fun b : ByteArray => b.data.toList) (hq1.trans ha.1)) (by decide)
    · exact absurd (congrArg (fun b : ByteArray => b.data.toList) (hq1.trans ha.1)) (by decide)
    · exact absurd (congrArg (fun b : ByteArray => b.data.toList) (hq1.trans ha.1)) (by decide)
    · obtain ⟨_, hk', hr, y0, y1, y2, y3, y4, y5, y6, y7, y8⟩ := ha
      obtain ⟨e1, e2⟩ := hr.fwd (by omega) (by omega) (by omega)
      exact ⟨e2, by omega, by omega, by omega, by omega, by omega, by omega, by omega, by omega, by omega, by omega, by omega⟩
    · exact absurd (congrArg (fun b : ByteArray => b.data.toList) (hq1.trans ha.1)) (by decide)
    · exact absurd (congrArg (fun b : ByteArray => b.data.toList) (hq1.trans ha.1)) (by decide)
    · exact absurd (congrArg (fun b : ByteArray => b.data.toList) (hq1.trans ha.1)) (by decide)
    · exact absurd hq1.symm ha.1.2.2.2.1
  · obtain ⟨hk, z0, z1, z2, z3, z4, z5, z6, z7, z8⟩ := hc
    rw [text_of_double hk] at ht
    have hws := words_nums nmDouble (by decide) [n]
    rw [ht] at hws
    simp only [List.map_cons, List.map_nil] at hws
    obtain ⟨q, hq, rfl⟩ := relW_words hw
    rw [hws] at hq
    obtain ⟨hq1, rfl⟩ := List.cons.inj hq
    unfold ActRel at ha
    rcases ha with ha | ha | ha | ha | ha | ha | ha | ha
    · exact absurd (congrArg (fun b : ByteArray => b.data.toList) (hq1.trans ha.1)) (by decide)
    · exact absurd (congrArg (fun b : ByteArray => b.data.toList) (hq1.trans ha.1)) (by decide)
    · exact absurd (congrArg (fun b : ByteArray => b.data.toList) (hq1.trans ha.1)) (by decide)
    · exact absurd (congrArg (fun b : ByteArray => b.data.toList) (hq1.trans ha.1)) (by decide)
    · obtain ⟨_, hk', hr, y0, y1, y2, y3, y4, y5, y6, y7, y8⟩ := ha
      obtain ⟨e1, e2⟩ := hr.fwd (by omega) (by omega) (by omega)
      exact ⟨e2, by omega, by omega, by omega, by omega, by omega, by omega, by omega, by omega, by omega, by omega, by omega⟩
    · exact absurd (congrArg (fun b : ByteArray => b.data.toList) (hq1.trans ha.1)) (by decide)
    · exact absurd (congrArg (fun b : ByteArray => b.data.toList) (hq1.trans ha.1)) (by decide)
    · exact absurd hq1.symm ha.1.2.2.2.2.1
  · obtain ⟨hk, z0, z1, z2, z3, z4, z5, z6, z7, z8⟩ := hc
    rw [text_of_retry hk] at ht
    have hws := words_nums nmRetry (by decide) [client]
    rw [ht] at hws
    simp only [List.map_cons, List.map_nil] at hws
    obtain ⟨q, hq, rfl⟩ := relW_words hw
    rw [hws] at hq
    obtain ⟨hq1, rfl⟩ := List.cons.inj hq
    unfold ActRel at ha
    rcases ha with ha | ha | ha | ha | ha | ha | ha | ha
    · exact absurd (congrArg (fun b : ByteArray => b.data.toList) (hq1.trans ha.1)) (by decide)
    · exact absurd (congrArg (fun b : ByteArray => b.data.toList) (hq1.trans ha.1)) (by decide)
    · exact absurd (congrArg (fun b : ByteArray => b.data.toList) (hq1.trans ha.1)) (by decide)
    · exact absurd (congrArg (fun b : ByteArray => b.data.toList) (hq1.trans ha.1)) (by decide)
    · exact absurd (congrArg (fun b : ByteArray => b.data.toList) (hq1.trans ha.1)) (by decide)
    · obtain ⟨_, hk', hr, y0, y1, y2, y3, y4, y5, y6, y7, y8⟩ := ha
      obtain ⟨e1, e2⟩ := hr.fwd (by omega) (by omega) (by omega)
      exact ⟨e2, by omega, by omega, by omega, by omega, by omega, by omega, by omega, by omega, by omega, by omega, by omega⟩
    · exact absurd (congrArg (fun b : ByteArray => b.data.toList) (hq1.trans ha.1)) (by decide)
    · exact absurd hq1.symm ha.1.2.2.2.2.2.1
  · obtain ⟨hk, z0, z1, z2, z3, z4, z5, z6, z7⟩ := hc
    by_cases hneg : n < 0
    · rw [text_of_now hk hneg] at ht
      have hws := words_now nmCrash (by decide) [node]
      rw [ht] at hws
      simp only [List.map_cons, List.map_nil, List.cons_append, List.nil_append] at hws
      obtain ⟨q, hq, rfl⟩ := relW_words hw
      rw [hws] at hq
      obtain ⟨hq1, rfl⟩ := List.cons.inj hq
      unfold ActRel at ha
      rcases ha with ha | ha | ha | ha | ha | ha | ha | ha
      · exact absurd (congrArg (fun b : ByteArray => b.data.toList) (hq1.trans ha.1)) (by decide)
      · exact absurd (congrArg (fun b : ByteArray => b.data.toList) (hq1.trans ha.1)) (by decide)
      · exact absurd (congrArg (fun b : ByteArray => b.data.toList) (hq1.trans ha.1)) (by decide)
      · exact absurd (congrArg (fun b : ByteArray => b.data.toList) (hq1.trans ha.1)) (by decide)
      · exact absurd (congrArg (fun b : ByteArray => b.data.toList) (hq1.trans ha.1)) (by decide)
      · exact absurd (congrArg (fun b : ByteArray => b.data.toList) (hq1.trans ha.1)) (by decide)
      · obtain ⟨_, hk', st2, hr, hcr, y0, y1, y2, y3, y4, y5, y6, y7⟩ := ha
        obtain ⟨e1, e2⟩ := hr.fwd (by omega) (by omega) (by omega)
        rw [e2] at hcr
        rcases hcr with ⟨_, h1, h2⟩ | ⟨h1, _⟩
        · exact ⟨h2, by omega, by omega, by omega, by omega, by omega, by omega, by omega, by omega, by omega, by omega, by omega⟩
        · exact absurd rfl h1
      · exact absurd hq1.symm ha.1.2.2.2.2.2.2
    · rw [text_of_crash hk hneg] at ht
      have hws := words_nums nmCrash (by decide) [node, n]
      rw [ht] at hws
      simp only [List.map_cons, List.map_nil] at hws
      obtain ⟨q, hq, rfl⟩ := relW_words hw
      rw [hws] at hq
      obtain ⟨hq1, rfl⟩ := List.cons.inj hq
      unfold ActRel at ha
      rcases ha with ha | ha | ha | ha | ha | ha | ha | ha
      · exact absurd (congrArg (fun b : ByteArray => b.data.toList) (hq1.trans ha.1)) (by decide)
      · exact absurd (congrArg (fun b : ByteArray => b.data.toList) (hq1.trans ha.1)) (by decide)
      · exact absurd (congrArg (fun b : ByteArray => b.data.toList) (hq1.trans ha.1)) (by decide)
      · exact absurd (congrArg (fun b : ByteArray => b.data.toList) (hq1.trans ha.1)) (by decide)
      · exact absurd (congrArg (fun b : ByteArray => b.data.toList) (hq1.trans ha.1)) (by decide)
      · exact absurd (congrArg (fun b : ByteArray => b.data.toList) (hq1.trans ha.1)) (by decide)
      · obtain ⟨_, hk', st2, hr, hcr, y0, y1, y2, y3, y4, y5, y6, y7⟩ := ha
        obtain ⟨e1, e2⟩ := hr.fwd (by omega) (by omega) (by omega)
        rw [e2] at hcr
        rcases hcr with ⟨h1, _⟩ | ⟨_, h2⟩
        · exact absurd (List.cons.inj (Option.some.inj h1)).1 (itoaB_now n)
        · obtain ⟨e3, e4⟩ := h2.fwd (by omega) (by omega) (by omega)
          exact ⟨e4, by omega, by omega, by omega, by omega, by omega, by omega, by omega, by omega, by omega, by omega, by omega⟩
      · exact absurd hq1.symm ha.1.2.2.2.2.2.2
  · obtain ⟨hk, ho, z0, z1, z2, z3, z4, z5⟩ := hc
    rw [text_of_alloc hk ho] at ht
    have hws := words_nums nmAlloc (by decide) [client, nn, kk]
    rw [ht] at hws
    simp only [List.map_cons, List.map_nil] at hws
    obtain ⟨q, hq, rfl⟩ := relW_words hw
    rw [hws] at hq
    obtain ⟨hq1, rfl⟩ := List.cons.inj hq
    unfold ActRel at ha
    rcases ha with ha | ha | ha | ha | ha | ha | ha | ha
    · exact absurd (congrArg (fun b : ByteArray => b.data.toList) (hq1.trans ha.1)) (by decide)
    · exact absurd (congrArg (fun b : ByteArray => b.data.toList) (hq1.trans ha.1)) (by decide)
    · exact absurd (congrArg (fun b : ByteArray => b.data.toList) (hq1.trans ha.1)) (by decide)
    · exact absurd (congrArg (fun b : ByteArray => b.data.toList) (hq1.trans ha.1)) (by decide)
    · exact absurd (congrArg (fun b : ByteArray => b.data.toList) (hq1.trans ha.1)) (by decide)
    · exact absurd (congrArg (fun b : ByteArray => b.data.toList) (hq1.trans ha.1)) (by decide)
    · exact absurd (congrArg (fun b : ByteArray => b.data.toList) (hq1.trans ha.1)) (by decide)
    · obtain ⟨_, hk', y1, y2, st2, hr, hcr⟩ := ha
      obtain ⟨e1, e2⟩ := hr.fwd (by omega) (by omega) (by omega)
      rw [e2] at hcr
      unfold CallRel at hcr
      rcases hcr with hcr | hcr | hcr | hcr | hcr | hcr | hcr | hcr | hcr
      · obtain ⟨_, ho', s0, u0, u1, u2, u3, r0, r1⟩ := hcr
        obtain ⟨f0, g0⟩ := r0.fwd (by omega) (by omega) (by omega)
        rw [g0] at r1
        obtain ⟨f1, g1⟩ := r1.fwd (by omega) (by omega) (by omega)
        exact ⟨g1, by omega, by omega, by omega, by omega, by omega, by omega, by omega, by omega, by omega, by omega, by omega⟩
      · exact absurd (congrArg (fun b : ByteArray => b.data.toList) (hq1.trans hcr.1)) (by decide)
      · exact absurd (congrArg (fun b : ByteArray => b.data.toList) (hq1.trans hcr.1)) (by decide)
      · exact absurd (congrArg (fun b : ByteArray => b.data.toList) (hq1.trans hcr.1)) (by decide)
      · exact absurd (congrArg (fun b : ByteArray => b.data.toList) (hq1.trans hcr.1)) (by decide)
      · exact absurd (congrArg (fun b : ByteArray => b.data.toList) (hq1.trans hcr.1)) (by decide)
      · exact absurd (congrArg (fun b : ByteArray => b.data.toList) (hq1.trans hcr.1)) (by decide)
      · exact absurd (congrArg (fun b : ByteArray => b.data.toList) (hq1.trans hcr.1)) (by decide)
      · exact absurd hq1.symm hcr.1.1
  · obtain ⟨hk, ho, z0, z1, z2, z3, z4, z5, z6⟩ := hc
    rw [text_of_free hk ho] at ht
    have hws := words_nums nmFree (by decide) [client, h]
    rw [ht] at hws
    simp only [List.map_cons, List.map_nil] at hws
    obtain ⟨q, hq, rfl⟩ := relW_words hw
    rw [hws] at hq
    obtain ⟨hq1, rfl⟩ := List.cons.inj hq
    unfold ActRel at ha
    rcases ha with ha | ha | ha | ha | ha | ha | ha | ha
    · exact absurd (congrArg (fun b : ByteArray => b.data.toList) (hq1.trans ha.1)) (by decide)
    · exact absurd (congrArg (fun b : ByteArray => b.data.toList) (hq1.trans ha.1)) (by decide)
    · exact absurd (congrArg (fun b : ByteArray => b.data.toList) (hq1.trans ha.1)) (by decide)
    · exact absurd (congrArg (fun b : ByteArray => b.data.toList) (hq1.trans ha.1)) (by decide)
    · exact absurd (congrArg (fun b : ByteArray => b.data.toList) (hq1.trans ha.1)) (by decide)
    · exact absurd (congrArg (fun b : ByteArray => b.data.toList) (hq1.trans ha.1)) (by decide)
    · exact absurd (congrArg (fun b : ByteArray => b.data.toList) (hq1.trans ha.1)) (by decide)
    · obtain ⟨_, hk', y1, y2, st2, hr, hcr⟩ := ha
      obtain ⟨e1, e2⟩ := hr.fwd (by omega) (by omega) (by omega)
      rw [e2] at hcr
      unfold CallRel at hcr
      rcases hcr with hcr | hcr | hcr | hcr | hcr | hcr | hcr | hcr | hcr
      · exact absurd (congrArg (fun b : ByteArray => b.data.toList) (hq1.trans hcr.1)) (by decide)
      · obtain ⟨_, ho', u0, u1, u2, u3, u4, r0⟩ := hcr
        obtain ⟨f0, g0⟩ := r0.fwd (by omega) (by omega) (by omega)
        exact ⟨g0, by omega, by omega, by omega, by omega, by omega, by omega, by omega, by omega, by omega, by omega, by omega⟩
      · exact absurd (congrArg (fun b : ByteArray => b.data.toList) (hq1.trans hcr.1)) (by decide)
      · exact absurd (congrArg (fun b : ByteArray => b.data.toList) (hq1.trans hcr.1)) (by decide)
      · exact absurd (congrArg (fun b : ByteArray => b.data.toList) (hq1.trans hcr.1)) (by decide)
      · exact absurd (congrArg (fun b : ByteArray => b.data.toList) (hq1.trans hcr.1)) (by decide)
      · exact absurd (congrArg (fun b : ByteArray => b.data.toList) (hq1.trans hcr.1)) (by decide)
      · exact absurd (congrArg (fun b : ByteArray => b.data.toList) (hq1.trans hcr.1)) (by decide)
      · exact absurd hq1.symm hcr.1.2.1
  · obtain ⟨hk, ho, z0, z1, z2, z3, z4⟩ := hc
    rw [text_of_write hk ho] at ht
    have hws := words_nums nmWrite (by decide) [client, h, i, v]
    rw [ht] at hws
    simp only [List.map_cons, List.map_nil] at hws
    obtain ⟨q, hq, rfl⟩ := relW_words hw
    rw [hws] at hq
    obtain ⟨hq1, rfl⟩ := List.cons.inj hq
    unfold ActRel at ha
    rcases ha with ha | ha | ha | ha | ha | ha | ha | ha
    · exact absurd (congrArg (fun b : ByteArray => b.data.toList) (hq1.trans ha.1)) (by decide)
    · exact absurd (congrArg (fun b : ByteArray => b.data.toList) (hq1.trans ha.1)) (by decide)
    · exact absurd (congrArg (fun b : ByteArray => b.data.toList) (hq1.trans ha.1)) (by decide)
    · exact absurd (congrArg (fun b : ByteArray => b.data.toList) (hq1.trans ha.1)) (by decide)
    · exact absurd (congrArg (fun b : ByteArray => b.data.toList) (hq1.trans ha.1)) (by decide)
    · exact absurd (congrArg (fun b : ByteArray => b.data.toList) (hq1.trans ha.1)) (by decide)
    · exact absurd (congrArg (fun b : ByteArray => b.data.toList) (hq1.trans ha.1)) (by decide)
    · obtain ⟨_, hk', y1, y2, st2, hr, hcr⟩ := ha
      obtain ⟨e1, e2⟩ := hr.fwd (by omega) (by omega) (by omega)
      rw [e2] at hcr
      unfold CallRel at hcr
      rcases hcr with hcr | hcr | hcr | hcr | hcr | hcr | hcr | hcr | hcr
      · exact absurd (congrArg (fun b : ByteArray => b.data.toList) (hq1.trans hcr.1)) (by decide)
      · exact absurd (congrArg (fun b : ByteArray => b.data.toList) (hq1.trans hcr.1)) (by decide)
      · obtain ⟨_, ho', s0, s1, u0, u1, u2, r0, r1, r2⟩ := hcr
        obtain ⟨f0, g0⟩ := r0.fwd (by omega) (by omega) (by omega)
        rw [g0] at r1
        obtain ⟨f1, g1⟩ := r1.fwd (by omega) (by omega) (by omega)
        rw [g1] at r2
        obtain ⟨f2, g2⟩ := r2.fwd (by omega) (by omega) (by omega)
        exact ⟨g2, by omega, by omega, by omega, by omega, by omega, by omega, by omega, by omega, by omega, by omega, by omega⟩
      · exact absurd (congrArg (fun b : ByteArray => b.data.toList) (hq1.trans hcr.1)) (by decide)
      · exact absurd (congrArg (fun b : ByteArray => b.data.toList) (hq1.trans hcr.1)) (by decide)
      · exact absurd (congrArg (fun b : ByteArray => b.data.toList) (hq1.trans hcr.1)) (by decide)
      · exact absurd (congrArg (fun b : ByteArray => b.data.toList) (hq1.trans hcr.1)) (by decide)
      · exact absurd (congrArg (fun b : ByteArray => b.data.toList) (hq1.trans hcr.1)) (by decide)
      · exact absurd hq1.symm hcr.1.2.2.1
  · obtain ⟨hk, ho, z0, z1, z2, z3, z4⟩ := hc
    rw [text_of_link hk ho] at ht
    have hws := words_nums nmLink (by decide) [client, h, i, t]
    rw [ht] at hws
    simp only [List.map_cons, List.map_nil] at hws
    obtain ⟨q, hq, rfl⟩ := relW_words hw
    rw [hws] at hq
    obtain ⟨hq1, rfl⟩ := List.cons.inj hq
    unfold ActRel at ha
    rcases ha with ha | ha | ha | ha | ha | ha | ha | ha
    · exact absurd (congrArg (fun b : ByteArray => b.data.toList) (hq1.trans ha.1)) (by decide)
    · exact absurd (congrArg (fun b : ByteArray => b.data.toList) (hq1.trans ha.1)) (by decide)
    · exact absurd (congrArg (fun b : ByteArray => b.data.toList) (hq1.trans ha.1)) (by decide)
    · exact absurd (congrArg (fun b : ByteArray => b.data.toList) (hq1.trans ha.1)) (by decide)
    · exact absurd (congrArg (fun b : ByteArray => b.data.toList) (hq1.trans ha.1)) (by decide)
    · exact absurd (congrArg (fun b : ByteArray => b.data.toList) (hq1.trans ha.1)) (by decide)
    · exact absurd (congrArg (fun b : ByteArray => b.data.toList) (hq1.trans ha.1)) (by decide)
    · obtain ⟨_, hk', y1, y2, st2, hr, hcr⟩ := ha
      obtain ⟨e1, e2⟩ := hr.fwd (by omega) (by omega) (by omega)
      rw [e2] at hcr
      unfold CallRel at hcr
      rcases hcr with hcr | hcr | hcr | hcr | hcr | hcr | hcr | hcr | hcr
      · exact absurd (congrArg (fun b : ByteArray => b.data.toList) (hq1.trans hcr.1)) (by decide)
      · exact absurd (congrArg (fun b : ByteArray => b.data.toList) (hq1.trans hcr.1)) (by decide)
      · exact absurd (congrArg (fun b : ByteArray => b.data.toList) (hq1.trans hcr.1)) (by decide)
      · obtain ⟨_, ho', s0, s1, u0, u1, u2, r0, r1, r2⟩ := hcr
        obtain ⟨f0, g0⟩ := r0.fwd (by omega) (by omega) (by omega)
        rw [g0] at r1
        obtain ⟨f1, g1⟩ := r1.fwd (by omega) (by omega) (by omega)
        rw [g1] at r2
        obtain ⟨f2, g2⟩ := r2.fwd (by omega) (by omega) (by omega)
        exact ⟨g2, by omega, by omega, by omega, by omega, by omega, by omega, by omega, by omega, by omega, by omega, by omega⟩
      · exact absurd (congrArg (fun b : ByteArray => b.data.toList) (hq1.trans hcr.1)) (by decide)
      · exact absurd (congrArg (fun b : ByteArray => b.data.toList) (hq1.trans hcr.1)) (by decide)
      · exact absurd (congrArg (fun b : ByteArray => b.data.toList) (hq1.trans hcr.1)) (by decide)
      · exact absurd (congrArg (fun b : ByteArray => b.data.toList) (hq1.trans hcr.1)) (by decide)
      · exact absurd hq1.symm hcr.1.2.2.2.1
  · obtain ⟨hk, ho, z0, z1, z2, z3, z4, z5⟩ := hc
    rw [text_of_root hk ho] at ht
    have hws := words_nums nmRoot (by decide) [client, i, t]
    rw [ht] at hws
    simp only [List.map_cons, List.map_nil] at hws
    obtain ⟨q, hq, rfl⟩ := relW_words hw
    rw [hws] at hq
    obtain ⟨hq1, rfl⟩ := List.cons.inj hq
    unfold ActRel at ha
    rcases ha with ha | ha | ha | ha | ha | ha | ha | ha
    · exact absurd (congrArg (fun b : ByteArray => b.data.toList) (hq1.trans ha.1)) (by decide)
    · exact absurd (congrArg (fun b : ByteArray => b.data.toList) (hq1.trans ha.1)) (by decide)
    · exact absurd (congrArg (fun b : ByteArray => b.data.toList) (hq1.trans ha.1)) (by decide)
    · exact absurd (congrArg (fun b : ByteArray => b.data.toList) (hq1.trans ha.1)) (by decide)
    · exact absurd (congrArg (fun b : ByteArray => b.data.toList) (hq1.trans ha.1)) (by decide)
    · exact absurd (congrArg (fun b : ByteArray => b.data.toList) (hq1.trans ha.1)) (by decide)
    · exact absurd (congrArg (fun b : ByteArray => b.data.toList) (hq1.trans ha.1)) (by decide)
    · obtain ⟨_, hk', y1, y2, st2, hr, hcr⟩ := ha
      obtain ⟨e1, e2⟩ := hr.fwd (by omega) (by omega) (by omega)
      rw [e2] at hcr
      unfold CallRel at hcr
      rcases hcr with hcr | hcr | hcr | hcr | hcr | hcr | hcr | hcr | hcr
      · exact absurd (congrArg (fun b : ByteArray => b.data.toList) (hq1.trans hcr.1)) (by decide)
      · exact absurd (congrArg (fun b : ByteArray => b.data.toList) (hq1.trans hcr.1)) (by decide)
      · exact absurd (congrArg (fun b : ByteArray => b.data.toList) (hq1.trans hcr.1)) (by decide)
      · exact absurd (congrArg (fun b : ByteArray => b.data.toList) (hq1.trans hcr.1)) (by decide)
      · obtain ⟨_, ho', s0, u0, u1, u2, u3, r0, r1⟩ := hcr
        obtain ⟨f0, g0⟩ := r0.fwd (by omega) (by omega) (by omega)
        rw [g0] at r1
        obtain ⟨f1, g1⟩ := r1.fwd (by omega) (by omega) (by omega)
        exact ⟨g1, by omega, by omega, by omega, by omega, by omega, by omega, by omega, by omega, by omega, by omega, by omega⟩
      · exact absurd (congrArg (fun b : ByteArray => b.data.toList) (hq1.trans hcr.1)) (by decide)
      · exact absurd (congrArg (fun b : ByteArray => b.data.toList) (hq1.trans hcr.1)) (by decide)
      · exact absurd (congrArg (fun b : ByteArray => b.data.toList) (hq1.trans hcr.1)) (by decide)
      · exact absurd hq1.symm hcr.1.2.2.2.2.1
  · obtain ⟨hk, ho, z0, z1, z2, z3, z4, z5⟩ := hc
    rw [text_of_read hk ho] at ht
    have hws := words_nums nmRead (by decide) [client, h, i]
    rw [ht] at hws
    simp only [List.map_cons, List.map_nil] at hws
    obtain ⟨q, hq, rfl⟩ := relW_words hw
    rw [hws] at hq
    obtain ⟨hq1, rfl⟩ := List.cons.inj hq
    unfold ActRel at ha
    rcases ha with ha | ha | ha | ha | ha | ha | ha | ha
    · exact absurd (congrArg (fun b : ByteArray => b.data.toList) (hq1.trans ha.1)) (by decide)
    · exact absurd (congrArg (fun b : ByteArray => b.data.toList) (hq1.trans ha.1)) (by decide)
    · exact absurd (congrArg (fun b : ByteArray => b.data.toList) (hq1.trans ha.1)) (by decide)
    · exact absurd (congrArg (fun b : ByteArray => b.data.toList) (hq1.trans ha.1)) (by decide)
    · exact absurd (congrArg (fun b : ByteArray => b.data.toList) (hq1.trans ha.1)) (by decide)
    · exact absurd (congrArg (fun b : ByteArray => b.data.toList) (hq1.trans ha.1)) (by decide)
    · exact absurd (congrArg (fun b : ByteArray => b.data.toList) (hq1.trans ha.1)) (by decide)
    · obtain ⟨_, hk', y1, y2, st2, hr, hcr⟩ := ha
      obtain ⟨e1, e2⟩ := hr.fwd (by omega) (by omega) (by omega)
      rw [e2] at hcr
      unfold CallRel at hcr
      rcases hcr with hcr | hcr | hcr | hcr | hcr | hcr | hcr | hcr | hcr
      · exact absurd (congrArg (fun b : ByteArray => b.data.toList) (hq1.trans hcr.1)) (by decide)
      · exact absurd (congrArg (fun b : ByteArray => b.data.toList) (hq1.trans hcr.1)) (by decide)
      · exact absurd (congrArg (fun b : ByteArray => b.data.toList) (hq1.trans hcr.1)) (by decide)
      · exact absurd (congrArg (fun b : ByteArray => b.data.toList) (hq1.trans hcr.1)) (by decide)
      · exact absurd (congrArg (fun b : ByteArray => b.data.toList) (hq1.trans hcr.1)) (by decide)
      · obtain ⟨_, ho', s0, u0, u1, u2, u3, r0, r1⟩ := hcr
        obtain ⟨f0, g0⟩ := r0.fwd (by omega) (by omega) (by omega)
        rw [g0] at r1
        obtain ⟨f1, g1⟩ := r1.fwd (by omega) (by omega) (by omega)
        exact ⟨g1, by omega, by omega, by omega, by omega, by omega, by omega, by omega, by omega, by omega, by omega, by omega⟩
      · exact absurd (congrArg (fun b : ByteArray => b.data.toList) (hq1.trans hcr.1)) (by decide)
      · exact absurd (congrArg (fun b : ByteArray => b.data.toList) (hq1.trans hcr.1)) (by decide)
      · exact absurd hq1.symm hcr.1.2.2.2.2.2.1
  · obtain ⟨hk, ho, z0, z1, z2, z3, z4, z5⟩ := hc
    rw [text_of_follow hk ho] at ht
    have hws := words_nums nmFollow (by decide) [client, h, i]
    rw [ht] at hws
    simp only [List.map_cons, List.map_nil] at hws
    obtain ⟨q, hq, rfl⟩ := relW_words hw
    rw [hws] at hq
    obtain ⟨hq1, rfl⟩ := List.cons.inj hq
    unfold ActRel at ha
    rcases ha with ha | ha | ha | ha | ha | ha | ha | ha
    · exact absurd (congrArg (fun b : ByteArray => b.data.toList) (hq1.trans ha.1)) (by decide)
    · exact absurd (congrArg (fun b : ByteArray => b.data.toList) (hq1.trans ha.1)) (by decide)
    · exact absurd (congrArg (fun b : ByteArray => b.data.toList) (hq1.trans ha.1)) (by decide)
    · exact absurd (congrArg (fun b : ByteArray => b.data.toList) (hq1.trans ha.1)) (by decide)
    · exact absurd (congrArg (fun b : ByteArray => b.data.toList) (hq1.trans ha.1)) (by decide)
    · exact absurd (congrArg (fun b : ByteArray => b.data.toList) (hq1.trans ha.1)) (by decide)
    · exact absurd (congrArg (fun b : ByteArray => b.data.toList) (hq1.trans ha.1)) (by decide)
    · obtain ⟨_, hk', y1, y2, st2, hr, hcr⟩ := ha
      obtain ⟨e1, e2⟩ := hr.fwd (by omega) (by omega) (by omega)
      rw [e2] at hcr
      unfold CallRel at hcr
      rcases hcr with hcr | hcr | hcr | hcr | hcr | hcr | hcr | hcr | hcr
      · exact absurd (congrArg (fun b : ByteArray => b.data.toList) (hq1.trans hcr.1)) (by decide)
      · exact absurd (congrArg (fun b : ByteArray => b.data.toList) (hq1.trans hcr.1)) (by decide)
      · exact absurd (congrArg (fun b : ByteArray => b.data.toList) (hq1.trans hcr.1)) (by decide)
      · exact absurd (congrArg (fun b : ByteArray => b.data.toList) (hq1.trans hcr.1)) (by decide)
      · exact absurd (congrArg (fun b : ByteArray => b.data.toList) (hq1.trans hcr.1)) (by decide)
      · exact absurd (congrArg (fun b : ByteArray => b.data.toList) (hq1.trans hcr.1)) (by decide)
      · obtain ⟨_, ho', s0, u0, u1, u2, u3, r0, r1⟩ := hcr
        obtain ⟨f0, g0⟩ := r0.fwd (by omega) (by omega) (by omega)
        rw [g0] at r1
        obtain ⟨f1, g1⟩ := r1.fwd (by omega) (by omega) (by omega)
        exact ⟨g1, by omega, by omega, by omega, by omega, by omega, by omega, by omega, by omega, by omega, by omega, by omega⟩
      · exact absurd (congrArg (fun b : ByteArray => b.data.toList) (hq1.trans hcr.1)) (by decide)
      · exact absurd hq1.symm hcr.1.2.2.2.2.2.2.1
  · obtain ⟨hk, ho, z0, z1, z2, z3, z4, z5, z6⟩ := hc
    rw [text_of_top hk ho] at ht
    have hws := words_nums nmTop (by decide) [client, i]
    rw [ht] at hws
    simp only [List.map_cons, List.map_nil] at hws
    obtain ⟨q, hq, rfl⟩ := relW_words hw
    rw [hws] at hq
    obtain ⟨hq1, rfl⟩ := List.cons.inj hq
    unfold ActRel at ha
    rcases ha with ha | ha | ha | ha | ha | ha | ha | ha
    · exact absurd (congrArg (fun b : ByteArray => b.data.toList) (hq1.trans ha.1)) (by decide)
    · exact absurd (congrArg (fun b : ByteArray => b.data.toList) (hq1.trans ha.1)) (by decide)
    · exact absurd (congrArg (fun b : ByteArray => b.data.toList) (hq1.trans ha.1)) (by decide)
    · exact absurd (congrArg (fun b : ByteArray => b.data.toList) (hq1.trans ha.1)) (by decide)
    · exact absurd (congrArg (fun b : ByteArray => b.data.toList) (hq1.trans ha.1)) (by decide)
    · exact absurd (congrArg (fun b : ByteArray => b.data.toList) (hq1.trans ha.1)) (by decide)
    · exact absurd (congrArg (fun b : ByteArray => b.data.toList) (hq1.trans ha.1)) (by decide)
    · obtain ⟨_, hk', y1, y2, st2, hr, hcr⟩ := ha
      obtain ⟨e1, e2⟩ := hr.fwd (by omega) (by omega) (by omega)
      rw [e2] at hcr
      unfold CallRel at hcr
      rcases hcr with hcr | hcr | hcr | hcr | hcr | hcr | hcr | hcr | hcr
      · exact absurd (congrArg (fun b : ByteArray => b.data.toList) (hq1.trans hcr.1)) (by decide)
      · exact absurd (congrArg (fun b : ByteArray => b.data.toList) (hq1.trans hcr.1)) (by decide)
      · exact absurd (congrArg (fun b : ByteArray => b.data.toList) (hq1.trans hcr.1)) (by decide)
      · exact absurd (congrArg (fun b : ByteArray => b.data.toList) (hq1.trans hcr.1)) (by decide)
      · exact absurd (congrArg (fun b : ByteArray => b.data.toList) (hq1.trans hcr.1)) (by decide)
      · exact absurd (congrArg (fun b : ByteArray => b.data.toList) (hq1.trans hcr.1)) (by decide)
      · exact absurd (congrArg (fun b : ByteArray => b.data.toList) (hq1.trans hcr.1)) (by decide)
      · obtain ⟨_, ho', u0, u1, u2, u3, u4, r0⟩ := hcr
        obtain ⟨f0, g0⟩ := r0.fwd (by omega) (by omega) (by omega)
        exact ⟨g0, by omega, by omega, by omega, by omega, by omega, by omega, by omega, by omega, by omega, by omega, by omega⟩
      · exact absurd hq1.symm hcr.1.2.2.2.2.2.2.2
set_option maxHeartbeats 3200000 in
theorem ref_complete {s s0 : ByteArray} {k node n client ok h i nn kk v t k' node' n' client' ok' h' i' nn' kk' v' t' : Int} (hg : Good s k node n client ok h i nn kk v t) (h0 : (wsB s)[0]? = some s0) (hr : GuessRel s0 (wsB s) k' node' n' client' ok' h' i' nn' kk' v' t') : k' = k ∧ node' = node ∧ n' = n ∧ client' = client ∧ ok' = ok ∧ h' = h ∧ i' = i ∧ nn' = nn ∧ kk' = kk ∧ v' = v ∧ t' = t := by
  obtain ⟨hc, hf, ht⟩ := hg
  obtain ⟨hf1, hf2, hf3, hf4⟩ := hf
  have m1 : May node := hf1 _ (by simp)
  have m2 : May client := hf1 _ (by simp)
  have m3 : May h := hf1 _ (by simp)
  have m4 : May i := hf1 _ (by simp)
  have m5 : May nn := hf1 _ (by simp)
  have m6 : May kk := hf1 _ (by simp)
  have m7 : May t := hf1 _ (by simp)
  unfold May at m1 m2 m3 m4 m5 m6 m7 hf2
  unfold Canon at hc
  rcases hc with hc | hc | hc | hc | hc | hc | hc | hc | hc | hc | hc | hc | hc | hc | hc
  · obtain ⟨hk, z0, z1, z2, z3, z4, z5, z6, z7, z8⟩ := hc
    rw [text_of_tick hk] at ht
    have hws := words_nums nmTick (by decide) [node]
    rw [ht] at hws
    simp only [List.map_cons, List.map_nil] at hws
    rw [hws] at h0 hr
    have hs0 := (Option.some.inj h0).symm
    unfold GuessRel at hr
    rcases hr with hr | hr | hr | hr | hr | hr | hr | hr | hr | hr | hr | hr | hr | hr | hr | hr
    · obtain ⟨_, hk', hx, y0, y1, y2, y3, y4, y5, y6, y7, y8⟩ := hr
      rw [nth1, numR_B _ (by omega) (by omega)] at hx
      exact ⟨by omega, by omega, by omega, by omega, by omega, by omega, by omega, by omega, by omega, by omega, by omega⟩
    · exact absurd (congrArg (fun b : ByteArray => b.data.toList) (hs0.symm.trans hr.1)) (by decide)
    · exact absurd (congrArg (fun b : ByteArray => b.data.toList) (hs0.symm.trans hr.1)) (by decide)
    · exact absurd (congrArg (fun b : ByteArray => b.data.toList) (hs0.symm.trans hr.1)) (by decide)
    · exact absurd (congrArg (fun b : ByteArray => b.data.toList) (hs0.symm.trans hr.1)) (by decide)
    · exact absurd (congrArg (fun b : ByteArray => b.data.toList) (hs0.symm.trans hr.1)) (by decide)
    · exact absurd (congrArg (fun b : ByteArray => b.data.toList) (hs0.symm.trans hr.1)) (by decide)
    · exact absurd (congrArg (fun b : ByteArray => b.data.toList) (hs0.symm.trans hr.1)) (by decide)
    · exact absurd (congrArg (fun b : ByteArray => b.data.toList) (hs0.symm.trans hr.1)) (by decide)
    · exact absurd (congrArg (fun b : ByteArray => b.data.toList) (hs0.symm.trans hr.1)) (by decide)
    · exact absurd (congrArg (fun b : ByteArray => b.data.toList) (hs0.symm.trans hr.1)) (by decide)
    · exact absurd (congrArg (fun b : ByteArray => b.data.toList) (hs0.symm.trans hr.1)) (by decide)
    · exact absurd (congrArg (fun b : ByteArray => b.data.toList) (hs0.symm.trans hr.1)) (by decide)
    · exact absurd (congrArg (fun b : ByteArray => b.data.toList) (hs0.symm.trans hr.1)) (by decide)
    · exact absurd (congrArg (fun b : ByteArray => b.data.toList) (hs0.symm.trans hr.1)) (by decide)
    · exact absurd hs0 hr.1.1
  · obtain ⟨hk, z0, z1, z2, z3, z4, z5, z6, z7, z8⟩ := hc
    rw [text_of_start hk] at ht
    have hws := words_nums nmStart (by decide) [node]
    rw [ht] at hws
    simp only [List.map_cons, List.map_nil] at hws
    rw [hws] at h0 hr
    have hs0 := (Option.some.inj h0).symm
    unfold GuessRel at hr
    rcases hr with hr | hr | hr | hr | hr | hr | hr | hr | hr | hr | hr | hr | hr | hr | hr | hr
    · exact absurd (congrArg (fun b : ByteArray => b.data.toList) (hs0.symm.trans hr.1)) (by decide)
    · obtain ⟨_, hk', hx, y0, y1, y2, y3, y4, y5, y6, y7, y8⟩ := hr
      rw [nth1, numR_B _ (by omega) (by omega)] at hx
      exact ⟨by omega, by omega, by omega, by omega, by omega, by omega, by omega, by omega, by omega, by omega, by omega⟩
    · exact absurd (congrArg (fun b : ByteArray => b.data.toList) (hs0.symm.trans hr.1)) (by decide)
    · exact absurd (congrArg (fun b : ByteArray => b.data.toList) (hs0.symm.trans hr.1)) (by decide)
    · exact absurd (congrArg (fun b : ByteArray => b.data.toList) (hs0.symm.trans hr.1)) (by decide)
    · exact absurd (congrArg (fun b : ByteArray => b.data.toList) (hs0.symm.trans hr.1)) (by decide)
    · exact absurd (congrArg (fun b : ByteArray => b.data.toList) (hs0.symm.trans hr.1)) (by decide)
    · exact absurd (congrArg (fun b : ByteArray => b.data.toList) (hs0.symm.trans hr.1)) (by decide)
    · exact absurd (congrArg (fun b : ByteArray => b.data.toList) (hs0.symm.trans hr.1)) (by decide)
    · exact absurd (congrArg (fun b : ByteArray => b.data.toList) (hs0.symm.trans hr.1)) (by decide)
    · exact absurd (congrArg (fun b : ByteArray => b.data.toList) (hs0.symm.trans hr.1)) (by decide)
    · exact absurd (congrArg (fun b : ByteArray => b.data.toList) (hs0.symm.trans hr.1)) (by decide)
    · exact absurd (congrArg (fun b : ByteArray => b.data.toList) (hs0.symm.trans hr.1)) (by decide)
    · exact absurd (congrArg (fun b : ByteArray => b.data.toList) (hs0.symm.trans hr.1)) (by decide)
    · exact absurd (congrArg (fun b : ByteArray => b.data.toList) (hs0.symm.trans hr.1)) (by decide)
    · exact absurd hs0 hr.1.2.1
  · obtain ⟨hk, z0, z1, z2, z3, z4, z5, z6, z7, z8⟩ := hc
    rw [text_of_deliver hk] at ht
    have hws := words_nums nmDeliver (by decide) [n]
    rw [ht] at hws
    simp only [List.map_cons, List.map_nil] at hws
    rw [hws] at h0 hr
    have hs0 := (Option.some.inj h0).symm
    unfold GuessRel at hr
    rcases hr with hr | hr | hr | hr | hr | hr | hr | hr | hr | hr | hr | hr | hr | hr | hr | hr
    · exact absurd (congrArg (fun b : ByteArray => b.data.toList) (hs0.symm.trans hr.1)) (by decide)
    · exact absurd (congrArg (fun b : ByteArray => b.data.toList) (hs0.symm.trans hr.1)) (by decide)
    · obtain ⟨_, hk', hx, y0, y1, y2, y3, y4, y5, y6, y7, y8⟩ := hr
      rw [nth1, numR_B _ (by omega) (by omega)] at hx
      exact ⟨by omega, by omega, by omega, by omega, by omega, by omega, by omega, by omega, by omega, by omega, by omega⟩
    · exact absurd (congrArg (fun b : ByteArray => b.data.toList) (hs0.symm.trans hr.1)) (by decide)
    · exact absurd (congrArg (fun b : ByteArray => b.data.toList) (hs0.symm.trans hr.1)) (by decide)
    · exact absurd (congrArg (fun b : ByteArray => b.data.toList) (hs0.symm.trans hr.1)) (by decide)
    · exact absurd (congrArg (fun b : ByteArray => b.data.toList) (hs0.symm.trans hr.1)) (by decide)
    · exact absurd (congrArg (fun b : ByteArray => b.data.toList) (hs0.symm.trans hr.1)) (by decide)
    · exact absurd (congrArg (fun b : ByteArray => b.data.toList) (hs0.symm.trans hr.1)) (by decide)
    · exact absurd (congrArg (fun b : ByteArray => b.data.toList) (hs0.symm.trans hr.1)) (by decide)
    · exact absurd (congrArg (fun b : ByteArray => b.data.toList) (hs0.symm.trans hr.1)) (by decide)
    · exact absurd (congrArg (fun b : ByteArray => b.data.toList) (hs0.symm.trans hr.1)) (by decide)
    · exact absurd (congrArg (fun b : ByteArray => b.data.toList) (hs0.symm.trans hr.1)) (by decide)
    · exact absurd (congrArg (fun b : ByteArray => b.data.toList) (hs0.symm.trans hr.1)) (by decide)
    · exact absurd (congrArg (fun b : ByteArray => b.data.toList) (hs0.symm.trans hr.1)) (by decide)
    · exact absurd hs0 hr.1.2.2.1
  · obtain ⟨hk, z0, z1, z2, z3, z4, z5, z6, z7, z8⟩ := hc
    rw [text_of_drop hk] at ht
    have hws := words_nums nmDrop (by decide) [n]
    rw [ht] at hws
    simp only [List.map_cons, List.map_nil] at hws
    rw [hws] at h0 hr
    have hs0 := (Option.some.inj h0).symm
    unfold GuessRel at hr
    rcases hr with hr | hr | hr | hr | hr | hr | hr | hr | hr | hr | hr | hr | hr | hr | hr | hr
    · exact absurd (congrArg (fun b : ByteArray => b.data.toList) (hs0.symm.trans hr.1)) (by decide)
    · exact absurd (congrArg (fun b : ByteArray => b.data.toList) (hs0.symm.trans hr.1)) (by decide)
    · exact absurd (congrArg (fun b : ByteArray => b.data.toList) (hs0.symm.trans hr.1)) (by decide)
    · obtain ⟨_, hk', hx, y0, y1, y2, y3, y4, y5, y6, y7, y8⟩ := hr
      rw [nth1, numR_B _ (by omega) (by omega)] at hx
      exact ⟨by omega, by omega, by omega, by omega, by omega, by omega, by omega, by omega, by omega, by omega, by omega⟩
    · exact absurd (congrArg (fun b : ByteArray => b.data.toList) (hs0.symm.trans hr.1)) (by decide)
    · exact absurd (congrArg (fun b : ByteArray => b.data.toList) (hs0.symm.trans hr.1)) (by decide)
    · exact absurd (congrArg (fun b : ByteArray => b.data.toList) (hs0.symm.trans hr.1)) (by decide)
    · exact absurd (congrArg (fun b : ByteArray => b.data.toList) (hs0.symm.trans hr.1)) (by decide)
    · exact absurd (congrArg (fun b : ByteArray => b.data.toList) (hs0.symm.trans hr.1)) (by decide)
    · exact absurd (congrArg (fun b : ByteArray => b.data.toList) (hs0.symm.trans hr.1)) (by decide)
    · exact absurd (congrArg (fun b : ByteArray => b.data.toList) (hs0.symm.trans hr.1)) (by decide)
    · exact absurd (congrArg (fun b : ByteArray => b.data.toList) (hs0.symm.trans hr.1)) (by decide)
    · exact absurd (congrArg (fun b : ByteArray => b.data.toList) (hs0.symm.trans hr.1)) (by decide)
    · exact absurd (congrArg (fun b : ByteArray => b.data.toList) (hs0.symm.trans hr.1)) (by decide)
    · exact absurd (congrArg (fun b : ByteArray => b.data.toList) (hs0.symm.trans hr.1)) (by decide)
    · exact absurd hs0 hr.1.2.2.2.1
  · obtain ⟨hk, z0, z1, z2, z3, z4, z5, z6, z7, z8⟩ := hc
    rw [text_of_double hk] at ht
    have hws := words_nums nmDouble (by decide) [n]
    rw [ht] at hws
    simp only [List.map_cons, List.map_nil] at hws
    rw [hws] at h0 hr
    have hs0 := (Option.some.inj h0).symm
    unfold GuessRel at hr
    rcases hr with hr | hr | hr | hr | hr | hr | hr | hr | hr | hr | hr | hr | hr | hr | hr | hr
    · exact absurd (congrArg (fun b : ByteArray => b.data.toList) (hs0.symm.trans hr.1)) (by decide)
    · exact absurd (congrArg (fun b : ByteArray => b.data.toList) (hs0.symm.trans hr.1)) (by decide)
    · exact absurd (congrArg (fun b : ByteArray => b.data.toList) (hs0.symm.trans hr.1)) (by decide)
    · exact absurd (congrArg (fun b : ByteArray => b.data.toList) (hs0.symm.trans hr.1)) (by decide)
    · obtain ⟨_, hk', hx, y0, y1, y2, y3, y4, y5, y6, y7, y8⟩ := hr
      rw [nth1, numR_B _ (by omega) (by omega)] at hx
      exact ⟨by omega, by omega, by omega, by omega, by omega, by omega, by omega, by omega, by omega, by omega, by omega⟩
    · exact absurd (congrArg (fun b : ByteArray => b.data.toList) (hs0.symm.trans hr.1)) (by decide)
    · exact absurd (congrArg (fun b : ByteArray => b.data.toList) (hs0.symm.trans hr.1)) (by decide)
    · exact absurd (congrArg (fun b : ByteArray => b.data.toList) (hs0.symm.trans hr.1)) (by decide)
    · exact absurd (congrArg (fun b : ByteArray => b.data.toList) (hs0.symm.trans hr.1)) (by decide)
    · exact absurd (congrArg (fun b : ByteArray => b.data.toList) (hs0.symm.trans hr.1)) (by decide)
    · exact absurd (congrArg (fun b : ByteArray => b.data.toList) (hs0.symm.trans hr.1)) (by decide)
    · exact absurd (congrArg (fun b : ByteArray => b.data.toList) (hs0.symm.trans hr.1)) (by decide)
    · exact absurd (congrArg (fun b : ByteArray => b.data.toList) (hs0.symm.trans hr.1)) (by decide)
    · exact absurd (congrArg (fun b : ByteArray => b.data.toList) (hs0.symm.trans hr.1)) (by decide)
    · exact absurd (congrArg (fun b : ByteArray => b.data.toList) (hs0.symm.trans hr.1)) (by decide)
    · exact absurd hs0 hr.1.2.2.2.2.1
  · obtain ⟨hk, z0, z1, z2, z3, z4, z5, z6, z7, z8⟩ := hc
    rw [text_of_retry hk] at ht
    have hws := words_nums nmRetry (by decide) [client]
    rw [ht] at hws
    simp only [List.map_cons, List.map_nil] at hws
    rw [hws] at h0 hr
    have hs0 := (Option.some.inj h0).symm
    unfold GuessRel at hr
    rcases hr with hr | hr | hr | hr | hr | hr | hr | hr | hr | hr | hr | hr | hr | hr | hr | hr
    · exact absurd (congrArg (fun b : ByteArray => b.data.toList) (hs0.symm.trans hr.1)) (by decide)
    · exact absurd (congrArg (fun b : ByteArray => b.data.toList) (hs0.symm.trans hr.1)) (by decide)
    · exact absurd (congrArg (fun b : ByteArray => b.data.toList) (hs0.symm.trans hr.1)) (by decide)
    · exact absurd (congrArg (fun b : ByteArray => b.data.toList) (hs0.symm.trans hr.1)) (by decide)
    · exact absurd (congrArg (fun b : ByteArray => b.data.toList) (hs0.symm.trans hr.1)) (by decide)
    · obtain ⟨_, hk', hx, y0, y1, y2, y3, y4, y5, y6, y7, y8⟩ := hr
      rw [nth1, numR_B _ (by omega) (by omega)] at hx
      exact ⟨by omega, by omega, by omega, by omega, by omega, by omega, by omega, by omega, by omega, by omega, by omega⟩
    · exact absurd (congrArg (fun b : ByteArray => b.data.toList) (hs0.symm.trans hr.1)) (by decide)
    · exact absurd (congrArg (fun b : ByteArray => b.data.toList) (hs0.symm.trans hr.1)) (by decide)
    · exact absurd (congrArg (fun b : ByteArray => b.data.toList) (hs0.symm.trans hr.1)) (by decide)
    · exact absurd (congrArg (fun b : ByteArray => b.data.toList) (hs0.symm.trans hr.1)) (by decide)
    · exact absurd (congrArg (fun b : ByteArray => b.data.toList) (hs0.symm.trans hr.1)) (by decide)
    · exact absurd (congrArg (fun b : ByteArray => b.data.toList) (hs0.symm.trans hr.1)) (by decide)
    · exact absurd (congrArg (fun b : ByteArray => b.data.toList) (hs0.symm.trans hr.1)) (by decide)
    · exact absurd (congrArg (fun b : ByteArray => b.data.toList) (hs0.symm.trans hr.1)) (by decide)
    · exact absurd (congrArg (fun b : ByteArray => b.data.toList) (hs0.symm.trans hr.1)) (by decide)
    · exact absurd hs0 hr.1.2.2.2.2.2.1
  · obtain ⟨hk, z0, z1, z2, z3, z4, z5, z6, z7⟩ := hc
    by_cases hneg : n < 0
    · rw [text_of_now hk hneg] at ht
      have hws := words_now nmCrash (by decide) [node]
      rw [ht] at hws
      simp only [List.map_cons, List.map_nil, List.cons_append, List.nil_append] at hws
      rw [hws] at h0 hr
      have hs0 := (Option.some.inj h0).symm
      unfold GuessRel at hr
      rcases hr with hr | hr | hr | hr | hr | hr | hr | hr | hr | hr | hr | hr | hr | hr | hr | hr
      · exact absurd (congrArg (fun b : ByteArray => b.data.toList) (hs0.symm.trans hr.1)) (by decide)
      · exact absurd (congrArg (fun b : ByteArray => b.data.toList) (hs0.symm.trans hr.1)) (by decide)
      · exact absurd (congrArg (fun b : ByteArray => b.data.toList) (hs0.symm.trans hr.1)) (by decide)
      · exact absurd (congrArg (fun b : ByteArray => b.data.toList) (hs0.symm.trans hr.1)) (by decide)
      · exact absurd (congrArg (fun b : ByteArray => b.data.toList) (hs0.symm.trans hr.1)) (by decide)
      · exact absurd (congrArg (fun b : ByteArray => b.data.toList) (hs0.symm.trans hr.1)) (by decide)
      · obtain ⟨_, hk', hx, hcr, y0, y1, y2, y3, y4, y5, y6, y7⟩ := hr
        rw [nth1, numR_B _ (by omega) (by omega)] at hx
        rcases hcr with ⟨_, h2⟩ | ⟨h1, _⟩
        · exact ⟨by omega, by omega, by omega, by omega, by omega, by omega, by omega, by omega, by omega, by omega, by omega⟩
        · exact absurd rfl h1
      · exact absurd (congrArg (fun b : ByteArray => b.data.toList) (hs0.symm.trans hr.1)) (by decide)
      · exact absurd (congrArg (fun b : ByteArray => b.data.toList) (hs0.symm.trans hr.1)) (by decide)
      · exact absurd (congrArg (fun b : ByteArray => b.data.toList) (hs0.symm.trans hr.1)) (by decide)
      · exact absurd (congrArg (fun b : ByteArray => b.data.toList) (hs0.symm.trans hr.1)) (by decide)
      · exact absurd (congrArg (fun b : ByteArray => b.data.toList) (hs0.symm.trans hr.1)) (by decide)
      · exact absurd (congrArg (fun b : ByteArray => b.data.toList) (hs0.symm.trans hr.1)) (by decide)
      · exact absurd (congrArg (fun b : ByteArray => b.data.toList) (hs0.symm.trans hr.1)) (by decide)
      · exact absurd (congrArg (fun b : ByteArray => b.data.toList) (hs0.symm.trans hr.1)) (by decide)
      · exact absurd hs0 hr.1.2.2.2.2.2.2.1
    · rw [text_of_crash hk hneg] at ht
      have hws := words_nums nmCrash (by decide) [node, n]
      rw [ht] at hws
      simp only [List.map_cons, List.map_nil] at hws
      rw [hws] at h0 hr
      have hs0 := (Option.some.inj h0).symm
      unfold GuessRel at hr
      rcases hr with hr | hr | hr | hr | hr | hr | hr | hr | hr | hr | hr | hr | hr | hr | hr | hr
      · exact absurd (congrArg (fun b : ByteArray => b.data.toList) (hs0.symm.trans hr.1)) (by decide)
      · exact absurd (congrArg (fun b : ByteArray => b.data.toList) (hs0.symm.trans hr.1)) (by decide)
      · exact absurd (congrArg (fun b : ByteArray => b.data.toList) (hs0.symm.trans hr.1)) (by decide)
      · exact absurd (congrArg (fun b : ByteArray => b.data.toList) (hs0.symm.trans hr.1)) (by decide)
      · exact absurd (congrArg (fun b : ByteArray => b.data.toList) (hs0.symm.trans hr.1)) (by decide)
      · exact absurd (congrArg (fun b : ByteArray => b.data.toList) (hs0.symm.trans hr.1)) (by decide)
      · obtain ⟨_, hk', hx, hcr, y0, y1, y2, y3, y4, y5, y6, y7⟩ := hr
        rw [nth1, numR_B _ (by omega) (by omega)] at hx
        rcases hcr with ⟨h1, _⟩ | ⟨_, h2⟩
        · exact absurd (Option.some.inj h1) (itoaB_now n)
        · rw [nth2, numR_B _ (by omega) (by omega)] at h2
          exact ⟨by omega, by omega, by omega, by omega, by omega, by omega, by omega, by omega, by omega, by omega, by omega⟩
      · exact absurd (congrArg (fun b : ByteArray => b.data.toList) (hs0.symm.trans hr.1)) (by decide)
      · exact absurd (congrArg (fun b : ByteArray => b.data.toList) (hs0.symm.trans hr.1)) (by decide)
      · exact absurd (congrArg (fun b : ByteArray => b.data.toList) (hs0.symm.trans hr.1)) (by decide)
      · exact absurd (congrArg (fun b : ByteArray => b.data.toList) (hs0.symm.trans hr.1)) (by decide)
      · exact absurd (congrArg (fun b : ByteArray => b.data.toList) (hs0.symm.trans hr.1)) (by decide)
      · exact absurd (congrArg (fun b : ByteArray => b.data.toList) (hs0.symm.trans hr.1)) (by decide)
      · exact absurd (congrArg (fun b : ByteArray => b.data.toList) (hs0.symm.trans hr.1)) (by decide)
      · exact absurd (congrArg (fun b : ByteArray => b.data.toList) (hs0.symm.trans hr.1)) (by decide)
      · exact absurd hs0 hr.1.2.2.2.2.2.2.1
  · obtain ⟨hk, ho, z0, z1, z2, z3, z4, z5⟩ := hc
    rw [text_of_alloc hk ho] at ht
    have hws := words_nums nmAlloc (by decide) [client, nn, kk]
    rw [ht] at hws
    simp only [List.map_cons, List.map_nil] at hws
    rw [hws] at h0 hr
    have hs0 := (Option.some.inj h0).symm
    unfold GuessRel at hr
    rcases hr with hr | hr | hr | hr | hr | hr | hr | hr | hr | hr | hr | hr | hr | hr | hr | hr
    · exact absurd (congrArg (fun b : ByteArray => b.data.toList) (hs0.symm.trans hr.1)) (by decide)
    · exact absurd (congrArg (fun b : ByteArray => b.data.toList) (hs0.symm.trans hr.1)) (by decide)
    · exact absurd (congrArg (fun b : ByteArray => b.data.toList) (hs0.symm.trans hr.1)) (by decide)
    · exact absurd (congrArg (fun b : ByteArray => b.data.toList) (hs0.symm.trans hr.1)) (by decide)
    · exact absurd (congrArg (fun b : ByteArray => b.data.toList) (hs0.symm.trans hr.1)) (by decide)
    · exact absurd (congrArg (fun b : ByteArray => b.data.toList) (hs0.symm.trans hr.1)) (by decide)
    · exact absurd (congrArg (fun b : ByteArray => b.data.toList) (hs0.symm.trans hr.1)) (by decide)
    · obtain ⟨_, hk', x1, x2, x3, ho', p0, p1, y0, y1, y2, y3⟩ := hr
      rw [nth1, numR_B _ (by omega) (by omega)] at x3
      rw [nth2, numR_B _ (by omega) (by omega)] at p0
      rw [nth3, numR_B _ (by omega) (by omega)] at p1
      exact ⟨by omega, by omega, by omega, by omega, by omega, by omega, by omega, by omega, by omega, by omega, by omega⟩
    · exact absurd (congrArg (fun b : ByteArray => b.data.toList) (hs0.symm.trans hr.1)) (by decide)
    · exact absurd (congrArg (fun b : ByteArray => b.data.toList) (hs0.symm.trans hr.1)) (by decide)
    · exact absurd (congrArg (fun b : ByteArray => b.data.toList) (hs0.symm.trans hr.1)) (by decide)
    · exact absurd (congrArg (fun b : ByteArray => b.data.toList) (hs0.symm.trans hr.1)) (by decide)
    · exact absurd (congrArg (fun b : ByteArray => b.data.toList) (hs0.symm.trans hr.1)) (by decide)
    · exact absurd (congrArg (fun b : ByteArray => b.data.toList) (hs0.symm.trans hr.1)) (by decide)
    · exact absurd (congrArg (fun b : ByteArray => b.data.toList) (hs0.symm.trans hr.1)) (by decide)
    · exact absurd hs0 hr.1.2.2.2.2.2.2.2.1
  · obtain ⟨hk, ho, z0, z1, z2, z3, z4, z5, z6⟩ := hc
    rw [text_of_free hk ho] at ht
    have hws := words_nums nmFree (by decide) [client, h]
    rw [ht] at hws
    simp only [List.map_cons, List.map_nil] at hws
    rw [hws] at h0 hr
    have hs0 := (Option.some.inj h0).symm
    unfold GuessRel at hr
    rcases hr with hr | hr | hr | hr | hr | hr | hr | hr | hr | hr | hr | hr | hr | hr | hr | hr
    · exact absurd (congrArg (fun b : ByteArray => b.data.toList) (hs0.symm.trans hr.1)) (by decide)
    · exact absurd (congrArg (fun b : ByteArray => b.data.toList) (hs0.symm.trans hr.1)) (by decide)
    · exact absurd (congrArg (fun b : ByteArray => b.data.toList) (hs0.symm.trans hr.1)) (by decide)
    · exact absurd (congrArg (fun b : ByteArray => b.data.toList) (hs0.symm.trans hr.1)) (by decide)
    · exact absurd (congrArg (fun b : ByteArray => b.data.toList) (hs0.symm.trans hr.1)) (by decide)
    · exact absurd (congrArg (fun b : ByteArray => b.data.toList) (hs0.symm.trans hr.1)) (by decide)
    · exact absurd (congrArg (fun b : ByteArray => b.data.toList) (hs0.symm.trans hr.1)) (by decide)
    · exact absurd (congrArg (fun b : ByteArray => b.data.toList) (hs0.symm.trans hr.1)) (by decide)
    · obtain ⟨_, hk', x1, x2, x3, ho', p0, y0, y1, y2, y3, y4⟩ := hr
      rw [nth1, numR_B _ (by omega) (by omega)] at x3
      rw [nth2, numR_B _ (by omega) (by omega)] at p0
      exact ⟨by omega, by omega, by omega, by omega, by omega, by omega, by omega, by omega, by omega, by omega, by omega⟩
    · exact absurd (congrArg (fun b : ByteArray => b.data.toList) (hs0.symm.trans hr.1)) (by decide)
    · exact absurd (congrArg (fun b : ByteArray => b.data.toList) (hs0.symm.trans hr.1)) (by decide)
    · exact absurd (congrArg (fun b : ByteArray => b.data.toList) (hs0.symm.trans hr.1)) (by decide)
    · exact absurd (congrArg (fun b : ByteArray => b.data.toList) (hs0.symm.trans hr.1)) (by decide)
    · exact absurd (congrArg (fun b : ByteArray => b.data.toList) (hs0.symm.trans hr.1)) (by decide)
    · exact absurd (congrArg (fun b : ByteArray => b.data.toList) (hs0.symm.trans hr.1)) (by decide)
    · exact absurd hs0 hr.1.2.2.2.2.2.2.2.2.1
  · obtain ⟨hk, ho, z0, z1, z2, z3, z4⟩ := hc
    rw [text_of_write hk ho] at ht
    have hws := words_nums nmWrite (by decide) [client, h, i, v]
    rw [ht] at hws
    simp only [List.map_cons, List.map_nil] at hws
    rw [hws] at h0 hr
    have hs0 := (Option.some.inj h0).symm
    unfold GuessRel at hr
    rcases hr with hr | hr | hr | hr | hr | hr | hr | hr | hr | hr | hr | hr | hr | hr | hr | hr
    · exact absurd (congrArg (fun b : ByteArray => b.data.toList) (hs0.symm.trans hr.1)) (by decide)
    · exact absurd (congrArg (fun b : ByteArray => b.data.toList) (hs0.symm.trans hr.1)) (by decide)
    · exact absurd (congrArg (fun b : ByteArray => b.data.toList) (hs0.symm.trans hr.1)) (by decide)
    · exact absurd (congrArg (fun b : ByteArray => b.data.toList) (hs0.symm.trans hr.1)) (by decide)
    · exact absurd (congrArg (fun b : ByteArray => b.data.toList) (hs0.symm.trans hr.1)) (by decide)
    · exact absurd (congrArg (fun b : ByteArray => b.data.toList) (hs0.symm.trans hr.1)) (by decide)
    · exact absurd (congrArg (fun b : ByteArray => b.data.toList) (hs0.symm.trans hr.1)) (by decide)
    · exact absurd (congrArg (fun b : ByteArray => b.data.toList) (hs0.symm.trans hr.1)) (by decide)
    · exact absurd (congrArg (fun b : ByteArray => b.data.toList) (hs0.symm.trans hr.1)) (by decide)
    · obtain ⟨_, hk', x1, x2, x3, ho', p0, p1, p2, y0, y1, y2⟩ := hr
      rw [nth1, numR_B _ (by omega) (by omega)] at x3
      rw [nth2, numR_B _ (by omega) (by omega)] at p0
      rw [nth3, numR_B _ (by omega) (by omega)] at p1
      rw [nth4, numR_B _ (by omega) (by omega)] at p2
      exact ⟨by omega, by omega, by omega, by omega, by omega, by omega, by omega, by omega, by omega, by omega, by omega⟩
    · exact absurd (congrArg (fun b : ByteArray => b.data.toList) (hs0.symm.trans hr.1)) (by decide)
    · exact absurd (congrArg (fun b : ByteArray => b.data.toList) (hs0.symm.trans hr.1)) (by decide)
    · exact absurd (congrArg (fun b : ByteArray => b.data.toList) (hs0.symm.trans hr.1)) (by decide)
    · exact absurd (congrArg (fun b : ByteArray => b.data.toList) (hs0.symm.trans hr.1)) (by decide)
    · exact absurd (congrArg (fun b : ByteArray => b.data.toList) (hs0.symm.trans hr.1)) (by decide)
    · exact absurd hs0 hr.1.2.2.2.2.2.2.2.2.2.1
  · obtain ⟨hk, ho, z0, z1, z2, z3, z4⟩ := hc
    rw [text_of_link hk ho] at ht
    have hws := words_nums nmLink (by decide) [client, h, i, t]
    rw [ht] at hws
    simp only [List.map_cons, List.map_nil] at hws
    rw [hws] at h0 hr
    have hs0 := (Option.some.inj h0).symm
    unfold GuessRel at hr
    rcases hr with hr | hr | hr | hr | hr | hr | hr | hr | hr | hr | hr | hr | hr | hr | hr | hr
    · exact absurd (congrArg (fun b : ByteArray => b.data.toList) (hs0.symm.trans hr.1)) (by decide)
    · exact absurd (congrArg (fun b : ByteArray => b.data.toList) (hs0.symm.trans hr.1)) (by decide)
    · exact absurd (congrArg (fun b : ByteArray => b.data.toList) (hs0.symm.trans hr.1)) (by decide)
    · exact absurd (congrArg (fun b : ByteArray => b.data.toList) (hs0.symm.trans hr.1)) (by decide)
    · exact absurd (congrArg (fun b : ByteArray => b.data.toList) (hs0.symm.trans hr.1)) (by decide)
    · exact absurd (congrArg (fun b : ByteArray => b.data.toList) (hs0.symm.trans hr.1)) (by decide)
    · exact absurd (congrArg (fun b : ByteArray => b.data.toList) (hs0.symm.trans hr.1)) (by decide)
    · exact absurd (congrArg (fun b : ByteArray => b.data.toList) (hs0.symm.trans hr.1)) (by decide)
    · exact absurd (congrArg (fun b : ByteArray => b.data.toList) (hs0.symm.trans hr.1)) (by decide)
    · exact absurd (congrArg (fun b : ByteArray => b.data.toList) (hs0.symm.trans hr.1)) (by decide)
    · obtain ⟨_, hk', x1, x2, x3, ho', p0, p1, p2, y0, y1, y2⟩ := hr
      rw [nth1, numR_B _ (by omega) (by omega)] at x3
      rw [nth2, numR_B _ (by omega) (by omega)] at p0
      rw [nth3, numR_B _ (by omega) (by omega)] at p1
      rw [nth4, numR_B _ (by omega) (by omega)] at p2
      exact ⟨by omega, by omega, by omega, by omega, by omega, by omega, by omega, by omega, by omega, by omega, by omega⟩
    · exact absurd (congrArg (fun b : ByteArray => b.data.toList) (hs0.symm.trans hr.1)) (by decide)
    · exact absurd (congrArg (fun b : ByteArray => b.data.toList) (hs0.symm.trans hr.1)) (by decide)
    · exact absurd (congrArg (fun b : ByteArray => b.data.toList) (hs0.symm.trans hr.1)) (by decide)
    · exact absurd (congrArg (fun b : ByteArray => b.data.toList) (hs0.symm.trans hr.1)) (by decide)
    · exact absurd hs0 hr.1.2.2.2.2.2.2.2.2.2.2.1
  · obtain ⟨hk, ho, z0, z1, z2, z3, z4, z5⟩ := hc
    rw [text_of_root hk ho] at ht
    have hws := words_nums nmRoot (by decide) [client, i, t]
    rw [ht] at hws
    simp only [List.map_cons, List.map_nil] at hws
    rw [hws] at h0 hr
    have hs0 := (Option.some.inj h0).symm
    unfold GuessRel at hr
    rcases hr with hr | hr | hr | hr | hr | hr | hr | hr | hr | hr | hr | hr | hr | hr | hr | hr
    · exact absurd (congrArg (fun b : ByteArray => b.data.toList) (hs0.symm.trans hr.1)) (by decide)
    · exact absurd (congrArg (fun b : ByteArray => b.data.toList) (hs0.symm.trans hr.1)) (by decide)
    · exact absurd (congrArg (fun b : ByteArray => b.data.toList) (hs0.symm.trans hr.1)) (by decide)
    · exact absurd (congrArg (fun b : ByteArray => b.data.toList) (hs0.symm.trans hr.1)) (by decide)
    · exact absurd (congrArg (fun b : ByteArray => b.data.toList) (hs0.symm.trans hr.1)) (by decide)
    · exact absurd (congrArg (fun b : ByteArray => b.data.toList) (hs0.symm.trans hr.1)) (by decide)
    · exact absurd (congrArg (fun b : ByteArray => b.data.toList) (hs0.symm.trans hr.1)) (by decide)
    · exact absurd (congrArg (fun b : ByteArray => b.data.toList) (hs0.symm.trans hr.1)) (by decide)
    · exact absurd (congrArg (fun b : ByteArray => b.data.toList) (hs0.symm.trans hr.1)) (by decide)
    · exact absurd (congrArg (fun b : ByteArray => b.data.toList) (hs0.symm.trans hr.1)) (by decide)
    · exact absurd (congrArg (fun b : ByteArray => b.data.toList) (hs0.symm.trans hr.1)) (by decide)
    · obtain ⟨_, hk', x1, x2, x3, ho', p0, p1, y0, y1, y2, y3⟩ := hr
      rw [nth1, numR_B _ (by omega) (by omega)] at x3
      rw [nth2, numR_B _ (by omega) (by omega)] at p0
      rw [nth3, numR_B _ (by omega) (by omega)] at p1
      exact ⟨by omega, by omega, by omega, by omega, by omega, by omega, by omega, by omega, by omega, by omega, by omega⟩
    · exact absurd (congrArg (fun b : ByteArray => b.data.toList) (hs0.symm.trans hr.1)) (by decide)
    · exact absurd (congrArg (fun b : ByteArray => b.data.toList) (hs0.symm.trans hr.1)) (by decide)
    · exact absurd (congrArg (fun b : ByteArray => b.data.toList) (hs0.symm.trans hr.1)) (by decide)
    · exact absurd hs0 hr.1.2.2.2.2.2.2.2.2.2.2.2.1
  · obtain ⟨hk, ho, z0, z1, z2, z3, z4, z5⟩ := hc
    rw [text_of_read hk ho] at ht
    have hws := words_nums nmRead (by decide) [client, h, i]
    rw [ht] at hws
    simp only [List.map_cons, List.map_nil] at hws
    rw [hws] at h0 hr
    have hs0 := (Option.some.inj h0).symm
    unfold GuessRel at hr
    rcases hr with hr | hr | hr | hr | hr | hr | hr | hr | hr | hr | hr | hr | hr | hr | hr | hr
    · exact absurd (congrArg (fun b : ByteArray => b.data.toList) (hs0.symm.trans hr.1)) (by decide)
    · exact absurd (congrArg (fun b : ByteArray => b.data.toList) (hs0.symm.trans hr.1)) (by decide)
    · exact absurd (congrArg (fun b : ByteArray => b.data.toList) (hs0.symm.trans hr.1)) (by decide)
    · exact absurd (congrArg (fun b : ByteArray => b.data.toList) (hs0.symm.trans hr.1)) (by decide)
    · exact absurd (congrArg (fun b : ByteArray => b.data.toList) (hs0.symm.trans hr.1)) (by decide)
    · exact absurd (congrArg (fun b : ByteArray => b.data.toList) (hs0.symm.trans hr.1)) (by decide)
    · exact absurd (congrArg (fun b : ByteArray => b.data.toList) (hs0.symm.trans hr.1)) (by decide)
    · exact absurd (congrArg (fun b : ByteArray => b.data.toList) (hs0.symm.trans hr.1)) (by decide)
    · exact absurd (congrArg (fun b : ByteArray => b.data.toList) (hs0.symm.trans hr.1)) (by decide)
    · exact absurd (congrArg (fun b : ByteArray => b.data.toList) (hs0.symm.trans hr.1)) (by decide)
    · exact absurd (congrArg (fun b : ByteArray => b.data.toList) (hs0.symm.trans hr.1)) (by decide)
    · exact absurd (congrArg (fun b : ByteArray => b.data.toList) (hs0.symm.trans hr.1)) (by decide)
    · obtain ⟨_, hk', x1, x2, x3, ho', p0, p1, y0, y1, y2, y3⟩ := hr
      rw [nth1, numR_B _ (by omega) (by omega)] at x3
      rw [nth2, numR_B _ (by omega) (by omega)] at p0
      rw [nth3, numR_B _ (by omega) (by omega)] at p1
      exact ⟨by omega, by omega, by omega, by omega, by omega, by omega, by omega, by omega, by omega, by omega, by omega⟩
    · exact absurd (congrArg (fun b : ByteArray => b.data.toList) (hs0.symm.trans hr.1)) (by decide)
    · exact absurd (congrArg (fun b : ByteArray => b.data.toList) (hs0.symm.trans hr.1)) (by decide)
    · exact absurd hs0 hr.1.2.2.2.2.2.2.2.2.2.2.2.2.1
  · obtain ⟨hk, ho, z0, z1, z2, z3, z4, z5⟩ := hc
    rw [text_of_follow hk ho] at ht
    have hws := words_nums nmFollow (by decide) [client, h, i]
    rw [ht] at hws
    simp only [List.map_cons, List.map_nil] at hws
    rw [hws] at h0 hr
    have hs0 := (Option.some.inj h0).symm
    unfold GuessRel at hr
    rcases hr with hr | hr | hr | hr | hr | hr | hr | hr | hr | hr | hr | hr | hr | hr | hr | hr
    · exact absurd (congrArg (fun b : ByteArray => b.data.toList) (hs0.symm.trans hr.1)) (by decide)
    · exact absurd (congrArg (fun b : ByteArray => b.data.toList) (hs0.symm.trans hr.1)) (by decide)
    · exact absurd (congrArg (fun b : ByteArray => b.data.toList) (hs0.symm.trans hr.1)) (by decide)
    · exact absurd (congrArg (fun b : ByteArray => b.data.toList) (hs0.symm.trans hr.1)) (by decide)
    · exact absurd (congrArg (fun b : ByteArray => b.data.toList) (hs0.symm.trans hr.1)) (by decide)
    · exact absurd (congrArg (fun b : ByteArray => b.data.toList) (hs0.symm.trans hr.1)) (by decide)
    · exact absurd (congrArg (fun b : ByteArray => b.data.toList) (hs0.symm.trans hr.1)) (by decide)
    · exact absurd (congrArg (fun b : ByteArray => b.data.toList) (hs0.symm.trans hr.1)) (by decide)
    · exact absurd (congrArg (fun b : ByteArray => b.data.toList) (hs0.symm.trans hr.1)) (by decide)
    · exact absurd (congrArg (fun b : ByteArray => b.data.toList) (hs0.symm.trans hr.1)) (by decide)
    · exact absurd (congrArg (fun b : ByteArray => b.data.toList) (hs0.symm.trans hr.1)) (by decide)
    · exact absurd (congrArg (fun b : ByteArray => b.data.toList) (hs0.symm.trans hr.1)) (by decide)
    · exact absurd (congrArg (fun b : ByteArray => b.data.toList) (hs0.symm.trans hr.1)) (by decide)
    · obtain ⟨_, hk', x1, x2, x3, ho', p0, p1, y0, y1, y2, y3⟩ := hr
      rw [nth1, numR_B _ (by omega) (by omega)] at x3
      rw [nth2, numR_B _ (by omega) (by omega)] at p0
      rw [nth3, numR_B _ (by omega) (by omega)] at p1
      exact ⟨by omega, by omega, by omega, by omega, by omega, by omega, by omega, by omega, by omega, by omega, by omega⟩
    · exact absurd (congrArg (fun b : ByteArray => b.data.toList) (hs0.symm.trans hr.1)) (by decide)
    · exact absurd hs0 hr.1.2.2.2.2.2.2.2.2.2.2.2.2.2.1
  · obtain ⟨hk, ho, z0, z1, z2, z3, z4, z5, z6⟩ := hc
    rw [text_of_top hk ho] at ht
    have hws := words_nums nmTop (by decide) [client, i]
    rw [ht] at hws
    simp only [List.map_cons, List.map_nil] at hws
    rw [hws] at h0 hr
    have hs0 := (Option.some.inj h0).symm
    unfold GuessRel at hr
    rcases hr with hr | hr | hr | hr | hr | hr | hr | hr | hr | hr | hr | hr | hr | hr | hr | hr
    · exact absurd (congrArg (fun b : ByteArray => b.data.toList) (hs0.symm.trans hr.1)) (by decide)
    · exact absurd (congrArg (fun b : ByteArray => b.data.toList) (hs0.symm.trans hr.1)) (by decide)
    · exact absurd (congrArg (fun b : ByteArray => b.data.toList) (hs0.symm.trans hr.1)) (by decide)
    · exact absurd (congrArg (fun b : ByteArray => b.data.toList) (hs0.symm.trans hr.1)) (by decide)
    · exact absurd (congrArg (fun b : ByteArray => b.data.toList) (hs0.symm.trans hr.1)) (by decide)
    · exact absurd (congrArg (fun b : ByteArray => b.data.toList) (hs0.symm.trans hr.1)) (by decide)
    · exact absurd (congrArg (fun b : ByteArray => b.data.toList) (hs0.symm.trans hr.1)) (by decide)
    · exact absurd (congrArg (fun b : ByteArray => b.data.toList) (hs0.symm.trans hr.1)) (by decide)
    · exact absurd (congrArg (fun b : ByteArray => b.data.toList) (hs0.symm.trans hr.1)) (by decide)
    · exact absurd (congrArg (fun b : ByteArray => b.data.toList) (hs0.symm.trans hr.1)) (by decide)
    · exact absurd (congrArg (fun b : ByteArray => b.data.toList) (hs0.symm.trans hr.1)) (by decide)
    · exact absurd (congrArg (fun b : ByteArray => b.data.toList) (hs0.symm.trans hr.1)) (by decide)
    · exact absurd (congrArg (fun b : ByteArray => b.data.toList) (hs0.symm.trans hr.1)) (by decide)
    · exact absurd (congrArg (fun b : ByteArray => b.data.toList) (hs0.symm.trans hr.1)) (by decide)
    · obtain ⟨_, hk', x1, x2, x3, ho', p0, y0, y1, y2, y3, y4⟩ := hr
      rw [nth1, numR_B _ (by omega) (by omega)] at x3
      rw [nth2, numR_B _ (by omega) (by omega)] at p0
      exact ⟨by omega, by omega, by omega, by omega, by omega, by omega, by omega, by omega, by omega, by omega, by omega⟩
    · exact absurd hs0 hr.1.2.2.2.2.2.2.2.2.2.2.2.2.2.2
theorem ref_sound {s s0 : ByteArray} {k node n client ok h i nn kk v t : Int} (hr : GuessRel s0 (wsB s) k node n client ok h i nn kk v t) (hok : OkP s k node n client ok h i nn kk v t) : Good s k node n client ok h i nn kk v t := by
  refine ⟨?_, hok.2.1, hok.2.2⟩
  have hk0 := hok.1
  unfold GuessRel at hr
  rcases hr with hr | hr | hr | hr | hr | hr | hr | hr | hr | hr | hr | hr | hr | hr | hr | hr
  · obtain ⟨_, hk, hx, y0, y1, y2, y3, y4, y5, y6, y7, y8⟩ := hr
    exact (.inl ⟨by omega, by omega, by omega, by omega, by omega, by omega, by omega, by omega, by omega, by omega⟩)
  · obtain ⟨_, hk, hx, y0, y1, y2, y3, y4, y5, y6, y7, y8⟩ := hr
    exact (.inr (.inl ⟨by omega, by omega, by omega, by omega, by omega, by omega, by omega, by omega, by omega, by omega⟩))
  · obtain ⟨_, hk, hx, y0, y1, y2, y3, y4, y5, y6, y7, y8⟩ := hr
    exact (.inr (.inr (.inl ⟨by omega, by omega, by omega, by omega, by omega, by omega, by omega, by omega, by omega, by omega⟩)))
  · obtain ⟨_, hk, hx, y0, y1, y2, y3, y4, y5, y6, y7, y8⟩ := hr
    exact (.inr (.inr (.inr (.inl ⟨by omega, by omega, by omega, by omega, by omega, by omega, by omega, by omega, by omega, by omega⟩))))
  · obtain ⟨_, hk, hx, y0, y1, y2, y3, y4, y5, y6, y7, y8⟩ := hr
    exact (.inr (.inr (.inr (.inr (.inl ⟨by omega, by omega, by omega, by omega, by omega, by omega, by omega, by omega, by omega, by omega⟩)))))
  · obtain ⟨_, hk, hx, y0, y1, y2, y3, y4, y5, y6, y7, y8⟩ := hr
    exact (.inr (.inr (.inr (.inr (.inr (.inl ⟨by omega, by omega, by omega, by omega, by omega, by omega, by omega, by omega, by omega, by omega⟩))))))
  · obtain ⟨_, hk, hx, _, y0, y1, y2, y3, y4, y5, y6, y7⟩ := hr
    exact (.inr (.inr (.inr (.inr (.inr (.inr (.inl ⟨by omega, by omega, by omega, by omega, by omega, by omega, by omega, by omega, by omega⟩)))))))
  · obtain ⟨_, hk, x1, x2, x3, ho, p0, p1, y0, y1, y2, y3⟩ := hr
    exact (.inr (.inr (.inr (.inr (.inr (.inr (.inr (.inl ⟨by omega, by omega, by omega, by omega, by omega, by omega, by omega, by omega⟩))))))))
  · obtain ⟨_, hk, x1, x2, x3, ho, p0, y0, y1, y2, y3, y4⟩ := hr
    exact (.inr (.inr (.inr (.inr (.inr (.inr (.inr (.inr (.inl ⟨by omega, by omega, by omega, by omega, by omega, by omega, by omega, by omega, by omega⟩)))))))))
  · obtain ⟨_, hk, x1, x2, x3, ho, p0, p1, p2, y0, y1, y2⟩ := hr
    exact (.inr (.inr (.inr (.inr (.inr (.inr (.inr (.inr (.inr (.inl ⟨by omega, by omega, by omega, by omega, by omega, by omega, by omega⟩))))))))))
  · obtain ⟨_, hk, x1, x2, x3, ho, p0, p1, p2, y0, y1, y2⟩ := hr
    exact (.inr (.inr (.inr (.inr (.inr (.inr (.inr (.inr (.inr (.inr (.inl ⟨by omega, by omega, by omega, by omega, by omega, by omega, by omega⟩)))))))))))
  · obtain ⟨_, hk, x1, x2, x3, ho, p0, p1, y0, y1, y2, y3⟩ := hr
    exact (.inr (.inr (.inr (.inr (.inr (.inr (.inr (.inr (.inr (.inr (.inr (.inl ⟨by omega, by omega, by omega, by omega, by omega, by omega, by omega, by omega⟩))))))))))))
  · obtain ⟨_, hk, x1, x2, x3, ho, p0, p1, y0, y1, y2, y3⟩ := hr
    exact (.inr (.inr (.inr (.inr (.inr (.inr (.inr (.inr (.inr (.inr (.inr (.inr (.inl ⟨by omega, by omega, by omega, by omega, by omega, by omega, by omega, by omega⟩)))))))))))))
  · obtain ⟨_, hk, x1, x2, x3, ho, p0, p1, y0, y1, y2, y3⟩ := hr
    exact (.inr (.inr (.inr (.inr (.inr (.inr (.inr (.inr (.inr (.inr (.inr (.inr (.inr (.inl ⟨by omega, by omega, by omega, by omega, by omega, by omega, by omega, by omega⟩))))))))))))))
  · obtain ⟨_, hk, x1, x2, x3, ho, p0, y0, y1, y2, y3, y4⟩ := hr
    exact (.inr (.inr (.inr (.inr (.inr (.inr (.inr (.inr (.inr (.inr (.inr (.inr (.inr (.inr (⟨by omega, by omega, by omega, by omega, by omega, by omega, by omega, by omega, by omega⟩)))))))))))))))
  · exact absurd hr.2.1 hk0
/-- What desk's Parse and the document's tell is the same. -/
theorem parses_same {s : ByteArray} {k node n client ok h i nn kk v t k' node' n' client' ok' h' i' nn' kk' v' t' c c' : Int} (h1 : ParseRel s k node n client ok h i nn kk v t c) (h2 : ParseRR s k' node' n' client' ok' h' i' nn' kk' v' t' c') : (c' = c ∧ k' = k ∧ node' = node ∧ n' = n ∧ client' = client ∧ ok' = ok ∧ h' = h ∧ i' = i ∧ nn' = nn ∧ kk' = kk ∧ v' = v ∧ t' = t) ∧ (c = 0 → Good s k node n client ok h i nn kk v t) ∧ (c = 0 ∨ c = 190) := by
  rcases h1 with ⟨hl, hc, z0, z1, z2, z3, z4, z5, z6, z7, z8, z9, z10⟩ | ⟨hl, s0, st1, hw, k1, node1, n1, client1, ok1, h1, i1, nn1, kk1, v1, t1, st', ha, hcase⟩
  · rcases h2 with ⟨_, hc', y0, y1, y2, y3, y4, y5, y6, y7, y8, y9, y10⟩ | ⟨hl2, _⟩
    · exact ⟨⟨by omega, by omega, by omega, by omega, by omega, by omega, by omega, by omega, by omega, by omega, by omega, by omega⟩, fun h => by omega, .inr hc⟩
    · omega
  rcases h2 with ⟨hl2, _⟩ | ⟨_, s1, hs1, k2, node2, n2, client2, ok2, h2, i2, nn2, kk2, v2, t2, hr, hcase2⟩
  · omega
  rcases hcase with ⟨hst, hc, z0, z1, z2, z3, z4, z5, z6, z7, z8, z9, z10⟩ | ⟨hst, hc, z0, z1, z2, z3, z4, z5, z6, z7, z8, z9, z10⟩
  · rw [hst] at ha
    have hg := parse_sound hw ha
    obtain ⟨e0, e1, e2, e3, e4, e5, e6, e7, e8, e9, e10⟩ := ref_complete hg hs1 hr
    have hgs : Good s k node n client ok h i nn kk v t := by
      rw [z0, z1, z2, z3, z4, z5, z6, z7, z8, z9, z10]
      exact hg
    have hok : OkP s k2 node2 n2 client2 ok2 h2 i2 nn2 kk2 v2 t2 := by
      rw [e0, e1, e2, e3, e4, e5, e6, e7, e8, e9, e10]
      refine ⟨?_, hg.2.1, hg.2.2⟩
      have hcan := hg.1
      unfold Canon at hcan
      rcases hcan with q | q | q | q | q | q | q | q | q | q | q | q | q | q | q <;> omega
    rcases hcase2 with ⟨_, hc', y0, y1, y2, y3, y4, y5, y6, y7, y8, y9, y10⟩ | ⟨hn, _⟩
    · exact ⟨⟨by omega, by omega, by omega, by omega, by omega, by omega, by omega, by omega, by omega, by omega, by omega, by omega⟩, fun _ => hgs, .inl hc⟩
    · exact absurd hok hn
  · rcases hcase2 with ⟨hok, _⟩ | ⟨_, hc', y0, y1, y2, y3, y4, y5, y6, y7, y8, y9, y10⟩
    · exact absurd (parse_complete (ref_sound hr hok) hw ha).1 hst
    · exact ⟨⟨by omega, by omega, by omega, by omega, by omega, by omega, by omega, by omega, by omega, by omega, by omega, by omega⟩, fun h => by omega, .inr hc⟩
end Go.Proofs.YtehhgpnaemffnaaDoor
