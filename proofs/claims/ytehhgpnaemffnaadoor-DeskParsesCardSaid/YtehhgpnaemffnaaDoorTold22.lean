/- What the two Parses tell of a line. -/
import Derived.Test.YtehhgpnaemffnaaDoorSame22
namespace Go.Proofs.YtehhgpnaemffnaaDoor
open Go.RowKit

def Told (s : ByteArray) (k node n client ok h i nn kk v t c : Int) : Prop :=
  (c = 0 ∧ Good s k node n client ok h i nn kk v t ∧ ∀ k' node' n' client' ok' h' i' nn' kk' v' t' : Int, Good s k' node' n' client' ok' h' i' nn' kk' v' t' → k' = k ∧ node' = node ∧ n' = n ∧ client' = client ∧ ok' = ok ∧ h' = h ∧ i' = i ∧ nn' = nn ∧ kk' = kk ∧ v' = v ∧ t' = t) ∨ (c = 190 ∧ (k = 0 ∧ node = 0 ∧ n = 0 ∧ client = 0 ∧ ok = 0 ∧ h = 0 ∧ i = 0 ∧ nn = 0 ∧ kk = 0 ∧ v = 0 ∧ t = 0) ∧ ∀ k' node' n' client' ok' h' i' nn' kk' v' t' : Int, ¬ Good s k' node' n' client' ok' h' i' nn' kk' v' t')
theorem Good.kind {s : ByteArray} {k node n client ok h i nn kk v t : Int} (hg : Good s k node n client ok h i nn kk v t) : 0 ≤ k ∧ k ≤ 8 ∧ 0 ≤ ok ∧ ok ≤ 8 := by
  have hcan := hg.1
  unfold Canon at hcan
  rcases hcan with q | q | q | q | q | q | q | q | q | q | q | q | q | q | q <;> omega
theorem Good.short {s : ByteArray} {k node n client ok h i nn kk v t : Int} (hg : Good s k node n client ok h i nn kk v t) : s.size ≤ 200 := by
  obtain ⟨hc, hf, ht⟩ := hg
  obtain ⟨wk, wnode, wn, wclient, wok, wh, wi, wnn, wkk, wv, wt⟩ := hf.fit (Good.kind ⟨hc, hf, ht⟩)
  rw [← ht]
  have hb : ∀ (nm : ByteArray) (l : List Int), nm.size ≤ 10 → l.length ≤ 4 → (∀ x ∈ l, I64 x) → (nm ++ numsB l).size ≤ 100 := by
    intro nm l h1 h2 h3
    have := numsB_size l h3
    rw [ByteArray.size_append]
    omega
  unfold Canon at hc
  rcases hc with q | q | q | q | q | q | q | q | q | q | q | q | q | q | q
  · rw [text_of_tick q.1]
    have := hb nmTick [node] (by decide) (by simp) (by intro x hx; simp only [List.mem_cons, List.not_mem_nil, or_false] at hx; rcases hx with rfl <;> assumption)
    omega
  · rw [text_of_start q.1]
    have := hb nmStart [node] (by decide) (by simp) (by intro x hx; simp only [List.mem_cons, List.not_mem_nil, or_false] at hx; rcases hx with rfl <;> assumption)
    omega
  · rw [text_of_deliver q.1]
    have := hb nmDeliver [n] (by decide) (by simp) (by intro x hx; simp only [List.mem_cons, List.not_mem_nil, or_false] at hx; rcases hx with rfl <;> assumption)
    omega
  · rw [text_of_drop q.1]
    have := hb nmDrop [n] (by decide) (by simp) (by intro x hx; simp only [List.mem_cons, List.not_mem_nil, or_false] at hx; rcases hx with rfl <;> assumption)
    omega
  · rw [text_of_double q.1]
    have := hb nmDouble [n] (by decide) (by simp) (by intro x hx; simp only [List.mem_cons, List.not_mem_nil, or_false] at hx; rcases hx with rfl <;> assumption)
    omega
  · rw [text_of_retry q.1]
    have := hb nmRetry [client] (by decide) (by simp) (by intro x hx; simp only [List.mem_cons, List.not_mem_nil, or_false] at hx; rcases hx with rfl <;> assumption)
    omega
  · by_cases hn : n < 0
    · rw [text_of_now q.1 hn, ByteArray.size_append]
      have := hb nmCrash [node] (by decide) (by simp) (by intro x hx; simp only [List.mem_cons, List.not_mem_nil, or_false] at hx; rcases hx with rfl <;> assumption)
      have h4 : behindNow.size = 4 := rfl
      omega
    · rw [text_of_crash q.1 hn]
      have := hb nmCrash [node, n] (by decide) (by simp) (by intro x hx; simp only [List.mem_cons, List.not_mem_nil, or_false] at hx; rcases hx with rfl | rfl <;> assumption)
      omega
  · rw [text_of_alloc q.1 q.2.1]
    have := hb nmAlloc [client, nn, kk] (by decide) (by simp) (by intro x hx; simp only [List.mem_cons, List.not_mem_nil, or_false] at hx; rcases hx with rfl | rfl | rfl <;> assumption)
    omega
  · rw [text_of_free q.1 q.2.1]
    have := hb nmFree [client, h] (by decide) (by simp) (by intro x hx; simp only [List.mem_cons, List.not_mem_nil, or_false] at hx; rcases hx with rfl | rfl <;> assumption)
    omega
  · rw [text_of_write q.1 q.2.1]
    have := hb nmWrite [client, h, i, v] (by decide) (by simp) (by intro x hx; simp only [List.mem_cons, List.not_mem_nil, or_false] at hx; rcases hx with rfl | rfl | rfl | rfl <;> assumption)
    omega
  · rw [text_of_link q.1 q.2.1]
    have := hb nmLink [client, h, i, t] (by decide) (by simp) (by intro x hx; simp only [List.mem_cons, List.not_mem_nil, or_false] at hx; rcases hx with rfl | rfl | rfl | rfl <;> assumption)
    omega
  · rw [text_of_root q.1 q.2.1]
    have := hb nmRoot [client, i, t] (by decide) (by simp) (by intro x hx; simp only [List.mem_cons, List.not_mem_nil, or_false] at hx; rcases hx with rfl | rfl | rfl <;> assumption)
    omega
  · rw [text_of_read q.1 q.2.1]
    have := hb nmRead [client, h, i] (by decide) (by simp) (by intro x hx; simp only [List.mem_cons, List.not_mem_nil, or_false] at hx; rcases hx with rfl | rfl | rfl <;> assumption)
    omega
  · rw [text_of_follow q.1 q.2.1]
    have := hb nmFollow [client, h, i] (by decide) (by simp) (by intro x hx; simp only [List.mem_cons, List.not_mem_nil, or_false] at hx; rcases hx with rfl | rfl | rfl <;> assumption)
    omega
  · rw [text_of_top q.1 q.2.1]
    have := hb nmTop [client, i] (by decide) (by simp) (by intro x hx; simp only [List.mem_cons, List.not_mem_nil, or_false] at hx; rcases hx with rfl | rfl <;> assumption)
    omega
theorem ParseRel.told {s : ByteArray} {k node n client ok h i nn kk v t c : Int} (h1 : ParseRel s k node n client ok h i nn kk v t c) : Told s k node n client ok h i nn kk v t c := by
  rcases h1 with ⟨hl, hc, z0, z1, z2, z3, z4, z5, z6, z7, z8, z9, z10⟩ | ⟨hl, s0, st1, hw, k1, node1, n1, client1, ok1, h1, i1, nn1, kk1, v1, t1, st', ha, hcase⟩
  · exact .inr ⟨hc, ⟨z0, z1, z2, z3, z4, z5, z6, z7, z8, z9, z10⟩, fun _ _ _ _ _ _ _ _ _ _ _ hg => by have := hg.short; omega⟩
  rcases hcase with ⟨hst, hc, z0, z1, z2, z3, z4, z5, z6, z7, z8, z9, z10⟩ | ⟨hst, hc, hz⟩
  · have hg : Good s k node n client ok h i nn kk v t := by
      rw [z0, z1, z2, z3, z4, z5, z6, z7, z8, z9, z10]
      rw [hst] at ha
      exact parse_sound hw ha
    refine .inl ⟨hc, hg, fun k' node' n' client' ok' h' i' nn' kk' v' t' hg' => ?_⟩
    obtain ⟨_, e0, e1, e2, e3, e4, e5, e6, e7, e8, e9, e10⟩ := parse_complete hg' hw ha
    exact ⟨by omega, by omega, by omega, by omega, by omega, by omega, by omega, by omega, by omega, by omega, by omega⟩
  · exact .inr ⟨hc, hz, fun k' node' n' client' ok' h' i' nn' kk' v' t' hg' => hst (parse_complete hg' hw ha).1⟩
theorem ParseRR.told {s : ByteArray} {k node n client ok h i nn kk v t c : Int} (h1 : ParseRR s k node n client ok h i nn kk v t c) : Told s k node n client ok h i nn kk v t c := by
  rcases h1 with ⟨hl, hc, z0, z1, z2, z3, z4, z5, z6, z7, z8, z9, z10⟩ | ⟨hl, s0, hs0, k1, node1, n1, client1, ok1, h1, i1, nn1, kk1, v1, t1, hr, hcase⟩
  · exact .inr ⟨hc, ⟨z0, z1, z2, z3, z4, z5, z6, z7, z8, z9, z10⟩, fun _ _ _ _ _ _ _ _ _ _ _ hg => by have := hg.short; omega⟩
  rcases hcase with ⟨hok, hc, z0, z1, z2, z3, z4, z5, z6, z7, z8, z9, z10⟩ | ⟨hok, hc, hz⟩
  · have hg : Good s k node n client ok h i nn kk v t := by
      rw [z0, z1, z2, z3, z4, z5, z6, z7, z8, z9, z10]
      exact ref_sound hr hok
    refine .inl ⟨hc, hg, fun k' node' n' client' ok' h' i' nn' kk' v' t' hg' => ?_⟩
    obtain ⟨e0, e1, e2, e3, e4, e5, e6, e7, e8, e9, e10⟩ := ref_complete hg' hs0 hr
    exact ⟨by omega, by omega, by omega, by omega, by omega, by omega, by omega, by omega, by omega, by omega, by omega⟩
  · refine .inr ⟨hc, hz, fun k' node' n' client' ok' h' i' nn' kk' v' t' hg' => hok ?_⟩
    obtain ⟨e0, e1, e2, e3, e4, e5, e6, e7, e8, e9, e10⟩ := ref_complete hg' hs0 hr
    rw [e0, e1, e2, e3, e4, e5, e6, e7, e8, e9, e10]
    refine ⟨?_, hg'.2.1, hg'.2.2⟩
    have hcan := hg'.1
    unfold Canon at hcan
    rcases hcan with q | q | q | q | q | q | q | q | q | q | q | q | q | q | q <;> omega
theorem Told.same {s : ByteArray} {k node n client ok h i nn kk v t k' node' n' client' ok' h' i' nn' kk' v' t' c c' : Int} (h1 : Told s k node n client ok h i nn kk v t c) (h2 : Told s k' node' n' client' ok' h' i' nn' kk' v' t' c') : c' = c ∧ k' = k ∧ node' = node ∧ n' = n ∧ client' = client ∧ ok' = ok ∧ h' = h ∧ i' = i ∧ nn' = nn ∧ kk' = kk ∧ v' = v ∧ t' = t := by
  rcases h1 with ⟨hc, hg, hu⟩ | ⟨hc, hz, hn⟩
  · rcases h2 with ⟨hc', hg', _⟩ | ⟨_, _, hn'⟩
    · exact ⟨by omega, hu _ _ _ _ _ _ _ _ _ _ _ hg'⟩
    · exact absurd hg (hn' _ _ _ _ _ _ _ _ _ _ _)
  · rcases h2 with ⟨_, hg', _⟩ | ⟨hc', hz', _⟩
    · exact absurd hg' (hn _ _ _ _ _ _ _ _ _ _ _)
    · obtain ⟨a0, a1, a2, a3, a4, a5, a6, a7, a8, a9, a10⟩ := hz
      obtain ⟨b0, b1, b2, b3, b4, b5, b6, b7, b8, b9, b10⟩ := hz'
      exact ⟨by omega, by omega, by omega, by omega, by omega, by omega, by omega, by omega, by omega, by omega, by omega, by omega⟩
/-- What a Print tells. -/
def PTold (k node n client ok h i nn kk v t : Int) (S : ByteArray) (c : Int) : Prop :=
  (c = 0 ∧ Good (textB k node n client ok h i nn kk v t) k node n client ok h i nn kk v t ∧ S = textB k node n client ok h i nn kk v t) ∨ (c = 190 ∧ S = ⟨#[]⟩ ∧ ¬ Good (textB k node n client ok h i nn kk v t) k node n client ok h i nn kk v t)
end Go.Proofs.YtehhgpnaemffnaaDoor
