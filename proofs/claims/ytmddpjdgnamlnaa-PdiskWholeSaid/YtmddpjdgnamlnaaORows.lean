/- A row that lies anywhere in a block of one's own: reading, dropping, appending. -/
import Derived.Test.YtmddpjdgnamlnaaBlk
import Derived.ArgAppend
import Derived.Laws.CopyRow
namespace Go.Proofs.Ytmddpjdgnamlnaa
open Go.RowKit

def ORow (w : World) (S : Nat → Prop) (e : TypeId) (k : Nat) (v : Value) (n : Nat) (xs : List Value) : Prop :=
  xs.length = n * k ∧ ((v = .slice none 0 0 ∧ n = 0) ∨
    ∃ g off cap cur, v = .slice (some ⟨g, off, none⟩) n cap ∧ S g ∧ w.heap[g]? = some (.cells cur e (0, 0)) ∧ n ≤ cap ∧ cap ≤ maxLen ∧ off + cap * k ≤ cur.size ∧ (cur.toList.drop off).take (n * k) = xs)
section
variable {w w' : World} {S T : Nat → Prop} {e : TypeId} {k n : Nat} {v : Value} {xs : List Value}
theorem ORow.nil (w : World) (S : Nat → Prop) (e : TypeId) (k : Nat) : ORow w S e k (.slice none 0 0) 0 [] := ⟨by simp, .inl ⟨rfl, rfl⟩⟩
theorem ORow.of_own {base : Nat} (h : w.ownsRow base e k v n xs) (hS : ∀ i, base ≤ i → i < w.heap.size → S i) : ORow w S e k v n xs := by
  refine ⟨h.1, ?_⟩
  rcases h.2 with h2 | ⟨g, cap, cur, hv, hb, hg, hn, hm, hs, ht⟩
  · exact .inl h2
  · exact .inr ⟨g, 0, cap, cur, hv, hS g hb (Array.getElem?_eq_some_iff.1 hg).1, hg, hn, hm, by omega, by simpa using ht⟩
theorem ORow.kept (h : ORow w S e k v n xs) (hb : ∀ i c, S i → some i = v.ownBlock → w.heap[i]? = some (.cells c e (0, 0)) → w'.heap[i]? = w.heap[i]?) (hT : ∀ i, i < w.heap.size → S i → T i) : ORow w' T e k v n xs := by
  refine ⟨h.1, ?_⟩
  rcases h.2 with h2 | ⟨g, off, cap, cur, hv, hs, hg, r⟩
  · exact .inl h2
  · refine .inr ⟨g, off, cap, cur, hv, hT g (Array.getElem?_eq_some_iff.1 hg).1 hs, (hb g cur hs (by rw [hv]; rfl) hg).trans hg, r⟩
theorem ORow.mono (h : ORow w S e k v n xs) (hT : ∀ i, i < w.heap.size → S i → T i) : ORow w T e k v n xs := h.kept (fun _ _ _ _ _ => rfl) hT
theorem ORow.below (h : ORow w S e k v n xs) (hb : Below w.heap.size w w') : ORow w' S e k v n xs := h.kept (fun i _ _ _ hi => hb.block i (Array.getElem?_eq_some_iff.1 hi).1) (fun _ _ h => h)
theorem ORow.chg (h : ORow w S e k v n xs) (hc : Chg T w w') (hn : ∀ i, some i = v.ownBlock → ¬ T i) : ORow w' S e k v n xs := h.kept (fun i _ _ hi hg => hc.block i (Array.getElem?_eq_some_iff.1 hg).1 (hn i hi)) (fun _ _ h => h)
theorem ORow.slice (h : ORow w S e k v n xs) : ∃ A c, v = .slice A n c ∧ n ≤ c ∧ c ≤ maxLen := by
  rcases h.2 with ⟨rfl, rfl⟩ | ⟨g, off, cap, cur, rfl, _, _, hn, hm, _⟩
  · exact ⟨none, 0, rfl, Nat.le_refl _, by unfold maxLen; omega⟩
  · exact ⟨_, cap, rfl, hn, hm⟩
theorem ORow.rd {A : Option Addr} {c : Nat} (h : ORow w S e k (.slice A n c) n xs) : Rd w w.heap.size A xs := by
  rcases h.2 with ⟨hv, rfl⟩ | ⟨g, off, cap, cur, hv, _, hg, hn, _, hs, ht⟩
  · exact .inl (List.eq_nil_of_length_eq_zero (by simpa using h.1))
  · have hA : A = some ⟨g, off, none⟩ := by injection hv
    subst hA
    refine .inr ⟨g, off, rfl, (Array.getElem?_eq_some_iff.1 hg).1, fun j u hu => ?_⟩
    rw [← ht, List.getElem?_take] at hu
    split at hu
    · rw [List.getElem?_drop] at hu
      simp only [World.cell?, hg]
      simpa using hu
    · cases hu
/-- The block of a row. -/
theorem ORow.form (h : ORow w S e k v n xs) (hn : 0 < n) : ∃ g off cap cur, v = .slice (some ⟨g, off, none⟩) n cap ∧ S g ∧ w.heap[g]? = some (.cells cur e (0, 0)) ∧ n ≤ cap ∧ cap ≤ maxLen ∧ off + cap * k ≤ cur.size ∧ (cur.toList.drop off).take (n * k) = xs := by
  rcases h.2 with ⟨_, h0⟩ | h
  · omega
  · exact h
theorem ORow.lt (h : ORow w S e k v n xs) : ∀ i, some i = v.ownBlock → S i ∧ i < w.heap.size := by
  intro i hi
  rcases h.2 with ⟨rfl, _⟩ | ⟨g, off, cap, cur, rfl, hs, hg, _⟩
  · cases hi
  · obtain rfl : i = g := by simpa [Value.ownBlock] using hi
    exact ⟨hs, (Array.getElem?_eq_some_iff.1 hg).1⟩
/-- A row of one kind is not a block of another. -/
theorem ORow.not_blk (h : ORow w S e k v n xs) {g : Nat} {t : TypeId} {cs : List Value} (hb : Blk w g t cs) (hte : t ≠ e) : some g ≠ v.ownBlock := by
  intro hi
  rcases h.2 with ⟨rfl, _⟩ | ⟨g', off, cap, cur, rfl, hs, hg, _⟩
  · cases hi
  · obtain rfl : g = g' := by simpa [Value.ownBlock] using hi
    have := (show w.heap[g]? = _ from hb).symm.trans hg
    simp at this
    exact hte this.2
theorem ORow.not_row {S' : Nat → Prop} {e' : TypeId} {k' n' : Nat} {v' : Value} {xs' : List Value} (h : ORow w S e k v n xs) (h' : ORow w S' e' k' v' n' xs') (hte : e ≠ e') : ∀ i, some i = v.ownBlock → some i ≠ v'.ownBlock := by
  intro i hi hi'
  rcases h.2 with ⟨rfl, _⟩ | ⟨g, off, cap, cur, rfl, hs, hg, _⟩
  · cases hi
  · rcases h'.2 with ⟨rfl, _⟩ | ⟨g', off', cap', cur', rfl, hs', hg', _⟩
    · cases hi'
    · obtain rfl : i = g := by simpa [Value.ownBlock] using hi
      obtain rfl : i = g' := by simpa [Value.ownBlock] using hi'
      have := hg.symm.trans hg'
      simp at this
      exact hte this.2
theorem ORow.tag (h : ORow w S e k v n xs) {i : Nat} (hi : some i = v.ownBlock) : ∃ c, w.heap[i]? = some (.cells c e (0, 0)) := by
  rcases h.2 with ⟨rfl, _⟩ | ⟨g, off, cap, cur, rfl, hs, hg, _⟩
  · cases hi
  · obtain rfl : i = g := by simpa [Value.ownBlock] using hi
    exact ⟨_, hg⟩
/-- What stands behind the first j. -/
theorem ORow.drop {j : Nat} {g off cap : Nat} (h : ORow w S e k (.slice (some ⟨g, off, none⟩) n cap) n xs) (hj : j ≤ n) : ORow w S e k (.slice (some ⟨g, if cap = j then off else off + j * k, none⟩) (n - j) (cap - j)) (n - j) (xs.drop (j * k)) := by
  have hl := h.1
  refine ⟨by rw [List.length_drop, hl, Nat.sub_mul], ?_⟩
  rcases h.2 with ⟨hv, _⟩ | ⟨g', off', cap', cur, hv, hs, hg, hn, hm, hsz, ht⟩
  · cases hv
  · cases hv
    refine .inr ⟨g, _, cap - j, cur, rfl, hs, hg, by omega, by omega, ?_, ?_⟩
    · split
      · rename_i hc
        rw [hc, Nat.sub_self, Nat.zero_mul]
        omega
      · have : j * k + (cap - j) * k = cap * k := by rw [← Nat.add_mul]; congr 1; omega
        omega
    · rw [← ht, List.drop_take]
      split
      · rename_i hc
        have h0 : n - j = 0 := by omega
        rw [h0, Nat.zero_mul, List.take_zero, show n * k - j * k = 0 by rw [← Nat.sub_mul, h0, Nat.zero_mul], List.take_zero]
      · rw [List.drop_drop, Nat.sub_mul]
end

section
variable {P : Program} (w : World)
theorem run_append_room_off (t ty e : TypeId) (i : TypeInfo) (ht : P.underlying t = some (.slice e)) (hi : P.info? e = some i)
    (g off sLen sCap : Nat) (cur : Array Value) (hg : w.heap[g]? = some (.cells cur e (0, 0)))
    (a : Addr) (m c : Nat) (news : List Value) (hl : news.length = m * i.size) (hnews : ∀ j u, news[j]? = some u → w.cell? (a.add j) = some u) (h1 : ∀ u ∈ news, u.oneCell' = true)
    (hroom : sLen + m ≤ sCap) (hfit : off + sLen * i.size + news.length ≤ cur.size) :
    (Builtin.append_ #[t, t] ty #[.slice (some ⟨g, off, none⟩) sLen sCap, .slice (some a) m c]).run P w =
      .ok (.slice (some ⟨g, off, none⟩) (sLen + m) sCap) (w.setRow g (cur.toList.take (off + sLen * i.size) ++ news ++ cur.toList.drop (off + sLen * i.size + news.length)).toArray) := by
  have hf := run_firstCells_some (P := P) w i.size m a m c news hl hnews
  have hst := run_storeCells_at P g (off + sLen * i.size) e news 0 cur w hg (by simpa using hfit) h1
  simp only [Nat.add_zero] at hst
  simp [Builtin.append_, run_underlying ht, sizeOf, typeInfo, hi, Builtin.lenOf, hroom, hf, Addr.add_lit, hst]

theorem run_append_orow (t ty e : TypeId) (i : TypeInfo) (z : Value) (size bytes : Nat) (ht : P.underlying t = some (.slice e)) (hi : P.info? e = some i) (hz : i.zero = some z)
    (hsize : i.size = size) (hby : i.bytes = bytes) (hzs : z.cells.size = size) (hsz : 0 < size)
    (S : Nat → Prop) (v : Value) (n : Nat) (xs : List Value) (hrow : ORow w S e size v n xs) (hS : ∀ i, w.heap.size ≤ i → S i)
    (a : Addr) (m c : Nat) (news : List Value) (hl : news.length = m * size) (hnews : ∀ j u, news[j]? = some u → w.cell? (a.add j) = some u) (h1 : ∀ u ∈ news, u.oneCell' = true)
    (h63 : n + m ≤ maxLen) (hbytes : (n + m) * bytes ≤ 140737488355328) :
    ∃ v' w', (Builtin.append_ #[t, t] ty #[v, .slice (some a) m c]).run P w = .ok v' w' ∧ ORow w' S e size v' (n + m) (xs ++ news) ∧ Chg (fun k => some k = v.ownBlock) w w' ∧
      (∀ k, some k = v'.ownBlock → some k = v.ownBlock ∨ w.heap.size ≤ k) := by
  have hlen : (xs ++ news).length = (n + m) * size := by rw [List.length_append, hrow.1, hl, Nat.add_mul]
  rcases hrow.2 with ⟨rfl, rfl⟩ | ⟨g, off, cap, cur, rfl, hs, hg, hn, hm, hcs, htk⟩
  · obtain ⟨v', w', hrun, r1, r2, _⟩ := run_append_own (P := P) w w.heap.size t ty e i z size bytes ht hi hz hsize hby hzs hsz (.slice none 0 0) 0 xs (by have : xs = [] := List.eq_nil_of_length_eq_zero (by simpa using hrow.1); subst this; exact World.ownsRow_nil w _ e size) a m c news hl hnews h1 h63 hbytes (Nat.le_refl _)
    exact ⟨v', w', hrun, ORow.of_own r1 (fun i hi _ => hS i hi), ⟨r2.os, r2.tape, r2.output, r2.size, fun k hk _ => r2.block k hk (by simp [Value.ownBlock])⟩, fun k hk => .inr (r1.lt k hk.symm).1⟩
  · by_cases hr : n + m ≤ cap
    · subst hsize
      have hfit : off + n * i.size + news.length ≤ cur.size := by
        rw [hl, Nat.add_assoc, ← Nat.add_mul]
        exact Nat.le_trans (Nat.add_le_add_left (Nat.mul_le_mul_right _ hr) _) hcs
      have hrun := run_append_room_off (P := P) w t ty e i ht hi g off n cap cur hg a m c news hl hnews h1 hr hfit
      refine ⟨_, _, hrun, ⟨hlen, .inr ⟨g, off, cap, _, rfl, hs, setRow_heap w g cur _ e _ hg, hr, hm, ?_, ?_⟩⟩, ?_, fun k hk => .inl hk⟩
      · simp only [List.size_toArray, List.length_append, List.length_take, List.length_drop, Array.length_toList]
        omega
      · have hx : ((cur.toList.drop off).take (n * i.size)).length = n * i.size := by rw [htk, hrow.1]
        have hx2 : off + n * i.size ≤ cur.toList.length := by rw [Array.length_toList]; omega
        rw [← hlen, List.drop_append_of_le_length (by simp; omega), List.drop_append_of_le_length (by simp; omega), List.drop_take]
        rw [show off + n * i.size - off = n * i.size by omega, htk]
        exact List.take_left
      · exact ⟨rfl, rfl, rfl, by simp, fun k _ hk => setRow_other w g k _ (fun e => hk (by simp [Value.ownBlock, e]))⟩
    · obtain ⟨v', w', hrun, r1, r2⟩ := run_append_arg_grows (P := P) w t ty e i z size bytes ht hi hz hsize hby hzs hsz ⟨g, off, none⟩ n cap xs hrow.1 (fun j u hj => by
        rw [Addr.add_lit, cell_of_row w g _ cur e _ hg]
        rw [← htk, List.getElem?_take] at hj
        split at hj
        · rw [List.getElem?_drop] at hj; simpa using hj
        · cases hj) a m c news hl hnews (by omega) h63 hbytes
      exact ⟨v', w', hrun, ORow.of_own r1 (fun i hi _ => hS i hi), ⟨r2.os, r2.tape, r2.output, r2.size, fun k hk _ => r2.block k hk (by simp)⟩, fun k hk => .inr (r1.lt k hk.symm).1⟩

theorem wpList_append_orow {ops : Array Oper} {rest : List Oper} {o : Oper} {a : Act} {Q : Exit → Act → World → Prop} (hgd : o.guard = none) (s x : Operand) (t : TypeId)
    (ho : o.op = .call { callee := .builtin .append, args := #[s, x], argTypes := #[t, t] })
    (e : TypeId) (i : TypeInfo) (z : Value) (size bytes : Nat) (ht : P.underlying t = some (.slice e)) (hi : P.info? e = some i) (hz : i.zero = some z)
    (hsize : i.size = size) (hby : i.bytes = bytes) (hzs : z.cells.size = size) (hsz : 0 < size)
    (S : Nat → Prop) (v : Value) (n : Nat) (xs : List Value) (hs : a.eval s = v) (hrow : ORow w S e size v n xs) (hS : ∀ i, w.heap.size ≤ i → S i)
    (ad : Addr) (m c : Nat) (news : List Value) (hx : a.eval x = .slice (some ad) m c) (hl : news.length = m * size) (hnews : ∀ j u, news[j]? = some u → w.cell? (ad.add j) = some u) (h1 : ∀ u ∈ news, u.oneCell' = true)
    (h63 : n + m ≤ maxLen) (hbytes : (n + m) * bytes ≤ 140737488355328)
    (h : ∀ v' w', ORow w' S e size v' (n + m) (xs ++ news) → Chg (fun k => some k = v.ownBlock) w w' → (∀ k, some k = v'.ownBlock → some k = v.ownBlock ∨ w.heap.size ≤ k) → wpList P ops Q rest (a.put o.dst v') w') :
    wpList P ops Q (o :: rest) a w := by
  refine wpList_plain hgd fun K hK => ?_
  obtain ⟨v', w', hr, h2, h3, h4⟩ := run_append_orow (P := P) w t o.type e i z size bytes ht hi hz hsize hby hzs hsz S v n xs hrow hS ad m c news hl hnews h1 h63 hbytes
  unfold Oper.wp execOp
  simp only [ho, resolve, invoke, builtin, Sem.run_bind, Sem.run_pure, Result.andThen_ok, List.map_toArray, List.map_cons, List.map_nil, hs, hx, hr]
  exact hK _ _ (h v' w' h2 h3 h4)
end
end Go.Proofs.Ytmddpjdgnamlnaa
