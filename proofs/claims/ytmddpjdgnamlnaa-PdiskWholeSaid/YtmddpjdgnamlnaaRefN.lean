/- The document's New. -/
import Derived.Test.YtmddpjdgnamlnaaRefE
import Derived.Test.YtmddpjdgnamlnaaORows
import Derived.Test.YtmddpjdgnamlnaaOpen
namespace Go.Proofs.Ytmddpjdgnamlnaa
open Go.RowKit
attribute [-go_sem] loadCellsFrom storeCells
attribute [local go_sem] storeCells_one run_makeMap

def Off0 (v : Value) : Prop := v = .slice none 0 0 ∨ ∃ g n c, v = .slice (some ⟨g, 0, none⟩) n c
theorem Off0.of_own {w : World} {base : Nat} {e : TypeId} {k n : Nat} {v : Value} {xs : List Value} (h : w.ownsRow base e k v n xs) : Off0 v := by
  rcases h.2 with ⟨hv, _⟩ | ⟨g, cap, cur, hv, _⟩
  · exact .inl hv
  · exact .inr ⟨g, n, cap, hv⟩
section
variable {P : Program} (w : World)
theorem run_append_orow0 (t ty e : TypeId) (i : TypeInfo) (z : Value) (size bytes : Nat) (ht : P.underlying t = some (.slice e)) (hi : P.info? e = some i) (hz : i.zero = some z)
    (hsize : i.size = size) (hby : i.bytes = bytes) (hzs : z.cells.size = size) (hsz : 0 < size)
    (S : Nat → Prop) (v : Value) (n : Nat) (xs : List Value) (hrow : ORow w S e size v n xs) (hS : ∀ i, w.heap.size ≤ i → S i)
    (a : Addr) (m c : Nat) (news : List Value) (hl : news.length = m * size) (hnews : ∀ j u, news[j]? = some u → w.cell? (a.add j) = some u) (h1 : ∀ u ∈ news, u.oneCell' = true)
    (h63 : n + m ≤ maxLen) (hbytes : (n + m) * bytes ≤ 140737488355328) :
    ∃ v' w', (Builtin.append_ #[t, t] ty #[v, .slice (some a) m c]).run P w = .ok v' w' ∧ ORow w' S e size v' (n + m) (xs ++ news) ∧ Chg (fun k => some k = v.ownBlock) w w' ∧
      (∀ k, some k = v'.ownBlock → some k = v.ownBlock ∨ w.heap.size ≤ k) ∧ (Off0 v → Off0 v') := by
  have hlen : (xs ++ news).length = (n + m) * size := by rw [List.length_append, hrow.1, hl, Nat.add_mul]
  rcases hrow.2 with ⟨rfl, rfl⟩ | ⟨g, off, cap, cur, rfl, hs, hg, hn, hm, hcs, htk⟩
  · obtain ⟨v', w', hrun, r1, r2, _⟩ := run_append_own (P := P) w w.heap.size t ty e i z size bytes ht hi hz hsize hby hzs hsz (.slice none 0 0) 0 xs (by have : xs = [] := List.eq_nil_of_length_eq_zero (by simpa using hrow.1); subst this; exact World.ownsRow_nil w _ e size) a m c news hl hnews h1 h63 hbytes (Nat.le_refl _)
    exact ⟨v', w', hrun, ORow.of_own r1 (fun i hi _ => hS i hi), ⟨r2.os, r2.tape, r2.output, r2.size, fun k hk _ => r2.block k hk (by simp [Value.ownBlock])⟩, fun k hk => .inr (r1.lt k hk.symm).1, fun _ => Off0.of_own r1⟩
  · by_cases hr : n + m ≤ cap
    · subst hsize
      have hfit : off + n * i.size + news.length ≤ cur.size := by
        rw [hl, Nat.add_assoc, ← Nat.add_mul]
        exact Nat.le_trans (Nat.add_le_add_left (Nat.mul_le_mul_right _ hr) _) hcs
      have hrun := run_append_room_off (P := P) w t ty e i ht hi g off n cap cur hg a m c news hl hnews h1 hr hfit
      refine ⟨_, _, hrun, ⟨hlen, .inr ⟨g, off, cap, _, rfl, hs, setRow_heap w g cur _ e _ hg, hr, hm, ?_, ?_⟩⟩, ?_, fun k hk => .inl hk, fun h => ?_⟩
      · simp only [List.size_toArray, List.length_append, List.length_take, List.length_drop, Array.length_toList]
        omega
      · have hx : ((cur.toList.drop off).take (n * i.size)).length = n * i.size := by rw [htk, hrow.1]
        have hx2 : off + n * i.size ≤ cur.toList.length := by rw [Array.length_toList]; omega
        rw [← hlen, List.drop_append_of_le_length (by simp; omega), List.drop_append_of_le_length (by simp; omega), List.drop_take]
        rw [show off + n * i.size - off = n * i.size by omega, htk]
        exact List.take_left
      · exact ⟨rfl, rfl, rfl, by simp, fun k _ hk => setRow_other w g k _ (fun e => hk (by simp [Value.ownBlock, e]))⟩
      · rcases h with h | ⟨g', n', c', h⟩
        · cases h
        · cases h
          exact .inr ⟨_, _, _, rfl⟩
    · obtain ⟨v', w', hrun, r1, r2⟩ := run_append_arg_grows (P := P) w t ty e i z size bytes ht hi hz hsize hby hzs hsz ⟨g, off, none⟩ n cap xs hrow.1 (fun j u hj => by
        rw [Addr.add_lit, cell_of_row w g _ cur e _ hg]
        rw [← htk, List.getElem?_take] at hj
        split at hj
        · rw [List.getElem?_drop] at hj; simpa using hj
        · cases hj) a m c news hl hnews (by omega) h63 hbytes
      exact ⟨v', w', hrun, ORow.of_own r1 (fun i hi _ => hS i hi), ⟨r2.os, r2.tape, r2.output, r2.size, fun k hk _ => r2.block k hk (by simp)⟩, fun k hk => .inr (r1.lt k hk.symm).1, fun _ => Off0.of_own r1⟩

theorem wpList_append_orow0 {ops : Array Oper} {rest : List Oper} {o : Oper} {a : Act} {Q : Exit → Act → World → Prop} (hgd : o.guard = none) (s x : Operand) (t : TypeId)
    (ho : o.op = .call { callee := .builtin .append, args := #[s, x], argTypes := #[t, t] })
    (e : TypeId) (i : TypeInfo) (z : Value) (size bytes : Nat) (ht : P.underlying t = some (.slice e)) (hi : P.info? e = some i) (hz : i.zero = some z)
    (hsize : i.size = size) (hby : i.bytes = bytes) (hzs : z.cells.size = size) (hsz : 0 < size)
    (S : Nat → Prop) (v : Value) (n : Nat) (xs : List Value) (hs : a.eval s = v) (hrow : ORow w S e size v n xs) (hS : ∀ i, w.heap.size ≤ i → S i)
    (ad : Addr) (m c : Nat) (news : List Value) (hx : a.eval x = .slice (some ad) m c) (hl : news.length = m * size) (hnews : ∀ j u, news[j]? = some u → w.cell? (ad.add j) = some u) (h1 : ∀ u ∈ news, u.oneCell' = true)
    (h63 : n + m ≤ maxLen) (hbytes : (n + m) * bytes ≤ 140737488355328)
    (h : ∀ v' w', ORow w' S e size v' (n + m) (xs ++ news) → Chg (fun k => some k = v.ownBlock) w w' → (∀ k, some k = v'.ownBlock → some k = v.ownBlock ∨ w.heap.size ≤ k) → (Off0 v → Off0 v') → wpList P ops Q rest (a.put o.dst v') w') :
    wpList P ops Q (o :: rest) a w := by
  refine wpList_plain hgd fun K hK => ?_
  obtain ⟨v', w', hr, h2, h3, h4, h5⟩ := run_append_orow0 (P := P) w t o.type e i z size bytes ht hi hz hsize hby hzs hsz S v n xs hrow hS ad m c news hl hnews h1 h63 hbytes
  unfold Oper.wp execOp
  simp only [ho, resolve, invoke, builtin, Sem.run_bind, Sem.run_pure, Result.andThen_ok, List.map_toArray, List.map_cons, List.map_nil, hs, hx, hr]
  exact hK _ _ (h v' w' h2 h3 h4 h5)
end

/-- The disk under construction. -/
structure NewAt (w : World) (gm : Nat) (v1 v2 v3 : Value) (k1 k2 k3 : Nat) : Prop where
  blk : Blk w gm 56 [v1, v2, v3, .bool false, .bool false, .int .i64 0]
  r1 : ∃ l, ORow w (fun i => gm < i) 9 1 v1 k1 (sv l)
  r2 : ∃ l, ORow w (fun i => gm < i) 9 1 v2 k2 (sv l)
  r3 : ∃ l, ORow w (fun i => gm < i) 4 1 v3 k3 (tv l)
  o1 : Off0 v1
  o2 : Off0 v2
  o3 : Off0 v3
  ap : ∀ i, some i = v1.ownBlock → some i ≠ v2.ownBlock
section
variable {w w' : World} {gm k1 k2 k3 : Nat} {v1 v2 v3 v' : Value}
theorem NewAt.below (h : NewAt w gm v1 v2 v3 k1 k2 k3) (hb : Below w.heap.size w w') : NewAt w' gm v1 v2 v3 k1 k2 k3 := by
  obtain ⟨l1, h1⟩ := h.r1
  obtain ⟨l2, h2⟩ := h.r2
  obtain ⟨l3, h3⟩ := h.r3
  exact ⟨h.blk.below hb h.blk.lt, ⟨l1, h1.below hb⟩, ⟨l2, h2.below hb⟩, ⟨l3, h3.below hb⟩, h.o1, h.o2, h.o3, h.ap⟩
theorem NewAt.app1 (h : NewAt w gm v1 v2 v3 k1 k2 k3) (h1 : ∃ l, ORow w' (fun i => gm < i) 9 1 v' (k1 + 1) (sv l)) (hc : Chg (fun k => some k = v1.ownBlock) w w') (hn : ∀ k, some k = v'.ownBlock → some k = v1.ownBlock ∨ w.heap.size ≤ k) (ho : Off0 v1 → Off0 v') :
    NewAt (w'.setCell ⟨gm, 0, none⟩ v') gm v' v2 v3 (k1 + 1) k2 k3 := by
  obtain ⟨l0, q1⟩ := h.r1
  obtain ⟨l1, h1⟩ := h1
  obtain ⟨l2, h2⟩ := h.r2
  obtain ⟨l3, h3⟩ := h.r3
  have hg : ¬ some gm = v1.ownBlock := fun e => by have := (q1.lt gm e).1; omega
  have hs : ∀ W : World, Chg (fun k => k = gm) W (W.setCell ⟨gm, 0, none⟩ v') := fun W => (Chg.refl (fun k => k = gm) W).setCell (.inr rfl) _ _
  have h2' := h2.chg hc (fun i hi ht => h.ap i ht hi)
  have h3' := h3.chg hc (fun i hi ht => q1.not_row h3 (by decide) i ht hi)
  refine ⟨(h.blk.chg hc hg).setCell 0 v', ⟨l1, h1.chg (hs _) fun i hi ht => ?_⟩, ⟨l2, h2'.chg (hs _) fun i hi ht => ?_⟩, ⟨l3, h3'.chg (hs _) fun i hi ht => ?_⟩, ho h.o1, h.o2, h.o3, fun i hi hi2 => ?_⟩
  · have := (h1.lt i hi).1; omega
  · have := (h2.lt i hi).1; omega
  · have := (h3.lt i hi).1; omega
  · rcases hn i hi with h4 | h4
    · exact h.ap i h4 hi2
    · have := (h2.lt i hi2).2; omega
theorem NewAt.app2 (h : NewAt w gm v1 v2 v3 k1 k2 k3) (h1 : ∃ l, ORow w' (fun i => gm < i) 9 1 v' (k2 + 1) (sv l)) (hc : Chg (fun k => some k = v2.ownBlock) w w') (hn : ∀ k, some k = v'.ownBlock → some k = v2.ownBlock ∨ w.heap.size ≤ k) (ho : Off0 v2 → Off0 v') :
    NewAt (w'.setCell ⟨gm, 1, none⟩ v') gm v1 v' v3 k1 (k2 + 1) k3 := by
  obtain ⟨l0, q1⟩ := h.r2
  obtain ⟨l1, h1⟩ := h1
  obtain ⟨l2, h2⟩ := h.r1
  obtain ⟨l3, h3⟩ := h.r3
  have hg : ¬ some gm = v2.ownBlock := fun e => by have := (q1.lt gm e).1; omega
  have hs : ∀ W : World, Chg (fun k => k = gm) W (W.setCell ⟨gm, 1, none⟩ v') := fun W => (Chg.refl (fun k => k = gm) W).setCell (.inr rfl) _ _
  have h2' := h2.chg hc (fun i hi ht => h.ap i hi ht)
  have h3' := h3.chg hc (fun i hi ht => q1.not_row h3 (by decide) i ht hi)
  refine ⟨(h.blk.chg hc hg).setCell 1 v', ⟨l2, h2'.chg (hs _) fun i hi ht => ?_⟩, ⟨l1, h1.chg (hs _) fun i hi ht => ?_⟩, ⟨l3, h3'.chg (hs _) fun i hi ht => ?_⟩, h.o1, ho h.o2, h.o3, fun i hi2 hi => ?_⟩
  · have := (h2.lt i hi).1; omega
  · have := (h1.lt i hi).1; omega
  · have := (h3.lt i hi).1; omega
  · rcases hn i hi with h4 | h4
    · exact h.ap i hi2 h4
    · have := (h2.lt i hi2).2; omega
theorem NewAt.app3 (h : NewAt w gm v1 v2 v3 k1 k2 k3) (h1 : ∃ l, ORow w' (fun i => gm < i) 4 1 v' (k3 + 1) (tv l)) (hc : Chg (fun k => some k = v3.ownBlock) w w') (ho : Off0 v3 → Off0 v') :
    NewAt (w'.setCell ⟨gm, 2, none⟩ v') gm v1 v2 v' k1 k2 (k3 + 1) := by
  obtain ⟨l0, q1⟩ := h.r3
  obtain ⟨l1, h1⟩ := h1
  obtain ⟨l2, h2⟩ := h.r1
  obtain ⟨l3, h3⟩ := h.r2
  have hg : ¬ some gm = v3.ownBlock := fun e => by have := (q1.lt gm e).1; omega
  have hs : ∀ W : World, Chg (fun k => k = gm) W (W.setCell ⟨gm, 2, none⟩ v') := fun W => (Chg.refl (fun k => k = gm) W).setCell (.inr rfl) _ _
  have h2' := h2.chg hc (fun i hi ht => q1.not_row h2 (by decide) i ht hi)
  have h3' := h3.chg hc (fun i hi ht => q1.not_row h3 (by decide) i ht hi)
  refine ⟨(h.blk.chg hc hg).setCell 2 v', ⟨l2, h2'.chg (hs _) fun i hi ht => ?_⟩, ⟨l3, h3'.chg (hs _) fun i hi ht => ?_⟩, ⟨l1, h1.chg (hs _) fun i hi ht => ?_⟩, h.o1, h.o2, ho h.o3, h.ap⟩
  · have := (h2.lt i hi).1; omega
  · have := (h3.lt i hi).1; omega
  · have := (h1.lt i hi).1; omega
theorem own_low {base : Nat} {S : Nat → Prop} {e : TypeId} {k n : Nat} {v : Value} {xs : List Value} (h : ORow w S e k v n xs) (hS : ∀ i, S i → base ≤ i) : ∀ i, some i = v.ownBlock → base ≤ i := fun i hi => hS i (h.lt i hi).1
theorem sv_snoc (l : List ByteArray) (s : ByteArray) : sv l ++ [.string s] = sv (l ++ [s]) := by simp [sv]
theorem tv_snoc (l : List Bool) (s : Bool) : tv l ++ [.bool s] = tv (l ++ [s]) := by simp [tv]
theorem NewAt.mat {n : Nat} (h : NewAt w gm v1 v2 v3 n n n) (h1 : 1 ≤ n) (h2 : n ≤ 4096) : ∃ an af ad, MAt w gm an af ad n ∧ gm < an ∧ gm < af ∧ gm < ad := by
  obtain ⟨l1, q1⟩ := h.r1
  obtain ⟨l2, q2⟩ := h.r2
  obtain ⟨l3, q3⟩ := h.r3
  obtain ⟨g1, o1, c1, u1, e1, s1, b1, n1, m1, t1, x1⟩ := q1.form (by omega)
  obtain ⟨g2, o2, c2, u2, e2, s2, b2, n2, m2, t2, x2⟩ := q2.form (by omega)
  obtain ⟨g3, o3, c3, u3, e3, s3, b3, n3, m3, t3, x3⟩ := q3.form (by omega)
  obtain rfl : o1 = 0 := by
    rcases h.o1 with h | ⟨_, _, _, h⟩
    · rw [h] at e1; cases e1
    · rw [h] at e1; cases e1; rfl
  obtain rfl : o2 = 0 := by
    rcases h.o2 with h | ⟨_, _, _, h⟩
    · rw [h] at e2; cases e2
    · rw [h] at e2; cases e2; rfl
  obtain rfl : o3 = 0 := by
    rcases h.o3 with h | ⟨_, _, _, h⟩
    · rw [h] at e3; cases e3
    · rw [h] at e3; cases e3; rfl
  refine ⟨g1, g2, g3, ⟨⟨c1, c2, c3, false, false, 0, ?_⟩, ⟨u1.toList, b1, fun j hj => ?_⟩, ⟨u2.toList, b2, fun j hj => ?_⟩, ⟨u3.toList, b3, fun j hj => ?_⟩, ?_, h1, h2⟩, s1, s2, s3⟩
  · have hb := h.blk
    rw [e1, e2, e3] at hb
    exact hb
  · have hl : l1.length = n := by have := q1.1; simpa [sv] using this
    rw [Nat.mul_one, List.drop_zero] at x1
    have : u1.toList[j]? = (sv l1)[j]? := by rw [← x1, List.getElem?_take_of_lt hj]
    rw [this, sv_at l1 j (by omega)]
    exact ⟨_, rfl⟩
  · have hl : l2.length = n := by have := q2.1; simpa [sv] using this
    rw [Nat.mul_one, List.drop_zero] at x2
    have : u2.toList[j]? = (sv l2)[j]? := by rw [← x2, List.getElem?_take_of_lt hj]
    rw [this, sv_at l2 j (by omega)]
    exact ⟨_, rfl⟩
  · have hl : l3.length = n := by have := q3.1; simpa [tv] using this
    rw [Nat.mul_one, List.drop_zero] at x3
    have : u3.toList[j]? = (tv l3)[j]? := by rw [← x3, List.getElem?_take_of_lt hj]
    rw [this, tv_at l3 j (by omega)]
    exact ⟨_, rfl⟩
  · rintro rfl
    exact h.ap g1 (by rw [e1]; rfl) (by rw [e2]; rfl)
end
theorem str_info : (Try.prog.info? 9).map (fun i => (i.zero, i.size, i.bytes)) = some (some (.string { data := #[] }), 1, 16) := by kernel_rfl
theorem bool_info : (Try.prog.info? 4).map (fun i => (i.zero, i.size, i.bytes)) = some (some (.bool false), 1, 1) := by kernel_rfl
set_option linter.unusedSimpArgs false in
set_option maxRecDepth 20000 in
set_option maxHeartbeats 12800000 in
theorem mnew_any (n : Nat) (w : World) (h1 : 1 ≤ n) (h2 : n ≤ 4096) :
    Calls Try.prog 10 #[.int .i64 n] w fun e w' => ∃ gm, e = .returned (.tuple #[.pointer (some ⟨gm, 0, none⟩), .int .i64 0]) ∧ ∃ an af ad, MAt w' gm an af ad n ∧ (∀ i, mS gm an af ad i → w.heap.size ≤ i) ∧ Below w.heap.size w w' := by
  have g1 : decide ((n : Int) < 1) = false := by simp; omega
  have g2 : ¬ (4096 : Int) < (n : Int) := by omega
  have hmx : Try.prog.follows .mixedOrders = true := by kernel_rfl
  obtain ⟨i0, hi0, hz0, hz1, hz2⟩ := info_parts str_info
  obtain ⟨j0, hj0, hy0, hy1, hy2⟩ := info_parts bool_info
  go_enter Try.func10, Try.ntmps10
  go_wp2_with fail
  go_loopw [5] (fun iv wr => ∃ k : Nat, k ≤ n ∧ iv = .int .i64 k ∧ ∃ v1 v2 v3, NewAt wr w.heap.size v1 v2 v3 k k k ∧ Below w.heap.size w wr) (fun iv _ => n - (intOf iv).toNat)
  case atStart =>
    refine ⟨0, by omega, rfl, .slice none 0 0, .slice none 0 0, .slice none 0 0, ⟨Blk.new w 56 _, ⟨[], ORow.nil _ _ _ _⟩, ⟨[], ORow.nil _ _ _ _⟩, ⟨[], ORow.nil _ _ _ _⟩, .inl rfl, .inl rfl, .inl rfl, fun i hi => ?_⟩, (Below.refl _ _).alloc (Nat.le_refl _) _⟩
    cases hi
  case round =>
    obtain ⟨k, hk, rfl, v1, v2, v3, hnw, hb⟩ := hrel
    by_cases hlt : k < n
    · have g3 : (k : Int) < (n : Int) := by omega
      obtain ⟨w7a, hw7⟩ : ∃ x, wr.drew = x := ⟨_, rfl⟩
      have hba7 : Below w.heap.size w w7a := by rw [← hw7]; exact hb.drew
      have hna7 := hnw.below (Below.refl wr.heap.size wr).drew
      rw [hw7] at hna7
      obtain ⟨l7, hro7⟩ := hna7.r1
      obtain ⟨A7, c7, hv7, _, _⟩ := hro7.slice
      have HF7 := Lib.hid (full_any none 0 0 0 [] w7a Rd.nil rfl (by omega))
      have H7 := Lib.hid (And.intro hna7 (And.intro hba7 hw7))
      subst hv7
      have q7 : w7a.cell? ⟨w.heap.size, 0, none⟩ = some (.slice A7 k c7) := hna7.blk.cell 0
      clear hba7 hna7 hw7 hro7 hnw hb
      go_wp2_with fail
      refine region_by_hand0 hmx ?_
      rw [H7.out.2.2]
      refine any_take (i := 0) _ rfl (by kernel_rfl) (by kernel_rfl) (by kernel_rfl) (by rfl) (by intro w; go_simp <;> with_reducible rfl) ?_
      simp only [Act.put, List.setIfInBounds_toArray, List.set_cons_zero, List.set_cons_succ]
      refine any_take (i := 1) _ rfl (by kernel_rfl) (by kernel_rfl) (by kernel_rfl) (by rfl) (by intro w; go_simp <;> with_reducible rfl) ?_
      simp only [Act.put, List.setIfInBounds_toArray, List.set_cons_zero, List.set_cons_succ]
      refine any_take (i := 2) _ rfl (by kernel_rfl) (by kernel_rfl) (by kernel_rfl) (by rfl) (by intro w; go_simp <;> with_reducible rfl) ?_
      simp only [Act.put, List.setIfInBounds_toArray, List.set_cons_zero, List.set_cons_succ]
      refine any_take (i := 3) _ rfl (by kernel_rfl) (by kernel_rfl) (by kernel_rfl) (by rfl) (by intro w; go_simp <;> with_reducible rfl) ?_
      simp only [Act.put, List.setIfInBounds_toArray, List.set_cons_zero, List.set_cons_succ]
      refine any_pair 4 5 (by kernel_rfl) rfl rfl ?_ ?_
      · go_wp2_with fail
        refine ⟨rfl, ?_⟩
        refine any_only 5 (by kernel_rfl) rfl ?_
        go_wp2_with fail
        refine HF7.out.mono ?_
        rintro e w7b ⟨rfl, hb3⟩
        have hnb := H7.out.1.below hb3
        have hbb := H7.out.2.1.trans (hb3.mono H7.out.2.1.size)
        have q7 : w7b.cell? ⟨w.heap.size, 0, none⟩ = some (.slice A7 k c7) := hnb.blk.cell 0
        have hb5 : Below w7b.heap.size w7b (w7b.alloc (.cells #[.string ⟨(full []).toArray⟩] 9)) := (Below.refl _ _).alloc (Nat.le_refl _) _
        have hnc := hnb.below hb5
        have q7c : (w7b.alloc (.cells #[.string ⟨(full []).toArray⟩] 9)).cell? ⟨w.heap.size, 0, none⟩ = some (.slice A7 k c7) := hnc.blk.cell 0
        have hkc := Blk.new w7b 9 [.string ⟨(full []).toArray⟩]
        have HB7 := Lib.hid (And.intro hnc (And.intro (hbb.trans (hb5.mono hbb.size)) hkc))
        clear hnb hbb hb5 hnc hkc hb3
        go_wp2_with fail
        refine ⟨rfl, ?_⟩
        refine any_only 6 (by kernel_rfl) rfl ?_
        go_wp2_with fail
        refine ⟨rfl, ?_⟩
        obtain ⟨l7', hrx7⟩ := HB7.out.1.r1
        refine any_only 7 (by kernel_rfl) rfl ?_
        refine wpList_append_orow0 _ rfl (.tmp 23) (.tmp 25) _ rfl 9 i0 _ 1 16 Try.underlying54 hi0 hz0 hz1 hz2 rfl (by omega) (fun i => w.heap.size < i) _ k (sv l7') rfl hrx7 ?_ ⟨w7b.heap.size, 0, none⟩ 1 1 [.string ⟨(full []).toArray⟩] rfl rfl ?_ ?_ ?_ ?_ ?_
        · intro i hi
          have h5 := HB7.out.1.blk.lt
          omega
        · intro j u hj
          rw [Addr.add_lit, Nat.zero_add, HB7.out.2.2.cell]
          exact hj
        · intro u hu
          simp at hu
          subst hu
          rfl
        · unfold maxLen; omega
        · omega
        intro v7' w7d hrd hcd hnd hod
        rw [sv_snoc] at hrd
        have hnA : NewAt (w7d.setCell ⟨w.heap.size, 0, none⟩ v7') w.heap.size _ _ _ _ _ _ := HB7.out.1.app1 ⟨_, hrd⟩ hcd hnd hod
        have hgm : ¬ some w.heap.size = (Value.slice A7 k c7).ownBlock := fun e => by have := (hrx7.lt _ e).1; omega
        have hbd := HB7.out.1.blk.chg hcd hgm
        have p7 : w7d.cell? ⟨w.heap.size, 0, none⟩ = some (.slice A7 k c7) := hbd.cell 0
        have z7 : w7d.frozen? ⟨w.heap.size, 0, none⟩ = false := hbd.frozen 0
        have hBd : Below w.heap.size w w7d := HB7.out.2.1.trans (hcd.below (fun i hi => Nat.le_of_lt (hrx7.lt i hi).1) HB7.out.2.1.size)
        obtain ⟨A7', c7', hv', _, _⟩ := hrd.slice
        subst hv'
        have hBe : Below w.heap.size w (w7d.setCell ⟨w.heap.size, 0, none⟩ (.slice A7' (k + 1) c7')) := ((Chg.refl (fun k => k = w.heap.size) w7d).setCell (.inr rfl) 0 (.slice A7' (k + 1) c7')).below (B := w.heap.size) (fun i hi => by omega) hBd.size |> hBd.trans
        obtain ⟨w7e, hw7e⟩ : ∃ x, w7d.setCell ⟨w.heap.size, 0, none⟩ (.slice A7' (k + 1) c7') = x := ⟨_, rfl⟩
        rw [hw7e] at hnA hBe
        have HA7 := Lib.hid (And.intro hnA (And.intro hBe hw7e))
        clear hrd hcd hnd hod hnA hgm hbd hBd hBe hw7e hrx7 q7 q7c
        go_wp2_with fail
        refine ⟨rfl, ?_⟩
        refine any_only 8 (by kernel_rfl) rfl ?_
        go_wp2_with fail
        refine ⟨rfl, ?_⟩
        refine any_only 9 (by kernel_rfl) rfl ?_
        go_wp2_with fail
        refine ⟨rfl, ?_⟩
        refine any_only 10 (by kernel_rfl) rfl ?_
        go_wp2_with fail
        refine ⟨rfl, ?_⟩
        rw [HA7.out.2.2]
        refine wpAny_done (by kernel_rfl) ?_ _
        refine ⟨rfl, ?_⟩
        clear p7 z7
        have hnw := HA7.out.1
        have hb := HA7.out.2.1
        obtain ⟨w8a, hw8⟩ : ∃ x, w7e.drew = x := ⟨_, rfl⟩
        have hba8 : Below w.heap.size w w8a := by rw [← hw8]; exact hb.drew
        have hna8 := hnw.below (Below.refl w7e.heap.size w7e).drew
        rw [hw8] at hna8
        obtain ⟨l8, hro8⟩ := hna8.r2
        obtain ⟨A8, c8, hv8, _, _⟩ := hro8.slice
        have HF8 := Lib.hid (full_any none 0 0 0 [] w8a Rd.nil rfl (by omega))
        have H8 := Lib.hid (And.intro hna8 (And.intro hba8 hw8))
        subst hv8
        have q8 : w8a.cell? ⟨w.heap.size, 1, none⟩ = some (.slice A8 k c8) := hna8.blk.cell 1
        clear hba8 hna8 hw8 hro8 hnw hb
        go_wp2_with fail
        refine region_by_hand0 hmx ?_
        rw [H8.out.2.2]
        refine any_take (i := 0) _ rfl (by kernel_rfl) (by kernel_rfl) (by kernel_rfl) (by rfl) (by intro w; go_simp <;> with_reducible rfl) ?_
        simp only [Act.put, List.setIfInBounds_toArray, List.set_cons_zero, List.set_cons_succ]
        refine any_take (i := 1) _ rfl (by kernel_rfl) (by kernel_rfl) (by kernel_rfl) (by rfl) (by intro w; go_simp <;> with_reducible rfl) ?_
        simp only [Act.put, List.setIfInBounds_toArray, List.set_cons_zero, List.set_cons_succ]
        refine any_take (i := 2) _ rfl (by kernel_rfl) (by kernel_rfl) (by kernel_rfl) (by rfl) (by intro w; go_simp <;> with_reducible rfl) ?_
        simp only [Act.put, List.setIfInBounds_toArray, List.set_cons_zero, List.set_cons_succ]
        refine any_take (i := 3) _ rfl (by kernel_rfl) (by kernel_rfl) (by kernel_rfl) (by rfl) (by intro w; go_simp <;> with_reducible rfl) ?_
        simp only [Act.put, List.setIfInBounds_toArray, List.set_cons_zero, List.set_cons_succ]
        refine any_pair 4 5 (by kernel_rfl) rfl rfl ?_ ?_
        · go_wp2_with fail
          refine ⟨rfl, ?_⟩
          refine any_only 5 (by kernel_rfl) rfl ?_
          go_wp2_with fail
          refine HF8.out.mono ?_
          rintro e w8b ⟨rfl, hb3⟩
          have hnb := H8.out.1.below hb3
          have hbb := H8.out.2.1.trans (hb3.mono H8.out.2.1.size)
          have q8 : w8b.cell? ⟨w.heap.size, 1, none⟩ = some (.slice A8 k c8) := hnb.blk.cell 1
          have hb5 : Below w8b.heap.size w8b (w8b.alloc (.cells #[.string ⟨(full []).toArray⟩] 9)) := (Below.refl _ _).alloc (Nat.le_refl _) _
          have hnc := hnb.below hb5
          have q8c : (w8b.alloc (.cells #[.string ⟨(full []).toArray⟩] 9)).cell? ⟨w.heap.size, 1, none⟩ = some (.slice A8 k c8) := hnc.blk.cell 1
          have hkc := Blk.new w8b 9 [.string ⟨(full []).toArray⟩]
          have HB8 := Lib.hid (And.intro hnc (And.intro (hbb.trans (hb5.mono hbb.size)) hkc))
          clear hnb hbb hb5 hnc hkc hb3
          go_wp2_with fail
          refine ⟨rfl, ?_⟩
          refine any_only 6 (by kernel_rfl) rfl ?_
          go_wp2_with fail
          refine ⟨rfl, ?_⟩
          obtain ⟨l8', hrx8⟩ := HB8.out.1.r2
          refine any_only 7 (by kernel_rfl) rfl ?_
          refine wpList_append_orow0 _ rfl (.tmp 33) (.tmp 35) _ rfl 9 i0 _ 1 16 Try.underlying54 hi0 hz0 hz1 hz2 rfl (by omega) (fun i => w.heap.size < i) _ k (sv l8') rfl hrx8 ?_ ⟨w8b.heap.size, 0, none⟩ 1 1 [.string ⟨(full []).toArray⟩] rfl rfl ?_ ?_ ?_ ?_ ?_
          · intro i hi
            have h5 := HB8.out.1.blk.lt
            omega
          · intro j u hj
            rw [Addr.add_lit, Nat.zero_add, HB8.out.2.2.cell]
            exact hj
          · intro u hu
            simp at hu
            subst hu
            rfl
          · unfold maxLen; omega
          · omega
          intro v8' w8d hrd hcd hnd hod
          rw [sv_snoc] at hrd
          have hnA : NewAt (w8d.setCell ⟨w.heap.size, 1, none⟩ v8') w.heap.size _ _ _ _ _ _ := HB8.out.1.app2 ⟨_, hrd⟩ hcd hnd hod
          have hgm : ¬ some w.heap.size = (Value.slice A8 k c8).ownBlock := fun e => by have := (hrx8.lt _ e).1; omega
          have hbd := HB8.out.1.blk.chg hcd hgm
          have p8 : w8d.cell? ⟨w.heap.size, 1, none⟩ = some (.slice A8 k c8) := hbd.cell 1
          have z8 : w8d.frozen? ⟨w.heap.size, 1, none⟩ = false := hbd.frozen 1
          have hBd : Below w.heap.size w w8d := HB8.out.2.1.trans (hcd.below (fun i hi => Nat.le_of_lt (hrx8.lt i hi).1) HB8.out.2.1.size)
          obtain ⟨A8', c8', hv', _, _⟩ := hrd.slice
          subst hv'
          have hBe : Below w.heap.size w (w8d.setCell ⟨w.heap.size, 1, none⟩ (.slice A8' (k + 1) c8')) := ((Chg.refl (fun k => k = w.heap.size) w8d).setCell (.inr rfl) 1 (.slice A8' (k + 1) c8')).below (B := w.heap.size) (fun i hi => by omega) hBd.size |> hBd.trans
          obtain ⟨w8e, hw8e⟩ : ∃ x, w8d.setCell ⟨w.heap.size, 1, none⟩ (.slice A8' (k + 1) c8') = x := ⟨_, rfl⟩
          rw [hw8e] at hnA hBe
          have HA8 := Lib.hid (And.intro hnA (And.intro hBe hw8e))
          clear hrd hcd hnd hod hnA hgm hbd hBd hBe hw8e hrx8 q8 q8c
          go_wp2_with fail
          refine ⟨rfl, ?_⟩
          refine any_only 8 (by kernel_rfl) rfl ?_
          go_wp2_with fail
          refine ⟨rfl, ?_⟩
          refine any_only 9 (by kernel_rfl) rfl ?_
          go_wp2_with fail
          refine ⟨rfl, ?_⟩
          refine any_only 10 (by kernel_rfl) rfl ?_
          go_wp2_with fail
          refine ⟨rfl, ?_⟩
          rw [HA8.out.2.2]
          refine wpAny_done (by kernel_rfl) ?_ _
          refine ⟨rfl, ?_⟩
          clear p8 z8
          have hnw := HA8.out.1
          have hb := HA8.out.2.1
          obtain ⟨l9, hro9⟩ := hnw.r3
          obtain ⟨A9, c9, hv9, _, _⟩ := hro9.slice
          subst hv9
          have q9 : w8e.cell? ⟨w.heap.size, 2, none⟩ = some (.slice A9 k c9) := hnw.blk.cell 2
          have hb9 : Below w8e.heap.size w8e (w8e.alloc (.cells #[.bool false] 4)) := (Below.refl _ _).alloc (Nat.le_refl _) _
          have hk9 := Blk.new w8e 4 [.bool false]
          have H9 := Lib.hid (And.intro (hnw.below hb9) (And.intro (hb.trans (hb9.mono hb.size)) hk9))
          obtain ⟨l9', hrx9⟩ := H9.out.1.r3
          clear hro9 hb9 hk9 hnw hb
          go_wp2_with (at_builtin; refine wpList_append_orow0 _ rfl (.tmp 43) (.tmp 44) _ rfl 4 j0 _ 1 1 Try.underlying33 hj0 hy0 hy1 hy2 rfl (by omega) (fun i => w.heap.size < i) _ k (tv l9') rfl hrx9 ?_ ⟨w8e.heap.size, 0, none⟩ 1 1 [.bool false] rfl rfl ?_ ?_ ?_ ?_ ?_)
          · intro i hi
            have h5 := H9.out.1.blk.lt
            omega
          · intro j u hj
            rw [Addr.add_lit, Nat.zero_add, H9.out.2.2.cell]
            exact hj
          · intro u hu
            simp at hu
            subst hu
            rfl
          · unfold maxLen; omega
          · omega
          intro v9' w9d hrd hcd hnd hod
          rw [tv_snoc] at hrd
          have hnA : NewAt (w9d.setCell ⟨w.heap.size, 2, none⟩ v9') w.heap.size _ _ _ _ _ _ := H9.out.1.app3 ⟨_, hrd⟩ hcd hod
          have hgm : ¬ some w.heap.size = (Value.slice A9 k c9).ownBlock := fun e => by have := (hrx9.lt _ e).1; omega
          have hbd := H9.out.1.blk.chg hcd hgm
          have p9 : w9d.cell? ⟨w.heap.size, 2, none⟩ = some (.slice A9 k c9) := hbd.cell 2
          have z9 : w9d.frozen? ⟨w.heap.size, 2, none⟩ = false := hbd.frozen 2
          have hBd : Below w.heap.size w w9d := H9.out.2.1.trans (hcd.below (fun i hi => Nat.le_of_lt (hrx9.lt i hi).1) H9.out.2.1.size)
          obtain ⟨A9', c9', hv', _, _⟩ := hrd.slice
          subst hv'
          have hBe : Below w.heap.size w (w9d.setCell ⟨w.heap.size, 2, none⟩ (.slice A9' (k + 1) c9')) := ((Chg.refl (fun k => k = w.heap.size) w9d).setCell (.inr rfl) 2 (.slice A9' (k + 1) c9')).below (B := w.heap.size) (fun i hi => by omega) hBd.size |> hBd.trans
          have HA9 := Lib.hid (And.intro hnA hBe)
          clear hrd hcd hnd hod hnA hgm hbd hBd hBe hrx9 q9
          go_wp2_with fail
          go_roundw
          case rel => exact ⟨k + 1, by omega, by go_num, _, _, _, HA9.out.1, HA9.out.2⟩
          case measure => simp [intOf]; omega
        · go_wp2_with fail
          refine HF8.out.mono ?_
          rintro e w8b ⟨rfl, hb3⟩
          have hnb := H8.out.1.below hb3
          have hbb := H8.out.2.1.trans (hb3.mono H8.out.2.1.size)
          have q8 : w8b.cell? ⟨w.heap.size, 1, none⟩ = some (.slice A8 k c8) := hnb.blk.cell 1
          have hb5 : Below w8b.heap.size w8b (w8b.alloc (.cells #[.string ⟨(full []).toArray⟩] 9)) := (Below.refl _ _).alloc (Nat.le_refl _) _
          have hnc := hnb.below hb5
          have q8c : (w8b.alloc (.cells #[.string ⟨(full []).toArray⟩] 9)).cell? ⟨w.heap.size, 1, none⟩ = some (.slice A8 k c8) := hnc.blk.cell 1
          have hkc := Blk.new w8b 9 [.string ⟨(full []).toArray⟩]
          have HB8 := Lib.hid (And.intro hnc (And.intro (hbb.trans (hb5.mono hbb.size)) hkc))
          clear hnb hbb hb5 hnc hkc hb3
          go_wp2_with fail
          refine ⟨rfl, ?_⟩
          refine any_pair 4 6 (by kernel_rfl) rfl rfl ?_ ?_
          · go_wp2_with fail
            refine ⟨rfl, ?_⟩
            refine any_only 6 (by kernel_rfl) rfl ?_
            go_wp2_with fail
            refine ⟨rfl, ?_⟩
            obtain ⟨l8', hrx8⟩ := HB8.out.1.r2
            refine any_only 7 (by kernel_rfl) rfl ?_
            refine wpList_append_orow0 _ rfl (.tmp 33) (.tmp 35) _ rfl 9 i0 _ 1 16 Try.underlying54 hi0 hz0 hz1 hz2 rfl (by omega) (fun i => w.heap.size < i) _ k (sv l8') rfl hrx8 ?_ ⟨w8b.heap.size, 0, none⟩ 1 1 [.string ⟨(full []).toArray⟩] rfl rfl ?_ ?_ ?_ ?_ ?_
            · intro i hi
              have h5 := HB8.out.1.blk.lt
              omega
            · intro j u hj
              rw [Addr.add_lit, Nat.zero_add, HB8.out.2.2.cell]
              exact hj
            · intro u hu
              simp at hu
              subst hu
              rfl
            · unfold maxLen; omega
            · omega
            intro v8' w8d hrd hcd hnd hod
            rw [sv_snoc] at hrd
            have hnA : NewAt (w8d.setCell ⟨w.heap.size, 1, none⟩ v8') w.heap.size _ _ _ _ _ _ := HB8.out.1.app2 ⟨_, hrd⟩ hcd hnd hod
            have hgm : ¬ some w.heap.size = (Value.slice A8 k c8).ownBlock := fun e => by have := (hrx8.lt _ e).1; omega
            have hbd := HB8.out.1.blk.chg hcd hgm
            have p8 : w8d.cell? ⟨w.heap.size, 1, none⟩ = some (.slice A8 k c8) := hbd.cell 1
            have z8 : w8d.frozen? ⟨w.heap.size, 1, none⟩ = false := hbd.frozen 1
            have hBd : Below w.heap.size w w8d := HB8.out.2.1.trans (hcd.below (fun i hi => Nat.le_of_lt (hrx8.lt i hi).1) HB8.out.2.1.size)
            obtain ⟨A8', c8', hv', _, _⟩ := hrd.slice
            subst hv'
            have hBe : Below w.heap.size w (w8d.setCell ⟨w.heap.size, 1, none⟩ (.slice A8' (k + 1) c8')) := ((Chg.refl (fun k => k = w.heap.size) w8d).setCell (.inr rfl) 1 (.slice A8' (k + 1) c8')).below (B := w.heap.size) (fun i hi => by omega) hBd.size |> hBd.trans
            obtain ⟨w8e, hw8e⟩ : ∃ x, w8d.setCell ⟨w.heap.size, 1, none⟩ (.slice A8' (k + 1) c8') = x := ⟨_, rfl⟩
            rw [hw8e] at hnA hBe
            have HA8 := Lib.hid (And.intro hnA (And.intro hBe hw8e))
            clear hrd hcd hnd hod hnA hgm hbd hBd hBe hw8e hrx8 q8 q8c
            go_wp2_with fail
            refine ⟨rfl, ?_⟩
            refine any_only 8 (by kernel_rfl) rfl ?_
            go_wp2_with fail
            refine ⟨rfl, ?_⟩
            refine any_only 9 (by kernel_rfl) rfl ?_
            go_wp2_with fail
            refine ⟨rfl, ?_⟩
            refine any_only 10 (by kernel_rfl) rfl ?_
            go_wp2_with fail
            refine ⟨rfl, ?_⟩
            rw [HA8.out.2.2]
            refine wpAny_done (by kernel_rfl) ?_ _
            refine ⟨rfl, ?_⟩
            clear p8 z8
            have hnw := HA8.out.1
            have hb := HA8.out.2.1
            obtain ⟨l9, hro9⟩ := hnw.r3
            obtain ⟨A9, c9, hv9, _, _⟩ := hro9.slice
            subst hv9
            have q9 : w8e.cell? ⟨w.heap.size, 2, none⟩ = some (.slice A9 k c9) := hnw.blk.cell 2
            have hb9 : Below w8e.heap.size w8e (w8e.alloc (.cells #[.bool false] 4)) := (Below.refl _ _).alloc (Nat.le_refl _) _
            have hk9 := Blk.new w8e 4 [.bool false]
            have H9 := Lib.hid (And.intro (hnw.below hb9) (And.intro (hb.trans (hb9.mono hb.size)) hk9))
            obtain ⟨l9', hrx9⟩ := H9.out.1.r3
            clear hro9 hb9 hk9 hnw hb
            go_wp2_with (at_builtin; refine wpList_append_orow0 _ rfl (.tmp 43) (.tmp 44) _ rfl 4 j0 _ 1 1 Try.underlying33 hj0 hy0 hy1 hy2 rfl (by omega) (fun i => w.heap.size < i) _ k (tv l9') rfl hrx9 ?_ ⟨w8e.heap.size, 0, none⟩ 1 1 [.bool false] rfl rfl ?_ ?_ ?_ ?_ ?_)
            · intro i hi
              have h5 := H9.out.1.blk.lt
              omega
            · intro j u hj
              rw [Addr.add_lit, Nat.zero_add, H9.out.2.2.cell]
              exact hj
            · intro u hu
              simp at hu
              subst hu
              rfl
            · unfold maxLen; omega
            · omega
            intro v9' w9d hrd hcd hnd hod
            rw [tv_snoc] at hrd
            have hnA : NewAt (w9d.setCell ⟨w.heap.size, 2, none⟩ v9') w.heap.size _ _ _ _ _ _ := H9.out.1.app3 ⟨_, hrd⟩ hcd hod
            have hgm : ¬ some w.heap.size = (Value.slice A9 k c9).ownBlock := fun e => by have := (hrx9.lt _ e).1; omega
            have hbd := H9.out.1.blk.chg hcd hgm
            have p9 : w9d.cell? ⟨w.heap.size, 2, none⟩ = some (.slice A9 k c9) := hbd.cell 2
            have z9 : w9d.frozen? ⟨w.heap.size, 2, none⟩ = false := hbd.frozen 2
            have hBd : Below w.heap.size w w9d := H9.out.2.1.trans (hcd.below (fun i hi => Nat.le_of_lt (hrx9.lt i hi).1) H9.out.2.1.size)
            obtain ⟨A9', c9', hv', _, _⟩ := hrd.slice
            subst hv'
            have hBe : Below w.heap.size w (w9d.setCell ⟨w.heap.size, 2, none⟩ (.slice A9' (k + 1) c9')) := ((Chg.refl (fun k => k = w.heap.size) w9d).setCell (.inr rfl) 2 (.slice A9' (k + 1) c9')).below (B := w.heap.size) (fun i hi => by omega) hBd.size |> hBd.trans
            have HA9 := Lib.hid (And.intro hnA hBe)
            clear hrd hcd hnd hod hnA hgm hbd hBd hBe hrx9 q9
            go_wp2_with fail
            go_roundw
            case rel => exact ⟨k + 1, by omega, by go_num, _, _, _, HA9.out.1, HA9.out.2⟩
            case measure => simp [intOf]; omega
          · go_wp2_with fail
            refine ⟨rfl, ?_⟩
            refine any_only 4 (by kernel_rfl) rfl ?_
            go_wp2_with fail
            refine ⟨rfl, ?_⟩
            obtain ⟨l8', hrx8⟩ := HB8.out.1.r2
            refine any_only 7 (by kernel_rfl) rfl ?_
            refine wpList_append_orow0 _ rfl (.tmp 33) (.tmp 35) _ rfl 9 i0 _ 1 16 Try.underlying54 hi0 hz0 hz1 hz2 rfl (by omega) (fun i => w.heap.size < i) _ k (sv l8') rfl hrx8 ?_ ⟨w8b.heap.size, 0, none⟩ 1 1 [.string ⟨(full []).toArray⟩] rfl rfl ?_ ?_ ?_ ?_ ?_
            · intro i hi
              have h5 := HB8.out.1.blk.lt
              omega
            · intro j u hj
              rw [Addr.add_lit, Nat.zero_add, HB8.out.2.2.cell]
              exact hj
            · intro u hu
              simp at hu
              subst hu
              rfl
            · unfold maxLen; omega
            · omega
            intro v8' w8d hrd hcd hnd hod
            rw [sv_snoc] at hrd
            have hnA : NewAt (w8d.setCell ⟨w.heap.size, 1, none⟩ v8') w.heap.size _ _ _ _ _ _ := HB8.out.1.app2 ⟨_, hrd⟩ hcd hnd hod
            have hgm : ¬ some w.heap.size = (Value.slice A8 k c8).ownBlock := fun e => by have := (hrx8.lt _ e).1; omega
            have hbd := HB8.out.1.blk.chg hcd hgm
            have p8 : w8d.cell? ⟨w.heap.size, 1, none⟩ = some (.slice A8 k c8) := hbd.cell 1
            have z8 : w8d.frozen? ⟨w.heap.size, 1, none⟩ = false := hbd.frozen 1
            have hBd : Below w.heap.size w w8d := HB8.out.2.1.trans (hcd.below (fun i hi => Nat.le_of_lt (hrx8.lt i hi).1) HB8.out.2.1.size)
            obtain ⟨A8', c8', hv', _, _⟩ := hrd.slice
            subst hv'
            have hBe : Below w.heap.size w (w8d.setCell ⟨w.heap.size, 1, none⟩ (.slice A8' (k + 1) c8')) := ((Chg.refl (fun k => k = w.heap.size) w8d).setCell (.inr rfl) 1 (.slice A8' (k + 1) c8')).below (B := w.heap.size) (fun i hi => by omega) hBd.size |> hBd.trans
            obtain ⟨w8e, hw8e⟩ : ∃ x, w8d.setCell ⟨w.heap.size, 1, none⟩ (.slice A8' (k + 1) c8') = x := ⟨_, rfl⟩
            rw [hw8e] at hnA hBe
            have HA8 := Lib.hid (And.intro hnA (And.intro hBe hw8e))
            clear hrd hcd hnd hod hnA hgm hbd hBd hBe hw8e hrx8 q8 q8c
            go_wp2_with fail
            refine ⟨rfl, ?_⟩
            refine any_only 8 (by kernel_rfl) rfl ?_
            go_wp2_with fail
            refine ⟨rfl, ?_⟩
            refine any_only 9 (by kernel_rfl) rfl ?_
            go_wp2_with fail
            refine ⟨rfl, ?_⟩
            refine any_only 10 (by kernel_rfl) rfl ?_
            go_wp2_with fail
            refine ⟨rfl, ?_⟩
            rw [HA8.out.2.2]
            refine wpAny_done (by kernel_rfl) ?_ _
            refine ⟨rfl, ?_⟩
            clear p8 z8
            have hnw := HA8.out.1
            have hb := HA8.out.2.1
            obtain ⟨l9, hro9⟩ := hnw.r3
            obtain ⟨A9, c9, hv9, _, _⟩ := hro9.slice
            subst hv9
            have q9 : w8e.cell? ⟨w.heap.size, 2, none⟩ = some (.slice A9 k c9) := hnw.blk.cell 2
            have hb9 : Below w8e.heap.size w8e (w8e.alloc (.cells #[.bool false] 4)) := (Below.refl _ _).alloc (Nat.le_refl _) _
            have hk9 := Blk.new w8e 4 [.bool false]
            have H9 := Lib.hid (And.intro (hnw.below hb9) (And.intro (hb.trans (hb9.mono hb.size)) hk9))
            obtain ⟨l9', hrx9⟩ := H9.out.1.r3
            clear hro9 hb9 hk9 hnw hb
            go_wp2_with (at_builtin; refine wpList_append_orow0 _ rfl (.tmp 43) (.tmp 44) _ rfl 4 j0 _ 1 1 Try.underlying33 hj0 hy0 hy1 hy2 rfl (by omega) (fun i => w.heap.size < i) _ k (tv l9') rfl hrx9 ?_ ⟨w8e.heap.size, 0, none⟩ 1 1 [.bool false] rfl rfl ?_ ?_ ?_ ?_ ?_)
            · intro i hi
              have h5 := H9.out.1.blk.lt
              omega
            · intro j u hj
              rw [Addr.add_lit, Nat.zero_add, H9.out.2.2.cell]
              exact hj
            · intro u hu
              simp at hu
              subst hu
              rfl
            · unfold maxLen; omega
            · omega
            intro v9' w9d hrd hcd hnd hod
            rw [tv_snoc] at hrd
            have hnA : NewAt (w9d.setCell ⟨w.heap.size, 2, none⟩ v9') w.heap.size _ _ _ _ _ _ := H9.out.1.app3 ⟨_, hrd⟩ hcd hod
            have hgm : ¬ some w.heap.size = (Value.slice A9 k c9).ownBlock := fun e => by have := (hrx9.lt _ e).1; omega
            have hbd := H9.out.1.blk.chg hcd hgm
            have p9 : w9d.cell? ⟨w.heap.size, 2, none⟩ = some (.slice A9 k c9) := hbd.cell 2
            have z9 : w9d.frozen? ⟨w.heap.size, 2, none⟩ = false := hbd.frozen 2
            have hBd : Below w.heap.size w w9d := H9.out.2.1.trans (hcd.below (fun i hi => Nat.le_of_lt (hrx9.lt i hi).1) H9.out.2.1.size)
            obtain ⟨A9', c9', hv', _, _⟩ := hrd.slice
            subst hv'
            have hBe : Below w.heap.size w (w9d.setCell ⟨w.heap.size, 2, none⟩ (.slice A9' (k + 1) c9')) := ((Chg.refl (fun k => k = w.heap.size) w9d).setCell (.inr rfl) 2 (.slice A9' (k + 1) c9')).below (B := w.heap.size) (fun i hi => by omega) hBd.size |> hBd.trans
            have HA9 := Lib.hid (And.intro hnA hBe)
            clear hrd hcd hnd hod hnA hgm hbd hBd hBe hrx9 q9
            go_wp2_with fail
            go_roundw
            case rel => exact ⟨k + 1, by omega, by go_num, _, _, _, HA9.out.1, HA9.out.2⟩
            case measure => simp [intOf]; omega
      · go_wp2_with fail
        refine HF7.out.mono ?_
        rintro e w7b ⟨rfl, hb3⟩
        have hnb := H7.out.1.below hb3
        have hbb := H7.out.2.1.trans (hb3.mono H7.out.2.1.size)
        have q7 : w7b.cell? ⟨w.heap.size, 0, none⟩ = some (.slice A7 k c7) := hnb.blk.cell 0
        have hb5 : Below w7b.heap.size w7b (w7b.alloc (.cells #[.string ⟨(full []).toArray⟩] 9)) := (Below.refl _ _).alloc (Nat.le_refl _) _
        have hnc := hnb.below hb5
        have q7c : (w7b.alloc (.cells #[.string ⟨(full []).toArray⟩] 9)).cell? ⟨w.heap.size, 0, none⟩ = some (.slice A7 k c7) := hnc.blk.cell 0
        have hkc := Blk.new w7b 9 [.string ⟨(full []).toArray⟩]
        have HB7 := Lib.hid (And.intro hnc (And.intro (hbb.trans (hb5.mono hbb.size)) hkc))
        clear hnb hbb hb5 hnc hkc hb3
        go_wp2_with fail
        refine ⟨rfl, ?_⟩
        refine any_pair 4 6 (by kernel_rfl) rfl rfl ?_ ?_
        · go_wp2_with fail
          refine ⟨rfl, ?_⟩
          refine any_only 6 (by kernel_rfl) rfl ?_
          go_wp2_with fail
          refine ⟨rfl, ?_⟩
          obtain ⟨l7', hrx7⟩ := HB7.out.1.r1
          refine any_only 7 (by kernel_rfl) rfl ?_
          refine wpList_append_orow0 _ rfl (.tmp 23) (.tmp 25) _ rfl 9 i0 _ 1 16 Try.underlying54 hi0 hz0 hz1 hz2 rfl (by omega) (fun i => w.heap.size < i) _ k (sv l7') rfl hrx7 ?_ ⟨w7b.heap.size, 0, none⟩ 1 1 [.string ⟨(full []).toArray⟩] rfl rfl ?_ ?_ ?_ ?_ ?_
          · intro i hi
            have h5 := HB7.out.1.blk.lt
            omega
          · intro j u hj
            rw [Addr.add_lit, Nat.zero_add, HB7.out.2.2.cell]
            exact hj
          · intro u hu
            simp at hu
            subst hu
            rfl
          · unfold maxLen; omega
          · omega
          intro v7' w7d hrd hcd hnd hod
          rw [sv_snoc] at hrd
          have hnA : NewAt (w7d.setCell ⟨w.heap.size, 0, none⟩ v7') w.heap.size _ _ _ _ _ _ := HB7.out.1.app1 ⟨_, hrd⟩ hcd hnd hod
          have hgm : ¬ some w.heap.size = (Value.slice A7 k c7).ownBlock := fun e => by have := (hrx7.lt _ e).1; omega
          have hbd := HB7.out.1.blk.chg hcd hgm
          have p7 : w7d.cell? ⟨w.heap.size, 0, none⟩ = some (.slice A7 k c7) := hbd.cell 0
          have z7 : w7d.frozen? ⟨w.heap.size, 0, none⟩ = false := hbd.frozen 0
          have hBd : Below w.heap.size w w7d := HB7.out.2.1.trans (hcd.below (fun i hi => Nat.le_of_lt (hrx7.lt i hi).1) HB7.out.2.1.size)
          obtain ⟨A7', c7', hv', _, _⟩ := hrd.slice
          subst hv'
          have hBe : Below w.heap.size w (w7d.setCell ⟨w.heap.size, 0, none⟩ (.slice A7' (k + 1) c7')) := ((Chg.refl (fun k => k = w.heap.size) w7d).setCell (.inr rfl) 0 (.slice A7' (k + 1) c7')).below (B := w.heap.size) (fun i hi => by omega) hBd.size |> hBd.trans
          obtain ⟨w7e, hw7e⟩ : ∃ x, w7d.setCell ⟨w.heap.size, 0, none⟩ (.slice A7' (k + 1) c7') = x := ⟨_, rfl⟩
          rw [hw7e] at hnA hBe
          have HA7 := Lib.hid (And.intro hnA (And.intro hBe hw7e))
          clear hrd hcd hnd hod hnA hgm hbd hBd hBe hw7e hrx7 q7 q7c
          go_wp2_with fail
          refine ⟨rfl, ?_⟩
          refine any_only 8 (by kernel_rfl) rfl ?_
          go_wp2_with fail
          refine ⟨rfl, ?_⟩
          refine any_only 9 (by kernel_rfl) rfl ?_
          go_wp2_with fail
          refine ⟨rfl, ?_⟩
          refine any_only 10 (by kernel_rfl) rfl ?_
          go_wp2_with fail
          refine ⟨rfl, ?_⟩
          rw [HA7.out.2.2]
          refine wpAny_done (by kernel_rfl) ?_ _
          refine ⟨rfl, ?_⟩
          clear p7 z7
          have hnw := HA7.out.1
          have hb := HA7.out.2.1
          obtain ⟨w8a, hw8⟩ : ∃ x, w7e.drew = x := ⟨_, rfl⟩
          have hba8 : Below w.heap.size w w8a := by rw [← hw8]; exact hb.drew
          have hna8 := hnw.below (Below.refl w7e.heap.size w7e).drew
          rw [hw8] at hna8
          obtain ⟨l8, hro8⟩ := hna8.r2
          obtain ⟨A8, c8, hv8, _, _⟩ := hro8.slice
          have HF8 := Lib.hid (full_any none 0 0 0 [] w8a Rd.nil rfl (by omega))
          have H8 := Lib.hid (And.intro hna8 (And.intro hba8 hw8))
          subst hv8
          have q8 : w8a.cell? ⟨w.heap.size, 1, none⟩ = some (.slice A8 k c8) := hna8.blk.cell 1
          clear hba8 hna8 hw8 hro8 hnw hb
          go_wp2_with fail
          refine region_by_hand0 hmx ?_
          rw [H8.out.2.2]
          refine any_take (i := 0) _ rfl (by kernel_rfl) (by kernel_rfl) (by kernel_rfl) (by rfl) (by intro w; go_simp <;> with_reducible rfl) ?_
          simp only [Act.put, List.setIfInBounds_toArray, List.set_cons_zero, List.set_cons_succ]
          refine any_take (i := 1) _ rfl (by kernel_rfl) (by kernel_rfl) (by kernel_rfl) (by rfl) (by intro w; go_simp <;> with_reducible rfl) ?_
          simp only [Act.put, List.setIfInBounds_toArray, List.set_cons_zero, List.set_cons_succ]
          refine any_take (i := 2) _ rfl (by kernel_rfl) (by kernel_rfl) (by kernel_rfl) (by rfl) (by intro w; go_simp <;> with_reducible rfl) ?_
          simp only [Act.put, List.setIfInBounds_toArray, List.set_cons_zero, List.set_cons_succ]
          refine any_take (i := 3) _ rfl (by kernel_rfl) (by kernel_rfl) (by kernel_rfl) (by rfl) (by intro w; go_simp <;> with_reducible rfl) ?_
          simp only [Act.put, List.setIfInBounds_toArray, List.set_cons_zero, List.set_cons_succ]
          refine any_pair 4 5 (by kernel_rfl) rfl rfl ?_ ?_
          · go_wp2_with fail
            refine ⟨rfl, ?_⟩
            refine any_only 5 (by kernel_rfl) rfl ?_
            go_wp2_with fail
            refine HF8.out.mono ?_
            rintro e w8b ⟨rfl, hb3⟩
            have hnb := H8.out.1.below hb3
            have hbb := H8.out.2.1.trans (hb3.mono H8.out.2.1.size)
            have q8 : w8b.cell? ⟨w.heap.size, 1, none⟩ = some (.slice A8 k c8) := hnb.blk.cell 1
            have hb5 : Below w8b.heap.size w8b (w8b.alloc (.cells #[.string ⟨(full []).toArray⟩] 9)) := (Below.refl _ _).alloc (Nat.le_refl _) _
            have hnc := hnb.below hb5
            have q8c : (w8b.alloc (.cells #[.string ⟨(full []).toArray⟩] 9)).cell? ⟨w.heap.size, 1, none⟩ = some (.slice A8 k c8) := hnc.blk.cell 1
            have hkc := Blk.new w8b 9 [.string ⟨(full []).toArray⟩]
            have HB8 := Lib.hid (And.intro hnc (And.intro (hbb.trans (hb5.mono hbb.size)) hkc))
            clear hnb hbb hb5 hnc hkc hb3
            go_wp2_with fail
            refine ⟨rfl, ?_⟩
            refine any_only 6 (by kernel_rfl) rfl ?_
            go_wp2_with fail
            refine ⟨rfl, ?_⟩
            obtain ⟨l8', hrx8⟩ := HB8.out.1.r2
            refine any_only 7 (by kernel_rfl) rfl ?_
            refine wpList_append_orow0 _ rfl (.tmp 33) (.tmp 35) _ rfl 9 i0 _ 1 16 Try.underlying54 hi0 hz0 hz1 hz2 rfl (by omega) (fun i => w.heap.size < i) _ k (sv l8') rfl hrx8 ?_ ⟨w8b.heap.size, 0, none⟩ 1 1 [.string ⟨(full []).toArray⟩] rfl rfl ?_ ?_ ?_ ?_ ?_
            · intro i hi
              have h5 := HB8.out.1.blk.lt
              omega
            · intro j u hj
              rw [Addr.add_lit, Nat.zero_add, HB8.out.2.2.cell]
              exact hj
            · intro u hu
              simp at hu
              subst hu
              rfl
            · unfold maxLen; omega
            · omega
            intro v8' w8d hrd hcd hnd hod
            rw [sv_snoc] at hrd
            have hnA : NewAt (w8d.setCell ⟨w.heap.size, 1, none⟩ v8') w.heap.size _ _ _ _ _ _ := HB8.out.1.app2 ⟨_, hrd⟩ hcd hnd hod
            have hgm : ¬ some w.heap.size = (Value.slice A8 k c8).ownBlock := fun e => by have := (hrx8.lt _ e).1; omega
            have hbd := HB8.out.1.blk.chg hcd hgm
            have p8 : w8d.cell? ⟨w.heap.size, 1, none⟩ = some (.slice A8 k c8) := hbd.cell 1
            have z8 : w8d.frozen? ⟨w.heap.size, 1, none⟩ = false := hbd.frozen 1
            have hBd : Below w.heap.size w w8d := HB8.out.2.1.trans (hcd.below (fun i hi => Nat.le_of_lt (hrx8.lt i hi).1) HB8.out.2.1.size)
            obtain ⟨A8', c8', hv', _, _⟩ := hrd.slice
            subst hv'
            have hBe : Below w.heap.size w (w8d.setCell ⟨w.heap.size, 1, none⟩ (.slice A8' (k + 1) c8')) := ((Chg.refl (fun k => k = w.heap.size) w8d).setCell (.inr rfl) 1 (.slice A8' (k + 1) c8')).below (B := w.heap.size) (fun i hi => by omega) hBd.size |> hBd.trans
            obtain ⟨w8e, hw8e⟩ : ∃ x, w8d.setCell ⟨w.heap.size, 1, none⟩ (.slice A8' (k + 1) c8') = x := ⟨_, rfl⟩
            rw [hw8e] at hnA hBe
            have HA8 := Lib.hid (And.intro hnA (And.intro hBe hw8e))
            clear hrd hcd hnd hod hnA hgm hbd hBd hBe hw8e hrx8 q8 q8c
            go_wp2_with fail
            refine ⟨rfl, ?_⟩
            refine any_only 8 (by kernel_rfl) rfl ?_
            go_wp2_with fail
            refine ⟨rfl, ?_⟩
            refine any_only 9 (by kernel_rfl) rfl ?_
            go_wp2_with fail
            refine ⟨rfl, ?_⟩
            refine any_only 10 (by kernel_rfl) rfl ?_
            go_wp2_with fail
            refine ⟨rfl, ?_⟩
            rw [HA8.out.2.2]
            refine wpAny_done (by kernel_rfl) ?_ _
            refine ⟨rfl, ?_⟩
            clear p8 z8
            have hnw := HA8.out.1
            have hb := HA8.out.2.1
            obtain ⟨l9, hro9⟩ := hnw.r3
            obtain ⟨A9, c9, hv9, _, _⟩ := hro9.slice
            subst hv9
            have q9 : w8e.cell? ⟨w.heap.size, 2, none⟩ = some (.slice A9 k c9) := hnw.blk.cell 2
            have hb9 : Below w8e.heap.size w8e (w8e.alloc (.cells #[.bool false] 4)) := (Below.refl _ _).alloc (Nat.le_refl _) _
            have hk9 := Blk.new w8e 4 [.bool false]
            have H9 := Lib.hid (And.intro (hnw.below hb9) (And.intro (hb.trans (hb9.mono hb.size)) hk9))
            obtain ⟨l9', hrx9⟩ := H9.out.1.r3
            clear hro9 hb9 hk9 hnw hb
            go_wp2_with (at_builtin; refine wpList_append_orow0 _ rfl (.tmp 43) (.tmp 44) _ rfl 4 j0 _ 1 1 Try.underlying33 hj0 hy0 hy1 hy2 rfl (by omega) (fun i => w.heap.size < i) _ k (tv l9') rfl hrx9 ?_ ⟨w8e.heap.size, 0, none⟩ 1 1 [.bool false] rfl rfl ?_ ?_ ?_ ?_ ?_)
            · intro i hi
              have h5 := H9.out.1.blk.lt
              omega
            · intro j u hj
              rw [Addr.add_lit, Nat.zero_add, H9.out.2.2.cell]
              exact hj
            · intro u hu
              simp at hu
              subst hu
              rfl
            · unfold maxLen; omega
            · omega
            intro v9' w9d hrd hcd hnd hod
            rw [tv_snoc] at hrd
            have hnA : NewAt (w9d.setCell ⟨w.heap.size, 2, none⟩ v9') w.heap.size _ _ _ _ _ _ := H9.out.1.app3 ⟨_, hrd⟩ hcd hod
            have hgm : ¬ some w.heap.size = (Value.slice A9 k c9).ownBlock := fun e => by have := (hrx9.lt _ e).1; omega
            have hbd := H9.out.1.blk.chg hcd hgm
            have p9 : w9d.cell? ⟨w.heap.size, 2, none⟩ = some (.slice A9 k c9) := hbd.cell 2
            have z9 : w9d.frozen? ⟨w.heap.size, 2, none⟩ = false := hbd.frozen 2
            have hBd : Below w.heap.size w w9d := H9.out.2.1.trans (hcd.below (fun i hi => Nat.le_of_lt (hrx9.lt i hi).1) H9.out.2.1.size)
            obtain ⟨A9', c9', hv', _, _⟩ := hrd.slice
            subst hv'
            have hBe : Below w.heap.size w (w9d.setCell ⟨w.heap.size, 2, none⟩ (.slice A9' (k + 1) c9')) := ((Chg.refl (fun k => k = w.heap.size) w9d).setCell (.inr rfl) 2 (.slice A9' (k + 1) c9')).below (B := w.heap.size) (fun i hi => by omega) hBd.size |> hBd.trans
            have HA9 := Lib.hid (And.intro hnA hBe)
            clear hrd hcd hnd hod hnA hgm hbd hBd hBe hrx9 q9
            go_wp2_with fail
            go_roundw
            case rel => exact ⟨k + 1, by omega, by go_num, _, _, _, HA9.out.1, HA9.out.2⟩
            case measure => simp [intOf]; omega
          · go_wp2_with fail
            refine HF8.out.mono ?_
            rintro e w8b ⟨rfl, hb3⟩
            have hnb := H8.out.1.below hb3
            have hbb := H8.out.2.1.trans (hb3.mono H8.out.2.1.size)
            have q8 : w8b.cell? ⟨w.heap.size, 1, none⟩ = some (.slice A8 k c8) := hnb.blk.cell 1
            have hb5 : Below w8b.heap.size w8b (w8b.alloc (.cells #[.string ⟨(full []).toArray⟩] 9)) := (Below.refl _ _).alloc (Nat.le_refl _) _
            have hnc := hnb.below hb5
            have q8c : (w8b.alloc (.cells #[.string ⟨(full []).toArray⟩] 9)).cell? ⟨w.heap.size, 1, none⟩ = some (.slice A8 k c8) := hnc.blk.cell 1
            have hkc := Blk.new w8b 9 [.string ⟨(full []).toArray⟩]
            have HB8 := Lib.hid (And.intro hnc (And.intro (hbb.trans (hb5.mono hbb.size)) hkc))
            clear hnb hbb hb5 hnc hkc hb3
            go_wp2_with fail
            refine ⟨rfl, ?_⟩
            refine any_pair 4 6 (by kernel_rfl) rfl rfl ?_ ?_
            · go_wp2_with fail
              refine ⟨rfl, ?_⟩
              refine any_only 6 (by kernel_rfl) rfl ?_
              go_wp2_with fail
              refine ⟨rfl, ?_⟩
              obtain ⟨l8', hrx8⟩ := HB8.out.1.r2
              refine any_only 7 (by kernel_rfl) rfl ?_
              refine wpList_append_orow0 _ rfl (.tmp 33) (.tmp 35) _ rfl 9 i0 _ 1 16 Try.underlying54 hi0 hz0 hz1 hz2 rfl (by omega) (fun i => w.heap.size < i) _ k (sv l8') rfl hrx8 ?_ ⟨w8b.heap.size, 0, none⟩ 1 1 [.string ⟨(full []).toArray⟩] rfl rfl ?_ ?_ ?_ ?_ ?_
              · intro i hi
                have h5 := HB8.out.1.blk.lt
                omega
              · intro j u hj
                rw [Addr.add_lit, Nat.zero_add, HB8.out.2.2.cell]
                exact hj
              · intro u hu
                simp at hu
                subst hu
                rfl
              · unfold maxLen; omega
              · omega
              intro v8' w8d hrd hcd hnd hod
              rw [sv_snoc] at hrd
              have hnA : NewAt (w8d.setCell ⟨w.heap.size, 1, none⟩ v8') w.heap.size _ _ _ _ _ _ := HB8.out.1.app2 ⟨_, hrd⟩ hcd hnd hod
              have hgm : ¬ some w.heap.size = (Value.slice A8 k c8).ownBlock := fun e => by have := (hrx8.lt _ e).1; omega
              have hbd := HB8.out.1.blk.chg hcd hgm
              have p8 : w8d.cell? ⟨w.heap.size, 1, none⟩ = some (.slice A8 k c8) := hbd.cell 1
              have z8 : w8d.frozen? ⟨w.heap.size, 1, none⟩ = false := hbd.frozen 1
              have hBd : Below w.heap.size w w8d := HB8.out.2.1.trans (hcd.below (fun i hi => Nat.le_of_lt (hrx8.lt i hi).1) HB8.out.2.1.size)
              obtain ⟨A8', c8', hv', _, _⟩ := hrd.slice
              subst hv'
              have hBe : Below w.heap.size w (w8d.setCell ⟨w.heap.size, 1, none⟩ (.slice A8' (k + 1) c8')) := ((Chg.refl (fun k => k = w.heap.size) w8d).setCell (.inr rfl) 1 (.slice A8' (k + 1) c8')).below (B := w.heap.size) (fun i hi => by omega) hBd.size |> hBd.trans
              obtain ⟨w8e, hw8e⟩ : ∃ x, w8d.setCell ⟨w.heap.size, 1, none⟩ (.slice A8' (k + 1) c8') = x := ⟨_, rfl⟩
              rw [hw8e] at hnA hBe
              have HA8 := Lib.hid (And.intro hnA (And.intro hBe hw8e))
              clear hrd hcd hnd hod hnA hgm hbd hBd hBe hw8e hrx8 q8 q8c
              go_wp2_with fail
              refine ⟨rfl, ?_⟩
              refine any_only 8 (by kernel_rfl) rfl ?_
              go_wp2_with fail
              refine ⟨rfl, ?_⟩
              refine any_only 9 (by kernel_rfl) rfl ?_
              go_wp2_with fail
              refine ⟨rfl, ?_⟩
              refine any_only 10 (by kernel_rfl) rfl ?_
              go_wp2_with fail
              refine ⟨rfl, ?_⟩
              rw [HA8.out.2.2]
              refine wpAny_done (by kernel_rfl) ?_ _
              refine ⟨rfl, ?_⟩
              clear p8 z8
              have hnw := HA8.out.1
              have hb := HA8.out.2.1
              obtain ⟨l9, hro9⟩ := hnw.r3
              obtain ⟨A9, c9, hv9, _, _⟩ := hro9.slice
              subst hv9
              have q9 : w8e.cell? ⟨w.heap.size, 2, none⟩ = some (.slice A9 k c9) := hnw.blk.cell 2
              have hb9 : Below w8e.heap.size w8e (w8e.alloc (.cells #[.bool false] 4)) := (Below.refl _ _).alloc (Nat.le_refl _) _
              have hk9 := Blk.new w8e 4 [.bool false]
              have H9 := Lib.hid (And.intro (hnw.below hb9) (And.intro (hb.trans (hb9.mono hb.size)) hk9))
              obtain ⟨l9', hrx9⟩ := H9.out.1.r3
              clear hro9 hb9 hk9 hnw hb
              go_wp2_with (at_builtin; refine wpList_append_orow0 _ rfl (.tmp 43) (.tmp 44) _ rfl 4 j0 _ 1 1 Try.underlying33 hj0 hy0 hy1 hy2 rfl (by omega) (fun i => w.heap.size < i) _ k (tv l9') rfl hrx9 ?_ ⟨w8e.heap.size, 0, none⟩ 1 1 [.bool false] rfl rfl ?_ ?_ ?_ ?_ ?_)
              · intro i hi
                have h5 := H9.out.1.blk.lt
                omega
              · intro j u hj
                rw [Addr.add_lit, Nat.zero_add, H9.out.2.2.cell]
                exact hj
              · intro u hu
                simp at hu
                subst hu
                rfl
              · unfold maxLen; omega
              · omega
              intro v9' w9d hrd hcd hnd hod
              rw [tv_snoc] at hrd
              have hnA : NewAt (w9d.setCell ⟨w.heap.size, 2, none⟩ v9') w.heap.size _ _ _ _ _ _ := H9.out.1.app3 ⟨_, hrd⟩ hcd hod
              have hgm : ¬ some w.heap.size = (Value.slice A9 k c9).ownBlock := fun e => by have := (hrx9.lt _ e).1; omega
              have hbd := H9.out.1.blk.chg hcd hgm
              have p9 : w9d.cell? ⟨w.heap.size, 2, none⟩ = some (.slice A9 k c9) := hbd.cell 2
              have z9 : w9d.frozen? ⟨w.heap.size, 2, none⟩ = false := hbd.frozen 2
              have hBd : Below w.heap.size w w9d := H9.out.2.1.trans (hcd.below (fun i hi => Nat.le_of_lt (hrx9.lt i hi).1) H9.out.2.1.size)
              obtain ⟨A9', c9', hv', _, _⟩ := hrd.slice
              subst hv'
              have hBe : Below w.heap.size w (w9d.setCell ⟨w.heap.size, 2, none⟩ (.slice A9' (k + 1) c9')) := ((Chg.refl (fun k => k = w.heap.size) w9d).setCell (.inr rfl) 2 (.slice A9' (k + 1) c9')).below (B := w.heap.size) (fun i hi => by omega) hBd.size |> hBd.trans
              have HA9 := Lib.hid (And.intro hnA hBe)
              clear hrd hcd hnd hod hnA hgm hbd hBd hBe hrx9 q9
              go_wp2_with fail
              go_roundw
              case rel => exact ⟨k + 1, by omega, by go_num, _, _, _, HA9.out.1, HA9.out.2⟩
              case measure => simp [intOf]; omega
            · go_wp2_with fail
              refine ⟨rfl, ?_⟩
              refine any_only 4 (by kernel_rfl) rfl ?_
              go_wp2_with fail
              refine ⟨rfl, ?_⟩
              obtain ⟨l8', hrx8⟩ := HB8.out.1.r2
              refine any_only 7 (by kernel_rfl) rfl ?_
              refine wpList_append_orow0 _ rfl (.tmp 33) (.tmp 35) _ rfl 9 i0 _ 1 16 Try.underlying54 hi0 hz0 hz1 hz2 rfl (by omega) (fun i => w.heap.size < i) _ k (sv l8') rfl hrx8 ?_ ⟨w8b.heap.size, 0, none⟩ 1 1 [.string ⟨(full []).toArray⟩] rfl rfl ?_ ?_ ?_ ?_ ?_
              · intro i hi
                have h5 := HB8.out.1.blk.lt
                omega
              · intro j u hj
                rw [Addr.add_lit, Nat.zero_add, HB8.out.2.2.cell]
                exact hj
              · intro u hu
                simp at hu
                subst hu
                rfl
              · unfold maxLen; omega
              · omega
              intro v8' w8d hrd hcd hnd hod
              rw [sv_snoc] at hrd
              have hnA : NewAt (w8d.setCell ⟨w.heap.size, 1, none⟩ v8') w.heap.size _ _ _ _ _ _ := HB8.out.1.app2 ⟨_, hrd⟩ hcd hnd hod
              have hgm : ¬ some w.heap.size = (Value.slice A8 k c8).ownBlock := fun e => by have := (hrx8.lt _ e).1; omega
              have hbd := HB8.out.1.blk.chg hcd hgm
              have p8 : w8d.cell? ⟨w.heap.size, 1, none⟩ = some (.slice A8 k c8) := hbd.cell 1
              have z8 : w8d.frozen? ⟨w.heap.size, 1, none⟩ = false := hbd.frozen 1
              have hBd : Below w.heap.size w w8d := HB8.out.2.1.trans (hcd.below (fun i hi => Nat.le_of_lt (hrx8.lt i hi).1) HB8.out.2.1.size)
              obtain ⟨A8', c8', hv', _, _⟩ := hrd.slice
              subst hv'
              have hBe : Below w.heap.size w (w8d.setCell ⟨w.heap.size, 1, none⟩ (.slice A8' (k + 1) c8')) := ((Chg.refl (fun k => k = w.heap.size) w8d).setCell (.inr rfl) 1 (.slice A8' (k + 1) c8')).below (B := w.heap.size) (fun i hi => by omega) hBd.size |> hBd.trans
              obtain ⟨w8e, hw8e⟩ : ∃ x, w8d.setCell ⟨w.heap.size, 1, none⟩ (.slice A8' (k + 1) c8') = x := ⟨_, rfl⟩
              rw [hw8e] at hnA hBe
              have HA8 := Lib.hid (And.intro hnA (And.intro hBe hw8e))
              clear hrd hcd hnd hod hnA hgm hbd hBd hBe hw8e hrx8 q8 q8c
              go_wp2_with fail
              refine ⟨rfl, ?_⟩
              refine any_only 8 (by kernel_rfl) rfl ?_
              go_wp2_with fail
              refine ⟨rfl, ?_⟩
              refine any_only 9 (by kernel_rfl) rfl ?_
              go_wp2_with fail
              refine ⟨rfl, ?_⟩
              refine any_only 10 (by kernel_rfl) rfl ?_
              go_wp2_with fail
              refine ⟨rfl, ?_⟩
              rw [HA8.out.2.2]
              refine wpAny_done (by kernel_rfl) ?_ _
              refine ⟨rfl, ?_⟩
              clear p8 z8
              have hnw := HA8.out.1
              have hb := HA8.out.2.1
              obtain ⟨l9, hro9⟩ := hnw.r3
              obtain ⟨A9, c9, hv9, _, _⟩ := hro9.slice
              subst hv9
              have q9 : w8e.cell? ⟨w.heap.size, 2, none⟩ = some (.slice A9 k c9) := hnw.blk.cell 2
              have hb9 : Below w8e.heap.size w8e (w8e.alloc (.cells #[.bool false] 4)) := (Below.refl _ _).alloc (Nat.le_refl _) _
              have hk9 := Blk.new w8e 4 [.bool false]
              have H9 := Lib.hid (And.intro (hnw.below hb9) (And.intro (hb.trans (hb9.mono hb.size)) hk9))
              obtain ⟨l9', hrx9⟩ := H9.out.1.r3
              clear hro9 hb9 hk9 hnw hb
              go_wp2_with (at_builtin; refine wpList_append_orow0 _ rfl (.tmp 43) (.tmp 44) _ rfl 4 j0 _ 1 1 Try.underlying33 hj0 hy0 hy1 hy2 rfl (by omega) (fun i => w.heap.size < i) _ k (tv l9') rfl hrx9 ?_ ⟨w8e.heap.size, 0, none⟩ 1 1 [.bool false] rfl rfl ?_ ?_ ?_ ?_ ?_)
              · intro i hi
                have h5 := H9.out.1.blk.lt
                omega
              · intro j u hj
                rw [Addr.add_lit, Nat.zero_add, H9.out.2.2.cell]
                exact hj
              · intro u hu
                simp at hu
                subst hu
                rfl
              · unfold maxLen; omega
              · omega
              intro v9' w9d hrd hcd hnd hod
              rw [tv_snoc] at hrd
              have hnA : NewAt (w9d.setCell ⟨w.heap.size, 2, none⟩ v9') w.heap.size _ _ _ _ _ _ := H9.out.1.app3 ⟨_, hrd⟩ hcd hod
              have hgm : ¬ some w.heap.size = (Value.slice A9 k c9).ownBlock := fun e => by have := (hrx9.lt _ e).1; omega
              have hbd := H9.out.1.blk.chg hcd hgm
              have p9 : w9d.cell? ⟨w.heap.size, 2, none⟩ = some (.slice A9 k c9) := hbd.cell 2
              have z9 : w9d.frozen? ⟨w.heap.size, 2, none⟩ = false := hbd.frozen 2
              have hBd : Below w.heap.size w w9d := H9.out.2.1.trans (hcd.below (fun i hi => Nat.le_of_lt (hrx9.lt i hi).1) H9.out.2.1.size)
              obtain ⟨A9', c9', hv', _, _⟩ := hrd.slice
              subst hv'
              have hBe : Below w.heap.size w (w9d.setCell ⟨w.heap.size, 2, none⟩ (.slice A9' (k + 1) c9')) := ((Chg.refl (fun k => k = w.heap.size) w9d).setCell (.inr rfl) 2 (.slice A9' (k + 1) c9')).below (B := w.heap.size) (fun i hi => by omega) hBd.size |> hBd.trans
              have HA9 := Lib.hid (And.intro hnA hBe)
              clear hrd hcd hnd hod hnA hgm hbd hBd hBe hrx9 q9
              go_wp2_with fail
              go_roundw
              case rel => exact ⟨k + 1, by omega, by go_num, _, _, _, HA9.out.1, HA9.out.2⟩
              case measure => simp [intOf]; omega
        · go_wp2_with fail
          refine ⟨rfl, ?_⟩
          refine any_only 4 (by kernel_rfl) rfl ?_
          go_wp2_with fail
          refine ⟨rfl, ?_⟩
          obtain ⟨l7', hrx7⟩ := HB7.out.1.r1
          refine any_only 7 (by kernel_rfl) rfl ?_
          refine wpList_append_orow0 _ rfl (.tmp 23) (.tmp 25) _ rfl 9 i0 _ 1 16 Try.underlying54 hi0 hz0 hz1 hz2 rfl (by omega) (fun i => w.heap.size < i) _ k (sv l7') rfl hrx7 ?_ ⟨w7b.heap.size, 0, none⟩ 1 1 [.string ⟨(full []).toArray⟩] rfl rfl ?_ ?_ ?_ ?_ ?_
          · intro i hi
            have h5 := HB7.out.1.blk.lt
            omega
          · intro j u hj
            rw [Addr.add_lit, Nat.zero_add, HB7.out.2.2.cell]
            exact hj
          · intro u hu
            simp at hu
            subst hu
            rfl
          · unfold maxLen; omega
          · omega
          intro v7' w7d hrd hcd hnd hod
          rw [sv_snoc] at hrd
          have hnA : NewAt (w7d.setCell ⟨w.heap.size, 0, none⟩ v7') w.heap.size _ _ _ _ _ _ := HB7.out.1.app1 ⟨_, hrd⟩ hcd hnd hod
          have hgm : ¬ some w.heap.size = (Value.slice A7 k c7).ownBlock := fun e => by have := (hrx7.lt _ e).1; omega
          have hbd := HB7.out.1.blk.chg hcd hgm
          have p7 : w7d.cell? ⟨w.heap.size, 0, none⟩ = some (.slice A7 k c7) := hbd.cell 0
          have z7 : w7d.frozen? ⟨w.heap.size, 0, none⟩ = false := hbd.frozen 0
          have hBd : Below w.heap.size w w7d := HB7.out.2.1.trans (hcd.below (fun i hi => Nat.le_of_lt (hrx7.lt i hi).1) HB7.out.2.1.size)
          obtain ⟨A7', c7', hv', _, _⟩ := hrd.slice
          subst hv'
          have hBe : Below w.heap.size w (w7d.setCell ⟨w.heap.size, 0, none⟩ (.slice A7' (k + 1) c7')) := ((Chg.refl (fun k => k = w.heap.size) w7d).setCell (.inr rfl) 0 (.slice A7' (k + 1) c7')).below (B := w.heap.size) (fun i hi => by omega) hBd.size |> hBd.trans
          obtain ⟨w7e, hw7e⟩ : ∃ x, w7d.setCell ⟨w.heap.size, 0, none⟩ (.slice A7' (k + 1) c7') = x := ⟨_, rfl⟩
          rw [hw7e] at hnA hBe
          have HA7 := Lib.hid (And.intro hnA (And.intro hBe hw7e))
          clear hrd hcd hnd hod hnA hgm hbd hBd hBe hw7e hrx7 q7 q7c
          go_wp2_with fail
          refine ⟨rfl, ?_⟩
          refine any_only 8 (by kernel_rfl) rfl ?_
          go_wp2_with fail
          refine ⟨rfl, ?_⟩
          refine any_only 9 (by kernel_rfl) rfl ?_
          go_wp2_with fail
          refine ⟨rfl, ?_⟩
          refine any_only 10 (by kernel_rfl) rfl ?_
          go_wp2_with fail
          refine ⟨rfl, ?_⟩
          rw [HA7.out.2.2]
          refine wpAny_done (by kernel_rfl) ?_ _
          refine ⟨rfl, ?_⟩
          clear p7 z7
          have hnw := HA7.out.1
          have hb := HA7.out.2.1
          obtain ⟨w8a, hw8⟩ : ∃ x, w7e.drew = x := ⟨_, rfl⟩
          have hba8 : Below w.heap.size w w8a := by rw [← hw8]; exact hb.drew
          have hna8 := hnw.below (Below.refl w7e.heap.size w7e).drew
          rw [hw8] at hna8
          obtain ⟨l8, hro8⟩ := hna8.r2
          obtain ⟨A8, c8, hv8, _, _⟩ := hro8.slice
          have HF8 := Lib.hid (full_any none 0 0 0 [] w8a Rd.nil rfl (by omega))
          have H8 := Lib.hid (And.intro hna8 (And.intro hba8 hw8))
          subst hv8
          have q8 : w8a.cell? ⟨w.heap.size, 1, none⟩ = some (.slice A8 k c8) := hna8.blk.cell 1
          clear hba8 hna8 hw8 hro8 hnw hb
          go_wp2_with fail
          refine region_by_hand0 hmx ?_
          rw [H8.out.2.2]
          refine any_take (i := 0) _ rfl (by kernel_rfl) (by kernel_rfl) (by kernel_rfl) (by rfl) (by intro w; go_simp <;> with_reducible rfl) ?_
          simp only [Act.put, List.setIfInBounds_toArray, List.set_cons_zero, List.set_cons_succ]
          refine any_take (i := 1) _ rfl (by kernel_rfl) (by kernel_rfl) (by kernel_rfl) (by rfl) (by intro w; go_simp <;> with_reducible rfl) ?_
          simp only [Act.put, List.setIfInBounds_toArray, List.set_cons_zero, List.set_cons_succ]
          refine any_take (i := 2) _ rfl (by kernel_rfl) (by kernel_rfl) (by kernel_rfl) (by rfl) (by intro w; go_simp <;> with_reducible rfl) ?_
          simp only [Act.put, List.setIfInBounds_toArray, List.set_cons_zero, List.set_cons_succ]
          refine any_take (i := 3) _ rfl (by kernel_rfl) (by kernel_rfl) (by kernel_rfl) (by rfl) (by intro w; go_simp <;> with_reducible rfl) ?_
          simp only [Act.put, List.setIfInBounds_toArray, List.set_cons_zero, List.set_cons_succ]
          refine any_pair 4 5 (by kernel_rfl) rfl rfl ?_ ?_
          · go_wp2_with fail
            refine ⟨rfl, ?_⟩
            refine any_only 5 (by kernel_rfl) rfl ?_
            go_wp2_with fail
            refine HF8.out.mono ?_
            rintro e w8b ⟨rfl, hb3⟩
            have hnb := H8.out.1.below hb3
            have hbb := H8.out.2.1.trans (hb3.mono H8.out.2.1.size)
            have q8 : w8b.cell? ⟨w.heap.size, 1, none⟩ = some (.slice A8 k c8) := hnb.blk.cell 1
            have hb5 : Below w8b.heap.size w8b (w8b.alloc (.cells #[.string ⟨(full []).toArray⟩] 9)) := (Below.refl _ _).alloc (Nat.le_refl _) _
            have hnc := hnb.below hb5
            have q8c : (w8b.alloc (.cells #[.string ⟨(full []).toArray⟩] 9)).cell? ⟨w.heap.size, 1, none⟩ = some (.slice A8 k c8) := hnc.blk.cell 1
            have hkc := Blk.new w8b 9 [.string ⟨(full []).toArray⟩]
            have HB8 := Lib.hid (And.intro hnc (And.intro (hbb.trans (hb5.mono hbb.size)) hkc))
            clear hnb hbb hb5 hnc hkc hb3
            go_wp2_with fail
            refine ⟨rfl, ?_⟩
            refine any_only 6 (by kernel_rfl) rfl ?_
            go_wp2_with fail
            refine ⟨rfl, ?_⟩
            obtain ⟨l8', hrx8⟩ := HB8.out.1.r2
            refine any_only 7 (by kernel_rfl) rfl ?_
            refine wpList_append_orow0 _ rfl (.tmp 33) (.tmp 35) _ rfl 9 i0 _ 1 16 Try.underlying54 hi0 hz0 hz1 hz2 rfl (by omega) (fun i => w.heap.size < i) _ k (sv l8') rfl hrx8 ?_ ⟨w8b.heap.size, 0, none⟩ 1 1 [.string ⟨(full []).toArray⟩] rfl rfl ?_ ?_ ?_ ?_ ?_
            · intro i hi
              have h5 := HB8.out.1.blk.lt
              omega
            · intro j u hj
              rw [Addr.add_lit, Nat.zero_add, HB8.out.2.2.cell]
              exact hj
            · intro u hu
              simp at hu
              subst hu
              rfl
            · unfold maxLen; omega
            · omega
            intro v8' w8d hrd hcd hnd hod
            rw [sv_snoc] at hrd
            have hnA : NewAt (w8d.setCell ⟨w.heap.size, 1, none⟩ v8') w.heap.size _ _ _ _ _ _ := HB8.out.1.app2 ⟨_, hrd⟩ hcd hnd hod
            have hgm : ¬ some w.heap.size = (Value.slice A8 k c8).ownBlock := fun e => by have := (hrx8.lt _ e).1; omega
            have hbd := HB8.out.1.blk.chg hcd hgm
            have p8 : w8d.cell? ⟨w.heap.size, 1, none⟩ = some (.slice A8 k c8) := hbd.cell 1
            have z8 : w8d.frozen? ⟨w.heap.size, 1, none⟩ = false := hbd.frozen 1
            have hBd : Below w.heap.size w w8d := HB8.out.2.1.trans (hcd.below (fun i hi => Nat.le_of_lt (hrx8.lt i hi).1) HB8.out.2.1.size)
            obtain ⟨A8', c8', hv', _, _⟩ := hrd.slice
            subst hv'
            have hBe : Below w.heap.size w (w8d.setCell ⟨w.heap.size, 1, none⟩ (.slice A8' (k + 1) c8')) := ((Chg.refl (fun k => k = w.heap.size) w8d).setCell (.inr rfl) 1 (.slice A8' (k + 1) c8')).below (B := w.heap.size) (fun i hi => by omega) hBd.size |> hBd.trans
            obtain ⟨w8e, hw8e⟩ : ∃ x, w8d.setCell ⟨w.heap.size, 1, none⟩ (.slice A8' (k + 1) c8') = x := ⟨_, rfl⟩
            rw [hw8e] at hnA hBe
            have HA8 := Lib.hid (And.intro hnA (And.intro hBe hw8e))
            clear hrd hcd hnd hod hnA hgm hbd hBd hBe hw8e hrx8 q8 q8c
            go_wp2_with fail
            refine ⟨rfl, ?_⟩
            refine any_only 8 (by kernel_rfl) rfl ?_
            go_wp2_with fail
            refine ⟨rfl, ?_⟩
            refine any_only 9 (by kernel_rfl) rfl ?_
            go_wp2_with fail
            refine ⟨rfl, ?_⟩
            refine any_only 10 (by kernel_rfl) rfl ?_
            go_wp2_with fail
            refine ⟨rfl, ?_⟩
            rw [HA8.out.2.2]
            refine wpAny_done (by kernel_rfl) ?_ _
            refine ⟨rfl, ?_⟩
            clear p8 z8
            have hnw := HA8.out.1
            have hb := HA8.out.2.1
            obtain ⟨l9, hro9⟩ := hnw.r3
            obtain ⟨A9, c9, hv9, _, _⟩ := hro9.slice
            subst hv9
            have q9 : w8e.cell? ⟨w.heap.size, 2, none⟩ = some (.slice A9 k c9) := hnw.blk.cell 2
            have hb9 : Below w8e.heap.size w8e (w8e.alloc (.cells #[.bool false] 4)) := (Below.refl _ _).alloc (Nat.le_refl _) _
            have hk9 := Blk.new w8e 4 [.bool false]
            have H9 := Lib.hid (And.intro (hnw.below hb9) (And.intro (hb.trans (hb9.mono hb.size)) hk9))
            obtain ⟨l9', hrx9⟩ := H9.out.1.r3
            clear hro9 hb9 hk9 hnw hb
            go_wp2_with (at_builtin; refine wpList_append_orow0 _ rfl (.tmp 43) (.tmp 44) _ rfl 4 j0 _ 1 1 Try.underlying33 hj0 hy0 hy1 hy2 rfl (by omega) (fun i => w.heap.size < i) _ k (tv l9') rfl hrx9 ?_ ⟨w8e.heap.size, 0, none⟩ 1 1 [.bool false] rfl rfl ?_ ?_ ?_ ?_ ?_)
            · intro i hi
              have h5 := H9.out.1.blk.lt
              omega
            · intro j u hj
              rw [Addr.add_lit, Nat.zero_add, H9.out.2.2.cell]
              exact hj
            · intro u hu
              simp at hu
              subst hu
              rfl
            · unfold maxLen; omega
            · omega
            intro v9' w9d hrd hcd hnd hod
            rw [tv_snoc] at hrd
            have hnA : NewAt (w9d.setCell ⟨w.heap.size, 2, none⟩ v9') w.heap.size _ _ _ _ _ _ := H9.out.1.app3 ⟨_, hrd⟩ hcd hod
            have hgm : ¬ some w.heap.size = (Value.slice A9 k c9).ownBlock := fun e => by have := (hrx9.lt _ e).1; omega
            have hbd := H9.out.1.blk.chg hcd hgm
            have p9 : w9d.cell? ⟨w.heap.size, 2, none⟩ = some (.slice A9 k c9) := hbd.cell 2
            have z9 : w9d.frozen? ⟨w.heap.size, 2, none⟩ = false := hbd.frozen 2
            have hBd : Below w.heap.size w w9d := H9.out.2.1.trans (hcd.below (fun i hi => Nat.le_of_lt (hrx9.lt i hi).1) H9.out.2.1.size)
            obtain ⟨A9', c9', hv', _, _⟩ := hrd.slice
            subst hv'
            have hBe : Below w.heap.size w (w9d.setCell ⟨w.heap.size, 2, none⟩ (.slice A9' (k + 1) c9')) := ((Chg.refl (fun k => k = w.heap.size) w9d).setCell (.inr rfl) 2 (.slice A9' (k + 1) c9')).below (B := w.heap.size) (fun i hi => by omega) hBd.size |> hBd.trans
            have HA9 := Lib.hid (And.intro hnA hBe)
            clear hrd hcd hnd hod hnA hgm hbd hBd hBe hrx9 q9
            go_wp2_with fail
            go_roundw
            case rel => exact ⟨k + 1, by omega, by go_num, _, _, _, HA9.out.1, HA9.out.2⟩
            case measure => simp [intOf]; omega
          · go_wp2_with fail
            refine HF8.out.mono ?_
            rintro e w8b ⟨rfl, hb3⟩
            have hnb := H8.out.1.below hb3
            have hbb := H8.out.2.1.trans (hb3.mono H8.out.2.1.size)
            have q8 : w8b.cell? ⟨w.heap.size, 1, none⟩ = some (.slice A8 k c8) := hnb.blk.cell 1
            have hb5 : Below w8b.heap.size w8b (w8b.alloc (.cells #[.string ⟨(full []).toArray⟩] 9)) := (Below.refl _ _).alloc (Nat.le_refl _) _
            have hnc := hnb.below hb5
            have q8c : (w8b.alloc (.cells #[.string ⟨(full []).toArray⟩] 9)).cell? ⟨w.heap.size, 1, none⟩ = some (.slice A8 k c8) := hnc.blk.cell 1
            have hkc := Blk.new w8b 9 [.string ⟨(full []).toArray⟩]
            have HB8 := Lib.hid (And.intro hnc (And.intro (hbb.trans (hb5.mono hbb.size)) hkc))
            clear hnb hbb hb5 hnc hkc hb3
            go_wp2_with fail
            refine ⟨rfl, ?_⟩
            refine any_pair 4 6 (by kernel_rfl) rfl rfl ?_ ?_
            · go_wp2_with fail
              refine ⟨rfl, ?_⟩
              refine any_only 6 (by kernel_rfl) rfl ?_
              go_wp2_with fail
              refine ⟨rfl, ?_⟩
              obtain ⟨l8', hrx8⟩ := HB8.out.1.r2
              refine any_only 7 (by kernel_rfl) rfl ?_
              refine wpList_append_orow0 _ rfl (.tmp 33) (.tmp 35) _ rfl 9 i0 _ 1 16 Try.underlying54 hi0 hz0 hz1 hz2 rfl (by omega) (fun i => w.heap.size < i) _ k (sv l8') rfl hrx8 ?_ ⟨w8b.heap.size, 0, none⟩ 1 1 [.string ⟨(full []).toArray⟩] rfl rfl ?_ ?_ ?_ ?_ ?_
              · intro i hi
                have h5 := HB8.out.1.blk.lt
                omega
              · intro j u hj
                rw [Addr.add_lit, Nat.zero_add, HB8.out.2.2.cell]
                exact hj
              · intro u hu
                simp at hu
                subst hu
                rfl
              · unfold maxLen; omega
              · omega
              intro v8' w8d hrd hcd hnd hod
              rw [sv_snoc] at hrd
              have hnA : NewAt (w8d.setCell ⟨w.heap.size, 1, none⟩ v8') w.heap.size _ _ _ _ _ _ := HB8.out.1.app2 ⟨_, hrd⟩ hcd hnd hod
              have hgm : ¬ some w.heap.size = (Value.slice A8 k c8).ownBlock := fun e => by have := (hrx8.lt _ e).1; omega
              have hbd := HB8.out.1.blk.chg hcd hgm
              have p8 : w8d.cell? ⟨w.heap.size, 1, none⟩ = some (.slice A8 k c8) := hbd.cell 1
              have z8 : w8d.frozen? ⟨w.heap.size, 1, none⟩ = false := hbd.frozen 1
              have hBd : Below w.heap.size w w8d := HB8.out.2.1.trans (hcd.below (fun i hi => Nat.le_of_lt (hrx8.lt i hi).1) HB8.out.2.1.size)
              obtain ⟨A8', c8', hv', _, _⟩ := hrd.slice
              subst hv'
              have hBe : Below w.heap.size w (w8d.setCell ⟨w.heap.size, 1, none⟩ (.slice A8' (k + 1) c8')) := ((Chg.refl (fun k => k = w.heap.size) w8d).setCell (.inr rfl) 1 (.slice A8' (k + 1) c8')).below (B := w.heap.size) (fun i hi => by omega) hBd.size |> hBd.trans
              obtain ⟨w8e, hw8e⟩ : ∃ x, w8d.setCell ⟨w.heap.size, 1, none⟩ (.slice A8' (k + 1) c8') = x := ⟨_, rfl⟩
              rw [hw8e] at hnA hBe
              have HA8 := Lib.hid (And.intro hnA (And.intro hBe hw8e))
              clear hrd hcd hnd hod hnA hgm hbd hBd hBe hw8e hrx8 q8 q8c
              go_wp2_with fail
              refine ⟨rfl, ?_⟩
              refine any_only 8 (by kernel_rfl) rfl ?_
              go_wp2_with fail
              refine ⟨rfl, ?_⟩
              refine any_only 9 (by kernel_rfl) rfl ?_
              go_wp2_with fail
              refine ⟨rfl, ?_⟩
              refine any_only 10 (by kernel_rfl) rfl ?_
              go_wp2_with fail
              refine ⟨rfl, ?_⟩
              rw [HA8.out.2.2]
              refine wpAny_done (by kernel_rfl) ?_ _
              refine ⟨rfl, ?_⟩
              clear p8 z8
              have hnw := HA8.out.1
              have hb := HA8.out.2.1
              obtain ⟨l9, hro9⟩ := hnw.r3
              obtain ⟨A9, c9, hv9, _, _⟩ := hro9.slice
              subst hv9
              have q9 : w8e.cell? ⟨w.heap.size, 2, none⟩ = some (.slice A9 k c9) := hnw.blk.cell 2
              have hb9 : Below w8e.heap.size w8e (w8e.alloc (.cells #[.bool false] 4)) := (Below.refl _ _).alloc (Nat.le_refl _) _
              have hk9 := Blk.new w8e 4 [.bool false]
              have H9 := Lib.hid (And.intro (hnw.below hb9) (And.intro (hb.trans (hb9.mono hb.size)) hk9))
              obtain ⟨l9', hrx9⟩ := H9.out.1.r3
              clear hro9 hb9 hk9 hnw hb
              go_wp2_with (at_builtin; refine wpList_append_orow0 _ rfl (.tmp 43) (.tmp 44) _ rfl 4 j0 _ 1 1 Try.underlying33 hj0 hy0 hy1 hy2 rfl (by omega) (fun i => w.heap.size < i) _ k (tv l9') rfl hrx9 ?_ ⟨w8e.heap.size, 0, none⟩ 1 1 [.bool false] rfl rfl ?_ ?_ ?_ ?_ ?_)
              · intro i hi
                have h5 := H9.out.1.blk.lt
                omega
              · intro j u hj
                rw [Addr.add_lit, Nat.zero_add, H9.out.2.2.cell]
                exact hj
              · intro u hu
                simp at hu
                subst hu
                rfl
              · unfold maxLen; omega
              · omega
              intro v9' w9d hrd hcd hnd hod
              rw [tv_snoc] at hrd
              have hnA : NewAt (w9d.setCell ⟨w.heap.size, 2, none⟩ v9') w.heap.size _ _ _ _ _ _ := H9.out.1.app3 ⟨_, hrd⟩ hcd hod
              have hgm : ¬ some w.heap.size = (Value.slice A9 k c9).ownBlock := fun e => by have := (hrx9.lt _ e).1; omega
              have hbd := H9.out.1.blk.chg hcd hgm
              have p9 : w9d.cell? ⟨w.heap.size, 2, none⟩ = some (.slice A9 k c9) := hbd.cell 2
              have z9 : w9d.frozen? ⟨w.heap.size, 2, none⟩ = false := hbd.frozen 2
              have hBd : Below w.heap.size w w9d := H9.out.2.1.trans (hcd.below (fun i hi => Nat.le_of_lt (hrx9.lt i hi).1) H9.out.2.1.size)
              obtain ⟨A9', c9', hv', _, _⟩ := hrd.slice
              subst hv'
              have hBe : Below w.heap.size w (w9d.setCell ⟨w.heap.size, 2, none⟩ (.slice A9' (k + 1) c9')) := ((Chg.refl (fun k => k = w.heap.size) w9d).setCell (.inr rfl) 2 (.slice A9' (k + 1) c9')).below (B := w.heap.size) (fun i hi => by omega) hBd.size |> hBd.trans
              have HA9 := Lib.hid (And.intro hnA hBe)
              clear hrd hcd hnd hod hnA hgm hbd hBd hBe hrx9 q9
              go_wp2_with fail
              go_roundw
              case rel => exact ⟨k + 1, by omega, by go_num, _, _, _, HA9.out.1, HA9.out.2⟩
              case measure => simp [intOf]; omega
            · go_wp2_with fail
              refine ⟨rfl, ?_⟩
              refine any_only 4 (by kernel_rfl) rfl ?_
              go_wp2_with fail
              refine ⟨rfl, ?_⟩
              obtain ⟨l8', hrx8⟩ := HB8.out.1.r2
              refine any_only 7 (by kernel_rfl) rfl ?_
              refine wpList_append_orow0 _ rfl (.tmp 33) (.tmp 35) _ rfl 9 i0 _ 1 16 Try.underlying54 hi0 hz0 hz1 hz2 rfl (by omega) (fun i => w.heap.size < i) _ k (sv l8') rfl hrx8 ?_ ⟨w8b.heap.size, 0, none⟩ 1 1 [.string ⟨(full []).toArray⟩] rfl rfl ?_ ?_ ?_ ?_ ?_
              · intro i hi
                have h5 := HB8.out.1.blk.lt
                omega
              · intro j u hj
                rw [Addr.add_lit, Nat.zero_add, HB8.out.2.2.cell]
                exact hj
              · intro u hu
                simp at hu
                subst hu
                rfl
              · unfold maxLen; omega
              · omega
              intro v8' w8d hrd hcd hnd hod
              rw [sv_snoc] at hrd
              have hnA : NewAt (w8d.setCell ⟨w.heap.size, 1, none⟩ v8') w.heap.size _ _ _ _ _ _ := HB8.out.1.app2 ⟨_, hrd⟩ hcd hnd hod
              have hgm : ¬ some w.heap.size = (Value.slice A8 k c8).ownBlock := fun e => by have := (hrx8.lt _ e).1; omega
              have hbd := HB8.out.1.blk.chg hcd hgm
              have p8 : w8d.cell? ⟨w.heap.size, 1, none⟩ = some (.slice A8 k c8) := hbd.cell 1
              have z8 : w8d.frozen? ⟨w.heap.size, 1, none⟩ = false := hbd.frozen 1
              have hBd : Below w.heap.size w w8d := HB8.out.2.1.trans (hcd.below (fun i hi => Nat.le_of_lt (hrx8.lt i hi).1) HB8.out.2.1.size)
              obtain ⟨A8', c8', hv', _, _⟩ := hrd.slice
              subst hv'
              have hBe : Below w.heap.size w (w8d.setCell ⟨w.heap.size, 1, none⟩ (.slice A8' (k + 1) c8')) := ((Chg.refl (fun k => k = w.heap.size) w8d).setCell (.inr rfl) 1 (.slice A8' (k + 1) c8')).below (B := w.heap.size) (fun i hi => by omega) hBd.size |> hBd.trans
              obtain ⟨w8e, hw8e⟩ : ∃ x, w8d.setCell ⟨w.heap.size, 1, none⟩ (.slice A8' (k + 1) c8') = x := ⟨_, rfl⟩
              rw [hw8e] at hnA hBe
              have HA8 := Lib.hid (And.intro hnA (And.intro hBe hw8e))
              clear hrd hcd hnd hod hnA hgm hbd hBd hBe hw8e hrx8 q8 q8c
              go_wp2_with fail
              refine ⟨rfl, ?_⟩
              refine any_only 8 (by kernel_rfl) rfl ?_
              go_wp2_with fail
              refine ⟨rfl, ?_⟩
              refine any_only 9 (by kernel_rfl) rfl ?_
              go_wp2_with fail
              refine ⟨rfl, ?_⟩
              refine any_only 10 (by kernel_rfl) rfl ?_
              go_wp2_with fail
              refine ⟨rfl, ?_⟩
              rw [HA8.out.2.2]
              refine wpAny_done (by kernel_rfl) ?_ _
              refine ⟨rfl, ?_⟩
              clear p8 z8
              have hnw := HA8.out.1
              have hb := HA8.out.2.1
              obtain ⟨l9, hro9⟩ := hnw.r3
              obtain ⟨A9, c9, hv9, _, _⟩ := hro9.slice
              subst hv9
              have q9 : w8e.cell? ⟨w.heap.size, 2, none⟩ = some (.slice A9 k c9) := hnw.blk.cell 2
              have hb9 : Below w8e.heap.size w8e (w8e.alloc (.cells #[.bool false] 4)) := (Below.refl _ _).alloc (Nat.le_refl _) _
              have hk9 := Blk.new w8e 4 [.bool false]
              have H9 := Lib.hid (And.intro (hnw.below hb9) (And.intro (hb.trans (hb9.mono hb.size)) hk9))
              obtain ⟨l9', hrx9⟩ := H9.out.1.r3
              clear hro9 hb9 hk9 hnw hb
              go_wp2_with (at_builtin; refine wpList_append_orow0 _ rfl (.tmp 43) (.tmp 44) _ rfl 4 j0 _ 1 1 Try.underlying33 hj0 hy0 hy1 hy2 rfl (by omega) (fun i => w.heap.size < i) _ k (tv l9') rfl hrx9 ?_ ⟨w8e.heap.size, 0, none⟩ 1 1 [.bool false] rfl rfl ?_ ?_ ?_ ?_ ?_)
              · intro i hi
                have h5 := H9.out.1.blk.lt
                omega
              · intro j u hj
                rw [Addr.add_lit, Nat.zero_add, H9.out.2.2.cell]
                exact hj
              · intro u hu
                simp at hu
                subst hu
                rfl
              · unfold maxLen; omega
              · omega
              intro v9' w9d hrd hcd hnd hod
              rw [tv_snoc] at hrd
              have hnA : NewAt (w9d.setCell ⟨w.heap.size, 2, none⟩ v9') w.heap.size _ _ _ _ _ _ := H9.out.1.app3 ⟨_, hrd⟩ hcd hod
              have hgm : ¬ some w.heap.size = (Value.slice A9 k c9).ownBlock := fun e => by have := (hrx9.lt _ e).1; omega
              have hbd := H9.out.1.blk.chg hcd hgm
              have p9 : w9d.cell? ⟨w.heap.size, 2, none⟩ = some (.slice A9 k c9) := hbd.cell 2
              have z9 : w9d.frozen? ⟨w.heap.size, 2, none⟩ = false := hbd.frozen 2
              have hBd : Below w.heap.size w w9d := H9.out.2.1.trans (hcd.below (fun i hi => Nat.le_of_lt (hrx9.lt i hi).1) H9.out.2.1.size)
              obtain ⟨A9', c9', hv', _, _⟩ := hrd.slice
              subst hv'
              have hBe : Below w.heap.size w (w9d.setCell ⟨w.heap.size, 2, none⟩ (.slice A9' (k + 1) c9')) := ((Chg.refl (fun k => k = w.heap.size) w9d).setCell (.inr rfl) 2 (.slice A9' (k + 1) c9')).below (B := w.heap.size) (fun i hi => by omega) hBd.size |> hBd.trans
              have HA9 := Lib.hid (And.intro hnA hBe)
              clear hrd hcd hnd hod hnA hgm hbd hBd hBe hrx9 q9
              go_wp2_with fail
              go_roundw
              case rel => exact ⟨k + 1, by omega, by go_num, _, _, _, HA9.out.1, HA9.out.2⟩
              case measure => simp [intOf]; omega
    · obtain rfl : k = n := by omega
      obtain ⟨an, af, ad, hm, ha1, ha2, ha3⟩ := hnw.mat h1 h2
      have HM := Lib.hid (And.intro hm (And.intro ha1 (And.intro ha2 (And.intro ha3 hb))))
      clear hm ha1 ha2 ha3 hb hnw
      go_wp2_with fail
      go_ret2
      refine ⟨w.heap.size, rfl, an, af, ad, HM.out.1, ?_, HM.out.2.2.2.2⟩
      rintro i (rfl | rfl | rfl | rfl)
      · omega
      · have := HM.out.2.1; omega
      · have := HM.out.2.2.1; omega
      · have := HM.out.2.2.2.1; omega
end Go.Proofs.Ytmddpjdgnamlnaa
