/- slices.Delete of one message. -/
import Derived.Test.YtbdbimnfknaakaaPutB
namespace Go.Proofs.Ytbdbimnfknaakaa
open Go.RowKit
attribute [-go_sem] loadCellsFrom storeCells
attribute [local go_sem] storeCells_one Mt.cells_len

theorem wpList_append_room_off {P : Program} (w : World) {ops : Array Oper} {rest : List Oper} {o : Oper} {a : Act} {Q : Exit → Act → World → Prop} (hgd : o.guard = none) (s x : Operand) (t : TypeId)
    (ho : o.op = .call { callee := .builtin .append, args := #[s, x], argTypes := #[t, t] })
    (e : TypeId) (i : TypeInfo) (size : Nat) (ht : P.underlying t = some (.slice e)) (hi : P.info? e = some i) (hsize : i.size = size)
    (g off sLen sCap : Nat) (cur : Array Value) (hg : w.heap[g]? = some (.cells cur e (0, 0))) (hs : a.eval s = .slice (some ⟨g, off, none⟩) sLen sCap)
    (ad : Addr) (m c : Nat) (news : List Value) (hx : a.eval x = .slice (some ad) m c) (hl : news.length = m * size) (hnews : ∀ j u, news[j]? = some u → w.cell? (ad.add j) = some u) (h1 : ∀ u ∈ news, u.oneCell' = true)
    (hroom : sLen + m ≤ sCap) (hfit : off + sLen * size + news.length ≤ cur.size)
    (h : wpList P ops Q rest (a.put o.dst (.slice (some ⟨g, off, none⟩) (sLen + m) sCap)) (w.setRow g (cur.toList.take (off + sLen * size) ++ news ++ cur.toList.drop (off + sLen * size + news.length)).toArray)) :
    wpList P ops Q (o :: rest) a w := by
  subst hsize
  refine wpList_plain hgd fun K hK => ?_
  have hr := run_append_room_off (P := P) w t o.type e i ht hi g off sLen sCap cur hg ad m c news hl hnews h1 hroom hfit
  unfold Oper.wp execOp
  simp only [ho, resolve, invoke, builtin, Sem.run_bind, Sem.run_pure, Result.andThen_ok, List.map_toArray, List.map_cons, List.map_nil, hs, hx, hr]
  exact hK _ _ h

theorem mtCells_take (l : List Mt) (j : Nat) : (mtCells l).take (j * 23) = mtCells (l.take j) := by
  induction l generalizing j with
  | nil => simp [mtCells]
  | cons a l ih =>
    cases j with
    | zero => simp [mtCells]
    | succ j =>
      have e : mtCells (a :: l) = a.cells ++ mtCells l := rfl
      rw [e, List.take_append, List.take_of_length_le (by rw [Mt.cells_len]; omega), Mt.cells_len, show (j + 1) * 23 - 23 = j * 23 by omega, ih]
      rfl
theorem mtCells_erase (l : List Mt) (i : Nat) : (mtCells l).take (i * 23) ++ (mtCells l).drop ((i + 1) * 23) = mtCells (l.eraseIdx i) := by
  rw [mtCells_take, mtCells_drop, ← mtCells_append, List.eraseIdx_eq_take_drop_succ]
theorem mtCells_one {w : World} {B : Nat} {l : List Mt} (h : EsAll w B l) : ∀ u ∈ mtCells l, u.oneCell' = true := by
  intro u hu
  simp only [mtCells, List.mem_flatten, List.mem_map] at hu
  obtain ⟨r, ⟨p, hp, rfl⟩, hu⟩ := hu
  exact Mt.one (h p hp).1 u hu

theorem clear_one (w : World) (g off c : Nat) (cur : Array Value) (ty : TypeId) (hg : w.heap[g]? = some (.cells cur 47 (0, 0))) (hfit : off + 23 ≤ cur.size) :
    Sem.run Try.prog (Builtin.clear_ #[29] ty #[.slice (some ⟨g, off, none⟩) 1 c]) w = .ok (.tuple #[]) (w.setRow g (cur.toList.take off ++ zero47 ++ cur.toList.drop (off + zero47.length)).toArray) := by
  have hu : (underlying 29).run Try.prog w = .ok (.slice 47) w := by simp [run_underlying Try.underlying29]
  have hz : (zeroValue 47).run Try.prog w = .ok (.agg zero47.toArray) w := by simp [zero47]
  have hs := run_storeCells_at Try.prog g off 47 zero47 0 cur w hg (by simpa [zero47] using hfit) (by simp [zero47, Value.oneCell'])
  simp only [Nat.add_zero] at hs
  have hc : (Builtin.zeroCells (Value.agg zero47.toArray).cells 1).toList = zero47 := by kernel_rfl
  unfold Builtin.clear_
  simp only [Sem.run_bind, hu, Result.andThen_ok, List.getElem?_toArray, List.getElem?_cons_zero, hz, hc, hs, Sem.run_pure]

set_option linter.unusedSimpArgs false in
set_option maxHeartbeats 6400000 in
theorem delete_any {S : Nat → Prop} {v : Value} {l : List Mt} {B : Nat} (i j : Nat) (w : World) (h : ORow w S 47 23 v l.length (mtCells l)) (hes : EsAll w B l) (hi : i < l.length) (hj : j = i + 1) :
    Calls Try.prog 33 #[v, .int .i64 i, .int .i64 j] w fun e w' => ∃ v', e = .returned v' ∧ ORow w' S 47 23 v' (l.eraseIdx i).length (mtCells (l.eraseIdx i)) ∧ Chg (fun k => some k = v.ownBlock) w w' ∧ v'.ownBlock = v.ownBlock := by
  obtain ⟨g, off, cap, cur, rfl, hs, hg, hn, hm, hsz, ht⟩ := h.form (by omega)
  obtain ⟨n, hnl⟩ : ∃ n, l.length = n := ⟨_, rfl⟩
  rw [hnl] at hi hn ht h ⊢
  have hoc := mtCells_one hes
  have H := Lib.hid (And.intro h (And.intro hs (And.intro hg (And.intro hsz (And.intro ht (And.intro hoc hnl))))))
  have HJ := Lib.hid hj
  have HL := Lib.hid (show (l.eraseIdx i).length = n - 1 by rw [List.length_eraseIdx, hnl, if_pos hi])
  clear h hs hg hsz ht hoc hnl hes
  have a1 : ((i : Int) == (j : Int)) = false := by simp; omega
  have a2 : (j : Int) ≤ (n : Int) := by omega
  have a3 : (n : Int) ≤ (cap : Int) := by omega
  have a4 : (i : Int) ≤ (cap : Int) := by omega
  have a5 : (i : Int) ≤ (j : Int) := by omega
  obtain ⟨i0, hi0, hz0, hz1, hz2⟩ := info_parts ms_info
  obtain ⟨w1, hw1⟩ : ∃ w1, w.drew = w1 := ⟨_, rfl⟩
  have hg1 : w1.heap[g]? = some (.cells cur 47 (0, 0)) := by rw [← hw1]; exact H.out.2.2.1
  have hc1 : Chg (fun k => some k = (Value.slice (some ⟨g, off, none⟩) n cap).ownBlock) w w1 := by rw [← hw1]; exact (Chg.refl _ _).drew
  have hr1 : Rd w1 w1.heap.size (some ⟨g, off, none⟩) (mtCells l) := by rw [← hw1]; exact H.out.1.rd
  have HG1 := Lib.hid (And.intro hg1 (And.intro hc1 hr1)); clear hg1 hc1 hr1
  have HW1 := Lib.hid hw1; clear hw1
  -- what the row is behind the append, and behind the clearing
  have hend : ∀ (news zs : List Value) (W2 : World) (cur2 : Array Value), (mtCells l).drop (j * 23) = news → cur2 = (cur.toList.take (off + i * 23) ++ news ++ cur.toList.drop (off + i * 23 + news.length)).toArray → zs.length = 23 → W2 = (w1.setRow g cur2) →
      off + (n - 1) * 23 + zs.length ≤ cur2.size ∧ ORow (W2.setRow g (cur2.toList.take (off + (n - 1) * 23) ++ zs ++ cur2.toList.drop (off + (n - 1) * 23 + zs.length)).toArray) S 47 23 (.slice (some ⟨g, off, none⟩) (n - 1) cap) (n - 1) (mtCells (l.eraseIdx i)) ∧
        Chg (fun k => some k = (Value.slice (some ⟨g, off, none⟩) n cap).ownBlock) w (W2.setRow g (cur2.toList.take (off + (n - 1) * 23) ++ zs ++ cur2.toList.drop (off + (n - 1) * 23 + zs.length)).toArray) := by
    intro news zs W2 cur2 hnews hcur2 hzs hW2
    subst hW2
    have hnl : news.length = (n - j) * 23 := by rw [← hnews, List.length_drop, mtCells_len, H.out.2.2.2.2.2.2, Nat.sub_mul]
    have hcl : cap * 23 ≤ cur.size - off := by have := H.out.2.2.2.1; omega
    have hnc : n * 23 ≤ cap * 23 := Nat.mul_le_mul_right _ hn
    have hin : i * 23 + 23 ≤ n * 23 := by have := Nat.mul_le_mul_right 23 hi; omega
    have hji : j * 23 = i * 23 + 23 := by rw [hj]; omega
    have hnj : (n - j) * 23 = n * 23 - j * 23 := Nat.sub_mul ..
    have hn1 : (n - 1) * 23 = n * 23 - 23 := by rw [Nat.sub_mul]
    have hsz2 : cur2.size = cur.size := by
      rw [hcur2]
      simp only [List.size_toArray, List.length_append, List.length_take, List.length_drop, Array.length_toList]
      omega
    have hg2 := setRow_heap w1 g cur cur2 47 (0, 0) HG1.out.1
    refine ⟨by omega, ⟨?_, .inr ⟨g, off, cap, _, rfl, H.out.2.1, setRow_heap _ g cur2 _ _ (0, 0) hg2, by omega, hm, ?_, ?_⟩⟩, ?_⟩
    · rw [mtCells_len, HL.out]
    · simp only [List.size_toArray, List.length_append, List.length_take, List.length_drop, Array.length_toList]
      omega
    · rw [← mtCells_erase]
      simp only [List.append_assoc]
      rw [List.drop_append_of_le_length (by simp; omega), List.take_append_of_le_length (by simp; omega), List.drop_take, show off + (n - 1) * 23 - off = (n - 1) * 23 by omega, List.take_take, Nat.min_self]
      rw [hcur2]
      simp only [List.append_assoc]
      rw [List.drop_append_of_le_length (by simp; omega), List.take_append, List.drop_take, show off + i * 23 - off = i * 23 by omega, List.length_take, List.length_drop, Array.length_toList,
        show min (i * 23) (cur.size - off) = i * 23 by omega, List.take_take, show min ((n - 1) * 23) (i * 23) = i * 23 by omega]
      rw [List.take_append, show (n - 1) * 23 - i * 23 = news.length by omega, List.take_length, Nat.sub_self, List.take_zero, List.append_nil, ← hnews, hj]
      congr 1
      have ht := H.out.2.2.2.2.1
      rw [← ht, List.take_take]
      congr 1
      omega
    · exact (HG1.out.2.1.setRow (.inr (by simp [Value.ownBlock])) _).setRow (.inr (by simp [Value.ownBlock])) _
  have HEnd := Lib.hid hend; clear hend
  have hcell : ∀ t u, (mtCells l)[t]? = some u → w1.cell? ⟨g, off + t, none⟩ = some u := by
    intro t u hu
    rcases HG1.out.2.2 with h | ⟨b', off', e, _, hc⟩
    · rw [h] at hu; cases hu
    · cases e
      exact hc t u hu
  have HCell := Lib.hid hcell; clear hcell
  obtain ⟨n1, hn1⟩ : ∃ n1, n - 1 = n1 := ⟨_, rfl⟩
  rw [hn1] at HEnd HL
  have b1 : (n1 : Int) ≤ (n : Int) := by omega
  have b2 : n - n1 = 1 := by omega
  have b3 : ¬ cap = n1 := by omega
  have HB2 := Lib.hid b2
  have HLen := Lib.hid (show (mtCells l).length = n * 23 by rw [mtCells_len, H.out.2.2.2.2.2.2])
  have HN1 := Lib.hid (And.intro hn1 b3)
  by_cases hcap : cap = j
  · subst hcap
    obtain rfl : n = cap := by omega
    have e0 : i = n1 := by omega
    have E0 := Lib.hid e0
    have HD := Lib.hid (show (mtCells l).drop (n * 23) = [] from List.drop_eq_nil_of_le (by rw [HLen.out]; exact Nat.le_refl _))
    have hfit : off + i * 23 + 0 ≤ cur.size := by have := H.out.2.2.2.1; omega
    clear hj hn1 e0
    go_enter Try.func33, Try.ntmps33
    go_wp2_with fail
    go_still_tail 6, (by kernel_rfl)
    change wpList _ _ _ _ _ w.drew
    rw [HW1.out]
    refine wpList_append_room_off w1 rfl (.tmp 22) (.tmp 25) _ rfl 47 i0 23 Try.underlying29 hi0 hz1 g off i n cur HG1.out.1 rfl ⟨g, off, none⟩ 0 0 [] rfl rfl (by intro j u h; cases h) (by intro u h; cases h) (by omega) hfit ?_
    obtain ⟨W2, hW2⟩ : ∃ W2, (w1.setRow g (cur.toList.take (off + i * 23) ++ [] ++ cur.toList.drop (off + i * 23 + ([] : List Value).length)).toArray) = W2 := ⟨_, rfl⟩
    rw [hW2, Nat.add_zero, E0.out]
    have HW2 := Lib.hid hW2; clear hW2
    obtain ⟨cur2, hcur2⟩ : ∃ cur2, (cur.toList.take (off + i * 23) ++ [] ++ cur.toList.drop (off + i * 23 + ([] : List Value).length)).toArray = cur2 := ⟨_, rfl⟩
    have hh := HEnd.out [] zero47 W2 cur2 HD.out hcur2.symm rfl (by rw [← HW2.out, hcur2])
    have hg2 : W2.heap[g]? = some (.cells cur2 47 (0, 0)) := by rw [← HW2.out, hcur2]; exact setRow_heap w1 g cur _ _ _ HG1.out.1
    have hcl := fun c => clear_one W2 g (off + n1 * 23) c cur2 0 hg2 hh.1
    simp only [List.append_assoc] at hh
    have HH := Lib.hid hh
    clear hh hg2 hcur2
    go_wp2_with fail
    go_ret
    refine ⟨_, rfl, ?_, HH.out.2.2, rfl⟩
    rw [HL.out]
    exact HH.out.2.1
  · have HSum := Lib.hid (show i + (n - j) = n1 by omega)
    have hfit : off + i * 23 + ((mtCells l).drop (j * 23)).length ≤ cur.size := by
      rw [List.length_drop, HLen.out]
      have := H.out.2.2.2.1
      have h1 : n * 23 ≤ cap * 23 := Nat.mul_le_mul_right _ hn
      have h2 : i * 23 ≤ j * 23 := Nat.mul_le_mul_right _ (by omega)
      have h3 : j * 23 ≤ n * 23 := Nat.mul_le_mul_right _ (by omega)
      omega
    have hroom : i + (n - j) ≤ cap := by omega
    have HD := Lib.hid (show ((mtCells l).drop (j * 23)).length = (n - j) * 23 by rw [List.length_drop, HLen.out, Nat.sub_mul])
    have HO1 := Lib.hid (show ∀ u ∈ (mtCells l).drop (j * 23), u.oneCell' = true from fun u hu => H.out.2.2.2.2.2.1 u (List.mem_of_mem_drop hu))
    clear hj hn1
    go_enter Try.func33, Try.ntmps33
    go_wp2_with fail
    go_still_tail 6, (by kernel_rfl)
    change wpList _ _ _ _ _ w.drew
    rw [HW1.out]
    refine wpList_append_room_off w1 rfl (.tmp 22) (.tmp 25) _ rfl 47 i0 23 Try.underlying29 hi0 hz1 g off i cap cur HG1.out.1 rfl ⟨g, off + j * 23, none⟩ (n - j) (cap - j) ((mtCells l).drop (j * 23)) rfl HD.out ?_ HO1.out hroom hfit ?_
    · intro t u hu
      rw [Addr.add_lit, Nat.add_assoc]
      exact HCell.out _ u (by rw [List.getElem?_drop] at hu; exact hu)
    obtain ⟨W2, hW2⟩ : ∃ W2, (w1.setRow g (cur.toList.take (off + i * 23) ++ (mtCells l).drop (j * 23) ++ cur.toList.drop (off + i * 23 + ((mtCells l).drop (j * 23)).length)).toArray) = W2 := ⟨_, rfl⟩
    rw [hW2, HSum.out]
    have HW2 := Lib.hid hW2; clear hW2
    obtain ⟨cur2, hcur2⟩ : ∃ cur2, (cur.toList.take (off + i * 23) ++ (mtCells l).drop (j * 23) ++ cur.toList.drop (off + i * 23 + ((mtCells l).drop (j * 23)).length)).toArray = cur2 := ⟨_, rfl⟩
    have hh := HEnd.out _ zero47 W2 cur2 rfl hcur2.symm rfl (by rw [← HW2.out, hcur2])
    have hg2 : W2.heap[g]? = some (.cells cur2 47 (0, 0)) := by rw [← HW2.out, hcur2]; exact setRow_heap w1 g cur _ _ _ HG1.out.1
    have hcl := fun c => clear_one W2 g (off + n1 * 23) c cur2 0 hg2 hh.1
    simp only [List.append_assoc] at hh
    have HH := Lib.hid hh
    clear hh hg2 hcur2 hfit hroom
    go_wp2_with fail
    go_ret
    refine ⟨_, rfl, ?_, HH.out.2.2, rfl⟩
    rw [HL.out]
    exact HH.out.2.1
end Go.Proofs.Ytbdbimnfknaakaa
