/- The law's own row: awake. -/
import Derived.Test.YtbdbimnfknaakaaAllB
namespace Go.Proofs.Ytbdbimnfknaakaa
open Go.RowKit
attribute [-go_sem] loadCellsFrom storeCells
attribute [local go_sem] storeCells_one Mt.cells_len Mt.fold

theorem zero47_len : zero47.length = 23 := rfl
set_option maxRecDepth 100000 in
theorem Mt.fold46 (p : Mt) : List.foldl (fun (cs : Array Value) (x : Value × Nat) => cs.setIfInBounds x.snd x.fst) #[.int .i64 0, .int .i64 0, .int .i64 0, .int .i64 0, .int .i64 0, .int .i64 0, .int .i64 0, .int .i64 0, .slice none 0 0, .int .i64 0, .int .i64 0, .string { data := #[] }, .int .i64 0, .int .i64 0, .int .i64 0, .int .i64 0, .int .i64 0, .int .i64 0, .int .i64 0, .int .i64 0, .int .i64 0, .int .i64 0, .bool false, .int .i64 0, .int .i64 0, .int .i64 0, .int .i64 0, .int .i64 0, .int .i64 0, .int .i64 0, .int .i64 0, .slice none 0 0, .int .i64 0, .int .i64 0, .string { data := #[] }, .int .i64 0, .int .i64 0, .int .i64 0, .int .i64 0, .int .i64 0, .int .i64 0, .int .i64 0, .int .i64 0, .int .i64 0, .int .i64 0, .bool false] p.cells.zipIdx = (p.cells ++ zero47).toArray := by
  obtain ⟨h, v, es⟩ := p
  simp [Mt.cells, zero47]
set_option maxRecDepth 100000 in
theorem Mt.fold23 (p q : Mt) : List.foldl (fun (cs : Array Value) (x : Value × Nat) => cs.setIfInBounds (23 + x.snd) x.fst) (p.cells ++ zero47).toArray q.cells.zipIdx = (p.cells ++ q.cells).toArray := by
  obtain ⟨h, v, es⟩ := p
  obtain ⟨h', v', es'⟩ := q
  simp [Mt.cells, zero47]
attribute [local go_sem] zero47_len Mt.fold46 Mt.fold23
/-- A request of a number. -/
def mt1 (n : Int) : Mt := ⟨⟨1, 0, 0, 0, 0, n, 0, 0, 0, 0, { data := #[] }, 0, 0, 0, 0, 0, 0, 0, 0, 0, 0, false⟩, .slice none 0 0, []⟩
theorem mt1_at (n : Int) (w : World) (B : Nat) : EsAt w B (mt1 n).v (mt1 n).es := ⟨none, 0, 0, rfl, .inl rfl, rfl, Nat.le_refl _⟩
theorem one_any (n : Int) (w : World) : Calls Try.prog 23 #[.int .i64 n] w fun e w' => e = .returned (.agg (mt1 n).cells.toArray) ∧ Below w.heap.size w w' := by
  have hk := Blk.new w 47 zero47
  have hst := hk.store (P := Try.prog) (cs' := (mt1 n).cells) rfl (Mt.one (mt1_at n w 0))
  have HK := Lib.hid (hk.set (mt1 n).cells)
  simp only [zero47, mt1, Mt.cells] at hst
  clear hk
  go_enter Try.func23, Try.ntmps23
  go_wp2_with fail
  refine bodyPost_ret (results_cell_row rfl _ _ w.heap.size 47 _ (0, 0) _ rfl HK.out Try.underlying47 rfl (Mt.size _)) rfl ⟨rfl, ?_⟩
  exact below_setRow ((Below.refl _ _).alloc (Nat.le_refl _) _) (Nat.le_refl _) _

theorem double_at {S : Nat → Prop} {g most : Nat} {v : Value} {l : List Mt} (i : Nat) (x : Mt) (w : World) (h : BagAt w S g most v l) (hS : ∀ i, w.heap.size ≤ i → S i) (h1 : 1 ≤ most) (h2 : most ≤ 200) (hx : l[i]? = some x) :
    Calls Try.prog 22 #[.pointer (some ⟨g, 0, none⟩), .int .i64 i] w fun e w' => e = .returned (.int .i64 0) ∧
      ∃ v' l', BagAt w' S g most v' l' ∧ l'.map Mt.m = lastN most (l.map Mt.m ++ [x.m]) ∧ Chg (bagS g v) w w' ∧ ∀ k, some k = v'.ownBlock → some k = v.ownBlock ∨ w.heap.size ≤ k := by
  obtain ⟨hi, rfl⟩ := List.getElem?_eq_some_iff.1 hx
  exact double_any i w h hS h1 h2 hi
theorem take_at {S : Nat → Prop} {g most : Nat} {v : Value} {l : List Mt} (i : Nat) (x : Mt) (w : World) (h : BagAt w S g most v l) (hx : l[i]? = some x) (hlm : l.length ≤ 1000) :
    Calls Try.prog 21 #[.pointer (some ⟨g, 0, none⟩), .int .i64 i] w fun e w' => e = .returned (.tuple #[.agg x.cells.toArray, .int .i64 0]) ∧ EsMy w' S x ∧
      ∃ v', BagAt w' S g most v' (l.eraseIdx i) ∧ Chg (bagS g v) w w' ∧ v'.ownBlock = v.ownBlock := by
  obtain ⟨hi, rfl⟩ := List.getElem?_eq_some_iff.1 hx
  exact take_any i w h hi hlm
theorem two_of {l : List Mt} {x y : Ms} (h : l.map Mt.m = [x, y]) : ∃ a b, l = [a, b] ∧ a.m = x ∧ b.m = y := by
  have hl := congrArg List.length h
  rw [List.length_map] at hl
  rcases l with _ | ⟨a, _ | ⟨b, _ | ⟨c, t⟩⟩⟩
  · cases hl
  · cases hl
  · simp only [List.map_cons, List.map_nil, List.cons.injEq, and_true] at h
    exact ⟨a, b, rfl, h.1, h.2⟩
  · simp at hl
/-- A row that lies in a block, its messages without lists: what does not turn the block leaves it. -/
theorem laid_away {W : World} {nb : Nat} {l : List Mt} {T : Nat → Prop} (hb : Blk W nb 47 (mtCells l)) (hT : ¬ T nb) (hes : ∀ p ∈ l, p.v = .slice none 0 0 ∧ p.es = []) : Away W T (nb + 1) (.slice (some ⟨nb, 0, none⟩) l.length l.length) l := by
  intro w' hc
  have hb' := hb.chg hc hT
  refine ⟨_, _, _, rfl, .inr ⟨nb, 0, rfl, by omega, fun j u hu => ?_⟩, rfl, Nat.le_refl _, fun p hp => ?_⟩
  · rw [Nat.zero_add, hb'.cell]
    exact hu
  · obtain ⟨h1, h2⟩ := hes p hp
    refine ⟨⟨none, 0, 0, h1, .inl ?_, ?_, Nat.le_refl _⟩, ?_⟩
    · rw [h2]; rfl
    · rw [h2]; rfl
    · rw [h2]; exact Nat.zero_le _
theorem BagAt.chg_below {base : Nat} {g most : Nat} {v : Value} {l : List Mt} {w w' : World} (h : BagAt w (fun i => base ≤ i) g most v l) (hc : Chg (bagS g v) w w') (hb : base ≤ w.heap.size) : Below base w w' :=
  hc.below (fun i hi => by
    rcases hi with rfl | hi
    · exact h.inS
    · exact (h.row.lt i hi).1) hb
theorem MyRow.chg {w w' : World} {S T : Nat → Prop} {v : Value} {l : List Mt} (h : MyRow w S v l) (hc : Chg T w w') (hn : ∀ i, S i → i < w.heap.size → ¬ T i) : MyRow w' S v l :=
  ⟨h.1.chg hc (fun i hi => hn i (h.1.lt i hi).1 (h.1.lt i hi).2), fun p hp => ⟨(h.2 p hp).1.chg hc (fun i hi => hn i ((h.2 p hp).1.lt i hi).1 ((h.2 p hp).1.lt i hi).2), (h.2 p hp).2⟩⟩
/-- A number of a row's message. -/
theorem MyRow.num {w : World} {S : Nat → Prop} {v : Value} {l : List Mt} (h : MyRow w S v l) : ∃ A n c, v = .slice A n c ∧ l.length = n ∧ ∀ i (hi : i < l.length), ∃ b off, A = some ⟨b, off, none⟩ ∧ w.cell? ⟨b, off + i * 23 + 5, none⟩ = some (.int .i64 (l[i]).h.u) := by
  obtain ⟨A, n, c, hv, hr, hl, _, _⟩ := h.at
  refine ⟨A, n, c, hv, hl, fun i hi => ?_⟩
  obtain ⟨b, off, hA, _, hc, _⟩ := rows_load (P := Try.prog) 23 Mt.cells (fun _ => rfl) (by omega) l hr i hi
  exact ⟨b, off, hA, hc 5 _ rfl⟩

set_option linter.unusedSimpArgs false in
set_option maxRecDepth 100000 in
set_option maxHeartbeats 6400000 in
theorem awake_any (w : World) : Calls Try.prog 10 #[] w fun e w' => e = .returned (.bool true) ∧ Below w.heap.size w w' := by
  go_enter Try.func10, Try.ntmps10
  go_wp2_with fail
  refine (new_any 2 w (by omega) (by omega)).mono ?_
  rintro e w1 ⟨rfl, hbag1, hb1⟩
  have H1 := Lib.hid (And.intro hbag1 hb1); clear hbag1 hb1
  go_wp2_with fail
  refine (new_no 0 w1 (.inl (by omega))).mono ?_
  rintro e w' ⟨rfl, rfl⟩
  go_wp2_with fail
  refine (one_any 1 w1).mono ?_
  rintro e w2 ⟨rfl, hb2⟩
  have H2 := Lib.hid (And.intro (H1.out.1.below hb2) (H1.out.2.trans (hb2.mono H1.out.2.size))); clear hb2
  go_wp2_with fail
  refine (one_any 2 w2).mono ?_
  rintro e w3 ⟨rfl, hb3⟩
  have H3 := Lib.hid (And.intro (H2.out.1.below hb3) (H2.out.2.trans (hb3.mono H2.out.2.size))); clear hb3
  go_wp2_with fail
  have hb4 : Below w3.heap.size w3 (w3.alloc (.cells ((mt1 1).cells ++ (mt1 2).cells).toArray 47)) := (Below.refl _ _).alloc (Nat.le_refl _) _
  have hk4 := Blk.new w3 47 ((mt1 1).cells ++ (mt1 2).cells)
  have hml : (mt1 1).cells ++ (mt1 2).cells = mtCells [mt1 1, mt1 2] := by simp [mtCells]
  rw [hml] at hb4 hk4 ⊢
  obtain ⟨W4, hW4⟩ : ∃ W4, w3.alloc (.cells (mtCells [mt1 1, mt1 2]).toArray 47) = W4 := ⟨_, rfl⟩
  rw [hW4] at hb4 hk4 ⊢
  have hsz : W4.heap.size = w3.heap.size + 1 := by rw [← hW4]; simp
  have haw := laid_away (T := bagS w.heap.size (.slice none 0 0)) hk4 (by
    rintro (h | h)
    · have := H3.out.1.blk.lt; omega
    · cases h) (by
    intro p hp
    simp only [List.mem_cons, List.not_mem_nil, or_false] at hp
    rcases hp with rfl | rfl <;> exact ⟨rfl, rfl⟩)
  have HP := Lib.hid (put_any (S := fun i => w.heap.size ≤ i) (.slice (some ⟨w3.heap.size, 0, none⟩) 2 2) [mt1 1, mt1 2] (w3.heap.size + 1) W4 (H3.out.1.below hb4) (fun i hi => Nat.le_trans H3.out.2.size (Nat.le_trans hb4.size hi)) (by omega) (by omega) haw (by omega) (by simp))
  have H4 := Lib.hid (And.intro (H3.out.1.below hb4) (H3.out.2.trans (hb4.mono H3.out.2.size)))
  clear haw hb4 hk4 hml hsz hW4
  refine HP.out.mono ?_
  rintro e w5 ⟨rfl, v5, l5, hbag5, hl5, hch5, _⟩
  obtain ⟨a5, b5, rfl, ha5, hb5m⟩ := two_of (hl5 : l5.map Mt.m = [(mt1 1).m, (mt1 2).m])
  have hb5 := H4.out.2.trans (H4.out.1.chg_below hch5 H4.out.2.size)
  have H5 := Lib.hid (And.intro hbag5 (And.intro hb5 (And.intro ha5 hb5m)))
  have HD := Lib.hid (double_at 0 a5 w5 hbag5 (fun i hi => Nat.le_trans hb5.size hi) (by omega) (by omega) rfl)
  clear hbag5 hb5 hl5 ha5 hb5m hch5
  go_wp2_with fail
  refine HD.out.mono ?_
  rintro e w6 ⟨rfl, v6, l6, hbag6, hl6, hch6, _⟩
  have hl6' : l6.map Mt.m = [(mt1 2).m, (mt1 1).m] := by
    rw [hl6, H5.out.2.2.1]
    simp only [List.map_cons, List.map_nil, H5.out.2.2.1, H5.out.2.2.2]
    rfl
  obtain ⟨a6, b6, rfl, ha6, hb6m⟩ := two_of hl6'
  have hb6 := H5.out.2.1.trans (H5.out.1.chg_below hch6 H5.out.2.1.size)
  have H6 := Lib.hid (And.intro hbag6 (And.intro hb6 (And.intro ha6 hb6m)))
  have HA := Lib.hid (all_any w6 hbag6 (by simp))
  clear hbag6 hb6 hl6 hl6' hch6 ha6 hb6m
  go_wp2_with fail
  refine HA.out.mono ?_
  rintro e w7 ⟨v7, l7, rfl, hmy7, hl7, hb7⟩
  simp only [List.map_cons, List.map_nil, H6.out.2.2.1, H6.out.2.2.2] at hl7
  obtain ⟨a7, b7, rfl, ha7, hb7m⟩ := two_of hl7
  have hbag7 := H6.out.1.below hb7
  have H7 := Lib.hid (And.intro hbag7 (And.intro (H6.out.2.1.trans (hb7.mono H6.out.2.1.size)) (And.intro hmy7 (And.intro ha7 (And.intro hb7m hb7)))))
  have HT := Lib.hid (take_at 1 b6 w7 hbag7 rfl (by simp))
  obtain ⟨A7, n7, c7, rfl, hn7, _⟩ := hmy7.num
  clear hbag7 hmy7 hl7 hb7 ha7 hb7m
  go_wp2_with fail
  refine HT.out.mono ?_
  rintro e w8 ⟨rfl, hes8, v8, hbag8, hch8, hv8⟩
  have hb8 := H7.out.2.1.trans (H7.out.1.chg_below hch8 H7.out.2.1.size)
  have hmy8 := H7.out.2.2.1.chg hch8 (fun i hi _ => by
    rintro (h | h)
    · have := H6.out.1.blk.lt; omega
    · have := (H6.out.1.row.lt i h).2; omega)
  -- the message taken, in a block of its own
  have hz := Blk.new w8 47 zero47
  have hst := hz.store (P := Try.prog) (cs' := b6.cells) rfl (Mt.one hes8.at)
  have hz2 := hz.set b6.cells
  have hb9 : Below w8.heap.size w8 ((w8.alloc (.cells zero47.toArray 47)).setRow w8.heap.size b6.cells.toArray) := below_setRow ((Below.refl _ _).alloc (Nat.le_refl _) _) (Nat.le_refl _) _
  obtain ⟨W9, hW9⟩ : ∃ W9, (w8.alloc (.cells zero47.toArray 47)).setRow w8.heap.size b6.cells.toArray = W9 := ⟨_, rfl⟩
  rw [hW9] at hst hz2 hb9
  have hbag9 : BagAt W9 (fun i => w.heap.size ≤ i) w.heap.size 2 v8 [a6] := hbag8.below hb9
  have H9 := Lib.hid (And.intro hbag9 (And.intro (hb8.trans (hb9.mono hb8.size)) (And.intro hz2 (hmy8.below hb9))))
  have HT2 := Lib.hid (take_bad 1 W9 hbag9 (by simp [inL]))
  clear hbag9 hb9 hz2 hz hW9 hmy8 hb8 hbag8 hch8 hes8 hv8
  simp only [zero47] at hst
  go_wp2_with fail
  refine HT2.out.mono ?_
  rintro e w10 ⟨rfl, hb10⟩
  have hz := Blk.new w10 47 zero47
  have hst2 := hz.store (P := Try.prog) (cs' := mt0.cells) rfl (Mt.one (mt0_at w10 0))
  have hb11 : Below w10.heap.size w10 ((w10.alloc (.cells zero47.toArray 47)).setRow w10.heap.size mt0.cells.toArray) := below_setRow ((Below.refl _ _).alloc (Nat.le_refl _) _) (Nat.le_refl _) _
  obtain ⟨W11, hW11⟩ : ∃ W11, (w10.alloc (.cells zero47.toArray 47)).setRow w10.heap.size mt0.cells.toArray = W11 := ⟨_, rfl⟩
  rw [hW11] at hst2 hb11
  have hb911 := hb10.trans (hb11.mono hb10.size)
  have hbagF := H9.out.1.below hb911
  have hzF := H9.out.2.2.1.below hb911 H9.out.2.2.1.lt
  have hmyF := H9.out.2.2.2.below hb911
  obtain ⟨A8, n8, c8, e8, hn8, hc8⟩ := hmyF.num
  cases e8
  obtain ⟨bb, off, hA, hq0⟩ := hc8 0 (by simp)
  obtain ⟨bb', off', hA', hq1⟩ := hc8 1 (by simp)
  subst hA
  cases hA'
  have ha7u : a7.h.u = 2 := by have := H7.out.2.2.2.1; exact congrArg (fun m => m.h.u) this
  have hb7u : b7.h.u = 1 := by have := H7.out.2.2.2.2.1; exact congrArg (fun m => m.h.u) this
  have hb6u : b6.h.u = 1 := by have := H6.out.2.2.2; exact congrArg (fun m => m.h.u) this
  have q0 : W11.cell? ⟨bb, off + 5, none⟩ = some (.int .i64 2) := by rw [← ha7u]; simpa using hq0
  have q1 : W11.cell? ⟨bb, off + 23 + 5, none⟩ = some (.int .i64 1) := by rw [← hb7u]; simpa using hq1
  have q1b : W11.cell? ⟨bb, off + 28, none⟩ = some (.int .i64 1) := q1
  have q2 : W11.cell? ⟨w8.heap.size, 5, none⟩ = some (.int .i64 1) := by rw [← hb6u]; exact hzF.cell 5
  have HF := Lib.hid (And.intro (H9.out.2.1.trans (hb911.mono H9.out.2.1.size)) (len_any W11 hbagF))
  have hn72 : n7 = 2 := hn7.symm
  subst hn72
  clear hz hb11 hb10 hb911 hbagF hzF hmyF hc8 hq0 hq1 ha7u hb7u hb6u hst hW11
  rw [mt0_cells] at hst2
  simp only [zero47] at hst2
  rw [mt0_cells]
  simp only [zero47]
  go_wp2_with fail
  refine HF.out.2.mono ?_
  rintro e w' ⟨rfl, rfl⟩
  go_wp2_with fail
  go_ret
  exact ⟨rfl, HF.out.1⟩
end Go.Proofs.Ytbdbimnfknaakaa
