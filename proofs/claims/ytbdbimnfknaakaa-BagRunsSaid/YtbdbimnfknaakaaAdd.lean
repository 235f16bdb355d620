/- A message more: add. -/
import Derived.Test.YtbdbimnfknaakaaBag
import Derived.Deep.QuietTactic
import Derived.BigQuiet
import Derived.StillTailTactics
import Derived.IntWalk
namespace Go.Proofs.Ytbdbimnfknaakaa
open Go.RowKit
attribute [-go_sem] loadCellsFrom storeCells
attribute [local go_sem] storeCells_one Mt.cells_len

/-- So many are left, the last ones. -/
def lastN {α : Type} (most : Nat) (l : List α) : List α := l.drop (l.length - most)
theorem lastN_len {α : Type} (most : Nat) (l : List α) : (lastN most l).length ≤ most := by unfold lastN; rw [List.length_drop]; omega
theorem lastN_all {α : Type} {most : Nat} {l : List α} (h : l.length ≤ most) : lastN most l = l := by unfold lastN; rw [show l.length - most = 0 by omega]; rfl
theorem lastN_snoc {α : Type} (most : Nat) (l : List α) (a : α) (h : 1 ≤ most) : lastN most (lastN most l ++ [a]) = lastN most (l ++ [a]) := by
  unfold lastN
  simp only [List.length_append, List.length_drop, List.length_singleton]
  rw [List.drop_append_of_le_length (by simp; omega), List.drop_append_of_le_length (by omega), List.drop_drop]
  congr 2
  omega
theorem lastN_mem {α : Type} {most : Nat} {l : List α} {a : α} (h : a ∈ lastN most l) : a ∈ l := List.mem_of_mem_drop h
theorem lastN_map {α β : Type} (f : α → β) (most : Nat) (l : List α) : (lastN most l).map f = lastN most (l.map f) := by unfold lastN; rw [List.map_drop, List.length_map]

theorem ms_info : (Try.prog.info? 47).map (fun i => (i.zero, i.size, i.bytes)) = some (some (.agg zero47.toArray), 23, 208) := by kernel_rfl
theorem mtCells_append (a b : List Mt) : mtCells (a ++ b) = mtCells a ++ mtCells b := by simp [mtCells]
theorem mtCells_drop (l : List Mt) (j : Nat) : (mtCells l).drop (j * 23) = mtCells (l.drop j) := by
  induction l generalizing j with
  | nil => simp [mtCells]
  | cons a l ih =>
    cases j with
    | zero => simp
    | succ j =>
      have e : mtCells (a :: l) = a.cells ++ mtCells l := rfl
      rw [e, List.drop_append, List.drop_eq_nil_of_le (by rw [Mt.cells_len]; omega), List.nil_append, List.drop_succ_cons, ← ih, Mt.cells_len]
      congr 1
      omega

/-- How a bag's own deed ends: a new row, and the bag's block written. -/
theorem bag_end {S : Nat → Prop} {g most : Nat} {v v2 : Value} {l l2 : List Mt} {w w1 w4 : World} (h : BagAt w S g most v l) (hc1 : Chg (fun k => some k = v.ownBlock) w w1) (hr : ORow w1 S 47 23 v2 l2.length (mtCells l2))
    (hm : ∀ q ∈ l2, EsMy w S q) (hsh : l2.length ≤ most) (hb1 : ∃ cs, Blk w1 g 61 cs) (hc4 : Chg (fun k => k = g) w1 w4) (hb4 : Blk w4 g 61 [v2, .int .i64 most]) : BagAt w4 S g most v2 l2 ∧ Chg (bagS g v) w w4 := by
  obtain ⟨cs, hb1⟩ := hb1
  refine ⟨⟨h.inS, hb4, hr.chg hc4 (fun i hi e => ?_), fun q hq => ?_, hsh⟩, ?_⟩
  · subst e
    exact hr.not_blk hb1 (by decide) hi
  · have e1 := (hm q hq).chg hc1 (fun i c hi hg => by
      obtain ⟨c', hc'⟩ := h.row.tag hi
      rw [hc'] at hg
      simp at hg)
    refine e1.chg hc4 (fun i c hi hg => ?_)
    subst hi
    rw [show w1.heap[i]? = _ from hb1] at hg
    simp at hg
  · exact (hc1.mono (T := bagS g v) fun i _ hi => .inr hi).trans hc4 fun i _ hi => .inl hi
theorem bagS_trans {g : Nat} {v v' : Value} {w w' w'' : World} (h : Chg (bagS g v) w w') (hv : ∀ k, some k = v'.ownBlock → some k = v.ownBlock ∨ w.heap.size ≤ k) (h' : Chg (bagS g v') w' w'') : Chg (bagS g v) w w'' :=
  h.trans h' fun i hi ht => by
    rcases ht with rfl | ht
    · exact .inl rfl
    · rcases hv i ht with h | h
      · exact .inr h
      · omega

set_option maxHeartbeats 6400000 in
theorem add_any {S : Nat → Prop} {g most : Nat} {v : Value} {l : List Mt} (p : Mt) (nb : Nat) (w : World) (h : BagAt w S g most v l) (hS : ∀ i, w.heap.size ≤ i → S i) (h1 : 1 ≤ most) (h2 : most ≤ 200)
    (hnb : Blk w nb 47 p.cells) (hp : EsMy w S p) :
    Calls Try.prog 31 #[.pointer (some ⟨g, 0, none⟩), .slice (some ⟨nb, 0, none⟩) 1 1] w fun e w' => e = .returned (.tuple #[]) ∧
      ∃ v', BagAt w' S g most v' (lastN most (l ++ [p])) ∧ Chg (bagS g v) w w' ∧ ∀ k, some k = v'.ownBlock → some k = v.ownBlock ∨ w.heap.size ≤ k := by
  obtain ⟨A, c, rfl, hnc, hcm⟩ := h.row.slice
  have q0 : w.cell? ⟨g, 0, none⟩ = some (.slice A l.length c) := h.blk.cell 0
  have hsh := h.short
  have hgr := h.row.not_blk h.blk (by decide)
  have H := Lib.hid (And.intro h (And.intro hnb (And.intro hp hgr)))
  clear h hnb hp hgr hcm
  obtain ⟨i0, hi0, hz0, hz1, hz2⟩ := info_parts ms_info
  go_enter Try.func31, Try.ntmps31
  go_wp2_with (at_builtin; refine wpList_append_orow w rfl (.tmp 8) (.tmp 9) _ rfl 47 i0 _ 23 208 Try.underlying29 hi0 hz0 hz1 hz2 rfl (by omega) S _ l.length (mtCells l) rfl H.out.1.row hS ⟨nb, 0, none⟩ 1 1 p.cells rfl rfl ?_ (Mt.one H.out.2.2.1.at) ?_ ?_ ?_)
  · intro j u hj
    rw [Addr.add_lit, Nat.zero_add, H.out.2.1.cell]
    exact hj
  · unfold maxLen; omega
  · omega
  intro v1 w1 hr1 hc1 ho1
  have hb1 := H.out.1.blk.chg hc1 H.out.2.2.2
  obtain ⟨N, hN⟩ : ∃ N, l.length + 1 = N := ⟨_, rfl⟩
  rw [hN] at hr1
  obtain ⟨g1, off, cap, cur, rfl, hs1, hg1, hn1, hm1, hsz1, htk1⟩ := hr1.form (by omega)
  have f0 := hb1.frozen 0
  have p0 : w1.cell? ⟨g, 0, none⟩ = some (.slice A l.length c) := hb1.cell 0
  have H1 := Lib.hid (And.intro hr1 (And.intro hc1 (And.intro ho1 hb1)))
  clear hr1 hc1 ho1 hb1 hs1 hg1 hsz1 htk1 q0
  go_wp2_with fail
  have hb2 := H1.out.2.2.2.setCell 0 (.slice (some ⟨g1, off, none⟩) N cap)
  simp only [List.set] at hb2
  obtain ⟨w2, hw2⟩ : ∃ w2, w1.setCell ⟨g, 0, none⟩ (.slice (some ⟨g1, off, none⟩) N cap) = w2 := ⟨_, rfl⟩
  rw [hw2] at hb2 ⊢
  have HW2 := Lib.hid hw2
  clear f0 p0 hw2
  have q0 : w2.cell? ⟨g, 0, none⟩ = some (.slice (some ⟨g1, off, none⟩) N cap) := hb2.cell 0
  have q1 : w2.cell? ⟨g, 1, none⟩ = some (.int .i64 most) := hb2.cell 1
  have f0 := hb2.frozen 0
  have hwr : IntKind.i64.wrap ((N : Int) - (most : Int)) = (N : Int) - (most : Int) := IntWalk.i64_in _ (by omega)
  have g1c : (N : Int) ≤ (cap : Int) := by omega
  have g1n : (1 : Int) ≤ (N : Int) := by omega
  have HN := Lib.hid hN
  have HE := Lib.hid (show EsMy w S p ∧ ∀ q ∈ l, EsMy w S q from ⟨H.out.2.2.1, H.out.1.es⟩)
  have hc12 : Chg (fun k => k = g) w1 w2 := by rw [← HW2.out]; exact (Chg.refl (fun k => k = g) w1).setCell (g := g) (.inr rfl) 0 _
  have hml : mtCells l ++ p.cells = mtCells (l ++ [p]) := by rw [mtCells_append]; simp [mtCells]
  by_cases hfit : N ≤ most
  · obtain ⟨d, hd⟩ : ∃ d : Int, (N : Int) - (most : Int) = d := ⟨_, rfl⟩
    have hd0 : ¬ (0 : Int) < d := by omega
    have hwr2 := hwr.trans hd
    have HF := Lib.hid (show lastN most (l ++ [p]) = l ++ [p] from lastN_all (by simp; omega))
    have HC := Lib.hid (And.intro hc12 hml)
    clear hd hwr hN hc12 hml
    go_still_tail 17, (by kernel_rfl)
    change wpList _ _ _ _ _ w2.drew
    have hb3 : Blk w2.drew g 61 [.slice (some ⟨g1, off, none⟩) N cap, .int .i64 most] := hb2
    have HC3 := Lib.hid HC.out.1.drew
    obtain ⟨w3, hw3⟩ : ∃ w3, w2.drew = w3 := ⟨_, rfl⟩
    rw [hw3] at hb3 HC3 ⊢
    have p0 := hb3.cell 0
    have p1 := hb3.frozen 0
    simp only [List.getElem?_cons_zero] at p0
    have HB3 := Lib.hid hb3
    clear hw3 hb3 hb2 q0 q1 f0
    go_wp2_with fail

    refine bodyPost_end (results_none rfl _ _ _) rfl ⟨rfl, .slice (some ⟨g1, off, none⟩) N cap, ?_⟩
    have he := bag_end H.out.1 H1.out.2.1 (v2 := .slice (some ⟨g1, off, none⟩) N cap) (l2 := l ++ [p]) (by rw [← HC.out.2, List.length_append, List.length_singleton, HN.out]; exact H1.out.1) (fun q hq => by
      rcases List.mem_append.1 hq with hq | hq
      · exact HE.out.2 q hq
      · rw [List.mem_singleton.1 hq]; exact HE.out.1) (by rw [List.length_append, List.length_singleton, HN.out]; exact hfit) ⟨_, H1.out.2.2.2⟩ (HC3.out.setCell (.inr rfl) 0 _) (HB3.out.setCell 0 _)
    rw [HF.out]
    exact ⟨he.1, he.2, H1.out.2.2.1⟩
  · have hwr1 : IntKind.i64.wrap ((N : Int) - (most : Int)) = 1 := by rw [hwr]; omega
    have HF := Lib.hid (show lastN most (l ++ [p]) = (l ++ [p]).drop 1 by unfold lastN; rw [List.length_append, List.length_singleton]; congr 1; omega)
    have hrd := H1.out.1.drop (j := 1) (by omega)
    rw [hml, mtCells_drop] at hrd
    have HC := Lib.hid (And.intro hc12 hrd)
    clear hwr hN hc12 hml hrd
    by_cases hcap : cap = 1
    · omega
    · go_still_tail 17, (by kernel_rfl)
      change wpList _ _ _ _ _ w2.drew
      have hb3 : Blk w2.drew g 61 [.slice (some ⟨g1, off, none⟩) N cap, .int .i64 most] := hb2
      have HC3 := Lib.hid HC.out.1.drew
      obtain ⟨w3, hw3⟩ : ∃ w3, w2.drew = w3 := ⟨_, rfl⟩
      rw [hw3] at hb3 HC3 ⊢
      have p0 := hb3.cell 0
      have p1 := hb3.frozen 0
      simp only [List.getElem?_cons_zero] at p0
      have HB3 := Lib.hid hb3
      clear hw3 hb3 hb2 q0 q1 f0
      go_wp2_with fail
      refine bodyPost_end (results_none rfl _ _ _) rfl ⟨rfl, .slice (some ⟨g1, off + 23, none⟩) (N - 1) (cap - 1), ?_⟩
      have he := bag_end H.out.1 H1.out.2.1 (v2 := .slice (some ⟨g1, off + 23, none⟩) (N - 1) (cap - 1)) (l2 := (l ++ [p]).drop 1) (by
        have := HC.out.2
        rw [if_neg hcap, Nat.one_mul] at this
        rw [List.length_drop, List.length_append, List.length_singleton, HN.out]
        exact this) (fun q hq => by
        rcases List.mem_append.1 (List.mem_of_mem_drop hq) with hq | hq
        · exact HE.out.2 q hq
        · rw [List.mem_singleton.1 hq]; exact HE.out.1) (by rw [List.length_drop, List.length_append, List.length_singleton]; omega) ⟨_, H1.out.2.2.2⟩ (HC3.out.setCell (.inr rfl) 0 _) (HB3.out.setCell 0 _)
      rw [HF.out]
      exact ⟨he.1, he.2, H1.out.2.2.1⟩
end Go.Proofs.Ytbdbimnfknaakaa
