/- A bag in memory; New, Len, place. -/
import Derived.Test.YtbdbimnfknaakaaRefAll
import Derived.Test.YtbdbimnfknaakaaORows
namespace Go.Proofs.Ytbdbimnfknaakaa
open Go.RowKit
attribute [-go_sem] loadCellsFrom storeCells
attribute [local go_sem] storeCells_one Mt.cells_len

/-- A message laid into a slice of one: all cells, one behind the other. -/
theorem Mt.fold (p : Mt) : List.foldl (fun (cs : Array Value) (x : Value × Nat) => cs.setIfInBounds x.snd x.fst) #[.int .i64 0, .int .i64 0, .int .i64 0, .int .i64 0, .int .i64 0, .int .i64 0, .int .i64 0, .int .i64 0, .slice none 0 0, .int .i64 0, .int .i64 0, .string { data := #[] }, .int .i64 0, .int .i64 0, .int .i64 0, .int .i64 0, .int .i64 0, .int .i64 0, .int .i64 0, .int .i64 0, .int .i64 0, .int .i64 0, .bool false] p.cells.zipIdx = p.cells.toArray := by
  obtain ⟨h, v, es⟩ := p
  simp [Mt.cells]
/-- A message's list in a block of one's own. -/
def EsMy (w : World) (S : Nat → Prop) (p : Mt) : Prop := ORow w S 67 11 p.v p.es.length (enCells p.es) ∧ p.es.length ≤ 1000
/-- A bag: its block, its row, its messages. -/
structure BagAt (w : World) (S : Nat → Prop) (g most : Nat) (v : Value) (l : List Mt) : Prop where
  inS : S g
  blk : Blk w g 61 [v, .int .i64 most]
  row : ORow w S 47 23 v l.length (mtCells l)
  es : ∀ p ∈ l, EsMy w S p
  short : l.length ≤ most
theorem EsMy.at {w : World} {S : Nat → Prop} {p : Mt} (h : EsMy w S p) : EsAt w w.heap.size p.v p.es := by
  obtain ⟨A, c, hv, hc, _⟩ := h.1.slice
  have h1 := h.1
  rw [hv] at h1
  exact ⟨A, _, c, hv, h1.rd, rfl, hc⟩
theorem EsMy.below {w w' : World} {S : Nat → Prop} {p : Mt} (h : EsMy w S p) (hb : Below w.heap.size w w') : EsMy w' S p := ⟨h.1.below hb, h.2⟩
theorem EsMy.of_own {w : World} {S : Nat → Prop} {base : Nat} {p : Mt} (h : EsOwn w base p.v p.es) (hn : p.es.length ≤ 1000) (hS : ∀ i, base ≤ i → i < w.heap.size → S i) : EsMy w S p := ⟨ORow.of_own h hS, hn⟩
/-- A change of blocks of other kinds. -/
theorem EsMy.chg {w w' : World} {S T : Nat → Prop} {p : Mt} (h : EsMy w S p) (hc : Chg T w w') (hn : ∀ i c, T i → w.heap[i]? ≠ some (.cells c 67 (0, 0))) : EsMy w' S p :=
  ⟨h.1.kept (fun i c _ _ hg => hc.block i (Array.getElem?_eq_some_iff.1 hg).1 fun ht => hn i c ht hg) (fun _ _ h => h), h.2⟩
theorem BagAt.below {w w' : World} {S : Nat → Prop} {g most : Nat} {v : Value} {l : List Mt} (h : BagAt w S g most v l) (hb : Below w.heap.size w w') : BagAt w' S g most v l :=
  ⟨h.inS, h.blk.below hb h.blk.lt, h.row.below hb, fun p hp => (h.es p hp).below hb, h.short⟩
/-- Where the bag's blocks lie, told anew. -/
theorem BagAt.mono {w : World} {S T : Nat → Prop} {g most : Nat} {v : Value} {l : List Mt} (h : BagAt w S g most v l) (hT : ∀ i, i < w.heap.size → S i → T i) : BagAt w T g most v l :=
  ⟨hT _ h.blk.lt h.inS, h.blk, h.row.mono hT, fun p hp => ⟨(h.es p hp).1.mono hT, (h.es p hp).2⟩, h.short⟩
/-- A change that leaves all of S as it was leaves the bag. -/
theorem BagAt.chg {w w' : World} {S T : Nat → Prop} {g most : Nat} {v : Value} {l : List Mt} (h : BagAt w S g most v l) (hc : Chg T w w') (hn : ∀ i, S i → ¬ T i) : BagAt w' S g most v l :=
  ⟨h.inS, h.blk.chg hc (hn _ h.inS), h.row.chg hc (fun i hi => hn i (h.row.lt i hi).1), fun p hp => ⟨(h.es p hp).1.chg hc (fun i hi => hn i ((h.es p hp).1.lt i hi).1), (h.es p hp).2⟩, h.short⟩
/-- What a bag's own deeds may change. -/
def bagS (g : Nat) (v : Value) : Nat → Prop := fun k => k = g ∨ some k = v.ownBlock
/-- The bag's row, to be read. -/
theorem BagAt.ms {w : World} {S : Nat → Prop} {g most : Nat} {v : Value} {l : List Mt} (h : BagAt w S g most v l) : MsAt w w.heap.size v l := by
  obtain ⟨A, c, hv, hc, _⟩ := h.row.slice
  have h1 := h.row
  rw [hv] at h1
  exact ⟨A, _, c, hv, h1.rd, rfl, hc, fun p hp => ⟨(h.es p hp).at, (h.es p hp).2⟩⟩

theorem new_no (most : Int) (w : World) (h : most < 1 ∨ 200 < most) :
    Calls Try.prog 9 #[.int .i64 most] w fun e w' => e = .returned (.tuple #[.pointer none, .int .i64 1]) ∧ w = w' := by
  by_cases h1 : most < 1
  · clear h
    go_enter Try.func9, Try.ntmps9
    go_wp2_with fail
    go_ret2
    exact ⟨rfl, rfl⟩
  · have h2 : 200 < most := by omega
    have h1' : decide (most < 1) = false := by simp; omega
    clear h
    go_enter Try.func9, Try.ntmps9
    go_wp2_with fail
    go_ret2
    exact ⟨rfl, rfl⟩
theorem new_any (most : Nat) (w : World) (h1 : 1 ≤ most) (h2 : most ≤ 200) :
    Calls Try.prog 9 #[.int .i64 most] w fun e w' => e = .returned (.tuple #[.pointer (some ⟨w.heap.size, 0, none⟩), .int .i64 0]) ∧ BagAt w' (fun i => w.heap.size ≤ i) w.heap.size most (.slice none 0 0) [] ∧ Below w.heap.size w w' := by
  have g1 : decide ((most : Int) < 1) = false := by simp; omega
  have g2 : ¬ (200 : Int) < (most : Int) := by omega
  go_enter Try.func9, Try.ntmps9
  go_wp2_with fail
  go_ret2
  refine ⟨rfl, ⟨Nat.le_refl _, Blk.new _ _ [.slice none 0 0, .int .i64 most], ORow.nil _ _ _ _, ?_, Nat.zero_le _⟩, (Below.refl _ _).alloc (Nat.le_refl _) _⟩
  intro p hp
  cases hp
theorem len_nil (w : World) : Calls Try.prog 12 #[.pointer none] w fun e w' => e = .returned (.int .i64 0) ∧ w = w' := by
  go_enter Try.func12, Try.ntmps12
  go_wp2_with fail
  go_ret
  exact ⟨rfl, rfl⟩
theorem len_any {S : Nat → Prop} {g most : Nat} {v : Value} {l : List Mt} (w : World) (h : BagAt w S g most v l) : Calls Try.prog 12 #[.pointer (some ⟨g, 0, none⟩)] w fun e w' => e = .returned (.int .i64 (l.length : Nat)) ∧ w = w' := by
  obtain ⟨A, c, rfl, _⟩ := h.row.slice
  have q0 : w.cell? ⟨g, 0, none⟩ = some (.slice A l.length c) := h.blk.cell 0
  clear h
  go_enter Try.func12, Try.ntmps12
  go_wp2_with fail
  go_ret
  exact ⟨rfl, rfl⟩
theorem has_any {S : Nat → Prop} {g most : Nat} {v : Value} {l : List Mt} (i : Int) (w : World) (h : BagAt w S g most v l) : Calls Try.prog 35 #[.pointer (some ⟨g, 0, none⟩), .int .i64 i] w fun e w' => e = .returned (.bool (decide (0 ≤ i) && decide (i < (l.length : Int)))) ∧ w = w' := by
  obtain ⟨A, c, rfl, _⟩ := h.row.slice
  have q0 : w.cell? ⟨g, 0, none⟩ = some (.slice A l.length c) := h.blk.cell 0
  clear h
  by_cases h0 : 0 ≤ i
  · have h0' : decide (0 ≤ i) = true := decide_eq_true h0
    rw [h0', Bool.true_and]
    go_enter Try.func35, Try.ntmps35
    go_wp2_with fail
    go_ret
    exact ⟨rfl, rfl⟩
  · have h0' : decide (0 ≤ i) = false := decide_eq_false h0
    rw [h0', Bool.false_and]
    go_enter Try.func35, Try.ntmps35
    go_wp2_with fail
    go_ret
    exact ⟨rfl, rfl⟩
/-- Is there such a place? -/
def inL (l : List Mt) (i : Int) : Bool := decide (0 ≤ i) && decide (i < (l.length : Int))
theorem place_nil (i : Int) (w : World) : Calls Try.prog 32 #[.pointer none, .int .i64 i] w fun e w' => e = .returned (.int .i64 3) ∧ w = w' := by
  go_enter Try.func32, Try.ntmps32
  go_wp2_with fail
  go_ret
  exact ⟨rfl, rfl⟩
theorem place_any {S : Nat → Prop} {g most : Nat} {v : Value} {l : List Mt} (i : Int) (w : World) (h : BagAt w S g most v l) : Calls Try.prog 32 #[.pointer (some ⟨g, 0, none⟩), .int .i64 i] w fun e w' => e = .returned (.int .i64 (if inL l i = true then 0 else 120)) ∧ w = w' := by
  have HH := Lib.hid (has_any i w h)
  have e : (decide (0 ≤ i) && decide (i < (l.length : Int))) = inL l i := rfl
  rw [e] at HH
  clear e h
  cases hb : inL l i
  · rw [hb] at HH
    clear hb
    go_enter Try.func32, Try.ntmps32
    go_wp2_with fail
    refine HH.out.mono ?_
    rintro e w' ⟨rfl, rfl⟩
    go_wp2_with fail
    go_ret
    exact ⟨rfl, rfl⟩
  · rw [hb] at HH
    clear hb
    go_enter Try.func32, Try.ntmps32
    go_wp2_with fail
    refine HH.out.mono ?_
    rintro e w' ⟨rfl, rfl⟩
    go_wp2_with fail
    go_ret
    exact ⟨rfl, rfl⟩
end Go.Proofs.Ytbdbimnfknaakaa
