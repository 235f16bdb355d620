/- chunk.Of: a text's manifest, or the refusal. -/
import Derived.Test.YtdfjaephlabnhaaCut
import Derived.Test.YtdfjaephlabnhaaSums
import Derived.Maps.AppendAt
import Derived.Laws.IdiomStrings
import Derived.Laws.ResultCell
namespace Go.Proofs.Ytdfjaephlabnhaa
open Go.RowKit
attribute [local go_sem] Oper.semAt_some

/-- A block of two cells. -/
def Two (W : World) (B : Nat) (t : TypeId) (x y : Value) : Prop := W.heap[B]? = some (.cells #[x, y] t (0, 0))
section
variable {W W' : World} {B B' : Nat} {t : TypeId} {x y : Value}
theorem Two.lt (h : Two W B t x y) : B < W.heap.size := (Array.getElem?_eq_some_iff.1 h).1
theorem Two.cell0 (h : Two W B t x y) : W.cell? ⟨B, 0, none⟩ = some x := by simp [World.cell?, show W.heap[B]? = _ from h]
theorem Two.cell1 (h : Two W B t x y) : W.cell? ⟨B, 1, none⟩ = some y := by simp [World.cell?, show W.heap[B]? = _ from h]
theorem Two.frozen (h : Two W B t x y) (k : Nat) : W.frozen? ⟨B, k, none⟩ = false := by simp [World.frozen?, show W.heap[B]? = _ from h]
theorem Two.kept {row : Option Nat} (h : Two W B t x y) (hg : W.grownBy W' row) (hne : some B ≠ row) : Two W' B t x y := (hg.block B h.lt hne).trans h
theorem Two.alloc (h : Two W B t x y) (o : Obj) : Two (W.alloc o) B t x y := h.kept (World.grownBy_alloc W o none) (by simp)
theorem Two.other (h : Two W B t x y) (hne : B ≠ B') (k : Nat) (u : Value) : Two (W.setCell ⟨B', k, none⟩ u) B t x y := (Below.heap_setCell W _ u B hne).trans h
theorem Two.put (h : Two W B t x y) (hne : B ≠ B') (o : Obj) : Two (W.putObj B' o) B t x y := (World.putObj_heap_other hne).trans h
theorem Two.set0 (h : Two W B t x y) (u : Value) : Two (W.setCell ⟨B, 0, none⟩ u) B t u y := by
  obtain ⟨hlt, hk⟩ := Array.getElem?_eq_some_iff.1 h
  show (W.heap.modify B _)[B]? = _
  rw [Array.getElem?_eq_getElem (by rw [Array.size_modify]; exact hlt), Array.getElem_modify_self, hk]
  rfl
theorem Two.set1 (h : Two W B t x y) (u : Value) : Two (W.setCell ⟨B, 1, none⟩ u) B t x u := by
  obtain ⟨hlt, hk⟩ := Array.getElem?_eq_some_iff.1 h
  show (W.heap.modify B _)[B]? = _
  rw [Array.getElem?_eq_getElem (by rw [Array.size_modify]; exact hlt), Array.getElem_modify_self, hk]
  rfl
theorem Two.new_at (W : World) (B : Nat) (h : B = W.heap.size) (t : TypeId) (x y : Value) : Two (W.alloc (.cells #[x, y] t)) B t x y := by subst h; exact World.alloc_heap_new W _
theorem Two.own {β : Type} (B : Nat) (t : TypeId) (x y : Value) : Own (fun (_ : β) W => Two W B t x y) := fun s X Y row hs hg hrow =>
  hs.kept hg (fun e' => by obtain ⟨o, ho, hc⟩ := hrow B e'.symm; rw [show X.heap[B]? = _ from hs] at ho; cases ho; cases hc)
theorem Two.not_row {e : TypeId} (h : Two W B t x y) (hte : t ≠ e) {base size k : Nat} {v : Value} {xs : List Value} (hr : W.ownsRow base e size v k xs) : some B ≠ v.ownBlock := by
  rcases hr.2 with ⟨rfl, _⟩ | ⟨g, cap, cur, rfl, _, hgb, _⟩
  · simp [Value.ownBlock]
  · intro e'
    obtain rfl : B = g := by simpa [Value.ownBlock] using e'
    have := (show W.heap[B]? = _ from h).symm.trans hgb
    simp at this
    exact hte this.2
theorem row_own {base e size k : Nat} {v : Value} {xs : List Value} {row : Option Nat} (h : W.ownsRow base e size v k xs) (hg : W.grownBy W' row) (hrow : ∀ r, row = some r → ∃ o : Obj, W.heap[r]? = some o ∧ o.isCells = false) : W'.ownsRow base e size v k xs := by
  refine h.kept hg ?_
  rcases h.2 with ⟨rfl, _⟩ | ⟨g, cap, cur, rfl, _, hgb, _⟩
  · exact .inl rfl
  · refine .inr fun e' => ?_
    obtain ⟨o, ho, hc⟩ := hrow g (by simpa [Value.ownBlock] using e'.symm)
    rw [hgb] at ho; cases ho; cases hc
end

def sumOf (x : ByteArray) : Int := moreN 0 x.data.toList
def sumsOf (s : ByteArray) : List Int := (pieces s).map sumOf

/-- The bytes of a text, just laid. -/
theorem rd_bytesRow (w : World) (s : ByteArray) (cap : Nat) (t : TypeId) (fr : Nat × Nat) : Rd (w.alloc (.cells (bytesRow s cap) t fr)) (w.heap.size + 1) (some ⟨w.heap.size, 0, none⟩) (bv s.data.toList) := by
  refine .inr ⟨w.heap.size, 0, rfl, by omega, fun j u hu => ?_⟩
  have hj : j < s.data.size := by
    have := (List.getElem?_eq_some_iff.1 hu).1
    simpa [bv] using this
  rw [Nat.zero_add]
  have h1 := bytesRow_at s cap j hj
  have h2 : u = .int .u8 (s.data[j].toNat : Int) := by
    simp [bv] at hu
    obtain ⟨a, ha, rfl⟩ := hu
    rw [Array.getElem?_eq_getElem hj] at ha
    cases ha
    rfl
  have hnew : (w.alloc (.cells (bytesRow s cap) t fr)).heap[w.heap.size]? = some (.cells (bytesRow s cap) t fr) := World.alloc_heap_new w _
  rw [h2, ← h1]
  simp only [World.cell?, hnew]
  simp

theorem int_info : (Try.prog.info? 3).map (fun i => (i.zero, i.size, i.bytes)) = some (some (.int .i64 0), 1, 8) := by kernel_rfl
theorem grownBy_setCell1 (W : World) (b k : Nat) (v : Value) : W.grownBy (W.setCell ⟨b, k, none⟩ v) (some b) :=
  ⟨rfl, rfl, rfl, (KeepsWalks.setCell W _ v).size, fun j _ hk => Below.heap_setCell _ _ _ j (fun e => hk (by rw [e]))⟩
theorem man_underlying : ∃ fs, Try.prog.underlying 24 = some (.struct fs) := ⟨_, Try.underlying24⟩
theorem man_results {a : Array Value} {W : World} {b : Nat} {x y e : Value} (h1 : a.getD 2 undef = .pointer (some ⟨b, 0, none⟩)) (h2 : a.getD 3 undef = e) (h : Two W b 24 x y) :
    (results Try.f9 a).run Try.prog W = .ok (.tuple #[.agg #[x, y], e]) W := by
  rw [results_cell_tmp rfl, h1, h2]
  obtain ⟨fs, hfs⟩ := man_underlying
  simp [asAddr, Result.andThen, run_loadVar_row W b _ 24 #[x, y] (0, 0) _ h hfs rfl (by kernel_rfl)]

theorem of_no (s : ByteArray) (w : World) (hs : 65536 < s.size) :
    Calls Try.prog 9 #[.string s] w fun e w' => e = .returned (.tuple #[.agg #[.int .i64 0, .slice none 0 0], .int .i64 100]) ∧ Below w.heap.size w w' := by
  refine (callsIn_wide (n := 6)).1 (callsIn_of_wp_marks Try.func9 rfl trivial (wpIn_wide.2 ?_) rfl)
  simp only [Try.ntmps9, List.size_toArray, List.length_cons, List.length_nil, Nat.reduceAdd, Nat.reduceSub, Array.replicate_succ, Array.replicate_zero, List.push_toArray, List.append_toArray, List.nil_append, List.cons_append]
  have c1 : (65536 : Int) < (s.size : Int) := by omega
  go_wp2_with fail
  exact ⟨_, man_results rfl rfl (Two.new_at w _ rfl _ _ _), rfl, (Below.refl _ w).alloc (Nat.le_refl _) _⟩

abbrev ofI (s : ByteArray) (w : World) (pre : List ByteArray) (W : World) : Prop :=
  (Two W w.heap.size 24 (.int .i64 0) (.slice none 0 0) ∧ (∃ u, Boxed W (w.heap.size + 2) 9 u) ∧ ∃ V, Two W (w.heap.size + 1) 24 (.int .i64 s.size) V ∧ W.ownsRow w.heap.size 3 1 V pre.length (iv (pre.map sumOf))) ∧ Below w.heap.size w W

theorem of_round {s : ByteArray} {w W W2 W4 : World} {V V' : Value} {u : Value} {pre : List ByteArray} {x : ByteArray} (hg : W.grownBy W2 none)
    (h : Two W w.heap.size 24 (.int .i64 0) (.slice none 0 0) ∧ Boxed W (w.heap.size + 2) 9 u ∧ Two W (w.heap.size + 1) 24 (.int .i64 s.size) V ∧
      W.ownsRow w.heap.size 3 1 V pre.length (iv (pre.map sumOf)) ∧ Below w.heap.size w W ∧ Two W2 (w.heap.size + 1) 24 (.int .i64 s.size) V ∧ W2.ownsRow w.heap.size 3 1 V pre.length (iv (pre.map sumOf)))
    (k : W4.ownsRow w.heap.size 3 1 V' (pre.length + 1) (iv (pre.map sumOf) ++ [.int .i64 (sumOf x)]) ∧ W2.grownBy W4 V.ownBlock ∧ Two W4 (w.heap.size + 1) 24 (.int .i64 s.size) V) {a : Act} :
    cellPost (w.heap.size + 2) (ofI s w) (fun _ _ _ => False) (pre ++ [x]) W .normal a (W4.setCell ⟨w.heap.size + 1, 1, none⟩ V') := by
  obtain ⟨h1, h2, h3, h4, hB, t2, o2⟩ := h
  obtain ⟨k1, hg4, k3⟩ := k
  have hgW : W.grownBy W4 V.ownBlock := grownBy_trans ⟨hg.os, hg.tape, hg.output, hg.size, fun k hk _ => hg.block k hk (by simp)⟩ hg4
  have hB4 : Below w.heap.size w W4 := hB.trans (below_of_grown h4 hgW hB.size)
  have hko : KeepsOthers W W4 := KeepsOthers.of_grownBy hgW fun j o ej hj => by
    rcases h4.2 with ⟨rfl, _⟩ | ⟨g, cap, cur, rfl, _, hgb, _⟩
    · simp [Value.ownBlock] at ej
    · obtain rfl : g = j := by simpa [Value.ownBlock] using ej
      rw [hgb] at hj
      cases hj
      rfl
  have b2 : Boxed (W4.setCell ⟨w.heap.size + 1, 1, none⟩ V') (w.heap.size + 2) 9 u := (Below.heap_setCell _ _ _ _ (by simp)).trans (h2.kept hgW (h2.not_row (by decide) h4))
  refine ⟨hko.trans (KeepsOthers.setCell _ _ _), b2.trans h2.symm, ⟨⟨(h1.kept hgW (h1.not_row (by decide) h4)).other (by omega) 1 _, ⟨u, b2⟩, V', k3.set1 _, ?_⟩, hB4.setCell (p := ⟨_, 1, none⟩) (by simp) _⟩⟩
  have r := k1.kept (grownBy_setCell1 W4 (w.heap.size + 1) 1 V') (.inr (k3.not_row (by decide) k1).symm)
  simpa [iv] using r

set_option linter.unusedSimpArgs false in
set_option maxRecDepth 100000 in
set_option maxHeartbeats 4000000 in
theorem of_ok (s : ByteArray) (w : World) (hs : s.size ≤ 65536) :
    Calls Try.prog 9 #[.string s] w fun e w' => ∃ V, e = .returned (.tuple #[.agg #[.int .i64 s.size, V], .int .i64 0]) ∧ w'.ownsRow w.heap.size 3 1 V (nPieces s.size) (iv (sumsOf s)) ∧ Below w.heap.size w w' := by
  refine (callsIn_wide (n := 6)).1 (callsIn_of_wp_marks Try.func9 rfl trivial (wpIn_wide.2 ?_) rfl)
  simp only [Try.ntmps9, List.size_toArray, List.length_cons, List.length_nil, Nat.reduceAdd, Nat.reduceSub, Array.replicate_succ, Array.replicate_zero, List.push_toArray, List.append_toArray, List.nil_append, List.cons_append]
  have c1 : ¬ (65536 : Int) < (s.size : Int) := by omega
  go_wp2_with fail
  refine (chunks_any s _).mono ?_
  rintro e w' ⟨rfl, rfl⟩
  go_wp2_with fail
  have nb := boxed_new_at ((w.alloc (.cells #[.int .i64 0, .slice none 0 0] 24)).alloc (.cells #[.int .i64 s.size, .slice none 0 0] 24)) (w.heap.size + 2) (by simp) 9 (.string s)
  refine wp_cellSeq (q := 5) rfl (enters_of Try.func32 (by kernel_rfl) rfl) (b := w.heap.size + 2) (by simp) (chunks_seq s _ _ (by omega) nb.cell nb.frozen)
    (fun pre W => (Two W w.heap.size 24 (.int .i64 0) (.slice none 0 0) ∧ (∃ u, Boxed W (w.heap.size + 2) 9 u) ∧ ∃ V, Two W (w.heap.size + 1) 24 (.int .i64 s.size) V ∧ W.ownsRow w.heap.size 3 1 V pre.length (iv (pre.map sumOf))) ∧ Below w.heap.size w W)
    (fun _ _ _ => False) ?hI ?hIx ?hIb ?h0 ?hassign ?hbody ?hdone ?hstop
  case hI =>
    refine OwnFrom.and (Own.from ?_ _) (ownFrom_below (Nat.le_refl _) (by simp; omega))
    rintro pre A B row ⟨k1, k2, V, k3, k4⟩ hg hr
    exact ⟨Two.own _ _ _ _ pre A B row k1 hg hr, boxedAny_own _ _ pre A B row k2 hg hr, V, Two.own _ _ _ _ pre A B row k3 hg hr, row_own k4 hg hr⟩
  case hIx => exact fun _ _ _ _ _ h _ _ => h
  case hIb =>
    rintro pre A v ⟨⟨k1, ⟨u, k2⟩, V, k3, k4⟩, hb⟩
    exact ⟨⟨k1.other (by omega) 0 v, ⟨v, k2.set v⟩, V, k3.other (by omega) 0 v, k4.kept (grownBy_setCell' A _ v) (.inr (k2.not_row (by decide) k4).symm)⟩, hb.setCell (p := ⟨_, 0, none⟩) (by simp) v⟩
  case h0 =>
    exact ⟨⟨((Two.new_at w _ rfl _ _ _).alloc _).alloc _, ⟨_, nb⟩, _, (Two.new_at _ _ (by simp) _ _ _).alloc _, World.ownsRow_nil _ _ _ _⟩, (((Below.refl _ w).alloc (Nat.le_refl _) _).alloc (by simp) _).alloc (by simp; omega) _⟩
  case hassign =>
    intro l x W K hK
    simp only [List.setIfInBounds_toArray, List.set_cons_zero, List.set_cons_succ] at hK ⊢
    gi_wp2
    exact hK
  case hbody =>
    rintro l pre x rest W hx ⟨⟨k1, ⟨u, k2⟩, V, k3, k4⟩, hB⟩
    obtain ⟨hxp, hlt⟩ := pieces_at hx
    have hN : nPieces s.size ≤ 1000 := by unfold nPieces; omega
    simp only [List.setIfInBounds_toArray, List.set_cons_zero, List.set_cons_succ]
    have kc := fun w : World => run_bytes_of_string (P := Try.prog) w 9 45 5 x Try.underlying9 Try.underlying45 Try.underlying5
    have hxs : x.size ≤ 80 := by rw [hxp]; simp [piece, ByteArray.size_extract]; omega
    obtain ⟨cap, hcap⟩ : ∃ cap, grownCap W.drew x.size 0 5 = cap := ⟨_, rfl⟩
    obtain ⟨W2, hW2⟩ : ∃ W2, W.drew.drew.alloc (.cells (bytesRow x cap) 5 ((bytesRow x cap).size, (bytesRow x cap).size + 1)) = W2 := ⟨_, rfl⟩
    have hr2 : Rd W2 (W.heap.size + 1) (some ⟨W.heap.size, 0, none⟩) (bv x.data.toList) := by rw [← hW2]; exact rd_bytesRow W.drew.drew x cap _ _
    have kc1 := kc W.drew
    rw [hcap, hW2] at kc1
    have hsz2 : W2.heap.size = W.heap.size + 1 := by rw [← hW2]; simp
    have hg2 : W.grownBy W2 none := by rw [← hW2]; exact ⟨rfl, rfl, rfl, by simp, fun k hk _ => Below.heap_alloc W.drew.drew _ k hk⟩
    have t2 := k3.kept hg2 (by simp)
    have o2 := row_own k4 hg2 (by simp)
    obtain ⟨i0, hi0, hz0, hz1, hz2⟩ := info_parts int_info
    have q1 := k3.cell1; have q2 := t2.cell1; have q3 := (t2.alloc (.cells #[.int .i64 (sumOf x)] 3)).cell1
    have hmx : Try.prog.follows .mixedOrders = true := by kernel_rfl
    have hsum : Calls Try.prog 22 #[.slice (some ⟨W.heap.size, 0, none⟩) x.size cap] W2 fun e w' => e = .returned (.int .i64 (sumOf x)) ∧ W2 = w' := sum_any (some ⟨W.heap.size, 0, none⟩) x.size cap (W.heap.size + 1) x.data.toList W2 hr2 (by simp) (by omega)
    have HX := Lib.hid (And.intro k1 (And.intro k2 (And.intro k3 (And.intro k4 (And.intro hB (And.intro t2 o2))))))
    have hxo := Lib.hid hg2
    have HS := Lib.hid hsum
    clear hr2 hg2 t2 o2 k1 k2 k3 k4 hB hsum kc hx hxp hcap hW2
    gi_wp2
    refine region_by_hand hmx (by kernel_rfl) ?_
    refine any_take (i := 0) _ rfl (by kernel_rfl) (by kernel_rfl) (by kernel_rfl) (by rfl) (by intro w; go_simp <;> with_reducible rfl) ?_
    simp only [Act.put, List.setIfInBounds_toArray, List.set_cons_zero, List.set_cons_succ]
    refine any_take (i := 2) _ rfl (by kernel_rfl) (by kernel_rfl) (by kernel_rfl) (by rfl) (by intro w; go_simp <;> with_reducible rfl) ?_
    simp only [Act.put, List.setIfInBounds_toArray, List.set_cons_zero, List.set_cons_succ]
    refine any_pair 1 3 (by kernel_rfl) rfl rfl ?_ ?_
    · go_wp2_with fail
      refine ⟨rfl, ?_⟩
      refine any_only 3 (by kernel_rfl) rfl ?_
      go_wp2_with fail
      refine ⟨rfl, ?_⟩
      refine any_only 4 (by kernel_rfl) rfl ?_
      go_wp2_with fail
      refine Calls.mono HS.out ?_
      rintro e w9 ⟨rfl, rfl⟩
      go_wp2_with fail
      refine ⟨rfl, ?_⟩
      refine any_only 5 (by kernel_rfl) rfl ?_
      go_wp2_with fail
      refine ⟨rfl, ?_⟩
      refine any_only 6 (by kernel_rfl) rfl ?_
      refine wpList_append_one W2 rfl _ _ _ rfl w.heap.size 3 i0 _ 8 Try.underlying22 hi0 hz0 hz1 hz2 rfl V pre.length _ HX.out.2.2.2.2.2.2 rfl _ (by simp [Value.oneCell']) (by rw [hsz2]; rfl) (by unfold maxLen; omega) (by omega) (by have := HX.out.2.2.2.2.1.size; omega) ?_
      intro V' W4 hown' hgrow
      simp only [Act.put, List.setIfInBounds_toArray, List.set_cons_zero, List.set_cons_succ]
      refine ⟨rfl, ?_⟩
      obtain ⟨g', cap', rfl⟩ := ownsRow_succ hown'
      have t4 := HX.out.2.2.2.2.2.1.kept hgrow (HX.out.2.2.2.2.2.1.not_row (by decide) HX.out.2.2.2.2.2.2)
      have q4 := t4.cell1; have f4 := t4.frozen 1
      have HT := Lib.hid (And.intro hown' (And.intro hgrow t4)); clear hown' hgrow t4
      refine any_only 7 (by kernel_rfl) rfl ?_
      go_wp2_with fail
      refine ⟨rfl, ?_⟩
      refine any_only 8 (by kernel_rfl) rfl ?_
      go_wp2_with fail
      refine ⟨rfl, ?_⟩
      refine wpAny_done (by kernel_rfl) ?_ _
      refine ⟨rfl, ?_⟩
      exact of_round hxo.out HX.out HT.out (a := { tmps := #[], defers := [] })
    · go_wp2_with fail
      refine ⟨rfl, ?_⟩
      refine any_pair 1 4 (by kernel_rfl) rfl rfl ?_ ?_
      · go_wp2_with fail
        refine ⟨rfl, ?_⟩
        refine any_only 4 (by kernel_rfl) rfl ?_
        go_wp2_with fail
        refine Calls.mono HS.out ?_
        rintro e w9 ⟨rfl, rfl⟩
        go_wp2_with fail
        refine ⟨rfl, ?_⟩
        refine any_only 5 (by kernel_rfl) rfl ?_
        go_wp2_with fail
        refine ⟨rfl, ?_⟩
        refine any_only 6 (by kernel_rfl) rfl ?_
        refine wpList_append_one W2 rfl _ _ _ rfl w.heap.size 3 i0 _ 8 Try.underlying22 hi0 hz0 hz1 hz2 rfl V pre.length _ HX.out.2.2.2.2.2.2 rfl _ (by simp [Value.oneCell']) (by rw [hsz2]; rfl) (by unfold maxLen; omega) (by omega) (by have := HX.out.2.2.2.2.1.size; omega) ?_
        intro V' W4 hown' hgrow
        simp only [Act.put, List.setIfInBounds_toArray, List.set_cons_zero, List.set_cons_succ]
        refine ⟨rfl, ?_⟩
        obtain ⟨g', cap', rfl⟩ := ownsRow_succ hown'
        have t4 := HX.out.2.2.2.2.2.1.kept hgrow (HX.out.2.2.2.2.2.1.not_row (by decide) HX.out.2.2.2.2.2.2)
        have q4 := t4.cell1; have f4 := t4.frozen 1
        have HT := Lib.hid (And.intro hown' (And.intro hgrow t4)); clear hown' hgrow t4
        refine any_only 7 (by kernel_rfl) rfl ?_
        go_wp2_with fail
        refine ⟨rfl, ?_⟩
        refine any_only 8 (by kernel_rfl) rfl ?_
        go_wp2_with fail
        refine ⟨rfl, ?_⟩
        refine wpAny_done (by kernel_rfl) ?_ _
        refine ⟨rfl, ?_⟩
        exact of_round hxo.out HX.out HT.out (a := { tmps := #[], defers := [] })
      · go_wp2_with fail
        refine Calls.mono HS.out ?_
        rintro e w9 ⟨rfl, rfl⟩
        go_wp2_with fail
        refine ⟨rfl, ?_⟩
        refine any_pair 1 5 (by kernel_rfl) rfl rfl ?_ ?_
        · go_wp2_with fail
          refine ⟨rfl, ?_⟩
          refine any_only 5 (by kernel_rfl) rfl ?_
          go_wp2_with fail
          refine ⟨rfl, ?_⟩
          refine any_only 6 (by kernel_rfl) rfl ?_
          refine wpList_append_one W2 rfl _ _ _ rfl w.heap.size 3 i0 _ 8 Try.underlying22 hi0 hz0 hz1 hz2 rfl V pre.length _ HX.out.2.2.2.2.2.2 rfl _ (by simp [Value.oneCell']) (by rw [hsz2]; rfl) (by unfold maxLen; omega) (by omega) (by have := HX.out.2.2.2.2.1.size; omega) ?_
          intro V' W4 hown' hgrow
          simp only [Act.put, List.setIfInBounds_toArray, List.set_cons_zero, List.set_cons_succ]
          refine ⟨rfl, ?_⟩
          obtain ⟨g', cap', rfl⟩ := ownsRow_succ hown'
          have t4 := HX.out.2.2.2.2.2.1.kept hgrow (HX.out.2.2.2.2.2.1.not_row (by decide) HX.out.2.2.2.2.2.2)
          have q4 := t4.cell1; have f4 := t4.frozen 1
          have HT := Lib.hid (And.intro hown' (And.intro hgrow t4)); clear hown' hgrow t4
          refine any_only 7 (by kernel_rfl) rfl ?_
          go_wp2_with fail
          refine ⟨rfl, ?_⟩
          refine any_only 8 (by kernel_rfl) rfl ?_
          go_wp2_with fail
          refine ⟨rfl, ?_⟩
          refine wpAny_done (by kernel_rfl) ?_ _
          refine ⟨rfl, ?_⟩
          exact of_round hxo.out HX.out HT.out (a := { tmps := #[], defers := [] })
        · go_wp2_with fail
          refine ⟨rfl, ?_⟩
          refine any_only 1 (by kernel_rfl) rfl ?_
          go_wp2_with fail
          refine ⟨rfl, ?_⟩
          refine any_only 6 (by kernel_rfl) rfl ?_
          refine wpList_append_one W2 rfl _ _ _ rfl w.heap.size 3 i0 _ 8 Try.underlying22 hi0 hz0 hz1 hz2 rfl V pre.length _ HX.out.2.2.2.2.2.2 rfl _ (by simp [Value.oneCell']) (by rw [hsz2]; rfl) (by unfold maxLen; omega) (by omega) (by have := HX.out.2.2.2.2.1.size; omega) ?_
          intro V' W4 hown' hgrow
          simp only [Act.put, List.setIfInBounds_toArray, List.set_cons_zero, List.set_cons_succ]
          refine ⟨rfl, ?_⟩
          obtain ⟨g', cap', rfl⟩ := ownsRow_succ hown'
          have t4 := HX.out.2.2.2.2.2.1.kept hgrow (HX.out.2.2.2.2.2.1.not_row (by decide) HX.out.2.2.2.2.2.2)
          have q4 := t4.cell1; have f4 := t4.frozen 1
          have HT := Lib.hid (And.intro hown' (And.intro hgrow t4)); clear hown' hgrow t4
          refine any_only 7 (by kernel_rfl) rfl ?_
          go_wp2_with fail
          refine ⟨rfl, ?_⟩
          refine any_only 8 (by kernel_rfl) rfl ?_
          go_wp2_with fail
          refine ⟨rfl, ?_⟩
          refine wpAny_done (by kernel_rfl) ?_ _
          refine ⟨rfl, ?_⟩
          exact of_round hxo.out HX.out HT.out (a := { tmps := #[], defers := [] })
  case hdone =>
    rintro D W hD ⟨⟨k1, ⟨u, k2⟩, V, k3, k4⟩, hB⟩ hK
    obtain ⟨A0, c0, rfl, _, _⟩ := own_is_slice k4
    have q1 := k3.cell0; have q2 := k3.cell1; have q3 := k1.cell0; have q4 := k1.cell1
    have f1 := k1.frozen 0; have f2 := k1.frozen 1
    have q5 := (k1.set0 (.int .i64 s.size)).cell1; have f5 := (k1.set0 (.int .i64 s.size)).frozen 1
    simp only [World.size_alloc] at hD
    have HX := Lib.hid (And.intro hK (And.intro hB (And.intro k1 (And.intro k3 k4)))); clear hK k1 k2 k3 k4 hB
    go_wp2_with fail
    obtain ⟨hK, hB, g1, g3, g4⟩ := HX.out
    have hb2 := (hB.setCell (p := ⟨w.heap.size, 0, none⟩) (Nat.le_refl _) (.int .i64 s.size)).setCell (p := ⟨w.heap.size, 1, none⟩) (Nat.le_refl _) (.slice A0 (pieces s).length c0)
    have hK' := ((KeepsOthers.setCell W ⟨w.heap.size, 0, none⟩ (.int .i64 s.size)).trans (KeepsOthers.setCell _ ⟨w.heap.size, 1, none⟩ (.slice A0 (pieces s).length c0))).same D _ hK rfl
    refine ⟨by simp, .inl ⟨_, _, rfl, run_takeDeferred hK', ?_⟩⟩
    refine ⟨_, man_results rfl rfl (((g1.set0 _).set1 _).put (by omega) _), _, rfl, ?_, below_putObj hb2 (by omega) hb2.size⟩
    have g5 := g4.kept (grownBy_setCell1 W w.heap.size 0 (.int .i64 s.size)) (.inr (g1.not_row (by decide) g4).symm)
    have g6 := g5.kept (grownBy_setCell1 _ w.heap.size 1 (.slice A0 (pieces s).length c0)) (.inr ((g1.set0 _).not_row (by decide) g5).symm)
    have g7 := ownsRow_putObj g6 (.deferred none) hK' rfl
    rw [pieces_length] at g7 ⊢
    exact g7
  case hstop => exact fun _ _ _ _ _ _ h => h.elim
end Go.Proofs.Ytdfjaephlabnhaa
