/- chunk.Cut: a text's i-th piece, or the refusal. -/
import Derived.Test.YtdfjaephlabnhaaChunks
namespace Go.Proofs.Ytdfjaephlabnhaa
open Go.RowKit
attribute [local go_sem] Oper.semAt_some

def cutOk (s : ByteArray) (i : Int) : Bool := decide (s.size ≤ 65536) && decide (0 ≤ i) && decide (i < nPieces s.size)
def cutS (s : ByteArray) (i : Int) : ByteArray := if cutOk s i then piece s i.toNat else ⟨#[]⟩
def cutE (s : ByteArray) (i : Int) : Int := if cutOk s i then 0 else 100

theorem boxed_new_at (W : World) (B : Nat) (h : B = W.heap.size) (t : TypeId) (v : Value) : Boxed (W.alloc (.cells #[v] t)) B t v := by subst h; exact Boxed.new W t v
theorem pieces_at {s : ByteArray} {pre rest : List ByteArray} {x : ByteArray} (h : pieces s = pre ++ x :: rest) : x = piece s pre.length ∧ pre.length < nPieces s.size := by
  have hl : (pieces s).length = nPieces s.size := by simp [pieces, upto]
  have h1 : pre.length < (pieces s).length := by rw [h]; simp
  have h2 : (pieces s)[pre.length]? = some x := by rw [h]; simp
  have h3 : (pieces s)[pre.length]? = some (piece s pre.length) := by
    rw [hl] at h1
    simp [pieces, upto, h1]
  rw [h3] at h2
  exact ⟨(Option.some.inj h2).symm, by omega⟩
theorem pieces_length (s : ByteArray) : (pieces s).length = nPieces s.size := by simp [pieces, upto]
theorem cut_results {a : Array Value} {w : World} {b1 b2 : Nat} {u : Value} {v : Value} (h1 : a.getD 4 undef = .pointer (some ⟨b1, 0, none⟩)) (h2 : a.getD 5 undef = .pointer (some ⟨b2, 0, none⟩))
    (c1 : w.cell? ⟨b1, 0, none⟩ = some u) (c2 : w.cell? ⟨b2, 0, none⟩ = some v) : (results Try.f11 a).run Try.prog w = .ok (.tuple #[u, v]) w :=
  results_cell2 rfl h1 h2 (run_loadVar_one w Try.underlying9 rfl c1) (run_loadVar_one w Try.underlying25 rfl c2)

set_option maxRecDepth 100000 in
set_option maxHeartbeats 4000000 in
theorem cut_any (s : ByteArray) (i : Int) (w : World) (hs : s.size ≤ 1000000) :
    Calls Try.prog 11 #[.string s, .int .i64 i] w fun e w' => e = .returned (.tuple #[.string (cutS s i), .int .i64 (cutE s i)]) ∧ Below w.heap.size w w' := by
  obtain ⟨rs, hrs⟩ : ∃ rs, cutS s i = rs := ⟨_, rfl⟩
  obtain ⟨re, hre⟩ : ∃ re, cutE s i = re := ⟨_, rfl⟩
  rw [hrs, hre]
  refine (callsIn_wide (n := 6)).1 (callsIn_of_wp_marks Try.func11 rfl trivial (wpIn_wide.2 ?_) rfl)
  simp only [Try.ntmps11, List.size_toArray, List.length_cons, List.length_nil, Nat.reduceAdd, Nat.reduceSub, Array.replicate_succ, Array.replicate_zero, List.push_toArray, List.append_toArray, List.nil_append, List.cons_append]
  by_cases hok : s.size ≤ 65536 ∧ 0 ≤ i ∧ i ≤ s.size
  · obtain ⟨h1, h2, h3⟩ := hok
    have c1 : decide ((65536 : Int) < (s.size : Int)) = false := by simp; omega
    have c2 : decide (i < 0) = false := by simp; omega
    have c3 : decide ((s.size : Int) < i) = false := by simp; omega
    have c1' : ¬ (65536 : Int) < (s.size : Int) := by omega
    have c2' : ¬ i < 0 := by omega
    have c3' : ¬ (s.size : Int) < i := by omega
    go_wp2_with fail
    refine (chunks_any s _).mono ?_
    rintro e w' ⟨rfl, rfl⟩
    go_wp2_with fail
    have nb := Boxed.new ((((w.alloc (.cells #[.int .i64 i] 3)).alloc (.cells #[.string ⟨#[]⟩] 9)).alloc (.cells #[.int .i64 0] 25)).alloc (.cells #[.int .i64 0] 3)) 9 (.string s)
    simp only [World.size_alloc] at nb
    refine wp_cellSeq (q := 7) rfl (enters_of Try.func32 (by kernel_rfl) rfl) (b := w.heap.size + 4) (by simp) (chunks_seq s _ _ hs nb.cell nb.frozen)
      (fun pre W => (Boxed W w.heap.size 3 (.int .i64 i) ∧ (∃ u, Boxed W (w.heap.size + 1) 9 u) ∧ (∃ u, Boxed W (w.heap.size + 2) 25 u) ∧ Boxed W (w.heap.size + 3) 3 (.int .i64 (pre.length : Int)) ∧ (pre.length : Int) ≤ i) ∧ Below w.heap.size w W)
      (fun c pre W => (Boxed W (w.heap.size + 1) 9 (.string rs) ∧ Boxed W (w.heap.size + 2) 25 (.int .i64 0) ∧ cutOk s i = true ∧ c = .ret) ∧ Below w.heap.size w W)
      ?hI ?hIx ?hIb ?h0 ?hassign ?hbody ?hdone ?hstop
    case hI =>
      refine OwnFrom.and (Own.from ?_ _) (ownFrom_below (Nat.le_refl _) (by simp; omega))
      rintro pre A B row ⟨k1, k2, k3, k4, k5⟩ hg hr
      exact ⟨boxed_own _ _ (fun _ => _) pre A B row k1 hg hr, boxedAny_own _ _ pre A B row k2 hg hr, boxedAny_own _ _ pre A B row k3 hg hr, boxed_own _ _ (fun p => .int .i64 (p.length : Int)) pre A B row k4 hg hr, k5⟩
    case hIx =>
      intro c
      refine OwnFrom.and (Own.from ?_ _) (ownFrom_below (Nat.le_refl _) (by simp; omega))
      rintro pre A B row ⟨k1, k2, k3⟩ hg hr
      exact ⟨boxed_own _ _ (fun _ => _) pre A B row k1 hg hr, boxed_own _ _ (fun _ => _) pre A B row k2 hg hr, k3⟩
    case hIb =>
      rintro pre A v ⟨⟨k1, k2, k3, k4, k5⟩, hb⟩
      exact ⟨⟨k1.other (by omega) v, boxedAny_other k2 (by omega) v, boxedAny_other k3 (by omega) v, k4.other (by omega) v, k5⟩, hb.setCell (p := ⟨_, 0, none⟩) (by simp) v⟩
    case h0 =>
      have n0 := Boxed.new w 3 (.int .i64 i)
      have n1 := Boxed.new (w.alloc (.cells #[.int .i64 i] 3)) 9 (.string ⟨#[]⟩)
      have n2 := Boxed.new ((w.alloc (.cells #[.int .i64 i] 3)).alloc (.cells #[.string ⟨#[]⟩] 9)) 25 (.int .i64 0)
      have n3 := Boxed.new (((w.alloc (.cells #[.int .i64 i] 3)).alloc (.cells #[.string ⟨#[]⟩] 9)).alloc (.cells #[.int .i64 0] 25)) 3 (.int .i64 0)
      simp only [World.size_alloc] at n1 n2 n3
      exact ⟨⟨(((n0.alloc _).alloc _).alloc _).alloc _, ⟨_, ((n1.alloc _).alloc _).alloc _⟩, ⟨_, (n2.alloc _).alloc _⟩, n3.alloc _, by simpa using h2⟩,
        (((((Below.refl _ w).alloc (Nat.le_refl _) _).alloc (by simp) _).alloc (by simp; omega) _).alloc (by simp; omega) _).alloc (by simp; omega) _⟩
    case hassign =>
      intro l x W K hK
      simp only [List.setIfInBounds_toArray, List.set_cons_zero, List.set_cons_succ] at hK ⊢
      gi_wp2
      exact hK
    case hbody =>
      rintro l pre x rest W hx ⟨⟨k1, ⟨u2, k2⟩, ⟨u3, k3⟩, k4, k5⟩, hB⟩
      obtain ⟨hxp, hlt⟩ := pieces_at hx
      have hN : nPieces s.size ≤ 1000 := by unfold nPieces; omega
      simp only [List.setIfInBounds_toArray, List.set_cons_zero, List.set_cons_succ]
      have q1 := k1.cell; have q2 := k2.cell; have q3 := k3.cell; have q4 := k4.cell
      have f2 := k2.frozen; have f3 := k3.frozen; have f4 := k4.frozen
      clear hx
      by_cases he : (pre.length : Int) = i
      · have he' : ((pre.length : Int) == i) = true := by simp [he]
        have hcut : cutOk s i = true := by simp [cutOk]; omega
        have hcS : rs = x := by rw [← hrs, cutS, if_pos hcut, hxp, ← he]; rfl
        have HX := Lib.hid (And.intro hcut (And.intro hcS (And.intro k2 (And.intro k3 hB)))); clear hcut hcS k1 k2 k3 k4 hB hxp
        gi_wp2
        refine ⟨((KeepsOthers.setCell _ _ _).trans (KeepsOthers.setCell _ _ _)), ⟨⟨?_, ?_, HX.out.1, rfl⟩, ?_⟩⟩
        · rw [HX.out.2.1]; exact (HX.out.2.2.1.set _).other (by omega) _
        · exact (HX.out.2.2.2.1.other (by omega) _).set _
        · exact (HX.out.2.2.2.2.setCell (p := ⟨_, 0, none⟩) (by simp) _).setCell (p := ⟨_, 0, none⟩) (by simp; omega) _
      · have he' : ((pre.length : Int) == i) = false := by simp [he]
        have HX := Lib.hid (And.intro k1 (And.intro k2 (And.intro k3 (And.intro k4 hB)))); clear k1 k2 k3 k4 hB hxp
        gi_wp2
        obtain ⟨g1, g2, g3, g4, gB⟩ := HX.out
        refine ⟨KeepsOthers.setCell _ _ _, Below.heap_setCell _ _ _ _ (by simp), ⟨⟨g1.other (by omega) _, ⟨_, g2.other (by omega) _⟩, ⟨_, g3.other (by omega) _⟩, ?_, by simp; omega⟩, ?_⟩⟩
        · simpa using g4.set _
        · exact gB.setCell (p := ⟨_, 0, none⟩) (by simp; omega) _
    case hdone =>
      rintro D W hD ⟨⟨k1, ⟨u2, k2⟩, ⟨u3, k3⟩, k4, k5⟩, hB⟩ hK
      have hcut : cutOk s i = false := by rw [pieces_length] at k5; simp [cutOk]; omega
      obtain rfl : rs = ⟨#[]⟩ := by rw [← hrs]; simp [cutS, hcut]
      obtain rfl : re = 100 := by rw [← hre]; simp [cutE, hcut]
      have q2 := k2.cell; have q3 := k3.cell
      have f2 := k2.frozen; have f3 := k3.frozen
      simp only [World.size_alloc] at hD
      have HX := Lib.hid (And.intro hK (And.intro hB (And.intro k2 k3))); clear hK k1 k2 k3 k4 hB
      go_wp2_with fail
      obtain ⟨hK, hB, g2, g3⟩ := HX.out
      have hK' := ((KeepsOthers.setCell W ⟨w.heap.size + 1, 0, none⟩ (.string ⟨#[]⟩)).trans (KeepsOthers.setCell _ ⟨w.heap.size + 1 + 1, 0, none⟩ (.int .i64 100))).same D _ hK rfl
      refine ⟨by simp, .inl ⟨_, _, rfl, run_takeDeferred hK', ?_⟩⟩
      refine ⟨_, cut_results (b1 := w.heap.size + 1) (b2 := w.heap.size + 1 + 1) rfl rfl (boxed_putObj ((g2.set _).other (by omega) _) (by omega)).cell (boxed_putObj ((g3.other (by omega) _).set _) (by omega)).cell, rfl, ?_⟩
      exact below_putObj ((hB.setCell (p := ⟨_, 0, none⟩) (by simp) _).setCell (p := ⟨_, 0, none⟩) (by simp; omega) _) (by omega) ((hB.setCell (p := ⟨_, 0, none⟩) (by simp) _).setCell (p := ⟨_, 0, none⟩) (by simp; omega) _).size
    case hstop =>
      rintro D c pre W hD hpre ⟨⟨k1, k2, k3, rfl⟩, hB⟩ hK
      obtain rfl : re = 0 := by rw [← hre]; simp [cutE, k3]
      simp only [World.size_alloc] at hD
      have HX := Lib.hid (And.intro hK (And.intro hB (And.intro k1 k2))); clear hK k1 k2 hB
      go_wp2_with fail
      obtain ⟨hK, hB, g2, g3⟩ := HX.out
      refine ⟨by simp, .inl ⟨_, _, rfl, run_takeDeferred hK, ?_⟩⟩
      refine ⟨_, cut_results (b1 := w.heap.size + 1) (b2 := w.heap.size + 1 + 1) rfl rfl (boxed_putObj g2 (by omega)).cell (boxed_putObj g3 (by omega)).cell, rfl, ?_⟩
      exact below_putObj hB (by omega) hB.size
  · have hn : cutOk s i = false := by
      simp [cutOk]; unfold nPieces; omega
    obtain rfl : rs = ⟨#[]⟩ := by rw [← hrs]; simp [cutS, hn]
    obtain rfl : re = 100 := by rw [← hre]; simp [cutE, hn]
    clear hrs hre hn
    by_cases h1 : s.size ≤ 65536
    · by_cases h2 : 0 ≤ i
      · have c1' : ¬ (65536 : Int) < (s.size : Int) := by omega
        have c2' : ¬ i < 0 := by omega
        have c3' : (s.size : Int) < i := by omega
        go_wp2_with fail
        refine ⟨_, cut_results (b1 := w.heap.size + 1) (b2 := w.heap.size + 1 + 1) rfl rfl ?_ ?_, rfl, ?_⟩
        · exact ((boxed_new_at _ _ (by simp) _ _).alloc _).cell
        · exact (boxed_new_at _ _ (by simp) _ _).cell
        · exact ((((Below.refl _ w).alloc (Nat.le_refl _) _).alloc (by simp) _).alloc (by simp; omega) _)
      · have c1' : ¬ (65536 : Int) < (s.size : Int) := by omega
        have c2' : i < 0 := by omega
        go_wp2_with fail
        refine ⟨_, cut_results (b1 := w.heap.size + 1) (b2 := w.heap.size + 1 + 1) rfl rfl ?_ ?_, rfl, ?_⟩
        · exact ((boxed_new_at _ _ (by simp) _ _).alloc _).cell
        · exact (boxed_new_at _ _ (by simp) _ _).cell
        · exact ((((Below.refl _ w).alloc (Nat.le_refl _) _).alloc (by simp) _).alloc (by simp; omega) _)
    · have c1' : (65536 : Int) < (s.size : Int) := by omega
      go_wp2_with fail
      refine ⟨_, cut_results (b1 := w.heap.size + 1) (b2 := w.heap.size + 1 + 1) rfl rfl ?_ ?_, rfl, ?_⟩
      · exact ((boxed_new_at _ _ (by simp) _ _).alloc _).cell
      · exact (boxed_new_at _ _ (by simp) _ _).cell
      · exact ((((Below.refl _ w).alloc (Nat.le_refl _) _).alloc (by simp) _).alloc (by simp; omega) _)
end Go.Proofs.Ytdfjaephlabnhaa
