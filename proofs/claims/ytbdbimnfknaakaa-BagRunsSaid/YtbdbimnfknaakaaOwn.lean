/- A message in memory of its own. -/
import Derived.Test.YtbdbimnfknaakaaMsg
import Derived.Test.YtbdbimnfknaakaaBlk
import Derived.Lib.SliceRun
namespace Go.Proofs.Ytbdbimnfknaakaa
open Go.RowKit

/-- A list of entries in memory of the call's own. -/
def EsOwn (w : World) (base : Nat) (v : Value) (es : List En) : Prop := w.ownsRow base 67 11 v es.length (enCells es)
theorem EsOwn.at {w : World} {base : Nat} {v : Value} {es : List En} (h : EsOwn w base v es) : EsAt w w.heap.size v es := by
  obtain ⟨A, c, hv, hc, _⟩ := own_is_slice h
  subst hv
  refine ⟨A, es.length, c, rfl, ?_, rfl, hc⟩
  rcases h.2 with ⟨hv, h0⟩ | ⟨g, cap, cur, hv, _, hg, _, _, _, _⟩
  · exact .inl (List.eq_nil_of_length_eq_zero (by rw [enCells_len, h0]))
  · have hA : A = some ⟨g, 0, none⟩ := by injection hv
    subst hA
    exact .inr ⟨g, 0, rfl, (Array.getElem?_eq_some_iff.1 hg).1, fun j u hu => by simpa [Addr.add_lit] using h.cells (g := g) rfl j u hu⟩

theorem entsNil (a : Option Addr) (n c : Nat) (w : World) : (binOp .eql 40 (.slice a n c) (.slice none 0 0)).run Try.prog w = .ok (.bool a.isNone) w :=
  Lib.run_eql_slice_nil w _ _ a n c 0 0 Try.underlying40
attribute [local go_sem] entsNil

set_option maxHeartbeats 1600000 in
theorem clone_any (v : Value) (es : List En) (B : Nat) (w : World) (h : EsAt w B v es) (hB : B ≤ w.heap.size) (hn : es.length ≤ 1000000) :
    Calls Try.prog 34 #[v] w fun e w' => ∃ v', e = .returned v' ∧ EsOwn w' w.heap.size v' es ∧ Below w.heap.size w w' := by
  obtain ⟨A, n, c, rfl, hr, hl, hc⟩ := h
  cases A with
  | none =>
    have hes : es = [] := by
      rcases hr with h | ⟨b, off, e, _⟩
      · exact List.eq_nil_of_length_eq_zero (by have := enCells_len es; rw [h] at this; simp at this; omega)
      · cases e
    subst hes
    obtain rfl : n = 0 := by simpa using hl.symm
    clear hr hl hn
    go_enter Try.func34, Try.ntmps34
    go_wp2_with fail
    go_ret
    exact ⟨_, rfl, World.ownsRow_nil _ _ _ _, Below.refl _ _⟩
  | some ad =>
    have H := Lib.hid (And.intro hr hl); clear hr
    obtain ⟨i0, hi0, hz0, hz1, hz2⟩ := info_parts en_info
    go_enter Try.func34, Try.ntmps34
    have hbe := (Below.refl w.heap.size w).alloc (Nat.le_refl _) (.cells #[] 67)
    have hown := World.ownsRow_made (base := w.heap.size) (e := 67) (size := 11) w #[] 0 (Nat.le_refl _) (by unfold maxLen; omega) rfl
    have HB := Lib.hid (And.intro hbe hown); clear hbe hown
    go_wp2_with (at_builtin; refine wpList_append_rd _ rfl (.tmp 5) (.tmp 6) _ rfl w.heap.size 67 i0 _ 11 88 Try.underlying40 hi0 hz0 hz1 hz2 rfl (by omega) _ 0 [] HB.out.2 rfl B (some ad) n c (enCells es) (H.out.1.below HB.out.1 hB) rfl ?_ (enCells_one es) ?_ ?_ ?_ ?_)
    · rw [enCells_len, H.out.2]
    · unfold maxLen; omega
    · omega
    · simp
    intro v1 w1 hown1 hg1
    have hb1 := HB.out.1.trans (below_of_grown HB.out.2 hg1 (by simp))
    have H1 := Lib.hid (And.intro hown1 hb1); clear hown1 hb1 hg1
    go_wp2_with fail
    go_ret
    refine ⟨_, rfl, ?_, H1.out.2⟩
    have := H1.out.1
    rw [← hl] at this
    exact this

attribute [-go_sem] loadCellsFrom storeCells
attribute [local go_sem] storeCells_one Mt.cells_len
def zero47 : List Value := [.int .i64 0, .int .i64 0, .int .i64 0, .int .i64 0, .int .i64 0, .int .i64 0, .int .i64 0, .int .i64 0, .slice none 0 0, .int .i64 0, .int .i64 0, .string { data := #[] }, .int .i64 0, .int .i64 0, .int .i64 0, .int .i64 0, .int .i64 0, .int .i64 0, .int .i64 0, .int .i64 0, .int .i64 0, .int .i64 0, .bool false]
theorem Mt.size (p : Mt) : (Try.prog.info? 47).map (·.size) = some p.cells.toArray.size := by
  have h : (Try.prog.info? 47).map (·.size) = some 23 := by kernel_rfl
  rw [h]
  rfl
theorem Mt.one {p : Mt} {B : Nat} {w : World} (h : EsAt w B p.v p.es) : ∀ u ∈ p.cells, u.oneCell' = true := by
  obtain ⟨A, n, c, hv, _⟩ := h
  simp [Mt.cells, hv, Value.oneCell']

/-- The message that was read, its list in memory of its own. -/
def Mt.with (p : Mt) (v : Value) : Mt := ⟨p.h, v, p.es⟩
theorem Mt.set8 (p : Mt) (v : Value) : p.cells.set 8 v = (p.with v).cells := rfl
theorem Mt.get0 (p : Mt) (h : 0 < p.cells.length) : p.cells[0] = .int .i64 p.h.k := rfl
theorem Mt.get1 (p : Mt) (h : 1 < p.cells.length) : p.cells[1] = .int .i64 p.h.f := rfl
theorem Mt.get2 (p : Mt) (h : 2 < p.cells.length) : p.cells[2] = .int .i64 p.h.t := rfl
theorem Mt.get3 (p : Mt) (h : 3 < p.cells.length) : p.cells[3] = .int .i64 p.h.v := rfl
theorem Mt.get4 (p : Mt) (h : 4 < p.cells.length) : p.cells[4] = .int .i64 p.h.n := rfl
theorem Mt.get5 (p : Mt) (h : 5 < p.cells.length) : p.cells[5] = .int .i64 p.h.u := rfl
theorem Mt.get6 (p : Mt) (h : 6 < p.cells.length) : p.cells[6] = .int .i64 p.h.b := rfl
theorem Mt.get7 (p : Mt) (h : 7 < p.cells.length) : p.cells[7] = .int .i64 p.h.c := rfl
theorem Mt.get8 (p : Mt) (h : 8 < p.cells.length) : p.cells[8] = p.v := rfl
theorem Mt.get9 (p : Mt) (h : 9 < p.cells.length) : p.cells[9] = .int .i64 p.h.o := rfl
theorem Mt.get10 (p : Mt) (h : 10 < p.cells.length) : p.cells[10] = .int .i64 p.h.a := rfl
theorem Mt.get11 (p : Mt) (h : 11 < p.cells.length) : p.cells[11] = .string p.h.d := rfl
theorem Mt.get12 (p : Mt) (h : 12 < p.cells.length) : p.cells[12] = .int .i64 p.h.s := rfl
theorem Mt.get13 (p : Mt) (h : 13 < p.cells.length) : p.cells[13] = .int .i64 p.h.o1 := rfl
theorem Mt.get14 (p : Mt) (h : 14 < p.cells.length) : p.cells[14] = .int .i64 p.h.o2 := rfl
theorem Mt.get15 (p : Mt) (h : 15 < p.cells.length) : p.cells[15] = .int .i64 p.h.o3 := rfl
theorem Mt.get16 (p : Mt) (h : 16 < p.cells.length) : p.cells[16] = .int .i64 p.h.o4 := rfl
theorem Mt.get17 (p : Mt) (h : 17 < p.cells.length) : p.cells[17] = .int .i64 p.h.o5 := rfl
theorem Mt.get18 (p : Mt) (h : 18 < p.cells.length) : p.cells[18] = .int .i64 p.h.o6 := rfl
theorem Mt.get19 (p : Mt) (h : 19 < p.cells.length) : p.cells[19] = .int .i64 p.h.o7 := rfl
theorem Mt.get20 (p : Mt) (h : 20 < p.cells.length) : p.cells[20] = .int .i64 p.h.r1 := rfl
theorem Mt.get21 (p : Mt) (h : 21 < p.cells.length) : p.cells[21] = .int .i64 p.h.r2 := rfl
theorem Mt.get22 (p : Mt) (h : 22 < p.cells.length) : p.cells[22] = .bool p.h.ok := rfl
attribute [local go_sem] Mt.get0 Mt.get5 Mt.get8
set_option maxHeartbeats 3200000 in
theorem own_any (p : Mt) (B : Nat) (w : World) (hp : EsAt w B p.v p.es) (hB : B ≤ w.heap.size) (hn : p.es.length ≤ 1000000) :
    Calls Try.prog 27 #[.agg p.cells.toArray] w fun e w' => ∃ v', e = .returned (.agg (p.with v').cells.toArray) ∧ EsOwn w' w.heap.size v' p.es ∧ Below w.heap.size w w' := by
  have hk1 := (Blk.new w 47 p.cells).alloc (.cells zero47.toArray 47)
  have hk2 := Blk.new (w.alloc (.cells p.cells.toArray 47)) 47 zero47
  have HK := Lib.hid (And.intro hk1 hk2); clear hk1 hk2
  have hb0 := ((Below.refl w.heap.size w).alloc (Nat.le_refl _) (.cells p.cells.toArray 47)).alloc (by simp) (.cells zero47.toArray 47)
  have H := Lib.hid (And.intro hp (And.intro hb0 (Mt.one hp)))
  clear hb0 hp
  go_enter Try.func27, Try.ntmps27
  go_wp2_with fail
  refine (clone_any p.v p.es B _ (H.out.1.below H.out.2.1 hB) (Nat.le_trans hB H.out.2.1.size) hn).mono ?_
  rintro e w1 ⟨v1, rfl, ho1, hb1⟩
  have hs0 := H.out.2.1.size
  have k1 := HK.out.1.below hb1 HK.out.1.lt
  have k2 := HK.out.2.below hb1 HK.out.2.lt
  have H1 := Lib.hid (And.intro ho1 (H.out.2.1.trans (hb1.mono hs0))); clear ho1 hb1
  have hvs : ∃ A1 n1 c1, v1 = .slice A1 n1 c1 := by obtain ⟨A1, c1, h, _⟩ := own_is_slice H1.out.1; exact ⟨A1, _, c1, h⟩
  obtain ⟨A1, n1, c1, rfl⟩ := hvs
  have r8 : w1.cell? ⟨w.heap.size, 8, none⟩ = some p.v := k1.cell 8
  have f8 := k1.frozen 8
  have k3 := k1.setCell 8 (.slice A1 n1 c1)
  rw [Mt.set8] at k3
  have k4 := k2.otherCell (g' := w.heap.size) (by simp) 8 (.slice A1 n1 c1)
  simp only [World.size_alloc] at k4
  have hld := k3.load (P := Try.prog) (k := 23) rfl
  have h1 : ∀ u ∈ (p.with (.slice A1 n1 c1)).cells, u.oneCell' = true := Mt.one (p := p.with (.slice A1 n1 c1)) (EsOwn.at (es := p.es) H1.out.1)
  have hst := k4.store (P := Try.prog) (cs' := (p.with (.slice A1 n1 c1)).cells) rfl h1
  have K := Lib.hid (k4.set (p.with (.slice A1 n1 c1)).cells); clear k1 k2 k3 k4 HK hs0 h1
  go_wp2_with fail
  refine bodyPost_ret (results_cell_row rfl _ _ (w.heap.size + 1) 47 _ (0, 0) _ rfl K.out Try.underlying47 rfl (Mt.size _)) rfl ⟨_, rfl, ?_, ?_⟩
  · have hg := own_from H1.out.1 (w' := (w1.setCell ⟨w.heap.size, 8, none⟩ (.slice A1 n1 c1)).setRow (w.heap.size + 1) (p.with (.slice A1 n1 c1)).cells.toArray) (fun k hk _ => by
      simp only [World.size_alloc] at hk
      rw [setRow_other _ _ _ _ (by omega), Below.heap_setCell _ _ _ _ (by simp only; omega)])
    exact own_base hg (by simp only [World.size_alloc]; omega)
  · exact below_setRow (H1.out.2.setCell (p := ⟨w.heap.size, 8, none⟩) (Nat.le_refl _) _) (Nat.le_succ _) _
end Go.Proofs.Ytbdbimnfknaakaa
