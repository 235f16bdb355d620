/- The document's own: a message in memory of its own. -/
import Derived.Test.YtbdbimnfknaakaaOwn
namespace Go.Proofs.Ytbdbimnfknaakaa
open Go.RowKit
attribute [-go_sem] loadCellsFrom storeCells
attribute [local go_sem] storeCells_one Mt.cells_len Mt.get0 Mt.get5 Mt.get8

set_option maxHeartbeats 3200000 in
theorem refOwn_any (p : Mt) (B : Nat) (w : World) (hp : EsAt w B p.v p.es) (hB : B ≤ w.heap.size) (hn : p.es.length ≤ 1000000) :
    Calls Try.prog 19 #[.agg p.cells.toArray] w fun e w' => ∃ v', e = .returned (.agg (p.with v').cells.toArray) ∧ EsOwn w' w.heap.size v' p.es ∧ Below w.heap.size w w' := by
  have hk1 := (Blk.new w 47 p.cells).alloc (.cells zero47.toArray 47)
  have hk2 := Blk.new (w.alloc (.cells p.cells.toArray 47)) 47 zero47
  have HK := Lib.hid (And.intro hk1 hk2); clear hk1 hk2
  have hb0 := ((Below.refl w.heap.size w).alloc (Nat.le_refl _) (.cells p.cells.toArray 47)).alloc (by simp) (.cells zero47.toArray 47)
  obtain ⟨A, nn, cc, hv, hr, hl, hc⟩ := hp
  have H := Lib.hid (And.intro hv (And.intro hr (And.intro hl hb0)))
  clear hb0 hv hr
  have g8 := Mt.get8 p
  have HG : ∀ h, p.cells[8]'h = .slice A nn cc := fun h => by rw [g8 h, H.out.1]
  clear g8
  obtain ⟨i0, hi0, hz0, hz1, hz2⟩ := info_parts en_info
  go_enter Try.func19, Try.ntmps19
  go_wp2_with (at_builtin; refine wpList_append_rd _ rfl (.tmp 4) (.tmp 6) _ rfl (w.heap.size + 2) 67 i0 _ 11 88 Try.underlying40 hi0 hz0 hz1 hz2 rfl (by omega) _ 0 [] (World.ownsRow_nil _ _ _ _) rfl B A nn cc (enCells p.es) (H.out.2.1.below H.out.2.2.2 hB) rfl ?_ (enCells_one _) ?_ ?_ ?_ ?_)
  · rw [enCells_len, H.out.2.2.1]
  · unfold maxLen; omega
  · omega
  · simp
  intro v1 w1 ho1 hg1
  have hb1 : Below (w.heap.size + 2) _ w1 := below_of_grown (World.ownsRow_nil _ _ 67 11) hg1 (by simp)
  have k1 := HK.out.1.below hb1 (by omega)
  have k2 := HK.out.2.below hb1 (by simp only [World.size_alloc]; omega)
  have ho2 : EsOwn w1 (w.heap.size + 2) v1 p.es := by
    unfold EsOwn
    rw [H.out.2.2.1]
    exact ho1
  have H1 := Lib.hid (And.intro ho2 (H.out.2.2.2.trans (hb1.mono (by omega)))); clear ho1 ho2 hb1 hg1
  have hvs : ∃ A1 n1 c1, v1 = .slice A1 n1 c1 := by obtain ⟨A1, c1, h, _⟩ := own_is_slice H1.out.1; exact ⟨A1, _, c1, h⟩
  obtain ⟨A1, n1, c1, rfl⟩ := hvs
  have r8 : w1.cell? ⟨w.heap.size, 8, none⟩ = some p.v := k1.cell 8
  have f8 := k1.frozen 8
  have k3 := k1.setCell 8 (.slice A1 n1 c1)
  rw [Mt.set8] at k3
  have k4 := k2.otherCell (g' := w.heap.size) (by simp) 8 (.slice A1 n1 c1)
  simp only [World.size_alloc] at k4
  have hld := k3.load (P := Try.prog) (k := 23) rfl
  have h1 : ∀ u ∈ (p.with (.slice A1 n1 c1)).cells, u.oneCell' = true := Mt.one (p := p.with (.slice A1 n1 c1)) (EsOwn.at (es := p.es) H1.out.1)
  have hst := k4.store (P := Try.prog) (cs' := (p.with (.slice A1 n1 c1)).cells) rfl h1
  have K := Lib.hid (k4.set (p.with (.slice A1 n1 c1)).cells); clear k1 k2 k3 k4 HK h1
  go_wp2_with fail
  refine bodyPost_ret (results_cell_row rfl _ _ (w.heap.size + 1) 47 _ (0, 0) _ rfl K.out Try.underlying47 rfl (Mt.size _)) rfl ⟨_, rfl, ?_, ?_⟩
  · have hg := own_from H1.out.1 (w' := (w1.setCell ⟨w.heap.size, 8, none⟩ (.slice A1 n1 c1)).setRow (w.heap.size + 1) (p.with (.slice A1 n1 c1)).cells.toArray) (fun k hk _ => by
      rw [setRow_other _ _ _ _ (by omega), Below.heap_setCell _ _ _ _ (by simp only; omega)])
    exact own_base hg (by omega)
  · exact below_setRow (H1.out.2.setCell (p := ⟨w.heap.size, 8, none⟩) (Nat.le_refl _) _) (Nat.le_succ _) _
end Go.Proofs.Ytbdbimnfknaakaa
