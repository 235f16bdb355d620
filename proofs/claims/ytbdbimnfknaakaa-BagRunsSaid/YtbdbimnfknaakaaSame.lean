/- Two messages: are they the same? The bag's own answer. -/
import Derived.Test.YtbdbimnfknaakaaEnts
import Derived.Test.YtbdbimnfknaakaaRefOwn
namespace Go.Proofs.Ytbdbimnfknaakaa
open Go.RowKit
attribute [-go_sem] loadCellsFrom storeCells
attribute [local go_sem] storeCells_one Mt.cells_len Mt.get0 Mt.get1 Mt.get2 Mt.get3 Mt.get4 Mt.get5 Mt.get6 Mt.get7 Mt.get8 Mt.get9 Mt.get10 Mt.get11 Mt.get12 Mt.get13 Mt.get14 Mt.get15 Mt.get16 Mt.get17 Mt.get18 Mt.get19 Mt.get20 Mt.get21 Mt.get22

def zero69 : List Value := [.int .i64 0, .int .i64 0, .int .i64 0, .int .i64 0, .int .i64 0, .int .i64 0, .int .i64 0, .int .i64 0, .int .i64 0, .int .i64 0, .string { data := #[] }, .int .i64 0, .int .i64 0, .int .i64 0, .int .i64 0, .int .i64 0, .int .i64 0, .int .i64 0, .int .i64 0, .int .i64 0, .int .i64 0, .bool false]
theorem Hd.bare_one (h : Hd) : ∀ u ∈ h.bare, u.oneCell' = true := by simp [Hd.bare, Value.oneCell']
theorem Hd.size (h : Hd) : (Try.prog.info? 69).map (·.size) = some h.bare.toArray.size := by
  have e : (Try.prog.info? 69).map (·.size) = some 22 := by kernel_rfl
  rw [e]
  rfl
set_option maxHeartbeats 3200000 in
theorem of_any (p : Mt) (w : World) :
    Calls Try.prog 28 #[.agg p.cells.toArray] w fun e w' => e = .returned (.agg p.h.bare.toArray) ∧ Below w.heap.size w w' := by
  have hk1 := (Blk.new w 47 p.cells).alloc (.cells zero69.toArray 69)
  have hk2 := Blk.new (w.alloc (.cells p.cells.toArray 47)) 69 zero69
  have hb0 := ((Below.refl w.heap.size w).alloc (Nat.le_refl _) (.cells p.cells.toArray 47)).alloc (by simp) (.cells zero69.toArray 69)
  have hl1 := hk1.loadOff (P := Try.prog) 13 7 [.int .i64 p.h.o1, .int .i64 p.h.o2, .int .i64 p.h.o3, .int .i64 p.h.o4, .int .i64 p.h.o5, .int .i64 p.h.o6, .int .i64 p.h.o7] rfl rfl
  have hl2 := hk1.loadOff (P := Try.prog) 20 2 [.int .i64 p.h.r1, .int .i64 p.h.r2] rfl rfl
  have hst := hk2.store (P := Try.prog) (cs' := p.h.bare) rfl p.h.bare_one
  simp only [World.size_alloc] at hk2 hst
  have K := Lib.hid (And.intro (hk2.set p.h.bare) hb0)
  simp only [zero69, Hd.bare] at hl1 hl2 hst
  clear hk1 hk2 hb0
  go_enter Try.func28, Try.ntmps28
  go_wp2_with fail
  refine bodyPost_ret (results_cell_row rfl _ _ (w.heap.size + 1) 69 _ (0, 0) _ rfl K.out.1 Try.underlying69 rfl (Hd.size _)) rfl ⟨rfl, ?_⟩
  exact below_setRow K.out.2 (Nat.le_succ _) _
end Go.Proofs.Ytbdbimnfknaakaa
