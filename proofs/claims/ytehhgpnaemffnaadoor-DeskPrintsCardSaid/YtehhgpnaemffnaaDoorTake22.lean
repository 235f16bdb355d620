/- desk's call: its closure, and what stands in its own blocks. -/
import Derived.Test.YtehhgpnaemffnaaDoorLine22
namespace Go.Proofs.YtehhgpnaemffnaaDoor
open Go.RowKit
attribute [-go_sem] loadCellsFrom storeCells
attribute [local go_sem] storeCells_one

/-- The cells of an operation, of an act. -/
def oc (k h i n kk v t : Int) : List Value := [.int .i64 k, .int .i64 h, .int .i64 i, .int .i64 n, .int .i64 kk, .int .i64 v, .int .i64 t]
def ac (k node n client ok h i nn kk v t : Int) : List Value := [.int .i64 k, .int .i64 node, .int .i64 n, .int .i64 client, .int .i64 ok, .int .i64 h, .int .i64 i, .int .i64 nn, .int .i64 kk, .int .i64 v, .int .i64 t]
theorem oc_one (k h i n kk v t : Int) : ∀ u ∈ oc k h i n kk v t, u.oneCell' = true := by
  intro u hu
  simp only [oc, List.mem_cons, List.not_mem_nil, or_false] at hu
  rcases hu with rfl | rfl | rfl | rfl | rfl | rfl | rfl <;> rfl
theorem ac_one (k node n client ok h i nn kk v t : Int) : ∀ u ∈ ac k node n client ok h i nn kk v t, u.oneCell' = true := by
  intro u hu
  simp only [ac, List.mem_cons, List.not_mem_nil, or_false] at hu
  rcases hu with rfl | rfl | rfl | rfl | rfl | rfl | rfl | rfl | rfl | rfl | rfl <;> rfl
/-- What stands in call's own blocks. -/
structure CS (w : World) (gl bx br bo : Nat) (st : Option (List ByteArray)) (cs : List Value) : Prop where
  env : Env w
  line : LAt w gl st
  box : Blk w bx 36 [.pointer (some ⟨gl, 0, none⟩)]
  res : Blk w br 25 (oc 0 0 0 0 0 0 0)
  op : Blk w bo 25 cs
  big : 8 ≤ gl
  o1 : gl < bx
  o2 : bx < br
  o3 : br < bo
section
variable {w : World} {gl bx br bo : Nat} {st : Option (List ByteArray)} {cs : List Value}
theorem CS.put (h : CS w gl bx br bo st cs) (j : Nat) (u : Value) : CS (w.setCell ⟨bo, j, none⟩ u) gl bx br bo st (cs.set j u) ∧ Chg (fun k => k = bo) w (w.setCell ⟨bo, j, none⟩ u) := by
  have hc : Chg (fun k => k = bo) w (w.setCell ⟨bo, j, none⟩ u) := (Chg.refl (fun k => k = bo) _).setCell (.inr rfl) j u
  have h1 := h.o1
  have h2 := h.o2
  have h3 := h.o3
  have h4 := h.big
  exact ⟨⟨h.env.chg hc (by rintro i rfl; omega), h.line.above hc (by rintro i rfl; omega), h.box.chg hc (by omega), h.res.chg hc (by omega), h.op.setCell j u, h.big, h.o1, h.o2, h.o3⟩, hc⟩
theorem CS.num (h : CS w gl bx br bo st cs) {w' : World} {st' : Option (List ByteArray)} (hl : LAt w' gl st') (hc : Chg (fun k => k = gl) w w') : CS w' gl bx br bo st' cs := by
  have h1 := h.o1
  have h2 := h.o2
  have h3 := h.o3
  exact ⟨h.env.chg hc (by rintro i rfl; exact h.big), hl, h.box.chg hc (by omega), h.res.chg hc (by omega), h.op.chg hc (by omega), h.big, h.o1, h.o2, h.o3⟩
/-- 'take(&o.f)'. -/
theorem take_any (h : CS w gl bx br bo st cs) (j : Nat) (hj : j < cs.length) :
    Calls Tryd.prog 32 #[.pointer (some ⟨bo, j, none⟩), .pointer (some ⟨bx, 0, none⟩)] w fun e w' => e = .returned (.tuple #[]) ∧ ∃ n st', RelN st 0 n st' ∧ CS w' gl bx br bo st' (cs.set j (.int .i64 n)) ∧ Chg (fun k => k = gl ∨ k = bo) w w' := by
  have q0 : w.cell? ⟨bx, 0, none⟩ = some (.pointer (some ⟨gl, 0, none⟩)) := h.box.cell 0
  have HN := Lib.hid (number_any h.env h.line h.big 0 (by omega))
  have HC := Lib.hid h
  obtain ⟨u0, hu0⟩ : ∃ u, cs[j]? = some u := ⟨_, List.getElem?_eq_getElem hj⟩
  have HU := Lib.hid hu0
  clear h hj hu0
  go_enter Tryd.func32, Tryd.ntmps32
  go_wp2_with fail
  refine HN.out.mono ?_
  rintro e w1 ⟨n, rfl, st1, hr, hl1, hc1⟩
  have hcs := HC.out.num hl1 hc1
  have hp := hcs.put j (.int .i64 n)
  have q1 : w1.cell? ⟨bo, j, none⟩ = some u0 := (hcs.op.cell j).trans HU.out
  have z1 : w1.frozen? ⟨bo, j, none⟩ = false := hcs.op.frozen j
  have H1 := Lib.hid (And.intro hr (And.intro hp.1 ((hc1.mono (T := fun k => k = gl ∨ k = bo) (fun _ _ h => .inl h)).trans hp.2 (fun _ _ h => .inr h))))
  clear hr hl1 hc1 hcs hp
  go_wp2_with fail
  refine bodyPost_end (results_none rfl _ _ _) rfl ⟨rfl, n, st1, H1.out⟩
end
end Go.Proofs.YtehhgpnaemffnaaDoor
