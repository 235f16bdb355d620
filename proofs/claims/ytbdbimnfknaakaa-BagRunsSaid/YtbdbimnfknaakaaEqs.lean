/- Two entries, two messages: are they the same? The model's own '==' at these structs. -/
import Derived.Test.YtbdbimnfknaakaaOwn
import Derived.Laws.StructEq
namespace Go.Proofs.Ytbdbimnfknaakaa
open Go.RowKit

set_option maxRecDepth 100000 in
set_option maxHeartbeats 1600000 in
theorem en_neq (a b : En) (w : World) : Sem.run Try.prog (binOp .neq 67 (.agg a.cells.toArray) (.agg b.cells.toArray)) w = .ok (.bool (!decide (a = b))) w := by
  obtain ⟨x0, x1, x2, x3, x4, x5, x6, x7, x8, x9, x10⟩ := a
  obtain ⟨y0, y1, y2, y3, y4, y5, y6, y7, y8, y9, y10⟩ := b
  simp only [En.cells, En.mk.injEq]
  have hS : Try.prog.underlying 67 = some (.struct (Try.prog.fieldsOf 67)) := by kernel_rfl
  have hp : Try.prog.stoodInHeld 67 = false := by kernel_rfl
  rw [run_neq_struct, show (10000 : Nat) = 9999 + 1 from rfl, run_equalIn_agg w 9999 _ _ _ hS hp]
  simp only [Program.fieldsOf, Try.underlying67]
  clear hS hp
  go_simp
  by_cases h0 : ¬ x0 = y0
  · simp [h0]
  replace h0 := Classical.not_not.1 h0
  subst h0
  by_cases h1 : ¬ x1 = y1
  · simp [h1]
  replace h1 := Classical.not_not.1 h1
  subst h1
  by_cases h2 : ¬ x2 = y2
  · simp [h2]
  replace h2 := Classical.not_not.1 h2
  subst h2
  by_cases h3 : ¬ x3 = y3
  · simp [h3]
  replace h3 := Classical.not_not.1 h3
  subst h3
  by_cases h4 : ¬ x4 = y4
  · simp [h4]
  replace h4 := Classical.not_not.1 h4
  subst h4
  by_cases h5 : ¬ x5 = y5
  · simp [h5]
  replace h5 := Classical.not_not.1 h5
  subst h5
  by_cases h6 : ¬ x6 = y6
  · simp [h6]
  replace h6 := Classical.not_not.1 h6
  subst h6
  by_cases h7 : ¬ x7 = y7
  · simp [h7]
  replace h7 := Classical.not_not.1 h7
  subst h7
  by_cases h8 : ¬ x8 = y8
  · simp [h8]
  replace h8 := Classical.not_not.1 h8
  subst h8
  by_cases h9 : ¬ x9 = y9
  · simp [h9]
  replace h9 := Classical.not_not.1 h9
  subst h9
  by_cases h10 : ¬ x10 = y10
  · simp [h10]
  replace h10 := Classical.not_not.1 h10
  subst h10
  simp

/-- A message without its list, in memory. -/
def Hd.bare (h : Hd) : List Value :=
  [.int .i64 h.k, .int .i64 h.f, .int .i64 h.t, .int .i64 h.v, .int .i64 h.n, .int .i64 h.u, .int .i64 h.b, .int .i64 h.c, .int .i64 h.o, .int .i64 h.a, .string h.d, .int .i64 h.s,
   .int .i64 h.o1, .int .i64 h.o2, .int .i64 h.o3, .int .i64 h.o4, .int .i64 h.o5, .int .i64 h.o6, .int .i64 h.o7, .int .i64 h.r1, .int .i64 h.r2, .bool h.ok]
theorem bytes_inj (a b : ByteArray) : a.toList = b.toList ↔ a = b := by
  constructor
  · intro hl
    rw [ByteArray.toList_eq, ByteArray.toList_eq] at hl
    obtain ⟨⟨x⟩⟩ := a
    obtain ⟨⟨y⟩⟩ := b
    simpa using hl
  · rintro rfl
    rfl

set_option maxRecDepth 100000 in
set_option maxHeartbeats 1600000 in
theorem bare_eq (a b : Hd) (w : World) : Sem.run Try.prog (binOp .eql 69 (.agg a.bare.toArray) (.agg b.bare.toArray)) w = .ok (.bool (decide (a = b))) w := by
  obtain ⟨x0, x1, x2, x3, x4, x5, x6, x7, x8, x9, x10, x11, x12, x13, x14, x15, x16, x17, x18, x19, x20, x21⟩ := a
  obtain ⟨y0, y1, y2, y3, y4, y5, y6, y7, y8, y9, y10, y11, y12, y13, y14, y15, y16, y17, y18, y19, y20, y21⟩ := b
  simp only [Hd.bare, Hd.mk.injEq]
  have hst := Try.underlying9
  have hS : Try.prog.underlying 69 = some (.struct (Try.prog.fieldsOf 69)) := by kernel_rfl
  have hp : Try.prog.stoodInHeld 69 = false := by kernel_rfl
  rw [run_eql_struct, show (10000 : Nat) = 9999 + 1 from rfl, run_equalIn_agg w 9999 _ _ _ hS hp]
  simp only [Program.fieldsOf, Try.underlying69]
  clear hS hp
  go_simp
  by_cases h0 : ¬ x0 = y0
  · simp [h0]
  replace h0 := Classical.not_not.1 h0
  subst h0
  by_cases h1 : ¬ x1 = y1
  · simp [h1]
  replace h1 := Classical.not_not.1 h1
  subst h1
  by_cases h2 : ¬ x2 = y2
  · simp [h2]
  replace h2 := Classical.not_not.1 h2
  subst h2
  by_cases h3 : ¬ x3 = y3
  · simp [h3]
  replace h3 := Classical.not_not.1 h3
  subst h3
  by_cases h4 : ¬ x4 = y4
  · simp [h4]
  replace h4 := Classical.not_not.1 h4
  subst h4
  by_cases h5 : ¬ x5 = y5
  · simp [h5]
  replace h5 := Classical.not_not.1 h5
  subst h5
  by_cases h6 : ¬ x6 = y6
  · simp [h6]
  replace h6 := Classical.not_not.1 h6
  subst h6
  by_cases h7 : ¬ x7 = y7
  · simp [h7]
  replace h7 := Classical.not_not.1 h7
  subst h7
  by_cases h8 : ¬ x8 = y8
  · simp [h8]
  replace h8 := Classical.not_not.1 h8
  subst h8
  by_cases h9 : ¬ x9 = y9
  · simp [h9]
  replace h9 := Classical.not_not.1 h9
  subst h9
  by_cases h10 : ¬ x10 = y10
  · simp [h10, bytes_inj]
  replace h10 := Classical.not_not.1 h10
  subst h10
  by_cases h11 : ¬ x11 = y11
  · simp [h11]
  replace h11 := Classical.not_not.1 h11
  subst h11
  by_cases h12 : ¬ x12 = y12
  · simp [h12]
  replace h12 := Classical.not_not.1 h12
  subst h12
  by_cases h13 : ¬ x13 = y13
  · simp [h13]
  replace h13 := Classical.not_not.1 h13
  subst h13
  by_cases h14 : ¬ x14 = y14
  · simp [h14]
  replace h14 := Classical.not_not.1 h14
  subst h14
  by_cases h15 : ¬ x15 = y15
  · simp [h15]
  replace h15 := Classical.not_not.1 h15
  subst h15
  by_cases h16 : ¬ x16 = y16
  · simp [h16]
  replace h16 := Classical.not_not.1 h16
  subst h16
  by_cases h17 : ¬ x17 = y17
  · simp [h17]
  replace h17 := Classical.not_not.1 h17
  subst h17
  by_cases h18 : ¬ x18 = y18
  · simp [h18]
  replace h18 := Classical.not_not.1 h18
  subst h18
  by_cases h19 : ¬ x19 = y19
  · simp [h19]
  replace h19 := Classical.not_not.1 h19
  subst h19
  by_cases h20 : ¬ x20 = y20
  · simp [h20]
  replace h20 := Classical.not_not.1 h20
  subst h20
  by_cases h21 : ¬ x21 = y21
  · simp [h21]
  replace h21 := Classical.not_not.1 h21
  subst h21
  simp
end Go.Proofs.Ytbdbimnfknaakaa
