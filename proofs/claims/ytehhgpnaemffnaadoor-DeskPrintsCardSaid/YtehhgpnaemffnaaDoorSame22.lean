/- Are two acts the same? The model's own '==' and '!=' at these structs. -/
import Derived.Test.YtehhgpnaemffnaaDoorGood22
import Derived.Laws.StructEq
namespace Go.Proofs.YtehhgpnaemffnaaDoor
open Go.RowKit
set_option maxRecDepth 100000 in
set_option maxHeartbeats 1600000 in
theorem act_neq (x0 x1 x2 x3 x4 x5 x6 x7 x8 x9 x10 y0 y1 y2 y3 y4 y5 y6 y7 y8 y9 y10 : Int) (w : World) : Sem.run Tryd.prog (binOp .neq 27 (.agg (ac x0 x1 x2 x3 x4 x5 x6 x7 x8 x9 x10).toArray) (.agg (ac y0 y1 y2 y3 y4 y5 y6 y7 y8 y9 y10).toArray)) w = .ok (.bool (!decide (x0 = y0 ∧ x1 = y1 ∧ x2 = y2 ∧ x3 = y3 ∧ x4 = y4 ∧ x5 = y5 ∧ x6 = y6 ∧ x7 = y7 ∧ x8 = y8 ∧ x9 = y9 ∧ x10 = y10))) w := by
  simp only [ac]
  have hS : Tryd.prog.underlying 27 = some (.struct (Tryd.prog.fieldsOf 27)) := by kernel_rfl
  have hp : Tryd.prog.stoodInHeld 27 = false := by kernel_rfl
  rw [run_neq_struct, show (10000 : Nat) = 9999 + 1 from rfl, run_equalIn_agg w 9999 _ _ _ hS hp]
  simp only [Program.fieldsOf, Tryd.underlying27]
  clear hS hp
  go_simp
  by_cases h0 : ¬ x0 = y0
  · simp [h0]
  replace h0 := Classical.not_not.1 h0
  subst h0
  by_cases h1 : ¬ x1 = y1
  · simp [h1]
  replace h1 := Classical.not_not.1 h1
  subst h1
  by_cases h2 : ¬ x2 = y2
  · simp [h2]
  replace h2 := Classical.not_not.1 h2
  subst h2
  by_cases h3 : ¬ x3 = y3
  · simp [h3]
  replace h3 := Classical.not_not.1 h3
  subst h3
  by_cases h4 : ¬ x4 = y4
  · simp [h4]
  replace h4 := Classical.not_not.1 h4
  subst h4
  by_cases h5 : ¬ x5 = y5
  · simp [h5]
  replace h5 := Classical.not_not.1 h5
  subst h5
  by_cases h6 : ¬ x6 = y6
  · simp [h6]
  replace h6 := Classical.not_not.1 h6
  subst h6
  by_cases h7 : ¬ x7 = y7
  · simp [h7]
  replace h7 := Classical.not_not.1 h7
  subst h7
  by_cases h8 : ¬ x8 = y8
  · simp [h8]
  replace h8 := Classical.not_not.1 h8
  subst h8
  by_cases h9 : ¬ x9 = y9
  · simp [h9]
  replace h9 := Classical.not_not.1 h9
  subst h9
  by_cases h10 : ¬ x10 = y10
  · simp [h10]
  replace h10 := Classical.not_not.1 h10
  subst h10
  simp
set_option maxRecDepth 100000 in
set_option maxHeartbeats 1600000 in
theorem act_eql (x0 x1 x2 x3 x4 x5 x6 x7 x8 x9 x10 y0 y1 y2 y3 y4 y5 y6 y7 y8 y9 y10 : Int) (w : World) : Sem.run Tryd.prog (binOp .eql 27 (.agg (ac x0 x1 x2 x3 x4 x5 x6 x7 x8 x9 x10).toArray) (.agg (ac y0 y1 y2 y3 y4 y5 y6 y7 y8 y9 y10).toArray)) w = .ok (.bool (decide (x0 = y0 ∧ x1 = y1 ∧ x2 = y2 ∧ x3 = y3 ∧ x4 = y4 ∧ x5 = y5 ∧ x6 = y6 ∧ x7 = y7 ∧ x8 = y8 ∧ x9 = y9 ∧ x10 = y10))) w := by
  simp only [ac]
  have hS : Tryd.prog.underlying 27 = some (.struct (Tryd.prog.fieldsOf 27)) := by kernel_rfl
  have hp : Tryd.prog.stoodInHeld 27 = false := by kernel_rfl
  rw [run_eql_struct, show (10000 : Nat) = 9999 + 1 from rfl, run_equalIn_agg w 9999 _ _ _ hS hp]
  simp only [Program.fieldsOf, Tryd.underlying27]
  clear hS hp
  go_simp
  by_cases h0 : ¬ x0 = y0
  · simp [h0]
  replace h0 := Classical.not_not.1 h0
  subst h0
  by_cases h1 : ¬ x1 = y1
  · simp [h1]
  replace h1 := Classical.not_not.1 h1
  subst h1
  by_cases h2 : ¬ x2 = y2
  · simp [h2]
  replace h2 := Classical.not_not.1 h2
  subst h2
  by_cases h3 : ¬ x3 = y3
  · simp [h3]
  replace h3 := Classical.not_not.1 h3
  subst h3
  by_cases h4 : ¬ x4 = y4
  · simp [h4]
  replace h4 := Classical.not_not.1 h4
  subst h4
  by_cases h5 : ¬ x5 = y5
  · simp [h5]
  replace h5 := Classical.not_not.1 h5
  subst h5
  by_cases h6 : ¬ x6 = y6
  · simp [h6]
  replace h6 := Classical.not_not.1 h6
  subst h6
  by_cases h7 : ¬ x7 = y7
  · simp [h7]
  replace h7 := Classical.not_not.1 h7
  subst h7
  by_cases h8 : ¬ x8 = y8
  · simp [h8]
  replace h8 := Classical.not_not.1 h8
  subst h8
  by_cases h9 : ¬ x9 = y9
  · simp [h9]
  replace h9 := Classical.not_not.1 h9
  subst h9
  by_cases h10 : ¬ x10 = y10
  · simp [h10]
  replace h10 := Classical.not_not.1 h10
  subst h10
  simp
end Go.Proofs.YtehhgpnaemffnaaDoor
