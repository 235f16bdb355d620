/- What the row's list of variables gives the walks; how an act comes in. -/
import Derived.Test.YtehhgpnaemffnaaDoorDesk22
import Derived.Test.YtehhgpnaemffnaaDoorRows
import Derived.Stop.LaidErr
import Derived.Lib.LaidTab
import Derived.MakeChecks
namespace Go.Proofs.YtehhgpnaemffnaaDoor
open Go.RowKit Go.ChangeShapes Go.WideShapes Go.ChangeAt

theorem gES : Tryd.prog.globalNamed "strconv.ErrSyntax" = some 3 := by kernel_rfl
theorem gESType : (Tryd.prog.globals[3]?).map (·.type) = some 59 := by kernel_rfl
theorem gER : Tryd.prog.globalNamed "strconv.ErrRange" = some 4 := by kernel_rfl
theorem gERType : (Tryd.prog.globals[4]?).map (·.type) = some 59 := by kernel_rfl
theorem gPowType : (Tryd.prog.globals[5]?).map (·.type) = some 103 := by kernel_rfl
theorem gB : Tryd.prog.globalNamed "math/bits.deBruijn64tab" = some 7 := by kernel_rfl
theorem gBType : (Tryd.prog.globals[7]?).map (·.type) = some 108 := by kernel_rfl
theorem cells101 : Tryd.prog.cellsOf 101 = 1 := by kernel_rfl
theorem cells9 : Tryd.prog.cellsOf 9 = 1 := by kernel_rfl
theorem cells85 : Tryd.prog.cellsOf 85 = 1 := by kernel_rfl
theorem cells103 : Tryd.prog.cellsOf 103 = 20 := by kernel_rfl
theorem star : "*" ++ "errors.errorString" = "*errors.errorString" := by decide
theorem row99 (u : TypeId) (h : Tryd.prog.typeName? 3 u = some "*errors.errorString") : u = 99 :=
  typeName_ptr_named (nm := "errors.errorString") (by rw [star]; kernel_rfl) (by kernel_rfl) (by decide) u (by rw [star]; exact h)
theorem powData : (Rows.laid_internal_strconv_uint64pow10 : DataW Unit) = Lib.tabData .u64 Lib.pow10Tab := by kernel_rfl
theorem env_of {W : World} (hsh : W.ShapedOpen Tryd.prog) (hL : laidMetH Tryd.prog Rows.deskParsesRow.laid W) : Env W := by
  rw [MakeChecks.laidMetH_plain _ _ _ (by kernel_rfl)] at hL
  have h1 := laidMet.tail hL
  have h2 := laidMet.tail h1
  have h3 := laidMet.tail h2
  have h4 := laidMet.tail h3
  have h5 := laidMet.tail h4
  rw [powData] at h2
  refine ⟨splitL.s1_3 W hsh, ?_, ?_, Lib.tabIs_of_head gPow gPowType Tryd.underlying103 Tryd.underlying85 cells85 cells103 h2, ?_⟩
  · obtain ⟨a, s, hv, -, -, -⟩ := laid_sentinel h5 gES gESType Tryd.underlying59 row99 Tryd.underlying99 Tryd.underlying101 rfl rfl Tryd.underlying9 cells101 cells9
    exact ⟨_, _, by have h0 := World.var?_cell gES hv 0; simpa using h0⟩
  · obtain ⟨a, s, hv, -, -, -⟩ := laid_sentinel h4 gER gERType Tryd.underlying59 row99 Tryd.underlying99 Tryd.underlying101 rfl rfl Tryd.underlying9 cells101 cells9
    exact ⟨_, _, by have h0 := World.var?_cell gER hv 0; simpa using h0⟩
  · obtain ⟨ps, ⟨g, t, cs, fuel, p, q, hg, ht, hv, _⟩, _⟩ := h1
    obtain rfl := Option.some.inj (gB.symm.trans hg)
    unfold World.var? at hv
    rw [gB] at hv
    simp only [Option.bind_some] at hv
    split at hv
    · rename_i h7
      have := (Array.getElem?_eq_some_iff.1 h7).1
      omega
    · cases hv

section
variable {H : Type} {enc : TypeId × Value → H} {w : World} {base : Nat} {spare : Nat → Bool} {held : Bool}
theorem i64_of {z : Int} (h : (Lit.int .i64 z).wf = true) : I64 z := by
  simp [Lit.wf, IntKind.min, IntKind.max, IntKind.bits, IntKind.signed] at h
  exact ⟨by omega, by omega⟩
set_option maxRecDepth 100000 in
theorem op_cells {n : Nat} {r : List Value} {y : DataW H × List MemPlace} (h : DataW.trod enc Tryd.prog w base spare held n 25 r = some y) (hr : r.length = 7) : ∃ z0 z1 z2 z3 z4 z5 z6 : Int, r = [.int .i64 z0, .int .i64 z1, .int .i64 z2, .int .i64 z3, .int .i64 z4, .int .i64 z5, .int .i64 z6] ∧ I64 z0 ∧ I64 z1 ∧ I64 z2 ∧ I64 z3 ∧ I64 z4 ∧ I64 z5 ∧ I64 z6 := by
  obtain ⟨xs, m, _, _, _, hxl, hf⟩ := DataW.trod_struct Tryd.underlying25 h
  match r, hr with
  | [a0, a1, a2, a3, a4, a5, a6], _ =>
    have g0 : DataW.trod enc Tryd.prog w base spare held m 23 (([a0, a1, a2, a3, a4, a5, a6].drop 0).take (Tryd.prog.cellsOf 23)) = xs[0]? := hf 0 _ rfl
    have g1 : DataW.trod enc Tryd.prog w base spare held m 3 (([a0, a1, a2, a3, a4, a5, a6].drop 1).take (Tryd.prog.cellsOf 3)) = xs[1]? := hf 1 _ rfl
    have g2 : DataW.trod enc Tryd.prog w base spare held m 3 (([a0, a1, a2, a3, a4, a5, a6].drop 2).take (Tryd.prog.cellsOf 3)) = xs[2]? := hf 2 _ rfl
    have g3 : DataW.trod enc Tryd.prog w base spare held m 3 (([a0, a1, a2, a3, a4, a5, a6].drop 3).take (Tryd.prog.cellsOf 3)) = xs[3]? := hf 3 _ rfl
    have g4 : DataW.trod enc Tryd.prog w base spare held m 3 (([a0, a1, a2, a3, a4, a5, a6].drop 4).take (Tryd.prog.cellsOf 3)) = xs[4]? := hf 4 _ rfl
    have g5 : DataW.trod enc Tryd.prog w base spare held m 3 (([a0, a1, a2, a3, a4, a5, a6].drop 5).take (Tryd.prog.cellsOf 3)) = xs[5]? := hf 5 _ rfl
    have g6 : DataW.trod enc Tryd.prog w base spare held m 3 (([a0, a1, a2, a3, a4, a5, a6].drop 6).take (Tryd.prog.cellsOf 3)) = xs[6]? := hf 6 _ rfl
    have hl : xs.length = 7 := hxl
    rw [List.getElem?_eq_getElem (by omega)] at g0 g1 g2 g3 g4 g5 g6
    have e0c : Tryd.prog.cellsOf 23 = 1 := by kernel_rfl
    rw [e0c] at g0
    have e1c : Tryd.prog.cellsOf 3 = 1 := by kernel_rfl
    rw [e1c] at g1 g2 g3 g4 g5 g6
    simp only [List.drop_zero, List.drop_succ_cons, List.take_succ_cons, List.take_zero] at g0 g1 g2 g3 g4 g5 g6
    obtain ⟨z0, e0, _, f0⟩ := DataW.trod_int Tryd.underlying23 g0
    obtain ⟨z1, e1, _, f1⟩ := DataW.trod_int Tryd.underlying3 g1
    obtain ⟨z2, e2, _, f2⟩ := DataW.trod_int Tryd.underlying3 g2
    obtain ⟨z3, e3, _, f3⟩ := DataW.trod_int Tryd.underlying3 g3
    obtain ⟨z4, e4, _, f4⟩ := DataW.trod_int Tryd.underlying3 g4
    obtain ⟨z5, e5, _, f5⟩ := DataW.trod_int Tryd.underlying3 g5
    obtain ⟨z6, e6, _, f6⟩ := DataW.trod_int Tryd.underlying3 g6
    simp at e0 e1 e2 e3 e4 e5 e6
    subst e0 e1 e2 e3 e4 e5 e6
    exact ⟨z0, z1, z2, z3, z4, z5, z6, rfl, i64_of f0, i64_of f1, i64_of f2, i64_of f3, i64_of f4, i64_of f5, i64_of f6⟩
set_option maxRecDepth 100000 in
theorem act_cells {n : Nat} {r : List Value} {y : DataW H × List MemPlace} (h : DataW.trod enc Tryd.prog w base spare held n 27 r = some y) (hr : r.length = 11) :
    ∃ k node n client ok h i nn kk v t : Int, r = ac k node n client ok h i nn kk v t ∧ I64 k ∧ I64 node ∧ I64 n ∧ I64 client ∧ I64 ok ∧ I64 h ∧ I64 i ∧ I64 nn ∧ I64 kk ∧ I64 v ∧ I64 t := by
  obtain ⟨xs, m, _, _, _, hxl, hf⟩ := DataW.trod_struct Tryd.underlying27 h
  match r, hr with
  | [a0, a1, a2, a3, a4, a5, a6, a7, a8, a9, a10], _ =>
    have g0 : DataW.trod enc Tryd.prog w base spare held m 22 (([a0, a1, a2, a3, a4, a5, a6, a7, a8, a9, a10].drop 0).take (Tryd.prog.cellsOf 22)) = xs[0]? := hf 0 _ rfl
    have g1 : DataW.trod enc Tryd.prog w base spare held m 3 (([a0, a1, a2, a3, a4, a5, a6, a7, a8, a9, a10].drop 1).take (Tryd.prog.cellsOf 3)) = xs[1]? := hf 1 _ rfl
    have g2 : DataW.trod enc Tryd.prog w base spare held m 3 (([a0, a1, a2, a3, a4, a5, a6, a7, a8, a9, a10].drop 2).take (Tryd.prog.cellsOf 3)) = xs[2]? := hf 2 _ rfl
    have g3 : DataW.trod enc Tryd.prog w base spare held m 3 (([a0, a1, a2, a3, a4, a5, a6, a7, a8, a9, a10].drop 3).take (Tryd.prog.cellsOf 3)) = xs[3]? := hf 3 _ rfl
    have g4 : DataW.trod enc Tryd.prog w base spare held m 25 (([a0, a1, a2, a3, a4, a5, a6, a7, a8, a9, a10].drop 4).take (Tryd.prog.cellsOf 25)) = xs[4]? := hf 4 _ rfl
    have hl : xs.length = 5 := hxl
    rw [List.getElem?_eq_getElem (by omega)] at g0 g1 g2 g3 g4
    have e0c : Tryd.prog.cellsOf 22 = 1 := by kernel_rfl
    rw [e0c] at g0
    have e1c : Tryd.prog.cellsOf 3 = 1 := by kernel_rfl
    rw [e1c] at g1 g2 g3
    have e2c : Tryd.prog.cellsOf 25 = 7 := by kernel_rfl
    rw [e2c] at g4
    simp only [List.drop_zero, List.drop_succ_cons, List.take_succ_cons, List.take_zero] at g0 g1 g2 g3 g4
    obtain ⟨z0, e0, _, f0⟩ := DataW.trod_int Tryd.underlying22 g0
    obtain ⟨z1, e1, _, f1⟩ := DataW.trod_int Tryd.underlying3 g1
    obtain ⟨z2, e2, _, f2⟩ := DataW.trod_int Tryd.underlying3 g2
    obtain ⟨z3, e3, _, f3⟩ := DataW.trod_int Tryd.underlying3 g3
    obtain ⟨y0, y1, y2, y3, y4, y5, y6, e4, p0, p1, p2, p3, p4, p5, p6⟩ := op_cells g4 rfl
    simp at e0 e1 e2 e3 e4
    obtain ⟨q0, q1, q2, q3, q4, q5, q6⟩ := e4
    subst e0 e1 e2 e3 q0 q1 q2 q3 q4 q5 q6
    exact ⟨z0, z1, z2, z3, y0, y1, y2, y3, y4, y5, y6, rfl, i64_of f0, i64_of f1, i64_of f2, i64_of f3, p0, p1, p2, p3, p4, p5, p6⟩
theorem openAct {v : Value} {d : DataW H} {p : List MemPlace} {cs : Array Value} (hv : v = .agg cs) (hs : cs.size = Tryd.prog.cellsOf 27) (h : DataW.Trod enc Tryd.prog w base spare held 27 v d p) :
    ∃ k node n client ok h i nn kk v' t : Int, v = .agg (ac k node n client ok h i nn kk v' t).toArray ∧ I64 k ∧ I64 node ∧ I64 n ∧ I64 client ∧ I64 ok ∧ I64 h ∧ I64 i ∧ I64 nn ∧ I64 kk ∧ I64 v' ∧ I64 t := by
  obtain ⟨m, hm⟩ := h
  subst hv
  have e : Tryd.prog.cellsOf 27 = 11 := by kernel_rfl
  obtain ⟨k, node, n, client, ok, h, i, nn, kk, v', t, hr, hw⟩ := act_cells (r := cs.toList) hm (by rw [Array.length_toList, hs, e])
  exact ⟨k, node, n, client, ok, h, i, nn, kk, v', t, by rw [← hr], hw⟩
end
end Go.Proofs.YtehhgpnaemffnaaDoor
