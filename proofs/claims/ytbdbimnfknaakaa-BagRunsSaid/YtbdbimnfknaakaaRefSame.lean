/- The document's Same. -/
import Derived.Test.YtbdbimnfknaakaaBagSame
namespace Go.Proofs.Ytbdbimnfknaakaa
open Go.RowKit

set_option maxRecDepth 100000 in
theorem op_eq (x0 x1 x2 x3 x4 x5 x6 y0 y1 y2 y3 y4 y5 y6 : Int) (w : World) : Sem.run Try.prog (binOp .eql 43 (.agg #[.int .i64 x0, .int .i64 x1, .int .i64 x2, .int .i64 x3, .int .i64 x4, .int .i64 x5, .int .i64 x6]) (.agg #[.int .i64 y0, .int .i64 y1, .int .i64 y2, .int .i64 y3, .int .i64 y4, .int .i64 y5, .int .i64 y6])) w = .ok (.bool (decide ([x0, x1, x2, x3, x4, x5, x6] = [y0, y1, y2, y3, y4, y5, y6]))) w := by
  have hS : Try.prog.underlying 43 = some (.struct (Try.prog.fieldsOf 43)) := by kernel_rfl
  have hp : Try.prog.stoodInHeld 43 = false := by kernel_rfl
  rw [run_eql_struct, show (10000 : Nat) = 9999 + 1 from rfl, run_equalIn_agg w 9999 _ _ _ hS hp]
  simp only [Program.fieldsOf, Try.underlying43]
  clear hS hp
  go_simp
  by_cases h0 : ¬ x0 = y0
  · simp [h0]
  replace h0 := Classical.not_not.1 h0
  subst h0
  by_cases h1 : ¬ x1 = y1
  · simp [h1]
  replace h1 := Classical.not_not.1 h1
  subst h1
  by_cases h2 : ¬ x2 = y2
  · simp [h2]
  replace h2 := Classical.not_not.1 h2
  subst h2
  by_cases h3 : ¬ x3 = y3
  · simp [h3]
  replace h3 := Classical.not_not.1 h3
  subst h3
  by_cases h4 : ¬ x4 = y4
  · simp [h4]
  replace h4 := Classical.not_not.1 h4
  subst h4
  by_cases h5 : ¬ x5 = y5
  · simp [h5]
  replace h5 := Classical.not_not.1 h5
  subst h5
  by_cases h6 : ¬ x6 = y6
  · simp [h6]
  replace h6 := Classical.not_not.1 h6
  subst h6
  simp
set_option maxRecDepth 100000 in
theorem re_eq (x0 x1 y0 y1 : Int) (w : World) : Sem.run Try.prog (binOp .eql 45 (.agg #[.int .i64 x0, .int .i64 x1]) (.agg #[.int .i64 y0, .int .i64 y1])) w = .ok (.bool (decide ([x0, x1] = [y0, y1]))) w := by
  have hS : Try.prog.underlying 45 = some (.struct (Try.prog.fieldsOf 45)) := by kernel_rfl
  have hp : Try.prog.stoodInHeld 45 = false := by kernel_rfl
  rw [run_eql_struct, show (10000 : Nat) = 9999 + 1 from rfl, run_equalIn_agg w 9999 _ _ _ hS hp]
  simp only [Program.fieldsOf, Try.underlying45]
  clear hS hp
  go_simp
  by_cases h0 : ¬ x0 = y0
  · simp [h0]
  replace h0 := Classical.not_not.1 h0
  subst h0
  by_cases h1 : ¬ x1 = y1
  · simp [h1]
  replace h1 := Classical.not_not.1 h1
  subst h1
  simp
attribute [-go_sem] loadCellsFrom storeCells
attribute [local go_sem] storeCells_one Mt.cells_len Mt.get0 Mt.get1 Mt.get2 Mt.get3 Mt.get4 Mt.get5 Mt.get6 Mt.get7 Mt.get8 Mt.get9 Mt.get10 Mt.get11 Mt.get12 Mt.get13 Mt.get14 Mt.get15 Mt.get16 Mt.get17 Mt.get18 Mt.get19 Mt.get20 Mt.get21 Mt.get22
set_option maxHeartbeats 12800000 in
theorem refSame_any (p q : Mt) (B : Nat) (w : World) (hp : EsAt w B p.v p.es) (hq : EsAt w B q.v q.es) (hB : B ≤ w.heap.size) (hn : p.es.length ≤ 1000000) :
    Calls Try.prog 18 #[.agg p.cells.toArray, .agg q.cells.toArray] w fun e w' => e = .returned (.bool (decide (p.m = q.m))) ∧ Below w.heap.size w w' := by
  obtain ⟨r, hr⟩ : ∃ r, decide (p.m = q.m) = r := ⟨_, rfl⟩
  rw [hr]
  rw [ms_eq] at hr
  have HR := Lib.hid hr; clear hr
  have hk1 := (Blk.new w 47 p.cells).alloc (.cells q.cells.toArray 47)
  have hk2 := Blk.new (w.alloc (.cells p.cells.toArray 47)) 47 q.cells
  simp only [World.size_alloc] at hk2
  have hb0 := ((Below.refl w.heap.size w).alloc (Nat.le_refl _) (.cells p.cells.toArray 47)).alloc (by simp) (.cells q.cells.toArray 47)
  have hl1 := hk1.loadOff (P := Try.prog) 13 7 [.int .i64 p.h.o1, .int .i64 p.h.o2, .int .i64 p.h.o3, .int .i64 p.h.o4, .int .i64 p.h.o5, .int .i64 p.h.o6, .int .i64 p.h.o7] rfl rfl
  have hl2 := hk1.loadOff (P := Try.prog) 20 2 [.int .i64 p.h.r1, .int .i64 p.h.r2] rfl rfl
  have hl3 := hk2.loadOff (P := Try.prog) 13 7 [.int .i64 q.h.o1, .int .i64 q.h.o2, .int .i64 q.h.o3, .int .i64 q.h.o4, .int .i64 q.h.o5, .int .i64 q.h.o6, .int .i64 q.h.o7] rfl rfl
  have hl4 := hk2.loadOff (P := Try.prog) 20 2 [.int .i64 q.h.r1, .int .i64 q.h.r2] rfl rfl
  have K := Lib.hid (And.intro hb0 (And.intro (hp.below hb0 hB) (hq.below hb0 hB)))
  have HO := Lib.hid (op_eq p.h.o1 p.h.o2 p.h.o3 p.h.o4 p.h.o5 p.h.o6 p.h.o7 q.h.o1 q.h.o2 q.h.o3 q.h.o4 q.h.o5 q.h.o6 q.h.o7)
  have HE := Lib.hid (re_eq p.h.r1 p.h.r2 q.h.r1 q.h.r2)
  clear hk1 hk2 hb0 hp hq
  by_cases h0 : ¬ (p.h.k = q.h.k)
  · have f0 : (p.h.k == q.h.k) = false := by simp [h0]
    have hrf : r = false := by rw [← HR.out, decide_eq_false (fun hh => h0 (by rw [hh]))]; rfl
    subst hrf
    have HN := Lib.hid h0; clear h0
    go_enter Try.func18, Try.ntmps18
    go_wp2_with fail
    go_ret
    exact ⟨rfl, K.out.1⟩
  replace h0 := Classical.not_not.1 h0
  have f0 : (p.h.k == q.h.k) = true := by simp [h0]
  have H0 := Lib.hid h0; clear h0
  by_cases h1 : ¬ (p.h.f = q.h.f)
  · have f1 : (p.h.f == q.h.f) = false := by simp [h1]
    have hrf : r = false := by rw [← HR.out, decide_eq_false (fun hh => h1 (by rw [hh]))]; rfl
    subst hrf
    have HN := Lib.hid h1; clear h1
    go_enter Try.func18, Try.ntmps18
    go_wp2_with fail
    go_ret
    exact ⟨rfl, K.out.1⟩
  replace h1 := Classical.not_not.1 h1
  have f1 : (p.h.f == q.h.f) = true := by simp [h1]
  have H1 := Lib.hid h1; clear h1
  by_cases h2 : ¬ (p.h.t = q.h.t)
  · have f2 : (p.h.t == q.h.t) = false := by simp [h2]
    have hrf : r = false := by rw [← HR.out, decide_eq_false (fun hh => h2 (by rw [hh]))]; rfl
    subst hrf
    have HN := Lib.hid h2; clear h2
    go_enter Try.func18, Try.ntmps18
    go_wp2_with fail
    go_ret
    exact ⟨rfl, K.out.1⟩
  replace h2 := Classical.not_not.1 h2
  have f2 : (p.h.t == q.h.t) = true := by simp [h2]
  have H2 := Lib.hid h2; clear h2
  by_cases h3 : ¬ (p.h.v = q.h.v)
  · have f3 : (p.h.v == q.h.v) = false := by simp [h3]
    have hrf : r = false := by rw [← HR.out, decide_eq_false (fun hh => h3 (by rw [hh]))]; rfl
    subst hrf
    have HN := Lib.hid h3; clear h3
    go_enter Try.func18, Try.ntmps18
    go_wp2_with fail
    go_ret
    exact ⟨rfl, K.out.1⟩
  replace h3 := Classical.not_not.1 h3
  have f3 : (p.h.v == q.h.v) = true := by simp [h3]
  have H3 := Lib.hid h3; clear h3
  by_cases h4 : ¬ (p.h.n = q.h.n)
  · have f4 : (p.h.n == q.h.n) = false := by simp [h4]
    have hrf : r = false := by rw [← HR.out, decide_eq_false (fun hh => h4 (by rw [hh]))]; rfl
    subst hrf
    have HN := Lib.hid h4; clear h4
    go_enter Try.func18, Try.ntmps18
    go_wp2_with fail
    go_ret
    exact ⟨rfl, K.out.1⟩
  replace h4 := Classical.not_not.1 h4
  have f4 : (p.h.n == q.h.n) = true := by simp [h4]
  have H4 := Lib.hid h4; clear h4
  by_cases h5 : ¬ (p.h.u = q.h.u)
  · have f5 : (p.h.u == q.h.u) = false := by simp [h5]
    have hrf : r = false := by rw [← HR.out, decide_eq_false (fun hh => h5 (by rw [hh]))]; rfl
    subst hrf
    have HN := Lib.hid h5; clear h5
    go_enter Try.func18, Try.ntmps18
    go_wp2_with fail
    go_ret
    exact ⟨rfl, K.out.1⟩
  replace h5 := Classical.not_not.1 h5
  have f5 : (p.h.u == q.h.u) = true := by simp [h5]
  have H5 := Lib.hid h5; clear h5
  by_cases h6 : ¬ (p.h.b = q.h.b)
  · have f6 : (p.h.b == q.h.b) = false := by simp [h6]
    have hrf : r = false := by rw [← HR.out, decide_eq_false (fun hh => h6 (by rw [hh]))]; rfl
    subst hrf
    have HN := Lib.hid h6; clear h6
    go_enter Try.func18, Try.ntmps18
    go_wp2_with fail
    go_ret
    exact ⟨rfl, K.out.1⟩
  replace h6 := Classical.not_not.1 h6
  have f6 : (p.h.b == q.h.b) = true := by simp [h6]
  have H6 := Lib.hid h6; clear h6
  by_cases h7 : ¬ (p.h.c = q.h.c)
  · have f7 : (p.h.c == q.h.c) = false := by simp [h7]
    have hrf : r = false := by rw [← HR.out, decide_eq_false (fun hh => h7 (by rw [hh]))]; rfl
    subst hrf
    have HN := Lib.hid h7; clear h7
    go_enter Try.func18, Try.ntmps18
    go_wp2_with fail
    go_ret
    exact ⟨rfl, K.out.1⟩
  replace h7 := Classical.not_not.1 h7
  have f7 : (p.h.c == q.h.c) = true := by simp [h7]
  have H7 := Lib.hid h7; clear h7
  by_cases h8 : ¬ (p.h.o = q.h.o)
  · have f8 : (p.h.o == q.h.o) = false := by simp [h8]
    have hrf : r = false := by rw [← HR.out, decide_eq_false (fun hh => h8 (by rw [hh]))]; rfl
    subst hrf
    have HN := Lib.hid h8; clear h8
    go_enter Try.func18, Try.ntmps18
    go_wp2_with fail
    go_ret
    exact ⟨rfl, K.out.1⟩
  replace h8 := Classical.not_not.1 h8
  have f8 : (p.h.o == q.h.o) = true := by simp [h8]
  have H8 := Lib.hid h8; clear h8
  by_cases h9 : ¬ (p.h.a = q.h.a)
  · have f9 : (p.h.a == q.h.a) = false := by simp [h9]
    have hrf : r = false := by rw [← HR.out, decide_eq_false (fun hh => h9 (by rw [hh]))]; rfl
    subst hrf
    have HN := Lib.hid h9; clear h9
    go_enter Try.func18, Try.ntmps18
    go_wp2_with fail
    go_ret
    exact ⟨rfl, K.out.1⟩
  replace h9 := Classical.not_not.1 h9
  have f9 : (p.h.a == q.h.a) = true := by simp [h9]
  have H9 := Lib.hid h9; clear h9
  by_cases h10 : ¬ (p.h.d = q.h.d)
  · skip
    have f10 : (p.h.d.toList == q.h.d.toList) = false := by
      rw [beq_eq_false_iff_ne]
      exact fun hh => h10 ((bytes_inj _ _).1 hh)
    have f10b : ¬ p.h.d.toList = q.h.d.toList := fun hh => h10 ((bytes_inj _ _).1 hh)
    have hrf : r = false := by rw [← HR.out, decide_eq_false (fun hh => h10 (by rw [hh]))]; rfl
    subst hrf
    have HN := Lib.hid h10; clear h10
    go_enter Try.func18, Try.ntmps18
    go_wp2_with fail
    go_ret
    exact ⟨rfl, K.out.1⟩
  replace h10 := Classical.not_not.1 h10
  have f10 : (p.h.d.toList == q.h.d.toList) = true := by rw [h10]; simp
  have f10b : p.h.d.toList = q.h.d.toList := by rw [h10]
  have H10 := Lib.hid h10; clear h10
  by_cases h11 : ¬ (p.h.s = q.h.s)
  · have f11 : (p.h.s == q.h.s) = false := by simp [h11]
    have hrf : r = false := by rw [← HR.out, decide_eq_false (fun hh => h11 (by rw [hh]))]; rfl
    subst hrf
    have HN := Lib.hid h11; clear h11
    go_enter Try.func18, Try.ntmps18
    go_wp2_with fail
    go_ret
    exact ⟨rfl, K.out.1⟩
  replace h11 := Classical.not_not.1 h11
  have f11 : (p.h.s == q.h.s) = true := by simp [h11]
  have H11 := Lib.hid h11; clear h11
  by_cases h12 : ¬ ([p.h.o1, p.h.o2, p.h.o3, p.h.o4, p.h.o5, p.h.o6, p.h.o7] = [q.h.o1, q.h.o2, q.h.o3, q.h.o4, q.h.o5, q.h.o6, q.h.o7])
  · have f12 : ∀ w, Sem.run Try.prog (binOp .eql 43 (.agg #[.int .i64 p.h.o1, .int .i64 p.h.o2, .int .i64 p.h.o3, .int .i64 p.h.o4, .int .i64 p.h.o5, .int .i64 p.h.o6, .int .i64 p.h.o7]) (.agg #[.int .i64 q.h.o1, .int .i64 q.h.o2, .int .i64 q.h.o3, .int .i64 q.h.o4, .int .i64 q.h.o5, .int .i64 q.h.o6, .int .i64 q.h.o7])) w = .ok (.bool false) w := fun w => by rw [HO.out, decide_eq_false h12]
    have hrf : r = false := by rw [← HR.out, decide_eq_false (fun hh => h12 (by rw [hh]))]; rfl
    subst hrf
    have HN := Lib.hid h12; clear h12
    go_enter Try.func18, Try.ntmps18
    go_wp2_with fail
    go_ret
    exact ⟨rfl, K.out.1⟩
  replace h12 := Classical.not_not.1 h12
  have f12 : ∀ w, Sem.run Try.prog (binOp .eql 43 (.agg #[.int .i64 p.h.o1, .int .i64 p.h.o2, .int .i64 p.h.o3, .int .i64 p.h.o4, .int .i64 p.h.o5, .int .i64 p.h.o6, .int .i64 p.h.o7]) (.agg #[.int .i64 q.h.o1, .int .i64 q.h.o2, .int .i64 q.h.o3, .int .i64 q.h.o4, .int .i64 q.h.o5, .int .i64 q.h.o6, .int .i64 q.h.o7])) w = .ok (.bool true) w := fun w => by rw [HO.out, decide_eq_true h12]
  have H12 := Lib.hid h12; clear h12
  by_cases h13 : ¬ ([p.h.r1, p.h.r2] = [q.h.r1, q.h.r2])
  · have f13 : ∀ w, Sem.run Try.prog (binOp .eql 45 (.agg #[.int .i64 p.h.r1, .int .i64 p.h.r2]) (.agg #[.int .i64 q.h.r1, .int .i64 q.h.r2])) w = .ok (.bool false) w := fun w => by rw [HE.out, decide_eq_false h13]
    have hrf : r = false := by rw [← HR.out, decide_eq_false (fun hh => h13 (by rw [hh]))]; rfl
    subst hrf
    have HN := Lib.hid h13; clear h13
    go_enter Try.func18, Try.ntmps18
    go_wp2_with fail
    go_ret
    exact ⟨rfl, K.out.1⟩
  replace h13 := Classical.not_not.1 h13
  have f13 : ∀ w, Sem.run Try.prog (binOp .eql 45 (.agg #[.int .i64 p.h.r1, .int .i64 p.h.r2]) (.agg #[.int .i64 q.h.r1, .int .i64 q.h.r2])) w = .ok (.bool true) w := fun w => by rw [HE.out, decide_eq_true h13]
  have H13 := Lib.hid h13; clear h13
  by_cases h14 : ¬ (p.h.ok = q.h.ok)
  · have f14 : (p.h.ok == q.h.ok) = false := by simp [h14]
    have hrf : r = false := by rw [← HR.out, decide_eq_false (fun hh => h14 (by rw [hh]))]; rfl
    subst hrf
    have HN := Lib.hid h14; clear h14
    go_enter Try.func18, Try.ntmps18
    go_wp2_with fail
    go_ret
    exact ⟨rfl, K.out.1⟩
  replace h14 := Classical.not_not.1 h14
  have f14 : (p.h.ok == q.h.ok) = true := by simp [h14]
  have H14 := Lib.hid h14; clear h14
  have hh : p.h = q.h := by
    obtain ⟨hd, v, es⟩ := p
    obtain ⟨hd', v', es'⟩ := q
    obtain ⟨k, f, t, v, n, u, b, c, o, a, d, s, o1, o2, o3, o4, o5, o6, o7, r1, r2, ok⟩ := hd
    obtain ⟨k', f', t', v', n', u', b', c', o', a', d', s', o1', o2', o3', o4', o5', o6', o7', r1', r2', ok'⟩ := hd'
    have hop := H12.out
    have hre := H13.out
    simp only [List.cons.injEq, and_true] at hop hre
    simp only [Hd.mk.injEq]
    exact ⟨H0.out, H1.out, H2.out, H3.out, H4.out, H5.out, H6.out, H7.out, H8.out, H9.out, H10.out, H11.out, hop.1, hop.2.1, hop.2.2.1, hop.2.2.2.1, hop.2.2.2.2.1, hop.2.2.2.2.2.1, hop.2.2.2.2.2.2, hre.1, hre.2, H14.out⟩
  have hrf : r = decide (p.es = q.es) := by rw [← HR.out, decide_eq_true hh]; rfl
  have HRR := Lib.hid hrf
  clear hrf hh
  go_enter Try.func18, Try.ntmps18
  go_wp2_with fail
  refine (refEntries_any p.v q.v p.es q.es B _ K.out.2.1 K.out.2.2 hn).mono ?_
  rintro e w9 ⟨rfl, n9, rfl⟩
  rw [← HRR.out]
  go_wp2_with fail
  go_ret
  exact ⟨rfl, below_drewN K.out.1 _⟩
end Go.Proofs.Ytbdbimnfknaakaa
