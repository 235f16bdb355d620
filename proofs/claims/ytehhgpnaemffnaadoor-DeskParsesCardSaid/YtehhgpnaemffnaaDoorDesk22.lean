/- The two laws' walks. -/
import Derived.Test.YtehhgpnaemffnaaDoorRead22
namespace Go.Proofs.YtehhgpnaemffnaaDoor
open Go.RowKit
attribute [-go_sem] loadCellsFrom storeCells run_neq_struct run_eql_struct
attribute [local go_sem] storeCells_one

theorem Good.fit {s : ByteArray} {k node n client ok h i nn kk v t : Int} (hg : Good s k node n client ok h i nn kk v t) : I64 k ∧ I64 node ∧ I64 n ∧ I64 client ∧ I64 ok ∧ I64 h ∧ I64 i ∧ I64 nn ∧ I64 kk ∧ I64 v ∧ I64 t := hg.2.1.fit hg.kind
section
variable {w : World}
set_option linter.unusedVariables false in
set_option maxRecDepth 20000 in
set_option maxHeartbeats 3200000 in
theorem deskParses_walk (he : Env w) (s : ByteArray) :
    Calls Tryd.prog 3 #[.string s] w fun e w' => e = .returned (.bool true) ∧ Below w.heap.size w w' := by
  by_cases hlong : 262144 < s.size
  · have g1 : (262144 : Int) < (s.size : Int) := by omega
    clear he hlong
    go_enter Tryd.func3, Tryd.ntmps3
    go_wp2_with fail
    go_ret
    exact ⟨rfl, Below.refl _ _⟩
  have g1 : ¬ (262144 : Int) < (s.size : Int) := by omega
  have HP := Lib.hid (parse_any (w := w) he s)
  have HE := Lib.hid he
  clear he hlong
  go_enter Tryd.func3, Tryd.ntmps3
  go_wp2_with fail
  refine HP.out.mono ?_
  rintro e w1 ⟨k1, node1, n1, client1, ok1, h1, i1, nn1, kk1, v1, t1, c, rfl, hpr, hb1⟩
  simp only [ac]
  have hkA := Blk.new w1 27 (ac 0 0 0 0 0 0 0 0 0 0 0)
  have hstA := hkA.store (P := Tryd.prog) (cs' := ac k1 node1 n1 client1 ok1 h1 i1 nn1 kk1 v1 t1) rfl (ac_one k1 node1 n1 client1 ok1 h1 i1 nn1 kk1 v1 t1)
  have hkA2 := hkA.set (ac k1 node1 n1 client1 ok1 h1 i1 nn1 kk1 v1 t1)
  have hbA := below_setRow ((Below.refl w1.heap.size w1).alloc (Nat.le_refl _) (.cells (ac 0 0 0 0 0 0 0 0 0 0 0).toArray 27)) (Nat.le_refl _) (ac k1 node1 n1 client1 ok1 h1 i1 nn1 kk1 v1 t1).toArray
  obtain ⟨w2, hwA⟩ : ∃ y, (w1.alloc (.cells (ac 0 0 0 0 0 0 0 0 0 0 0).toArray 27)).setRow w1.heap.size (ac k1 node1 n1 client1 ok1 h1 i1 nn1 kk1 v1 t1).toArray = y := ⟨_, rfl⟩
  rw [hwA] at hstA hkA2 hbA
  simp only [ac] at hstA
  clear hwA
  have hb02 := hb1.trans (hbA.mono hb1.size)
  have HPR := Lib.hid (parseR_any (w := w2) s (HE.out.below hb02 HE.out.big))
  have H2 := Lib.hid (And.intro hkA2 (And.intro hb02 hpr.told))
  clear hb1 hkA hkA2 hbA hpr hb02
  go_wp2_with fail
  refine HPR.out.mono ?_
  rintro e w3 ⟨k2, node2, n2, client2, ok2, h2, i2, nn2, kk2, v2, t2, c2, rfl, hpr, hb3⟩
  obtain ⟨ec, e0, e1, e2, e3, e4, e5, e6, e7, e8, e9, e10⟩ := Told.same H2.out.2.2 hpr.told
  rw [ec, e0, e1, e2, e3, e4, e5, e6, e7, e8, e9, e10]
  clear ec e0 e1 e2 e3 e4 e5 e6 e7 e8 e9 e10 hpr
  simp only [ac]
  have hkB := Blk.new w3 27 (ac 0 0 0 0 0 0 0 0 0 0 0)
  have hstB := hkB.store (P := Tryd.prog) (cs' := ac k1 node1 n1 client1 ok1 h1 i1 nn1 kk1 v1 t1) rfl (ac_one k1 node1 n1 client1 ok1 h1 i1 nn1 kk1 v1 t1)
  have hkB2 := hkB.set (ac k1 node1 n1 client1 ok1 h1 i1 nn1 kk1 v1 t1)
  have hbB := below_setRow ((Below.refl w3.heap.size w3).alloc (Nat.le_refl _) (.cells (ac 0 0 0 0 0 0 0 0 0 0 0).toArray 27)) (Nat.le_refl _) (ac k1 node1 n1 client1 ok1 h1 i1 nn1 kk1 v1 t1).toArray
  obtain ⟨w4, hwB⟩ : ∃ y, (w3.alloc (.cells (ac 0 0 0 0 0 0 0 0 0 0 0).toArray 27)).setRow w3.heap.size (ac k1 node1 n1 client1 ok1 h1 i1 nn1 kk1 v1 t1).toArray = y := ⟨_, rfl⟩
  rw [hwB] at hstB hkB2 hbB
  simp only [ac] at hstB
  clear hwB
  have hb34 := hb3.trans (hbB.mono hb3.size)
  have hk4 := H2.out.1.below hb34 H2.out.1.lt
  have hld1 := hk4.load (P := Tryd.prog) (k := 11) rfl
  have hld2 := hkB2.load (P := Tryd.prog) (k := 11) rfl
  have hne := act_neq k1 node1 n1 client1 ok1 h1 i1 nn1 kk1 v1 t1 k1 node1 n1 client1 ok1 h1 i1 nn1 kk1 v1 t1 w4
  have htt : decide (k1 = k1 ∧ node1 = node1 ∧ n1 = n1 ∧ client1 = client1 ∧ ok1 = ok1 ∧ h1 = h1 ∧ i1 = i1 ∧ nn1 = nn1 ∧ kk1 = kk1 ∧ v1 = v1 ∧ t1 = t1) = true := decide_eq_true ⟨rfl, rfl, rfl, rfl, rfl, rfl, rfl, rfl, rfl, rfl, rfl⟩
  rw [htt] at hne
  have hb04 := H2.out.2.1.trans (hb34.mono H2.out.2.1.size)
  have HRd := Lib.hid (reads_any (w := w4) (HE.out.below hb04 HE.out.big))
  have H4 := Lib.hid (And.intro hb04 hk4)
  simp only [ac] at hld1 hld2 hne
  clear hb3 hkB hkB2 hbB hb34 hk4 htt hb04
  rcases H2.out.2.2 with ⟨hc, hg, -⟩ | ⟨hc, -, -⟩
  · subst hc
    obtain ⟨wk, wnode, wn, wclient, wok, wh, wi, wnn, wkk, wv, wt⟩ := hg.fit
    have HPr := Lib.hid (print_any (w := w4) (HE.out.below H4.out.1 HE.out.big) k1 node1 n1 client1 ok1 h1 i1 nn1 kk1 v1 t1 wk wnode wn wclient wok wh wi wnn wkk wv wt)
    have HG := Lib.hid hg
    simp only [ac] at HPr
    clear hg wk wnode wn wclient wok wh wi wnn wkk wv wt
    go_wp2_with fail
    refine HPr.out.mono ?_
    rintro e w5 ⟨S, c3, rfl, hpt, hb5⟩
    have hS : c3 = 0 ∧ S = s := by
      rcases hpt with ⟨h1, _, h2⟩ | ⟨_, _, h2⟩
      · exact ⟨h1, h2.trans HG.out.2.2⟩
      · exact absurd (by rw [HG.out.2.2]; exact HG.out) h2
    obtain ⟨rfl, rfl⟩ := hS
    have hb05 := H4.out.1.trans (hb5.mono H4.out.1.size)
    have HR5 := Lib.hid (reads_any (w := w5) (HE.out.below hb05 HE.out.big))
    have H5 := Lib.hid hb05
    clear hpt hb5 hb05
    go_wp2_with fail
    refine HR5.out.mono ?_
    rintro e w6 ⟨rfl, hb6⟩
    have HB6 := Lib.hid (H5.out.trans (hb6.mono H5.out.size))
    clear hb6
    go_wp2_with fail
    go_ret
    exact ⟨rfl, HB6.out⟩
  · subst hc
    go_wp2_with fail
    refine HRd.out.mono ?_
    rintro e w5 ⟨rfl, hb5⟩
    have HB5 := Lib.hid (H4.out.1.trans (hb5.mono H4.out.1.size))
    clear hb5
    go_wp2_with fail
    go_ret
    exact ⟨rfl, HB5.out⟩
set_option linter.unusedVariables false in
set_option maxRecDepth 20000 in
set_option maxHeartbeats 3200000 in
theorem deskPrints_walk (he : Env w) (k node n client ok h i nn kk v t : Int) (wk : I64 k) (wnode : I64 node) (wn : I64 n) (wclient : I64 client) (wok : I64 ok) (wh : I64 h) (wi : I64 i) (wnn : I64 nn) (wkk : I64 kk) (wv : I64 v) (wt : I64 t) :
    Calls Tryd.prog 4 #[.agg (ac k node n client ok h i nn kk v t).toArray] w fun e w' => e = .returned (.bool true) ∧ Below w.heap.size w w' := by
  have hbx : Below w.heap.size w (w.alloc (.cells (ac k node n client ok h i nn kk v t).toArray 27)) := (Below.refl _ _).alloc (Nat.le_refl _) _
  have hkx := Blk.new w 27 (ac k node n client ok h i nn kk v t)
  obtain ⟨w1, hw1⟩ : ∃ x, w.alloc (.cells (ac k node n client ok h i nn kk v t).toArray 27) = x := ⟨_, rfl⟩
  rw [hw1] at hbx hkx
  simp only [ac] at hw1
  have hld1 := hkx.load (P := Tryd.prog) (k := 11) rfl
  have HE := Lib.hid he
  have HP1 := Lib.hid (print_any (w := w1) (he.below hbx he.big) k node n client ok h i nn kk v t wk wnode wn wclient wok wh wi wnn wkk wv wt)
  have HW := Lib.hid (show I64 k ∧ I64 node ∧ I64 n ∧ I64 client ∧ I64 ok ∧ I64 h ∧ I64 i ∧ I64 nn ∧ I64 kk ∧ I64 v ∧ I64 t from ⟨wk, wnode, wn, wclient, wok, wh, wi, wnn, wkk, wv, wt⟩)
  have H1 := Lib.hid (And.intro hbx hkx)
  simp only [ac] at hld1 HP1
  clear hbx hkx he wk wnode wn wclient wok wh wi wnn wkk wv wt
  simp only [ac]
  go_enter Tryd.func4, Tryd.ntmps4
  go_wp2_with fail
  refine HP1.out.mono ?_
  rintro e w2 ⟨S, c, rfl, hpt, hb2⟩
  have hb02 := H1.out.1.trans (hb2.mono H1.out.1.size)
  have hk2 := H1.out.2.below hb2 H1.out.2.lt
  have hld2 := hk2.load (P := Tryd.prog) (k := 11) rfl
  obtain ⟨wk, wnode, wn, wclient, wok, wh, wi, wnn, wkk, wv, wt⟩ := HW.out
  have HP2 := Lib.hid (printR_any (w := w2) (HE.out.below hb02 HE.out.big) k node n client ok h i nn kk v t wk wnode wn wclient wok wh wi wnn wkk wv wt)
  have H2 := Lib.hid (And.intro hb02 (And.intro hk2 hpt))
  simp only [ac] at hld2 HP2
  clear hpt hb2 hb02 hk2 wk wnode wn wclient wok wh wi wnn wkk wv wt
  go_wp2_with fail
  refine HP2.out.mono ?_
  rintro e w3 ⟨S2, c2, rfl, hpt2, hb3⟩
  have hsame : c2 = c ∧ S2 = S := by
    rcases H2.out.2.2 with ⟨h1, h2, h3⟩ | ⟨h1, h2, h3⟩
    · rcases hpt2 with ⟨k1, k2, k3⟩ | ⟨k1, k2, k3⟩
      · exact ⟨by omega, k3.trans h3.symm⟩
      · exact absurd h2 k3
    · rcases hpt2 with ⟨k1, k2, k3⟩ | ⟨k1, k2, k3⟩
      · exact absurd k2 h3
      · exact ⟨by omega, k2.trans h2.symm⟩
  obtain ⟨rfl, rfl⟩ := hsame
  have hb03 := H2.out.1.trans (hb3.mono H2.out.1.size)
  have hk3 := H2.out.2.1.below hb3 H2.out.2.1.lt
  have HRd := Lib.hid (reads_any (w := w3) (HE.out.below hb03 HE.out.big))
  have H3 := Lib.hid (And.intro hb03 (And.intro hk3 hpt2))
  clear hpt2 hb3 hb03 hk3
  rcases H3.out.2.2 with ⟨hc, hg, hS⟩ | ⟨hc, -, -⟩
  · subst hc
    have HPa := Lib.hid (parse_any (w := w3) (HE.out.below H3.out.1 HE.out.big) S2)
    have HG := Lib.hid (And.intro hg hS)
    clear hg hS
    go_wp2_with fail
    refine HPa.out.mono ?_
    rintro e w4 ⟨k1, node1, n1, client1, ok1, h1, i1, nn1, kk1, v1, t1, c4, rfl, hpr, hb4⟩
    have hab : c4 = 0 ∧ k = k1 ∧ node = node1 ∧ n = n1 ∧ client = client1 ∧ ok = ok1 ∧ h = h1 ∧ i = i1 ∧ nn = nn1 ∧ kk = kk1 ∧ v = v1 ∧ t = t1 := by
      rcases hpr.told with ⟨h1, _, hu⟩ | ⟨_, _, hn⟩
      · exact ⟨h1, hu _ _ _ _ _ _ _ _ _ _ _ (by rw [HG.out.2]; exact HG.out.1)⟩
      · exact absurd (by rw [HG.out.2]; exact HG.out.1) (hn k node n client ok h i nn kk v t)
    obtain ⟨rfl, e0, e1, e2, e3, e4, e5, e6, e7, e8, e9, e10⟩ := hab
    rw [← e0, ← e1, ← e2, ← e3, ← e4, ← e5, ← e6, ← e7, ← e8, ← e9, ← e10]
    clear e0 e1 e2 e3 e4 e5 e6 e7 e8 e9 e10 hpr
    simp only [ac]
    have hkC := Blk.new w4 27 (ac 0 0 0 0 0 0 0 0 0 0 0)
    have hstC := hkC.store (P := Tryd.prog) (cs' := ac k node n client ok h i nn kk v t) rfl (ac_one k node n client ok h i nn kk v t)
    have hkC2 := hkC.set (ac k node n client ok h i nn kk v t)
    have hbC := below_setRow ((Below.refl w4.heap.size w4).alloc (Nat.le_refl _) (.cells (ac 0 0 0 0 0 0 0 0 0 0 0).toArray 27)) (Nat.le_refl _) (ac k node n client ok h i nn kk v t).toArray
    obtain ⟨w5, hwC⟩ : ∃ y, (w4.alloc (.cells (ac 0 0 0 0 0 0 0 0 0 0 0).toArray 27)).setRow w4.heap.size (ac k node n client ok h i nn kk v t).toArray = y := ⟨_, rfl⟩
    rw [hwC] at hstC hkC2 hbC
    simp only [ac] at hstC
    clear hwC
    have hb35 := hb4.trans (hbC.mono hb4.size)
    have hb05 := H3.out.1.trans (hb35.mono H3.out.1.size)
    have HR5 := Lib.hid (reads_any (w := w5) (HE.out.below hb05 HE.out.big))
    have H5 := Lib.hid (And.intro hb05 (And.intro (H3.out.2.1.below hb35 H3.out.2.1.lt) hkC2))
    clear hb4 hkC hkC2 hbC hb35 hb05
    go_wp2_with fail
    refine HR5.out.mono ?_
    rintro e w6 ⟨rfl, hb6⟩
    have hld3 := (H5.out.2.1.below hb6 H5.out.2.1.lt).load (P := Tryd.prog) (k := 11) rfl
    have hld4 := (H5.out.2.2.below hb6 H5.out.2.2.lt).load (P := Tryd.prog) (k := 11) rfl
    have heq := act_eql k node n client ok h i nn kk v t k node n client ok h i nn kk v t w6
    have htt : decide (k = k ∧ node = node ∧ n = n ∧ client = client ∧ ok = ok ∧ h = h ∧ i = i ∧ nn = nn ∧ kk = kk ∧ v = v ∧ t = t) = true := decide_eq_true ⟨rfl, rfl, rfl, rfl, rfl, rfl, rfl, rfl, rfl, rfl, rfl⟩
    rw [htt] at heq
    have HB6 := Lib.hid (H5.out.1.trans (hb6.mono H5.out.1.size))
    simp only [ac] at hld3 hld4 heq
    clear hb6 htt
    go_wp2_with fail
    go_ret
    exact ⟨rfl, HB6.out⟩
  · subst hc
    go_wp2_with fail
    refine HRd.out.mono ?_
    rintro e w5 ⟨rfl, hb5⟩
    have HB5 := Lib.hid (H3.out.1.trans (hb5.mono H3.out.1.size))
    clear hb5
    go_wp2_with fail
    go_ret
    exact ⟨rfl, HB5.out⟩
end
end Go.Proofs.YtehhgpnaemffnaaDoor
