/- The two Prints. -/
import Derived.Test.YtehhgpnaemffnaaDoorTold22
namespace Go.Proofs.YtehhgpnaemffnaaDoor
open Go.RowKit
attribute [-go_sem] loadCellsFrom storeCells run_neq_struct run_eql_struct
attribute [local go_sem] storeCells_one

section
variable {w : World}
set_option linter.unusedVariables false in
set_option maxRecDepth 20000 in
set_option maxHeartbeats 3200000 in
theorem print_any (he : Env w) (k node n client ok h i nn kk v t : Int) (wk : I64 k) (wnode : I64 node) (wn : I64 n) (wclient : I64 client) (wok : I64 ok) (wh : I64 h) (wi : I64 i) (wnn : I64 nn) (wkk : I64 kk) (wv : I64 v) (wt : I64 t) :
    Calls Tryd.prog 8 #[.agg (ac k node n client ok h i nn kk v t).toArray] w fun e w' => ∃ S c, e = .returned (.tuple #[.string S, .int .i64 c]) ∧ PTold k node n client ok h i nn kk v t S c ∧ Below w.heap.size w w' := by
  have hbx : Below w.heap.size w (w.alloc (.cells (ac k node n client ok h i nn kk v t).toArray 27)) := (Below.refl _ _).alloc (Nat.le_refl _) _
  have hkx := Blk.new w 27 (ac k node n client ok h i nn kk v t)
  obtain ⟨w1, hw1⟩ : ∃ x, w.alloc (.cells (ac k node n client ok h i nn kk v t).toArray 27) = x := ⟨_, rfl⟩
  rw [hw1] at hbx hkx
  simp only [ac] at hw1
  have hld := hkx.load (P := Tryd.prog) (k := 11) rfl
  have HSp := Lib.hid (spelt_any (w := w1) (he.below hbx he.big) k node n client ok h i nn kk v t wk wnode wn wclient wok wh wi wnn wkk wv wt)
  have H1 := Lib.hid (And.intro hkx (And.intro hbx he))
  obtain ⟨T, hT⟩ : ∃ T, textB k node n client ok h i nn kk v t = T := ⟨_, rfl⟩
  rw [hT] at HSp
  have HT := Lib.hid hT
  simp only [ac] at hld HSp
  clear hbx hkx he hT wk wnode wn wclient wok wh wi wnn wkk wv wt
  simp only [ac]
  go_enter Tryd.func8, Tryd.ntmps8
  go_wp2_with fail
  refine HSp.out.mono ?_
  rintro e w2 ⟨rfl, hb2⟩
  have hb12 := H1.out.2.1.trans (hb2.mono H1.out.2.1.size)
  have HP := Lib.hid (parse_any (w := w2) (H1.out.2.2.below hb12 H1.out.2.2.big) T)
  have H2 := Lib.hid (And.intro (H1.out.1.below hb2 H1.out.1.lt) hb12)
  clear hb2 hb12
  go_wp2_with fail
  refine HP.out.mono ?_
  rintro e w3 ⟨k1, node1, n1, client1, ok1, h1, i1, nn1, kk1, v1, t1, c, rfl, hpr, hb3⟩
  simp only [ac]
  have htold := hpr.told
  have hk3 := H2.out.1.below hb3 H2.out.1.lt
  have hb03 := H2.out.2.trans (hb3.mono H2.out.2.size)
  have hkB := Blk.new w3 27 (ac 0 0 0 0 0 0 0 0 0 0 0)
  have hstB := hkB.store (P := Tryd.prog) (cs' := ac k1 node1 n1 client1 ok1 h1 i1 nn1 kk1 v1 t1) rfl (ac_one k1 node1 n1 client1 ok1 h1 i1 nn1 kk1 v1 t1)
  have hkB2 := hkB.set (ac k1 node1 n1 client1 ok1 h1 i1 nn1 kk1 v1 t1)
  have hbB := below_setRow ((Below.refl w3.heap.size w3).alloc (Nat.le_refl _) (.cells (ac 0 0 0 0 0 0 0 0 0 0 0).toArray 27)) (Nat.le_refl _) (ac k1 node1 n1 client1 ok1 h1 i1 nn1 kk1 v1 t1).toArray
  obtain ⟨w4, hw4⟩ : ∃ y, (w3.alloc (.cells (ac 0 0 0 0 0 0 0 0 0 0 0).toArray 27)).setRow w3.heap.size (ac k1 node1 n1 client1 ok1 h1 i1 nn1 kk1 v1 t1).toArray = y := ⟨_, rfl⟩
  rw [hw4] at hstB hkB2 hbB
  have hld1 := (hk3.below hbB hk3.lt).load (P := Tryd.prog) (k := 11) rfl
  have hld2 := hkB2.load (P := Tryd.prog) (k := 11) rfl
  have hne := act_neq k node n client ok h i nn kk v t k1 node1 n1 client1 ok1 h1 i1 nn1 kk1 v1 t1 w4
  have HB4 := Lib.hid (hb03.trans (hbB.mono hb03.size))
  simp only [ac] at hstB hld1 hld2 hne
  clear hpr hk3 hb3 hb03 hkB hkB2 hbB hw4
  rcases htold with ⟨rfl, hg, hu⟩ | ⟨rfl, hz, hn⟩
  · by_cases heq : k = k1 ∧ node = node1 ∧ n = n1 ∧ client = client1 ∧ ok = ok1 ∧ h = h1 ∧ i = i1 ∧ nn = nn1 ∧ kk = kk1 ∧ v = v1 ∧ t = t1
    · have hne2 : decide (k = k1 ∧ node = node1 ∧ n = n1 ∧ client = client1 ∧ ok = ok1 ∧ h = h1 ∧ i = i1 ∧ nn = nn1 ∧ kk = kk1 ∧ v = v1 ∧ t = t1) = true := decide_eq_true heq
      rw [hne2] at hne
      have HG := Lib.hid (show PTold k node n client ok h i nn kk v t T 0 from .inl ⟨rfl, by
        obtain ⟨e0, e1, e2, e3, e4, e5, e6, e7, e8, e9, e10⟩ := heq
        rw [HT.out, e0, e1, e2, e3, e4, e5, e6, e7, e8, e9, e10]
        exact hg, HT.out.symm⟩)
      clear hg hu heq hne2
      go_wp2_with fail
      go_ret2
      exact ⟨T, 0, rfl, HG.out, HB4.out⟩
    · have hne2 : decide (k = k1 ∧ node = node1 ∧ n = n1 ∧ client = client1 ∧ ok = ok1 ∧ h = h1 ∧ i = i1 ∧ nn = nn1 ∧ kk = kk1 ∧ v = v1 ∧ t = t1) = false := decide_eq_false heq
      rw [hne2] at hne
      have HG := Lib.hid (show PTold k node n client ok h i nn kk v t ⟨#[]⟩ 190 from .inr ⟨rfl, rfl, fun hg' => heq (by
        rw [HT.out] at hg'
        exact hu _ _ _ _ _ _ _ _ _ _ _ hg')⟩)
      clear hg hu heq hne2
      go_wp2_with fail
      go_ret2
      exact ⟨_, 190, rfl, HG.out, HB4.out⟩
  · have HG := Lib.hid (show PTold k node n client ok h i nn kk v t ⟨#[]⟩ 190 from .inr ⟨rfl, rfl, fun hg' => by
      rw [HT.out] at hg'
      exact hn _ _ _ _ _ _ _ _ _ _ _ hg'⟩)
    clear hz hn hne
    go_wp2_with fail
    go_ret2
    exact ⟨_, 190, rfl, HG.out, HB4.out⟩
set_option linter.unusedVariables false in
set_option maxRecDepth 20000 in
set_option maxHeartbeats 3200000 in
theorem printR_any (he : Env w) (k node n client ok h i nn kk v t : Int) (wk : I64 k) (wnode : I64 node) (wn : I64 n) (wclient : I64 client) (wok : I64 ok) (wh : I64 h) (wi : I64 i) (wnn : I64 nn) (wkk : I64 kk) (wv : I64 v) (wt : I64 t) :
    Calls Tryd.prog 9 #[.agg (ac k node n client ok h i nn kk v t).toArray] w fun e w' => ∃ S c, e = .returned (.tuple #[.string S, .int .i64 c]) ∧ PTold k node n client ok h i nn kk v t S c ∧ Below w.heap.size w w' := by
  have hbx : Below w.heap.size w (w.alloc (.cells (ac k node n client ok h i nn kk v t).toArray 27)) := (Below.refl _ _).alloc (Nat.le_refl _) _
  have hkx := Blk.new w 27 (ac k node n client ok h i nn kk v t)
  obtain ⟨w1, hw1⟩ : ∃ x, w.alloc (.cells (ac k node n client ok h i nn kk v t).toArray 27) = x := ⟨_, rfl⟩
  rw [hw1] at hbx hkx
  simp only [ac] at hw1
  have hld := hkx.load (P := Tryd.prog) (k := 11) rfl
  have HSp := Lib.hid (text_any (w := w1) (he.below hbx he.big) k node n client ok h i nn kk v t wk wnode wn wclient wok wh wi wnn wkk wv wt)
  have H1 := Lib.hid (And.intro hkx (And.intro hbx he))
  obtain ⟨T, hT⟩ : ∃ T, textB k node n client ok h i nn kk v t = T := ⟨_, rfl⟩
  rw [hT] at HSp
  have HT := Lib.hid hT
  simp only [ac] at hld HSp
  clear hbx hkx he hT wk wnode wn wclient wok wh wi wnn wkk wv wt
  simp only [ac]
  go_enter Tryd.func9, Tryd.ntmps9
  go_wp2_with fail
  refine HSp.out.mono ?_
  rintro e w2 ⟨rfl, hb2⟩
  have hb12 := H1.out.2.1.trans (hb2.mono H1.out.2.1.size)
  have HP := Lib.hid (parseR_any (w := w2) T (H1.out.2.2.below hb12 H1.out.2.2.big))
  have H2 := Lib.hid (And.intro (H1.out.1.below hb2 H1.out.1.lt) hb12)
  clear hb2 hb12
  go_wp2_with fail
  refine HP.out.mono ?_
  rintro e w3 ⟨k1, node1, n1, client1, ok1, h1, i1, nn1, kk1, v1, t1, c, rfl, hpr, hb3⟩
  simp only [ac]
  have htold := hpr.told
  have hk3 := H2.out.1.below hb3 H2.out.1.lt
  have hb03 := H2.out.2.trans (hb3.mono H2.out.2.size)
  have hkB := Blk.new w3 27 (ac 0 0 0 0 0 0 0 0 0 0 0)
  have hstB := hkB.store (P := Tryd.prog) (cs' := ac k1 node1 n1 client1 ok1 h1 i1 nn1 kk1 v1 t1) rfl (ac_one k1 node1 n1 client1 ok1 h1 i1 nn1 kk1 v1 t1)
  have hkB2 := hkB.set (ac k1 node1 n1 client1 ok1 h1 i1 nn1 kk1 v1 t1)
  have hbB := below_setRow ((Below.refl w3.heap.size w3).alloc (Nat.le_refl _) (.cells (ac 0 0 0 0 0 0 0 0 0 0 0).toArray 27)) (Nat.le_refl _) (ac k1 node1 n1 client1 ok1 h1 i1 nn1 kk1 v1 t1).toArray
  obtain ⟨w4, hw4⟩ : ∃ y, (w3.alloc (.cells (ac 0 0 0 0 0 0 0 0 0 0 0).toArray 27)).setRow w3.heap.size (ac k1 node1 n1 client1 ok1 h1 i1 nn1 kk1 v1 t1).toArray = y := ⟨_, rfl⟩
  rw [hw4] at hstB hkB2 hbB
  have hld1 := (hk3.below hbB hk3.lt).load (P := Tryd.prog) (k := 11) rfl
  have hld2 := hkB2.load (P := Tryd.prog) (k := 11) rfl
  have hne := act_neq k node n client ok h i nn kk v t k1 node1 n1 client1 ok1 h1 i1 nn1 kk1 v1 t1 w4
  have HB4 := Lib.hid (hb03.trans (hbB.mono hb03.size))
  simp only [ac] at hstB hld1 hld2 hne
  clear hpr hk3 hb3 hb03 hkB hkB2 hbB hw4
  rcases htold with ⟨rfl, hg, hu⟩ | ⟨rfl, hz, hn⟩
  · by_cases heq : k = k1 ∧ node = node1 ∧ n = n1 ∧ client = client1 ∧ ok = ok1 ∧ h = h1 ∧ i = i1 ∧ nn = nn1 ∧ kk = kk1 ∧ v = v1 ∧ t = t1
    · have hne2 : decide (k = k1 ∧ node = node1 ∧ n = n1 ∧ client = client1 ∧ ok = ok1 ∧ h = h1 ∧ i = i1 ∧ nn = nn1 ∧ kk = kk1 ∧ v = v1 ∧ t = t1) = true := decide_eq_true heq
      rw [hne2] at hne
      have HG := Lib.hid (show PTold k node n client ok h i nn kk v t T 0 from .inl ⟨rfl, by
        obtain ⟨e0, e1, e2, e3, e4, e5, e6, e7, e8, e9, e10⟩ := heq
        rw [HT.out, e0, e1, e2, e3, e4, e5, e6, e7, e8, e9, e10]
        exact hg, HT.out.symm⟩)
      clear hg hu heq hne2
      go_wp2_with fail
      go_ret2
      exact ⟨T, 0, rfl, HG.out, HB4.out⟩
    · have hne2 : decide (k = k1 ∧ node = node1 ∧ n = n1 ∧ client = client1 ∧ ok = ok1 ∧ h = h1 ∧ i = i1 ∧ nn = nn1 ∧ kk = kk1 ∧ v = v1 ∧ t = t1) = false := decide_eq_false heq
      rw [hne2] at hne
      have HG := Lib.hid (show PTold k node n client ok h i nn kk v t ⟨#[]⟩ 190 from .inr ⟨rfl, rfl, fun hg' => heq (by
        rw [HT.out] at hg'
        exact hu _ _ _ _ _ _ _ _ _ _ _ hg')⟩)
      clear hg hu heq hne2
      go_wp2_with fail
      go_ret2
      exact ⟨_, 190, rfl, HG.out, HB4.out⟩
  · have HG := Lib.hid (show PTold k node n client ok h i nn kk v t ⟨#[]⟩ 190 from .inr ⟨rfl, rfl, fun hg' => by
      rw [HT.out] at hg'
      exact hn _ _ _ _ _ _ _ _ _ _ _ hg'⟩)
    clear hz hn hne
    go_wp2_with fail
    go_ret2
    exact ⟨_, 190, rfl, HG.out, HB4.out⟩
end
end Go.Proofs.YtehhgpnaemffnaaDoor
