/- The document's Parse. -/
import Derived.Test.YtehhgpnaemffnaaDoorFields22
namespace Go.Proofs.YtehhgpnaemffnaaDoor
open Go.RowKit
attribute [-go_sem] loadCellsFrom storeCells
attribute [local go_sem] storeCells_one

def OkP (s : ByteArray) (k node n client ok h i nn kk v t : Int) : Prop := k ≠ 0 ∧ FieldsP k node n client ok h i nn kk v t ∧ textB k node n client ok h i nn kk v t = s
def ParseRR (s : ByteArray) (k node n client ok h i nn kk v t c : Int) : Prop :=
  (200 < s.size ∧ c = 190 ∧ k = 0 ∧ node = 0 ∧ n = 0 ∧ client = 0 ∧ ok = 0 ∧ h = 0 ∧ i = 0 ∧ nn = 0 ∧ kk = 0 ∧ v = 0 ∧ t = 0) ∨
  (s.size ≤ 200 ∧ ∃ s0, (wsB s)[0]? = some s0 ∧ ∃ k' node' n' client' ok' h' i' nn' kk' v' t', GuessRel s0 (wsB s) k' node' n' client' ok' h' i' nn' kk' v' t' ∧
    ((OkP s k' node' n' client' ok' h' i' nn' kk' v' t' ∧ c = 0 ∧ k = k' ∧ node = node' ∧ n = n' ∧ client = client' ∧ ok = ok' ∧ h = h' ∧ i = i' ∧ nn = nn' ∧ kk = kk' ∧ v = v' ∧ t = t') ∨ (¬ OkP s k' node' n' client' ok' h' i' nn' kk' v' t' ∧ c = 190 ∧ k = 0 ∧ node = 0 ∧ n = 0 ∧ client = 0 ∧ ok = 0 ∧ h = 0 ∧ i = 0 ∧ nn = 0 ∧ kk = 0 ∧ v = 0 ∧ t = 0)))
theorem GuessRel.kinds {s : ByteArray} {ws : List ByteArray} {k node n client ok h i nn kk v t : Int} (h : GuessRel s ws k node n client ok h i nn kk v t) : 0 ≤ k ∧ k ≤ 8 ∧ 0 ≤ ok ∧ ok ≤ 8 := by
  unfold GuessRel at h
  rcases h with h | h | h | h | h | h | h | h | h | h | h | h | h | h | h | h <;> omega
theorem FieldsP.fit {k node n client ok h i nn kk v t : Int} (hf : FieldsP k node n client ok h i nn kk v t) (hk : 0 ≤ k ∧ k ≤ 8 ∧ 0 ≤ ok ∧ ok ≤ 8) : I64 k ∧ I64 node ∧ I64 n ∧ I64 client ∧ I64 ok ∧ I64 h ∧ I64 i ∧ I64 nn ∧ I64 kk ∧ I64 v ∧ I64 t := by
  obtain ⟨h1, h2, h3, h4⟩ := hf
  have m : ∀ x, May x → I64 x := fun x hx => ⟨by have := hx.1; omega, by have := hx.2; omega⟩
  have g : ∀ x ∈ [node, client, h, i, nn, kk, t], I64 x := fun x hx => m x (h1 x hx)
  refine ⟨⟨by omega, by omega⟩, g _ (by simp), ?_, g _ (by simp), ⟨by omega, by omega⟩, g _ (by simp), g _ (by simp), g _ (by simp), g _ (by simp), ⟨by omega, by omega⟩, g _ (by simp)⟩
  rcases h2 with h2 | h2
  · exact m n h2
  · exact ⟨by omega, by omega⟩
theorem wsB_ne (s : ByteArray) : ∃ s0, (wsB s)[0]? = some s0 := by
  have h : wsB s ≠ [] := by
    unfold wsB
    intro e
    exact wordsFrom_ne [] s.data.toList (List.map_eq_nil_iff.1 e)
  cases hw : wsB s with
  | nil => exact absurd hw h
  | cons a r => exact ⟨a, rfl⟩
section
variable {w : World}
set_option linter.unusedVariables false in
set_option maxRecDepth 20000 in
set_option maxHeartbeats 3200000 in
theorem parseR_any (s : ByteArray) (he : Env w) :
    Calls Tryd.prog 6 #[.string s] w fun e w' => ∃ k node n client ok h i nn kk v t c : Int, e = .returned (.tuple #[.agg (ac k node n client ok h i nn kk v t).toArray, .int .i64 c]) ∧ ParseRR s k node n client ok h i nn kk v t c ∧ Below w.heap.size w w' := by
  have hb0 : Below w.heap.size w (w.alloc (.cells (ac 0 0 0 0 0 0 0 0 0 0 0).toArray 27)) := (Below.refl _ _).alloc (Nat.le_refl _) _
  have hk0 := Blk.new w 27 (ac 0 0 0 0 0 0 0 0 0 0 0)
  obtain ⟨w0, hw0⟩ : ∃ x, w.alloc (.cells (ac 0 0 0 0 0 0 0 0 0 0 0).toArray 27) = x := ⟨_, rfl⟩
  rw [hw0] at hb0 hk0
  simp only [ac] at hw0
  by_cases hlong : 200 < s.size
  · have g1 : (200 : Int) < (s.size : Int) := by omega
    have hst := hk0.store (P := Tryd.prog) (cs' := ac 0 0 0 0 0 0 0 0 0 0 0) rfl (ac_one 0 0 0 0 0 0 0 0 0 0 0)
    have HE := Lib.hid (And.intro (hk0.set (ac 0 0 0 0 0 0 0 0 0 0 0)) (And.intro (below_setRow hb0 (Nat.le_refl _) (ac 0 0 0 0 0 0 0 0 0 0 0).toArray) hlong))
    simp only [ac] at hst
    clear he hb0 hk0 hlong
    go_enter Tryd.func6, Tryd.ntmps6
    go_wp2_with fail
    refine bodyPost_ret (results_cell_tmp rfl _ _ w.heap.size 27 _ (0, 0) _ rfl HE.out.1 Tryd.underlying27 rfl (by kernel_rfl)) rfl ⟨0, 0, 0, 0, 0, 0, 0, 0, 0, 0, 0, 190, rfl, .inl ⟨HE.out.2.2, rfl, rfl, rfl, rfl, rfl, rfl, rfl, rfl, rfl, rfl, rfl, rfl⟩, HE.out.2.1⟩
  have g1 : ¬ (200 : Int) < (s.size : Int) := by omega
  obtain ⟨s0, hs0⟩ := wsB_ne s
  have HW := Lib.hid (words_any (w := w0) s (by omega))
  have H0 := Lib.hid (And.intro hk0 (And.intro hb0 (And.intro (show s.size ≤ 200 by omega) hs0)))
  have HE0 := Lib.hid he
  clear he hb0 hk0 hlong hs0
  go_enter Tryd.func6, Tryd.ntmps6
  go_wp2_with fail
  refine HW.out.mono ?_
  rintro e w1 ⟨A1, n1, c1, rfl, hr1, hl1, hc1, hb1⟩
  have HG := Lib.hid (guess_any (w := w1) (wsB s) s0 H0.out.2.2.2 A1 n1 c1 hr1 hl1)
  have H1 := Lib.hid hb1
  clear hr1 hl1 hc1 hb1
  go_wp2_with fail
  refine HG.out.mono ?_
  rintro e w4 ⟨k', node', n', client', ok', h', i', nn', kk', v', t', rfl, hgr, hb4⟩
  simp only [ac]
  have hkB := Blk.new w4 27 (ac 0 0 0 0 0 0 0 0 0 0 0)
  have hstB := hkB.store (P := Tryd.prog) (cs' := ac k' node' n' client' ok' h' i' nn' kk' v' t') rfl (ac_one k' node' n' client' ok' h' i' nn' kk' v' t')
  have hkB2 := hkB.set (ac k' node' n' client' ok' h' i' nn' kk' v' t')
  have hbB := below_setRow ((Below.refl w4.heap.size w4).alloc (Nat.le_refl _) (.cells (ac 0 0 0 0 0 0 0 0 0 0 0).toArray 27)) (Nat.le_refl _) (ac k' node' n' client' ok' h' i' nn' kk' v' t').toArray
  obtain ⟨w5, hw5⟩ : ∃ y, (w4.alloc (.cells (ac 0 0 0 0 0 0 0 0 0 0 0).toArray 27)).setRow w4.heap.size (ac k' node' n' client' ok' h' i' nn' kk' v' t').toArray = y := ⟨_, rfl⟩
  rw [hw5] at hstB hkB2 hbB
  have hb04 : Below w0.heap.size w0 w4 := H1.out.trans (hb4.mono H1.out.size)
  have hb05 := hb04.trans (hbB.mono hb04.size)
  have hk5 : Blk w5 w.heap.size 27 (ac 0 0 0 0 0 0 0 0 0 0 0) := H0.out.1.below hb05 H0.out.1.lt
  have hb5 := H0.out.2.1.trans (hb05.mono H0.out.2.1.size)
  have hld := hkB2.load (P := Tryd.prog) (k := 11) rfl
  have qk : w5.cell? ⟨w4.heap.size, 0, none⟩ = some (.int .i64 k') := hkB2.cell 0
  have hP : ∀ k node n client ok h i nn kk v t c : Int, ((OkP s k' node' n' client' ok' h' i' nn' kk' v' t' ∧ c = 0 ∧ k = k' ∧ node = node' ∧ n = n' ∧ client = client' ∧ ok = ok' ∧ h = h' ∧ i = i' ∧ nn = nn' ∧ kk = kk' ∧ v = v' ∧ t = t') ∨ (¬ OkP s k' node' n' client' ok' h' i' nn' kk' v' t' ∧ c = 190 ∧ k = 0 ∧ node = 0 ∧ n = 0 ∧ client = 0 ∧ ok = 0 ∧ h = 0 ∧ i = 0 ∧ nn = 0 ∧ kk = 0 ∧ v = 0 ∧ t = 0)) → ParseRR s k node n client ok h i nn kk v t c := fun k node n client ok h i nn kk v t c h => .inr ⟨H0.out.2.2.1, s0, H0.out.2.2.2, k', node', n', client', ok', h', i', nn', kk', v', t', hgr, h⟩
  have HP := Lib.hid hP
  have H5 := Lib.hid (And.intro hk5 (And.intro hb5 (And.intro hkB2 hgr.kinds)))
  simp only [ac] at hstB hld
  clear hgr hb4 hkB hkB2 hbB hw5 hb04 hb05 hk5 hb5 hP
  by_cases hk0 : k' = 0
  · have u0 : (k' == 0) = true := by rw [hk0]; rfl
    have HK := Lib.hid hk0
    clear hk0
    have hst := H5.out.1.store (P := Tryd.prog) (cs' := ac 0 0 0 0 0 0 0 0 0 0 0) rfl (ac_one 0 0 0 0 0 0 0 0 0 0 0)
    have HE := Lib.hid (And.intro (H5.out.1.set (ac 0 0 0 0 0 0 0 0 0 0 0)) (below_setRow H5.out.2.1 (Nat.le_refl _) (ac 0 0 0 0 0 0 0 0 0 0 0).toArray))
    simp only [ac] at hst
    go_wp2_with fail
    refine bodyPost_ret (results_cell_tmp rfl _ _ w.heap.size 27 _ (0, 0) _ rfl HE.out.1 Tryd.underlying27 rfl (by kernel_rfl)) rfl ⟨0, 0, 0, 0, 0, 0, 0, 0, 0, 0, 0, 190, rfl, HP.out _ _ _ _ _ _ _ _ _ _ _ _ (.inr ⟨(fun h => h.1 HK.out), rfl, rfl, rfl, rfl, rfl, rfl, rfl, rfl, rfl, rfl, rfl, rfl⟩), HE.out.2⟩
  have u0 : (k' == 0) = false := by simpa using hk0
  have HK := Lib.hid hk0
  clear hk0
  have HF := Lib.hid (fields_any (w := w5) k' node' n' client' ok' h' i' nn' kk' v' t')
  simp only [ac] at HF
  go_wp2_with fail
  refine HF.out.mono ?_
  rintro e w6 ⟨b, rfl, hbf, hb6⟩
  have hk6 := H5.out.1.below hb6 H5.out.1.lt
  have hkB6 := H5.out.2.2.1.below hb6 H5.out.2.2.1.lt
  have hb06 := H5.out.2.1.trans (hb6.mono H5.out.2.1.size)
  cases b
  · have HNF := Lib.hid (show ¬ FieldsP k' node' n' client' ok' h' i' nn' kk' v' t' from fun h => by have := hbf.2 h; cases this)
    have H6 := Lib.hid (And.intro hk6 hb06)
    clear hbf hb6 hk6 hkB6 hb06
    have hst := H6.out.1.store (P := Tryd.prog) (cs' := ac 0 0 0 0 0 0 0 0 0 0 0) rfl (ac_one 0 0 0 0 0 0 0 0 0 0 0)
    have HE := Lib.hid (And.intro (H6.out.1.set (ac 0 0 0 0 0 0 0 0 0 0 0)) (below_setRow H6.out.2 (Nat.le_refl _) (ac 0 0 0 0 0 0 0 0 0 0 0).toArray))
    simp only [ac] at hst
    go_wp2_with fail
    refine bodyPost_ret (results_cell_tmp rfl _ _ w.heap.size 27 _ (0, 0) _ rfl HE.out.1 Tryd.underlying27 rfl (by kernel_rfl)) rfl ⟨0, 0, 0, 0, 0, 0, 0, 0, 0, 0, 0, 190, rfl, HP.out _ _ _ _ _ _ _ _ _ _ _ _ (.inr ⟨(fun h => HNF.out h.2.1), rfl, rfl, rfl, rfl, rfl, rfl, rfl, rfl, rfl, rfl, rfl, rfl⟩), HE.out.2⟩
  have hfp := hbf.1 rfl
  obtain ⟨wk, wnode, wn, wclient, wok, wh, wi, wnn, wkk, wv, wt⟩ := hfp.fit H5.out.2.2.2
  have hte := text_any (w := w6) (HE0.out.below hb06 HE0.out.big) k' node' n' client' ok' h' i' nn' kk' v' t' wk wnode wn wclient wok wh wi wnn wkk wv wt
  have hld6 := hkB6.load (P := Tryd.prog) (k := 11) rfl
  obtain ⟨T, hT⟩ : ∃ T, textB k' node' n' client' ok' h' i' nn' kk' v' t' = T := ⟨_, rfl⟩
  rw [hT] at hte
  have HT := Lib.hid (And.intro hT hfp)
  have HB6 := Lib.hid hb6
  have HLT := Lib.hid hkB6.lt
  have HTe := Lib.hid hte
  have H6 := Lib.hid (And.intro hk6 hb06)
  simp only [ac] at hld6 HTe
  clear hbf hb6 hk6 hkB6 hb06 hfp hte hT wk wnode wn wclient wok wh wi wnn wkk wv wt
  go_wp2_with fail
  refine HTe.out.mono ?_
  rintro e w7 ⟨rfl, hb7⟩
  have H7 := Lib.hid (And.intro (H6.out.1.below hb7 H6.out.1.lt) (And.intro (H6.out.2.trans (hb7.mono H6.out.2.size)) ((H5.out.2.2.1.below HB6.out H5.out.2.2.1.lt).below hb7 (HLT.out))))
  clear hb7
  have hld7 := H7.out.2.2.load (P := Tryd.prog) (k := 11) rfl
  simp only [ac] at hld7
  by_cases hts : T = s
  · have HOK := Lib.hid (show OkP s k' node' n' client' ok' h' i' nn' kk' v' t' from ⟨HK.out, HT.out.2, HT.out.1.trans hts⟩)
    subst hts
    have hst := H7.out.1.store (P := Tryd.prog) (cs' := ac k' node' n' client' ok' h' i' nn' kk' v' t') rfl (ac_one k' node' n' client' ok' h' i' nn' kk' v' t')
    have HE := Lib.hid (And.intro (H7.out.1.set (ac k' node' n' client' ok' h' i' nn' kk' v' t')) (below_setRow H7.out.2.1 (Nat.le_refl _) (ac k' node' n' client' ok' h' i' nn' kk' v' t').toArray))
    simp only [ac] at hst
    go_wp2_with fail
    refine bodyPost_ret (results_cell_tmp rfl _ _ w.heap.size 27 _ (0, 0) _ rfl HE.out.1 Tryd.underlying27 rfl (by kernel_rfl)) rfl ⟨k', node', n', client', ok', h', i', nn', kk', v', t', 0, rfl, HP.out _ _ _ _ _ _ _ _ _ _ _ _ (.inl ⟨HOK.out, rfl, rfl, rfl, rfl, rfl, rfl, rfl, rfl, rfl, rfl, rfl, rfl⟩), HE.out.2⟩
  · have mts := ba_ne hts
    have HTS := Lib.hid hts
    clear hts
    have hst := H7.out.1.store (P := Tryd.prog) (cs' := ac 0 0 0 0 0 0 0 0 0 0 0) rfl (ac_one 0 0 0 0 0 0 0 0 0 0 0)
    have HE := Lib.hid (And.intro (H7.out.1.set (ac 0 0 0 0 0 0 0 0 0 0 0)) (below_setRow H7.out.2.1 (Nat.le_refl _) (ac 0 0 0 0 0 0 0 0 0 0 0).toArray))
    simp only [ac] at hst
    go_wp2_with fail
    refine bodyPost_ret (results_cell_tmp rfl _ _ w.heap.size 27 _ (0, 0) _ rfl HE.out.1 Tryd.underlying27 rfl (by kernel_rfl)) rfl ⟨0, 0, 0, 0, 0, 0, 0, 0, 0, 0, 0, 190, rfl, HP.out _ _ _ _ _ _ _ _ _ _ _ _ (.inr ⟨(fun h => HTS.out (HT.out.1.symm.trans h.2.2)), rfl, rfl, rfl, rfl, rfl, rfl, rfl, rfl, rfl, rfl, rfl, rfl⟩), HE.out.2⟩
end
end Go.Proofs.YtehhgpnaemffnaaDoor
