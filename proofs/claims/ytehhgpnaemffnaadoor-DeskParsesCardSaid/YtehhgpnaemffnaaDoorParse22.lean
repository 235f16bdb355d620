/- desk.Parse. -/
import Derived.Test.YtehhgpnaemffnaaDoorAct22
namespace Go.Proofs.YtehhgpnaemffnaaDoor
open Go.RowKit
attribute [-go_sem] loadCellsFrom storeCells
attribute [local go_sem] storeCells_one

theorem results_cell_tmp {P : Program} {fn : Func} {p q : Tmp} {ty : TypeId} (h : fn.results = #[.cell p ty, .tmp q]) (tmps : Array Value) (w : World) (g : Nat) (t : TypeId) (cs : Array Value) (fr : Nat × Nat) (d : TypeDesc)
    (hp : tmps.getD p undef = .pointer (some ⟨g, 0, none⟩)) (hg : w.heap[g]? = some (.cells cs t fr))
    (hu : P.underlying ty = some d) (hd : (match d with | .struct _ | .array _ _ => true | _ => false) = true) (hi : (P.info? ty).map (·.size) = some cs.size) :
    (results fn tmps).run P w = .ok (.tuple #[.agg cs, tmps.getD q undef]) w := by
  have hp' : tmps[p]?.getD undef = .pointer (some ⟨g, 0, none⟩) := by simpa using hp
  simp [results, h, hp', asAddr, run_loadVar_row w g t ty cs fr d hg hu hd hi, Result.andThen]
/-- A line's words, as texts. -/
def wsB (s : ByteArray) : List ByteArray := (wordsL s.data.toList).map fun l => ⟨l.toArray⟩
theorem wsB_of {s : ByteArray} {ws : List ByteArray} (h : ws.map (·.data.toList) = wordsL s.data.toList) : ws = wsB s := by
  unfold wsB
  rw [← h, List.map_map]
  conv => lhs; rw [← List.map_id ws]
  apply List.map_congr_left
  intro a _
  exact (ba_ext (by simp)).symm
def ParseRel (s : ByteArray) (k node n client ok h i nn kk v t c : Int) : Prop :=
  (200 < s.size ∧ c = 190 ∧ k = 0 ∧ node = 0 ∧ n = 0 ∧ client = 0 ∧ ok = 0 ∧ h = 0 ∧ i = 0 ∧ nn = 0 ∧ kk = 0 ∧ v = 0 ∧ t = 0) ∨
  (s.size ≤ 200 ∧ ∃ s0 st1, RelW (some (wsB s)) s0 st1 ∧ ∃ k' node' n' client' ok' h' i' nn' kk' v' t' st', ActRel s0 st1 k' node' n' client' ok' h' i' nn' kk' v' t' st' ∧
    ((st' = some [] ∧ c = 0 ∧ k = k' ∧ node = node' ∧ n = n' ∧ client = client' ∧ ok = ok' ∧ h = h' ∧ i = i' ∧ nn = nn' ∧ kk = kk' ∧ v = v' ∧ t = t') ∨ (st' ≠ some [] ∧ c = 190 ∧ k = 0 ∧ node = 0 ∧ n = 0 ∧ client = 0 ∧ ok = 0 ∧ h = 0 ∧ i = 0 ∧ nn = 0 ∧ kk = 0 ∧ v = 0 ∧ t = 0)))
section
variable {w : World}
set_option maxRecDepth 20000 in
set_option maxHeartbeats 1600000 in
theorem parse_any (he : Env w) (s : ByteArray) :
    Calls Tryd.prog 5 #[.string s] w fun e w' => ∃ k node n client ok h i nn kk v t c : Int, e = .returned (.tuple #[.agg (ac k node n client ok h i nn kk v t).toArray, .int .i64 c]) ∧ ParseRel s k node n client ok h i nn kk v t c ∧ Below w.heap.size w w' := by
  have hb0 : Below w.heap.size w (w.alloc (.cells (ac 0 0 0 0 0 0 0 0 0 0 0).toArray 27)) := (Below.refl _ _).alloc (Nat.le_refl _) _
  have hk0 := Blk.new w 27 (ac 0 0 0 0 0 0 0 0 0 0 0)
  obtain ⟨w0, hw0⟩ : ∃ x, w.alloc (.cells (ac 0 0 0 0 0 0 0 0 0 0 0).toArray 27) = x := ⟨_, rfl⟩
  rw [hw0] at hb0 hk0
  simp only [ac] at hw0
  have he0 := he.below hb0 he.big
  by_cases hlong : 200 < s.size
  · have g1 : (200 : Int) < (s.size : Int) := by omega
    have hst := hk0.store (P := Tryd.prog) (cs' := ac 0 0 0 0 0 0 0 0 0 0 0) rfl (ac_one 0 0 0 0 0 0 0 0 0 0 0)
    have HE := Lib.hid (And.intro (hk0.set (ac 0 0 0 0 0 0 0 0 0 0 0)) (And.intro (below_setRow hb0 (Nat.le_refl _) (ac 0 0 0 0 0 0 0 0 0 0 0).toArray) hlong))
    simp only [ac] at hst
    clear he hb0 hk0 he0 hlong
    go_enter Tryd.func5, Tryd.ntmps5
    go_wp2_with fail
    refine bodyPost_ret (results_cell_tmp rfl _ _ w.heap.size 27 _ (0, 0) _ rfl HE.out.1 Tryd.underlying27 rfl (by kernel_rfl)) rfl ⟨0, 0, 0, 0, 0, 0, 0, 0, 0, 0, 0, 190, rfl, .inl ⟨HE.out.2.2, rfl, rfl, rfl, rfl, rfl, rfl, rfl, rfl, rfl, rfl, rfl, rfl⟩, HE.out.2.1⟩
  have g1 : ¬ (200 : Int) < (s.size : Int) := by omega
  have HSp := Lib.hid (split_any he0 s (by omega))
  have H0 := Lib.hid (And.intro hk0 (And.intro hb0 (And.intro he0 (show s.size ≤ 200 by omega))))
  clear he hb0 hk0 he0 hlong
  go_enter Tryd.func5, Tryd.ntmps5
  go_wp2_with fail
  refine HSp.out.mono ?_
  rintro e w1 ⟨ws, rfl, hws, hka, hb1⟩
  have hwl : ∀ a ∈ ws, a.size ≤ 200 := by
    intro a ha
    have h1 : a.data.toList ∈ wordsL s.data.toList := by rw [← hws]; exact List.mem_map_of_mem ha
    have h2 := wordsFrom_len [] s.data.toList 200 (by have := H0.out.2.2.2; simp only [List.length_nil, Nat.zero_add]; exact this) _ h1
    exact h2
  have hb01 := H0.out.2.1.trans (hb1.mono H0.out.2.1.size)
  have hk1 := H0.out.1.below hb1 H0.out.1.lt
  have hlw : w0.heap.size < w1.heap.size := hka.lt
  have hcap : ws.length ≤ maxLen := by
    have h1 := congrArg List.length hws
    rw [List.length_map] at h1
    have h2 := wordsFrom_count [] s.data.toList
    have h3 := H0.out.2.2.2
    have h4 : s.data.toList.length = s.size := rfl
    unfold wordsL at h1
    unfold maxLen
    omega
  -- the line's own block
  obtain ⟨w2, hw2⟩ : ∃ x, w1.alloc (.cells #[.slice (some ⟨w0.heap.size, 0, none⟩) ws.length ws.length, .bool false] 40) = x := ⟨_, rfl⟩
  have hkl := Blk.new w1 40 [.slice (some ⟨w0.heap.size, 0, none⟩) ws.length ws.length, .bool false]
  have hb12 : Below w1.heap.size w1 (w1.alloc (.cells #[.slice (some ⟨w0.heap.size, 0, none⟩) ws.length ws.length, .bool false] 40)) := (Below.refl _ _).alloc (Nat.le_refl _) _
  rw [show [Value.slice (some ⟨w0.heap.size, 0, none⟩) ws.length ws.length, .bool false].toArray = #[.slice (some ⟨w0.heap.size, 0, none⟩) ws.length ws.length, .bool false] from rfl] at hkl
  rw [hw2] at hkl hb12
  have hl2 : LAt w2 w1.heap.size (some ws) := ⟨_, _, false, ws, hkl, .inr ⟨w0.heap.size, 0, rfl, hlw, fun j u hu => by rw [Nat.zero_add]; exact ((hka.below hb12 hlw).cell j).trans hu⟩, Nat.le_refl _, hcap, hwl, rfl⟩
  have hb02 := hb01.trans (hb12.mono hb01.size)
  have he2 := (H0.out.2.2.1.below hb1 H0.out.2.2.1.big).below hb12 (Nat.le_trans H0.out.2.2.1.big hb1.size)
  have hk2 := hk1.below hb12 hk1.lt
  have h8 : 8 ≤ w1.heap.size := Nat.le_trans H0.out.2.2.1.big hb1.size
  have HW := Lib.hid (word_any hl2)
  have H2 := Lib.hid (And.intro hk2 (And.intro hb02 (And.intro he2 (And.intro h8 (And.intro (wsB_of hws) (And.intro hk1.lt hb01.size))))))
  clear hws hka hb1 hwl hb01 hk1 hlw hcap hkl hb12 hl2 hb02 he2 hk2 h8
  go_wp2_with fail
  refine HW.out.mono ?_
  rintro e w3 ⟨s0, rfl, st1, hs0, hr1, hl3, hc3⟩
  have HA := Lib.hid (act_any (H2.out.2.2.1.chg hc3 (by rintro i rfl; exact H2.out.2.2.2.1)) hl3 H2.out.2.2.2.1 s0)
  have H3 := Lib.hid (And.intro hr1 hc3)
  clear hs0 hr1 hl3 hc3
  go_wp2_with fail
  refine HA.out.mono ?_
  rintro e w4 ⟨k', node', n', client', ok', h', i', nn', kk', v', t', rfl, st', hr2, hl4, hc4⟩
  simp only [ac]
  -- what act gave lies in a block of its own
  have hkB := Blk.new w4 27 (ac 0 0 0 0 0 0 0 0 0 0 0)
  have hstB := hkB.store (P := Tryd.prog) (cs' := ac k' node' n' client' ok' h' i' nn' kk' v' t') rfl (ac_one k' node' n' client' ok' h' i' nn' kk' v' t')
  have hkB2 := hkB.set (ac k' node' n' client' ok' h' i' nn' kk' v' t')
  have hcB : Chg (fun _ => False) w4 ((w4.alloc (.cells (ac 0 0 0 0 0 0 0 0 0 0 0).toArray 27)).setRow w4.heap.size (ac k' node' n' client' ok' h' i' nn' kk' v' t').toArray) := ((Chg.refl _ _).alloc _).setRow (g := w4.heap.size) (.inl (Nat.le_refl _)) _
  obtain ⟨w5, hw5⟩ : ∃ y, (w4.alloc (.cells (ac 0 0 0 0 0 0 0 0 0 0 0).toArray 27)).setRow w4.heap.size (ac k' node' n' client' ok' h' i' nn' kk' v' t').toArray = y := ⟨_, rfl⟩
  rw [hw5] at hstB hkB2 hcB
  have hne : w.heap.size ≠ w1.heap.size := by have := H2.out.2.2.2.2.2; omega
  have hk5 : Blk w5 w.heap.size 27 (ac 0 0 0 0 0 0 0 0 0 0 0) := ((H2.out.1.chg H3.out.2 hne).chg hc4 hne).chg hcB id
  have hl5 := hl4.above hcB (fun _ h => absurd h id)
  have hb5 : Below w.heap.size w w5 := H2.out.2.1.trans ((((H3.out.2.trans hc4 (fun _ _ h => h)).trans hcB (fun _ _ h => absurd h id))).below (B := w.heap.size) (by rintro i rfl; exact H2.out.2.2.2.2.2.2) H2.out.2.1.size)
  have hld := hkB2.load (P := Tryd.prog) (k := 11) rfl
  obtain ⟨AA, cc, no, rs, hkn, hrn, _, _, _, hst'⟩ := hl5
  have q0 : w5.cell? ⟨w1.heap.size, 0, none⟩ = some (.slice AA rs.length cc) := hkn.cell 0
  have q1 : w5.cell? ⟨w1.heap.size, 1, none⟩ = some (.bool no) := hkn.cell 1
  have HR := Lib.hid (And.intro hr2 hst')
  have hP : ∀ k node n client ok h i nn kk v t c : Int, ((st' = some [] ∧ c = 0 ∧ k = k' ∧ node = node' ∧ n = n' ∧ client = client' ∧ ok = ok' ∧ h = h' ∧ i = i' ∧ nn = nn' ∧ kk = kk' ∧ v = v' ∧ t = t') ∨ (st' ≠ some [] ∧ c = 190 ∧ k = 0 ∧ node = 0 ∧ n = 0 ∧ client = 0 ∧ ok = 0 ∧ h = 0 ∧ i = 0 ∧ nn = 0 ∧ kk = 0 ∧ v = 0 ∧ t = 0)) → ParseRel s k node n client ok h i nn kk v t c := fun k node n client ok h i nn kk v t c h => .inr ⟨H0.out.2.2.2, s0, st1, by rw [← H2.out.2.2.2.2.1]; exact H3.out.1, k', node', n', client', ok', h', i', nn', kk', v', t', st', hr2, h⟩
  have HP := Lib.hid hP
  have H5 := Lib.hid hb5
  simp only [ac] at hstB hld
  clear hr2 hl4 hc4 hkB hkB2 hcB hw5 hb5 hkn hrn hst' hP hne
  cases no
  · cases rs with
    | nil =>
      have hst := hk5.store (P := Tryd.prog) (cs' := ac k' node' n' client' ok' h' i' nn' kk' v' t') rfl (ac_one k' node' n' client' ok' h' i' nn' kk' v' t')
      have HE := Lib.hid (And.intro (hk5.set (ac k' node' n' client' ok' h' i' nn' kk' v' t')) (below_setRow H5.out (Nat.le_refl _) (ac k' node' n' client' ok' h' i' nn' kk' v' t').toArray))
      simp only [ac] at hst
      clear hk5
      go_wp2_with fail
      refine bodyPost_ret (results_cell_tmp rfl _ _ w.heap.size 27 _ (0, 0) _ rfl HE.out.1 Tryd.underlying27 rfl (by kernel_rfl)) rfl ⟨k', node', n', client', ok', h', i', nn', kk', v', t', 0, rfl, HP.out _ _ _ _ _ _ _ _ _ _ _ _ (.inl ⟨?_, rfl, rfl, rfl, rfl, rfl, rfl, rfl, rfl, rfl, rfl, rfl, rfl⟩), HE.out.2⟩
      rw [HR.out.2]
      rfl
    | cons a r =>
      have g2 : (0 : Int) < ((a :: r).length : Int) := by simp
      have hst := hk5.store (P := Tryd.prog) (cs' := ac 0 0 0 0 0 0 0 0 0 0 0) rfl (ac_one 0 0 0 0 0 0 0 0 0 0 0)
      have HE := Lib.hid (And.intro (hk5.set (ac 0 0 0 0 0 0 0 0 0 0 0)) (below_setRow H5.out (Nat.le_refl _) (ac 0 0 0 0 0 0 0 0 0 0 0).toArray))
      simp only [ac] at hst
      clear hk5
      go_wp2_with fail
      refine bodyPost_ret (results_cell_tmp rfl _ _ w.heap.size 27 _ (0, 0) _ rfl HE.out.1 Tryd.underlying27 rfl (by kernel_rfl)) rfl ⟨0, 0, 0, 0, 0, 0, 0, 0, 0, 0, 0, 190, rfl, HP.out _ _ _ _ _ _ _ _ _ _ _ _ (.inr ⟨?_, rfl, rfl, rfl, rfl, rfl, rfl, rfl, rfl, rfl, rfl, rfl, rfl⟩), HE.out.2⟩
      rw [HR.out.2]
      simp
  · have hst := hk5.store (P := Tryd.prog) (cs' := ac 0 0 0 0 0 0 0 0 0 0 0) rfl (ac_one 0 0 0 0 0 0 0 0 0 0 0)
    have HE := Lib.hid (And.intro (hk5.set (ac 0 0 0 0 0 0 0 0 0 0 0)) (below_setRow H5.out (Nat.le_refl _) (ac 0 0 0 0 0 0 0 0 0 0 0).toArray))
    simp only [ac] at hst
    clear hk5
    go_wp2_with fail
    refine bodyPost_ret (results_cell_tmp rfl _ _ w.heap.size 27 _ (0, 0) _ rfl HE.out.1 Tryd.underlying27 rfl (by kernel_rfl)) rfl ⟨0, 0, 0, 0, 0, 0, 0, 0, 0, 0, 0, 190, rfl, HP.out _ _ _ _ _ _ _ _ _ _ _ _ (.inr ⟨?_, rfl, rfl, rfl, rfl, rfl, rfl, rfl, rfl, rfl, rfl, rfl, rfl⟩), HE.out.2⟩
    rw [HR.out.2]
    simp
end
end Go.Proofs.YtehhgpnaemffnaaDoor
