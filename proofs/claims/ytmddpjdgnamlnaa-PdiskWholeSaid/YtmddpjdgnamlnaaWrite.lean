/- Write. -/
import Derived.Test.YtmddpjdgnamlnaaStop
import Derived.Test.YtmddpjdgnamlnaaHand
import Derived.StillTailTactics
namespace Go.Proofs.Ytmddpjdgnamlnaa
open Go.RowKit Go.Maps
attribute [-go_sem] loadCellsFrom storeCells
attribute [local go_sem] storeCells_one run_makeMap Sec.cells_len

theorem wf_small (i : Nat) (h : i ≤ 4096) : (Lit.int .i64 (i : Int)).wf = true := by
  simp [Lit.wf, IntKind.min, IntKind.max, IntKind.bits, IntKind.signed]
  omega
/-- 'v, ok := m[k]' and 'm[k]'. -/
theorem look_map {w : World} {mb n : Nat} {f : Nat → Option Sec} (h : MapAt w mb n f) (hn : n ≤ 4096) {i : Nat} (hi : i < n) :
    ∃ s : Sec, (Instr.lookup 51 (.map (some mb)) (.int .i64 i) true).run Try.prog w = .ok (.tuple #[.agg s.cells.toArray, .bool (f i).isSome]) w := by
  obtain ⟨D, hown, hR⟩ := h
  obtain ⟨v, ps, hrun, hv⟩ := hown.look_ok int_keyed3 Try.underlying51 (zero68 w) (RS_mk _) (keyOf_int_mk Try.underlying3 (wf_small i (by omega)))
  rw [(hR.2 i hi).1] at hrun
  cases hf : f i with
  | none =>
    rw [atKey_of_not_has (by rw [(hR.2 i hi).1, hf]; rfl)] at hv
    obtain ⟨s, rfl, _⟩ := RS_inv hv
    rw [hf] at hrun
    exact ⟨s, hrun⟩
  | some t =>
    rw [(hR.2 i hi).2 t _ hf] at hv
    obtain ⟨s, rfl, _⟩ := RS_inv hv
    rw [hf] at hrun
    exact ⟨s, hrun⟩
theorem get_map {w : World} {mb n : Nat} {f : Nat → Option Sec} (h : MapAt w mb n f) (hn : n ≤ 4096) {i : Nat} (hi : i < n) {t : Sec} (ht : f i = some t) :
    (Instr.lookup 51 (.map (some mb)) (.int .i64 i) false).run Try.prog w = .ok (.agg t.cells.toArray) w := by
  obtain ⟨D, hown, hR⟩ := h
  obtain ⟨v, ps, hrun, hv⟩ := hown.lookup int_keyed3 Try.underlying51 (zero68 w) (RS_mk _) (keyOf_int_mk Try.underlying3 (wf_small i (by omega)))
  rw [(hR.2 i hi).2 t _ ht] at hv
  obtain ⟨s, rfl, hs⟩ := RS_inv hv
  rw [show s = t from Sec.ext hs] at hrun
  exact hrun
theorem put_map {w : World} {mb n : Nat} {f : Nat → Option Sec} (h : MapAt w mb n f) (hn : n ≤ 4096) {i : Nat} (hi : i < n) (s : Sec) :
    ∃ w', (Instr.mapUpdate 51 (.map (some mb)) (.int .i64 i) (.agg s.cells.toArray)).run Try.prog w = .ok () w' ∧ MapAt w' mb n (setAt f i s) ∧ w.grownBy w' (some mb) := by
  obtain ⟨D, hown, hR⟩ := h
  have hsz := size_rep hown hR
  obtain ⟨w', hrun, h1, h2⟩ := hown.update int_keyed3 Try.underlying51 (by unfold maxLen; omega) (keyOf_int_mk Try.underlying3 (wf_small i (by omega))) (RS_mk s)
  exact ⟨w', hrun, ⟨_, own_tight h1, hR.put (hown.tidy int_keyed3).isMap hi s⟩, h2⟩
/-- 'copy(x[:], b)'. -/
theorem copy_sec {W : World} {bx B n c : Nat} {A : Option Addr} {l : List UInt8} (hk : Blk W bx 68 Sec.zero.cells) (hr : Rd W B A (bv l)) (hl : l.length = n) (h64 : l.length ≤ 64) (ty : TypeId) :
    ∃ W', (Builtin.copy_ #[32, 32] ty #[.slice (some ⟨bx, 0, none⟩) 64 64, .slice A n c]).run Try.prog W = .ok (.int .i64 n) W' ∧ Blk W' bx 68 (Sec.of l h64).cells ∧ Chg (fun k => k = bx) W W' := by
  have hs : (Try.prog.info? 5).map (·.size) = some 1 := by kernel_rfl
  have hz : Sec.zero.cells = List.replicate 64 (.int .u8 0) := by
    show bv (List.replicate 64 0) = _
    unfold bv
    rw [List.map_replicate]
    rfl
  have hsome : ∀ ad, (∀ j u, (bv l)[j]? = some u → W.cell? (ad.add j) = some u) → A = some ad → ∃ W', (Builtin.copy_ #[32, 32] ty #[.slice (some ⟨bx, 0, none⟩) 64 64, .slice A n c]).run Try.prog W = .ok (.int .i64 n) W' ∧ Blk W' bx 68 (Sec.of l h64).cells ∧ Chg (fun k => k = bx) W W' := by
    rintro ad hc rfl
    have hbl : (bv l).length = n := by simp [bv, hl]
    have hrun := run_copy_row (P := Try.prog) W 32 32 ty 5 bx 0 64 64 ad n c Sec.zero.cells.toArray 68 (bv l) Try.underlying32 hs hk (by rw [hbl]; exact (Nat.min_eq_left (by omega)).symm) hc (by rw [hbl]; simp [Sec.cells_len]; omega) (by intro u hu; simp only [bv, List.mem_map] at hu; obtain ⟨x, _, rfl⟩ := hu; rfl)
    rw [hbl] at hrun
    refine ⟨_, hrun, ?_, (Chg.refl (fun k => k = bx) W).setRow (.inr rfl) _⟩
    have hcs : (Sec.zero.cells.toArray.toList.take 0 ++ bv l ++ Sec.zero.cells.toArray.toList.drop (0 + n)) = (Sec.of l h64).cells := by
      show _ = bv (full l)
      unfold full
      rw [show bv (l ++ List.replicate (64 - l.length) 0) = bv l ++ bv (List.replicate (64 - l.length) 0) by simp [bv]]
      simp only [List.take_zero, List.nil_append, Nat.zero_add, hz, List.drop_replicate]
      rw [hl]
      congr 1
      unfold bv
      rw [List.map_replicate]
      rfl
    rw [hcs]
    exact hk.set _
  cases A with
  | none =>
    have h0 : l = [] := by
      rcases hr with h | ⟨b, off, e, _⟩
      · cases l with
        | nil => rfl
        | cons a t => simp [bv] at h
      · cases e
    subst h0
    obtain rfl : n = 0 := by simpa using hl.symm
    refine ⟨W, ?_, ?_, Chg.refl _ _⟩
    · exact run_copy_none (P := Try.prog) W 32 32 ty 5 _ none 64 64 0 c Try.underlying32 hs rfl
    · exact hk
  | some ad =>
    refine hsome ad ?_ rfl
    rcases hr with h | ⟨b, off, e, _, hc⟩
    · intro j u hu
      rw [h] at hu
      cases hu
    · cases e
      intro j u hu
      rw [Addr.add_lit]
      exact hc j u hu

def Dk.put (d : Dk) (i : Nat) (s : Sec) : Dk := ⟨d.now.set i s, d.was, d.down, d.stops, d.left⟩
def Dk.save (d : Dk) (i : Nat) (s : Sec) : Dk := ⟨d.now, if (d.was i).isSome = true then d.was else setAt d.was i s, d.down, d.stops, d.left⟩
section
variable {g gl mb : Nat} {d : Dk} {w : World}
theorem DiskAt.put (h : DiskAt w g gl mb d) (i : Nat) (s : Sec) : DiskAt (w.setRow gl (secCells (d.now.set i s)).toArray) g gl mb (d.put i s) := by
  have hl : (d.put i s).now.length = d.now.length := by simp [Dk.put]
  refine ⟨?_, h.row.set _, ?_, ?_, h.left, h.going⟩
  · rw [hl]
    exact h.blk.other h.ne1 _
  · rw [hl]
    exact h.map.same (setRow_other _ _ _ _ (Ne.symm h.ne3))
  · rw [hl]
    exact h.len
theorem DiskAt.store (h : DiskAt w g gl mb d) {i : Nat} (hi : i < d.now.length) (s : Sec) : Sem.run Try.prog (storeCells ⟨gl, i * 64, none⟩ s.cells 0) w = .ok () (w.setRow gl (secCells (d.now.set i s)).toArray) := by
  have := run_storeCells_at Try.prog gl (i * 64) 68 s.cells 0 _ w h.row (by simp only [List.size_toArray, secCells_len, Sec.cells_len]; omega) (Sec.one s)
  simp only [Nat.add_zero] at this
  rw [secCells_set d.now i hi s] at this
  exact this
theorem write_nil (i : Int) (v : Value) (w : World) : Calls Try.prog 15 #[.pointer none, .int .i64 i, v] w fun e w' => e = .returned (.int .i64 3) ∧ w = w' := by
  have HR := Lib.hid (ready_nil w)
  go_enter Try.func15, Try.ntmps15
  go_wp2_with fail
  refine HR.out.mono ?_
  rintro e w' ⟨rfl, rfl⟩
  go_wp2_with fail
  go_ret
  exact ⟨rfl, rfl⟩
theorem write_down (i : Int) (v : Value) (h : DiskAt w g gl mb d) (hd : d.down = true) : Calls Try.prog 15 #[.pointer (some ⟨g, 0, none⟩), .int .i64 i, v] w fun e w' => e = .returned (.int .i64 70) ∧ w = w' := by
  have hr := ready_any h
  rw [if_pos hd] at hr
  have HR := Lib.hid hr
  clear hr h hd
  go_enter Try.func15, Try.ntmps15
  go_wp2_with fail
  refine HR.out.mono ?_
  rintro e w' ⟨rfl, rfl⟩
  go_wp2_with fail
  go_ret
  exact ⟨rfl, rfl⟩
theorem write_bad (i : Int) (v : Value) (h : DiskAt w g gl mb d) (hd : d.down = false) (hi : inD d i = false) : Calls Try.prog 15 #[.pointer (some ⟨g, 0, none⟩), .int .i64 i, v] w fun e w' => e = .returned (.int .i64 71) ∧ w = w' := by
  have hr := ready_any h
  rw [if_neg (by rw [hd]; simp)] at hr
  have HR := Lib.hid hr
  have q0 : w.cell? ⟨g, 0, none⟩ = some (.slice (some ⟨gl, 0, none⟩) d.now.length d.now.length) := h.blk.cell 0
  by_cases h1 : i < 0
  · clear hr h hd hi q0
    go_enter Try.func15, Try.ntmps15
    go_wp2_with fail
    refine HR.out.mono ?_
    rintro e w' ⟨rfl, rfl⟩
    go_wp2_with fail
    go_ret
    exact ⟨rfl, rfl⟩
  · have h1' : decide (i < 0) = false := by simp; omega
    have h2 : (d.now.length : Int) ≤ i := by
      simp [inD] at hi
      omega
    clear hr h hd hi h1
    go_enter Try.func15, Try.ntmps15
    go_wp2_with fail
    refine HR.out.mono ?_
    rintro e w' ⟨rfl, rfl⟩
    go_wp2_with fail
    go_ret
    exact ⟨rfl, rfl⟩
theorem write_long (i : Nat) (A : Option Addr) (n c : Nat) (h : DiskAt w g gl mb d) (hd : d.down = false) (hi : i < d.now.length) (hn : 64 < n) : Calls Try.prog 15 #[.pointer (some ⟨g, 0, none⟩), .int .i64 i, .slice A n c] w fun e w' => e = .returned (.int .i64 1) ∧ w = w' := by
  have hr := ready_any h
  rw [if_neg (by rw [hd]; simp)] at hr
  have HR := Lib.hid hr
  have q0 : w.cell? ⟨g, 0, none⟩ = some (.slice (some ⟨gl, 0, none⟩) d.now.length d.now.length) := h.blk.cell 0
  have h2 : ¬ ((d.now.length : Int) ≤ (i : Int)) := by omega
  have h3 : (64 : Int) < (n : Int) := by omega
  clear hr h hd hi hn
  go_enter Try.func15, Try.ntmps15
  go_wp2_with fail
  refine HR.out.mono ?_
  rintro e w' ⟨rfl, rfl⟩
  go_wp2_with fail
  go_ret
  exact ⟨rfl, rfl⟩
def Dk.write (d : Dk) (i : Nat) (s : Sec) : Dk := ((d.save i (d.now.getD i Sec.zero)).put i s).step
theorem Rd.chg {B : Nat} {A : Option Addr} {xs : List Value} {w w' : World} {T : Nat → Prop} (hr : Rd w B A xs) (hc : Chg T w w') (hT : ∀ b off, T b → w.cell? ⟨b, off, none⟩ = none) : Rd w' B A xs := by
  rcases hr with h | ⟨b, off, e, hb, hcell⟩
  · exact .inl h
  · refine .inr ⟨b, off, e, hb, fun j u hu => ?_⟩
    have h1 := hcell j u hu
    have hlt : b < w.heap.size := World.block_lt_of_cell? w _ h1
    have hn : ¬ T b := fun ht => by rw [hT b _ ht] at h1; cases h1
    have e2 := hc.block b hlt hn
    rw [← h1]
    simp only [World.cell?, e2]
theorem MapAt.no_cell {w : World} {mb n : Nat} {f : Nat → Option Sec} (h : MapAt w mb n f) (off : Nat) : w.cell? ⟨mb, off, none⟩ = none := by
  obtain ⟨D, ⟨es, clock, h1, r⟩, h2⟩ := h
  simp [World.cell?, h1]
theorem tail_facts {w3 : World} {B n c : Nat} {A : Option Addr} {l : List UInt8} (h : DiskAt w3 g gl mb d) (hr : Rd w3 B A (bv l)) (hl : l.length = n) (h64 : l.length ≤ 64) :
    ∃ w4 w5, (Builtin.copy_ #[32, 32] 3 #[.slice (some ⟨w3.heap.size, 0, none⟩) 64 64, .slice A n c]).run Try.prog (w3.alloc (.cells Sec.zero.cells.toArray 68)) = .ok (.int .i64 n) w4 ∧ w4.drew = w5 ∧
      Sem.run Try.prog (loadCellsFrom ⟨w3.heap.size, 0, none⟩ 0 64 #[]) w5 = .ok (Sec.of l h64).cells.toArray w5 ∧ DiskAt w5 g gl mb d ∧ Chg (fun _ => False) w3 w5 := by
  have hk := Blk.new w3 68 Sec.zero.cells
  have hc0 : Chg (fun _ => False) w3 (w3.alloc (.cells Sec.zero.cells.toArray 68)) := (Chg.refl _ _).alloc _
  have hr4 := hr.chg hc0 (fun _ _ h => absurd h id)
  obtain ⟨w4, hrun, hx, hcc⟩ := copy_sec (c := c) hk hr4 hl h64 3
  have hc34 : Chg (fun _ => False) w3 w4 := ⟨hcc.os.trans hc0.os, hcc.tape.trans hc0.tape, hcc.output.trans hc0.output, Nat.le_trans hc0.size hcc.size, fun k hk _ => (hcc.block k (Nat.lt_of_lt_of_le hk hc0.size) (by omega)).trans (hc0.block k hk id)⟩
  have hc35 := hc34.drew
  exact ⟨w4, w4.drew, hrun, rfl, (show Blk w4.drew w3.heap.size 68 _ from hx).load (Sec.cells_len _), h.chg hc35 id id id, hc35⟩
set_option maxRecDepth 20000 in
theorem write_ok (i B : Nat) (A : Option Addr) (n c : Nat) (l : List UInt8) (h : DiskAt w g gl mb d) (hd : d.down = false) (hi : i < d.now.length) (hr : Rd w B A (bv l)) (hl : l.length = n) (h64 : l.length ≤ 64) :
    Calls Try.prog 15 #[.pointer (some ⟨g, 0, none⟩), .int .i64 i, .slice A n c] w fun e w' => e = .returned (.int .i64 0) ∧ DiskAt w' g gl mb (d.write i (Sec.of l h64)) ∧ Chg (dkS g gl mb) w w' := by
  have hr0 := ready_any h
  rw [if_neg (by rw [hd]; simp)] at hr0
  obtain ⟨y, hy⟩ : ∃ y, Sec.of l h64 = y := ⟨_, rfl⟩
  rw [hy]
  have HR := Lib.hid hr0
  have h2 : ¬ ((d.now.length : Int) ≤ (i : Int)) := by omega
  have h2b : (i : Int) < (d.now.length : Int) := by omega
  have h3 : ¬ (64 : Int) < (n : Int) := by omega
  have hmx : Try.prog.follows .mixedOrders = true := by kernel_rfl
  -- behind 'was, dirty := d.was[at]'
  obtain ⟨s0, hlk⟩ := look_map h.map h.len.2 hi
  have q0 : w.cell? ⟨g, 0, none⟩ = some (.slice (some ⟨gl, 0, none⟩) d.now.length d.now.length) := h.blk.cell 0
  have q1 : w.cell? ⟨g, 1, none⟩ = some (.map (some mb)) := h.blk.cell 1
  have hst1 := (Blk.new w 68 Sec.zero.cells).store (P := Try.prog) (cs' := s0.cells) (by rw [Sec.cells_len, Sec.cells_len]) (Sec.one s0)
  have hb1 := below_setRow ((Below.refl w.heap.size w).alloc (Nat.le_refl _) (.cells Sec.zero.cells.toArray 68)) (Nat.le_refl _) s0.cells.toArray
  obtain ⟨w1, hw1⟩ : ∃ w1, (w.alloc (.cells Sec.zero.cells.toArray 68)).setRow w.heap.size s0.cells.toArray = w1 := ⟨_, rfl⟩
  rw [hw1] at hst1 hb1
  rw [zero64_eq] at hst1
  simp only [zero64] at hst1
  have hd1 := h.below hb1
  have hc1 : Chg (fun _ => False) w w1 := Chg.of_below hb1
  have hr1 := hr.chg hc1 (fun _ _ h => absurd h id)
  have hdec : (d.was i).isSome = false ∨ (d.was i).isSome = true := by cases (d.was i).isSome <;> simp
  rcases hdec with hf | hf
  · rw [hf] at hlk
    obtain ⟨w2, hw2⟩ : ∃ w2, w1.drew = w2 := ⟨_, rfl⟩
    have hc2 : Chg (fun _ => False) w w2 := by rw [← hw2]; exact hc1.drew
    have hd2 := h.chg hc2 id id id
    have hr2 := hr.chg hc2 (fun _ _ h => absurd h id)
    have q10 : w1.cell? ⟨g, 0, none⟩ = some (.slice (some ⟨gl, 0, none⟩) d.now.length d.now.length) := hd1.blk.cell 0
    have q11 : w1.cell? ⟨g, 1, none⟩ = some (.map (some mb)) := hd1.blk.cell 1
    have q20 : w2.cell? ⟨g, 0, none⟩ = some (.slice (some ⟨gl, 0, none⟩) d.now.length d.now.length) := hd2.blk.cell 0
    have q21 : w2.cell? ⟨g, 1, none⟩ = some (.map (some mb)) := hd2.blk.cell 1
    have hld2 := hd2.row.loadOff (P := Try.prog) (i * 64) 64 _ (secCells_at d.now i hi) (Sec.cells_len _)
    obtain ⟨x, hx⟩ : ∃ x, d.now[i]'hi = x := ⟨_, rfl⟩
    rw [hx] at hld2
    rw [← hw2] at hld2
    obtain ⟨w3, hmu, hm3, hg3⟩ := put_map hd2.map h.len.2 hi x
    have hd3 : DiskAt w3 g gl mb (d.save i x) := by
      have hc := grown_chg hg3
      unfold Dk.save
      rw [if_neg (by rw [hf]; simp)]
      exact ⟨hd2.blk.chg hc hd2.ne2, hd2.row.chg hc hd2.ne3, hm3, hd2.len, hd2.left, hd2.going⟩
    have hr3 := hr2.chg (grown_chg hg3) (fun b off hb => by subst hb; exact hd2.map.no_cell off)
    have hc3 : Chg (fun k => k = mb) w w3 := (hc2.mono (fun _ _ h => absurd h id)).trans (grown_chg hg3) (fun _ _ h => h)
    obtain ⟨w4, w5, hcp, hw5, hld5, hd5, hc35⟩ := tail_facts (c := c) hd3 hr3 hl h64
    rw [hy] at hld5
    rw [← hw5] at hld5
    have q40 : w4.cell? ⟨g, 0, none⟩ = some (.slice (some ⟨gl, 0, none⟩) d.now.length d.now.length) := by rw [← hw5] at hd5; exact hd5.blk.cell 0
    have q50 : w5.cell? ⟨g, 0, none⟩ = some (.slice (some ⟨gl, 0, none⟩) d.now.length d.now.length) := hd5.blk.cell 0
    have hst5 := hd5.store (i := i) hi y
    have hd6 := hd5.put i y
    obtain ⟨w6, hw6⟩ : ∃ w6, w5.setRow gl (secCells ((d.save i x).now.set i y)).toArray = w6 := ⟨_, rfl⟩
    have hc16 : Chg (dkS g gl mb) w w6 := by
      rw [← hw6]
      have ha : Chg (dkS g gl mb) w w5 := (hc3.mono (fun _ _ h => .inr (.inr h))).trans hc35 (fun _ _ h => absurd h id)
      exact ha.setRow (.inr (.inr (.inl rfl))) _
    rw [hw6] at hst5 hd6
    rw [zero64_eq] at hcp
    simp only [zero64] at hcp
    clear hw6 hc35
    have HC := Lib.hid hc16
    have HS := Lib.hid (step_any hd6 hd)
    have HW := Lib.hid (And.intro hw2 hw5)
    have HF := Lib.hid (show d.write i y = ((d.save i x).put i y).step by unfold Dk.write; rw [List.getD_eq_getElem?_getD, List.getElem?_eq_getElem hi, Option.getD_some, hx])
    clear hr0 hr h hd hi hr1 hr2 hr3 hd1 hd2 hd3 hd5 hd6 hc1 hc2 hc3 hb1 hm3 hg3 hw1 hw2 hw5 hx hc16 hf hy h64 hl
    go_enter Try.func15, Try.ntmps15
    go_wp2_with fail
    refine HR.out.mono ?_
    rintro e w' ⟨rfl, hw⟩
    subst hw
    go_wp2_with fail
    go_still_tail 12, (by kernel_rfl)
    change wpList _ _ _ _ _ w1.drew
    rw [HW.out.1]
    go_wp2_with fail
    go_still_tail 7, (by kernel_rfl)
    change wpList _ _ _ _ _ w4.drew
    rw [HW.out.2]
    go_wp2_with fail
    refine HS.out.mono ?_
    rintro e w7 ⟨rfl, hd7, hc7⟩
    have H7 := Lib.hid (And.intro hd7 hc7); clear hd7 hc7
    go_wp2_with fail
    go_ret
    rw [HF.out]
    exact ⟨rfl, H7.out.1, HC.out.trans H7.out.2 (fun _ _ h => .inl h)⟩
  · rw [hf] at hlk
    have q10 : w1.cell? ⟨g, 0, none⟩ = some (.slice (some ⟨gl, 0, none⟩) d.now.length d.now.length) := hd1.blk.cell 0
    have e1 : d.save i (d.now[i]'hi) = d := by
      unfold Dk.save
      rw [if_pos hf]
    obtain ⟨x, hx⟩ : ∃ x, d.now[i]'hi = x := ⟨_, rfl⟩
    rw [hx] at e1
    obtain ⟨w3, hw3⟩ : ∃ w3, w1 = w3 := ⟨_, rfl⟩
    rw [hw3] at hst1
    have hd3 : DiskAt w3 g gl mb (d.save i x) := by rw [e1, ← hw3]; exact hd1
    have hr3 : Rd w3 B A (bv l) := by rw [← hw3]; exact hr1
    have hc3 : Chg (fun k => k = mb) w w3 := by rw [← hw3]; exact hc1.mono (fun _ _ h => absurd h id)
    obtain ⟨w4, w5, hcp, hw5, hld5, hd5, hc35⟩ := tail_facts (c := c) hd3 hr3 hl h64
    rw [hy] at hld5
    rw [← hw5] at hld5
    have q40 : w4.cell? ⟨g, 0, none⟩ = some (.slice (some ⟨gl, 0, none⟩) d.now.length d.now.length) := by rw [← hw5] at hd5; exact hd5.blk.cell 0
    have q50 : w5.cell? ⟨g, 0, none⟩ = some (.slice (some ⟨gl, 0, none⟩) d.now.length d.now.length) := hd5.blk.cell 0
    have hst5 := hd5.store (i := i) hi y
    have hd6 := hd5.put i y
    obtain ⟨w6, hw6⟩ : ∃ w6, w5.setRow gl (secCells ((d.save i x).now.set i y)).toArray = w6 := ⟨_, rfl⟩
    have hc16 : Chg (dkS g gl mb) w w6 := by
      rw [← hw6]
      have ha : Chg (dkS g gl mb) w w5 := (hc3.mono (fun _ _ h => .inr (.inr h))).trans hc35 (fun _ _ h => absurd h id)
      exact ha.setRow (.inr (.inr (.inl rfl))) _
    rw [hw6] at hst5 hd6
    rw [zero64_eq] at hcp
    simp only [zero64] at hcp
    clear hw6 hc35
    have HC := Lib.hid hc16
    have HS := Lib.hid (step_any hd6 hd)
    have HW := Lib.hid (And.intro hw5 trivial)
    have HF := Lib.hid (show d.write i y = ((d.save i x).put i y).step by unfold Dk.write; rw [List.getD_eq_getElem?_getD, List.getElem?_eq_getElem hi, Option.getD_some, hx])
    clear hr0 hr h hd hi hr1 hr3 hd1 hd3 hd5 hd6 hc1 hc3 hb1 hw1 hw3 hw5 hx hc16 hf e1 hy h64 hl q10
    go_enter Try.func15, Try.ntmps15
    go_wp2_with fail
    refine HR.out.mono ?_
    rintro e w' ⟨rfl, hw⟩
    subst hw
    go_wp2_with fail
    go_still_tail 7, (by kernel_rfl)
    change wpList _ _ _ _ _ w4.drew
    rw [HW.out.1]
    go_wp2_with fail
    refine HS.out.mono ?_
    rintro e w7 ⟨rfl, hd7, hc7⟩
    have H7 := Lib.hid (And.intro hd7 hc7); clear hd7 hc7
    go_wp2_with fail
    go_ret
    rw [HF.out]
    exact ⟨rfl, H7.out.1, HC.out.trans H7.out.2 (fun _ _ h => .inl h)⟩
end
end Go.Proofs.Ytmddpjdgnamlnaa
