/- reads. -/
import Derived.Test.YtehhgpnaemffnaaDoorPrint22
namespace Go.Proofs.YtehhgpnaemffnaaDoor
open Go.RowKit
attribute [-go_sem] loadCellsFrom storeCells run_neq_struct run_eql_struct
attribute [local go_sem] storeCells_one

def line4 : ByteArray := ⟨#[119, 114, 105, 116, 101, 32, 49, 32, 50, 32, 51, 32, 45, 52]⟩
def minus0 : ByteArray := ⟨#[119, 114, 105, 116, 101, 32, 49, 32, 50, 32, 51, 32, 45, 48]⟩
def crashNow : ByteArray := ⟨#[99, 114, 97, 115, 104, 32, 50, 32, 110, 111, 119]⟩
theorem minus0_words : wsB minus0 = [⟨#[119, 114, 105, 116, 101]⟩, ⟨#[49]⟩, ⟨#[50]⟩, ⟨#[51]⟩, ⟨#[45, 48]⟩] := by
  unfold wsB
  rfl
theorem itoa_1 : Lib.itoa 1 = [49] := itoa_small 1 (by omega)
theorem itoa_2 : Lib.itoa 2 = [50] := itoa_small 2 (by omega)
theorem itoa_3 : Lib.itoa 3 = [51] := itoa_small 3 (by omega)
theorem itoa_m4 : Lib.itoa (-4) = [45, 52] := by
  have h : Lib.itoa (4 : Int) = [52] := itoa_small 4 (by omega)
  have := itoa_neg 4 (by omega)
  rw [show ((4 : Nat) : Int) = 4 from rfl, h] at this
  exact this
theorem good4 : Good line4 5 0 0 1 3 2 3 0 0 (-4) 0 := by
  refine ⟨(.inr (.inr (.inr (.inr (.inr (.inr (.inr (.inr (.inr (.inl ⟨rfl, rfl, rfl, rfl, rfl, rfl, rfl⟩)))))))))), ⟨?_, .inl ⟨by omega, by omega⟩, by omega, by omega⟩, ?_⟩
  · intro x hx
    simp only [List.mem_cons, List.not_mem_nil, or_false] at hx
    rcases hx with hx | hx | hx | hx | hx | hx | hx <;> exact ⟨by omega, by omega⟩
  · have e := text_of_write (k := 5) (node := 0) (n := 0) (client := 1) (ok := 3) (h := 2) (i := 3) (nn := 0) (kk := 0) (v := -4) (t := 0) rfl rfl
    refine e.trans ?_
    apply ba_ext
    simp [numsB, numsL, itoa_1, itoa_2, itoa_3, itoa_m4, nmWrite, line4]
theorem goodNow : Good crashNow 7 2 (-1) 0 0 0 0 0 0 0 0 := by
  refine ⟨(.inr (.inr (.inr (.inr (.inr (.inr (.inl ⟨rfl, rfl, rfl, rfl, rfl, rfl, rfl, rfl, rfl⟩))))))), ⟨?_, .inr ⟨rfl, rfl⟩, by omega, by omega⟩, ?_⟩
  · intro x hx
    simp only [List.mem_cons, List.not_mem_nil, or_false] at hx
    rcases hx with hx | hx | hx | hx | hx | hx | hx <;> exact ⟨by omega, by omega⟩
  · have e := text_of_now (k := 7) (node := 2) (n := -1) (client := 0) (ok := 0) (h := 0) (i := 0) (nn := 0) (kk := 0) (v := 0) (t := 0) rfl (by omega)
    refine e.trans ?_
    apply ba_ext
    simp [numsB, numsL, itoa_2, nmCrash, behindNow, crashNow]
set_option maxHeartbeats 3200000 in
theorem minus0_none {k node n client ok h i nn kk v t : Int} (hg : Good minus0 k node n client ok h i nn kk v t) : False := by
  obtain ⟨hc, hf, ht⟩ := hg
  obtain ⟨hf1, hf2, hf3, hf4⟩ := hf
  have m1 : May node := hf1 _ (by simp)
  have m2 : May client := hf1 _ (by simp)
  have m3 : May h := hf1 _ (by simp)
  have m4 : May i := hf1 _ (by simp)
  have m5 : May nn := hf1 _ (by simp)
  have m6 : May kk := hf1 _ (by simp)
  have m7 : May t := hf1 _ (by simp)
  unfold May at m1 m2 m3 m4 m5 m6 m7 hf2
  unfold Canon at hc
  rcases hc with hc | hc | hc | hc | hc | hc | hc | hc | hc | hc | hc | hc | hc | hc | hc
  · obtain ⟨hk, z0, z1, z2, z3, z4, z5, z6, z7, z8⟩ := hc
    rw [text_of_tick hk] at ht
    have hws := words_nums nmTick (by decide) [node]
    rw [ht] at hws
    simp only [List.map_cons, List.map_nil] at hws
    rw [minus0_words] at hws
    exact absurd (congrArg (fun b : ByteArray => b.data.toList) ((List.cons.inj hws).1)) (by decide)
  · obtain ⟨hk, z0, z1, z2, z3, z4, z5, z6, z7, z8⟩ := hc
    rw [text_of_start hk] at ht
    have hws := words_nums nmStart (by decide) [node]
    rw [ht] at hws
    simp only [List.map_cons, List.map_nil] at hws
    rw [minus0_words] at hws
    exact absurd (congrArg (fun b : ByteArray => b.data.toList) ((List.cons.inj hws).1)) (by decide)
  · obtain ⟨hk, z0, z1, z2, z3, z4, z5, z6, z7, z8⟩ := hc
    rw [text_of_deliver hk] at ht
    have hws := words_nums nmDeliver (by decide) [n]
    rw [ht] at hws
    simp only [List.map_cons, List.map_nil] at hws
    rw [minus0_words] at hws
    exact absurd (congrArg (fun b : ByteArray => b.data.toList) ((List.cons.inj hws).1)) (by decide)
  · obtain ⟨hk, z0, z1, z2, z3, z4, z5, z6, z7, z8⟩ := hc
    rw [text_of_drop hk] at ht
    have hws := words_nums nmDrop (by decide) [n]
    rw [ht] at hws
    simp only [List.map_cons, List.map_nil] at hws
    rw [minus0_words] at hws
    exact absurd (congrArg (fun b : ByteArray => b.data.toList) ((List.cons.inj hws).1)) (by decide)
  · obtain ⟨hk, z0, z1, z2, z3, z4, z5, z6, z7, z8⟩ := hc
    rw [text_of_double hk] at ht
    have hws := words_nums nmDouble (by decide) [n]
    rw [ht] at hws
    simp only [List.map_cons, List.map_nil] at hws
    rw [minus0_words] at hws
    exact absurd (congrArg (fun b : ByteArray => b.data.toList) ((List.cons.inj hws).1)) (by decide)
  · obtain ⟨hk, z0, z1, z2, z3, z4, z5, z6, z7, z8⟩ := hc
    rw [text_of_retry hk] at ht
    have hws := words_nums nmRetry (by decide) [client]
    rw [ht] at hws
    simp only [List.map_cons, List.map_nil] at hws
    rw [minus0_words] at hws
    exact absurd (congrArg (fun b : ByteArray => b.data.toList) ((List.cons.inj hws).1)) (by decide)
  · obtain ⟨hk, z0, z1, z2, z3, z4, z5, z6, z7⟩ := hc
    by_cases hneg : n < 0
    · rw [text_of_now hk hneg] at ht
      have hws := words_now nmCrash (by decide) [node]
      rw [ht] at hws
      simp only [List.map_cons, List.map_nil, List.cons_append, List.nil_append] at hws
      rw [minus0_words] at hws
      exact absurd (congrArg (fun b : ByteArray => b.data.toList) ((List.cons.inj hws).1)) (by decide)
    · rw [text_of_crash hk hneg] at ht
      have hws := words_nums nmCrash (by decide) [node, n]
      rw [ht] at hws
      simp only [List.map_cons, List.map_nil] at hws
      rw [minus0_words] at hws
      exact absurd (congrArg (fun b : ByteArray => b.data.toList) ((List.cons.inj hws).1)) (by decide)
  · obtain ⟨hk, ho, z0, z1, z2, z3, z4, z5⟩ := hc
    rw [text_of_alloc hk ho] at ht
    have hws := words_nums nmAlloc (by decide) [client, nn, kk]
    rw [ht] at hws
    simp only [List.map_cons, List.map_nil] at hws
    rw [minus0_words] at hws
    exact absurd (congrArg (fun b : ByteArray => b.data.toList) ((List.cons.inj hws).1)) (by decide)
  · obtain ⟨hk, ho, z0, z1, z2, z3, z4, z5, z6⟩ := hc
    rw [text_of_free hk ho] at ht
    have hws := words_nums nmFree (by decide) [client, h]
    rw [ht] at hws
    simp only [List.map_cons, List.map_nil] at hws
    rw [minus0_words] at hws
    exact absurd (congrArg (fun b : ByteArray => b.data.toList) ((List.cons.inj hws).1)) (by decide)
  · obtain ⟨hk, ho, z0, z1, z2, z3, z4⟩ := hc
    rw [text_of_write hk ho] at ht
    have hws := words_nums nmWrite (by decide) [client, h, i, v]
    rw [ht] at hws
    simp only [List.map_cons, List.map_nil] at hws
    rw [minus0_words] at hws
    have h5 := (List.cons.inj (List.cons.inj (List.cons.inj (List.cons.inj (List.cons.inj hws).2).2).2).2).1
    have h6 : Lib.itoa v = [45, 48] := by
      have := congrArg (fun b : ByteArray => b.data.toList) h5
      simpa [itoaB] using this.symm
    have h7 := numR_itoa v (by omega) (by omega)
    rw [h6] at h7
    have h8 : numR [45, 48] = 0 := by decide
    rw [h8] at h7
    rw [← h7] at h6
    have h9 : Lib.itoa 0 = [48] := itoa_small 0 (by omega)
    rw [h9] at h6
    cases h6
  · obtain ⟨hk, ho, z0, z1, z2, z3, z4⟩ := hc
    rw [text_of_link hk ho] at ht
    have hws := words_nums nmLink (by decide) [client, h, i, t]
    rw [ht] at hws
    simp only [List.map_cons, List.map_nil] at hws
    rw [minus0_words] at hws
    exact absurd (congrArg (fun b : ByteArray => b.data.toList) ((List.cons.inj hws).1)) (by decide)
  · obtain ⟨hk, ho, z0, z1, z2, z3, z4, z5⟩ := hc
    rw [text_of_root hk ho] at ht
    have hws := words_nums nmRoot (by decide) [client, i, t]
    rw [ht] at hws
    simp only [List.map_cons, List.map_nil] at hws
    rw [minus0_words] at hws
    exact absurd (congrArg (fun b : ByteArray => b.data.toList) ((List.cons.inj hws).1)) (by decide)
  · obtain ⟨hk, ho, z0, z1, z2, z3, z4, z5⟩ := hc
    rw [text_of_read hk ho] at ht
    have hws := words_nums nmRead (by decide) [client, h, i]
    rw [ht] at hws
    simp only [List.map_cons, List.map_nil] at hws
    rw [minus0_words] at hws
    exact absurd (congrArg (fun b : ByteArray => b.data.toList) ((List.cons.inj hws).1)) (by decide)
  · obtain ⟨hk, ho, z0, z1, z2, z3, z4, z5⟩ := hc
    rw [text_of_follow hk ho] at ht
    have hws := words_nums nmFollow (by decide) [client, h, i]
    rw [ht] at hws
    simp only [List.map_cons, List.map_nil] at hws
    rw [minus0_words] at hws
    exact absurd (congrArg (fun b : ByteArray => b.data.toList) ((List.cons.inj hws).1)) (by decide)
  · obtain ⟨hk, ho, z0, z1, z2, z3, z4, z5, z6⟩ := hc
    rw [text_of_top hk ho] at ht
    have hws := words_nums nmTop (by decide) [client, i]
    rw [ht] at hws
    simp only [List.map_cons, List.map_nil] at hws
    rw [minus0_words] at hws
    exact absurd (congrArg (fun b : ByteArray => b.data.toList) ((List.cons.inj hws).1)) (by decide)
section
variable {w : World}
set_option linter.unusedVariables false in
set_option maxRecDepth 20000 in
set_option maxHeartbeats 3200000 in
theorem reads_any (he : Env w) : Calls Tryd.prog 7 #[] w fun e w' => e = .returned (.bool true) ∧ Below w.heap.size w w' := by
  have HP4 := Lib.hid (parse_any (w := w) he line4)
  have HE := Lib.hid he
  clear he
  go_enter Tryd.func7, Tryd.ntmps7
  go_wp2_with fail
  refine HP4.out.mono ?_
  rintro e w1 ⟨k1, node1, n1, client1, ok1, h1, i1, nn1, kk1, v1, t1, c, rfl, hpr, hb1⟩
  have hsame := Told.same (show Told line4 5 0 0 1 3 2 3 0 0 (-4) 0 0 from .inl ⟨rfl, good4, fun k' node' n' client' ok' h' i' nn' kk' v' t' hg' => by
    rcases hpr.told with ⟨_, _, hu⟩ | ⟨_, _, hn⟩
    · obtain ⟨e0, e1, e2, e3, e4, e5, e6, e7, e8, e9, e10⟩ := hu _ _ _ _ _ _ _ _ _ _ _ hg'
      obtain ⟨f0, f1, f2, f3, f4, f5, f6, f7, f8, f9, f10⟩ := hu _ _ _ _ _ _ _ _ _ _ _ good4
      exact ⟨by omega, by omega, by omega, by omega, by omega, by omega, by omega, by omega, by omega, by omega, by omega⟩
    · exact absurd good4 (hn _ _ _ _ _ _ _ _ _ _ _)⟩) hpr.told
  obtain ⟨rfl, rfl, rfl, rfl, rfl, rfl, rfl, rfl, rfl, rfl, rfl, rfl⟩ := hsame
  simp only [ac]
  have hkB := Blk.new w1 27 (ac 0 0 0 0 0 0 0 0 0 0 0)
  have hstB := hkB.store (P := Tryd.prog) (cs' := ac 5 0 0 1 3 2 3 0 0 (-4) 0) rfl (ac_one 5 0 0 1 3 2 3 0 0 (-4) 0)
  have hkB2 := hkB.set (ac 5 0 0 1 3 2 3 0 0 (-4) 0)
  have hbB := below_setRow ((Below.refl w1.heap.size w1).alloc (Nat.le_refl _) (.cells (ac 0 0 0 0 0 0 0 0 0 0 0).toArray 27)) (Nat.le_refl _) (ac 5 0 0 1 3 2 3 0 0 (-4) 0).toArray
  obtain ⟨w2, hw2⟩ : ∃ y, (w1.alloc (.cells (ac 0 0 0 0 0 0 0 0 0 0 0).toArray 27)).setRow w1.heap.size (ac 5 0 0 1 3 2 3 0 0 (-4) 0).toArray = y := ⟨_, rfl⟩
  rw [hw2] at hstB hkB2 hbB
  have hb02 := hb1.trans (hbB.mono hb1.size)
  have HP0 := Lib.hid (parse_any (w := w2) (HE.out.below hb02 HE.out.big) minus0)
  have H2 := Lib.hid (And.intro hkB2 hb02)
  simp only [ac] at hstB
  clear hpr hb1 hkB hkB2 hbB hw2 hb02
  go_wp2_with fail
  refine HP0.out.mono ?_
  rintro e w3 ⟨k1, node1, n1, client1, ok1, h1, i1, nn1, kk1, v1, t1, c, rfl, hpr, hb3⟩
  have hc : c = 190 := by
    rcases hpr.told with ⟨_, hg, _⟩ | ⟨hc, _⟩
    · exact absurd hg minus0_none
    · exact hc
  subst hc
  simp only [ac]
  have hkB := Blk.new w3 27 (ac 0 0 0 0 0 0 0 0 0 0 0)
  have hstB := hkB.store (P := Tryd.prog) (cs' := ac k1 node1 n1 client1 ok1 h1 i1 nn1 kk1 v1 t1) rfl (ac_one k1 node1 n1 client1 ok1 h1 i1 nn1 kk1 v1 t1)
  have hbB := below_setRow ((Below.refl w3.heap.size w3).alloc (Nat.le_refl _) (.cells (ac 0 0 0 0 0 0 0 0 0 0 0).toArray 27)) (Nat.le_refl _) (ac k1 node1 n1 client1 ok1 h1 i1 nn1 kk1 v1 t1).toArray
  obtain ⟨w4, hw4⟩ : ∃ y, (w3.alloc (.cells (ac 0 0 0 0 0 0 0 0 0 0 0).toArray 27)).setRow w3.heap.size (ac k1 node1 n1 client1 ok1 h1 i1 nn1 kk1 v1 t1).toArray = y := ⟨_, rfl⟩
  rw [hw4] at hstB hbB
  have hb24 := hb3.trans (hbB.mono hb3.size)
  have hk4 := H2.out.1.below hb24 H2.out.1.lt
  have hb04 := H2.out.2.trans (hb24.mono H2.out.2.size)
  have HPr := Lib.hid (print_any (w := w4) (HE.out.below hb04 HE.out.big) 7 2 (-1) 0 0 0 0 0 0 0 0 ⟨by omega, by omega⟩ ⟨by omega, by omega⟩ ⟨by omega, by omega⟩ ⟨by omega, by omega⟩ ⟨by omega, by omega⟩ ⟨by omega, by omega⟩ ⟨by omega, by omega⟩ ⟨by omega, by omega⟩ ⟨by omega, by omega⟩ ⟨by omega, by omega⟩ ⟨by omega, by omega⟩)
  have H4 := Lib.hid (And.intro hk4 hb04)
  simp only [ac] at hstB HPr
  clear hpr hb3 hkB hbB hw4 hb24 hk4 hb04
  go_wp2_with fail
  refine HPr.out.mono ?_
  rintro e w5 ⟨S, c, rfl, hpt, hb5⟩
  have hS : c = 0 ∧ S = crashNow := by
    rcases hpt with ⟨hc, _, hS⟩ | ⟨_, _, hn⟩
    · exact ⟨hc, hS.trans goodNow.2.2⟩
    · exact absurd (by rw [goodNow.2.2]; exact goodNow) hn
  obtain ⟨rfl, rfl⟩ := hS
  have hk5 := H4.out.1.below hb5 H4.out.1.lt
  have c3 : w5.cell? ⟨w1.heap.size, 3, none⟩ = some (.int .i64 1) := hk5.cell 3
  have c5 : w5.cell? ⟨w1.heap.size, 5, none⟩ = some (.int .i64 2) := hk5.cell 5
  have c6 : w5.cell? ⟨w1.heap.size, 6, none⟩ = some (.int .i64 3) := hk5.cell 6
  have c9 : w5.cell? ⟨w1.heap.size, 9, none⟩ = some (.int .i64 (-4)) := hk5.cell 9
  have ms : (crashNow.toList == [99, 114, 97, 115, 104, 32, 50, 32, 110, 111, 119]) = true := by
    rw [ByteArray.toList_eq]
    rfl
  have HB5 := Lib.hid (H4.out.2.trans (hb5.mono H4.out.2.size))
  clear hpt hb5 hk5
  go_wp2_with fail
  go_ret
  exact ⟨rfl, HB5.out⟩
end
end Go.Proofs.YtehhgpnaemffnaaDoor
