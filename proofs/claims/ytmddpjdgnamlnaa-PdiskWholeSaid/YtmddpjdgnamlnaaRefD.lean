/- The document's disk: that nothing of it panics, and that it touches its own blocks alone. -/
import Derived.Test.YtmddpjdgnamlnaaRefFull
import Derived.Test.YtmddpjdgnamlnaaCrash
namespace Go.Proofs.Ytmddpjdgnamlnaa
open Go.RowKit
attribute [-go_sem] loadCellsFrom storeCells
attribute [local go_sem] storeCells_one run_makeMap

def Ended (e : Ending) : Prop := ∃ z : Int, e = .returned (.int .i64 z)
theorem Ended.mk (z : Int) : Ended (.returned (.int .i64 z)) := ⟨z, rfl⟩
/-- A row of strings, of bools. -/
def StrRow (w : World) (a n : Nat) : Prop := ∃ cs, Blk w a 9 cs ∧ ∀ j, j < n → ∃ s, cs[j]? = some (.string s)
def BoolRow (w : World) (a n : Nat) : Prop := ∃ cs, Blk w a 4 cs ∧ ∀ j, j < n → ∃ b, cs[j]? = some (.bool b)
section
variable {w w' : World} {a n : Nat}
theorem StrRow.cell (h : StrRow w a n) {j : Nat} (hj : j < n) : ∃ s, w.cell? ⟨a, j, none⟩ = some (.string s) := by
  obtain ⟨cs, hb, hc⟩ := h
  obtain ⟨s, hs⟩ := hc j hj
  exact ⟨s, (hb.cell j).trans hs⟩
theorem BoolRow.cell (h : BoolRow w a n) {j : Nat} (hj : j < n) : ∃ s, w.cell? ⟨a, j, none⟩ = some (.bool s) := by
  obtain ⟨cs, hb, hc⟩ := h
  obtain ⟨s, hs⟩ := hc j hj
  exact ⟨s, (hb.cell j).trans hs⟩
theorem StrRow.frozen (h : StrRow w a n) (j : Nat) : w.frozen? ⟨a, j, none⟩ = false := by obtain ⟨cs, hb, _⟩ := h; exact hb.frozen j
theorem BoolRow.frozen (h : BoolRow w a n) (j : Nat) : w.frozen? ⟨a, j, none⟩ = false := by obtain ⟨cs, hb, _⟩ := h; exact hb.frozen j
theorem StrRow.set (h : StrRow w a n) (j : Nat) (s : ByteArray) : StrRow (w.setCell ⟨a, j, none⟩ (.string s)) a n := by
  obtain ⟨cs, hb, hc⟩ := h
  refine ⟨_, hb.setCell j _, fun i hi => ?_⟩
  obtain ⟨t, ht⟩ := hc i hi
  by_cases hij : j = i
  · subst hij
    exact ⟨s, by rw [List.getElem?_set_self]; exact (List.getElem?_eq_some_iff.1 ht).1⟩
  · exact ⟨t, by rw [List.getElem?_set_ne hij]; exact ht⟩
theorem BoolRow.set (h : BoolRow w a n) (j : Nat) (s : Bool) : BoolRow (w.setCell ⟨a, j, none⟩ (.bool s)) a n := by
  obtain ⟨cs, hb, hc⟩ := h
  refine ⟨_, hb.setCell j _, fun i hi => ?_⟩
  obtain ⟨t, ht⟩ := hc i hi
  by_cases hij : j = i
  · subst hij
    exact ⟨s, by rw [List.getElem?_set_self]; exact (List.getElem?_eq_some_iff.1 ht).1⟩
  · exact ⟨t, by rw [List.getElem?_set_ne hij]; exact ht⟩
theorem StrRow.chg {S : Nat → Prop} (h : StrRow w a n) (hc : Chg S w w') (hn : ¬ S a) : StrRow w' a n := by obtain ⟨cs, hb, h2⟩ := h; exact ⟨cs, hb.chg hc hn, h2⟩
theorem BoolRow.chg {S : Nat → Prop} (h : BoolRow w a n) (hc : Chg S w w') (hn : ¬ S a) : BoolRow w' a n := by obtain ⟨cs, hb, h2⟩ := h; exact ⟨cs, hb.chg hc hn, h2⟩
end
def mCells (an af ad n c1 c2 c3 : Nat) (dn st : Bool) (lf : Int) : List Value := [.slice (some ⟨an, 0, none⟩) n c1, .slice (some ⟨af, 0, none⟩) n c2, .slice (some ⟨ad, 0, none⟩) n c3, .bool dn, .bool st, .int .i64 lf]
structure MAt (w : World) (gm an af ad n : Nat) : Prop where
  blk : ∃ c1 c2 c3 dn st lf, Blk w gm 56 (mCells an af ad n c1 c2 c3 dn st lf)
  now : StrRow w an n
  safe : StrRow w af n
  dirty : BoolRow w ad n
  ne : an ≠ af
  len : 1 ≤ n ∧ n ≤ 4096
def mS (gm an af ad : Nat) : Nat → Prop := fun k => k = gm ∨ k = an ∨ k = af ∨ k = ad
section
variable {w w' : World} {gm an af ad n : Nat}
theorem MAt.gmN (h : MAt w gm an af ad n) : gm ≠ an := by
  obtain ⟨_, _, _, _, _, _, hb⟩ := h.blk
  obtain ⟨cs, h2, _⟩ := h.now
  exact blk_ne hb h2 (by decide)
theorem MAt.gmS (h : MAt w gm an af ad n) : gm ≠ af := by
  obtain ⟨_, _, _, _, _, _, hb⟩ := h.blk
  obtain ⟨cs, h2, _⟩ := h.safe
  exact blk_ne hb h2 (by decide)
theorem MAt.gmD (h : MAt w gm an af ad n) : gm ≠ ad := by
  obtain ⟨_, _, _, _, _, _, hb⟩ := h.blk
  obtain ⟨cs, h2, _⟩ := h.dirty
  exact blk_ne hb h2 (by decide)
theorem MAt.nD (h : MAt w gm an af ad n) : an ≠ ad := by
  obtain ⟨cs, h1, _⟩ := h.now
  obtain ⟨cs, h2, _⟩ := h.dirty
  exact blk_ne h1 h2 (by decide)
theorem MAt.sD (h : MAt w gm an af ad n) : af ≠ ad := by
  obtain ⟨cs, h1, _⟩ := h.safe
  obtain ⟨cs, h2, _⟩ := h.dirty
  exact blk_ne h1 h2 (by decide)
theorem MAt.chg {S : Nat → Prop} (h : MAt w gm an af ad n) (hc : Chg S w w') (hn : ∀ i, S i → ¬ mS gm an af ad i) : MAt w' gm an af ad n := by
  obtain ⟨c1, c2, c3, dn, st, lf, hb⟩ := h.blk
  exact ⟨⟨c1, c2, c3, dn, st, lf, hb.chg hc (fun h => hn _ h (.inl rfl))⟩, h.now.chg hc (fun h => hn _ h (.inr (.inl rfl))), h.safe.chg hc (fun h => hn _ h (.inr (.inr (.inl rfl)))), h.dirty.chg hc (fun h => hn _ h (.inr (.inr (.inr rfl)))), h.ne, h.len⟩
theorem MAt.below (h : MAt w gm an af ad n) (hb : Below w.heap.size w w') : MAt w' gm an af ad n := h.chg (S := fun _ => False) (Chg.of_below hb) fun _ h => absurd h id
theorem MAt.setNow (h : MAt w gm an af ad n) (j : Nat) (s : ByteArray) : MAt (w.setCell ⟨an, j, none⟩ (.string s)) gm an af ad n := by
  obtain ⟨c1, c2, c3, dn, st, lf, hb⟩ := h.blk
  have hc : Chg (fun k => k = an) w (w.setCell ⟨an, j, none⟩ (.string s)) := (Chg.refl (fun k => k = an) w).setCell (.inr rfl) _ _
  exact ⟨⟨c1, c2, c3, dn, st, lf, hb.chg hc h.gmN⟩, h.now.set j s, h.safe.chg hc (Ne.symm h.ne), h.dirty.chg hc (Ne.symm h.nD), h.ne, h.len⟩
theorem MAt.setSafe (h : MAt w gm an af ad n) (j : Nat) (s : ByteArray) : MAt (w.setCell ⟨af, j, none⟩ (.string s)) gm an af ad n := by
  obtain ⟨c1, c2, c3, dn, st, lf, hb⟩ := h.blk
  have hc : Chg (fun k => k = af) w (w.setCell ⟨af, j, none⟩ (.string s)) := (Chg.refl (fun k => k = af) w).setCell (.inr rfl) _ _
  exact ⟨⟨c1, c2, c3, dn, st, lf, hb.chg hc h.gmS⟩, h.now.chg hc h.ne, h.safe.set j s, h.dirty.chg hc (Ne.symm h.sD), h.ne, h.len⟩
theorem MAt.setDirty (h : MAt w gm an af ad n) (j : Nat) (s : Bool) : MAt (w.setCell ⟨ad, j, none⟩ (.bool s)) gm an af ad n := by
  obtain ⟨c1, c2, c3, dn, st, lf, hb⟩ := h.blk
  have hc : Chg (fun k => k = ad) w (w.setCell ⟨ad, j, none⟩ (.bool s)) := (Chg.refl (fun k => k = ad) w).setCell (.inr rfl) _ _
  exact ⟨⟨c1, c2, c3, dn, st, lf, hb.chg hc h.gmD⟩, h.now.chg hc h.nD, h.safe.chg hc h.sD, h.dirty.set j s, h.ne, h.len⟩
theorem MAt.setOwn (h : MAt w gm an af ad n) (hc : Chg (fun k => k = gm) w w') {c1 c2 c3 : Nat} {dn st : Bool} {lf : Int} (hb : Blk w' gm 56 (mCells an af ad n c1 c2 c3 dn st lf)) : MAt w' gm an af ad n :=
  ⟨⟨_, _, _, _, _, _, hb⟩, h.now.chg hc (Ne.symm h.gmN), h.safe.chg hc (Ne.symm h.gmS), h.dirty.chg hc (Ne.symm h.gmD), h.ne, h.len⟩
theorem there_any (i : Int) (h : MAt w gm an af ad n) : Calls Try.prog 33 #[.pointer (some ⟨gm, 0, none⟩), .int .i64 i] w fun e w' => e = .returned (.bool (decide (0 ≤ i) && decide (i < (n : Int)))) ∧ w = w' := by
  obtain ⟨c1, c2, c3, dn, st, lf, hb⟩ := h.blk
  have q0 : w.cell? ⟨gm, 0, none⟩ = some (.slice (some ⟨an, 0, none⟩) n c1) := hb.cell 0
  clear h hb
  by_cases h0 : 0 ≤ i
  · have h0' : decide (0 ≤ i) = true := decide_eq_true h0
    rw [h0', Bool.true_and]
    go_enter Try.func33, Try.ntmps33
    go_wp2_with fail
    go_ret
    exact ⟨rfl, rfl⟩
  · have h0' : decide (0 ≤ i) = false := decide_eq_false h0
    rw [h0', Bool.false_and]
    go_enter Try.func33, Try.ntmps33
    go_wp2_with fail
    go_ret
    exact ⟨rfl, rfl⟩
theorem mstep_any (h : MAt w gm an af ad n) : Calls Try.prog 34 #[.pointer (some ⟨gm, 0, none⟩)] w fun e w' => Ended e ∧ MAt w' gm an af ad n ∧ Chg (fun k => k = gm) w w' := by
  obtain ⟨c1, c2, c3, dn, st, lf, hb⟩ := h.blk
  have q4 : w.cell? ⟨gm, 4, none⟩ = some (.bool st) := hb.cell 4
  have q5 : w.cell? ⟨gm, 5, none⟩ = some (.int .i64 lf) := hb.cell 5
  have z5 : w.frozen? ⟨gm, 5, none⟩ = false := hb.frozen 5
  have z3 : w.frozen? ⟨gm, 3, none⟩ = false := hb.frozen 3
  have q3 : w.cell? ⟨gm, 3, none⟩ = some (.bool dn) := hb.cell 3
  have H := Lib.hid (And.intro h hb)
  clear h hb
  cases st
  · go_enter Try.func34, Try.ntmps34
    go_wp2_with fail
    go_ret
    exact ⟨Ended.mk _, H.out.1, Chg.refl _ _⟩
  · go_enter Try.func34, Try.ntmps34
    go_wp2_with fail
    go_ret
    have hb2 := fun z b => (H.out.2.setCell 5 (.int .i64 z)).setCell 3 (.bool b)
    have hc2 := fun z b => ((Chg.refl (fun k => k = gm) w).setCell (.inr rfl) 5 (.int .i64 z)).setCell (.inr rfl) 3 (.bool b)
    exact ⟨Ended.mk _, H.out.1.setOwn (hc2 _ _) (hb2 _ _), hc2 _ _⟩
theorem mstop_any (i : Int) (h : MAt w gm an af ad n) : Calls Try.prog 27 #[.pointer (some ⟨gm, 0, none⟩), .int .i64 i] w fun e w' => Ended e ∧ MAt w' gm an af ad n ∧ Chg (fun k => k = gm) w w' := by
  obtain ⟨c1, c2, c3, dn, st, lf, hb⟩ := h.blk
  have q4 : w.cell? ⟨gm, 4, none⟩ = some (.bool st) := hb.cell 4
  have q5 : w.cell? ⟨gm, 5, none⟩ = some (.int .i64 lf) := hb.cell 5
  have q3 : w.cell? ⟨gm, 3, none⟩ = some (.bool dn) := hb.cell 3
  have z4 : w.frozen? ⟨gm, 4, none⟩ = false := hb.frozen 4
  have z5 : w.frozen? ⟨gm, 5, none⟩ = false := hb.frozen 5
  have z3 : w.frozen? ⟨gm, 3, none⟩ = false := hb.frozen 3
  have H := Lib.hid (And.intro h hb)
  clear h hb
  cases dn
  · by_cases h0 : i < 0
    · go_enter Try.func27, Try.ntmps27
      go_wp2_with fail
      go_ret
      exact ⟨Ended.mk _, H.out.1, Chg.refl _ _⟩
    · have h0' : decide (i < 0) = false := by simp; omega
      by_cases h1 : 1000000 < i
      · clear h0
        go_enter Try.func27, Try.ntmps27
        go_wp2_with fail
        go_ret
        exact ⟨Ended.mk _, H.out.1, Chg.refl _ _⟩
      · clear h0
        go_enter Try.func27, Try.ntmps27
        go_wp2_with fail
        go_ret
        have hb2 := fun b => ((H.out.2.setCell 4 (.bool true)).setCell 5 (.int .i64 i)).setCell 3 (.bool b)
        have hc2 := fun b => (((Chg.refl (fun k => k = gm) w).setCell (.inr rfl) 4 (.bool true)).setCell (.inr rfl) 5 (.int .i64 i)).setCell (.inr rfl) 3 (.bool b)
        exact ⟨Ended.mk _, H.out.1.setOwn (hc2 _) (hb2 _), hc2 _⟩
  · go_enter Try.func27, Try.ntmps27
    go_wp2_with fail
    go_ret
    exact ⟨Ended.mk _, H.out.1, Chg.refl _ _⟩
def EndedS (e : Ending) : Prop := ∃ (s : ByteArray) (z : Int), e = .returned (.tuple #[.string s, .int .i64 z])
theorem mread_any (i : Int) (h : MAt w gm an af ad n) : Calls Try.prog 26 #[.pointer (some ⟨gm, 0, none⟩), .int .i64 i] w fun e w' => EndedS e ∧ w = w' := by
  have HT := Lib.hid (there_any i h)
  by_cases h0 : 0 ≤ i ∧ i < (n : Int)
  · obtain ⟨c1, c2, c3, dn, st, lf, hb⟩ := h.blk
    have q0 : w.cell? ⟨gm, 0, none⟩ = some (.slice (some ⟨an, 0, none⟩) n c1) := hb.cell 0
    obtain ⟨j, rfl⟩ : ∃ j : Nat, i = (j : Int) := ⟨i.toNat, by omega⟩
    obtain ⟨s, hs⟩ := h.now.cell (j := j) (by omega)
    have hj : (j : Int) < (n : Int) := h0.2
    have e1 : (decide (0 ≤ (j : Int)) && decide ((j : Int) < (n : Int))) = true := by simp; omega
    rw [e1] at HT
    clear h hb h0 e1
    go_enter Try.func26, Try.ntmps26
    go_wp2_with fail
    refine HT.out.mono ?_
    rintro e w' ⟨rfl, hw⟩
    subst hw
    go_wp2_with fail
    go_ret2
    exact ⟨⟨_, _, rfl⟩, rfl⟩
  · have e1 : (decide (0 ≤ i) && decide (i < (n : Int))) = false := by simp; omega
    rw [e1] at HT
    clear h h0 e1
    go_enter Try.func26, Try.ntmps26
    go_wp2_with fail
    refine HT.out.mono ?_
    rintro e w' ⟨rfl, hw⟩
    subst hw
    go_wp2_with fail
    go_ret2
    exact ⟨⟨_, _, rfl⟩, rfl⟩
def ns (n : Nat) (w w' : World) (gm an af ad : Nat) : Prop := MAt w' gm an af ad n ∧ Chg (mS gm an af ad) w w'
theorem MAt.facts (h : MAt w gm an af ad n) {j : Nat} (hj : j < n) : ∃ c1 c2 c3 s1 s2 b, w.cell? ⟨gm, 0, none⟩ = some (.slice (some ⟨an, 0, none⟩) n c1) ∧ w.cell? ⟨gm, 1, none⟩ = some (.slice (some ⟨af, 0, none⟩) n c2) ∧ w.cell? ⟨gm, 2, none⟩ = some (.slice (some ⟨ad, 0, none⟩) n c3) ∧
    w.cell? ⟨an, j, none⟩ = some (.string s1) ∧ w.cell? ⟨af, j, none⟩ = some (.string s2) ∧ w.cell? ⟨ad, j, none⟩ = some (.bool b) ∧ w.frozen? ⟨an, j, none⟩ = false ∧ w.frozen? ⟨af, j, none⟩ = false ∧ w.frozen? ⟨ad, j, none⟩ = false := by
  obtain ⟨c1, c2, c3, dn, st, lf, hb⟩ := h.blk
  obtain ⟨s1, h1⟩ := h.now.cell hj
  obtain ⟨s2, h2⟩ := h.safe.cell hj
  obtain ⟨b, h3⟩ := h.dirty.cell hj
  exact ⟨c1, c2, c3, s1, s2, b, hb.cell 0, hb.cell 1, hb.cell 2, h1, h2, h3, h.now.frozen j, h.safe.frozen j, h.dirty.frozen j⟩
theorem MAt.drew (h : MAt w gm an af ad n) : MAt w.drew gm an af ad n := h.chg (S := fun _ => False) (Chg.refl _ _).drew fun _ h => absurd h id
set_option maxRecDepth 20000 in
set_option maxHeartbeats 1600000 in
theorem mflush_any (h : MAt w gm an af ad n) : Calls Try.prog 25 #[.pointer (some ⟨gm, 0, none⟩)] w fun e w' => Ended e ∧ MAt w' gm an af ad n ∧ Chg (mS gm an af ad) w w' := by
  obtain ⟨c1, c2, c3, dn, st, lf, hb⟩ := h.blk
  have q3 : w.cell? ⟨gm, 3, none⟩ = some (.bool dn) := hb.cell 3
  have hn := h.len
  obtain ⟨hn1, hn2⟩ := hn
  have H := Lib.hid h
  clear h hb
  cases dn
  · go_enter Try.func25, Try.ntmps25
    go_wp2_with fail
    clear q3
    go_loopw [3] (fun i wr => ∃ k : Nat, k ≤ n ∧ i = .int .i64 k ∧ MAt wr gm an af ad n ∧ Chg (mS gm an af ad) w wr) (fun i _ => n - (intOf i).toNat)
    case atStart => exact ⟨0, by omega, rfl, H.out, Chg.refl _ _⟩
    case round =>
      obtain ⟨k, hk, rfl, hm, hc⟩ := hrel
      by_cases hlt : k < n
      · have g3 : (k : Int) < (n : Int) := by omega
        obtain ⟨c1, c2, c3, s1, s2, b, q0, q1, q2, q3, q4, q5, z1, z2, z3⟩ := hm.facts hlt
        have hne1 := hm.gmS
        have hne2 := hm.sD
        have hm2 := (hm.drew.setSafe k s1).setDirty k false
        have hc2 : Chg (mS gm an af ad) w ((wr.drew.setCell ⟨af, k, none⟩ (.string s1)).setCell ⟨ad, k, none⟩ (.bool false)) := ((hc.drew).setCell (.inr (.inr (.inr (.inl rfl)))) _ _).setCell (.inr (.inr (.inr (.inr rfl)))) _ _
        have H2 := Lib.hid (And.intro hm2 hc2); clear hm2 hc2 hm hc
        go_wp2_with fail
        go_still_tail 13, (by kernel_rfl)
        change wpList _ _ _ _ _ wr.drew
        go_wp2_with fail
        go_roundw
        case rel => exact ⟨k + 1, by omega, by go_num, H2.out.1, H2.out.2⟩
        case measure => simp [intOf]; omega
      · obtain rfl : k = n := by omega
        obtain ⟨c1, c2, c3, dn, st, lf, hb⟩ := hm.blk
        have q0 : wr.cell? ⟨gm, 0, none⟩ = some (.slice (some ⟨an, 0, none⟩) k c1) := hb.cell 0
        have HM := Lib.hid (And.intro (mstep_any hm) hc)
        clear hm hc hb
        go_wp2_with fail
        refine HM.out.1.mono ?_
        rintro e w2 ⟨⟨z, rfl⟩, hm2, hc2⟩
        have H2 := Lib.hid (And.intro hm2 (HM.out.2.trans hc2 (fun _ _ h => .inl h))); clear hm2 hc2
        go_wp2_with fail
        go_ret
        exact ⟨Ended.mk _, H2.out.1, H2.out.2⟩
  · go_enter Try.func25, Try.ntmps25
    go_wp2_with fail
    go_ret
    exact ⟨Ended.mk _, H.out, Chg.refl _ _⟩
end
end Go.Proofs.Ytmddpjdgnamlnaa
