/- A disk's deeds, in short: it ends, and stays a disk. -/
import Derived.Test.YtmddpjdgnamlnaaRefN
import Derived.Test.YtmddpjdgnamlnaaLarge07
import Derived.Test.YtmddpjdgnamlnaaAwake07
import Derived.Test.YtmddpjdgnamlnaaKeep
namespace Go.Proofs.Ytmddpjdgnamlnaa
open Go.RowKit Go.Maps
attribute [-go_sem] loadCellsFrom storeCells
attribute [local go_sem] storeCells_one run_makeMap Sec.cells_len

/-- Some disk of so many sectors. -/
def SomeDisk (w : World) (g gl mb n : Nat) : Prop := ∃ d, DiskAt w g gl mb d ∧ d.now.length = n
section
variable {g gl mb n gm an af ad k : Nat} {w w' : World} {d : Dk}
theorem SomeDisk.chg {S : Nat → Prop} (h : SomeDisk w g gl mb n) (hc : Chg S w w') (hn : ∀ i, S i → ¬ dkS g gl mb i) : SomeDisk w' g gl mb n := by
  obtain ⟨d, hd, hl⟩ := h
  exact ⟨d, hd.chg hc (fun h => hn _ h (.inl rfl)) (fun h => hn _ h (.inr (.inl rfl))) (fun h => hn _ h (.inr (.inr rfl))), hl⟩
theorem SomeDisk.below (h : SomeDisk w g gl mb n) (hb : Below w.heap.size w w') : SomeDisk w' g gl mb n := h.chg (S := fun _ => False) (Chg.of_below hb) fun _ h => absurd h id
theorem SomeDisk.lt (h : SomeDisk w g gl mb n) : ∀ i, dkS g gl mb i → i < w.heap.size := by
  obtain ⟨d, hd, _⟩ := h
  rintro i (rfl | rfl | rfl)
  · exact hd.blk.lt
  · exact hd.row.lt
  · exact hd.map.lt
theorem MAt.lt (h : MAt w gm an af ad n) : ∀ i, mS gm an af ad i → i < w.heap.size := by
  obtain ⟨_, _, _, _, _, _, hb⟩ := h.blk
  obtain ⟨_, h1, _⟩ := h.now
  obtain ⟨_, h2, _⟩ := h.safe
  obtain ⟨_, h3, _⟩ := h.dirty
  rintro i (rfl | rfl | rfl | rfl)
  · exact hb.lt
  · exact h1.lt
  · exact h2.lt
  · exact h3.lt
theorem apart (h : SomeDisk w g gl mb k) (hm : MAt w gm an af ad n) : ∀ i, dkS g gl mb i → ¬ mS gm an af ad i := by
  obtain ⟨d, hd, _⟩ := h
  obtain ⟨_, _, _, _, _, _, hb⟩ := hm.blk
  obtain ⟨_, h1, _⟩ := hm.now
  obtain ⟨_, h2, _⟩ := hm.safe
  obtain ⟨_, h3, _⟩ := hm.dirty
  rintro i (rfl | rfl | rfl) (h | h | h | h)
  · exact blk_ne hd.blk hb (by decide) h
  · exact blk_ne hd.blk h1 (by decide) h
  · exact blk_ne hd.blk h2 (by decide) h
  · exact blk_ne hd.blk h3 (by decide) h
  · exact blk_ne hd.row hb (by decide) h
  · exact blk_ne hd.row h1 (by decide) h
  · exact blk_ne hd.row h2 (by decide) h
  · exact blk_ne hd.row h3 (by decide) h
  · exact hd.map.not_blk hb h.symm
  · exact hd.map.not_blk h1 h.symm
  · exact hd.map.not_blk h2 h.symm
  · exact hd.map.not_blk h3 h.symm
theorem Dk.step_len (d : Dk) : d.step.now.length = d.now.length := by
  unfold Dk.step
  split <;> rfl
theorem Dk.write_len (d : Dk) (i : Nat) (s : Sec) : (d.write i s).now.length = d.now.length := by
  unfold Dk.write
  rw [Dk.step_len]
  simp [Dk.put, Dk.save]
theorem write_w (i : Int) (A : Option Addr) (m c B : Nat) (l : List UInt8) (h : SomeDisk w g gl mb n) (hr : Rd w B A (bv l)) (hl : l.length = m) :
    Calls Try.prog 15 #[.pointer (some ⟨g, 0, none⟩), .int .i64 i, .slice A m c] w fun e w' => Ended e ∧ SomeDisk w' g gl mb n ∧ Chg (dkS g gl mb) w w' := by
  obtain ⟨d, hd, hn⟩ := h
  cases hdn : d.down
  · cases hi : inD d i
    · refine (write_bad i _ hd hdn hi).mono ?_
      rintro e w' ⟨rfl, rfl⟩
      exact ⟨Ended.mk _, ⟨d, hd, hn⟩, Chg.refl _ _⟩
    · simp [inD] at hi
      obtain ⟨j, rfl⟩ : ∃ j : Nat, i = (j : Int) := ⟨i.toNat, by omega⟩
      by_cases hm : 64 < m
      · refine (write_long j A m c hd hdn (by omega) hm).mono ?_
        rintro e w' ⟨rfl, rfl⟩
        exact ⟨Ended.mk _, ⟨d, hd, hn⟩, Chg.refl _ _⟩
      · refine (write_ok j B A m c l hd hdn (by omega) hr hl (by omega)).mono ?_
        rintro e w' ⟨rfl, hd', hc⟩
        exact ⟨Ended.mk _, ⟨_, hd', by rw [Dk.write_len, hn]⟩, hc⟩
  · refine (write_down i _ hd hdn).mono ?_
    rintro e w' ⟨rfl, rfl⟩
    exact ⟨Ended.mk _, ⟨d, hd, hn⟩, Chg.refl _ _⟩
theorem flush_w (h : SomeDisk w g gl mb n) : Calls Try.prog 13 #[.pointer (some ⟨g, 0, none⟩)] w fun e w' => Ended e ∧ SomeDisk w' g gl mb n ∧ Chg (dkS g gl mb) w w' := by
  obtain ⟨d, hd, hn⟩ := h
  cases hdn : d.down
  · refine (flush_ok hd hdn).mono ?_
    rintro e w' ⟨rfl, hd', hc⟩
    refine ⟨Ended.mk _, ⟨_, hd', by rw [Dk.step_len, ← hn]; rfl⟩, hc.mono fun i _ h => ?_⟩
    rcases h with h | h
    · exact .inl h
    · exact .inr (.inr h)
  · refine (flush_down hd hdn).mono ?_
    rintro e w' ⟨rfl, rfl⟩
    exact ⟨Ended.mk _, ⟨d, hd, hn⟩, Chg.refl _ _⟩
theorem stop_w (i : Int) (h : SomeDisk w g gl mb n) : Calls Try.prog 20 #[.pointer (some ⟨g, 0, none⟩), .int .i64 i] w fun e w' => Ended e ∧ SomeDisk w' g gl mb n ∧ Chg (dkS g gl mb) w w' := by
  obtain ⟨d, hd, hn⟩ := h
  cases hdn : d.down
  · cases hi : okStop i
    · refine (stop_bad i hd hdn hi).mono ?_
      rintro e w' ⟨rfl, rfl⟩
      exact ⟨Ended.mk _, ⟨d, hd, hn⟩, Chg.refl _ _⟩
    · refine (stop_ok i hd hdn hi).mono ?_
      rintro e w' ⟨rfl, hd', hc⟩
      exact ⟨Ended.mk _, ⟨_, hd', hn⟩, hc.mono fun i _ h => .inl h⟩
  · refine (stop_down i hd hdn).mono ?_
    rintro e w' ⟨rfl, rfl⟩
    exact ⟨Ended.mk _, ⟨d, hd, hn⟩, Chg.refl _ _⟩
theorem crash_w (keep : List Bool) (A : Option Addr) (m c B : Nat) (h : SomeDisk w g gl mb n) (hr : Rd w B A (tv keep)) (hl : keep.length = m) (hB : B ≤ w.heap.size) :
    Calls Try.prog 12 #[.pointer (some ⟨g, 0, none⟩), .slice A m c] w fun e w' => e = .returned (.int .i64 0) ∧ SomeDisk w' g gl mb n ∧ Chg (dkS g gl mb) w w' := by
  obtain ⟨d, hd, hn⟩ := h
  refine (crash_any keep A m c B hd hr hl hB).mono ?_
  rintro e w' ⟨rfl, hd', hc⟩
  exact ⟨rfl, ⟨_, hd', by rw [← hn]; exact crTo_len _ _ _ _ _⟩, hc⟩
/-- What Read tells: nothing, or a sector's bytes in a block of their own. -/
def Told (w w' : World) (e : Ending) : Prop := (∃ z : Int, e = .returned (.tuple #[.slice none 0 0, .int .i64 z]) ∧ w = w') ∨ ∃ s : Sec, e = .returned (.tuple #[.slice (some ⟨w.heap.size, 0, none⟩) 64 64, .int .i64 0]) ∧ Blk w' w.heap.size 68 s.cells ∧ Below w.heap.size w w'
theorem read_w (i : Int) (h : SomeDisk w g gl mb n) : Calls Try.prog 19 #[.pointer (some ⟨g, 0, none⟩), .int .i64 i] w fun e w' => Told w w' e := by
  obtain ⟨d, hd, hn⟩ := h
  cases hi : inD d i
  · refine (read_bad i hd hi).mono ?_
    rintro e w' ⟨rfl, rfl⟩
    exact .inl ⟨_, rfl, rfl⟩
  · simp [inD] at hi
    obtain ⟨j, rfl⟩ : ∃ j : Nat, i = (j : Int) := ⟨i.toNat, by omega⟩
    refine (read_ok j hd (by omega)).mono ?_
    rintro e w' ⟨rfl, hk, hb⟩
    exact .inr ⟨_, rfl, hk, hb⟩
end
end Go.Proofs.Ytmddpjdgnamlnaa
