/- The document's rows. -/
import Derived.Test.YtmddpjdgnamlnaaCrash
namespace Go.Proofs.Ytmddpjdgnamlnaa
open Go.RowKit Go.Maps
attribute [-go_sem] loadCellsFrom storeCells
attribute [local go_sem] storeCells_one run_makeMap Sec.cells_len

def one (c : UInt8) : Sec := Sec.of [c] (by simp)
def aw1 : Dk := (Dk.new 4).write 1 (one 97)
def aw2 : Dk := aw1.flushed.step
def aw3 : Dk := aw2.write 1 (one 98)
def aw4 : Dk := aw3.write 3 (one 99)
def aw5 : Dk := aw4.crash [false, true]
theorem aw_keys : keysN aw4.now.length aw4.was = [1, 3] := by kernel_rfl
theorem aw_now : aw5.now = [Sec.zero, one 97, Sec.zero, one 99] := by
  unfold aw5 Dk.crash
  rw [aw_keys]
  kernel_rfl
theorem aw5_down : aw5.down = false := rfl
theorem aw5_len : aw5.now.length = 4 := by rw [aw_now]; rfl
theorem rd_one {w : World} (c : UInt8) (n : Int) (hn : n = (c.toNat : Int)) : Rd (w.alloc (.cells #[.int .u8 n] 5 (1, 2))) (w.heap.size + 1) (some ⟨w.heap.size, 0, none⟩) (bv [c]) :=
  .inr ⟨_, 0, rfl, by omega, fun j u hu => by
    subst hn
    have h : (w.alloc (.cells #[.int .u8 (c.toNat : Int)] 5 (1, 2))).heap[w.heap.size]? = some (.cells #[.int .u8 (c.toNat : Int)] 5 (1, 2)) := heap_alloc_new w _
    rw [Nat.zero_add]
    simp only [World.cell?, h]
    simpa [bv] using hu⟩
/-- '[]byte("a")' of a constant. -/
theorem conv_one (w : World) (n : Int) : (convert 32 32 (.slice (some ⟨w.heap.size, 0, none⟩) 1 1)).run Try.prog (w.alloc (.cells #[.int .u8 n] 5)) = .ok (.slice (some ⟨w.heap.size, 0, none⟩) 1 1) (w.alloc (.cells #[.int .u8 n] 5 (1, 2))) :=
  Lib.run_convert_bytes_const w 32 5 #[.int .u8 n] 1 1 Try.underlying32 Try.underlying5
theorem rd_two {w : World} (a b : Bool) (t : TypeId) : Rd (w.alloc (.cells #[.bool a, .bool b] t)) (w.heap.size + 1) (some ⟨w.heap.size, 0, none⟩) (tv [a, b]) :=
  .inr ⟨_, 0, rfl, by omega, fun j u hu => by
    have h := (Blk.new w t [.bool a, .bool b]).cell (0 + j)
    rw [Nat.zero_add] at h ⊢
    exact h.trans hu⟩
set_option maxRecDepth 100000 in
set_option maxHeartbeats 6400000 in
theorem awake_any (w : World) : Calls Try.prog 16 #[] w fun e w' => e = .returned (.bool true) ∧ Below w.heap.size w w' := by
  go_enter Try.func16, Try.ntmps16
  go_wp2_with fail
  refine (dnew_any 4 w (by omega) (by omega)).mono ?_
  rintro e w1 ⟨g, gl, mb, rfl, hd0, hg, hgl, hmb, hb1⟩
  have hS : ∀ i, dkS g gl mb i → w.heap.size ≤ i := by rintro i (rfl | rfl | rfl) <;> assumption
  have H1 := Lib.hid (And.intro hd0 (And.intro hS hb1)); clear hd0 hb1 hS hg hgl hmb
  go_wp2_with fail
  refine (dnew_no 0 w1 (by omega)).mono ?_
  rintro e w1' ⟨rfl, hw⟩
  subst hw
  have hdk1 := H1.out.1.below ((Below.refl _ _).alloc (Nat.le_refl w1.heap.size) (.cells #[.int .u8 97] 5 (1, 2)))
  have hb1' := H1.out.2.2.alloc (H1.out.2.2.size) (.cells #[.int .u8 97] 5 (1, 2))
  have HW1 := Lib.hid (write_ok 1 _ _ 1 1 [97] hdk1 rfl (by decide) (rd_one 97 97 rfl) rfl (by simp))
  have HB1 := Lib.hid hb1'
  have hcv1 := conv_one w1 97
  clear hdk1 hb1'
  go_wp2_with fail
  clear hcv1
  refine HW1.out.mono ?_
  rintro e w2 ⟨rfl, hd2, hc2⟩
  have hb2 : Below w.heap.size w w2 := HB1.out.trans (hc2.below H1.out.2.1 HB1.out.size)
  have H2 := Lib.hid (And.intro (show DiskAt w2 g gl mb aw1 from hd2) (And.intro trivial hb2)); clear hd2 hc2 hb2
  go_wp2_with fail
  refine (flush_ok H2.out.1 rfl).mono ?_
  rintro e w3 ⟨rfl, hd3, hc3⟩
  have hb3 : Below w.heap.size w w3 := H2.out.2.2.trans (hc3.below (fun i hi => H1.out.2.1 i (by rcases hi with h | h; exact .inl h; exact .inr (.inr h))) H2.out.2.2.size)
  have H3 := Lib.hid (And.intro (show DiskAt w3 g gl mb aw2 from hd3) (And.intro trivial hb3)); clear hd3 hc3 hb3
  have hdk3 := H3.out.1.below ((Below.refl _ _).alloc (Nat.le_refl w3.heap.size) (.cells #[.int .u8 98] 5 (1, 2)))
  have hb3' := H3.out.2.2.alloc (H3.out.2.2.size) (.cells #[.int .u8 98] 5 (1, 2))
  have HW3 := Lib.hid (write_ok 1 _ _ 1 1 [98] hdk3 rfl (by decide) (rd_one 98 98 rfl) rfl (by simp))
  have HB3 := Lib.hid hb3'
  have hcv3 := conv_one w3 98
  clear hdk3 hb3'
  go_wp2_with fail
  clear hcv3
  refine HW3.out.mono ?_
  rintro e w4 ⟨rfl, hd4, hc4⟩
  have hb4 : Below w.heap.size w w4 := HB3.out.trans (hc4.below H1.out.2.1 HB3.out.size)
  have H4 := Lib.hid (And.intro (show DiskAt w4 g gl mb aw3 from hd4) (And.intro trivial hb4)); clear hd4 hc4 hb4
  have hdk4 := H4.out.1.below ((Below.refl _ _).alloc (Nat.le_refl w4.heap.size) (.cells #[.int .u8 99] 5 (1, 2)))
  have hb4' := H4.out.2.2.alloc (H4.out.2.2.size) (.cells #[.int .u8 99] 5 (1, 2))
  have HW4 := Lib.hid (write_ok 3 _ _ 1 1 [99] hdk4 rfl (by decide) (rd_one 99 99 rfl) rfl (by simp))
  have HB4 := Lib.hid hb4'
  have hcv4 := conv_one w4 99
  clear hdk4 hb4'
  go_wp2_with fail
  clear hcv4
  refine HW4.out.mono ?_
  rintro e w5 ⟨rfl, hd5, hc5⟩
  have hb5 : Below w.heap.size w w5 := HB4.out.trans (hc5.below H1.out.2.1 HB4.out.size)
  have H5 := Lib.hid (And.intro (show DiskAt w5 g gl mb aw4 from hd5) (And.intro trivial hb5)); clear hd5 hc5 hb5
  have hdk5 := H5.out.1.below ((Below.refl _ _).alloc (Nat.le_refl w5.heap.size) (.cells #[.bool false, .bool true] 4))
  have hb5' := H5.out.2.2.alloc (H5.out.2.2.size) (.cells #[.bool false, .bool true] 4)
  have HW5 := Lib.hid (crash_any [false, true] _ 2 2 (w5.heap.size + 1) hdk5 (rd_two false true 4) rfl (by simp))
  have HB5 := Lib.hid hb5'
  clear hdk5 hb5'
  go_wp2_with fail
  refine HW5.out.mono ?_
  rintro e w6 ⟨rfl, hd6, hc6⟩
  have hb6 : Below w.heap.size w w6 := HB5.out.trans (hc6.below H1.out.2.1 HB5.out.size)
  have H6 := Lib.hid (And.intro (show DiskAt w6 g gl mb aw5 from hd6) (And.intro trivial hb6)); clear hd6 hc6 hb6
  have hr1 := read_ok 1 H6.out.1 (by rw [aw5_len]; omega)
  simp only [aw_now, List.getElem_cons_succ, List.getElem_cons_zero] at hr1
  have HR1 := Lib.hid hr1; clear hr1
  go_wp2_with fail
  refine HR1.out.mono ?_
  rintro e w7 ⟨rfl, hk7, hb7⟩
  have hd7 := H6.out.1.below hb7
  have H7 := Lib.hid (And.intro hd7 (And.intro hk7 (And.intro hb7 (H6.out.2.2.trans (hb7.mono H6.out.2.2.size))))); clear hd7 hk7 hb7
  have hr1 := read_ok 3 H7.out.1 (by rw [aw5_len]; omega)
  simp only [aw_now, List.getElem_cons_succ, List.getElem_cons_zero] at hr1
  have HR1 := Lib.hid hr1; clear hr1
  go_wp2_with fail
  refine HR1.out.mono ?_
  rintro e w8 ⟨rfl, hk8, hb8⟩
  have q1 : w8.cell? ⟨w6.heap.size, 0, none⟩ = some (.int .u8 97) := (H7.out.2.1.below hb8 H7.out.2.1.lt).cell 0
  have q2 : w8.cell? ⟨w7.heap.size, 0, none⟩ = some (.int .u8 99) := hk8.cell 0
  have hd8 := H7.out.1.below hb8
  have HW8 := Lib.hid (write_bad 4 (.slice none 0 0) hd8 aw5_down (by simp [inD, aw5_len]))
  have hs8 := size_any hd8
  rw [aw5_len] at hs8
  have HS8 := Lib.hid hs8
  have HB8 := Lib.hid (H7.out.2.2.2.trans (hb8.mono H7.out.2.2.2.size))
  clear hk8 hb8 hd8 hs8
  go_wp2_with fail
  refine HW8.out.mono ?_
  rintro e w' ⟨rfl, hw⟩
  subst hw
  go_wp2_with fail
  refine HS8.out.mono ?_
  rintro e w' ⟨rfl, hw⟩
  subst hw
  go_wp2_with fail
  go_ret
  exact ⟨rfl, HB8.out⟩
end Go.Proofs.Ytmddpjdgnamlnaa
