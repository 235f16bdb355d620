/- Crash. -/
import Derived.Test.YtmddpjdgnamlnaaWrite
namespace Go.Proofs.Ytmddpjdgnamlnaa
open Go.RowKit Go.Maps
attribute [-go_sem] loadCellsFrom storeCells
attribute [local go_sem] storeCells_one run_makeMap Sec.cells_len

/-- What a choice leaves of one dirty sector. -/
def crStep (keep : List Bool) (f : Nat → Option Sec) (l : List Sec) (j a : Nat) : List Sec := if keep.getD j false = true then l else l.set a ((f a).getD Sec.zero)
def crTo (keep : List Bool) (f : Nat → Option Sec) (ks : List Nat) (l : List Sec) : Nat → List Sec
  | 0 => l
  | j + 1 => crStep keep f (crTo keep f ks l j) j (ks.getD j 0)
theorem crTo_len (keep : List Bool) (f : Nat → Option Sec) (ks : List Nat) (l : List Sec) (j : Nat) : (crTo keep f ks l j).length = l.length := by
  induction j with
  | zero => rfl
  | succ j ih =>
    simp only [crTo, crStep]
    split
    · exact ih
    · rw [List.length_set, ih]
def Dk.has (d : Dk) (l : List Sec) : Dk := ⟨l, d.was, d.down, d.stops, d.left⟩
def Dk.crash (d : Dk) (keep : List Bool) : Dk := ⟨crTo keep d.was (keysN d.now.length d.was) d.now (keysN d.now.length d.was).length, fun _ => none, false, false, d.left⟩
/-- The cells of a list of bools. -/
def tv (l : List Bool) : List Value := l.map Value.bool
theorem tv_at (l : List Bool) (i : Nat) (h : i < l.length) : (tv l)[i]? = some (.bool (l[i]'h)) := by simp [tv, h]
def nv (l : List Nat) : List Value := l.map fun i : Nat => .int .i64 (i : Int)
theorem nv_at (l : List Nat) (i : Nat) (h : i < l.length) : (nv l)[i]? = some (.int .i64 ((l[i]'h : Nat) : Int)) := by simp [nv, h]
theorem Rd.chgv {B : Nat} {A : Option Addr} {xs : List Value} {w w' : World} {T : Nat → Prop} (hr : Rd w B A xs) (hc : Chg T w w') (hT : ∀ b off u, T b → w.cell? ⟨b, off, none⟩ = some u → u ∉ xs) : Rd w' B A xs := by
  rcases hr with h | ⟨b, off, e, hb, hcell⟩
  · exact .inl h
  · refine .inr ⟨b, off, e, hb, fun j u hu => ?_⟩
    have h1 := hcell j u hu
    have hlt : b < w.heap.size := World.block_lt_of_cell? w _ h1
    have hn : ¬ T b := fun ht => hT b _ u ht h1 (List.mem_of_getElem? hu)
    have e2 := hc.block b hlt hn
    rw [← h1]
    simp only [World.cell?, e2]
section
variable {g gl mb : Nat} {d : Dk} {w : World}
/-- What lies in a disk's own block, in its sectors. -/
theorem DiskAt.sec_cell (h : DiskAt w g gl mb d) {off : Nat} {u : Value} (hu : w.cell? ⟨gl, off, none⟩ = some u) : ∃ x : Int, u = .int .u8 x := by
  rw [h.row.cell] at hu
  have hm := List.mem_of_getElem? hu
  simp only [secCells, List.mem_flatten, List.mem_map] at hm
  obtain ⟨r, ⟨p, hp, rfl⟩, hu⟩ := hm
  simp only [Sec.cells, bv, List.mem_map] at hu
  obtain ⟨c, _, rfl⟩ := hu
  exact ⟨_, rfl⟩
theorem DiskAt.rd_bools (h : DiskAt w g gl mb d) {w' : World} (hc : Chg (fun k => k = gl) w w') {B : Nat} {A : Option Addr} {l : List Bool} (hr : Rd w B A (tv l)) : Rd w' B A (tv l) :=
  hr.chgv hc fun b off u hb hu => by
    subst hb
    obtain ⟨x, rfl⟩ := h.sec_cell hu
    simp [tv]
theorem DiskAt.rd_nats (h : DiskAt w g gl mb d) {w' : World} (hc : Chg (fun k => k = gl) w w') {B : Nat} {A : Option Addr} {l : List Nat} (hr : Rd w B A (nv l)) : Rd w' B A (nv l) :=
  hr.chgv hc fun b off u hb hu => by
    subst hb
    obtain ⟨x, rfl⟩ := h.sec_cell hu
    simp [nv]
theorem crash_nil (v : Value) (w : World) : Calls Try.prog 12 #[.pointer none, v] w fun e w' => e = .returned (.int .i64 3) ∧ w = w' := by
  go_enter Try.func12, Try.ntmps12
  go_wp2_with fail
  go_ret
  exact ⟨rfl, rfl⟩
/-- What a round that stores leaves. -/
theorem crash_facts {wr : World} {l : List Sec} (h : DiskAt wr g gl mb (d.has l)) {a : Nat} (ha : a < l.length) {t : Sec} (ht : d.was a = some t) :
    ∃ w5 w6, wr.drew = w5 ∧ (Instr.lookup 51 (.map (some mb)) (.int .i64 (a : Int)) false).run Try.prog wr.drew = .ok (.agg t.cells.toArray) wr.drew ∧
      Sem.run Try.prog (storeCells ⟨gl, a * 64, none⟩ t.cells 0) w5 = .ok () w6 ∧ DiskAt w6 g gl mb (d.has (l.set a t)) ∧ Chg (fun k => k = gl) wr w6 := by
  have hc5 : Chg (fun _ => False) wr wr.drew := (Chg.refl _ _).drew
  have hd5 := h.chg hc5 id id id
  refine ⟨wr.drew, _, rfl, get_map hd5.map h.len.2 ha ht, hd5.store ha t, hd5.put a t, ?_⟩
  have hc5' : Chg (fun k => k = gl) wr wr.drew := hc5.mono (fun _ _ h => absurd h id)
  exact hc5'.setRow (.inr rfl) _
set_option maxRecDepth 20000 in
set_option maxHeartbeats 3200000 in
theorem crash_any (keep : List Bool) (A : Option Addr) (n c B : Nat) (h : DiskAt w g gl mb d) (hr : Rd w B A (tv keep)) (hl : keep.length = n) (hB : B ≤ w.heap.size) :
    Calls Try.prog 12 #[.pointer (some ⟨g, 0, none⟩), .slice A n c] w fun e w' => e = .returned (.int .i64 0) ∧ DiskAt w' g gl mb (d.crash keep) ∧ Chg (dkS g gl mb) w w' := by
  have hmx : Try.prog.follows .mixedOrders = true := by kernel_rfl
  have q1 : w.cell? ⟨g, 1, none⟩ = some (.map (some mb)) := h.blk.cell 1
  have hb1 : Below w.heap.size w (w.alloc (.cells #[.map (some mb)] 51)) := (Below.refl _ _).alloc (Nat.le_refl _) _
  have hk1 := Blk.new w 51 [.map (some mb)]
  have hd1 := h.below hb1
  obtain ⟨w1, hw1⟩ : ∃ w1, w.alloc (.cells #[.map (some mb)] 51) = w1 := ⟨_, rfl⟩
  have hs1 : w1.heap.size = w.heap.size + 1 := by rw [← hw1]; simp
  rw [show [Value.map (some mb)].toArray = #[.map (some mb)] from rfl, hw1] at hk1
  rw [hw1] at hb1 hd1
  obtain ⟨D, hown, hR⟩ := hd1.map
  have hsz := size_rep hown hR
  have hcS := sorted_any w.heap.size mb _ D RS w1 (by omega) (hk1.cell 0) hown (by have := h.len.2; unfold maxLen; omega) (by have := h.len.2; omega)
  have HK := Lib.hid (keys_any (some mb) w)
  have HS := Lib.hid hcS
  have hks : ∀ ss : List Int, ss.Perm (intKeys D) → (ss.mergeSort fun x y => decide (x ≤ y)) = (keysN d.now.length d.was).map fun i : Nat => (i : Int) := fun ss hs => keys_sorted hown hR hs
  obtain ⟨ks, hksd⟩ : ∃ ks, keysN d.now.length d.was = ks := ⟨_, rfl⟩
  rw [hksd] at hks
  have hm4 : ks.length ≤ 4096 := by rw [← hksd]; exact Nat.le_trans (keysN_len _ _) h.len.2
  have hcr : d.crash keep = ⟨crTo keep d.was ks d.now ks.length, fun _ => none, false, false, d.left⟩ := by unfold Dk.crash; rw [hksd]
  have H := Lib.hid (And.intro h (And.intro hr (And.intro hl (And.intro hb1 (And.intro hks (And.intro hcr (And.intro hksd hw1)))))))
  clear h hr hl hb1 hk1 hd1 hs1 hown hR hsz hcS hks hcr
  go_enter Try.func12, Try.ntmps12
  go_wp2_with fail
  refine HK.out.mono ?_
  rintro e w1' ⟨rfl, hw⟩
  rw [H.out.2.2.2.2.2.2.2] at hw
  subst hw
  go_wp2_with fail
  refine HS.out.mono ?_
  rintro e w2 ⟨v, ss, rfl, hperm, hown2, hb2⟩
  have hm := H.out.2.2.2.2.1 ss hperm
  rw [hm] at hown2
  have hlen : ss.length = ks.length := by
    have := congrArg List.length hm
    rw [List.length_mergeSort, List.length_map] at this
    exact this
  rw [hlen] at hown2
  have hnv : List.map encZ (ks.map fun i : Nat => (i : Int)) = nv ks := by simp [nv, encZ]
  rw [hnv] at hown2
  obtain ⟨Av, cv, hv, hcv, _⟩ := own_is_slice hown2
  subst hv
  have hrv : Rd w2 w2.heap.size Av (nv ks) := Rd.of_own hown2
  have hb02 : Below w.heap.size w w2 := H.out.2.2.2.1.trans (hb2.mono H.out.2.2.2.1.size)
  have hd2 := H.out.1.below hb02
  have hr2 : Rd w2 B A (tv keep) := H.out.2.1.below hb02 hB
  have H2 := Lib.hid (And.intro hd2 (And.intro hrv (And.intro hr2 hb02)))
  clear hperm hown2 hb2 hm hlen hnv hrv hb02 hd2 hr2 hcv
  go_wp2_with fail
  go_loopw [5, 6, 16] (fun _ _ i wr => ∃ j : Nat, j ≤ ks.length ∧ i = .int .i64 j ∧ DiskAt wr g gl mb (d.has (crTo keep d.was ks d.now j)) ∧ Chg (fun k => k = gl) w2 wr) (fun _ _ i _ => ks.length - (intOf i).toNat)
  case atStart => exact ⟨0, by omega, rfl, H2.out.1, Chg.refl _ _⟩
  case round =>
    obtain ⟨j, hj, rfl, hdr, hcr⟩ := hrel
    have HB := Lib.hid (And.intro hdr hcr)
    have q0 : wr.cell? ⟨g, 0, none⟩ = some (.slice (some ⟨gl, 0, none⟩) d.now.length d.now.length) := by
      have := hdr.blk.cell 0
      rw [show (d.has (crTo keep d.was ks d.now j)).now.length = d.now.length from crTo_len _ _ _ _ _] at this
      exact this
    have q1 : wr.cell? ⟨g, 1, none⟩ = some (.map (some mb)) := hdr.blk.cell 1
    clear hdr hcr
    by_cases hjk : j < ks.length
    · obtain ⟨a, ha0⟩ : ∃ a, ks[j]'hjk = a := ⟨_, rfl⟩
      have hg3 : (j : Int) < (ks.length : Int) := by omega
      obtain ⟨b, off, hA, hcell⟩ : ∃ b off, Av = some ⟨b, off, none⟩ ∧ wr.cell? ⟨b, off + j, none⟩ = some (.int .i64 (a : Int)) := by
        rcases H2.out.1.rd_nats HB.out.2 H2.out.2.1 with h | ⟨b, off, e, _, hc⟩
        · have := congrArg List.length h; simp [nv] at this; subst this; simp at hjk
        · exact ⟨b, off, e, hc j _ (by rw [nv_at ks j hjk, ha0])⟩
      subst hA
      have hksm : ks[j]'hjk ∈ keysN d.now.length d.was := by rw [H.out.2.2.2.2.2.2.1]; exact List.getElem_mem hjk
      rw [ha0] at hksm
      have hkk := keysN_lt hksm
      clear hksm
      by_cases hjn : j < n
      · have hgn : ¬ ((n : Int) ≤ (j : Int)) := by omega
        have hgn2 : (j : Int) < (n : Int) := by omega
        have hjk2 : j < keep.length := by rw [H.out.2.2.1]; exact hjn
        obtain ⟨kp, hkp0⟩ : ∃ kp, keep[j]'hjk2 = kp := ⟨_, rfl⟩
        obtain ⟨b2, off2, hA2, hcell2⟩ : ∃ b off, A = some ⟨b, off, none⟩ ∧ wr.cell? ⟨b, off + j, none⟩ = some (.bool kp) := by
          rcases H2.out.1.rd_bools HB.out.2 H2.out.2.2.1 with h | ⟨b, off, e, _, hc⟩
          · have := congrArg List.length h; simp [tv] at this; subst this; simp at hjk2
          · exact ⟨b, off, e, hc j _ (by rw [tv_at keep j hjk2, hkp0])⟩
        subst hA2
        have hkp : keep.getD j false = kp := by rw [List.getD_eq_getElem?_getD, List.getElem?_eq_getElem hjk2, Option.getD_some, hkp0]
        clear hkp0 hjk2 hjn
        cases kp
        · obtain ⟨t, hwas⟩ := Option.isSome_iff_exists.1 hkk.2
          obtain ⟨w5, w6, hw5, hlk5, hst5, hd6, hc6⟩ := crash_facts HB.out.1 (a := a) (by rw [crTo_len]; exact hkk.1) hwas
          have HW5 := Lib.hid hw5
          have H6 := Lib.hid (And.intro hd6 (HB.out.2.trans hc6 (fun _ _ h => h)))
          have hn1 : ¬ ((d.now.length : Int) ≤ (a : Int)) := by have := hkk.1; omega
          have han : (a : Int) < (d.now.length : Int) := by have := hkk.1; omega
          have HS := Lib.hid (show crTo keep d.was ks d.now (j + 1) = (crTo keep d.was ks d.now j).set a t by
            simp only [crTo, crStep]
            rw [if_neg (by rw [hkp]; simp), List.getD_eq_getElem?_getD, List.getElem?_eq_getElem hjk, Option.getD_some, ha0, hwas, Option.getD_some])
          clear hw5 hd6 hc6 hkk hwas ha0 hjk hkp HB
          go_wp2_with fail
          go_still_tail 12, (by kernel_rfl)
          change wpList _ _ _ _ _ wr.drew
          rw [HW5.out]
          go_wp2_with fail
          go_roundw
          case rel =>
            refine ⟨j + 1, by omega, by go_num, ?_, H6.out.2⟩
            rw [HS.out]
            exact H6.out.1
          case measure => simp [intOf]; omega
        · have HKp := Lib.hid hkp
          clear hkp hkk ha0 hjk q0 q1
          go_wp2_with fail
          go_roundw
          case rel =>
            refine ⟨j + 1, by omega, by go_num, ?_, HB.out.2⟩
            have e : crTo keep d.was ks d.now (j + 1) = crTo keep d.was ks d.now j := by
              simp only [crTo, crStep]
              rw [if_pos HKp.out]
            rw [e]
            exact HB.out.1
          case measure => simp [intOf]; omega
      · have hgn : (n : Int) ≤ (j : Int) := by omega
        have hkp : keep.getD j false = false := by
          have hlen : keep.length ≤ j := by have := H.out.2.2.1; omega
          rw [List.getD_eq_getElem?_getD, List.getElem?_eq_none hlen]
          rfl
        clear hjn
        obtain ⟨t, hwas⟩ := Option.isSome_iff_exists.1 hkk.2
        obtain ⟨w5, w6, hw5, hlk5, hst5, hd6, hc6⟩ := crash_facts HB.out.1 (a := a) (by rw [crTo_len]; exact hkk.1) hwas
        have HW5 := Lib.hid hw5
        have H6 := Lib.hid (And.intro hd6 (HB.out.2.trans hc6 (fun _ _ h => h)))
        have hn1 : ¬ ((d.now.length : Int) ≤ (a : Int)) := by have := hkk.1; omega
        have han : (a : Int) < (d.now.length : Int) := by have := hkk.1; omega
        have HS := Lib.hid (show crTo keep d.was ks d.now (j + 1) = (crTo keep d.was ks d.now j).set a t by
          simp only [crTo, crStep]
          rw [if_neg (by rw [hkp]; simp), List.getD_eq_getElem?_getD, List.getElem?_eq_getElem hjk, Option.getD_some, ha0, hwas, Option.getD_some])
        clear hw5 hd6 hc6 hkk hwas ha0 hjk hkp HB
        go_wp2_with fail
        go_still_tail 12, (by kernel_rfl)
        change wpList _ _ _ _ _ wr.drew
        rw [HW5.out]
        go_wp2_with fail
        go_roundw
        case rel =>
          refine ⟨j + 1, by omega, by go_num, ?_, H6.out.2⟩
          rw [HS.out]
          exact H6.out.1
        case measure => simp [intOf]; omega
    · obtain rfl : j = ks.length := by omega
      obtain ⟨w7, hw7, hm7, hg7⟩ := clear_map HB.out.1.map 0
      have hd7 := flushed_at HB.out.1 hm7 (grown_chg hg7)
      have q72 : w7.cell? ⟨g, 2, none⟩ = some (.bool d.down) := hd7.blk.cell 2
      have q73 : w7.cell? ⟨g, 3, none⟩ = some (.bool d.stops) := hd7.blk.cell 3
      have z2 : w7.frozen? ⟨g, 2, none⟩ = false := hd7.blk.frozen 2
      have z3 : w7.frozen? ⟨g, 3, none⟩ = false := hd7.blk.frozen 3
      have hc2r : Chg (dkS g gl mb) w2 wr := HB.out.2.mono (fun _ _ h => .inr (.inl h))
      have hc27 : Chg (dkS g gl mb) w2 w7 := hc2r.trans (grown_chg hg7) (fun _ _ h => .inr (.inr h))
      have hc7 : Chg (dkS g gl mb) w w7 := (Chg.of_below (S := dkS g gl mb) H2.out.2.2.2).trans hc27 (fun _ _ h => h)
      have H7 := Lib.hid (And.intro hd7 hc7)
      clear hm7 hg7 hd7 hc7 hc2r hc27
      go_wp2_with fail
      go_ret
      have hb2 := (H7.out.1.blk.setCell 2 (.bool false)).setCell 3 (.bool false)
      have hc2 := ((Chg.refl (fun k => k = g) w7).setCell (.inr rfl) 2 (.bool false)).setCell (.inr rfl) 3 (.bool false)
      refine ⟨rfl, ?_, H7.out.2.trans hc2 (fun _ _ h => .inl h)⟩
      rw [H.out.2.2.2.2.2.1]
      exact H7.out.1.fields (down := false) (stops := false) hc2 hb2 H.out.1.left (fun h => by cases h)
end
end Go.Proofs.Ytmddpjdgnamlnaa
