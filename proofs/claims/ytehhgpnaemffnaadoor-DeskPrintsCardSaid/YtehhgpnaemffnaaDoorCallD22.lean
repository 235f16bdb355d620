/- desk's call: an operation out of a line's words. -/
import Derived.Test.YtehhgpnaemffnaaDoorTake22
namespace Go.Proofs.YtehhgpnaemffnaaDoor
open Go.RowKit
attribute [-go_sem] loadCellsFrom storeCells
attribute [local go_sem] storeCells_one

def nmAlloc : ByteArray := ⟨#[97, 108, 108, 111, 99]⟩
def nmFree : ByteArray := ⟨#[102, 114, 101, 101]⟩
def nmWrite : ByteArray := ⟨#[119, 114, 105, 116, 101]⟩
def nmLink : ByteArray := ⟨#[108, 105, 110, 107]⟩
def nmRoot : ByteArray := ⟨#[114, 111, 111, 116]⟩
def nmRead : ByteArray := ⟨#[114, 101, 97, 100]⟩
def nmFollow : ByteArray := ⟨#[102, 111, 108, 108, 111, 119]⟩
def nmTop : ByteArray := ⟨#[116, 111, 112]⟩
def CallRel (s : ByteArray) (st : Option (List ByteArray)) (k h i n kk v t : Int) (st' : Option (List ByteArray)) : Prop :=
  (s = nmAlloc ∧ k = 1 ∧ ∃ st1, h = 0 ∧ i = 0 ∧ v = 0 ∧ t = 0 ∧ RelN st 0 n st1 ∧ RelN st1 0 kk st') ∨
  (s = nmFree ∧ k = 2 ∧ i = 0 ∧ n = 0 ∧ kk = 0 ∧ v = 0 ∧ t = 0 ∧ RelN st 0 h st') ∨
  (s = nmWrite ∧ k = 3 ∧ ∃ st1 st2, n = 0 ∧ kk = 0 ∧ t = 0 ∧ RelN st 0 h st1 ∧ RelN st1 0 i st2 ∧ RelN st2 (-1000000) v st') ∨
  (s = nmLink ∧ k = 4 ∧ ∃ st1 st2, n = 0 ∧ kk = 0 ∧ v = 0 ∧ RelN st 0 h st1 ∧ RelN st1 0 i st2 ∧ RelN st2 0 t st') ∨
  (s = nmRoot ∧ k = 5 ∧ ∃ st1, h = 0 ∧ n = 0 ∧ kk = 0 ∧ v = 0 ∧ RelN st 0 i st1 ∧ RelN st1 0 t st') ∨
  (s = nmRead ∧ k = 6 ∧ ∃ st1, n = 0 ∧ kk = 0 ∧ v = 0 ∧ t = 0 ∧ RelN st 0 h st1 ∧ RelN st1 0 i st') ∨
  (s = nmFollow ∧ k = 7 ∧ ∃ st1, n = 0 ∧ kk = 0 ∧ v = 0 ∧ t = 0 ∧ RelN st 0 h st1 ∧ RelN st1 0 i st') ∨
  (s = nmTop ∧ k = 8 ∧ h = 0 ∧ n = 0 ∧ kk = 0 ∧ v = 0 ∧ t = 0 ∧ RelN st 0 i st') ∨
  ((s ≠ nmAlloc ∧ s ≠ nmFree ∧ s ≠ nmWrite ∧ s ≠ nmLink ∧ s ≠ nmRoot ∧ s ≠ nmRead ∧ s ≠ nmFollow ∧ s ≠ nmTop) ∧ st' = none)
theorem tlAlloc : nmAlloc.toList = [97, 108, 108, 111, 99] := by rw [ByteArray.toList_eq]; rfl
theorem tlFree : nmFree.toList = [102, 114, 101, 101] := by rw [ByteArray.toList_eq]; rfl
theorem tlWrite : nmWrite.toList = [119, 114, 105, 116, 101] := by rw [ByteArray.toList_eq]; rfl
theorem tlLink : nmLink.toList = [108, 105, 110, 107] := by rw [ByteArray.toList_eq]; rfl
theorem tlRoot : nmRoot.toList = [114, 111, 111, 116] := by rw [ByteArray.toList_eq]; rfl
theorem tlRead : nmRead.toList = [114, 101, 97, 100] := by rw [ByteArray.toList_eq]; rfl
theorem tlFollow : nmFollow.toList = [102, 111, 108, 108, 111, 119] := by rw [ByteArray.toList_eq]; rfl
theorem tlTop : nmTop.toList = [116, 111, 112] := by rw [ByteArray.toList_eq]; rfl
section
variable {w : World} {gl : Nat} {st : Option (List ByteArray)}
/-- call's own blocks, as they are laid. -/
theorem CS.start (he : Env w) (h : LAt w gl st) (hg : 8 ≤ gl) : ∃ w1, ((w.alloc (.cells #[.pointer (some ⟨gl, 0, none⟩)] 36)).alloc (.cells #[.int .i64 0, .int .i64 0, .int .i64 0, .int .i64 0, .int .i64 0, .int .i64 0, .int .i64 0] 25)).alloc (.cells #[.int .i64 0, .int .i64 0, .int .i64 0, .int .i64 0, .int .i64 0, .int .i64 0, .int .i64 0] 25) = w1 ∧
    CS w1 gl w.heap.size (w.heap.size + 1) (w.heap.size + 1 + 1) st (oc 0 0 0 0 0 0 0) ∧ Below w.heap.size w w1 := by
  have hlt := h.lt
  have b1 : Below w.heap.size w (w.alloc (.cells #[.pointer (some ⟨gl, 0, none⟩)] 36)) := (Below.refl _ _).alloc (Nat.le_refl _) _
  have k1 := Blk.new w 36 [.pointer (some ⟨gl, 0, none⟩)]
  have b2 := b1.alloc (by simp) (.cells (oc 0 0 0 0 0 0 0).toArray 25)
  have k2 := Blk.new (w.alloc (.cells #[.pointer (some ⟨gl, 0, none⟩)] 36)) 25 (oc 0 0 0 0 0 0 0)
  have b3 := b2.alloc (by simp; omega) (.cells (oc 0 0 0 0 0 0 0).toArray 25)
  have k3 := Blk.new ((w.alloc (.cells #[.pointer (some ⟨gl, 0, none⟩)] 36)).alloc (.cells (oc 0 0 0 0 0 0 0).toArray 25)) 25 (oc 0 0 0 0 0 0 0)
  simp only [World.size_alloc] at k2 k3
  exact ⟨_, rfl, ⟨he.below b3 he.big, h.below b3 hlt, (k1.alloc _).alloc _, k2.alloc _, k3, hg, hlt, by omega, by omega⟩, b3⟩
set_option maxRecDepth 20000 in
set_option maxHeartbeats 1600000 in
theorem call_alloc (he : Env w) (h : LAt w gl st) (hg : 8 ≤ gl) (s : ByteArray) (hs : s = nmAlloc) :
    Calls Tryd.prog 20 #[.pointer (some ⟨gl, 0, none⟩), .string s] w fun e w' => ∃ k h i n kk v t : Int, e = .returned (.agg (oc k h i n kk v t).toArray) ∧ ∃ st', CallRel s st k h i n kk v t st' ∧ LAt w' gl st' ∧ Chg (fun k => k = gl) w w' := by
  obtain ⟨w1, hw1, hcs, hb1⟩ := CS.start he h hg
  have h0 : w.heap.size ≤ w.heap.size := Nat.le_refl _
  have H0 := Lib.hid (And.intro hcs hb1)
  have HS := Lib.hid hs
  have m0 : (s.toList == [97, 108, 108, 111, 99]) = true := by rw [hs, tlAlloc]; rfl
  have q0 : w1.cell? ⟨w.heap.size + 1 + 1, 0, none⟩ = some (.int .i64 0) := hcs.op.cell 0
  have z0 : w1.frozen? ⟨w.heap.size + 1 + 1, 0, none⟩ = false := hcs.op.frozen 0
  have hp := hcs.put 0 (.int .i64 1)
  have HP := Lib.hid (And.intro hp.1 ((Chg.of_below (S := fun k => k = gl) hb1).trans hp.2 (by rintro i hi rfl; exact absurd hi (by omega))))
  obtain ⟨w2, hw2⟩ : ∃ x, w1.setCell ⟨w.heap.size + 1 + 1, 0, none⟩ (.int .i64 1) = x := ⟨_, rfl⟩
  rw [hw2] at HP
  clear hs he h hg hb1 h0 hcs hp H0
  go_enter Tryd.func20, Tryd.ntmps20
  go_wp2_with fail
  refine (take_any HP.out.1 3 (show 3 < 7 by omega)).mono ?_
  rintro e w3 ⟨rfl, n0, s0, hr, hc, hg⟩
  have T0 := Lib.hid (And.intro hc (HP.out.2.trans hg (by rintro i hi (rfl | rfl); exact rfl; exact absurd hi (by omega))))
  have R0 := Lib.hid hr
  clear hr hc hg
  go_wp2_with fail
  refine (take_any T0.out.1 4 (show 4 < 7 by omega)).mono ?_
  rintro e w4 ⟨rfl, n1, s1, hr, hc, hg⟩
  have T1 := Lib.hid (And.intro hc (T0.out.2.trans hg (by rintro i hi (rfl | rfl); exact rfl; exact absurd hi (by omega))))
  have R1 := Lib.hid hr
  clear hr hc hg
  have hld := T1.out.1.op.load (P := Tryd.prog) (k := 7) rfl
  have hst := T1.out.1.res.store (P := Tryd.prog) (cs' := oc 1 0 0 n0 n1 0 0) rfl (oc_one 1 0 0 n0 n1 0 0)
  have HE := Lib.hid (And.intro (T1.out.1.res.set (oc 1 0 0 n0 n1 0 0)) (And.intro (T1.out.1.line.above (Chg.setRow (S := fun k => k = w.heap.size + 1) (Chg.refl _ _) (.inr rfl) (oc 1 0 0 n0 n1 0 0).toArray) (by rintro i rfl; have := T1.out.1.o1; have := T1.out.1.o2; omega)) (T1.out.2.setRow (g := w.heap.size + 1) (.inl (by omega)) (oc 1 0 0 n0 n1 0 0).toArray)))
  simp only [oc] at hld hst
  go_wp2_with fail
  refine bodyPost_ret (results_cell_row rfl _ _ (w.heap.size + 1) 25 _ (0, 0) _ rfl HE.out.1 Tryd.underlying25 rfl (by kernel_rfl)) rfl ⟨1, 0, 0, n0, n1, 0, 0, rfl, s1, (.inl ⟨HS.out, rfl, s0, rfl, rfl, rfl, rfl, R0.out, R1.out⟩), HE.out.2.1, HE.out.2.2⟩
set_option maxRecDepth 20000 in
set_option maxHeartbeats 1600000 in
theorem call_free (he : Env w) (h : LAt w gl st) (hg : 8 ≤ gl) (s : ByteArray) (hs : s = nmFree) :
    Calls Tryd.prog 20 #[.pointer (some ⟨gl, 0, none⟩), .string s] w fun e w' => ∃ k h i n kk v t : Int, e = .returned (.agg (oc k h i n kk v t).toArray) ∧ ∃ st', CallRel s st k h i n kk v t st' ∧ LAt w' gl st' ∧ Chg (fun k => k = gl) w w' := by
  obtain ⟨w1, hw1, hcs, hb1⟩ := CS.start he h hg
  have h0 : w.heap.size ≤ w.heap.size := Nat.le_refl _
  have H0 := Lib.hid (And.intro hcs hb1)
  have HS := Lib.hid hs
  have m0 := ba_ne (show s ≠ nmAlloc by rw [hs]; exact fun e => absurd (congrArg (fun b : ByteArray => b.data.toList) e) (by decide))
  rw [tlAlloc] at m0
  have m1 : (s.toList == [102, 114, 101, 101]) = true := by rw [hs, tlFree]; rfl
  have q0 : w1.cell? ⟨w.heap.size + 1 + 1, 0, none⟩ = some (.int .i64 0) := hcs.op.cell 0
  have z0 : w1.frozen? ⟨w.heap.size + 1 + 1, 0, none⟩ = false := hcs.op.frozen 0
  have hp := hcs.put 0 (.int .i64 2)
  have HP := Lib.hid (And.intro hp.1 ((Chg.of_below (S := fun k => k = gl) hb1).trans hp.2 (by rintro i hi rfl; exact absurd hi (by omega))))
  obtain ⟨w2, hw2⟩ : ∃ x, w1.setCell ⟨w.heap.size + 1 + 1, 0, none⟩ (.int .i64 2) = x := ⟨_, rfl⟩
  rw [hw2] at HP
  clear hs he h hg hb1 h0 hcs hp H0
  go_enter Tryd.func20, Tryd.ntmps20
  go_wp2_with fail
  refine (take_any HP.out.1 1 (show 1 < 7 by omega)).mono ?_
  rintro e w3 ⟨rfl, n0, s0, hr, hc, hg⟩
  have T0 := Lib.hid (And.intro hc (HP.out.2.trans hg (by rintro i hi (rfl | rfl); exact rfl; exact absurd hi (by omega))))
  have R0 := Lib.hid hr
  clear hr hc hg
  have hld := T0.out.1.op.load (P := Tryd.prog) (k := 7) rfl
  have hst := T0.out.1.res.store (P := Tryd.prog) (cs' := oc 2 n0 0 0 0 0 0) rfl (oc_one 2 n0 0 0 0 0 0)
  have HE := Lib.hid (And.intro (T0.out.1.res.set (oc 2 n0 0 0 0 0 0)) (And.intro (T0.out.1.line.above (Chg.setRow (S := fun k => k = w.heap.size + 1) (Chg.refl _ _) (.inr rfl) (oc 2 n0 0 0 0 0 0).toArray) (by rintro i rfl; have := T0.out.1.o1; have := T0.out.1.o2; omega)) (T0.out.2.setRow (g := w.heap.size + 1) (.inl (by omega)) (oc 2 n0 0 0 0 0 0).toArray)))
  simp only [oc] at hld hst
  go_wp2_with fail
  refine bodyPost_ret (results_cell_row rfl _ _ (w.heap.size + 1) 25 _ (0, 0) _ rfl HE.out.1 Tryd.underlying25 rfl (by kernel_rfl)) rfl ⟨2, n0, 0, 0, 0, 0, 0, rfl, s0, (.inr (.inl ⟨HS.out, rfl, rfl, rfl, rfl, rfl, rfl, R0.out⟩)), HE.out.2.1, HE.out.2.2⟩
set_option maxRecDepth 20000 in
set_option maxHeartbeats 1600000 in
theorem call_write (he : Env w) (h : LAt w gl st) (hg : 8 ≤ gl) (s : ByteArray) (hs : s = nmWrite) :
    Calls Tryd.prog 20 #[.pointer (some ⟨gl, 0, none⟩), .string s] w fun e w' => ∃ k h i n kk v t : Int, e = .returned (.agg (oc k h i n kk v t).toArray) ∧ ∃ st', CallRel s st k h i n kk v t st' ∧ LAt w' gl st' ∧ Chg (fun k => k = gl) w w' := by
  obtain ⟨w1, hw1, hcs, hb1⟩ := CS.start he h hg
  have h0 : w.heap.size ≤ w.heap.size := Nat.le_refl _
  have H0 := Lib.hid (And.intro hcs hb1)
  have HS := Lib.hid hs
  have m0 := ba_ne (show s ≠ nmAlloc by rw [hs]; exact fun e => absurd (congrArg (fun b : ByteArray => b.data.toList) e) (by decide))
  rw [tlAlloc] at m0
  have m1 := ba_ne (show s ≠ nmFree by rw [hs]; exact fun e => absurd (congrArg (fun b : ByteArray => b.data.toList) e) (by decide))
  rw [tlFree] at m1
  have m2 : (s.toList == [119, 114, 105, 116, 101]) = true := by rw [hs, tlWrite]; rfl
  have q0 : w1.cell? ⟨w.heap.size + 1 + 1, 0, none⟩ = some (.int .i64 0) := hcs.op.cell 0
  have z0 : w1.frozen? ⟨w.heap.size + 1 + 1, 0, none⟩ = false := hcs.op.frozen 0
  have hp := hcs.put 0 (.int .i64 3)
  have HP := Lib.hid (And.intro hp.1 ((Chg.of_below (S := fun k => k = gl) hb1).trans hp.2 (by rintro i hi rfl; exact absurd hi (by omega))))
  obtain ⟨w2, hw2⟩ : ∃ x, w1.setCell ⟨w.heap.size + 1 + 1, 0, none⟩ (.int .i64 3) = x := ⟨_, rfl⟩
  rw [hw2] at HP
  clear hs he h hg hb1 h0 hcs hp H0
  go_enter Tryd.func20, Tryd.ntmps20
  go_wp2_with fail
  refine (take_any HP.out.1 1 (show 1 < 7 by omega)).mono ?_
  rintro e w3 ⟨rfl, n0, s0, hr, hc, hg⟩
  have T0 := Lib.hid (And.intro hc (HP.out.2.trans hg (by rintro i hi (rfl | rfl); exact rfl; exact absurd hi (by omega))))
  have R0 := Lib.hid hr
  clear hr hc hg
  go_wp2_with fail
  refine (take_any T0.out.1 2 (show 2 < 7 by omega)).mono ?_
  rintro e w4 ⟨rfl, n1, s1, hr, hc, hg⟩
  have T1 := Lib.hid (And.intro hc (T0.out.2.trans hg (by rintro i hi (rfl | rfl); exact rfl; exact absurd hi (by omega))))
  have R1 := Lib.hid hr
  clear hr hc hg
  have HN := Lib.hid (number_any T1.out.1.env T1.out.1.line T1.out.1.big (-1000000) (by omega))
  have qb : w4.cell? ⟨w.heap.size, 0, none⟩ = some (.pointer (some ⟨gl, 0, none⟩)) := T1.out.1.box.cell 0
  go_wp2_with fail
  refine HN.out.mono ?_
  rintro e w5' ⟨n2, rfl, s2, hr, hl, hg⟩
  have hn := T1.out.1.num hl hg
  have hp := hn.put 5 (.int .i64 n2)
  have q5 : w5'.cell? ⟨w.heap.size + 1 + 1, 5, none⟩ = some (.int .i64 0) := hn.op.cell 5
  have z5 : w5'.frozen? ⟨w.heap.size + 1 + 1, 5, none⟩ = false := hn.op.frozen 5
  have T2 := Lib.hid (And.intro hp.1 ((T1.out.2.trans hg (fun _ _ h => h)).trans hp.2 (by rintro i hi rfl; exact absurd hi (by omega))))
  have R2 := Lib.hid hr
  obtain ⟨w5, hw5⟩ : ∃ x, w5'.setCell ⟨w.heap.size + 1 + 1, 5, none⟩ (.int .i64 n2) = x := ⟨_, rfl⟩
  rw [hw5] at T2
  clear hr hl hg hn hp
  have hld := T2.out.1.op.load (P := Tryd.prog) (k := 7) rfl
  have hst := T2.out.1.res.store (P := Tryd.prog) (cs' := oc 3 n0 n1 0 0 n2 0) rfl (oc_one 3 n0 n1 0 0 n2 0)
  have HE := Lib.hid (And.intro (T2.out.1.res.set (oc 3 n0 n1 0 0 n2 0)) (And.intro (T2.out.1.line.above (Chg.setRow (S := fun k => k = w.heap.size + 1) (Chg.refl _ _) (.inr rfl) (oc 3 n0 n1 0 0 n2 0).toArray) (by rintro i rfl; have := T2.out.1.o1; have := T2.out.1.o2; omega)) (T2.out.2.setRow (g := w.heap.size + 1) (.inl (by omega)) (oc 3 n0 n1 0 0 n2 0).toArray)))
  simp only [oc] at hld hst
  go_wp2_with fail
  refine bodyPost_ret (results_cell_row rfl _ _ (w.heap.size + 1) 25 _ (0, 0) _ rfl HE.out.1 Tryd.underlying25 rfl (by kernel_rfl)) rfl ⟨3, n0, n1, 0, 0, n2, 0, rfl, s2, (.inr (.inr (.inl ⟨HS.out, rfl, s0, s1, rfl, rfl, rfl, R0.out, R1.out, R2.out⟩))), HE.out.2.1, HE.out.2.2⟩
set_option maxRecDepth 20000 in
set_option maxHeartbeats 1600000 in
theorem call_link (he : Env w) (h : LAt w gl st) (hg : 8 ≤ gl) (s : ByteArray) (hs : s = nmLink) :
    Calls Tryd.prog 20 #[.pointer (some ⟨gl, 0, none⟩), .string s] w fun e w' => ∃ k h i n kk v t : Int, e = .returned (.agg (oc k h i n kk v t).toArray) ∧ ∃ st', CallRel s st k h i n kk v t st' ∧ LAt w' gl st' ∧ Chg (fun k => k = gl) w w' := by
  obtain ⟨w1, hw1, hcs, hb1⟩ := CS.start he h hg
  have h0 : w.heap.size ≤ w.heap.size := Nat.le_refl _
  have H0 := Lib.hid (And.intro hcs hb1)
  have HS := Lib.hid hs
  have m0 := ba_ne (show s ≠ nmAlloc by rw [hs]; exact fun e => absurd (congrArg (fun b : ByteArray => b.data.toList) e) (by decide))
  rw [tlAlloc] at m0
  have m1 := ba_ne (show s ≠ nmFree by rw [hs]; exact fun e => absurd (congrArg (fun b : ByteArray => b.data.toList) e) (by decide))
  rw [tlFree] at m1
  have m2 := ba_ne (show s ≠ nmWrite by rw [hs]; exact fun e => absurd (congrArg (fun b : ByteArray => b.data.toList) e) (by decide))
  rw [tlWrite] at m2
  have m3 : (s.toList == [108, 105, 110, 107]) = true := by rw [hs, tlLink]; rfl
  have q0 : w1.cell? ⟨w.heap.size + 1 + 1, 0, none⟩ = some (.int .i64 0) := hcs.op.cell 0
  have z0 : w1.frozen? ⟨w.heap.size + 1 + 1, 0, none⟩ = false := hcs.op.frozen 0
  have hp := hcs.put 0 (.int .i64 4)
  have HP := Lib.hid (And.intro hp.1 ((Chg.of_below (S := fun k => k = gl) hb1).trans hp.2 (by rintro i hi rfl; exact absurd hi (by omega))))
  obtain ⟨w2, hw2⟩ : ∃ x, w1.setCell ⟨w.heap.size + 1 + 1, 0, none⟩ (.int .i64 4) = x := ⟨_, rfl⟩
  rw [hw2] at HP
  clear hs he h hg hb1 h0 hcs hp H0
  go_enter Tryd.func20, Tryd.ntmps20
  go_wp2_with fail
  refine (take_any HP.out.1 1 (show 1 < 7 by omega)).mono ?_
  rintro e w3 ⟨rfl, n0, s0, hr, hc, hg⟩
  have T0 := Lib.hid (And.intro hc (HP.out.2.trans hg (by rintro i hi (rfl | rfl); exact rfl; exact absurd hi (by omega))))
  have R0 := Lib.hid hr
  clear hr hc hg
  go_wp2_with fail
  refine (take_any T0.out.1 2 (show 2 < 7 by omega)).mono ?_
  rintro e w4 ⟨rfl, n1, s1, hr, hc, hg⟩
  have T1 := Lib.hid (And.intro hc (T0.out.2.trans hg (by rintro i hi (rfl | rfl); exact rfl; exact absurd hi (by omega))))
  have R1 := Lib.hid hr
  clear hr hc hg
  go_wp2_with fail
  refine (take_any T1.out.1 6 (show 6 < 7 by omega)).mono ?_
  rintro e w5 ⟨rfl, n2, s2, hr, hc, hg⟩
  have T2 := Lib.hid (And.intro hc (T1.out.2.trans hg (by rintro i hi (rfl | rfl); exact rfl; exact absurd hi (by omega))))
  have R2 := Lib.hid hr
  clear hr hc hg
  have hld := T2.out.1.op.load (P := Tryd.prog) (k := 7) rfl
  have hst := T2.out.1.res.store (P := Tryd.prog) (cs' := oc 4 n0 n1 0 0 0 n2) rfl (oc_one 4 n0 n1 0 0 0 n2)
  have HE := Lib.hid (And.intro (T2.out.1.res.set (oc 4 n0 n1 0 0 0 n2)) (And.intro (T2.out.1.line.above (Chg.setRow (S := fun k => k = w.heap.size + 1) (Chg.refl _ _) (.inr rfl) (oc 4 n0 n1 0 0 0 n2).toArray) (by rintro i rfl; have := T2.out.1.o1; have := T2.out.1.o2; omega)) (T2.out.2.setRow (g := w.heap.size + 1) (.inl (by omega)) (oc 4 n0 n1 0 0 0 n2).toArray)))
  simp only [oc] at hld hst
  go_wp2_with fail
  refine bodyPost_ret (results_cell_row rfl _ _ (w.heap.size + 1) 25 _ (0, 0) _ rfl HE.out.1 Tryd.underlying25 rfl (by kernel_rfl)) rfl ⟨4, n0, n1, 0, 0, 0, n2, rfl, s2, (.inr (.inr (.inr (.inl ⟨HS.out, rfl, s0, s1, rfl, rfl, rfl, R0.out, R1.out, R2.out⟩)))), HE.out.2.1, HE.out.2.2⟩
set_option maxRecDepth 20000 in
set_option maxHeartbeats 1600000 in
theorem call_root (he : Env w) (h : LAt w gl st) (hg : 8 ≤ gl) (s : ByteArray) (hs : s = nmRoot) :
    Calls Tryd.prog 20 #[.pointer (some ⟨gl, 0, none⟩), .string s] w fun e w' => ∃ k h i n kk v t : Int, e = .returned (.agg (oc k h i n kk v t).toArray) ∧ ∃ st', CallRel s st k h i n kk v t st' ∧ LAt w' gl st' ∧ Chg (fun k => k = gl) w w' := by
  obtain ⟨w1, hw1, hcs, hb1⟩ := CS.start he h hg
  have h0 : w.heap.size ≤ w.heap.size := Nat.le_refl _
  have H0 := Lib.hid (And.intro hcs hb1)
  have HS := Lib.hid hs
  have m0 := ba_ne (show s ≠ nmAlloc by rw [hs]; exact fun e => absurd (congrArg (fun b : ByteArray => b.data.toList) e) (by decide))
  rw [tlAlloc] at m0
  have m1 := ba_ne (show s ≠ nmFree by rw [hs]; exact fun e => absurd (congrArg (fun b : ByteArray => b.data.toList) e) (by decide))
  rw [tlFree] at m1
  have m2 := ba_ne (show s ≠ nmWrite by rw [hs]; exact fun e => absurd (congrArg (fun b : ByteArray => b.data.toList) e) (by decide))
  rw [tlWrite] at m2
  have m3 := ba_ne (show s ≠ nmLink by rw [hs]; exact fun e => absurd (congrArg (fun b : ByteArray => b.data.toList) e) (by decide))
  rw [tlLink] at m3
  have m4 : (s.toList == [114, 111, 111, 116]) = true := by rw [hs, tlRoot]; rfl
  have q0 : w1.cell? ⟨w.heap.size + 1 + 1, 0, none⟩ = some (.int .i64 0) := hcs.op.cell 0
  have z0 : w1.frozen? ⟨w.heap.size + 1 + 1, 0, none⟩ = false := hcs.op.frozen 0
  have hp := hcs.put 0 (.int .i64 5)
  have HP := Lib.hid (And.intro hp.1 ((Chg.of_below (S := fun k => k = gl) hb1).trans hp.2 (by rintro i hi rfl; exact absurd hi (by omega))))
  obtain ⟨w2, hw2⟩ : ∃ x, w1.setCell ⟨w.heap.size + 1 + 1, 0, none⟩ (.int .i64 5) = x := ⟨_, rfl⟩
  rw [hw2] at HP
  clear hs he h hg hb1 h0 hcs hp H0
  go_enter Tryd.func20, Tryd.ntmps20
  go_wp2_with fail
  refine (take_any HP.out.1 2 (show 2 < 7 by omega)).mono ?_
  rintro e w3 ⟨rfl, n0, s0, hr, hc, hg⟩
  have T0 := Lib.hid (And.intro hc (HP.out.2.trans hg (by rintro i hi (rfl | rfl); exact rfl; exact absurd hi (by omega))))
  have R0 := Lib.hid hr
  clear hr hc hg
  go_wp2_with fail
  refine (take_any T0.out.1 6 (show 6 < 7 by omega)).mono ?_
  rintro e w4 ⟨rfl, n1, s1, hr, hc, hg⟩
  have T1 := Lib.hid (And.intro hc (T0.out.2.trans hg (by rintro i hi (rfl | rfl); exact rfl; exact absurd hi (by omega))))
  have R1 := Lib.hid hr
  clear hr hc hg
  have hld := T1.out.1.op.load (P := Tryd.prog) (k := 7) rfl
  have hst := T1.out.1.res.store (P := Tryd.prog) (cs' := oc 5 0 n0 0 0 0 n1) rfl (oc_one 5 0 n0 0 0 0 n1)
  have HE := Lib.hid (And.intro (T1.out.1.res.set (oc 5 0 n0 0 0 0 n1)) (And.intro (T1.out.1.line.above (Chg.setRow (S := fun k => k = w.heap.size + 1) (Chg.refl _ _) (.inr rfl) (oc 5 0 n0 0 0 0 n1).toArray) (by rintro i rfl; have := T1.out.1.o1; have := T1.out.1.o2; omega)) (T1.out.2.setRow (g := w.heap.size + 1) (.inl (by omega)) (oc 5 0 n0 0 0 0 n1).toArray)))
  simp only [oc] at hld hst
  go_wp2_with fail
  refine bodyPost_ret (results_cell_row rfl _ _ (w.heap.size + 1) 25 _ (0, 0) _ rfl HE.out.1 Tryd.underlying25 rfl (by kernel_rfl)) rfl ⟨5, 0, n0, 0, 0, 0, n1, rfl, s1, (.inr (.inr (.inr (.inr (.inl ⟨HS.out, rfl, s0, rfl, rfl, rfl, rfl, R0.out, R1.out⟩))))), HE.out.2.1, HE.out.2.2⟩
set_option maxRecDepth 20000 in
set_option maxHeartbeats 1600000 in
theorem call_read (he : Env w) (h : LAt w gl st) (hg : 8 ≤ gl) (s : ByteArray) (hs : s = nmRead) :
    Calls Tryd.prog 20 #[.pointer (some ⟨gl, 0, none⟩), .string s] w fun e w' => ∃ k h i n kk v t : Int, e = .returned (.agg (oc k h i n kk v t).toArray) ∧ ∃ st', CallRel s st k h i n kk v t st' ∧ LAt w' gl st' ∧ Chg (fun k => k = gl) w w' := by
  obtain ⟨w1, hw1, hcs, hb1⟩ := CS.start he h hg
  have h0 : w.heap.size ≤ w.heap.size := Nat.le_refl _
  have H0 := Lib.hid (And.intro hcs hb1)
  have HS := Lib.hid hs
  have m0 := ba_ne (show s ≠ nmAlloc by rw [hs]; exact fun e => absurd (congrArg (fun b : ByteArray => b.data.toList) e) (by decide))
  rw [tlAlloc] at m0
  have m1 := ba_ne (show s ≠ nmFree by rw [hs]; exact fun e => absurd (congrArg (fun b : ByteArray => b.data.toList) e) (by decide))
  rw [tlFree] at m1
  have m2 := ba_ne (show s ≠ nmWrite by rw [hs]; exact fun e => absurd (congrArg (fun b : ByteArray => b.data.toList) e) (by decide))
  rw [tlWrite] at m2
  have m3 := ba_ne (show s ≠ nmLink by rw [hs]; exact fun e => absurd (congrArg (fun b : ByteArray => b.data.toList) e) (by decide))
  rw [tlLink] at m3
  have m4 := ba_ne (show s ≠ nmRoot by rw [hs]; exact fun e => absurd (congrArg (fun b : ByteArray => b.data.toList) e) (by decide))
  rw [tlRoot] at m4
  have m5 : (s.toList == [114, 101, 97, 100]) = true := by rw [hs, tlRead]; rfl
  have q0 : w1.cell? ⟨w.heap.size + 1 + 1, 0, none⟩ = some (.int .i64 0) := hcs.op.cell 0
  have z0 : w1.frozen? ⟨w.heap.size + 1 + 1, 0, none⟩ = false := hcs.op.frozen 0
  have hp := hcs.put 0 (.int .i64 6)
  have HP := Lib.hid (And.intro hp.1 ((Chg.of_below (S := fun k => k = gl) hb1).trans hp.2 (by rintro i hi rfl; exact absurd hi (by omega))))
  obtain ⟨w2, hw2⟩ : ∃ x, w1.setCell ⟨w.heap.size + 1 + 1, 0, none⟩ (.int .i64 6) = x := ⟨_, rfl⟩
  rw [hw2] at HP
  clear hs he h hg hb1 h0 hcs hp H0
  go_enter Tryd.func20, Tryd.ntmps20
  go_wp2_with fail
  refine (take_any HP.out.1 1 (show 1 < 7 by omega)).mono ?_
  rintro e w3 ⟨rfl, n0, s0, hr, hc, hg⟩
  have T0 := Lib.hid (And.intro hc (HP.out.2.trans hg (by rintro i hi (rfl | rfl); exact rfl; exact absurd hi (by omega))))
  have R0 := Lib.hid hr
  clear hr hc hg
  go_wp2_with fail
  refine (take_any T0.out.1 2 (show 2 < 7 by omega)).mono ?_
  rintro e w4 ⟨rfl, n1, s1, hr, hc, hg⟩
  have T1 := Lib.hid (And.intro hc (T0.out.2.trans hg (by rintro i hi (rfl | rfl); exact rfl; exact absurd hi (by omega))))
  have R1 := Lib.hid hr
  clear hr hc hg
  have hld := T1.out.1.op.load (P := Tryd.prog) (k := 7) rfl
  have hst := T1.out.1.res.store (P := Tryd.prog) (cs' := oc 6 n0 n1 0 0 0 0) rfl (oc_one 6 n0 n1 0 0 0 0)
  have HE := Lib.hid (And.intro (T1.out.1.res.set (oc 6 n0 n1 0 0 0 0)) (And.intro (T1.out.1.line.above (Chg.setRow (S := fun k => k = w.heap.size + 1) (Chg.refl _ _) (.inr rfl) (oc 6 n0 n1 0 0 0 0).toArray) (by rintro i rfl; have := T1.out.1.o1; have := T1.out.1.o2; omega)) (T1.out.2.setRow (g := w.heap.size + 1) (.inl (by omega)) (oc 6 n0 n1 0 0 0 0).toArray)))
  simp only [oc] at hld hst
  go_wp2_with fail
  refine bodyPost_ret (results_cell_row rfl _ _ (w.heap.size + 1) 25 _ (0, 0) _ rfl HE.out.1 Tryd.underlying25 rfl (by kernel_rfl)) rfl ⟨6, n0, n1, 0, 0, 0, 0, rfl, s1, (.inr (.inr (.inr (.inr (.inr (.inl ⟨HS.out, rfl, s0, rfl, rfl, rfl, rfl, R0.out, R1.out⟩)))))), HE.out.2.1, HE.out.2.2⟩
set_option maxRecDepth 20000 in
set_option maxHeartbeats 1600000 in
theorem call_follow (he : Env w) (h : LAt w gl st) (hg : 8 ≤ gl) (s : ByteArray) (hs : s = nmFollow) :
    Calls Tryd.prog 20 #[.pointer (some ⟨gl, 0, none⟩), .string s] w fun e w' => ∃ k h i n kk v t : Int, e = .returned (.agg (oc k h i n kk v t).toArray) ∧ ∃ st', CallRel s st k h i n kk v t st' ∧ LAt w' gl st' ∧ Chg (fun k => k = gl) w w' := by
  obtain ⟨w1, hw1, hcs, hb1⟩ := CS.start he h hg
  have h0 : w.heap.size ≤ w.heap.size := Nat.le_refl _
  have H0 := Lib.hid (And.intro hcs hb1)
  have HS := Lib.hid hs
  have m0 := ba_ne (show s ≠ nmAlloc by rw [hs]; exact fun e => absurd (congrArg (fun b : ByteArray => b.data.toList) e) (by decide))
  rw [tlAlloc] at m0
  have m1 := ba_ne (show s ≠ nmFree by rw [hs]; exact fun e => absurd (congrArg (fun b : ByteArray => b.data.toList) e) (by decide))
  rw [tlFree] at m1
  have m2 := ba_ne (show s ≠ nmWrite by rw [hs]; exact fun e => absurd (congrArg (fun b : ByteArray => b.data.toList) e) (by decide))
  rw [tlWrite] at m2
  have m3 := ba_ne (show s ≠ nmLink by rw [hs]; exact fun e => absurd (congrArg (fun b : ByteArray => b.data.toList) e) (by decide))
  rw [tlLink] at m3
  have m4 := ba_ne (show s ≠ nmRoot by rw [hs]; exact fun e => absurd (congrArg (fun b : ByteArray => b.data.toList) e) (by decide))
  rw [tlRoot] at m4
  have m5 := ba_ne (show s ≠ nmRead by rw [hs]; exact fun e => absurd (congrArg (fun b : ByteArray => b.data.toList) e) (by decide))
  rw [tlRead] at m5
  have m6 : (s.toList == [102, 111, 108, 108, 111, 119]) = true := by rw [hs, tlFollow]; rfl
  have q0 : w1.cell? ⟨w.heap.size + 1 + 1, 0, none⟩ = some (.int .i64 0) := hcs.op.cell 0
  have z0 : w1.frozen? ⟨w.heap.size + 1 + 1, 0, none⟩ = false := hcs.op.frozen 0
  have hp := hcs.put 0 (.int .i64 7)
  have HP := Lib.hid (And.intro hp.1 ((Chg.of_below (S := fun k => k = gl) hb1).trans hp.2 (by rintro i hi rfl; exact absurd hi (by omega))))
  obtain ⟨w2, hw2⟩ : ∃ x, w1.setCell ⟨w.heap.size + 1 + 1, 0, none⟩ (.int .i64 7) = x := ⟨_, rfl⟩
  rw [hw2] at HP
  clear hs he h hg hb1 h0 hcs hp H0
  go_enter Tryd.func20, Tryd.ntmps20
  go_wp2_with fail
  refine (take_any HP.out.1 1 (show 1 < 7 by omega)).mono ?_
  rintro e w3 ⟨rfl, n0, s0, hr, hc, hg⟩
  have T0 := Lib.hid (And.intro hc (HP.out.2.trans hg (by rintro i hi (rfl | rfl); exact rfl; exact absurd hi (by omega))))
  have R0 := Lib.hid hr
  clear hr hc hg
  go_wp2_with fail
  refine (take_any T0.out.1 2 (show 2 < 7 by omega)).mono ?_
  rintro e w4 ⟨rfl, n1, s1, hr, hc, hg⟩
  have T1 := Lib.hid (And.intro hc (T0.out.2.trans hg (by rintro i hi (rfl | rfl); exact rfl; exact absurd hi (by omega))))
  have R1 := Lib.hid hr
  clear hr hc hg
  have hld := T1.out.1.op.load (P := Tryd.prog) (k := 7) rfl
  have hst := T1.out.1.res.store (P := Tryd.prog) (cs' := oc 7 n0 n1 0 0 0 0) rfl (oc_one 7 n0 n1 0 0 0 0)
  have HE := Lib.hid (And.intro (T1.out.1.res.set (oc 7 n0 n1 0 0 0 0)) (And.intro (T1.out.1.line.above (Chg.setRow (S := fun k => k = w.heap.size + 1) (Chg.refl _ _) (.inr rfl) (oc 7 n0 n1 0 0 0 0).toArray) (by rintro i rfl; have := T1.out.1.o1; have := T1.out.1.o2; omega)) (T1.out.2.setRow (g := w.heap.size + 1) (.inl (by omega)) (oc 7 n0 n1 0 0 0 0).toArray)))
  simp only [oc] at hld hst
  go_wp2_with fail
  refine bodyPost_ret (results_cell_row rfl _ _ (w.heap.size + 1) 25 _ (0, 0) _ rfl HE.out.1 Tryd.underlying25 rfl (by kernel_rfl)) rfl ⟨7, n0, n1, 0, 0, 0, 0, rfl, s1, (.inr (.inr (.inr (.inr (.inr (.inr (.inl ⟨HS.out, rfl, s0, rfl, rfl, rfl, rfl, R0.out, R1.out⟩))))))), HE.out.2.1, HE.out.2.2⟩
set_option maxRecDepth 20000 in
set_option maxHeartbeats 1600000 in
theorem call_top (he : Env w) (h : LAt w gl st) (hg : 8 ≤ gl) (s : ByteArray) (hs : s = nmTop) :
    Calls Tryd.prog 20 #[.pointer (some ⟨gl, 0, none⟩), .string s] w fun e w' => ∃ k h i n kk v t : Int, e = .returned (.agg (oc k h i n kk v t).toArray) ∧ ∃ st', CallRel s st k h i n kk v t st' ∧ LAt w' gl st' ∧ Chg (fun k => k = gl) w w' := by
  obtain ⟨w1, hw1, hcs, hb1⟩ := CS.start he h hg
  have h0 : w.heap.size ≤ w.heap.size := Nat.le_refl _
  have H0 := Lib.hid (And.intro hcs hb1)
  have HS := Lib.hid hs
  have m0 := ba_ne (show s ≠ nmAlloc by rw [hs]; exact fun e => absurd (congrArg (fun b : ByteArray => b.data.toList) e) (by decide))
  rw [tlAlloc] at m0
  have m1 := ba_ne (show s ≠ nmFree by rw [hs]; exact fun e => absurd (congrArg (fun b : ByteArray => b.data.toList) e) (by decide))
  rw [tlFree] at m1
  have m2 := ba_ne (show s ≠ nmWrite by rw [hs]; exact fun e => absurd (congrArg (fun b : ByteArray => b.data.toList) e) (by decide))
  rw [tlWrite] at m2
  have m3 := ba_ne (show s ≠ nmLink by rw [hs]; exact fun e => absurd (congrArg (fun b : ByteArray => b.data.toList) e) (by decide))
  rw [tlLink] at m3
  have m4 := ba_ne (show s ≠ nmRoot by rw [hs]; exact fun e => absurd (congrArg (fun b : ByteArray => b.data.toList) e) (by decide))
  rw [tlRoot] at m4
  have m5 := ba_ne (show s ≠ nmRead by rw [hs]; exact fun e => absurd (congrArg (fun b : ByteArray => b.data.toList) e) (by decide))
  rw [tlRead] at m5
  have m6 := ba_ne (show s ≠ nmFollow by rw [hs]; exact fun e => absurd (congrArg (fun b : ByteArray => b.data.toList) e) (by decide))
  rw [tlFollow] at m6
  have m7 : (s.toList == [116, 111, 112]) = true := by rw [hs, tlTop]; rfl
  have q0 : w1.cell? ⟨w.heap.size + 1 + 1, 0, none⟩ = some (.int .i64 0) := hcs.op.cell 0
  have z0 : w1.frozen? ⟨w.heap.size + 1 + 1, 0, none⟩ = false := hcs.op.frozen 0
  have hp := hcs.put 0 (.int .i64 8)
  have HP := Lib.hid (And.intro hp.1 ((Chg.of_below (S := fun k => k = gl) hb1).trans hp.2 (by rintro i hi rfl; exact absurd hi (by omega))))
  obtain ⟨w2, hw2⟩ : ∃ x, w1.setCell ⟨w.heap.size + 1 + 1, 0, none⟩ (.int .i64 8) = x := ⟨_, rfl⟩
  rw [hw2] at HP
  clear hs he h hg hb1 h0 hcs hp H0
  go_enter Tryd.func20, Tryd.ntmps20
  go_wp2_with fail
  refine (take_any HP.out.1 2 (show 2 < 7 by omega)).mono ?_
  rintro e w3 ⟨rfl, n0, s0, hr, hc, hg⟩
  have T0 := Lib.hid (And.intro hc (HP.out.2.trans hg (by rintro i hi (rfl | rfl); exact rfl; exact absurd hi (by omega))))
  have R0 := Lib.hid hr
  clear hr hc hg
  have hld := T0.out.1.op.load (P := Tryd.prog) (k := 7) rfl
  have hst := T0.out.1.res.store (P := Tryd.prog) (cs' := oc 8 0 n0 0 0 0 0) rfl (oc_one 8 0 n0 0 0 0 0)
  have HE := Lib.hid (And.intro (T0.out.1.res.set (oc 8 0 n0 0 0 0 0)) (And.intro (T0.out.1.line.above (Chg.setRow (S := fun k => k = w.heap.size + 1) (Chg.refl _ _) (.inr rfl) (oc 8 0 n0 0 0 0 0).toArray) (by rintro i rfl; have := T0.out.1.o1; have := T0.out.1.o2; omega)) (T0.out.2.setRow (g := w.heap.size + 1) (.inl (by omega)) (oc 8 0 n0 0 0 0 0).toArray)))
  simp only [oc] at hld hst
  go_wp2_with fail
  refine bodyPost_ret (results_cell_row rfl _ _ (w.heap.size + 1) 25 _ (0, 0) _ rfl HE.out.1 Tryd.underlying25 rfl (by kernel_rfl)) rfl ⟨8, 0, n0, 0, 0, 0, 0, rfl, s0, (.inr (.inr (.inr (.inr (.inr (.inr (.inr (.inl ⟨HS.out, rfl, rfl, rfl, rfl, rfl, rfl, R0.out⟩)))))))), HE.out.2.1, HE.out.2.2⟩
set_option maxRecDepth 20000 in
set_option maxHeartbeats 1600000 in
theorem call_other (he : Env w) (h : LAt w gl st) (hg : 8 ≤ gl) (s : ByteArray) (n0 : s ≠ nmAlloc) (n1 : s ≠ nmFree) (n2 : s ≠ nmWrite) (n3 : s ≠ nmLink) (n4 : s ≠ nmRoot) (n5 : s ≠ nmRead) (n6 : s ≠ nmFollow) (n7 : s ≠ nmTop) :
    Calls Tryd.prog 20 #[.pointer (some ⟨gl, 0, none⟩), .string s] w fun e w' => ∃ k h i n kk v t : Int, e = .returned (.agg (oc k h i n kk v t).toArray) ∧ ∃ st', CallRel s st k h i n kk v t st' ∧ LAt w' gl st' ∧ Chg (fun k => k = gl) w w' := by
  obtain ⟨w1, hw1, hcs, hb1⟩ := CS.start he h hg
  have h0 : w.heap.size ≤ w.heap.size := Nat.le_refl _
  have H0 := Lib.hid (And.intro hcs hb1)
  have m0 := ba_ne n0
  rw [tlAlloc] at m0
  have m1 := ba_ne n1
  rw [tlFree] at m1
  have m2 := ba_ne n2
  rw [tlWrite] at m2
  have m3 := ba_ne n3
  rw [tlLink] at m3
  have m4 := ba_ne n4
  rw [tlRoot] at m4
  have m5 := ba_ne n5
  rw [tlRead] at m5
  have m6 := ba_ne n6
  rw [tlFollow] at m6
  have m7 := ba_ne n7
  rw [tlTop] at m7
  have HN := Lib.hid (show CallRel s st 0 0 0 0 0 0 0 none from .inr (.inr (.inr (.inr (.inr (.inr (.inr (.inr ⟨⟨n0, n1, n2, n3, n4, n5, n6, n7⟩, rfl⟩))))))))
  have qb : w1.cell? ⟨w.heap.size, 0, none⟩ = some (.pointer (some ⟨gl, 0, none⟩)) := hcs.box.cell 0
  obtain ⟨⟨no, q1⟩, z1⟩ := hcs.line.spot
  obtain ⟨hf1, hf2⟩ := hcs.line.fail
  have HP := Lib.hid (And.intro (hcs.num hf1 hf2) ((Chg.of_below (S := fun k => k = gl) hb1).trans hf2 (fun _ _ h => h)))
  obtain ⟨w2, hw2⟩ : ∃ x, w1.setCell ⟨gl, 1, none⟩ (.bool true) = x := ⟨_, rfl⟩
  rw [hw2] at HP
  clear n0 n1 n2 n3 n4 n5 n6 n7 he h hg hb1 h0 hcs H0 hf1 hf2
  go_enter Tryd.func20, Tryd.ntmps20
  have hld := HP.out.1.op.load (P := Tryd.prog) (k := 7) rfl
  have hst := HP.out.1.res.store (P := Tryd.prog) (cs' := oc 0 0 0 0 0 0 0) rfl (oc_one 0 0 0 0 0 0 0)
  have HE := Lib.hid (And.intro (HP.out.1.res.set (oc 0 0 0 0 0 0 0)) (And.intro (HP.out.1.line.above (Chg.setRow (S := fun k => k = w.heap.size + 1) (Chg.refl _ _) (.inr rfl) (oc 0 0 0 0 0 0 0).toArray) (by rintro i rfl; have := HP.out.1.o1; have := HP.out.1.o2; omega)) (HP.out.2.setRow (g := w.heap.size + 1) (.inl (by omega)) (oc 0 0 0 0 0 0 0).toArray)))
  simp only [oc] at hld hst
  go_wp2_with fail
  refine bodyPost_ret (results_cell_row rfl _ _ (w.heap.size + 1) 25 _ (0, 0) _ rfl HE.out.1 Tryd.underlying25 rfl (by kernel_rfl)) rfl ⟨0, 0, 0, 0, 0, 0, 0, rfl, none, HN.out, HE.out.2.1, HE.out.2.2⟩
theorem call_any (he : Env w) (h : LAt w gl st) (hg : 8 ≤ gl) (s : ByteArray) :
    Calls Tryd.prog 20 #[.pointer (some ⟨gl, 0, none⟩), .string s] w fun e w' => ∃ k h i n kk v t : Int, e = .returned (.agg (oc k h i n kk v t).toArray) ∧ ∃ st', CallRel s st k h i n kk v t st' ∧ LAt w' gl st' ∧ Chg (fun k => k = gl) w w' := by
  by_cases h0 : s = nmAlloc
  · exact call_alloc he h hg s h0
  by_cases h1 : s = nmFree
  · exact call_free he h hg s h1
  by_cases h2 : s = nmWrite
  · exact call_write he h hg s h2
  by_cases h3 : s = nmLink
  · exact call_link he h hg s h3
  by_cases h4 : s = nmRoot
  · exact call_root he h hg s h4
  by_cases h5 : s = nmRead
  · exact call_read he h hg s h5
  by_cases h6 : s = nmFollow
  · exact call_follow he h hg s h6
  by_cases h7 : s = nmTop
  · exact call_top he h hg s h7
  exact call_other he h hg s h0 h1 h2 h3 h4 h5 h6 h7
end
end Go.Proofs.YtehhgpnaemffnaaDoor
