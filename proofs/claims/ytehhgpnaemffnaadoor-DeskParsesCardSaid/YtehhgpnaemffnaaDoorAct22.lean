/- desk's act: an act out of a line's words. -/
import Derived.Test.YtehhgpnaemffnaaDoorCallD22
namespace Go.Proofs.YtehhgpnaemffnaaDoor
open Go.RowKit
attribute [-go_sem] loadCellsFrom storeCells
attribute [local go_sem] storeCells_one

def nmTick : ByteArray := ⟨#[116, 105, 99, 107]⟩
def nmStart : ByteArray := ⟨#[115, 116, 97, 114, 116]⟩
def nmDeliver : ByteArray := ⟨#[100, 101, 108, 105, 118, 101, 114]⟩
def nmDrop : ByteArray := ⟨#[100, 114, 111, 112]⟩
def nmDouble : ByteArray := ⟨#[100, 111, 117, 98, 108, 101]⟩
def nmRetry : ByteArray := ⟨#[114, 101, 116, 114, 121]⟩
def nmCrash : ByteArray := ⟨#[99, 114, 97, 115, 104]⟩
def nmNow : ByteArray := ⟨#[110, 111, 119]⟩
theorem tlTick : nmTick.toList = [116, 105, 99, 107] := by rw [ByteArray.toList_eq]; rfl
theorem tlStart : nmStart.toList = [115, 116, 97, 114, 116] := by rw [ByteArray.toList_eq]; rfl
theorem tlDeliver : nmDeliver.toList = [100, 101, 108, 105, 118, 101, 114] := by rw [ByteArray.toList_eq]; rfl
theorem tlDrop : nmDrop.toList = [100, 114, 111, 112] := by rw [ByteArray.toList_eq]; rfl
theorem tlDouble : nmDouble.toList = [100, 111, 117, 98, 108, 101] := by rw [ByteArray.toList_eq]; rfl
theorem tlRetry : nmRetry.toList = [114, 101, 116, 114, 121] := by rw [ByteArray.toList_eq]; rfl
theorem tlCrash : nmCrash.toList = [99, 114, 97, 115, 104] := by rw [ByteArray.toList_eq]; rfl
theorem tlNow : nmNow.toList = [110, 111, 119] := by rw [ByteArray.toList_eq]; rfl
/-- What stands behind crash and its node. -/
def CrashRel (st : Option (List ByteArray)) (n : Int) (st' : Option (List ByteArray)) : Prop :=
  (st = some [nmNow] ∧ n = -1 ∧ st' = some []) ∨ (st ≠ some [nmNow] ∧ RelN st 0 n st')
def ActRel (s : ByteArray) (st : Option (List ByteArray)) (k node n client ok h i nn kk v t : Int) (st' : Option (List ByteArray)) : Prop :=
  (s = nmTick ∧ k = 1 ∧ RelN st 0 node st' ∧ n = 0 ∧ client = 0 ∧ ok = 0 ∧ h = 0 ∧ i = 0 ∧ nn = 0 ∧ kk = 0 ∧ v = 0 ∧ t = 0) ∨
  (s = nmStart ∧ k = 8 ∧ RelN st 0 node st' ∧ n = 0 ∧ client = 0 ∧ ok = 0 ∧ h = 0 ∧ i = 0 ∧ nn = 0 ∧ kk = 0 ∧ v = 0 ∧ t = 0) ∨
  (s = nmDeliver ∧ k = 2 ∧ RelN st 0 n st' ∧ node = 0 ∧ client = 0 ∧ ok = 0 ∧ h = 0 ∧ i = 0 ∧ nn = 0 ∧ kk = 0 ∧ v = 0 ∧ t = 0) ∨
  (s = nmDrop ∧ k = 3 ∧ RelN st 0 n st' ∧ node = 0 ∧ client = 0 ∧ ok = 0 ∧ h = 0 ∧ i = 0 ∧ nn = 0 ∧ kk = 0 ∧ v = 0 ∧ t = 0) ∨
  (s = nmDouble ∧ k = 4 ∧ RelN st 0 n st' ∧ node = 0 ∧ client = 0 ∧ ok = 0 ∧ h = 0 ∧ i = 0 ∧ nn = 0 ∧ kk = 0 ∧ v = 0 ∧ t = 0) ∨
  (s = nmRetry ∧ k = 6 ∧ RelN st 0 client st' ∧ node = 0 ∧ n = 0 ∧ ok = 0 ∧ h = 0 ∧ i = 0 ∧ nn = 0 ∧ kk = 0 ∧ v = 0 ∧ t = 0) ∨
  (s = nmCrash ∧ k = 7 ∧ ∃ st1, RelN st 0 node st1 ∧ CrashRel st1 n st' ∧ client = 0 ∧ ok = 0 ∧ h = 0 ∧ i = 0 ∧ nn = 0 ∧ kk = 0 ∧ v = 0 ∧ t = 0) ∨
  ((s ≠ nmTick ∧ s ≠ nmStart ∧ s ≠ nmDeliver ∧ s ≠ nmDrop ∧ s ≠ nmDouble ∧ s ≠ nmRetry ∧ s ≠ nmCrash) ∧ k = 5 ∧ node = 0 ∧ n = 0 ∧ ∃ st1, RelN st 0 client st1 ∧ CallRel s st1 ok h i nn kk v t st')
section
variable {w : World} {gl : Nat} {st : Option (List ByteArray)}
set_option maxRecDepth 20000 in
set_option maxHeartbeats 1600000 in
theorem act_tick (he : Env w) (h : LAt w gl st) (hg : 8 ≤ gl) (s : ByteArray) (hs : s = nmTick) :
    Calls Tryd.prog 11 #[.pointer (some ⟨gl, 0, none⟩), .string s] w fun e w' => ∃ k node n client ok h i nn kk v t : Int, e = .returned (.agg (ac k node n client ok h i nn kk v t).toArray) ∧ ∃ st', ActRel s st k node n client ok h i nn kk v t st' ∧ LAt w' gl st' ∧ Chg (fun k => k = gl) w w' := by
  have hlt := h.lt
  have hb0 : Below w.heap.size w (w.alloc (.cells (ac 0 0 0 0 0 0 0 0 0 0 0).toArray 27)) := (Below.refl _ _).alloc (Nat.le_refl _) _
  have hk0 := Blk.new w 27 (ac 0 0 0 0 0 0 0 0 0 0 0)
  obtain ⟨w0, hw0⟩ : ∃ x, w.alloc (.cells (ac 0 0 0 0 0 0 0 0 0 0 0).toArray 27) = x := ⟨_, rfl⟩
  rw [hw0] at hb0 hk0
  simp only [ac] at hw0
  have HN := Lib.hid (number_any (he.below hb0 he.big) (h.below hb0 hlt) hg 0 (by omega))
  have H0 := Lib.hid (And.intro hk0 (And.intro hb0 (And.intro hlt (And.intro hg (he.below hb0 he.big)))))
  clear he h hlt hb0 hk0 hg
  have m0 : (s.toList == [116, 105, 99, 107]) = true := by rw [hs, tlTick]; rfl
  have HS := Lib.hid hs
  clear hs
  go_enter Tryd.func11, Tryd.ntmps11
  go_wp2_with fail
  refine HN.out.mono ?_
  rintro e w1 ⟨x, rfl, st1, hr, hl1, hc1⟩
  have hk1 : Blk w1 w.heap.size 27 (ac 0 0 0 0 0 0 0 0 0 0 0) := H0.out.1.chg hc1 (by have := H0.out.2.2.1; omega)
  have hc01 : Chg (fun k => k = gl) w w1 := (Chg.of_below H0.out.2.1).trans hc1 (fun _ _ h => h)
  have HR := Lib.hid hr
  have HL := Lib.hid (And.intro hl1 hc01)
  clear hr hl1 hc01 hc1
  have hst := hk1.store (P := Tryd.prog) (cs' := ac 1 x 0 0 0 0 0 0 0 0 0) rfl (ac_one 1 x 0 0 0 0 0 0 0 0 0)
  have HE := Lib.hid (And.intro (hk1.set (ac 1 x 0 0 0 0 0 0 0 0 0)) (And.intro (HL.out.1.above (Chg.setRow (S := fun k => k = w.heap.size) (Chg.refl _ _) (.inr rfl) (ac 1 x 0 0 0 0 0 0 0 0 0).toArray) (by rintro i rfl; exact H0.out.2.2.1)) (HL.out.2.setRow (g := w.heap.size) (.inl (Nat.le_refl _)) (ac 1 x 0 0 0 0 0 0 0 0 0).toArray)))
  simp only [ac] at hst
  clear hk1
  go_wp2_with fail
  refine bodyPost_ret (results_cell_row rfl _ _ w.heap.size 27 _ (0, 0) _ rfl HE.out.1 Tryd.underlying27 rfl (by kernel_rfl)) rfl ⟨1, x, 0, 0, 0, 0, 0, 0, 0, 0, 0, rfl, st1, (.inl ⟨HS.out, rfl, HR.out, rfl, rfl, rfl, rfl, rfl, rfl, rfl, rfl, rfl⟩), HE.out.2.1, HE.out.2.2⟩
set_option maxRecDepth 20000 in
set_option maxHeartbeats 1600000 in
theorem act_start (he : Env w) (h : LAt w gl st) (hg : 8 ≤ gl) (s : ByteArray) (hs : s = nmStart) :
    Calls Tryd.prog 11 #[.pointer (some ⟨gl, 0, none⟩), .string s] w fun e w' => ∃ k node n client ok h i nn kk v t : Int, e = .returned (.agg (ac k node n client ok h i nn kk v t).toArray) ∧ ∃ st', ActRel s st k node n client ok h i nn kk v t st' ∧ LAt w' gl st' ∧ Chg (fun k => k = gl) w w' := by
  have hlt := h.lt
  have hb0 : Below w.heap.size w (w.alloc (.cells (ac 0 0 0 0 0 0 0 0 0 0 0).toArray 27)) := (Below.refl _ _).alloc (Nat.le_refl _) _
  have hk0 := Blk.new w 27 (ac 0 0 0 0 0 0 0 0 0 0 0)
  obtain ⟨w0, hw0⟩ : ∃ x, w.alloc (.cells (ac 0 0 0 0 0 0 0 0 0 0 0).toArray 27) = x := ⟨_, rfl⟩
  rw [hw0] at hb0 hk0
  simp only [ac] at hw0
  have HN := Lib.hid (number_any (he.below hb0 he.big) (h.below hb0 hlt) hg 0 (by omega))
  have H0 := Lib.hid (And.intro hk0 (And.intro hb0 (And.intro hlt (And.intro hg (he.below hb0 he.big)))))
  clear he h hlt hb0 hk0 hg
  have m0 := ba_ne (show s ≠ nmTick by rw [hs]; exact fun e => absurd (congrArg (fun b : ByteArray => b.data.toList) e) (by decide))
  rw [tlTick] at m0
  have m1 : (s.toList == [115, 116, 97, 114, 116]) = true := by rw [hs, tlStart]; rfl
  have HS := Lib.hid hs
  clear hs
  go_enter Tryd.func11, Tryd.ntmps11
  go_wp2_with fail
  refine HN.out.mono ?_
  rintro e w1 ⟨x, rfl, st1, hr, hl1, hc1⟩
  have hk1 : Blk w1 w.heap.size 27 (ac 0 0 0 0 0 0 0 0 0 0 0) := H0.out.1.chg hc1 (by have := H0.out.2.2.1; omega)
  have hc01 : Chg (fun k => k = gl) w w1 := (Chg.of_below H0.out.2.1).trans hc1 (fun _ _ h => h)
  have HR := Lib.hid hr
  have HL := Lib.hid (And.intro hl1 hc01)
  clear hr hl1 hc01 hc1
  have hst := hk1.store (P := Tryd.prog) (cs' := ac 8 x 0 0 0 0 0 0 0 0 0) rfl (ac_one 8 x 0 0 0 0 0 0 0 0 0)
  have HE := Lib.hid (And.intro (hk1.set (ac 8 x 0 0 0 0 0 0 0 0 0)) (And.intro (HL.out.1.above (Chg.setRow (S := fun k => k = w.heap.size) (Chg.refl _ _) (.inr rfl) (ac 8 x 0 0 0 0 0 0 0 0 0).toArray) (by rintro i rfl; exact H0.out.2.2.1)) (HL.out.2.setRow (g := w.heap.size) (.inl (Nat.le_refl _)) (ac 8 x 0 0 0 0 0 0 0 0 0).toArray)))
  simp only [ac] at hst
  clear hk1
  go_wp2_with fail
  refine bodyPost_ret (results_cell_row rfl _ _ w.heap.size 27 _ (0, 0) _ rfl HE.out.1 Tryd.underlying27 rfl (by kernel_rfl)) rfl ⟨8, x, 0, 0, 0, 0, 0, 0, 0, 0, 0, rfl, st1, (.inr (.inl ⟨HS.out, rfl, HR.out, rfl, rfl, rfl, rfl, rfl, rfl, rfl, rfl, rfl⟩)), HE.out.2.1, HE.out.2.2⟩
set_option maxRecDepth 20000 in
set_option maxHeartbeats 1600000 in
theorem act_deliver (he : Env w) (h : LAt w gl st) (hg : 8 ≤ gl) (s : ByteArray) (hs : s = nmDeliver) :
    Calls Tryd.prog 11 #[.pointer (some ⟨gl, 0, none⟩), .string s] w fun e w' => ∃ k node n client ok h i nn kk v t : Int, e = .returned (.agg (ac k node n client ok h i nn kk v t).toArray) ∧ ∃ st', ActRel s st k node n client ok h i nn kk v t st' ∧ LAt w' gl st' ∧ Chg (fun k => k = gl) w w' := by
  have hlt := h.lt
  have hb0 : Below w.heap.size w (w.alloc (.cells (ac 0 0 0 0 0 0 0 0 0 0 0).toArray 27)) := (Below.refl _ _).alloc (Nat.le_refl _) _
  have hk0 := Blk.new w 27 (ac 0 0 0 0 0 0 0 0 0 0 0)
  obtain ⟨w0, hw0⟩ : ∃ x, w.alloc (.cells (ac 0 0 0 0 0 0 0 0 0 0 0).toArray 27) = x := ⟨_, rfl⟩
  rw [hw0] at hb0 hk0
  simp only [ac] at hw0
  have HN := Lib.hid (number_any (he.below hb0 he.big) (h.below hb0 hlt) hg 0 (by omega))
  have H0 := Lib.hid (And.intro hk0 (And.intro hb0 (And.intro hlt (And.intro hg (he.below hb0 he.big)))))
  clear he h hlt hb0 hk0 hg
  have m0 := ba_ne (show s ≠ nmTick by rw [hs]; exact fun e => absurd (congrArg (fun b : ByteArray => b.data.toList) e) (by decide))
  rw [tlTick] at m0
  have m1 := ba_ne (show s ≠ nmStart by rw [hs]; exact fun e => absurd (congrArg (fun b : ByteArray => b.data.toList) e) (by decide))
  rw [tlStart] at m1
  have m2 : (s.toList == [100, 101, 108, 105, 118, 101, 114]) = true := by rw [hs, tlDeliver]; rfl
  have HS := Lib.hid hs
  clear hs
  go_enter Tryd.func11, Tryd.ntmps11
  go_wp2_with fail
  refine HN.out.mono ?_
  rintro e w1 ⟨x, rfl, st1, hr, hl1, hc1⟩
  have hk1 : Blk w1 w.heap.size 27 (ac 0 0 0 0 0 0 0 0 0 0 0) := H0.out.1.chg hc1 (by have := H0.out.2.2.1; omega)
  have hc01 : Chg (fun k => k = gl) w w1 := (Chg.of_below H0.out.2.1).trans hc1 (fun _ _ h => h)
  have HR := Lib.hid hr
  have HL := Lib.hid (And.intro hl1 hc01)
  clear hr hl1 hc01 hc1
  have hst := hk1.store (P := Tryd.prog) (cs' := ac 2 0 x 0 0 0 0 0 0 0 0) rfl (ac_one 2 0 x 0 0 0 0 0 0 0 0)
  have HE := Lib.hid (And.intro (hk1.set (ac 2 0 x 0 0 0 0 0 0 0 0)) (And.intro (HL.out.1.above (Chg.setRow (S := fun k => k = w.heap.size) (Chg.refl _ _) (.inr rfl) (ac 2 0 x 0 0 0 0 0 0 0 0).toArray) (by rintro i rfl; exact H0.out.2.2.1)) (HL.out.2.setRow (g := w.heap.size) (.inl (Nat.le_refl _)) (ac 2 0 x 0 0 0 0 0 0 0 0).toArray)))
  simp only [ac] at hst
  clear hk1
  go_wp2_with fail
  refine bodyPost_ret (results_cell_row rfl _ _ w.heap.size 27 _ (0, 0) _ rfl HE.out.1 Tryd.underlying27 rfl (by kernel_rfl)) rfl ⟨2, 0, x, 0, 0, 0, 0, 0, 0, 0, 0, rfl, st1, (.inr (.inr (.inl ⟨HS.out, rfl, HR.out, rfl, rfl, rfl, rfl, rfl, rfl, rfl, rfl, rfl⟩))), HE.out.2.1, HE.out.2.2⟩
set_option maxRecDepth 20000 in
set_option maxHeartbeats 1600000 in
theorem act_drop (he : Env w) (h : LAt w gl st) (hg : 8 ≤ gl) (s : ByteArray) (hs : s = nmDrop) :
    Calls Tryd.prog 11 #[.pointer (some ⟨gl, 0, none⟩), .string s] w fun e w' => ∃ k node n client ok h i nn kk v t : Int, e = .returned (.agg (ac k node n client ok h i nn kk v t).toArray) ∧ ∃ st', ActRel s st k node n client ok h i nn kk v t st' ∧ LAt w' gl st' ∧ Chg (fun k => k = gl) w w' := by
  have hlt := h.lt
  have hb0 : Below w.heap.size w (w.alloc (.cells (ac 0 0 0 0 0 0 0 0 0 0 0).toArray 27)) := (Below.refl _ _).alloc (Nat.le_refl _) _
  have hk0 := Blk.new w 27 (ac 0 0 0 0 0 0 0 0 0 0 0)
  obtain ⟨w0, hw0⟩ : ∃ x, w.alloc (.cells (ac 0 0 0 0 0 0 0 0 0 0 0).toArray 27) = x := ⟨_, rfl⟩
  rw [hw0] at hb0 hk0
  simp only [ac] at hw0
  have HN := Lib.hid (number_any (he.below hb0 he.big) (h.below hb0 hlt) hg 0 (by omega))
  have H0 := Lib.hid (And.intro hk0 (And.intro hb0 (And.intro hlt (And.intro hg (he.below hb0 he.big)))))
  clear he h hlt hb0 hk0 hg
  have m0 := ba_ne (show s ≠ nmTick by rw [hs]; exact fun e => absurd (congrArg (fun b : ByteArray => b.data.toList) e) (by decide))
  rw [tlTick] at m0
  have m1 := ba_ne (show s ≠ nmStart by rw [hs]; exact fun e => absurd (congrArg (fun b : ByteArray => b.data.toList) e) (by decide))
  rw [tlStart] at m1
  have m2 := ba_ne (show s ≠ nmDeliver by rw [hs]; exact fun e => absurd (congrArg (fun b : ByteArray => b.data.toList) e) (by decide))
  rw [tlDeliver] at m2
  have m3 : (s.toList == [100, 114, 111, 112]) = true := by rw [hs, tlDrop]; rfl
  have HS := Lib.hid hs
  clear hs
  go_enter Tryd.func11, Tryd.ntmps11
  go_wp2_with fail
  refine HN.out.mono ?_
  rintro e w1 ⟨x, rfl, st1, hr, hl1, hc1⟩
  have hk1 : Blk w1 w.heap.size 27 (ac 0 0 0 0 0 0 0 0 0 0 0) := H0.out.1.chg hc1 (by have := H0.out.2.2.1; omega)
  have hc01 : Chg (fun k => k = gl) w w1 := (Chg.of_below H0.out.2.1).trans hc1 (fun _ _ h => h)
  have HR := Lib.hid hr
  have HL := Lib.hid (And.intro hl1 hc01)
  clear hr hl1 hc01 hc1
  have hst := hk1.store (P := Tryd.prog) (cs' := ac 3 0 x 0 0 0 0 0 0 0 0) rfl (ac_one 3 0 x 0 0 0 0 0 0 0 0)
  have HE := Lib.hid (And.intro (hk1.set (ac 3 0 x 0 0 0 0 0 0 0 0)) (And.intro (HL.out.1.above (Chg.setRow (S := fun k => k = w.heap.size) (Chg.refl _ _) (.inr rfl) (ac 3 0 x 0 0 0 0 0 0 0 0).toArray) (by rintro i rfl; exact H0.out.2.2.1)) (HL.out.2.setRow (g := w.heap.size) (.inl (Nat.le_refl _)) (ac 3 0 x 0 0 0 0 0 0 0 0).toArray)))
  simp only [ac] at hst
  clear hk1
  go_wp2_with fail
  refine bodyPost_ret (results_cell_row rfl _ _ w.heap.size 27 _ (0, 0) _ rfl HE.out.1 Tryd.underlying27 rfl (by kernel_rfl)) rfl ⟨3, 0, x, 0, 0, 0, 0, 0, 0, 0, 0, rfl, st1, (.inr (.inr (.inr (.inl ⟨HS.out, rfl, HR.out, rfl, rfl, rfl, rfl, rfl, rfl, rfl, rfl, rfl⟩)))), HE.out.2.1, HE.out.2.2⟩
set_option maxRecDepth 20000 in
set_option maxHeartbeats 1600000 in
theorem act_double (he : Env w) (h : LAt w gl st) (hg : 8 ≤ gl) (s : ByteArray) (hs : s = nmDouble) :
    Calls Tryd.prog 11 #[.pointer (some ⟨gl, 0, none⟩), .string s] w fun e w' => ∃ k node n client ok h i nn kk v t : Int, e = .returned (.agg (ac k node n client ok h i nn kk v t).toArray) ∧ ∃ st', ActRel s st k node n client ok h i nn kk v t st' ∧ LAt w' gl st' ∧ Chg (fun k => k = gl) w w' := by
  have hlt := h.lt
  have hb0 : Below w.heap.size w (w.alloc (.cells (ac 0 0 0 0 0 0 0 0 0 0 0).toArray 27)) := (Below.refl _ _).alloc (Nat.le_refl _) _
  have hk0 := Blk.new w 27 (ac 0 0 0 0 0 0 0 0 0 0 0)
  obtain ⟨w0, hw0⟩ : ∃ x, w.alloc (.cells (ac 0 0 0 0 0 0 0 0 0 0 0).toArray 27) = x := ⟨_, rfl⟩
  rw [hw0] at hb0 hk0
  simp only [ac] at hw0
  have HN := Lib.hid (number_any (he.below hb0 he.big) (h.below hb0 hlt) hg 0 (by omega))
  have H0 := Lib.hid (And.intro hk0 (And.intro hb0 (And.intro hlt (And.intro hg (he.below hb0 he.big)))))
  clear he h hlt hb0 hk0 hg
  have m0 := ba_ne (show s ≠ nmTick by rw [hs]; exact fun e => absurd (congrArg (fun b : ByteArray => b.data.toList) e) (by decide))
  rw [tlTick] at m0
  have m1 := ba_ne (show s ≠ nmStart by rw [hs]; exact fun e => absurd (congrArg (fun b : ByteArray => b.data.toList) e) (by decide))
  rw [tlStart] at m1
  have m2 := ba_ne (show s ≠ nmDeliver by rw [hs]; exact fun e => absurd (congrArg (fun b : ByteArray => b.data.toList) e) (by decide))
  rw [tlDeliver] at m2
  have m3 := ba_ne (show s ≠ nmDrop by rw [hs]; exact fun e => absurd (congrArg (fun b : ByteArray => b.data.toList) e) (by decide))
  rw [tlDrop] at m3
  have m4 : (s.toList == [100, 111, 117, 98, 108, 101]) = true := by rw [hs, tlDouble]; rfl
  have HS := Lib.hid hs
  clear hs
  go_enter Tryd.func11, Tryd.ntmps11
  go_wp2_with fail
  refine HN.out.mono ?_
  rintro e w1 ⟨x, rfl, st1, hr, hl1, hc1⟩
  have hk1 : Blk w1 w.heap.size 27 (ac 0 0 0 0 0 0 0 0 0 0 0) := H0.out.1.chg hc1 (by have := H0.out.2.2.1; omega)
  have hc01 : Chg (fun k => k = gl) w w1 := (Chg.of_below H0.out.2.1).trans hc1 (fun _ _ h => h)
  have HR := Lib.hid hr
  have HL := Lib.hid (And.intro hl1 hc01)
  clear hr hl1 hc01 hc1
  have hst := hk1.store (P := Tryd.prog) (cs' := ac 4 0 x 0 0 0 0 0 0 0 0) rfl (ac_one 4 0 x 0 0 0 0 0 0 0 0)
  have HE := Lib.hid (And.intro (hk1.set (ac 4 0 x 0 0 0 0 0 0 0 0)) (And.intro (HL.out.1.above (Chg.setRow (S := fun k => k = w.heap.size) (Chg.refl _ _) (.inr rfl) (ac 4 0 x 0 0 0 0 0 0 0 0).toArray) (by rintro i rfl; exact H0.out.2.2.1)) (HL.out.2.setRow (g := w.heap.size) (.inl (Nat.le_refl _)) (ac 4 0 x 0 0 0 0 0 0 0 0).toArray)))
  simp only [ac] at hst
  clear hk1
  go_wp2_with fail
  refine bodyPost_ret (results_cell_row rfl _ _ w.heap.size 27 _ (0, 0) _ rfl HE.out.1 Tryd.underlying27 rfl (by kernel_rfl)) rfl ⟨4, 0, x, 0, 0, 0, 0, 0, 0, 0, 0, rfl, st1, (.inr (.inr (.inr (.inr (.inl ⟨HS.out, rfl, HR.out, rfl, rfl, rfl, rfl, rfl, rfl, rfl, rfl, rfl⟩))))), HE.out.2.1, HE.out.2.2⟩
set_option maxRecDepth 20000 in
set_option maxHeartbeats 1600000 in
theorem act_retry (he : Env w) (h : LAt w gl st) (hg : 8 ≤ gl) (s : ByteArray) (hs : s = nmRetry) :
    Calls Tryd.prog 11 #[.pointer (some ⟨gl, 0, none⟩), .string s] w fun e w' => ∃ k node n client ok h i nn kk v t : Int, e = .returned (.agg (ac k node n client ok h i nn kk v t).toArray) ∧ ∃ st', ActRel s st k node n client ok h i nn kk v t st' ∧ LAt w' gl st' ∧ Chg (fun k => k = gl) w w' := by
  have hlt := h.lt
  have hb0 : Below w.heap.size w (w.alloc (.cells (ac 0 0 0 0 0 0 0 0 0 0 0).toArray 27)) := (Below.refl _ _).alloc (Nat.le_refl _) _
  have hk0 := Blk.new w 27 (ac 0 0 0 0 0 0 0 0 0 0 0)
  obtain ⟨w0, hw0⟩ : ∃ x, w.alloc (.cells (ac 0 0 0 0 0 0 0 0 0 0 0).toArray 27) = x := ⟨_, rfl⟩
  rw [hw0] at hb0 hk0
  simp only [ac] at hw0
  have HN := Lib.hid (number_any (he.below hb0 he.big) (h.below hb0 hlt) hg 0 (by omega))
  have H0 := Lib.hid (And.intro hk0 (And.intro hb0 (And.intro hlt (And.intro hg (he.below hb0 he.big)))))
  clear he h hlt hb0 hk0 hg
  have m0 := ba_ne (show s ≠ nmTick by rw [hs]; exact fun e => absurd (congrArg (fun b : ByteArray => b.data.toList) e) (by decide))
  rw [tlTick] at m0
  have m1 := ba_ne (show s ≠ nmStart by rw [hs]; exact fun e => absurd (congrArg (fun b : ByteArray => b.data.toList) e) (by decide))
  rw [tlStart] at m1
  have m2 := ba_ne (show s ≠ nmDeliver by rw [hs]; exact fun e => absurd (congrArg (fun b : ByteArray => b.data.toList) e) (by decide))
  rw [tlDeliver] at m2
  have m3 := ba_ne (show s ≠ nmDrop by rw [hs]; exact fun e => absurd (congrArg (fun b : ByteArray => b.data.toList) e) (by decide))
  rw [tlDrop] at m3
  have m4 := ba_ne (show s ≠ nmDouble by rw [hs]; exact fun e => absurd (congrArg (fun b : ByteArray => b.data.toList) e) (by decide))
  rw [tlDouble] at m4
  have m5 : (s.toList == [114, 101, 116, 114, 121]) = true := by rw [hs, tlRetry]; rfl
  have HS := Lib.hid hs
  clear hs
  go_enter Tryd.func11, Tryd.ntmps11
  go_wp2_with fail
  refine HN.out.mono ?_
  rintro e w1 ⟨x, rfl, st1, hr, hl1, hc1⟩
  have hk1 : Blk w1 w.heap.size 27 (ac 0 0 0 0 0 0 0 0 0 0 0) := H0.out.1.chg hc1 (by have := H0.out.2.2.1; omega)
  have hc01 : Chg (fun k => k = gl) w w1 := (Chg.of_below H0.out.2.1).trans hc1 (fun _ _ h => h)
  have HR := Lib.hid hr
  have HL := Lib.hid (And.intro hl1 hc01)
  clear hr hl1 hc01 hc1
  have hst := hk1.store (P := Tryd.prog) (cs' := ac 6 0 0 x 0 0 0 0 0 0 0) rfl (ac_one 6 0 0 x 0 0 0 0 0 0 0)
  have HE := Lib.hid (And.intro (hk1.set (ac 6 0 0 x 0 0 0 0 0 0 0)) (And.intro (HL.out.1.above (Chg.setRow (S := fun k => k = w.heap.size) (Chg.refl _ _) (.inr rfl) (ac 6 0 0 x 0 0 0 0 0 0 0).toArray) (by rintro i rfl; exact H0.out.2.2.1)) (HL.out.2.setRow (g := w.heap.size) (.inl (Nat.le_refl _)) (ac 6 0 0 x 0 0 0 0 0 0 0).toArray)))
  simp only [ac] at hst
  clear hk1
  go_wp2_with fail
  refine bodyPost_ret (results_cell_row rfl _ _ w.heap.size 27 _ (0, 0) _ rfl HE.out.1 Tryd.underlying27 rfl (by kernel_rfl)) rfl ⟨6, 0, 0, x, 0, 0, 0, 0, 0, 0, 0, rfl, st1, (.inr (.inr (.inr (.inr (.inr (.inl ⟨HS.out, rfl, HR.out, rfl, rfl, rfl, rfl, rfl, rfl, rfl, rfl, rfl⟩)))))), HE.out.2.1, HE.out.2.2⟩
set_option maxRecDepth 20000 in
set_option maxHeartbeats 1600000 in
theorem act_crash (he : Env w) (h : LAt w gl st) (hg : 8 ≤ gl) (s : ByteArray) (hs : s = nmCrash) :
    Calls Tryd.prog 11 #[.pointer (some ⟨gl, 0, none⟩), .string s] w fun e w' => ∃ k node n client ok h i nn kk v t : Int, e = .returned (.agg (ac k node n client ok h i nn kk v t).toArray) ∧ ∃ st', ActRel s st k node n client ok h i nn kk v t st' ∧ LAt w' gl st' ∧ Chg (fun k => k = gl) w w' := by
  have hlt := h.lt
  have hb0 : Below w.heap.size w (w.alloc (.cells (ac 0 0 0 0 0 0 0 0 0 0 0).toArray 27)) := (Below.refl _ _).alloc (Nat.le_refl _) _
  have hk0 := Blk.new w 27 (ac 0 0 0 0 0 0 0 0 0 0 0)
  obtain ⟨w0, hw0⟩ : ∃ x, w.alloc (.cells (ac 0 0 0 0 0 0 0 0 0 0 0).toArray 27) = x := ⟨_, rfl⟩
  rw [hw0] at hb0 hk0
  simp only [ac] at hw0
  have HN := Lib.hid (number_any (he.below hb0 he.big) (h.below hb0 hlt) hg 0 (by omega))
  have H0 := Lib.hid (And.intro hk0 (And.intro hb0 (And.intro hlt (And.intro hg (he.below hb0 he.big)))))
  clear he h hlt hb0 hk0 hg
  have m0 := ba_ne (show s ≠ nmTick by rw [hs]; exact fun e => absurd (congrArg (fun b : ByteArray => b.data.toList) e) (by decide))
  rw [tlTick] at m0
  have m1 := ba_ne (show s ≠ nmStart by rw [hs]; exact fun e => absurd (congrArg (fun b : ByteArray => b.data.toList) e) (by decide))
  rw [tlStart] at m1
  have m2 := ba_ne (show s ≠ nmDeliver by rw [hs]; exact fun e => absurd (congrArg (fun b : ByteArray => b.data.toList) e) (by decide))
  rw [tlDeliver] at m2
  have m3 := ba_ne (show s ≠ nmDrop by rw [hs]; exact fun e => absurd (congrArg (fun b : ByteArray => b.data.toList) e) (by decide))
  rw [tlDrop] at m3
  have m4 := ba_ne (show s ≠ nmDouble by rw [hs]; exact fun e => absurd (congrArg (fun b : ByteArray => b.data.toList) e) (by decide))
  rw [tlDouble] at m4
  have m5 := ba_ne (show s ≠ nmRetry by rw [hs]; exact fun e => absurd (congrArg (fun b : ByteArray => b.data.toList) e) (by decide))
  rw [tlRetry] at m5
  have m6 : (s.toList == [99, 114, 97, 115, 104]) = true := by rw [hs, tlCrash]; rfl
  have HS := Lib.hid hs
  clear hs
  go_enter Tryd.func11, Tryd.ntmps11
  go_wp2_with fail
  refine HN.out.mono ?_
  rintro e w1 ⟨x, rfl, st1, hr, hl1, hc1⟩
  have hk1 : Blk w1 w.heap.size 27 (ac 0 0 0 0 0 0 0 0 0 0 0) := H0.out.1.chg hc1 (by have := H0.out.2.2.1; omega)
  have hc01 : Chg (fun k => k = gl) w w1 := (Chg.of_below H0.out.2.1).trans hc1 (fun _ _ h => h)
  have hla := H0.out.2.2.1
  have hlw1 := hk1.lt
  have hkA := Blk.new w1 27 (ac 0 0 0 0 0 0 0 0 0 0 0)
  have hstA := hkA.store (P := Tryd.prog) (cs' := ac 7 x (-1) 0 0 0 0 0 0 0 0) rfl (ac_one 7 x (-1) 0 0 0 0 0 0 0 0)
  have hkA2 := hkA.set (ac 7 x (-1) 0 0 0 0 0 0 0 0)
  have hcA : Chg (fun _ => False) w1 ((w1.alloc (.cells (ac 0 0 0 0 0 0 0 0 0 0 0).toArray 27)).setRow w1.heap.size (ac 7 x (-1) 0 0 0 0 0 0 0 0).toArray) := ((Chg.refl _ _).alloc _).setRow (g := w1.heap.size) (.inl (Nat.le_refl _)) _
  obtain ⟨w2, hw2⟩ : ∃ y, (w1.alloc (.cells (ac 0 0 0 0 0 0 0 0 0 0 0).toArray 27)).setRow w1.heap.size (ac 7 x (-1) 0 0 0 0 0 0 0 0).toArray = y := ⟨_, rfl⟩
  rw [hw2] at hstA hkA2 hcA
  have hl2 := hl1.above hcA (fun _ h => absurd h id)
  have hk2 := hk1.chg hcA id
  have hc02 : Chg (fun k => k = gl) w w2 := hc01.trans hcA (fun _ _ h => absurd h id)
  have he2 : Env w2 := (H0.out.2.2.2.2.chg hc1 (by rintro i rfl; exact H0.out.2.2.2.1)).chg hcA (fun _ h => absurd h id)
  have HR := Lib.hid hr
  have H2 := Lib.hid (And.intro hl2 (And.intro hk2 (And.intro hkA2 (And.intro hc02 (And.intro he2 (And.intro hlw1 hla))))))
  have HN2 := Lib.hid (number_any he2 hl2 H0.out.2.2.2.1 0 (by omega))
  simp only [ac] at hstA
  obtain ⟨A, c, no, ws, hkl, hrl, hlc, hcm, hsz, hst1⟩ := hl2
  have HX := Lib.hid (And.intro hkl (And.intro hrl (And.intro hsz hst1)))
  clear hr hl1 hc01 hc1 hk1 hkA hkA2 hcA hk2 hc02 he2 hlw1 hla hw2 hrl hlc hcm hsz hst1
  by_cases hlen : ws.length = 1
  · obtain ⟨a, rfl⟩ := List.length_eq_one_iff.1 hlen
    obtain ⟨b, off, rfl, hcell⟩ : ∃ b off, A = some ⟨b, off, none⟩ ∧ w2.cell? ⟨b, off, none⟩ = some (.string a) := by
      rcases HX.out.2.1 with h | ⟨b, off, e, hb, hc⟩
      · simp [sv] at h
      · exact ⟨b, off, e, by have := hc 0 _ rfl; rwa [Nat.add_zero] at this⟩
    have q0 : w2.cell? ⟨gl, 0, none⟩ = some (.slice (some ⟨b, off, none⟩) 1 c) := hkl.cell 0
    have z0 : w2.frozen? ⟨gl, 0, none⟩ = false := hkl.frozen 0
    clear hkl hlen
    by_cases hnow : a = nmNow
    · have mn : (a.toList == [110, 111, 119]) = true := by rw [hnow, tlNow]; rfl
      have hl3 : LAt (w2.setCell ⟨gl, 0, none⟩ (.slice none 0 0)) gl (if no = true then none else some []) := ⟨none, 0, no, [], HX.out.1.setCell 0 _, .inl rfl, Nat.le_refl _, by unfold maxLen; omega, fun s hs => (by cases hs), rfl⟩
      have hc23 : Chg (fun k => k = gl) w2 (w2.setCell ⟨gl, 0, none⟩ (.slice none 0 0)) := (Chg.refl (fun k => k = gl) _).setCell (.inr rfl) 0 _
      have hka4 := H2.out.2.2.1.chg hc23 (by have := H2.out.2.2.2.2.2; omega)
      have hk4 := H2.out.2.1.chg hc23 (by have := H2.out.2.2.2.2.2; omega)
      have hc04 : Chg (fun k => k = gl) w (w2.setCell ⟨gl, 0, none⟩ (.slice none 0 0)) := H2.out.2.2.2.1.trans hc23 (fun _ _ h => h)
      obtain ⟨w4, hw4⟩ : ∃ y, w2.setCell ⟨gl, 0, none⟩ (.slice none 0 0) = y := ⟨_, rfl⟩
      rw [hw4] at hl3 hka4 hk4 hc04
      have hld := hka4.load (P := Tryd.prog) (k := 11) rfl
      have HCR := Lib.hid (show CrashRel st1 (-1) (if no = true then none else some []) by
        rw [HX.out.2.2.2, hnow]
        cases no
        · exact .inl ⟨rfl, rfl, rfl⟩
        · exact .inr ⟨by simp, rfl⟩)
      have HL := Lib.hid (And.intro hl3 hc04)
      clear hl3 hc23 hka4 hc04 hnow
      have hst := hk4.store (P := Tryd.prog) (cs' := ac 7 x (-1) 0 0 0 0 0 0 0 0) rfl (ac_one 7 x (-1) 0 0 0 0 0 0 0 0)
      have HE := Lib.hid (And.intro (hk4.set (ac 7 x (-1) 0 0 0 0 0 0 0 0)) (And.intro (HL.out.1.above (Chg.setRow (S := fun k => k = w.heap.size) (Chg.refl _ _) (.inr rfl) (ac 7 x (-1) 0 0 0 0 0 0 0 0).toArray) (by rintro i rfl; exact H0.out.2.2.1)) (HL.out.2.setRow (g := w.heap.size) (.inl (Nat.le_refl _)) (ac 7 x (-1) 0 0 0 0 0 0 0 0).toArray)))
      simp only [ac] at hst
      simp only [ac] at hld
      clear hk4
      go_wp2_with fail
      refine bodyPost_ret (results_cell_row rfl _ _ w.heap.size 27 _ (0, 0) _ rfl HE.out.1 Tryd.underlying27 rfl (by kernel_rfl)) rfl ⟨7, x, (-1), 0, 0, 0, 0, 0, 0, 0, 0, rfl, _, (.inr (.inr (.inr (.inr (.inr (.inr (.inl ⟨HS.out, rfl, st1, HR.out, HCR.out, rfl, rfl, rfl, rfl, rfl, rfl, rfl, rfl⟩))))))), HE.out.2.1, HE.out.2.2⟩
    · have mn := ba_ne hnow
      rw [tlNow] at mn
      have NEQ := Lib.hid (show st1 ≠ some [nmNow] by
        rw [HX.out.2.2.2]
        cases no
        · intro e
          simp at e
          exact hnow e
        · simp)
      clear hnow
      go_wp2_with fail
      refine HN2.out.mono ?_
      rintro e w3 ⟨N, rfl, st3, hr3, hl3, hc3⟩
      have hka3 : Blk w3 w1.heap.size 27 (ac 7 x (-1) 0 0 0 0 0 0 0 0) := H2.out.2.2.1.chg hc3 (by have := H2.out.2.2.2.2.2; omega)
      have hk3 : Blk w3 w.heap.size 27 (ac 0 0 0 0 0 0 0 0 0 0 0) := H2.out.2.1.chg hc3 (by have := H2.out.2.2.2.2.2; omega)
      have qa : w3.cell? ⟨w1.heap.size, 2, none⟩ = some (.int .i64 (-1)) := hka3.cell 2
      have za : w3.frozen? ⟨w1.heap.size, 2, none⟩ = false := hka3.frozen 2
      have hka4 : Blk (w3.setCell ⟨w1.heap.size, 2, none⟩ (.int .i64 N)) w1.heap.size 27 (ac 7 x N 0 0 0 0 0 0 0 0) := hka3.setCell 2 (.int .i64 N)
      have hc34 : Chg (fun k => k = w1.heap.size) w3 (w3.setCell ⟨w1.heap.size, 2, none⟩ (.int .i64 N)) := (Chg.refl (fun k => k = w1.heap.size) _).setCell (.inr rfl) 2 _
      have hl4 := hl3.above hc34 (by rintro i rfl; have := H2.out.2.2.2.2.2; omega)
      have hk4 := hk3.chg hc34 (by have := H2.out.2.2.2.2.2; omega)
      have hc04 : Chg (fun k => k = gl) w (w3.setCell ⟨w1.heap.size, 2, none⟩ (.int .i64 N)) := (H2.out.2.2.2.1.trans hc3 (fun _ _ h => h)).trans hc34 (by rintro i hi rfl; have := H2.out.2.2.2.2.2; omega)
      obtain ⟨w4, hw4⟩ : ∃ y, w3.setCell ⟨w1.heap.size, 2, none⟩ (.int .i64 N) = y := ⟨_, rfl⟩
      rw [hw4] at hka4 hl4 hk4 hc04
      have hld := hka4.load (P := Tryd.prog) (k := 11) rfl
      have HR3 := Lib.hid hr3
      have HL := Lib.hid (And.intro hl4 hc04)
      clear hr3 hl3 hc3 hka3 hk3 hka4 hc34 hl4 hc04
      have hst := hk4.store (P := Tryd.prog) (cs' := ac 7 x N 0 0 0 0 0 0 0 0) rfl (ac_one 7 x N 0 0 0 0 0 0 0 0)
      have HE := Lib.hid (And.intro (hk4.set (ac 7 x N 0 0 0 0 0 0 0 0)) (And.intro (HL.out.1.above (Chg.setRow (S := fun k => k = w.heap.size) (Chg.refl _ _) (.inr rfl) (ac 7 x N 0 0 0 0 0 0 0 0).toArray) (by rintro i rfl; exact H0.out.2.2.1)) (HL.out.2.setRow (g := w.heap.size) (.inl (Nat.le_refl _)) (ac 7 x N 0 0 0 0 0 0 0 0).toArray)))
      simp only [ac] at hst
      simp only [ac] at hld
      clear hk4
      go_wp2_with fail
      refine bodyPost_ret (results_cell_row rfl _ _ w.heap.size 27 _ (0, 0) _ rfl HE.out.1 Tryd.underlying27 rfl (by kernel_rfl)) rfl ⟨7, x, N, 0, 0, 0, 0, 0, 0, 0, 0, rfl, st3, (.inr (.inr (.inr (.inr (.inr (.inr (.inl ⟨HS.out, rfl, st1, HR.out, .inr ⟨NEQ.out, HR3.out⟩, rfl, rfl, rfl, rfl, rfl, rfl, rfl, rfl⟩))))))), HE.out.2.1, HE.out.2.2⟩
  · have q0 : w2.cell? ⟨gl, 0, none⟩ = some (.slice A ws.length c) := hkl.cell 0
    have g1 : ((ws.length : Int) == 1) = false := by simp; omega
    have NEQ := Lib.hid (show st1 ≠ some [nmNow] by
      rw [HX.out.2.2.2]
      cases no
      · intro e
        simp at e
        exact hlen (by rw [e]; rfl)
      · simp)
    clear hkl
    go_wp2_with fail
    refine HN2.out.mono ?_
    rintro e w3 ⟨N, rfl, st3, hr3, hl3, hc3⟩
    have hka3 : Blk w3 w1.heap.size 27 (ac 7 x (-1) 0 0 0 0 0 0 0 0) := H2.out.2.2.1.chg hc3 (by have := H2.out.2.2.2.2.2; omega)
    have hk3 : Blk w3 w.heap.size 27 (ac 0 0 0 0 0 0 0 0 0 0 0) := H2.out.2.1.chg hc3 (by have := H2.out.2.2.2.2.2; omega)
    have qa : w3.cell? ⟨w1.heap.size, 2, none⟩ = some (.int .i64 (-1)) := hka3.cell 2
    have za : w3.frozen? ⟨w1.heap.size, 2, none⟩ = false := hka3.frozen 2
    have hka4 : Blk (w3.setCell ⟨w1.heap.size, 2, none⟩ (.int .i64 N)) w1.heap.size 27 (ac 7 x N 0 0 0 0 0 0 0 0) := hka3.setCell 2 (.int .i64 N)
    have hc34 : Chg (fun k => k = w1.heap.size) w3 (w3.setCell ⟨w1.heap.size, 2, none⟩ (.int .i64 N)) := (Chg.refl (fun k => k = w1.heap.size) _).setCell (.inr rfl) 2 _
    have hl4 := hl3.above hc34 (by rintro i rfl; have := H2.out.2.2.2.2.2; omega)
    have hk4 := hk3.chg hc34 (by have := H2.out.2.2.2.2.2; omega)
    have hc04 : Chg (fun k => k = gl) w (w3.setCell ⟨w1.heap.size, 2, none⟩ (.int .i64 N)) := (H2.out.2.2.2.1.trans hc3 (fun _ _ h => h)).trans hc34 (by rintro i hi rfl; have := H2.out.2.2.2.2.2; omega)
    obtain ⟨w4, hw4⟩ : ∃ y, w3.setCell ⟨w1.heap.size, 2, none⟩ (.int .i64 N) = y := ⟨_, rfl⟩
    rw [hw4] at hka4 hl4 hk4 hc04
    have hld := hka4.load (P := Tryd.prog) (k := 11) rfl
    have HR3 := Lib.hid hr3
    have HL := Lib.hid (And.intro hl4 hc04)
    clear hr3 hl3 hc3 hka3 hk3 hka4 hc34 hl4 hc04
    have hst := hk4.store (P := Tryd.prog) (cs' := ac 7 x N 0 0 0 0 0 0 0 0) rfl (ac_one 7 x N 0 0 0 0 0 0 0 0)
    have HE := Lib.hid (And.intro (hk4.set (ac 7 x N 0 0 0 0 0 0 0 0)) (And.intro (HL.out.1.above (Chg.setRow (S := fun k => k = w.heap.size) (Chg.refl _ _) (.inr rfl) (ac 7 x N 0 0 0 0 0 0 0 0).toArray) (by rintro i rfl; exact H0.out.2.2.1)) (HL.out.2.setRow (g := w.heap.size) (.inl (Nat.le_refl _)) (ac 7 x N 0 0 0 0 0 0 0 0).toArray)))
    simp only [ac] at hst
    simp only [ac] at hld
    clear hk4
    go_wp2_with fail
    refine bodyPost_ret (results_cell_row rfl _ _ w.heap.size 27 _ (0, 0) _ rfl HE.out.1 Tryd.underlying27 rfl (by kernel_rfl)) rfl ⟨7, x, N, 0, 0, 0, 0, 0, 0, 0, 0, rfl, st3, (.inr (.inr (.inr (.inr (.inr (.inr (.inl ⟨HS.out, rfl, st1, HR.out, .inr ⟨NEQ.out, HR3.out⟩, rfl, rfl, rfl, rfl, rfl, rfl, rfl, rfl⟩))))))), HE.out.2.1, HE.out.2.2⟩
set_option maxRecDepth 20000 in
set_option maxHeartbeats 1600000 in
theorem act_other (he : Env w) (h : LAt w gl st) (hg : 8 ≤ gl) (s : ByteArray) (n0 : s ≠ nmTick) (n1 : s ≠ nmStart) (n2 : s ≠ nmDeliver) (n3 : s ≠ nmDrop) (n4 : s ≠ nmDouble) (n5 : s ≠ nmRetry) (n6 : s ≠ nmCrash) :
    Calls Tryd.prog 11 #[.pointer (some ⟨gl, 0, none⟩), .string s] w fun e w' => ∃ k node n client ok h i nn kk v t : Int, e = .returned (.agg (ac k node n client ok h i nn kk v t).toArray) ∧ ∃ st', ActRel s st k node n client ok h i nn kk v t st' ∧ LAt w' gl st' ∧ Chg (fun k => k = gl) w w' := by
  have hlt := h.lt
  have hb0 : Below w.heap.size w (w.alloc (.cells (ac 0 0 0 0 0 0 0 0 0 0 0).toArray 27)) := (Below.refl _ _).alloc (Nat.le_refl _) _
  have hk0 := Blk.new w 27 (ac 0 0 0 0 0 0 0 0 0 0 0)
  obtain ⟨w0, hw0⟩ : ∃ x, w.alloc (.cells (ac 0 0 0 0 0 0 0 0 0 0 0).toArray 27) = x := ⟨_, rfl⟩
  rw [hw0] at hb0 hk0
  simp only [ac] at hw0
  have HN := Lib.hid (number_any (he.below hb0 he.big) (h.below hb0 hlt) hg 0 (by omega))
  have H0 := Lib.hid (And.intro hk0 (And.intro hb0 (And.intro hlt (And.intro hg (he.below hb0 he.big)))))
  clear he h hlt hb0 hk0 hg
  have m0 := ba_ne n0
  rw [tlTick] at m0
  have m1 := ba_ne n1
  rw [tlStart] at m1
  have m2 := ba_ne n2
  rw [tlDeliver] at m2
  have m3 := ba_ne n3
  rw [tlDrop] at m3
  have m4 := ba_ne n4
  rw [tlDouble] at m4
  have m5 := ba_ne n5
  rw [tlRetry] at m5
  have m6 := ba_ne n6
  rw [tlCrash] at m6
  have HNI := Lib.hid (show s ≠ nmTick ∧ s ≠ nmStart ∧ s ≠ nmDeliver ∧ s ≠ nmDrop ∧ s ≠ nmDouble ∧ s ≠ nmRetry ∧ s ≠ nmCrash from ⟨n0, n1, n2, n3, n4, n5, n6⟩)
  clear n0 n1 n2 n3 n4 n5 n6
  go_enter Tryd.func11, Tryd.ntmps11
  go_wp2_with fail
  refine HN.out.mono ?_
  rintro e w1 ⟨x, rfl, st1, hr, hl1, hc1⟩
  have hk1 : Blk w1 w.heap.size 27 (ac 0 0 0 0 0 0 0 0 0 0 0) := H0.out.1.chg hc1 (by have := H0.out.2.2.1; omega)
  have hc01 : Chg (fun k => k = gl) w w1 := (Chg.of_below H0.out.2.1).trans hc1 (fun _ _ h => h)
  have HR := Lib.hid hr
  have HCl := Lib.hid (call_any (H0.out.2.2.2.2.chg hc1 (by rintro i rfl; exact H0.out.2.2.2.1)) hl1 H0.out.2.2.2.1 s)
  have H1 := Lib.hid (And.intro hk1 hc01)
  clear hr hl1 hc01 hc1 hk1
  go_wp2_with fail
  refine HCl.out.mono ?_
  rintro e w2 ⟨k, h, i, n, kk, v, t, rfl, st2, hr2, hl2, hc2⟩
  simp only [oc]
  have hk2 : Blk w2 w.heap.size 27 (ac 0 0 0 0 0 0 0 0 0 0 0) := H1.out.1.chg hc2 (by have := H0.out.2.2.1; omega)
  have HR2 := Lib.hid hr2
  have HL := Lib.hid (And.intro hl2 (H1.out.2.trans hc2 (fun _ _ h => h)))
  clear hr2 hl2 hc2
  have hst := hk2.store (P := Tryd.prog) (cs' := ac 5 0 0 x k h i n kk v t) rfl (ac_one 5 0 0 x k h i n kk v t)
  have HE := Lib.hid (And.intro (hk2.set (ac 5 0 0 x k h i n kk v t)) (And.intro (HL.out.1.above (Chg.setRow (S := fun k => k = w.heap.size) (Chg.refl _ _) (.inr rfl) (ac 5 0 0 x k h i n kk v t).toArray) (by rintro i rfl; exact H0.out.2.2.1)) (HL.out.2.setRow (g := w.heap.size) (.inl (Nat.le_refl _)) (ac 5 0 0 x k h i n kk v t).toArray)))
  simp only [ac] at hst
  clear hk2
  go_wp2_with fail
  refine bodyPost_ret (results_cell_row rfl _ _ w.heap.size 27 _ (0, 0) _ rfl HE.out.1 Tryd.underlying27 rfl (by kernel_rfl)) rfl ⟨5, 0, 0, x, k, h, i, n, kk, v, t, rfl, st2, (.inr (.inr (.inr (.inr (.inr (.inr (.inr (⟨HNI.out, rfl, rfl, rfl, st1, HR.out, HR2.out⟩)))))))), HE.out.2.1, HE.out.2.2⟩
theorem act_any (he : Env w) (h : LAt w gl st) (hg : 8 ≤ gl) (s : ByteArray) :
    Calls Tryd.prog 11 #[.pointer (some ⟨gl, 0, none⟩), .string s] w fun e w' => ∃ k node n client ok h i nn kk v t : Int, e = .returned (.agg (ac k node n client ok h i nn kk v t).toArray) ∧ ∃ st', ActRel s st k node n client ok h i nn kk v t st' ∧ LAt w' gl st' ∧ Chg (fun k => k = gl) w w' := by
  by_cases h0 : s = nmTick
  · exact act_tick he h hg s h0
  by_cases h1 : s = nmStart
  · exact act_start he h hg s h1
  by_cases h2 : s = nmDeliver
  · exact act_deliver he h hg s h2
  by_cases h3 : s = nmDrop
  · exact act_drop he h hg s h3
  by_cases h4 : s = nmDouble
  · exact act_double he h hg s h4
  by_cases h5 : s = nmRetry
  · exact act_retry he h hg s h5
  by_cases h6 : s = nmCrash
  · exact act_crash he h hg s h6
  exact act_other he h hg s h0 h1 h2 h3 h4 h5 h6
end
end Go.Proofs.YtehhgpnaemffnaaDoor
