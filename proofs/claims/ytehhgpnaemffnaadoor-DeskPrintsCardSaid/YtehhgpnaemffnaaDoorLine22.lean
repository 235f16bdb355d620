/- desk's line: its words, a word taken, a number taken. -/
import Derived.Test.YtehhgpnaemffnaaDoorShelf22
namespace Go.Proofs.YtehhgpnaemffnaaDoor
open Go.RowKit

/-- A line in memory: the words that are left; none: it is none of a line. -/
def LAt (w : World) (gl : Nat) (st : Option (List ByteArray)) : Prop :=
  ∃ (A : Option Addr) (c : Nat) (no : Bool) (ws : List ByteArray), Blk w gl 40 [.slice A ws.length c, .bool no] ∧ Rd w gl A (sv ws) ∧ ws.length ≤ c ∧ c ≤ maxLen ∧ (∀ s ∈ ws, s.size ≤ 200) ∧ st = if no = true then none else some ws
def wordS : Option (List ByteArray) → Option (ByteArray × List ByteArray)
  | some (a :: r) => some (a, r)
  | _ => none
def RelW (st : Option (List ByteArray)) (s : ByteArray) (st' : Option (List ByteArray)) : Prop :=
  match wordS st with
  | some (a, r) => s = a ∧ st' = some r
  | none => st' = none
def numV (w : List UInt8) (low : Int) : Option Int :=
  match Lib.atoiAll w with
  | .ok n => if w.length ≤ 8 ∧ low ≤ n ∧ n ≤ 1000000 ∧ Lib.itoa n = w then some n else none
  | _ => none
def numS (st : Option (List ByteArray)) (low : Int) : Option (Int × List ByteArray) :=
  match wordS st with
  | some (a, r) => (numV a.data.toList low).map fun n => (n, r)
  | none => none
def RelN (st : Option (List ByteArray)) (low n : Int) (st' : Option (List ByteArray)) : Prop :=
  match numS st low with
  | some (x, r) => n = x ∧ st' = some r
  | none => st' = none
theorem RelN.bad {st st1 : Option (List ByteArray)} {low n : Int} {s : ByteArray} (h : RelW st s st1) (hv : numV s.data.toList low = none) : RelN st low n none := by
  unfold RelW at h
  unfold RelN numS
  cases hw : wordS st with
  | none => rfl
  | some x =>
    obtain ⟨a, r⟩ := x
    rw [hw] at h
    obtain ⟨rfl, _⟩ := h
    simp only [hv, Option.map_none]
theorem RelN.good {st st1 : Option (List ByteArray)} {low n : Int} {s : ByteArray} (h : RelW st s st1) (hv : numV s.data.toList low = some n) : RelN st low n st1 := by
  unfold RelW at h
  unfold RelN numS
  cases hw : wordS st with
  | none => rw [hw] at h; exact h
  | some x =>
    obtain ⟨a, r⟩ := x
    rw [hw] at h
    obtain ⟨rfl, h⟩ := h
    simp only [hv, Option.map_some]
    exact ⟨trivial, h⟩
theorem cell_far (w : World) (g j : Nat) (u : Value) {p : Addr} (hp : p.block < g) : (w.setCell ⟨g, j, none⟩ u).cell? p = w.cell? p := by
  have h : p.block ≠ g := by omega
  simp only [World.cell?, Below.heap_setCell w ⟨g, j, none⟩ u p.block h]
theorem ba_ext {a b : ByteArray} (h : a.data.toList = b.data.toList) : a = b := by
  obtain ⟨⟨a⟩⟩ := a
  obtain ⟨⟨b⟩⟩ := b
  simp only at h
  rw [h]
theorem ba_ne {a b : ByteArray} (h : a ≠ b) : (a.toList == b.toList) = false := by
  rw [ByteArray.toList_eq, ByteArray.toList_eq]
  simp only [beq_eq_false_iff_ne, ne_eq]
  exact fun e => h (ba_ext e)
theorem ba_len (s : ByteArray) : s.data.toList.length = s.size := rfl
section
variable {w w' : World} {gl : Nat} {st : Option (List ByteArray)}
theorem LAt.lt (h : LAt w gl st) : gl < w.heap.size := by
  obtain ⟨A, c, no, ws, hb, _⟩ := h
  exact hb.lt
theorem LAt.above {S : Nat → Prop} (h : LAt w gl st) (hc : Chg S w w') (hS : ∀ k, S k → gl < k) : LAt w' gl st := by
  obtain ⟨A, c, no, ws, hb, hr, h1, h2, h3, h4⟩ := h
  have hbl : ∀ k, k < gl + 1 → w'.heap[k]? = w.heap[k]? := fun k hk => hc.block k (Nat.lt_of_lt_of_le hk hb.lt) fun hs => by have := hS k hs; omega
  exact ⟨A, c, no, ws, (hbl gl (by omega)).trans hb, hr.keep fun p hp => by simp only [World.cell?, hbl p.block (by omega)], h1, h2, h3, h4⟩
theorem LAt.below {B : Nat} (h : LAt w gl st) (hb : Below B w w') (hB : gl < B) : LAt w' gl st := by
  obtain ⟨A, c, no, ws, hk, hr, h1, h2, h3, h4⟩ := h
  exact ⟨A, c, no, ws, hk.below hb hB, hr.below hb (Nat.le_of_lt hB), h1, h2, h3, h4⟩
theorem LAt.fail (h : LAt w gl st) : LAt (w.setCell ⟨gl, 1, none⟩ (.bool true)) gl none ∧ Chg (fun k => k = gl) w (w.setCell ⟨gl, 1, none⟩ (.bool true)) := by
  obtain ⟨A, c, no, ws, hk, hr, h1, h2, h3, h4⟩ := h
  exact ⟨⟨A, c, true, ws, hk.setCell 1 _, hr.keep fun p hp => cell_far _ _ _ _ hp, h1, h2, h3, rfl⟩, (Chg.refl (fun k => k = gl) _).setCell (.inr rfl) 1 _⟩
theorem LAt.spot (h : LAt w gl st) : (∃ no, w.cell? ⟨gl, 1, none⟩ = some (.bool no)) ∧ w.frozen? ⟨gl, 1, none⟩ = false := by
  obtain ⟨A, c, no, ws, hk, _⟩ := h
  exact ⟨⟨no, hk.cell 1⟩, hk.frozen 1⟩
theorem word_any (h : LAt w gl st) :
    Calls Tryd.prog 12 #[.pointer (some ⟨gl, 0, none⟩)] w fun e w' => ∃ s, e = .returned (.string s) ∧ ∃ st', s.size ≤ 200 ∧ RelW st s st' ∧ LAt w' gl st' ∧ Chg (fun k => k = gl) w w' := by
  have HL := Lib.hid h
  obtain ⟨A, c, no, ws, hk, hr, h1, h2, h3, h4⟩ := h
  cases ws with
  | nil =>
    have q0 : w.cell? ⟨gl, 0, none⟩ = some (.slice A 0 c) := hk.cell 0
    have q1 : w.cell? ⟨gl, 1, none⟩ = some (.bool no) := hk.cell 1
    have z1 : w.frozen? ⟨gl, 1, none⟩ = false := hk.frozen 1
    have H4 := Lib.hid h4
    clear hk hr h1 h2 h3 h4
    go_enter Tryd.func12, Tryd.ntmps12
    go_wp2_with fail
    go_ret
    refine ⟨_, rfl, none, by decide, ?_, HL.out.fail⟩
    unfold RelW
    have : wordS st = none := by
      rw [H4.out]
      cases no <;> rfl
    rw [this]
  | cons a r =>
    obtain ⟨b, off, rfl, hcell, hrr⟩ : ∃ b off, A = some ⟨b, off, none⟩ ∧ w.cell? ⟨b, off, none⟩ = some (.string a) ∧ Rd w gl (some ⟨b, off + 1, none⟩) (sv r) := by
      rcases hr with h | ⟨b, off, e, hb, hc⟩
      · simp [sv] at h
      · refine ⟨b, off, e, by have := hc 0 _ rfl; rwa [Nat.add_zero] at this, .inr ⟨b, off + 1, rfl, hb, fun j u hu => ?_⟩⟩
        rw [Nat.add_assoc, Nat.add_comm 1 j]
        exact hc (j + 1) u hu
    have z0 : w.frozen? ⟨gl, 0, none⟩ = false := hk.frozen 0
    have hb : b < gl := by
      rcases hr with h | ⟨b', off', e, hb, hc⟩
      · simp [sv] at h
      · cases e; exact hb
    have h1' : r.length + 1 ≤ c := h1
    by_cases hc1 : c = 1
    · subst hc1
      obtain rfl : r = [] := List.eq_nil_of_length_eq_zero (by omega)
      have q0 : w.cell? ⟨gl, 0, none⟩ = some (.slice (some ⟨b, off, none⟩) 1 1) := hk.cell 0
      have hk2 := hk.setCell 0 (.slice (some ⟨b, off, none⟩) 0 0)
      have H := Lib.hid (And.intro hk2 (And.intro h3 h4))
      clear hk hr h1 h3 h4 hk2 hrr h1'
      go_enter Tryd.func12, Tryd.ntmps12
      go_wp2_with fail
      go_ret
      refine ⟨_, rfl, if no = true then none else some [], H.out.2.1 a List.mem_cons_self, ?_, ⟨_, _, no, [], H.out.1, .inl rfl, Nat.le_refl _, by unfold maxLen; omega, fun s hs => (by cases hs), rfl⟩, (Chg.refl (fun k => k = gl) _).setCell (.inr rfl) 0 _⟩
      unfold RelW
      rw [H.out.2.2]
      cases no
      · exact ⟨rfl, rfl⟩
      · rfl
    · have q0 : w.cell? ⟨gl, 0, none⟩ = some (.slice (some ⟨b, off, none⟩) (r.length + 1) c) := hk.cell 0
      have hk2 := hk.setCell 0 (.slice (some ⟨b, off + 1, none⟩) r.length (c - 1))
      have hrr2 : Rd (w.setCell ⟨gl, 0, none⟩ (.slice (some ⟨b, off + 1, none⟩) r.length (c - 1))) gl (some ⟨b, off + 1, none⟩) (sv r) := hrr.keep fun p hp => cell_far _ _ _ _ hp
      have hc2 : ¬ c - 1 = 0 := by omega
      have H := Lib.hid (And.intro hk2 (And.intro hrr2 (And.intro h3 (And.intro h4 (And.intro h1' h2)))))
      clear hk hr h1 h3 h4 hk2 hrr hrr2
      go_enter Tryd.func12, Tryd.ntmps12
      go_wp2_with fail
      go_ret
      refine ⟨_, rfl, if no = true then none else some r, H.out.2.2.1 a List.mem_cons_self, ?_, ⟨_, _, no, r, H.out.1, H.out.2.1, by have := H.out.2.2.2.2.1; omega, by have := H.out.2.2.2.2; omega, fun s hs => H.out.2.2.1 s (List.mem_cons_of_mem _ hs), rfl⟩, (Chg.refl (fun k => k = gl) _).setCell (.inr rfl) 0 _⟩
      unfold RelW
      rw [H.out.2.2.2.1]
      cases no
      · exact ⟨rfl, rfl⟩
      · rfl
theorem LAt.fin {w1 w2 : World} {st1 : Option (List ByteArray)} (h1 : LAt w1 gl st1) (h2 : Chg (fun k => k = gl) w w1) (h3 : Below w1.heap.size w1 w2) : LAt (w2.setCell ⟨gl, 1, none⟩ (.bool true)) gl none ∧ Chg (fun k => k = gl) w (w2.setCell ⟨gl, 1, none⟩ (.bool true)) :=
  ⟨(h1.below h3 h1.lt).fail.1, (h2.then h3).trans (h1.below h3 h1.lt).fail.2 fun _ _ h => h⟩
theorem number_any (he : Env w) (h : LAt w gl st) (hg : 8 ≤ gl) (low : Int) (hlow : -1000000 ≤ low) :
    Calls Tryd.prog 19 #[.pointer (some ⟨gl, 0, none⟩), .int .i64 low] w fun e w' => ∃ n, e = .returned (.int .i64 n) ∧ ∃ st', RelN st low n st' ∧ LAt w' gl st' ∧ Chg (fun k => k = gl) w w' := by
  have HWd := Lib.hid (word_any h)
  have HE := Lib.hid he
  clear h he
  go_enter Tryd.func19, Tryd.ntmps19
  go_wp2_with fail
  refine HWd.out.mono ?_
  rintro e w1 ⟨s, rfl, st1, hs, hrel, hl1, hc1⟩
  have HW := Lib.hid (And.intro hrel (And.intro hl1 hc1))
  have he1 : Env w1 := HE.out.chg hc1 (by rintro i rfl; exact hg)
  by_cases hok : ∃ v, Lib.atoiAll s.data.toList = .ok v
  · obtain ⟨v, hv⟩ := hok
    have HA := Lib.hid (atoi_ok s (by omega) v hv (w := w1))
    have HV := Lib.hid hv
    have HE1 := Lib.hid he1
    clear hrel hl1 hc1 he1 hv
    go_wp2_with fail
    refine HA.out.mono ?_
    rintro e w2 ⟨rfl, hb2⟩
    have HB2 := Lib.hid hb2
    obtain ⟨⟨no, q1⟩, z1⟩ := (HW.out.2.1.below hb2 HW.out.2.1.lt).spot
    have HF := Lib.hid (LAt.fin HW.out.2.1 HW.out.2.2 hb2)
    clear hb2
    by_cases g8 : 8 < s.size
    · have g8' : (8 : Int) < (s.size : Int) := by omega
      go_wp2_with fail
      go_ret
      refine ⟨_, rfl, none, RelN.bad HW.out.1 (by unfold numV; rw [HV.out]; exact if_neg (by simp only [ba_len]; omega)), HF.out.1, HF.out.2⟩
    · have g8' : ¬ (8 : Int) < (s.size : Int) := by omega
      by_cases glo : v < low
      · go_wp2_with fail
        go_ret
        refine ⟨_, rfl, none, RelN.bad HW.out.1 (by unfold numV; rw [HV.out]; exact if_neg (by simp only [ba_len]; omega)), HF.out.1, HF.out.2⟩
      · by_cases ghi : 1000000 < v
        · go_wp2_with fail
          go_ret
          refine ⟨_, rfl, none, RelN.bad HW.out.1 (by unfold numV; rw [HV.out]; exact if_neg (by simp only [ba_len]; omega)), HF.out.1, HF.out.2⟩
        · have HI := Lib.hid (itoa_any (HE1.out.below HB2.out HE1.out.big) v (by omega) (by omega))
          go_wp2_with fail
          refine HI.out.mono ?_
          rintro e w3 ⟨rfl, hb3⟩
          have hb13 := HB2.out.trans (hb3.mono HB2.out.size)
          obtain ⟨S1, hS1⟩ : ∃ S : ByteArray, ⟨(Lib.itoa v).toArray⟩ = S := ⟨_, rfl⟩
          rw [hS1]
          obtain ⟨⟨no3, q13⟩, z13⟩ := (HW.out.2.1.below hb13 HW.out.2.1.lt).spot
          have HB3 := Lib.hid hb13
          have HF := Lib.hid (LAt.fin HW.out.2.1 HW.out.2.2 hb13)
          clear hb3 hb13 q1 z1
          by_cases hss : S1 = s
          · subst hss
            have HS := Lib.hid hS1
            clear hS1
            go_wp2_with fail
            go_ret
            refine ⟨_, rfl, st1, RelN.good HW.out.1 ?_, HW.out.2.1.below HB3.out HW.out.2.1.lt, HW.out.2.2.then HB3.out⟩
            unfold numV
            rw [HV.out]
            refine if_pos ⟨?_, by omega, by omega, ?_⟩
            · simp only [ba_len]; omega
            · rw [← HS.out]
          · have hne := ba_ne hss
            have HS := Lib.hid (And.intro hS1 hss)
            clear hS1 hss
            go_wp2_with fail
            go_ret
            refine ⟨_, rfl, none, RelN.bad HW.out.1 (by
              unfold numV
              rw [HV.out]
              refine if_neg fun h => HS.out.2 ?_
              rw [← HS.out.1, h.2.2.2]), HF.out.1, HF.out.2⟩
  · have hno : ∀ v, Lib.atoiAll s.data.toList ≠ .ok v := fun v hv => hok ⟨v, hv⟩
    have HA := Lib.hid (atoi_no he1 s (by omega) hno)
    have HV := Lib.hid hno
    clear hrel hl1 hc1 he1 hok hno
    go_wp2_with fail
    refine HA.out.mono ?_
    rintro e w2 ⟨n, N, rfl, hb2⟩
    obtain ⟨⟨no, q1⟩, z1⟩ := (HW.out.2.1.below hb2 HW.out.2.1.lt).spot
    have HF := Lib.hid (LAt.fin HW.out.2.1 HW.out.2.2 hb2)
    clear hb2
    go_wp2_with fail
    go_ret
    refine ⟨_, rfl, none, RelN.bad HW.out.1 (by
      unfold numV
      rcases hx : Lib.atoiAll s.data.toList with v | _ | _
      · exact absurd hx (HV.out v)
      · rfl
      · rfl), HF.out.1, HF.out.2⟩
end
end Go.Proofs.YtehhgpnaemffnaaDoor
