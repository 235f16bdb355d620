/- The document's guess of an act. -/
import Derived.Test.YtehhgpnaemffnaaDoorSplitR22
namespace Go.Proofs.YtehhgpnaemffnaaDoor
open Go.RowKit
attribute [-go_sem] loadCellsFrom storeCells
attribute [local go_sem] storeCells_one

def nth (ws : List ByteArray) (j : Nat) : Int :=
  match ws[j]? with
  | some a => numR a.data.toList
  | none => 0
def CrashN (ws : List ByteArray) (n : Int) : Prop := (ws[2]? = some nmNow ∧ n = -1) ∨ (ws[2]? ≠ some nmNow ∧ n = nth ws 2)
def GuessRel (s : ByteArray) (ws : List ByteArray) (k node n client ok h i nn kk v t : Int) : Prop :=
  (s = nmTick ∧ k = 1 ∧ node = nth ws 1 ∧ n = 0 ∧ client = 0 ∧ ok = 0 ∧ h = 0 ∧ i = 0 ∧ nn = 0 ∧ kk = 0 ∧ v = 0 ∧ t = 0) ∨
  (s = nmStart ∧ k = 8 ∧ node = nth ws 1 ∧ n = 0 ∧ client = 0 ∧ ok = 0 ∧ h = 0 ∧ i = 0 ∧ nn = 0 ∧ kk = 0 ∧ v = 0 ∧ t = 0) ∨
  (s = nmDeliver ∧ k = 2 ∧ n = nth ws 1 ∧ node = 0 ∧ client = 0 ∧ ok = 0 ∧ h = 0 ∧ i = 0 ∧ nn = 0 ∧ kk = 0 ∧ v = 0 ∧ t = 0) ∨
  (s = nmDrop ∧ k = 3 ∧ n = nth ws 1 ∧ node = 0 ∧ client = 0 ∧ ok = 0 ∧ h = 0 ∧ i = 0 ∧ nn = 0 ∧ kk = 0 ∧ v = 0 ∧ t = 0) ∨
  (s = nmDouble ∧ k = 4 ∧ n = nth ws 1 ∧ node = 0 ∧ client = 0 ∧ ok = 0 ∧ h = 0 ∧ i = 0 ∧ nn = 0 ∧ kk = 0 ∧ v = 0 ∧ t = 0) ∨
  (s = nmRetry ∧ k = 6 ∧ client = nth ws 1 ∧ node = 0 ∧ n = 0 ∧ ok = 0 ∧ h = 0 ∧ i = 0 ∧ nn = 0 ∧ kk = 0 ∧ v = 0 ∧ t = 0) ∨
  (s = nmCrash ∧ k = 7 ∧ node = nth ws 1 ∧ CrashN ws n ∧ client = 0 ∧ ok = 0 ∧ h = 0 ∧ i = 0 ∧ nn = 0 ∧ kk = 0 ∧ v = 0 ∧ t = 0) ∨
  (s = nmAlloc ∧ k = 5 ∧ node = 0 ∧ n = 0 ∧ client = nth ws 1 ∧ ok = 1 ∧ nn = nth ws 2 ∧ kk = nth ws 3 ∧ h = 0 ∧ i = 0 ∧ v = 0 ∧ t = 0) ∨
  (s = nmFree ∧ k = 5 ∧ node = 0 ∧ n = 0 ∧ client = nth ws 1 ∧ ok = 2 ∧ h = nth ws 2 ∧ i = 0 ∧ nn = 0 ∧ kk = 0 ∧ v = 0 ∧ t = 0) ∨
  (s = nmWrite ∧ k = 5 ∧ node = 0 ∧ n = 0 ∧ client = nth ws 1 ∧ ok = 3 ∧ h = nth ws 2 ∧ i = nth ws 3 ∧ v = nth ws 4 ∧ nn = 0 ∧ kk = 0 ∧ t = 0) ∨
  (s = nmLink ∧ k = 5 ∧ node = 0 ∧ n = 0 ∧ client = nth ws 1 ∧ ok = 4 ∧ h = nth ws 2 ∧ i = nth ws 3 ∧ t = nth ws 4 ∧ nn = 0 ∧ kk = 0 ∧ v = 0) ∨
  (s = nmRoot ∧ k = 5 ∧ node = 0 ∧ n = 0 ∧ client = nth ws 1 ∧ ok = 5 ∧ i = nth ws 2 ∧ t = nth ws 3 ∧ h = 0 ∧ nn = 0 ∧ kk = 0 ∧ v = 0) ∨
  (s = nmRead ∧ k = 5 ∧ node = 0 ∧ n = 0 ∧ client = nth ws 1 ∧ ok = 6 ∧ h = nth ws 2 ∧ i = nth ws 3 ∧ nn = 0 ∧ kk = 0 ∧ v = 0 ∧ t = 0) ∨
  (s = nmFollow ∧ k = 5 ∧ node = 0 ∧ n = 0 ∧ client = nth ws 1 ∧ ok = 7 ∧ h = nth ws 2 ∧ i = nth ws 3 ∧ nn = 0 ∧ kk = 0 ∧ v = 0 ∧ t = 0) ∨
  (s = nmTop ∧ k = 5 ∧ node = 0 ∧ n = 0 ∧ client = nth ws 1 ∧ ok = 8 ∧ i = nth ws 2 ∧ h = 0 ∧ nn = 0 ∧ kk = 0 ∧ v = 0 ∧ t = 0) ∨
  ((s ≠ nmTick ∧ s ≠ nmStart ∧ s ≠ nmDeliver ∧ s ≠ nmDrop ∧ s ≠ nmDouble ∧ s ≠ nmRetry ∧ s ≠ nmCrash ∧ s ≠ nmAlloc ∧ s ≠ nmFree ∧ s ≠ nmWrite ∧ s ≠ nmLink ∧ s ≠ nmRoot ∧ s ≠ nmRead ∧ s ≠ nmFollow ∧ s ≠ nmTop) ∧ k = 0 ∧ node = 0 ∧ n = 0 ∧ client = 0 ∧ ok = 0 ∧ h = 0 ∧ i = 0 ∧ nn = 0 ∧ kk = 0 ∧ v = 0 ∧ t = 0)
/-- The array of numbers, as far as it is filled. -/
def upTo (ws : List ByteArray) (k j : Nat) : Value := .int .i64 (if j < k then nth ws j else 0)
def five (ws : List ByteArray) (k : Nat) : List Value := [upTo ws k 0, upTo ws k 1, upTo ws k 2, upTo ws k 3, upTo ws k 4]
def fiveAll (ws : List ByteArray) : List Value := [.int .i64 (nth ws 0), .int .i64 (nth ws 1), .int .i64 (nth ws 2), .int .i64 (nth ws 3), .int .i64 (nth ws 4)]
theorem five_next (ws : List ByteArray) (k : Nat) (h : k < 5) : (five ws k).set k (.int .i64 (nth ws k)) = five ws (k + 1) := by
  match k, h with
  | 0, _ => simp [five, upTo]
  | 1, _ => simp [five, upTo]
  | 2, _ => simp [five, upTo]
  | 3, _ => simp [five, upTo]
  | 4, _ => simp [five, upTo]
theorem nth_out (ws : List ByteArray) (j : Nat) (h : ws.length ≤ j) : nth ws j = 0 := by
  unfold nth
  rw [List.getElem?_eq_none h]
theorem five_all (ws : List ByteArray) (k : Nat) (h : 5 ≤ k ∨ ws.length ≤ k) : five ws k = fiveAll ws := by
  have hj : ∀ j, j < 5 → upTo ws k j = .int .i64 (nth ws j) := by
    intro j hj
    unfold upTo
    split
    · rfl
    · rw [nth_out ws j (by omega)]
  unfold five fiveAll
  rw [hj 0 (by omega), hj 1 (by omega), hj 2 (by omega), hj 3 (by omega), hj 4 (by omega)]
theorem strs_at {w : World} {B : Nat} {A : Option Addr} {ws : List ByteArray} (hr : Rd w B A (sv ws)) {k : Nat} (hk : k < ws.length) : ∃ b off, A = some ⟨b, off, none⟩ ∧ b < B ∧ ∀ j (hj : j < ws.length), w.cell? ⟨b, off + j, none⟩ = some (.string (ws[j]'hj)) := by
  obtain ⟨b, off, hA, hb, hc⟩ := hr.at_ (k := k) (by simpa [sv] using hk)
  exact ⟨b, off, hA, hb, fun j hj => hc j _ (by simp [sv, hj])⟩
section
variable {w : World}
set_option linter.unusedVariables false in
set_option maxRecDepth 20000 in
set_option maxHeartbeats 6400000 in
theorem guess_any (ws : List ByteArray) (s : ByteArray) (hs0 : ws[0]? = some s) (A : Option Addr) (m c : Nat) (hr : Rd w w.heap.size A (sv ws)) (hl : ws.length = m) :
    Calls Tryd.prog 13 #[.slice A m c] w fun e w' => ∃ k node n client ok h i nn kk v t : Int, e = .returned (.agg (ac k node n client ok h i nn kk v t).toArray) ∧ GuessRel s ws k node n client ok h i nn kk v t ∧ Below w.heap.size w w' := by
  have hb0 : Below w.heap.size w (w.alloc (.cells (ac 0 0 0 0 0 0 0 0 0 0 0).toArray 27)) := (Below.refl _ _).alloc (Nat.le_refl _) _
  have hk0 := Blk.new w 27 (ac 0 0 0 0 0 0 0 0 0 0 0)
  have hb1 := hb0.alloc (by simp) (.cells (five ws 0).toArray 49)
  have hka := Blk.new (w.alloc (.cells (ac 0 0 0 0 0 0 0 0 0 0 0).toArray 27)) 49 (five ws 0)
  have hkr := hk0.alloc (.cells (five ws 0).toArray 49)
  simp only [World.size_alloc] at hka
  obtain ⟨w1, hw1⟩ : ∃ x, (w.alloc (.cells (ac 0 0 0 0 0 0 0 0 0 0 0).toArray 27)).alloc (.cells (five ws 0).toArray 49) = x := ⟨_, rfl⟩
  rw [hw1] at hb1 hka hkr
  simp only [ac, five, upTo, Nat.not_lt_zero, if_false] at hw1
  have hm0 : 0 < ws.length := (List.getElem?_eq_some_iff.1 hs0).1
  obtain ⟨b, off, hA, hbw, hcell⟩ := strs_at hr hm0
  subst hA
  have H := Lib.hid (And.intro hr (And.intro hl (And.intro hb1 (And.intro hka (And.intro hkr (And.intro hbw (And.intro hcell (And.intro hs0 hm0))))))))
  have hmm : 0 < m := by omega
  have gm : (0 : Int) < (m : Int) := by omega
  clear hb0 hk0 hb1 hka hkr hr hl hbw hcell hs0 hm0
  go_enter Tryd.func13, Tryd.ntmps13
  go_wp2_with fail
  go_loopw [4] (fun i wr => ∃ k : Nat, k ≤ 5 ∧ k ≤ m ∧ i = .int .i64 k ∧ Blk wr (w.heap.size + 1) 49 (five ws k) ∧ Blk wr w.heap.size 27 (ac 0 0 0 0 0 0 0 0 0 0 0) ∧ Below w.heap.size w wr) (fun i _ => 5 - (intOf i).toNat)
  case atStart => exact ⟨0, by omega, by omega, rfl, H.out.2.2.2.1, H.out.2.2.2.2.1, H.out.2.2.1⟩
  case round =>
    obtain ⟨k, hk5, hkm, rfl, hka, hkr, hb⟩ := hrel
    by_cases hgo : k < m ∧ k < 5
    · have g1 : (k : Int) < (m : Int) := by omega
      have g2 : (k : Int) < 5 := by omega
      have g2n : k < 5 := hgo.2
      have hkl : k < ws.length := by rw [H.out.2.1]; exact hgo.1
      have hck : wr.cell? ⟨b, off + k, none⟩ = some (.string (ws[k]'hkl)) := (hb.cell H.out.2.2.2.2.2.1).trans (H.out.2.2.2.2.2.2.1 k hkl)
      have hnx : nth ws k = numR (ws[k]'hkl).data.toList := by
        unfold nth
        rw [List.getElem?_eq_getElem hkl]
      have hfn := five_next ws k hgo.2
      generalize ws[k]'hkl = x at *
      have hnum := numberR_any (w := wr) x
      rw [← hnx] at hnum
      have hset := hka.setCell k (.int .i64 (nth ws k))
      rw [hfn] at hset
      obtain ⟨u0, hu0⟩ : ∃ u, (five ws k)[k]? = some u := ⟨_, List.getElem?_eq_getElem (by show k < 5; omega)⟩
      have qk : wr.cell? ⟨w.heap.size + 1, k, none⟩ = some u0 := (hka.cell k).trans hu0
      have zk : wr.frozen? ⟨w.heap.size + 1, k, none⟩ = false := hka.frozen k
      have hkr2 := hkr.chg ((Chg.refl (fun j => j = w.heap.size + 1) wr).setCell (.inr rfl) k (.int .i64 (nth ws k))) (by omega)
      have hb2 := hb.setCell (p := ⟨w.heap.size + 1, k, none⟩) (Nat.le_succ _) (.int .i64 (nth ws k))
      have HN := Lib.hid hnum
      have H2 := Lib.hid (And.intro hset (And.intro hkr2 hb2))
      obtain ⟨nk, hnk⟩ : ∃ z, nth ws k = z := ⟨_, rfl⟩
      rw [hnk] at HN H2
      clear hgo hkl hnx hfn hnum hset hu0 hkr2 hb2 hka hkr hb hnk
      go_wp2_with fail
      refine HN.out.mono ?_
      rintro e w' ⟨rfl, hw⟩
      subst hw
      go_wp2_with fail
      go_roundw
      case rel => exact ⟨k + 1, by omega, by omega, by go_num, H2.out.1, H2.out.2.1, H2.out.2.2⟩
      case measure => simp [intOf]; omega
    · have hfa : five ws k = fiveAll ws := five_all ws k (by have := H.out.2.1; omega)
      rw [hfa] at hka
      have gend : (¬ (k : Int) < (m : Int)) ∨ ((k : Int) < (m : Int) ∧ ¬ (k : Int) < 5) := by omega
      obtain ⟨w5, hw5⟩ : ∃ x, x = wr := ⟨_, rfl⟩
      -- the operation's own block
      have hkz := Blk.new wr 25 (oc 0 0 0 0 0 0 0)
      have hst6 := hkz.store (P := Tryd.prog) (cs' := oc 0 0 0 0 0 0 0) rfl (oc_one 0 0 0 0 0 0 0)
      have hkz6 := hkz.set (oc 0 0 0 0 0 0 0)
      have hb56 := below_setRow ((Below.refl wr.heap.size wr).alloc (Nat.le_refl _) (.cells (oc 0 0 0 0 0 0 0).toArray 25)) (Nat.le_refl _) (oc 0 0 0 0 0 0 0).toArray
      obtain ⟨w6, hw6⟩ : ∃ x, (wr.alloc (.cells (oc 0 0 0 0 0 0 0).toArray 25)).setRow wr.heap.size (oc 0 0 0 0 0 0 0).toArray = x := ⟨_, rfl⟩
      rw [hw6] at hst6 hkz6 hb56
      have hka6 := hka.below hb56 hka.lt
      have hkr6 := hkr.below hb56 hkr.lt
      have hb6 := hb.trans (hb56.mono hb.size)
      have hcs : ∀ j (hj : j < ws.length), w6.cell? ⟨b, off + j, none⟩ = some (.string (ws[j]'hj)) := fun j hj => (hb6.cell H.out.2.2.2.2.2.1).trans (H.out.2.2.2.2.2.2.1 j hj)
      have qs : w6.cell? ⟨b, off, none⟩ = some (.string s) := by
        have h1 := hcs 0 H.out.2.2.2.2.2.2.2.2
        rw [Nat.add_zero] at h1
        rw [h1]
        have h2 := H.out.2.2.2.2.2.2.2.1
        rw [List.getElem?_eq_getElem H.out.2.2.2.2.2.2.2.2] at h2
        rw [Option.some.inj h2]
      have a1 : w6.cell? ⟨w.heap.size + 1, 1, none⟩ = some (.int .i64 (nth ws 1)) := hka6.cell 1
      have a2 : w6.cell? ⟨w.heap.size + 1, 2, none⟩ = some (.int .i64 (nth ws 2)) := hka6.cell 2
      have a3 : w6.cell? ⟨w.heap.size + 1, 3, none⟩ = some (.int .i64 (nth ws 3)) := hka6.cell 3
      have a4 : w6.cell? ⟨w.heap.size + 1, 4, none⟩ = some (.int .i64 (nth ws 4)) := hka6.cell 4
      have za : w6.frozen? ⟨w.heap.size + 1, 2, none⟩ = false := hka6.frozen 2
      have hlts : w.heap.size + 1 < wr.heap.size := hka.lt
      have HX := Lib.hid (And.intro hka6 (And.intro hkr6 (And.intro hb6 (And.intro hkz6 (And.intro hcs hlts)))))
      simp only [oc] at hst6
      clear hfa hgo hka hkr hb hkz hkz6 hb56 hka6 hkr6 hb6 hcs hlts hw5 hw6 w5
      obtain ⟨x1, hx1⟩ : ∃ z, nth ws 1 = z := ⟨_, rfl⟩
      obtain ⟨x2, hx2⟩ : ∃ z, nth ws 2 = z := ⟨_, rfl⟩
      obtain ⟨x3, hx3⟩ : ∃ z, nth ws 3 = z := ⟨_, rfl⟩
      obtain ⟨x4, hx4⟩ : ∃ z, nth ws 4 = z := ⟨_, rfl⟩
      rw [hx1] at a1
      rw [hx2] at a2
      rw [hx3] at a3
      rw [hx4] at a4
      have HN := Lib.hid (And.intro hx1.symm (And.intro hx2.symm (And.intro hx3.symm hx4.symm)))
      clear hx1 hx2 hx3 hx4
      rcases gend with gend | ⟨ge1, ge2⟩
      · by_cases hs : s = nmTick
        · have m0 : (s.toList == [116, 105, 99, 107]) = true := by rw [hs, tlTick]; rfl
          have HS := Lib.hid hs
          clear hs
          have hst := HX.out.2.1.store (P := Tryd.prog) (cs' := ac 1 x1 0 0 0 0 0 0 0 0 0) rfl (ac_one 1 x1 0 0 0 0 0 0 0 0 0)
          have HE := Lib.hid (And.intro (HX.out.2.1.set (ac 1 x1 0 0 0 0 0 0 0 0 0)) (below_setRow HX.out.2.2.1 (Nat.le_refl _) (ac 1 x1 0 0 0 0 0 0 0 0 0).toArray))
          simp only [ac] at hst
          go_wp2_with fail
          refine bodyPost_ret (results_cell_row rfl _ _ w.heap.size 27 _ (0, 0) _ rfl HE.out.1 Tryd.underlying27 rfl (by kernel_rfl)) rfl ⟨1, x1, 0, 0, 0, 0, 0, 0, 0, 0, 0, rfl, (.inl ⟨HS.out, rfl, HN.out.1, rfl, rfl, rfl, rfl, rfl, rfl, rfl, rfl, rfl⟩), HE.out.2⟩
        have k0 := hs
        clear hs
        by_cases hs : s = nmStart
        · have m0 := ba_ne (show s ≠ nmTick by rw [hs]; exact fun e => absurd (congrArg (fun b : ByteArray => b.data.toList) e) (by decide))
          rw [tlTick] at m0
          have m1 : (s.toList == [115, 116, 97, 114, 116]) = true := by rw [hs, tlStart]; rfl
          have HS := Lib.hid hs
          clear hs
          have hst := HX.out.2.1.store (P := Tryd.prog) (cs' := ac 8 x1 0 0 0 0 0 0 0 0 0) rfl (ac_one 8 x1 0 0 0 0 0 0 0 0 0)
          have HE := Lib.hid (And.intro (HX.out.2.1.set (ac 8 x1 0 0 0 0 0 0 0 0 0)) (below_setRow HX.out.2.2.1 (Nat.le_refl _) (ac 8 x1 0 0 0 0 0 0 0 0 0).toArray))
          simp only [ac] at hst
          go_wp2_with fail
          refine bodyPost_ret (results_cell_row rfl _ _ w.heap.size 27 _ (0, 0) _ rfl HE.out.1 Tryd.underlying27 rfl (by kernel_rfl)) rfl ⟨8, x1, 0, 0, 0, 0, 0, 0, 0, 0, 0, rfl, (.inr (.inl ⟨HS.out, rfl, HN.out.1, rfl, rfl, rfl, rfl, rfl, rfl, rfl, rfl, rfl⟩)), HE.out.2⟩
        have k1 := hs
        clear hs
        by_cases hs : s = nmDeliver
        · have m0 := ba_ne (show s ≠ nmTick by rw [hs]; exact fun e => absurd (congrArg (fun b : ByteArray => b.data.toList) e) (by decide))
          rw [tlTick] at m0
          have m1 := ba_ne (show s ≠ nmStart by rw [hs]; exact fun e => absurd (congrArg (fun b : ByteArray => b.data.toList) e) (by decide))
          rw [tlStart] at m1
          have m2 : (s.toList == [100, 101, 108, 105, 118, 101, 114]) = true := by rw [hs, tlDeliver]; rfl
          have HS := Lib.hid hs
          clear hs
          have hst := HX.out.2.1.store (P := Tryd.prog) (cs' := ac 2 0 x1 0 0 0 0 0 0 0 0) rfl (ac_one 2 0 x1 0 0 0 0 0 0 0 0)
          have HE := Lib.hid (And.intro (HX.out.2.1.set (ac 2 0 x1 0 0 0 0 0 0 0 0)) (below_setRow HX.out.2.2.1 (Nat.le_refl _) (ac 2 0 x1 0 0 0 0 0 0 0 0).toArray))
          simp only [ac] at hst
          go_wp2_with fail
          refine bodyPost_ret (results_cell_row rfl _ _ w.heap.size 27 _ (0, 0) _ rfl HE.out.1 Tryd.underlying27 rfl (by kernel_rfl)) rfl ⟨2, 0, x1, 0, 0, 0, 0, 0, 0, 0, 0, rfl, (.inr (.inr (.inl ⟨HS.out, rfl, HN.out.1, rfl, rfl, rfl, rfl, rfl, rfl, rfl, rfl, rfl⟩))), HE.out.2⟩
        have k2 := hs
        clear hs
        by_cases hs : s = nmDrop
        · have m0 := ba_ne (show s ≠ nmTick by rw [hs]; exact fun e => absurd (congrArg (fun b : ByteArray => b.data.toList) e) (by decide))
          rw [tlTick] at m0
          have m1 := ba_ne (show s ≠ nmStart by rw [hs]; exact fun e => absurd (congrArg (fun b : ByteArray => b.data.toList) e) (by decide))
          rw [tlStart] at m1
          have m2 := ba_ne (show s ≠ nmDeliver by rw [hs]; exact fun e => absurd (congrArg (fun b : ByteArray => b.data.toList) e) (by decide))
          rw [tlDeliver] at m2
          have m3 : (s.toList == [100, 114, 111, 112]) = true := by rw [hs, tlDrop]; rfl
          have HS := Lib.hid hs
          clear hs
          have hst := HX.out.2.1.store (P := Tryd.prog) (cs' := ac 3 0 x1 0 0 0 0 0 0 0 0) rfl (ac_one 3 0 x1 0 0 0 0 0 0 0 0)
          have HE := Lib.hid (And.intro (HX.out.2.1.set (ac 3 0 x1 0 0 0 0 0 0 0 0)) (below_setRow HX.out.2.2.1 (Nat.le_refl _) (ac 3 0 x1 0 0 0 0 0 0 0 0).toArray))
          simp only [ac] at hst
          go_wp2_with fail
          refine bodyPost_ret (results_cell_row rfl _ _ w.heap.size 27 _ (0, 0) _ rfl HE.out.1 Tryd.underlying27 rfl (by kernel_rfl)) rfl ⟨3, 0, x1, 0, 0, 0, 0, 0, 0, 0, 0, rfl, (.inr (.inr (.inr (.inl ⟨HS.out, rfl, HN.out.1, rfl, rfl, rfl, rfl, rfl, rfl, rfl, rfl, rfl⟩)))), HE.out.2⟩
        have k3 := hs
        clear hs
        by_cases hs : s = nmDouble
        · have m0 := ba_ne (show s ≠ nmTick by rw [hs]; exact fun e => absurd (congrArg (fun b : ByteArray => b.data.toList) e) (by decide))
          rw [tlTick] at m0
          have m1 := ba_ne (show s ≠ nmStart by rw [hs]; exact fun e => absurd (congrArg (fun b : ByteArray => b.data.toList) e) (by decide))
          rw [tlStart] at m1
          have m2 := ba_ne (show s ≠ nmDeliver by rw [hs]; exact fun e => absurd (congrArg (fun b : ByteArray => b.data.toList) e) (by decide))
          rw [tlDeliver] at m2
          have m3 := ba_ne (show s ≠ nmDrop by rw [hs]; exact fun e => absurd (congrArg (fun b : ByteArray => b.data.toList) e) (by decide))
          rw [tlDrop] at m3
          have m4 : (s.toList == [100, 111, 117, 98, 108, 101]) = true := by rw [hs, tlDouble]; rfl
          have HS := Lib.hid hs
          clear hs
          have hst := HX.out.2.1.store (P := Tryd.prog) (cs' := ac 4 0 x1 0 0 0 0 0 0 0 0) rfl (ac_one 4 0 x1 0 0 0 0 0 0 0 0)
          have HE := Lib.hid (And.intro (HX.out.2.1.set (ac 4 0 x1 0 0 0 0 0 0 0 0)) (below_setRow HX.out.2.2.1 (Nat.le_refl _) (ac 4 0 x1 0 0 0 0 0 0 0 0).toArray))
          simp only [ac] at hst
          go_wp2_with fail
          refine bodyPost_ret (results_cell_row rfl _ _ w.heap.size 27 _ (0, 0) _ rfl HE.out.1 Tryd.underlying27 rfl (by kernel_rfl)) rfl ⟨4, 0, x1, 0, 0, 0, 0, 0, 0, 0, 0, rfl, (.inr (.inr (.inr (.inr (.inl ⟨HS.out, rfl, HN.out.1, rfl, rfl, rfl, rfl, rfl, rfl, rfl, rfl, rfl⟩))))), HE.out.2⟩
        have k4 := hs
        clear hs
        by_cases hs : s = nmRetry
        · have m0 := ba_ne (show s ≠ nmTick by rw [hs]; exact fun e => absurd (congrArg (fun b : ByteArray => b.data.toList) e) (by decide))
          rw [tlTick] at m0
          have m1 := ba_ne (show s ≠ nmStart by rw [hs]; exact fun e => absurd (congrArg (fun b : ByteArray => b.data.toList) e) (by decide))
          rw [tlStart] at m1
          have m2 := ba_ne (show s ≠ nmDeliver by rw [hs]; exact fun e => absurd (congrArg (fun b : ByteArray => b.data.toList) e) (by decide))
          rw [tlDeliver] at m2
          have m3 := ba_ne (show s ≠ nmDrop by rw [hs]; exact fun e => absurd (congrArg (fun b : ByteArray => b.data.toList) e) (by decide))
          rw [tlDrop] at m3
          have m4 := ba_ne (show s ≠ nmDouble by rw [hs]; exact fun e => absurd (congrArg (fun b : ByteArray => b.data.toList) e) (by decide))
          rw [tlDouble] at m4
          have m5 : (s.toList == [114, 101, 116, 114, 121]) = true := by rw [hs, tlRetry]; rfl
          have HS := Lib.hid hs
          clear hs
          have hst := HX.out.2.1.store (P := Tryd.prog) (cs' := ac 6 0 0 x1 0 0 0 0 0 0 0) rfl (ac_one 6 0 0 x1 0 0 0 0 0 0 0)
          have HE := Lib.hid (And.intro (HX.out.2.1.set (ac 6 0 0 x1 0 0 0 0 0 0 0)) (below_setRow HX.out.2.2.1 (Nat.le_refl _) (ac 6 0 0 x1 0 0 0 0 0 0 0).toArray))
          simp only [ac] at hst
          go_wp2_with fail
          refine bodyPost_ret (results_cell_row rfl _ _ w.heap.size 27 _ (0, 0) _ rfl HE.out.1 Tryd.underlying27 rfl (by kernel_rfl)) rfl ⟨6, 0, 0, x1, 0, 0, 0, 0, 0, 0, 0, rfl, (.inr (.inr (.inr (.inr (.inr (.inl ⟨HS.out, rfl, HN.out.1, rfl, rfl, rfl, rfl, rfl, rfl, rfl, rfl, rfl⟩)))))), HE.out.2⟩
        have k5 := hs
        clear hs
        by_cases hs : s = nmCrash
        · have m0 := ba_ne (show s ≠ nmTick by rw [hs]; exact fun e => absurd (congrArg (fun b : ByteArray => b.data.toList) e) (by decide))
          rw [tlTick] at m0
          have m1 := ba_ne (show s ≠ nmStart by rw [hs]; exact fun e => absurd (congrArg (fun b : ByteArray => b.data.toList) e) (by decide))
          rw [tlStart] at m1
          have m2 := ba_ne (show s ≠ nmDeliver by rw [hs]; exact fun e => absurd (congrArg (fun b : ByteArray => b.data.toList) e) (by decide))
          rw [tlDeliver] at m2
          have m3 := ba_ne (show s ≠ nmDrop by rw [hs]; exact fun e => absurd (congrArg (fun b : ByteArray => b.data.toList) e) (by decide))
          rw [tlDrop] at m3
          have m4 := ba_ne (show s ≠ nmDouble by rw [hs]; exact fun e => absurd (congrArg (fun b : ByteArray => b.data.toList) e) (by decide))
          rw [tlDouble] at m4
          have m5 := ba_ne (show s ≠ nmRetry by rw [hs]; exact fun e => absurd (congrArg (fun b : ByteArray => b.data.toList) e) (by decide))
          rw [tlRetry] at m5
          have m6 : (s.toList == [99, 114, 97, 115, 104]) = true := by rw [hs, tlCrash]; rfl
          have HS := Lib.hid hs
          clear hs
          by_cases h2 : 2 < m
          · have g2m : (2 : Int) < (m : Int) := by omega
            have h2w : 2 < ws.length := by rw [H.out.2.1]; exact h2
            have qn : w6.cell? ⟨b, off + 2, none⟩ = some (.string (ws[2]'h2w)) := HX.out.2.2.2.2.1 2 h2w
            have hw2 : ws[2]? = some (ws[2]'h2w) := List.getElem?_eq_getElem h2w
            generalize ws[2]'h2w = y at *
            by_cases hnow : y = nmNow
            · have mn : (y.toList == [110, 111, 119]) = true := by rw [hnow, tlNow]; rfl
              have hc7 : Chg (fun j => j = w.heap.size + 1) w6 (w6.setCell ⟨w.heap.size + 1, 2, none⟩ (.int .i64 (-1))) := (Chg.refl (fun j => j = w.heap.size + 1) w6).setCell (.inr rfl) 2 _
              have hkr7 := HX.out.2.1.chg hc7 (by omega)
              have hka7 := HX.out.1.setCell 2 (.int .i64 (-1))
              have hb7 := HX.out.2.2.1.setCell (p := ⟨w.heap.size + 1, 2, none⟩) (Nat.le_succ _) (.int .i64 (-1))
              obtain ⟨w7, hw7⟩ : ∃ z, w6.setCell ⟨w.heap.size + 1, 2, none⟩ (.int .i64 (-1)) = z := ⟨_, rfl⟩
              rw [hw7] at hkr7 hka7 hb7
              have c1 : w7.cell? ⟨w.heap.size + 1, 1, none⟩ = some (.int .i64 x1) := by rw [HN.out.1]; exact hka7.cell 1
              have c2 : w7.cell? ⟨w.heap.size + 1, 2, none⟩ = some (.int .i64 (-1)) := hka7.cell 2
              have HZ := Lib.hid (And.intro hkr7 hb7)
              have HCR := Lib.hid (show CrashN ws (-1) from .inl ⟨by rw [hw2, hnow], rfl⟩)
              clear hc7 hkr7 hka7 hb7 hnow hw2 h2w
              have hst := HZ.out.1.store (P := Tryd.prog) (cs' := ac 7 x1 (-1) 0 0 0 0 0 0 0 0) rfl (ac_one 7 x1 (-1) 0 0 0 0 0 0 0 0)
              have HE := Lib.hid (And.intro (HZ.out.1.set (ac 7 x1 (-1) 0 0 0 0 0 0 0 0)) (below_setRow HZ.out.2 (Nat.le_refl _) (ac 7 x1 (-1) 0 0 0 0 0 0 0 0).toArray))
              simp only [ac] at hst
              go_wp2_with fail
              refine bodyPost_ret (results_cell_row rfl _ _ w.heap.size 27 _ (0, 0) _ rfl HE.out.1 Tryd.underlying27 rfl (by kernel_rfl)) rfl ⟨7, x1, (-1), 0, 0, 0, 0, 0, 0, 0, 0, rfl, (.inr (.inr (.inr (.inr (.inr (.inr (.inl ⟨HS.out, rfl, HN.out.1, HCR.out, rfl, rfl, rfl, rfl, rfl, rfl, rfl, rfl⟩))))))), HE.out.2⟩
            · have mn := ba_ne hnow
              rw [tlNow] at mn
              have HCR := Lib.hid (show CrashN ws x2 from .inr ⟨by rw [hw2]; exact fun e => hnow (Option.some.inj e), HN.out.2.1⟩)
              clear hnow hw2 h2w
              have hst := HX.out.2.1.store (P := Tryd.prog) (cs' := ac 7 x1 x2 0 0 0 0 0 0 0 0) rfl (ac_one 7 x1 x2 0 0 0 0 0 0 0 0)
              have HE := Lib.hid (And.intro (HX.out.2.1.set (ac 7 x1 x2 0 0 0 0 0 0 0 0)) (below_setRow HX.out.2.2.1 (Nat.le_refl _) (ac 7 x1 x2 0 0 0 0 0 0 0 0).toArray))
              simp only [ac] at hst
              go_wp2_with fail
              refine bodyPost_ret (results_cell_row rfl _ _ w.heap.size 27 _ (0, 0) _ rfl HE.out.1 Tryd.underlying27 rfl (by kernel_rfl)) rfl ⟨7, x1, x2, 0, 0, 0, 0, 0, 0, 0, 0, rfl, (.inr (.inr (.inr (.inr (.inr (.inr (.inl ⟨HS.out, rfl, HN.out.1, HCR.out, rfl, rfl, rfl, rfl, rfl, rfl, rfl, rfl⟩))))))), HE.out.2⟩
          · have g2m : ¬ (2 : Int) < (m : Int) := by omega
            have HCR := Lib.hid (show CrashN ws x2 from .inr ⟨by rw [List.getElem?_eq_none (by rw [H.out.2.1]; omega)]; exact (fun e => by cases e), HN.out.2.1⟩)
            have hst := HX.out.2.1.store (P := Tryd.prog) (cs' := ac 7 x1 x2 0 0 0 0 0 0 0 0) rfl (ac_one 7 x1 x2 0 0 0 0 0 0 0 0)
            have HE := Lib.hid (And.intro (HX.out.2.1.set (ac 7 x1 x2 0 0 0 0 0 0 0 0)) (below_setRow HX.out.2.2.1 (Nat.le_refl _) (ac 7 x1 x2 0 0 0 0 0 0 0 0).toArray))
            simp only [ac] at hst
            go_wp2_with fail
            refine bodyPost_ret (results_cell_row rfl _ _ w.heap.size 27 _ (0, 0) _ rfl HE.out.1 Tryd.underlying27 rfl (by kernel_rfl)) rfl ⟨7, x1, x2, 0, 0, 0, 0, 0, 0, 0, 0, rfl, (.inr (.inr (.inr (.inr (.inr (.inr (.inl ⟨HS.out, rfl, HN.out.1, HCR.out, rfl, rfl, rfl, rfl, rfl, rfl, rfl, rfl⟩))))))), HE.out.2⟩
        have k6 := hs
        clear hs
        by_cases hs : s = nmAlloc
        · have m0 := ba_ne (show s ≠ nmTick by rw [hs]; exact fun e => absurd (congrArg (fun b : ByteArray => b.data.toList) e) (by decide))
          rw [tlTick] at m0
          have m1 := ba_ne (show s ≠ nmStart by rw [hs]; exact fun e => absurd (congrArg (fun b : ByteArray => b.data.toList) e) (by decide))
          rw [tlStart] at m1
          have m2 := ba_ne (show s ≠ nmDeliver by rw [hs]; exact fun e => absurd (congrArg (fun b : ByteArray => b.data.toList) e) (by decide))
          rw [tlDeliver] at m2
          have m3 := ba_ne (show s ≠ nmDrop by rw [hs]; exact fun e => absurd (congrArg (fun b : ByteArray => b.data.toList) e) (by decide))
          rw [tlDrop] at m3
          have m4 := ba_ne (show s ≠ nmDouble by rw [hs]; exact fun e => absurd (congrArg (fun b : ByteArray => b.data.toList) e) (by decide))
          rw [tlDouble] at m4
          have m5 := ba_ne (show s ≠ nmRetry by rw [hs]; exact fun e => absurd (congrArg (fun b : ByteArray => b.data.toList) e) (by decide))
          rw [tlRetry] at m5
          have m6 := ba_ne (show s ≠ nmCrash by rw [hs]; exact fun e => absurd (congrArg (fun b : ByteArray => b.data.toList) e) (by decide))
          rw [tlCrash] at m6
          have m7 : (s.toList == [97, 108, 108, 111, 99]) = true := by rw [hs, tlAlloc]; rfl
          have HS := Lib.hid hs
          clear hs
          have hst7 := HX.out.2.2.2.1.store (P := Tryd.prog) (cs' := oc 1 0 0 x2 x3 0 0) rfl (oc_one 1 0 0 x2 x3 0 0)
          have hko7 := HX.out.2.2.2.1.set (oc 1 0 0 x2 x3 0 0)
          have hc7 : Chg (fun j => j = wr.heap.size) w6 (w6.setRow wr.heap.size (oc 1 0 0 x2 x3 0 0).toArray) := Chg.setRow (S := fun j => j = wr.heap.size) (Chg.refl _ _) (.inr rfl) _
          have hkr7 := HX.out.2.1.chg hc7 (by have := HX.out.2.2.2.2.2; omega)
          have hka7 := HX.out.1.chg hc7 (by have := HX.out.2.2.2.2.2; omega)
          have hb7 := below_setRow HX.out.2.2.1 (show w.heap.size ≤ wr.heap.size by have := HX.out.2.2.2.2.2; omega) (oc 1 0 0 x2 x3 0 0).toArray
          obtain ⟨w7, hw7⟩ : ∃ z, w6.setRow wr.heap.size (oc 1 0 0 x2 x3 0 0).toArray = z := ⟨_, rfl⟩
          rw [hw7] at hst7 hko7 hkr7 hka7 hb7
          have c1 : w7.cell? ⟨w.heap.size + 1, 1, none⟩ = some (.int .i64 x1) := by rw [HN.out.1]; exact hka7.cell 1
          have hld7 := hko7.load (P := Tryd.prog) (k := 7) rfl
          have HZ := Lib.hid (And.intro hkr7 hb7)
          simp only [oc] at hst7 hld7
          clear hko7 hc7 hkr7 hka7 hb7 hw7
          have hst := HZ.out.1.store (P := Tryd.prog) (cs' := ac 5 0 0 x1 1 0 0 x2 x3 0 0) rfl (ac_one 5 0 0 x1 1 0 0 x2 x3 0 0)
          have HE := Lib.hid (And.intro (HZ.out.1.set (ac 5 0 0 x1 1 0 0 x2 x3 0 0)) (below_setRow HZ.out.2 (Nat.le_refl _) (ac 5 0 0 x1 1 0 0 x2 x3 0 0).toArray))
          simp only [ac] at hst
          go_wp2_with fail
          refine bodyPost_ret (results_cell_row rfl _ _ w.heap.size 27 _ (0, 0) _ rfl HE.out.1 Tryd.underlying27 rfl (by kernel_rfl)) rfl ⟨5, 0, 0, x1, 1, 0, 0, x2, x3, 0, 0, rfl, (.inr (.inr (.inr (.inr (.inr (.inr (.inr (.inl ⟨HS.out, rfl, rfl, rfl, HN.out.1, rfl, HN.out.2.1, HN.out.2.2.1, rfl, rfl, rfl, rfl⟩)))))))), HE.out.2⟩
        have k7 := hs
        clear hs
        by_cases hs : s = nmFree
        · have m0 := ba_ne (show s ≠ nmTick by rw [hs]; exact fun e => absurd (congrArg (fun b : ByteArray => b.data.toList) e) (by decide))
          rw [tlTick] at m0
          have m1 := ba_ne (show s ≠ nmStart by rw [hs]; exact fun e => absurd (congrArg (fun b : ByteArray => b.data.toList) e) (by decide))
          rw [tlStart] at m1
          have m2 := ba_ne (show s ≠ nmDeliver by rw [hs]; exact fun e => absurd (congrArg (fun b : ByteArray => b.data.toList) e) (by decide))
          rw [tlDeliver] at m2
          have m3 := ba_ne (show s ≠ nmDrop by rw [hs]; exact fun e => absurd (congrArg (fun b : ByteArray => b.data.toList) e) (by decide))
          rw [tlDrop] at m3
          have m4 := ba_ne (show s ≠ nmDouble by rw [hs]; exact fun e => absurd (congrArg (fun b : ByteArray => b.data.toList) e) (by decide))
          rw [tlDouble] at m4
          have m5 := ba_ne (show s ≠ nmRetry by rw [hs]; exact fun e => absurd (congrArg (fun b : ByteArray => b.data.toList) e) (by decide))
          rw [tlRetry] at m5
          have m6 := ba_ne (show s ≠ nmCrash by rw [hs]; exact fun e => absurd (congrArg (fun b : ByteArray => b.data.toList) e) (by decide))
          rw [tlCrash] at m6
          have m7 := ba_ne (show s ≠ nmAlloc by rw [hs]; exact fun e => absurd (congrArg (fun b : ByteArray => b.data.toList) e) (by decide))
          rw [tlAlloc] at m7
          have m8 : (s.toList == [102, 114, 101, 101]) = true := by rw [hs, tlFree]; rfl
          have HS := Lib.hid hs
          clear hs
          have hst7 := HX.out.2.2.2.1.store (P := Tryd.prog) (cs' := oc 2 x2 0 0 0 0 0) rfl (oc_one 2 x2 0 0 0 0 0)
          have hko7 := HX.out.2.2.2.1.set (oc 2 x2 0 0 0 0 0)
          have hc7 : Chg (fun j => j = wr.heap.size) w6 (w6.setRow wr.heap.size (oc 2 x2 0 0 0 0 0).toArray) := Chg.setRow (S := fun j => j = wr.heap.size) (Chg.refl _ _) (.inr rfl) _
          have hkr7 := HX.out.2.1.chg hc7 (by have := HX.out.2.2.2.2.2; omega)
          have hka7 := HX.out.1.chg hc7 (by have := HX.out.2.2.2.2.2; omega)
          have hb7 := below_setRow HX.out.2.2.1 (show w.heap.size ≤ wr.heap.size by have := HX.out.2.2.2.2.2; omega) (oc 2 x2 0 0 0 0 0).toArray
          obtain ⟨w7, hw7⟩ : ∃ z, w6.setRow wr.heap.size (oc 2 x2 0 0 0 0 0).toArray = z := ⟨_, rfl⟩
          rw [hw7] at hst7 hko7 hkr7 hka7 hb7
          have c1 : w7.cell? ⟨w.heap.size + 1, 1, none⟩ = some (.int .i64 x1) := by rw [HN.out.1]; exact hka7.cell 1
          have hld7 := hko7.load (P := Tryd.prog) (k := 7) rfl
          have HZ := Lib.hid (And.intro hkr7 hb7)
          simp only [oc] at hst7 hld7
          clear hko7 hc7 hkr7 hka7 hb7 hw7
          have hst := HZ.out.1.store (P := Tryd.prog) (cs' := ac 5 0 0 x1 2 x2 0 0 0 0 0) rfl (ac_one 5 0 0 x1 2 x2 0 0 0 0 0)
          have HE := Lib.hid (And.intro (HZ.out.1.set (ac 5 0 0 x1 2 x2 0 0 0 0 0)) (below_setRow HZ.out.2 (Nat.le_refl _) (ac 5 0 0 x1 2 x2 0 0 0 0 0).toArray))
          simp only [ac] at hst
          go_wp2_with fail
          refine bodyPost_ret (results_cell_row rfl _ _ w.heap.size 27 _ (0, 0) _ rfl HE.out.1 Tryd.underlying27 rfl (by kernel_rfl)) rfl ⟨5, 0, 0, x1, 2, x2, 0, 0, 0, 0, 0, rfl, (.inr (.inr (.inr (.inr (.inr (.inr (.inr (.inr (.inl ⟨HS.out, rfl, rfl, rfl, HN.out.1, rfl, HN.out.2.1, rfl, rfl, rfl, rfl, rfl⟩))))))))), HE.out.2⟩
        have k8 := hs
        clear hs
        by_cases hs : s = nmWrite
        · have m0 := ba_ne (show s ≠ nmTick by rw [hs]; exact fun e => absurd (congrArg (fun b : ByteArray => b.data.toList) e) (by decide))
          rw [tlTick] at m0
          have m1 := ba_ne (show s ≠ nmStart by rw [hs]; exact fun e => absurd (congrArg (fun b : ByteArray => b.data.toList) e) (by decide))
          rw [tlStart] at m1
          have m2 := ba_ne (show s ≠ nmDeliver by rw [hs]; exact fun e => absurd (congrArg (fun b : ByteArray => b.data.toList) e) (by decide))
          rw [tlDeliver] at m2
          have m3 := ba_ne (show s ≠ nmDrop by rw [hs]; exact fun e => absurd (congrArg (fun b : ByteArray => b.data.toList) e) (by decide))
          rw [tlDrop] at m3
          have m4 := ba_ne (show s ≠ nmDouble by rw [hs]; exact fun e => absurd (congrArg (fun b : ByteArray => b.data.toList) e) (by decide))
          rw [tlDouble] at m4
          have m5 := ba_ne (show s ≠ nmRetry by rw [hs]; exact fun e => absurd (congrArg (fun b : ByteArray => b.data.toList) e) (by decide))
          rw [tlRetry] at m5
          have m6 := ba_ne (show s ≠ nmCrash by rw [hs]; exact fun e => absurd (congrArg (fun b : ByteArray => b.data.toList) e) (by decide))
          rw [tlCrash] at m6
          have m7 := ba_ne (show s ≠ nmAlloc by rw [hs]; exact fun e => absurd (congrArg (fun b : ByteArray => b.data.toList) e) (by decide))
          rw [tlAlloc] at m7
          have m8 := ba_ne (show s ≠ nmFree by rw [hs]; exact fun e => absurd (congrArg (fun b : ByteArray => b.data.toList) e) (by decide))
          rw [tlFree] at m8
          have m9 : (s.toList == [119, 114, 105, 116, 101]) = true := by rw [hs, tlWrite]; rfl
          have HS := Lib.hid hs
          clear hs
          have hst7 := HX.out.2.2.2.1.store (P := Tryd.prog) (cs' := oc 3 x2 x3 0 0 x4 0) rfl (oc_one 3 x2 x3 0 0 x4 0)
          have hko7 := HX.out.2.2.2.1.set (oc 3 x2 x3 0 0 x4 0)
          have hc7 : Chg (fun j => j = wr.heap.size) w6 (w6.setRow wr.heap.size (oc 3 x2 x3 0 0 x4 0).toArray) := Chg.setRow (S := fun j => j = wr.heap.size) (Chg.refl _ _) (.inr rfl) _
          have hkr7 := HX.out.2.1.chg hc7 (by have := HX.out.2.2.2.2.2; omega)
          have hka7 := HX.out.1.chg hc7 (by have := HX.out.2.2.2.2.2; omega)
          have hb7 := below_setRow HX.out.2.2.1 (show w.heap.size ≤ wr.heap.size by have := HX.out.2.2.2.2.2; omega) (oc 3 x2 x3 0 0 x4 0).toArray
          obtain ⟨w7, hw7⟩ : ∃ z, w6.setRow wr.heap.size (oc 3 x2 x3 0 0 x4 0).toArray = z := ⟨_, rfl⟩
          rw [hw7] at hst7 hko7 hkr7 hka7 hb7
          have c1 : w7.cell? ⟨w.heap.size + 1, 1, none⟩ = some (.int .i64 x1) := by rw [HN.out.1]; exact hka7.cell 1
          have hld7 := hko7.load (P := Tryd.prog) (k := 7) rfl
          have HZ := Lib.hid (And.intro hkr7 hb7)
          simp only [oc] at hst7 hld7
          clear hko7 hc7 hkr7 hka7 hb7 hw7
          have hst := HZ.out.1.store (P := Tryd.prog) (cs' := ac 5 0 0 x1 3 x2 x3 0 0 x4 0) rfl (ac_one 5 0 0 x1 3 x2 x3 0 0 x4 0)
          have HE := Lib.hid (And.intro (HZ.out.1.set (ac 5 0 0 x1 3 x2 x3 0 0 x4 0)) (below_setRow HZ.out.2 (Nat.le_refl _) (ac 5 0 0 x1 3 x2 x3 0 0 x4 0).toArray))
          simp only [ac] at hst
          go_wp2_with fail
          refine bodyPost_ret (results_cell_row rfl _ _ w.heap.size 27 _ (0, 0) _ rfl HE.out.1 Tryd.underlying27 rfl (by kernel_rfl)) rfl ⟨5, 0, 0, x1, 3, x2, x3, 0, 0, x4, 0, rfl, (.inr (.inr (.inr (.inr (.inr (.inr (.inr (.inr (.inr (.inl ⟨HS.out, rfl, rfl, rfl, HN.out.1, rfl, HN.out.2.1, HN.out.2.2.1, HN.out.2.2.2, rfl, rfl, rfl⟩)))))))))), HE.out.2⟩
        have k9 := hs
        clear hs
        by_cases hs : s = nmLink
        · have m0 := ba_ne (show s ≠ nmTick by rw [hs]; exact fun e => absurd (congrArg (fun b : ByteArray => b.data.toList) e) (by decide))
          rw [tlTick] at m0
          have m1 := ba_ne (show s ≠ nmStart by rw [hs]; exact fun e => absurd (congrArg (fun b : ByteArray => b.data.toList) e) (by decide))
          rw [tlStart] at m1
          have m2 := ba_ne (show s ≠ nmDeliver by rw [hs]; exact fun e => absurd (congrArg (fun b : ByteArray => b.data.toList) e) (by decide))
          rw [tlDeliver] at m2
          have m3 := ba_ne (show s ≠ nmDrop by rw [hs]; exact fun e => absurd (congrArg (fun b : ByteArray => b.data.toList) e) (by decide))
          rw [tlDrop] at m3
          have m4 := ba_ne (show s ≠ nmDouble by rw [hs]; exact fun e => absurd (congrArg (fun b : ByteArray => b.data.toList) e) (by decide))
          rw [tlDouble] at m4
          have m5 := ba_ne (show s ≠ nmRetry by rw [hs]; exact fun e => absurd (congrArg (fun b : ByteArray => b.data.toList) e) (by decide))
          rw [tlRetry] at m5
          have m6 := ba_ne (show s ≠ nmCrash by rw [hs]; exact fun e => absurd (congrArg (fun b : ByteArray => b.data.toList) e) (by decide))
          rw [tlCrash] at m6
          have m7 := ba_ne (show s ≠ nmAlloc by rw [hs]; exact fun e => absurd (congrArg (fun b : ByteArray => b.data.toList) e) (by decide))
          rw [tlAlloc] at m7
          have m8 := ba_ne (show s ≠ nmFree by rw [hs]; exact fun e => absurd (congrArg (fun b : ByteArray => b.data.toList) e) (by decide))
          rw [tlFree] at m8
          have m9 := ba_ne (show s ≠ nmWrite by rw [hs]; exact fun e => absurd (congrArg (fun b : ByteArray => b.data.toList) e) (by decide))
          rw [tlWrite] at m9
          have m10 : (s.toList == [108, 105, 110, 107]) = true := by rw [hs, tlLink]; rfl
          have HS := Lib.hid hs
          clear hs
          have hst7 := HX.out.2.2.2.1.store (P := Tryd.prog) (cs' := oc 4 x2 x3 0 0 0 x4) rfl (oc_one 4 x2 x3 0 0 0 x4)
          have hko7 := HX.out.2.2.2.1.set (oc 4 x2 x3 0 0 0 x4)
          have hc7 : Chg (fun j => j = wr.heap.size) w6 (w6.setRow wr.heap.size (oc 4 x2 x3 0 0 0 x4).toArray) := Chg.setRow (S := fun j => j = wr.heap.size) (Chg.refl _ _) (.inr rfl) _
          have hkr7 := HX.out.2.1.chg hc7 (by have := HX.out.2.2.2.2.2; omega)
          have hka7 := HX.out.1.chg hc7 (by have := HX.out.2.2.2.2.2; omega)
          have hb7 := below_setRow HX.out.2.2.1 (show w.heap.size ≤ wr.heap.size by have := HX.out.2.2.2.2.2; omega) (oc 4 x2 x3 0 0 0 x4).toArray
          obtain ⟨w7, hw7⟩ : ∃ z, w6.setRow wr.heap.size (oc 4 x2 x3 0 0 0 x4).toArray = z := ⟨_, rfl⟩
          rw [hw7] at hst7 hko7 hkr7 hka7 hb7
          have c1 : w7.cell? ⟨w.heap.size + 1, 1, none⟩ = some (.int .i64 x1) := by rw [HN.out.1]; exact hka7.cell 1
          have hld7 := hko7.load (P := Tryd.prog) (k := 7) rfl
          have HZ := Lib.hid (And.intro hkr7 hb7)
          simp only [oc] at hst7 hld7
          clear hko7 hc7 hkr7 hka7 hb7 hw7
          have hst := HZ.out.1.store (P := Tryd.prog) (cs' := ac 5 0 0 x1 4 x2 x3 0 0 0 x4) rfl (ac_one 5 0 0 x1 4 x2 x3 0 0 0 x4)
          have HE := Lib.hid (And.intro (HZ.out.1.set (ac 5 0 0 x1 4 x2 x3 0 0 0 x4)) (below_setRow HZ.out.2 (Nat.le_refl _) (ac 5 0 0 x1 4 x2 x3 0 0 0 x4).toArray))
          simp only [ac] at hst
          go_wp2_with fail
          refine bodyPost_ret (results_cell_row rfl _ _ w.heap.size 27 _ (0, 0) _ rfl HE.out.1 Tryd.underlying27 rfl (by kernel_rfl)) rfl ⟨5, 0, 0, x1, 4, x2, x3, 0, 0, 0, x4, rfl, (.inr (.inr (.inr (.inr (.inr (.inr (.inr (.inr (.inr (.inr (.inl ⟨HS.out, rfl, rfl, rfl, HN.out.1, rfl, HN.out.2.1, HN.out.2.2.1, HN.out.2.2.2, rfl, rfl, rfl⟩))))))))))), HE.out.2⟩
        have k10 := hs
        clear hs
        by_cases hs : s = nmRoot
        · have m0 := ba_ne (show s ≠ nmTick by rw [hs]; exact fun e => absurd (congrArg (fun b : ByteArray => b.data.toList) e) (by decide))
          rw [tlTick] at m0
          have m1 := ba_ne (show s ≠ nmStart by rw [hs]; exact fun e => absurd (congrArg (fun b : ByteArray => b.data.toList) e) (by decide))
          rw [tlStart] at m1
          have m2 := ba_ne (show s ≠ nmDeliver by rw [hs]; exact fun e => absurd (congrArg (fun b : ByteArray => b.data.toList) e) (by decide))
          rw [tlDeliver] at m2
          have m3 := ba_ne (show s ≠ nmDrop by rw [hs]; exact fun e => absurd (congrArg (fun b : ByteArray => b.data.toList) e) (by decide))
          rw [tlDrop] at m3
          have m4 := ba_ne (show s ≠ nmDouble by rw [hs]; exact fun e => absurd (congrArg (fun b : ByteArray => b.data.toList) e) (by decide))
          rw [tlDouble] at m4
          have m5 := ba_ne (show s ≠ nmRetry by rw [hs]; exact fun e => absurd (congrArg (fun b : ByteArray => b.data.toList) e) (by decide))
          rw [tlRetry] at m5
          have m6 := ba_ne (show s ≠ nmCrash by rw [hs]; exact fun e => absurd (congrArg (fun b : ByteArray => b.data.toList) e) (by decide))
          rw [tlCrash] at m6
          have m7 := ba_ne (show s ≠ nmAlloc by rw [hs]; exact fun e => absurd (congrArg (fun b : ByteArray => b.data.toList) e) (by decide))
          rw [tlAlloc] at m7
          have m8 := ba_ne (show s ≠ nmFree by rw [hs]; exact fun e => absurd (congrArg (fun b : ByteArray => b.data.toList) e) (by decide))
          rw [tlFree] at m8
          have m9 := ba_ne (show s ≠ nmWrite by rw [hs]; exact fun e => absurd (congrArg (fun b : ByteArray => b.data.toList) e) (by decide))
          rw [tlWrite] at m9
          have m10 := ba_ne (show s ≠ nmLink by rw [hs]; exact fun e => absurd (congrArg (fun b : ByteArray => b.data.toList) e) (by decide))
          rw [tlLink] at m10
          have m11 : (s.toList == [114, 111, 111, 116]) = true := by rw [hs, tlRoot]; rfl
          have HS := Lib.hid hs
          clear hs
          have hst7 := HX.out.2.2.2.1.store (P := Tryd.prog) (cs' := oc 5 0 x2 0 0 0 x3) rfl (oc_one 5 0 x2 0 0 0 x3)
          have hko7 := HX.out.2.2.2.1.set (oc 5 0 x2 0 0 0 x3)
          have hc7 : Chg (fun j => j = wr.heap.size) w6 (w6.setRow wr.heap.size (oc 5 0 x2 0 0 0 x3).toArray) := Chg.setRow (S := fun j => j = wr.heap.size) (Chg.refl _ _) (.inr rfl) _
          have hkr7 := HX.out.2.1.chg hc7 (by have := HX.out.2.2.2.2.2; omega)
          have hka7 := HX.out.1.chg hc7 (by have := HX.out.2.2.2.2.2; omega)
          have hb7 := below_setRow HX.out.2.2.1 (show w.heap.size ≤ wr.heap.size by have := HX.out.2.2.2.2.2; omega) (oc 5 0 x2 0 0 0 x3).toArray
          obtain ⟨w7, hw7⟩ : ∃ z, w6.setRow wr.heap.size (oc 5 0 x2 0 0 0 x3).toArray = z := ⟨_, rfl⟩
          rw [hw7] at hst7 hko7 hkr7 hka7 hb7
          have c1 : w7.cell? ⟨w.heap.size + 1, 1, none⟩ = some (.int .i64 x1) := by rw [HN.out.1]; exact hka7.cell 1
          have hld7 := hko7.load (P := Tryd.prog) (k := 7) rfl
          have HZ := Lib.hid (And.intro hkr7 hb7)
          simp only [oc] at hst7 hld7
          clear hko7 hc7 hkr7 hka7 hb7 hw7
          have hst := HZ.out.1.store (P := Tryd.prog) (cs' := ac 5 0 0 x1 5 0 x2 0 0 0 x3) rfl (ac_one 5 0 0 x1 5 0 x2 0 0 0 x3)
          have HE := Lib.hid (And.intro (HZ.out.1.set (ac 5 0 0 x1 5 0 x2 0 0 0 x3)) (below_setRow HZ.out.2 (Nat.le_refl _) (ac 5 0 0 x1 5 0 x2 0 0 0 x3).toArray))
          simp only [ac] at hst
          go_wp2_with fail
          refine bodyPost_ret (results_cell_row rfl _ _ w.heap.size 27 _ (0, 0) _ rfl HE.out.1 Tryd.underlying27 rfl (by kernel_rfl)) rfl ⟨5, 0, 0, x1, 5, 0, x2, 0, 0, 0, x3, rfl, (.inr (.inr (.inr (.inr (.inr (.inr (.inr (.inr (.inr (.inr (.inr (.inl ⟨HS.out, rfl, rfl, rfl, HN.out.1, rfl, HN.out.2.1, HN.out.2.2.1, rfl, rfl, rfl, rfl⟩)))))))))))), HE.out.2⟩
        have k11 := hs
        clear hs
        by_cases hs : s = nmRead
        · have m0 := ba_ne (show s ≠ nmTick by rw [hs]; exact fun e => absurd (congrArg (fun b : ByteArray => b.data.toList) e) (by decide))
          rw [tlTick] at m0
          have m1 := ba_ne (show s ≠ nmStart by rw [hs]; exact fun e => absurd (congrArg (fun b : ByteArray => b.data.toList) e) (by decide))
          rw [tlStart] at m1
          have m2 := ba_ne (show s ≠ nmDeliver by rw [hs]; exact fun e => absurd (congrArg (fun b : ByteArray => b.data.toList) e) (by decide))
          rw [tlDeliver] at m2
          have m3 := ba_ne (show s ≠ nmDrop by rw [hs]; exact fun e => absurd (congrArg (fun b : ByteArray => b.data.toList) e) (by decide))
          rw [tlDrop] at m3
          have m4 := ba_ne (show s ≠ nmDouble by rw [hs]; exact fun e => absurd (congrArg (fun b : ByteArray => b.data.toList) e) (by decide))
          rw [tlDouble] at m4
          have m5 := ba_ne (show s ≠ nmRetry by rw [hs]; exact fun e => absurd (congrArg (fun b : ByteArray => b.data.toList) e) (by decide))
          rw [tlRetry] at m5
          have m6 := ba_ne (show s ≠ nmCrash by rw [hs]; exact fun e => absurd (congrArg (fun b : ByteArray => b.data.toList) e) (by decide))
          rw [tlCrash] at m6
          have m7 := ba_ne (show s ≠ nmAlloc by rw [hs]; exact fun e => absurd (congrArg (fun b : ByteArray => b.data.toList) e) (by decide))
          rw [tlAlloc] at m7
          have m8 := ba_ne (show s ≠ nmFree by rw [hs]; exact fun e => absurd (congrArg (fun b : ByteArray => b.data.toList) e) (by decide))
          rw [tlFree] at m8
          have m9 := ba_ne (show s ≠ nmWrite by rw [hs]; exact fun e => absurd (congrArg (fun b : ByteArray => b.data.toList) e) (by decide))
          rw [tlWrite] at m9
          have m10 := ba_ne (show s ≠ nmLink by rw [hs]; exact fun e => absurd (congrArg (fun b : ByteArray => b.data.toList) e) (by decide))
          rw [tlLink] at m10
          have m11 := ba_ne (show s ≠ nmRoot by rw [hs]; exact fun e => absurd (congrArg (fun b : ByteArray => b.data.toList) e) (by decide))
          rw [tlRoot] at m11
          have m12 : (s.toList == [114, 101, 97, 100]) = true := by rw [hs, tlRead]; rfl
          have HS := Lib.hid hs
          clear hs
          have hst7 := HX.out.2.2.2.1.store (P := Tryd.prog) (cs' := oc 6 x2 x3 0 0 0 0) rfl (oc_one 6 x2 x3 0 0 0 0)
          have hko7 := HX.out.2.2.2.1.set (oc 6 x2 x3 0 0 0 0)
          have hc7 : Chg (fun j => j = wr.heap.size) w6 (w6.setRow wr.heap.size (oc 6 x2 x3 0 0 0 0).toArray) := Chg.setRow (S := fun j => j = wr.heap.size) (Chg.refl _ _) (.inr rfl) _
          have hkr7 := HX.out.2.1.chg hc7 (by have := HX.out.2.2.2.2.2; omega)
          have hka7 := HX.out.1.chg hc7 (by have := HX.out.2.2.2.2.2; omega)
          have hb7 := below_setRow HX.out.2.2.1 (show w.heap.size ≤ wr.heap.size by have := HX.out.2.2.2.2.2; omega) (oc 6 x2 x3 0 0 0 0).toArray
          obtain ⟨w7, hw7⟩ : ∃ z, w6.setRow wr.heap.size (oc 6 x2 x3 0 0 0 0).toArray = z := ⟨_, rfl⟩
          rw [hw7] at hst7 hko7 hkr7 hka7 hb7
          have c1 : w7.cell? ⟨w.heap.size + 1, 1, none⟩ = some (.int .i64 x1) := by rw [HN.out.1]; exact hka7.cell 1
          have hld7 := hko7.load (P := Tryd.prog) (k := 7) rfl
          have HZ := Lib.hid (And.intro hkr7 hb7)
          simp only [oc] at hst7 hld7
          clear hko7 hc7 hkr7 hka7 hb7 hw7
          have hst := HZ.out.1.store (P := Tryd.prog) (cs' := ac 5 0 0 x1 6 x2 x3 0 0 0 0) rfl (ac_one 5 0 0 x1 6 x2 x3 0 0 0 0)
          have HE := Lib.hid (And.intro (HZ.out.1.set (ac 5 0 0 x1 6 x2 x3 0 0 0 0)) (below_setRow HZ.out.2 (Nat.le_refl _) (ac 5 0 0 x1 6 x2 x3 0 0 0 0).toArray))
          simp only [ac] at hst
          go_wp2_with fail
          refine bodyPost_ret (results_cell_row rfl _ _ w.heap.size 27 _ (0, 0) _ rfl HE.out.1 Tryd.underlying27 rfl (by kernel_rfl)) rfl ⟨5, 0, 0, x1, 6, x2, x3, 0, 0, 0, 0, rfl, (.inr (.inr (.inr (.inr (.inr (.inr (.inr (.inr (.inr (.inr (.inr (.inr (.inl ⟨HS.out, rfl, rfl, rfl, HN.out.1, rfl, HN.out.2.1, HN.out.2.2.1, rfl, rfl, rfl, rfl⟩))))))))))))), HE.out.2⟩
        have k12 := hs
        clear hs
        by_cases hs : s = nmFollow
        · have m0 := ba_ne (show s ≠ nmTick by rw [hs]; exact fun e => absurd (congrArg (fun b : ByteArray => b.data.toList) e) (by decide))
          rw [tlTick] at m0
          have m1 := ba_ne (show s ≠ nmStart by rw [hs]; exact fun e => absurd (congrArg (fun b : ByteArray => b.data.toList) e) (by decide))
          rw [tlStart] at m1
          have m2 := ba_ne (show s ≠ nmDeliver by rw [hs]; exact fun e => absurd (congrArg (fun b : ByteArray => b.data.toList) e) (by decide))
          rw [tlDeliver] at m2
          have m3 := ba_ne (show s ≠ nmDrop by rw [hs]; exact fun e => absurd (congrArg (fun b : ByteArray => b.data.toList) e) (by decide))
          rw [tlDrop] at m3
          have m4 := ba_ne (show s ≠ nmDouble by rw [hs]; exact fun e => absurd (congrArg (fun b : ByteArray => b.data.toList) e) (by decide))
          rw [tlDouble] at m4
          have m5 := ba_ne (show s ≠ nmRetry by rw [hs]; exact fun e => absurd (congrArg (fun b : ByteArray => b.data.toList) e) (by decide))
          rw [tlRetry] at m5
          have m6 := ba_ne (show s ≠ nmCrash by rw [hs]; exact fun e => absurd (congrArg (fun b : ByteArray => b.data.toList) e) (by decide))
          rw [tlCrash] at m6
          have m7 := ba_ne (show s ≠ nmAlloc by rw [hs]; exact fun e => absurd (congrArg (fun b : ByteArray => b.data.toList) e) (by decide))
          rw [tlAlloc] at m7
          have m8 := ba_ne (show s ≠ nmFree by rw [hs]; exact fun e => absurd (congrArg (fun b : ByteArray => b.data.toList) e) (by decide))
          rw [tlFree] at m8
          have m9 := ba_ne (show s ≠ nmWrite by rw [hs]; exact fun e => absurd (congrArg (fun b : ByteArray => b.data.toList) e) (by decide))
          rw [tlWrite] at m9
          have m10 := ba_ne (show s ≠ nmLink by rw [hs]; exact fun e => absurd (congrArg (fun b : ByteArray => b.data.toList) e) (by decide))
          rw [tlLink] at m10
          have m11 := ba_ne (show s ≠ nmRoot by rw [hs]; exact fun e => absurd (congrArg (fun b : ByteArray => b.data.toList) e) (by decide))
          rw [tlRoot] at m11
          have m12 := ba_ne (show s ≠ nmRead by rw [hs]; exact fun e => absurd (congrArg (fun b : ByteArray => b.data.toList) e) (by decide))
          rw [tlRead] at m12
          have m13 : (s.toList == [102, 111, 108, 108, 111, 119]) = true := by rw [hs, tlFollow]; rfl
          have HS := Lib.hid hs
          clear hs
          have hst7 := HX.out.2.2.2.1.store (P := Tryd.prog) (cs' := oc 7 x2 x3 0 0 0 0) rfl (oc_one 7 x2 x3 0 0 0 0)
          have hko7 := HX.out.2.2.2.1.set (oc 7 x2 x3 0 0 0 0)
          have hc7 : Chg (fun j => j = wr.heap.size) w6 (w6.setRow wr.heap.size (oc 7 x2 x3 0 0 0 0).toArray) := Chg.setRow (S := fun j => j = wr.heap.size) (Chg.refl _ _) (.inr rfl) _
          have hkr7 := HX.out.2.1.chg hc7 (by have := HX.out.2.2.2.2.2; omega)
          have hka7 := HX.out.1.chg hc7 (by have := HX.out.2.2.2.2.2; omega)
          have hb7 := below_setRow HX.out.2.2.1 (show w.heap.size ≤ wr.heap.size by have := HX.out.2.2.2.2.2; omega) (oc 7 x2 x3 0 0 0 0).toArray
          obtain ⟨w7, hw7⟩ : ∃ z, w6.setRow wr.heap.size (oc 7 x2 x3 0 0 0 0).toArray = z := ⟨_, rfl⟩
          rw [hw7] at hst7 hko7 hkr7 hka7 hb7
          have c1 : w7.cell? ⟨w.heap.size + 1, 1, none⟩ = some (.int .i64 x1) := by rw [HN.out.1]; exact hka7.cell 1
          have hld7 := hko7.load (P := Tryd.prog) (k := 7) rfl
          have HZ := Lib.hid (And.intro hkr7 hb7)
          simp only [oc] at hst7 hld7
          clear hko7 hc7 hkr7 hka7 hb7 hw7
          have hst := HZ.out.1.store (P := Tryd.prog) (cs' := ac 5 0 0 x1 7 x2 x3 0 0 0 0) rfl (ac_one 5 0 0 x1 7 x2 x3 0 0 0 0)
          have HE := Lib.hid (And.intro (HZ.out.1.set (ac 5 0 0 x1 7 x2 x3 0 0 0 0)) (below_setRow HZ.out.2 (Nat.le_refl _) (ac 5 0 0 x1 7 x2 x3 0 0 0 0).toArray))
          simp only [ac] at hst
          go_wp2_with fail
          refine bodyPost_ret (results_cell_row rfl _ _ w.heap.size 27 _ (0, 0) _ rfl HE.out.1 Tryd.underlying27 rfl (by kernel_rfl)) rfl ⟨5, 0, 0, x1, 7, x2, x3, 0, 0, 0, 0, rfl, (.inr (.inr (.inr (.inr (.inr (.inr (.inr (.inr (.inr (.inr (.inr (.inr (.inr (.inl ⟨HS.out, rfl, rfl, rfl, HN.out.1, rfl, HN.out.2.1, HN.out.2.2.1, rfl, rfl, rfl, rfl⟩)))))))))))))), HE.out.2⟩
        have k13 := hs
        clear hs
        by_cases hs : s = nmTop
        · have m0 := ba_ne (show s ≠ nmTick by rw [hs]; exact fun e => absurd (congrArg (fun b : ByteArray => b.data.toList) e) (by decide))
          rw [tlTick] at m0
          have m1 := ba_ne (show s ≠ nmStart by rw [hs]; exact fun e => absurd (congrArg (fun b : ByteArray => b.data.toList) e) (by decide))
          rw [tlStart] at m1
          have m2 := ba_ne (show s ≠ nmDeliver by rw [hs]; exact fun e => absurd (congrArg (fun b : ByteArray => b.data.toList) e) (by decide))
          rw [tlDeliver] at m2
          have m3 := ba_ne (show s ≠ nmDrop by rw [hs]; exact fun e => absurd (congrArg (fun b : ByteArray => b.data.toList) e) (by decide))
          rw [tlDrop] at m3
          have m4 := ba_ne (show s ≠ nmDouble by rw [hs]; exact fun e => absurd (congrArg (fun b : ByteArray => b.data.toList) e) (by decide))
          rw [tlDouble] at m4
          have m5 := ba_ne (show s ≠ nmRetry by rw [hs]; exact fun e => absurd (congrArg (fun b : ByteArray => b.data.toList) e) (by decide))
          rw [tlRetry] at m5
          have m6 := ba_ne (show s ≠ nmCrash by rw [hs]; exact fun e => absurd (congrArg (fun b : ByteArray => b.data.toList) e) (by decide))
          rw [tlCrash] at m6
          have m7 := ba_ne (show s ≠ nmAlloc by rw [hs]; exact fun e => absurd (congrArg (fun b : ByteArray => b.data.toList) e) (by decide))
          rw [tlAlloc] at m7
          have m8 := ba_ne (show s ≠ nmFree by rw [hs]; exact fun e => absurd (congrArg (fun b : ByteArray => b.data.toList) e) (by decide))
          rw [tlFree] at m8
          have m9 := ba_ne (show s ≠ nmWrite by rw [hs]; exact fun e => absurd (congrArg (fun b : ByteArray => b.data.toList) e) (by decide))
          rw [tlWrite] at m9
          have m10 := ba_ne (show s ≠ nmLink by rw [hs]; exact fun e => absurd (congrArg (fun b : ByteArray => b.data.toList) e) (by decide))
          rw [tlLink] at m10
          have m11 := ba_ne (show s ≠ nmRoot by rw [hs]; exact fun e => absurd (congrArg (fun b : ByteArray => b.data.toList) e) (by decide))
          rw [tlRoot] at m11
          have m12 := ba_ne (show s ≠ nmRead by rw [hs]; exact fun e => absurd (congrArg (fun b : ByteArray => b.data.toList) e) (by decide))
          rw [tlRead] at m12
          have m13 := ba_ne (show s ≠ nmFollow by rw [hs]; exact fun e => absurd (congrArg (fun b : ByteArray => b.data.toList) e) (by decide))
          rw [tlFollow] at m13
          have m14 : (s.toList == [116, 111, 112]) = true := by rw [hs, tlTop]; rfl
          have HS := Lib.hid hs
          clear hs
          have hst7 := HX.out.2.2.2.1.store (P := Tryd.prog) (cs' := oc 8 0 x2 0 0 0 0) rfl (oc_one 8 0 x2 0 0 0 0)
          have hko7 := HX.out.2.2.2.1.set (oc 8 0 x2 0 0 0 0)
          have hc7 : Chg (fun j => j = wr.heap.size) w6 (w6.setRow wr.heap.size (oc 8 0 x2 0 0 0 0).toArray) := Chg.setRow (S := fun j => j = wr.heap.size) (Chg.refl _ _) (.inr rfl) _
          have hkr7 := HX.out.2.1.chg hc7 (by have := HX.out.2.2.2.2.2; omega)
          have hka7 := HX.out.1.chg hc7 (by have := HX.out.2.2.2.2.2; omega)
          have hb7 := below_setRow HX.out.2.2.1 (show w.heap.size ≤ wr.heap.size by have := HX.out.2.2.2.2.2; omega) (oc 8 0 x2 0 0 0 0).toArray
          obtain ⟨w7, hw7⟩ : ∃ z, w6.setRow wr.heap.size (oc 8 0 x2 0 0 0 0).toArray = z := ⟨_, rfl⟩
          rw [hw7] at hst7 hko7 hkr7 hka7 hb7
          have c1 : w7.cell? ⟨w.heap.size + 1, 1, none⟩ = some (.int .i64 x1) := by rw [HN.out.1]; exact hka7.cell 1
          have hld7 := hko7.load (P := Tryd.prog) (k := 7) rfl
          have HZ := Lib.hid (And.intro hkr7 hb7)
          simp only [oc] at hst7 hld7
          clear hko7 hc7 hkr7 hka7 hb7 hw7
          have hst := HZ.out.1.store (P := Tryd.prog) (cs' := ac 5 0 0 x1 8 0 x2 0 0 0 0) rfl (ac_one 5 0 0 x1 8 0 x2 0 0 0 0)
          have HE := Lib.hid (And.intro (HZ.out.1.set (ac 5 0 0 x1 8 0 x2 0 0 0 0)) (below_setRow HZ.out.2 (Nat.le_refl _) (ac 5 0 0 x1 8 0 x2 0 0 0 0).toArray))
          simp only [ac] at hst
          go_wp2_with fail
          refine bodyPost_ret (results_cell_row rfl _ _ w.heap.size 27 _ (0, 0) _ rfl HE.out.1 Tryd.underlying27 rfl (by kernel_rfl)) rfl ⟨5, 0, 0, x1, 8, 0, x2, 0, 0, 0, 0, rfl, (.inr (.inr (.inr (.inr (.inr (.inr (.inr (.inr (.inr (.inr (.inr (.inr (.inr (.inr (.inl ⟨HS.out, rfl, rfl, rfl, HN.out.1, rfl, HN.out.2.1, rfl, rfl, rfl, rfl, rfl⟩))))))))))))))), HE.out.2⟩
        have k14 := hs
        clear hs
        have m0 := ba_ne k0
        rw [tlTick] at m0
        have m1 := ba_ne k1
        rw [tlStart] at m1
        have m2 := ba_ne k2
        rw [tlDeliver] at m2
        have m3 := ba_ne k3
        rw [tlDrop] at m3
        have m4 := ba_ne k4
        rw [tlDouble] at m4
        have m5 := ba_ne k5
        rw [tlRetry] at m5
        have m6 := ba_ne k6
        rw [tlCrash] at m6
        have m7 := ba_ne k7
        rw [tlAlloc] at m7
        have m8 := ba_ne k8
        rw [tlFree] at m8
        have m9 := ba_ne k9
        rw [tlWrite] at m9
        have m10 := ba_ne k10
        rw [tlLink] at m10
        have m11 := ba_ne k11
        rw [tlRoot] at m11
        have m12 := ba_ne k12
        rw [tlRead] at m12
        have m13 := ba_ne k13
        rw [tlFollow] at m13
        have m14 := ba_ne k14
        rw [tlTop] at m14
        have HNI := Lib.hid (show s ≠ nmTick ∧ s ≠ nmStart ∧ s ≠ nmDeliver ∧ s ≠ nmDrop ∧ s ≠ nmDouble ∧ s ≠ nmRetry ∧ s ≠ nmCrash ∧ s ≠ nmAlloc ∧ s ≠ nmFree ∧ s ≠ nmWrite ∧ s ≠ nmLink ∧ s ≠ nmRoot ∧ s ≠ nmRead ∧ s ≠ nmFollow ∧ s ≠ nmTop from ⟨k0, k1, k2, k3, k4, k5, k6, k7, k8, k9, k10, k11, k12, k13, k14⟩)
        clear k0 k1 k2 k3 k4 k5 k6 k7 k8 k9 k10 k11 k12 k13 k14
        have hst := HX.out.2.1.store (P := Tryd.prog) (cs' := ac 0 0 0 0 0 0 0 0 0 0 0) rfl (ac_one 0 0 0 0 0 0 0 0 0 0 0)
        have HE := Lib.hid (And.intro (HX.out.2.1.set (ac 0 0 0 0 0 0 0 0 0 0 0)) (below_setRow HX.out.2.2.1 (Nat.le_refl _) (ac 0 0 0 0 0 0 0 0 0 0 0).toArray))
        simp only [ac] at hst
        go_wp2_with fail
        refine bodyPost_ret (results_cell_row rfl _ _ w.heap.size 27 _ (0, 0) _ rfl HE.out.1 Tryd.underlying27 rfl (by kernel_rfl)) rfl ⟨0, 0, 0, 0, 0, 0, 0, 0, 0, 0, 0, rfl, (.inr (.inr (.inr (.inr (.inr (.inr (.inr (.inr (.inr (.inr (.inr (.inr (.inr (.inr (.inr (⟨HNI.out, rfl, rfl, rfl, rfl, rfl, rfl, rfl, rfl, rfl, rfl, rfl⟩)))))))))))))))), HE.out.2⟩
      · by_cases hs : s = nmTick
        · have m0 : (s.toList == [116, 105, 99, 107]) = true := by rw [hs, tlTick]; rfl
          have HS := Lib.hid hs
          clear hs
          have hst := HX.out.2.1.store (P := Tryd.prog) (cs' := ac 1 x1 0 0 0 0 0 0 0 0 0) rfl (ac_one 1 x1 0 0 0 0 0 0 0 0 0)
          have HE := Lib.hid (And.intro (HX.out.2.1.set (ac 1 x1 0 0 0 0 0 0 0 0 0)) (below_setRow HX.out.2.2.1 (Nat.le_refl _) (ac 1 x1 0 0 0 0 0 0 0 0 0).toArray))
          simp only [ac] at hst
          go_wp2_with fail
          refine bodyPost_ret (results_cell_row rfl _ _ w.heap.size 27 _ (0, 0) _ rfl HE.out.1 Tryd.underlying27 rfl (by kernel_rfl)) rfl ⟨1, x1, 0, 0, 0, 0, 0, 0, 0, 0, 0, rfl, (.inl ⟨HS.out, rfl, HN.out.1, rfl, rfl, rfl, rfl, rfl, rfl, rfl, rfl, rfl⟩), HE.out.2⟩
        have k0 := hs
        clear hs
        by_cases hs : s = nmStart
        · have m0 := ba_ne (show s ≠ nmTick by rw [hs]; exact fun e => absurd (congrArg (fun b : ByteArray => b.data.toList) e) (by decide))
          rw [tlTick] at m0
          have m1 : (s.toList == [115, 116, 97, 114, 116]) = true := by rw [hs, tlStart]; rfl
          have HS := Lib.hid hs
          clear hs
          have hst := HX.out.2.1.store (P := Tryd.prog) (cs' := ac 8 x1 0 0 0 0 0 0 0 0 0) rfl (ac_one 8 x1 0 0 0 0 0 0 0 0 0)
          have HE := Lib.hid (And.intro (HX.out.2.1.set (ac 8 x1 0 0 0 0 0 0 0 0 0)) (below_setRow HX.out.2.2.1 (Nat.le_refl _) (ac 8 x1 0 0 0 0 0 0 0 0 0).toArray))
          simp only [ac] at hst
          go_wp2_with fail
          refine bodyPost_ret (results_cell_row rfl _ _ w.heap.size 27 _ (0, 0) _ rfl HE.out.1 Tryd.underlying27 rfl (by kernel_rfl)) rfl ⟨8, x1, 0, 0, 0, 0, 0, 0, 0, 0, 0, rfl, (.inr (.inl ⟨HS.out, rfl, HN.out.1, rfl, rfl, rfl, rfl, rfl, rfl, rfl, rfl, rfl⟩)), HE.out.2⟩
        have k1 := hs
        clear hs
        by_cases hs : s = nmDeliver
        · have m0 := ba_ne (show s ≠ nmTick by rw [hs]; exact fun e => absurd (congrArg (fun b : ByteArray => b.data.toList) e) (by decide))
          rw [tlTick] at m0
          have m1 := ba_ne (show s ≠ nmStart by rw [hs]; exact fun e => absurd (congrArg (fun b : ByteArray => b.data.toList) e) (by decide))
          rw [tlStart] at m1
          have m2 : (s.toList == [100, 101, 108, 105, 118, 101, 114]) = true := by rw [hs, tlDeliver]; rfl
          have HS := Lib.hid hs
          clear hs
          have hst := HX.out.2.1.store (P := Tryd.prog) (cs' := ac 2 0 x1 0 0 0 0 0 0 0 0) rfl (ac_one 2 0 x1 0 0 0 0 0 0 0 0)
          have HE := Lib.hid (And.intro (HX.out.2.1.set (ac 2 0 x1 0 0 0 0 0 0 0 0)) (below_setRow HX.out.2.2.1 (Nat.le_refl _) (ac 2 0 x1 0 0 0 0 0 0 0 0).toArray))
          simp only [ac] at hst
          go_wp2_with fail
          refine bodyPost_ret (results_cell_row rfl _ _ w.heap.size 27 _ (0, 0) _ rfl HE.out.1 Tryd.underlying27 rfl (by kernel_rfl)) rfl ⟨2, 0, x1, 0, 0, 0, 0, 0, 0, 0, 0, rfl, (.inr (.inr (.inl ⟨HS.out, rfl, HN.out.1, rfl, rfl, rfl, rfl, rfl, rfl, rfl, rfl, rfl⟩))), HE.out.2⟩
        have k2 := hs
        clear hs
        by_cases hs : s = nmDrop
        · have m0 := ba_ne (show s ≠ nmTick by rw [hs]; exact fun e => absurd (congrArg (fun b : ByteArray => b.data.toList) e) (by decide))
          rw [tlTick] at m0
          have m1 := ba_ne (show s ≠ nmStart by rw [hs]; exact fun e => absurd (congrArg (fun b : ByteArray => b.data.toList) e) (by decide))
          rw [tlStart] at m1
          have m2 := ba_ne (show s ≠ nmDeliver by rw [hs]; exact fun e => absurd (congrArg (fun b : ByteArray => b.data.toList) e) (by decide))
          rw [tlDeliver] at m2
          have m3 : (s.toList == [100, 114, 111, 112]) = true := by rw [hs, tlDrop]; rfl
          have HS := Lib.hid hs
          clear hs
          have hst := HX.out.2.1.store (P := Tryd.prog) (cs' := ac 3 0 x1 0 0 0 0 0 0 0 0) rfl (ac_one 3 0 x1 0 0 0 0 0 0 0 0)
          have HE := Lib.hid (And.intro (HX.out.2.1.set (ac 3 0 x1 0 0 0 0 0 0 0 0)) (below_setRow HX.out.2.2.1 (Nat.le_refl _) (ac 3 0 x1 0 0 0 0 0 0 0 0).toArray))
          simp only [ac] at hst
          go_wp2_with fail
          refine bodyPost_ret (results_cell_row rfl _ _ w.heap.size 27 _ (0, 0) _ rfl HE.out.1 Tryd.underlying27 rfl (by kernel_rfl)) rfl ⟨3, 0, x1, 0, 0, 0, 0, 0, 0, 0, 0, rfl, (.inr (.inr (.inr (.inl ⟨HS.out, rfl, HN.out.1, rfl, rfl, rfl, rfl, rfl, rfl, rfl, rfl, rfl⟩)))), HE.out.2⟩
        have k3 := hs
        clear hs
        by_cases hs : s = nmDouble
        · have m0 := ba_ne (show s ≠ nmTick by rw [hs]; exact fun e => absurd (congrArg (fun b : ByteArray => b.data.toList) e) (by decide))
          rw [tlTick] at m0
          have m1 := ba_ne (show s ≠ nmStart by rw [hs]; exact fun e => absurd (congrArg (fun b : ByteArray => b.data.toList) e) (by decide))
          rw [tlStart] at m1
          have m2 := ba_ne (show s ≠ nmDeliver by rw [hs]; exact fun e => absurd (congrArg (fun b : ByteArray => b.data.toList) e) (by decide))
          rw [tlDeliver] at m2
          have m3 := ba_ne (show s ≠ nmDrop by rw [hs]; exact fun e => absurd (congrArg (fun b : ByteArray => b.data.toList) e) (by decide))
          rw [tlDrop] at m3
          have m4 : (s.toList == [100, 111, 117, 98, 108, 101]) = true := by rw [hs, tlDouble]; rfl
          have HS := Lib.hid hs
          clear hs
          have hst := HX.out.2.1.store (P := Tryd.prog) (cs' := ac 4 0 x1 0 0 0 0 0 0 0 0) rfl (ac_one 4 0 x1 0 0 0 0 0 0 0 0)
          have HE := Lib.hid (And.intro (HX.out.2.1.set (ac 4 0 x1 0 0 0 0 0 0 0 0)) (below_setRow HX.out.2.2.1 (Nat.le_refl _) (ac 4 0 x1 0 0 0 0 0 0 0 0).toArray))
          simp only [ac] at hst
          go_wp2_with fail
          refine bodyPost_ret (results_cell_row rfl _ _ w.heap.size 27 _ (0, 0) _ rfl HE.out.1 Tryd.underlying27 rfl (by kernel_rfl)) rfl ⟨4, 0, x1, 0, 0, 0, 0, 0, 0, 0, 0, rfl, (.inr (.inr (.inr (.inr (.inl ⟨HS.out, rfl, HN.out.1, rfl, rfl, rfl, rfl, rfl, rfl, rfl, rfl, rfl⟩))))), HE.out.2⟩
        have k4 := hs
        clear hs
        by_cases hs : s = nmRetry
        · have m0 := ba_ne (show s ≠ nmTick by rw [hs]; exact fun e => absurd (congrArg (fun b : ByteArray => b.data.toList) e) (by decide))
          rw [tlTick] at m0
          have m1 := ba_ne (show s ≠ nmStart by rw [hs]; exact fun e => absurd (congrArg (fun b : ByteArray => b.data.toList) e) (by decide))
          rw [tlStart] at m1
          have m2 := ba_ne (show s ≠ nmDeliver by rw [hs]; exact fun e => absurd (congrArg (fun b : ByteArray => b.data.toList) e) (by decide))
          rw [tlDeliver] at m2
          have m3 := ba_ne (show s ≠ nmDrop by rw [hs]; exact fun e => absurd (congrArg (fun b : ByteArray => b.data.toList) e) (by decide))
          rw [tlDrop] at m3
          have m4 := ba_ne (show s ≠ nmDouble by rw [hs]; exact fun e => absurd (congrArg (fun b : ByteArray => b.data.toList) e) (by decide))
          rw [tlDouble] at m4
          have m5 : (s.toList == [114, 101, 116, 114, 121]) = true := by rw [hs, tlRetry]; rfl
          have HS := Lib.hid hs
          clear hs
          have hst := HX.out.2.1.store (P := Tryd.prog) (cs' := ac 6 0 0 x1 0 0 0 0 0 0 0) rfl (ac_one 6 0 0 x1 0 0 0 0 0 0 0)
          have HE := Lib.hid (And.intro (HX.out.2.1.set (ac 6 0 0 x1 0 0 0 0 0 0 0)) (below_setRow HX.out.2.2.1 (Nat.le_refl _) (ac 6 0 0 x1 0 0 0 0 0 0 0).toArray))
          simp only [ac] at hst
          go_wp2_with fail
          refine bodyPost_ret (results_cell_row rfl _ _ w.heap.size 27 _ (0, 0) _ rfl HE.out.1 Tryd.underlying27 rfl (by kernel_rfl)) rfl ⟨6, 0, 0, x1, 0, 0, 0, 0, 0, 0, 0, rfl, (.inr (.inr (.inr (.inr (.inr (.inl ⟨HS.out, rfl, HN.out.1, rfl, rfl, rfl, rfl, rfl, rfl, rfl, rfl, rfl⟩)))))), HE.out.2⟩
        have k5 := hs
        clear hs
        by_cases hs : s = nmCrash
        · have m0 := ba_ne (show s ≠ nmTick by rw [hs]; exact fun e => absurd (congrArg (fun b : ByteArray => b.data.toList) e) (by decide))
          rw [tlTick] at m0
          have m1 := ba_ne (show s ≠ nmStart by rw [hs]; exact fun e => absurd (congrArg (fun b : ByteArray => b.data.toList) e) (by decide))
          rw [tlStart] at m1
          have m2 := ba_ne (show s ≠ nmDeliver by rw [hs]; exact fun e => absurd (congrArg (fun b : ByteArray => b.data.toList) e) (by decide))
          rw [tlDeliver] at m2
          have m3 := ba_ne (show s ≠ nmDrop by rw [hs]; exact fun e => absurd (congrArg (fun b : ByteArray => b.data.toList) e) (by decide))
          rw [tlDrop] at m3
          have m4 := ba_ne (show s ≠ nmDouble by rw [hs]; exact fun e => absurd (congrArg (fun b : ByteArray => b.data.toList) e) (by decide))
          rw [tlDouble] at m4
          have m5 := ba_ne (show s ≠ nmRetry by rw [hs]; exact fun e => absurd (congrArg (fun b : ByteArray => b.data.toList) e) (by decide))
          rw [tlRetry] at m5
          have m6 : (s.toList == [99, 114, 97, 115, 104]) = true := by rw [hs, tlCrash]; rfl
          have HS := Lib.hid hs
          clear hs
          by_cases h2 : 2 < m
          · have g2m : (2 : Int) < (m : Int) := by omega
            have h2w : 2 < ws.length := by rw [H.out.2.1]; exact h2
            have qn : w6.cell? ⟨b, off + 2, none⟩ = some (.string (ws[2]'h2w)) := HX.out.2.2.2.2.1 2 h2w
            have hw2 : ws[2]? = some (ws[2]'h2w) := List.getElem?_eq_getElem h2w
            generalize ws[2]'h2w = y at *
            by_cases hnow : y = nmNow
            · have mn : (y.toList == [110, 111, 119]) = true := by rw [hnow, tlNow]; rfl
              have hc7 : Chg (fun j => j = w.heap.size + 1) w6 (w6.setCell ⟨w.heap.size + 1, 2, none⟩ (.int .i64 (-1))) := (Chg.refl (fun j => j = w.heap.size + 1) w6).setCell (.inr rfl) 2 _
              have hkr7 := HX.out.2.1.chg hc7 (by omega)
              have hka7 := HX.out.1.setCell 2 (.int .i64 (-1))
              have hb7 := HX.out.2.2.1.setCell (p := ⟨w.heap.size + 1, 2, none⟩) (Nat.le_succ _) (.int .i64 (-1))
              obtain ⟨w7, hw7⟩ : ∃ z, w6.setCell ⟨w.heap.size + 1, 2, none⟩ (.int .i64 (-1)) = z := ⟨_, rfl⟩
              rw [hw7] at hkr7 hka7 hb7
              have c1 : w7.cell? ⟨w.heap.size + 1, 1, none⟩ = some (.int .i64 x1) := by rw [HN.out.1]; exact hka7.cell 1
              have c2 : w7.cell? ⟨w.heap.size + 1, 2, none⟩ = some (.int .i64 (-1)) := hka7.cell 2
              have HZ := Lib.hid (And.intro hkr7 hb7)
              have HCR := Lib.hid (show CrashN ws (-1) from .inl ⟨by rw [hw2, hnow], rfl⟩)
              clear hc7 hkr7 hka7 hb7 hnow hw2 h2w
              have hst := HZ.out.1.store (P := Tryd.prog) (cs' := ac 7 x1 (-1) 0 0 0 0 0 0 0 0) rfl (ac_one 7 x1 (-1) 0 0 0 0 0 0 0 0)
              have HE := Lib.hid (And.intro (HZ.out.1.set (ac 7 x1 (-1) 0 0 0 0 0 0 0 0)) (below_setRow HZ.out.2 (Nat.le_refl _) (ac 7 x1 (-1) 0 0 0 0 0 0 0 0).toArray))
              simp only [ac] at hst
              go_wp2_with fail
              refine bodyPost_ret (results_cell_row rfl _ _ w.heap.size 27 _ (0, 0) _ rfl HE.out.1 Tryd.underlying27 rfl (by kernel_rfl)) rfl ⟨7, x1, (-1), 0, 0, 0, 0, 0, 0, 0, 0, rfl, (.inr (.inr (.inr (.inr (.inr (.inr (.inl ⟨HS.out, rfl, HN.out.1, HCR.out, rfl, rfl, rfl, rfl, rfl, rfl, rfl, rfl⟩))))))), HE.out.2⟩
            · have mn := ba_ne hnow
              rw [tlNow] at mn
              have HCR := Lib.hid (show CrashN ws x2 from .inr ⟨by rw [hw2]; exact fun e => hnow (Option.some.inj e), HN.out.2.1⟩)
              clear hnow hw2 h2w
              have hst := HX.out.2.1.store (P := Tryd.prog) (cs' := ac 7 x1 x2 0 0 0 0 0 0 0 0) rfl (ac_one 7 x1 x2 0 0 0 0 0 0 0 0)
              have HE := Lib.hid (And.intro (HX.out.2.1.set (ac 7 x1 x2 0 0 0 0 0 0 0 0)) (below_setRow HX.out.2.2.1 (Nat.le_refl _) (ac 7 x1 x2 0 0 0 0 0 0 0 0).toArray))
              simp only [ac] at hst
              go_wp2_with fail
              refine bodyPost_ret (results_cell_row rfl _ _ w.heap.size 27 _ (0, 0) _ rfl HE.out.1 Tryd.underlying27 rfl (by kernel_rfl)) rfl ⟨7, x1, x2, 0, 0, 0, 0, 0, 0, 0, 0, rfl, (.inr (.inr (.inr (.inr (.inr (.inr (.inl ⟨HS.out, rfl, HN.out.1, HCR.out, rfl, rfl, rfl, rfl, rfl, rfl, rfl, rfl⟩))))))), HE.out.2⟩
          · exact absurd ge1 (by omega)
        have k6 := hs
        clear hs
        by_cases hs : s = nmAlloc
        · have m0 := ba_ne (show s ≠ nmTick by rw [hs]; exact fun e => absurd (congrArg (fun b : ByteArray => b.data.toList) e) (by decide))
          rw [tlTick] at m0
          have m1 := ba_ne (show s ≠ nmStart by rw [hs]; exact fun e => absurd (congrArg (fun b : ByteArray => b.data.toList) e) (by decide))
          rw [tlStart] at m1
          have m2 := ba_ne (show s ≠ nmDeliver by rw [hs]; exact fun e => absurd (congrArg (fun b : ByteArray => b.data.toList) e) (by decide))
          rw [tlDeliver] at m2
          have m3 := ba_ne (show s ≠ nmDrop by rw [hs]; exact fun e => absurd (congrArg (fun b : ByteArray => b.data.toList) e) (by decide))
          rw [tlDrop] at m3
          have m4 := ba_ne (show s ≠ nmDouble by rw [hs]; exact fun e => absurd (congrArg (fun b : ByteArray => b.data.toList) e) (by decide))
          rw [tlDouble] at m4
          have m5 := ba_ne (show s ≠ nmRetry by rw [hs]; exact fun e => absurd (congrArg (fun b : ByteArray => b.data.toList) e) (by decide))
          rw [tlRetry] at m5
          have m6 := ba_ne (show s ≠ nmCrash by rw [hs]; exact fun e => absurd (congrArg (fun b : ByteArray => b.data.toList) e) (by decide))
          rw [tlCrash] at m6
          have m7 : (s.toList == [97, 108, 108, 111, 99]) = true := by rw [hs, tlAlloc]; rfl
          have HS := Lib.hid hs
          clear hs
          have hst7 := HX.out.2.2.2.1.store (P := Tryd.prog) (cs' := oc 1 0 0 x2 x3 0 0) rfl (oc_one 1 0 0 x2 x3 0 0)
          have hko7 := HX.out.2.2.2.1.set (oc 1 0 0 x2 x3 0 0)
          have hc7 : Chg (fun j => j = wr.heap.size) w6 (w6.setRow wr.heap.size (oc 1 0 0 x2 x3 0 0).toArray) := Chg.setRow (S := fun j => j = wr.heap.size) (Chg.refl _ _) (.inr rfl) _
          have hkr7 := HX.out.2.1.chg hc7 (by have := HX.out.2.2.2.2.2; omega)
          have hka7 := HX.out.1.chg hc7 (by have := HX.out.2.2.2.2.2; omega)
          have hb7 := below_setRow HX.out.2.2.1 (show w.heap.size ≤ wr.heap.size by have := HX.out.2.2.2.2.2; omega) (oc 1 0 0 x2 x3 0 0).toArray
          obtain ⟨w7, hw7⟩ : ∃ z, w6.setRow wr.heap.size (oc 1 0 0 x2 x3 0 0).toArray = z := ⟨_, rfl⟩
          rw [hw7] at hst7 hko7 hkr7 hka7 hb7
          have c1 : w7.cell? ⟨w.heap.size + 1, 1, none⟩ = some (.int .i64 x1) := by rw [HN.out.1]; exact hka7.cell 1
          have hld7 := hko7.load (P := Tryd.prog) (k := 7) rfl
          have HZ := Lib.hid (And.intro hkr7 hb7)
          simp only [oc] at hst7 hld7
          clear hko7 hc7 hkr7 hka7 hb7 hw7
          have hst := HZ.out.1.store (P := Tryd.prog) (cs' := ac 5 0 0 x1 1 0 0 x2 x3 0 0) rfl (ac_one 5 0 0 x1 1 0 0 x2 x3 0 0)
          have HE := Lib.hid (And.intro (HZ.out.1.set (ac 5 0 0 x1 1 0 0 x2 x3 0 0)) (below_setRow HZ.out.2 (Nat.le_refl _) (ac 5 0 0 x1 1 0 0 x2 x3 0 0).toArray))
          simp only [ac] at hst
          go_wp2_with fail
          refine bodyPost_ret (results_cell_row rfl _ _ w.heap.size 27 _ (0, 0) _ rfl HE.out.1 Tryd.underlying27 rfl (by kernel_rfl)) rfl ⟨5, 0, 0, x1, 1, 0, 0, x2, x3, 0, 0, rfl, (.inr (.inr (.inr (.inr (.inr (.inr (.inr (.inl ⟨HS.out, rfl, rfl, rfl, HN.out.1, rfl, HN.out.2.1, HN.out.2.2.1, rfl, rfl, rfl, rfl⟩)))))))), HE.out.2⟩
        have k7 := hs
        clear hs
        by_cases hs : s = nmFree
        · have m0 := ba_ne (show s ≠ nmTick by rw [hs]; exact fun e => absurd (congrArg (fun b : ByteArray => b.data.toList) e) (by decide))
          rw [tlTick] at m0
          have m1 := ba_ne (show s ≠ nmStart by rw [hs]; exact fun e => absurd (congrArg (fun b : ByteArray => b.data.toList) e) (by decide))
          rw [tlStart] at m1
          have m2 := ba_ne (show s ≠ nmDeliver by rw [hs]; exact fun e => absurd (congrArg (fun b : ByteArray => b.data.toList) e) (by decide))
          rw [tlDeliver] at m2
          have m3 := ba_ne (show s ≠ nmDrop by rw [hs]; exact fun e => absurd (congrArg (fun b : ByteArray => b.data.toList) e) (by decide))
          rw [tlDrop] at m3
          have m4 := ba_ne (show s ≠ nmDouble by rw [hs]; exact fun e => absurd (congrArg (fun b : ByteArray => b.data.toList) e) (by decide))
          rw [tlDouble] at m4
          have m5 := ba_ne (show s ≠ nmRetry by rw [hs]; exact fun e => absurd (congrArg (fun b : ByteArray => b.data.toList) e) (by decide))
          rw [tlRetry] at m5
          have m6 := ba_ne (show s ≠ nmCrash by rw [hs]; exact fun e => absurd (congrArg (fun b : ByteArray => b.data.toList) e) (by decide))
          rw [tlCrash] at m6
          have m7 := ba_ne (show s ≠ nmAlloc by rw [hs]; exact fun e => absurd (congrArg (fun b : ByteArray => b.data.toList) e) (by decide))
          rw [tlAlloc] at m7
          have m8 : (s.toList == [102, 114, 101, 101]) = true := by rw [hs, tlFree]; rfl
          have HS := Lib.hid hs
          clear hs
          have hst7 := HX.out.2.2.2.1.store (P := Tryd.prog) (cs' := oc 2 x2 0 0 0 0 0) rfl (oc_one 2 x2 0 0 0 0 0)
          have hko7 := HX.out.2.2.2.1.set (oc 2 x2 0 0 0 0 0)
          have hc7 : Chg (fun j => j = wr.heap.size) w6 (w6.setRow wr.heap.size (oc 2 x2 0 0 0 0 0).toArray) := Chg.setRow (S := fun j => j = wr.heap.size) (Chg.refl _ _) (.inr rfl) _
          have hkr7 := HX.out.2.1.chg hc7 (by have := HX.out.2.2.2.2.2; omega)
          have hka7 := HX.out.1.chg hc7 (by have := HX.out.2.2.2.2.2; omega)
          have hb7 := below_setRow HX.out.2.2.1 (show w.heap.size ≤ wr.heap.size by have := HX.out.2.2.2.2.2; omega) (oc 2 x2 0 0 0 0 0).toArray
          obtain ⟨w7, hw7⟩ : ∃ z, w6.setRow wr.heap.size (oc 2 x2 0 0 0 0 0).toArray = z := ⟨_, rfl⟩
          rw [hw7] at hst7 hko7 hkr7 hka7 hb7
          have c1 : w7.cell? ⟨w.heap.size + 1, 1, none⟩ = some (.int .i64 x1) := by rw [HN.out.1]; exact hka7.cell 1
          have hld7 := hko7.load (P := Tryd.prog) (k := 7) rfl
          have HZ := Lib.hid (And.intro hkr7 hb7)
          simp only [oc] at hst7 hld7
          clear hko7 hc7 hkr7 hka7 hb7 hw7
          have hst := HZ.out.1.store (P := Tryd.prog) (cs' := ac 5 0 0 x1 2 x2 0 0 0 0 0) rfl (ac_one 5 0 0 x1 2 x2 0 0 0 0 0)
          have HE := Lib.hid (And.intro (HZ.out.1.set (ac 5 0 0 x1 2 x2 0 0 0 0 0)) (below_setRow HZ.out.2 (Nat.le_refl _) (ac 5 0 0 x1 2 x2 0 0 0 0 0).toArray))
          simp only [ac] at hst
          go_wp2_with fail
          refine bodyPost_ret (results_cell_row rfl _ _ w.heap.size 27 _ (0, 0) _ rfl HE.out.1 Tryd.underlying27 rfl (by kernel_rfl)) rfl ⟨5, 0, 0, x1, 2, x2, 0, 0, 0, 0, 0, rfl, (.inr (.inr (.inr (.inr (.inr (.inr (.inr (.inr (.inl ⟨HS.out, rfl, rfl, rfl, HN.out.1, rfl, HN.out.2.1, rfl, rfl, rfl, rfl, rfl⟩))))))))), HE.out.2⟩
        have k8 := hs
        clear hs
        by_cases hs : s = nmWrite
        · have m0 := ba_ne (show s ≠ nmTick by rw [hs]; exact fun e => absurd (congrArg (fun b : ByteArray => b.data.toList) e) (by decide))
          rw [tlTick] at m0
          have m1 := ba_ne (show s ≠ nmStart by rw [hs]; exact fun e => absurd (congrArg (fun b : ByteArray => b.data.toList) e) (by decide))
          rw [tlStart] at m1
          have m2 := ba_ne (show s ≠ nmDeliver by rw [hs]; exact fun e => absurd (congrArg (fun b : ByteArray => b.data.toList) e) (by decide))
          rw [tlDeliver] at m2
          have m3 := ba_ne (show s ≠ nmDrop by rw [hs]; exact fun e => absurd (congrArg (fun b : ByteArray => b.data.toList) e) (by decide))
          rw [tlDrop] at m3
          have m4 := ba_ne (show s ≠ nmDouble by rw [hs]; exact fun e => absurd (congrArg (fun b : ByteArray => b.data.toList) e) (by decide))
          rw [tlDouble] at m4
          have m5 := ba_ne (show s ≠ nmRetry by rw [hs]; exact fun e => absurd (congrArg (fun b : ByteArray => b.data.toList) e) (by decide))
          rw [tlRetry] at m5
          have m6 := ba_ne (show s ≠ nmCrash by rw [hs]; exact fun e => absurd (congrArg (fun b : ByteArray => b.data.toList) e) (by decide))
          rw [tlCrash] at m6
          have m7 := ba_ne (show s ≠ nmAlloc by rw [hs]; exact fun e => absurd (congrArg (fun b : ByteArray => b.data.toList) e) (by decide))
          rw [tlAlloc] at m7
          have m8 := ba_ne (show s ≠ nmFree by rw [hs]; exact fun e => absurd (congrArg (fun b : ByteArray => b.data.toList) e) (by decide))
          rw [tlFree] at m8
          have m9 : (s.toList == [119, 114, 105, 116, 101]) = true := by rw [hs, tlWrite]; rfl
          have HS := Lib.hid hs
          clear hs
          have hst7 := HX.out.2.2.2.1.store (P := Tryd.prog) (cs' := oc 3 x2 x3 0 0 x4 0) rfl (oc_one 3 x2 x3 0 0 x4 0)
          have hko7 := HX.out.2.2.2.1.set (oc 3 x2 x3 0 0 x4 0)
          have hc7 : Chg (fun j => j = wr.heap.size) w6 (w6.setRow wr.heap.size (oc 3 x2 x3 0 0 x4 0).toArray) := Chg.setRow (S := fun j => j = wr.heap.size) (Chg.refl _ _) (.inr rfl) _
          have hkr7 := HX.out.2.1.chg hc7 (by have := HX.out.2.2.2.2.2; omega)
          have hka7 := HX.out.1.chg hc7 (by have := HX.out.2.2.2.2.2; omega)
          have hb7 := below_setRow HX.out.2.2.1 (show w.heap.size ≤ wr.heap.size by have := HX.out.2.2.2.2.2; omega) (oc 3 x2 x3 0 0 x4 0).toArray
          obtain ⟨w7, hw7⟩ : ∃ z, w6.setRow wr.heap.size (oc 3 x2 x3 0 0 x4 0).toArray = z := ⟨_, rfl⟩
          rw [hw7] at hst7 hko7 hkr7 hka7 hb7
          have c1 : w7.cell? ⟨w.heap.size + 1, 1, none⟩ = some (.int .i64 x1) := by rw [HN.out.1]; exact hka7.cell 1
          have hld7 := hko7.load (P := Tryd.prog) (k := 7) rfl
          have HZ := Lib.hid (And.intro hkr7 hb7)
          simp only [oc] at hst7 hld7
          clear hko7 hc7 hkr7 hka7 hb7 hw7
          have hst := HZ.out.1.store (P := Tryd.prog) (cs' := ac 5 0 0 x1 3 x2 x3 0 0 x4 0) rfl (ac_one 5 0 0 x1 3 x2 x3 0 0 x4 0)
          have HE := Lib.hid (And.intro (HZ.out.1.set (ac 5 0 0 x1 3 x2 x3 0 0 x4 0)) (below_setRow HZ.out.2 (Nat.le_refl _) (ac 5 0 0 x1 3 x2 x3 0 0 x4 0).toArray))
          simp only [ac] at hst
          go_wp2_with fail
          refine bodyPost_ret (results_cell_row rfl _ _ w.heap.size 27 _ (0, 0) _ rfl HE.out.1 Tryd.underlying27 rfl (by kernel_rfl)) rfl ⟨5, 0, 0, x1, 3, x2, x3, 0, 0, x4, 0, rfl, (.inr (.inr (.inr (.inr (.inr (.inr (.inr (.inr (.inr (.inl ⟨HS.out, rfl, rfl, rfl, HN.out.1, rfl, HN.out.2.1, HN.out.2.2.1, HN.out.2.2.2, rfl, rfl, rfl⟩)))))))))), HE.out.2⟩
        have k9 := hs
        clear hs
        by_cases hs : s = nmLink
        · have m0 := ba_ne (show s ≠ nmTick by rw [hs]; exact fun e => absurd (congrArg (fun b : ByteArray => b.data.toList) e) (by decide))
          rw [tlTick] at m0
          have m1 := ba_ne (show s ≠ nmStart by rw [hs]; exact fun e => absurd (congrArg (fun b : ByteArray => b.data.toList) e) (by decide))
          rw [tlStart] at m1
          have m2 := ba_ne (show s ≠ nmDeliver by rw [hs]; exact fun e => absurd (congrArg (fun b : ByteArray => b.data.toList) e) (by decide))
          rw [tlDeliver] at m2
          have m3 := ba_ne (show s ≠ nmDrop by rw [hs]; exact fun e => absurd (congrArg (fun b : ByteArray => b.data.toList) e) (by decide))
          rw [tlDrop] at m3
          have m4 := ba_ne (show s ≠ nmDouble by rw [hs]; exact fun e => absurd (congrArg (fun b : ByteArray => b.data.toList) e) (by decide))
          rw [tlDouble] at m4
          have m5 := ba_ne (show s ≠ nmRetry by rw [hs]; exact fun e => absurd (congrArg (fun b : ByteArray => b.data.toList) e) (by decide))
          rw [tlRetry] at m5
          have m6 := ba_ne (show s ≠ nmCrash by rw [hs]; exact fun e => absurd (congrArg (fun b : ByteArray => b.data.toList) e) (by decide))
          rw [tlCrash] at m6
          have m7 := ba_ne (show s ≠ nmAlloc by rw [hs]; exact fun e => absurd (congrArg (fun b : ByteArray => b.data.toList) e) (by decide))
          rw [tlAlloc] at m7
          have m8 := ba_ne (show s ≠ nmFree by rw [hs]; exact fun e => absurd (congrArg (fun b : ByteArray => b.data.toList) e) (by decide))
          rw [tlFree] at m8
          have m9 := ba_ne (show s ≠ nmWrite by rw [hs]; exact fun e => absurd (congrArg (fun b : ByteArray => b.data.toList) e) (by decide))
          rw [tlWrite] at m9
          have m10 : (s.toList == [108, 105, 110, 107]) = true := by rw [hs, tlLink]; rfl
          have HS := Lib.hid hs
          clear hs
          have hst7 := HX.out.2.2.2.1.store (P := Tryd.prog) (cs' := oc 4 x2 x3 0 0 0 x4) rfl (oc_one 4 x2 x3 0 0 0 x4)
          have hko7 := HX.out.2.2.2.1.set (oc 4 x2 x3 0 0 0 x4)
          have hc7 : Chg (fun j => j = wr.heap.size) w6 (w6.setRow wr.heap.size (oc 4 x2 x3 0 0 0 x4).toArray) := Chg.setRow (S := fun j => j = wr.heap.size) (Chg.refl _ _) (.inr rfl) _
          have hkr7 := HX.out.2.1.chg hc7 (by have := HX.out.2.2.2.2.2; omega)
          have hka7 := HX.out.1.chg hc7 (by have := HX.out.2.2.2.2.2; omega)
          have hb7 := below_setRow HX.out.2.2.1 (show w.heap.size ≤ wr.heap.size by have := HX.out.2.2.2.2.2; omega) (oc 4 x2 x3 0 0 0 x4).toArray
          obtain ⟨w7, hw7⟩ : ∃ z, w6.setRow wr.heap.size (oc 4 x2 x3 0 0 0 x4).toArray = z := ⟨_, rfl⟩
          rw [hw7] at hst7 hko7 hkr7 hka7 hb7
          have c1 : w7.cell? ⟨w.heap.size + 1, 1, none⟩ = some (.int .i64 x1) := by rw [HN.out.1]; exact hka7.cell 1
          have hld7 := hko7.load (P := Tryd.prog) (k := 7) rfl
          have HZ := Lib.hid (And.intro hkr7 hb7)
          simp only [oc] at hst7 hld7
          clear hko7 hc7 hkr7 hka7 hb7 hw7
          have hst := HZ.out.1.store (P := Tryd.prog) (cs' := ac 5 0 0 x1 4 x2 x3 0 0 0 x4) rfl (ac_one 5 0 0 x1 4 x2 x3 0 0 0 x4)
          have HE := Lib.hid (And.intro (HZ.out.1.set (ac 5 0 0 x1 4 x2 x3 0 0 0 x4)) (below_setRow HZ.out.2 (Nat.le_refl _) (ac 5 0 0 x1 4 x2 x3 0 0 0 x4).toArray))
          simp only [ac] at hst
          go_wp2_with fail
          refine bodyPost_ret (results_cell_row rfl _ _ w.heap.size 27 _ (0, 0) _ rfl HE.out.1 Tryd.underlying27 rfl (by kernel_rfl)) rfl ⟨5, 0, 0, x1, 4, x2, x3, 0, 0, 0, x4, rfl, (.inr (.inr (.inr (.inr (.inr (.inr (.inr (.inr (.inr (.inr (.inl ⟨HS.out, rfl, rfl, rfl, HN.out.1, rfl, HN.out.2.1, HN.out.2.2.1, HN.out.2.2.2, rfl, rfl, rfl⟩))))))))))), HE.out.2⟩
        have k10 := hs
        clear hs
        by_cases hs : s = nmRoot
        · have m0 := ba_ne (show s ≠ nmTick by rw [hs]; exact fun e => absurd (congrArg (fun b : ByteArray => b.data.toList) e) (by decide))
          rw [tlTick] at m0
          have m1 := ba_ne (show s ≠ nmStart by rw [hs]; exact fun e => absurd (congrArg (fun b : ByteArray => b.data.toList) e) (by decide))
          rw [tlStart] at m1
          have m2 := ba_ne (show s ≠ nmDeliver by rw [hs]; exact fun e => absurd (congrArg (fun b : ByteArray => b.data.toList) e) (by decide))
          rw [tlDeliver] at m2
          have m3 := ba_ne (show s ≠ nmDrop by rw [hs]; exact fun e => absurd (congrArg (fun b : ByteArray => b.data.toList) e) (by decide))
          rw [tlDrop] at m3
          have m4 := ba_ne (show s ≠ nmDouble by rw [hs]; exact fun e => absurd (congrArg (fun b : ByteArray => b.data.toList) e) (by decide))
          rw [tlDouble] at m4
          have m5 := ba_ne (show s ≠ nmRetry by rw [hs]; exact fun e => absurd (congrArg (fun b : ByteArray => b.data.toList) e) (by decide))
          rw [tlRetry] at m5
          have m6 := ba_ne (show s ≠ nmCrash by rw [hs]; exact fun e => absurd (congrArg (fun b : ByteArray => b.data.toList) e) (by decide))
          rw [tlCrash] at m6
          have m7 := ba_ne (show s ≠ nmAlloc by rw [hs]; exact fun e => absurd (congrArg (fun b : ByteArray => b.data.toList) e) (by decide))
          rw [tlAlloc] at m7
          have m8 := ba_ne (show s ≠ nmFree by rw [hs]; exact fun e => absurd (congrArg (fun b : ByteArray => b.data.toList) e) (by decide))
          rw [tlFree] at m8
          have m9 := ba_ne (show s ≠ nmWrite by rw [hs]; exact fun e => absurd (congrArg (fun b : ByteArray => b.data.toList) e) (by decide))
          rw [tlWrite] at m9
          have m10 := ba_ne (show s ≠ nmLink by rw [hs]; exact fun e => absurd (congrArg (fun b : ByteArray => b.data.toList) e) (by decide))
          rw [tlLink] at m10
          have m11 : (s.toList == [114, 111, 111, 116]) = true := by rw [hs, tlRoot]; rfl
          have HS := Lib.hid hs
          clear hs
          have hst7 := HX.out.2.2.2.1.store (P := Tryd.prog) (cs' := oc 5 0 x2 0 0 0 x3) rfl (oc_one 5 0 x2 0 0 0 x3)
          have hko7 := HX.out.2.2.2.1.set (oc 5 0 x2 0 0 0 x3)
          have hc7 : Chg (fun j => j = wr.heap.size) w6 (w6.setRow wr.heap.size (oc 5 0 x2 0 0 0 x3).toArray) := Chg.setRow (S := fun j => j = wr.heap.size) (Chg.refl _ _) (.inr rfl) _
          have hkr7 := HX.out.2.1.chg hc7 (by have := HX.out.2.2.2.2.2; omega)
          have hka7 := HX.out.1.chg hc7 (by have := HX.out.2.2.2.2.2; omega)
          have hb7 := below_setRow HX.out.2.2.1 (show w.heap.size ≤ wr.heap.size by have := HX.out.2.2.2.2.2; omega) (oc 5 0 x2 0 0 0 x3).toArray
          obtain ⟨w7, hw7⟩ : ∃ z, w6.setRow wr.heap.size (oc 5 0 x2 0 0 0 x3).toArray = z := ⟨_, rfl⟩
          rw [hw7] at hst7 hko7 hkr7 hka7 hb7
          have c1 : w7.cell? ⟨w.heap.size + 1, 1, none⟩ = some (.int .i64 x1) := by rw [HN.out.1]; exact hka7.cell 1
          have hld7 := hko7.load (P := Tryd.prog) (k := 7) rfl
          have HZ := Lib.hid (And.intro hkr7 hb7)
          simp only [oc] at hst7 hld7
          clear hko7 hc7 hkr7 hka7 hb7 hw7
          have hst := HZ.out.1.store (P := Tryd.prog) (cs' := ac 5 0 0 x1 5 0 x2 0 0 0 x3) rfl (ac_one 5 0 0 x1 5 0 x2 0 0 0 x3)
          have HE := Lib.hid (And.intro (HZ.out.1.set (ac 5 0 0 x1 5 0 x2 0 0 0 x3)) (below_setRow HZ.out.2 (Nat.le_refl _) (ac 5 0 0 x1 5 0 x2 0 0 0 x3).toArray))
          simp only [ac] at hst
          go_wp2_with fail
          refine bodyPost_ret (results_cell_row rfl _ _ w.heap.size 27 _ (0, 0) _ rfl HE.out.1 Tryd.underlying27 rfl (by kernel_rfl)) rfl ⟨5, 0, 0, x1, 5, 0, x2, 0, 0, 0, x3, rfl, (.inr (.inr (.inr (.inr (.inr (.inr (.inr (.inr (.inr (.inr (.inr (.inl ⟨HS.out, rfl, rfl, rfl, HN.out.1, rfl, HN.out.2.1, HN.out.2.2.1, rfl, rfl, rfl, rfl⟩)))))))))))), HE.out.2⟩
        have k11 := hs
        clear hs
        by_cases hs : s = nmRead
        · have m0 := ba_ne (show s ≠ nmTick by rw [hs]; exact fun e => absurd (congrArg (fun b : ByteArray => b.data.toList) e) (by decide))
          rw [tlTick] at m0
          have m1 := ba_ne (show s ≠ nmStart by rw [hs]; exact fun e => absurd (congrArg (fun b : ByteArray => b.data.toList) e) (by decide))
          rw [tlStart] at m1
          have m2 := ba_ne (show s ≠ nmDeliver by rw [hs]; exact fun e => absurd (congrArg (fun b : ByteArray => b.data.toList) e) (by decide))
          rw [tlDeliver] at m2
          have m3 := ba_ne (show s ≠ nmDrop by rw [hs]; exact fun e => absurd (congrArg (fun b : ByteArray => b.data.toList) e) (by decide))
          rw [tlDrop] at m3
          have m4 := ba_ne (show s ≠ nmDouble by rw [hs]; exact fun e => absurd (congrArg (fun b : ByteArray => b.data.toList) e) (by decide))
          rw [tlDouble] at m4
          have m5 := ba_ne (show s ≠ nmRetry by rw [hs]; exact fun e => absurd (congrArg (fun b : ByteArray => b.data.toList) e) (by decide))
          rw [tlRetry] at m5
          have m6 := ba_ne (show s ≠ nmCrash by rw [hs]; exact fun e => absurd (congrArg (fun b : ByteArray => b.data.toList) e) (by decide))
          rw [tlCrash] at m6
          have m7 := ba_ne (show s ≠ nmAlloc by rw [hs]; exact fun e => absurd (congrArg (fun b : ByteArray => b.data.toList) e) (by decide))
          rw [tlAlloc] at m7
          have m8 := ba_ne (show s ≠ nmFree by rw [hs]; exact fun e => absurd (congrArg (fun b : ByteArray => b.data.toList) e) (by decide))
          rw [tlFree] at m8
          have m9 := ba_ne (show s ≠ nmWrite by rw [hs]; exact fun e => absurd (congrArg (fun b : ByteArray => b.data.toList) e) (by decide))
          rw [tlWrite] at m9
          have m10 := ba_ne (show s ≠ nmLink by rw [hs]; exact fun e => absurd (congrArg (fun b : ByteArray => b.data.toList) e) (by decide))
          rw [tlLink] at m10
          have m11 := ba_ne (show s ≠ nmRoot by rw [hs]; exact fun e => absurd (congrArg (fun b : ByteArray => b.data.toList) e) (by decide))
          rw [tlRoot] at m11
          have m12 : (s.toList == [114, 101, 97, 100]) = true := by rw [hs, tlRead]; rfl
          have HS := Lib.hid hs
          clear hs
          have hst7 := HX.out.2.2.2.1.store (P := Tryd.prog) (cs' := oc 6 x2 x3 0 0 0 0) rfl (oc_one 6 x2 x3 0 0 0 0)
          have hko7 := HX.out.2.2.2.1.set (oc 6 x2 x3 0 0 0 0)
          have hc7 : Chg (fun j => j = wr.heap.size) w6 (w6.setRow wr.heap.size (oc 6 x2 x3 0 0 0 0).toArray) := Chg.setRow (S := fun j => j = wr.heap.size) (Chg.refl _ _) (.inr rfl) _
          have hkr7 := HX.out.2.1.chg hc7 (by have := HX.out.2.2.2.2.2; omega)
          have hka7 := HX.out.1.chg hc7 (by have := HX.out.2.2.2.2.2; omega)
          have hb7 := below_setRow HX.out.2.2.1 (show w.heap.size ≤ wr.heap.size by have := HX.out.2.2.2.2.2; omega) (oc 6 x2 x3 0 0 0 0).toArray
          obtain ⟨w7, hw7⟩ : ∃ z, w6.setRow wr.heap.size (oc 6 x2 x3 0 0 0 0).toArray = z := ⟨_, rfl⟩
          rw [hw7] at hst7 hko7 hkr7 hka7 hb7
          have c1 : w7.cell? ⟨w.heap.size + 1, 1, none⟩ = some (.int .i64 x1) := by rw [HN.out.1]; exact hka7.cell 1
          have hld7 := hko7.load (P := Tryd.prog) (k := 7) rfl
          have HZ := Lib.hid (And.intro hkr7 hb7)
          simp only [oc] at hst7 hld7
          clear hko7 hc7 hkr7 hka7 hb7 hw7
          have hst := HZ.out.1.store (P := Tryd.prog) (cs' := ac 5 0 0 x1 6 x2 x3 0 0 0 0) rfl (ac_one 5 0 0 x1 6 x2 x3 0 0 0 0)
          have HE := Lib.hid (And.intro (HZ.out.1.set (ac 5 0 0 x1 6 x2 x3 0 0 0 0)) (below_setRow HZ.out.2 (Nat.le_refl _) (ac 5 0 0 x1 6 x2 x3 0 0 0 0).toArray))
          simp only [ac] at hst
          go_wp2_with fail
          refine bodyPost_ret (results_cell_row rfl _ _ w.heap.size 27 _ (0, 0) _ rfl HE.out.1 Tryd.underlying27 rfl (by kernel_rfl)) rfl ⟨5, 0, 0, x1, 6, x2, x3, 0, 0, 0, 0, rfl, (.inr (.inr (.inr (.inr (.inr (.inr (.inr (.inr (.inr (.inr (.inr (.inr (.inl ⟨HS.out, rfl, rfl, rfl, HN.out.1, rfl, HN.out.2.1, HN.out.2.2.1, rfl, rfl, rfl, rfl⟩))))))))))))), HE.out.2⟩
        have k12 := hs
        clear hs
        by_cases hs : s = nmFollow
        · have m0 := ba_ne (show s ≠ nmTick by rw [hs]; exact fun e => absurd (congrArg (fun b : ByteArray => b.data.toList) e) (by decide))
          rw [tlTick] at m0
          have m1 := ba_ne (show s ≠ nmStart by rw [hs]; exact fun e => absurd (congrArg (fun b : ByteArray => b.data.toList) e) (by decide))
          rw [tlStart] at m1
          have m2 := ba_ne (show s ≠ nmDeliver by rw [hs]; exact fun e => absurd (congrArg (fun b : ByteArray => b.data.toList) e) (by decide))
          rw [tlDeliver] at m2
          have m3 := ba_ne (show s ≠ nmDrop by rw [hs]; exact fun e => absurd (congrArg (fun b : ByteArray => b.data.toList) e) (by decide))
          rw [tlDrop] at m3
          have m4 := ba_ne (show s ≠ nmDouble by rw [hs]; exact fun e => absurd (congrArg (fun b : ByteArray => b.data.toList) e) (by decide))
          rw [tlDouble] at m4
          have m5 := ba_ne (show s ≠ nmRetry by rw [hs]; exact fun e => absurd (congrArg (fun b : ByteArray => b.data.toList) e) (by decide))
          rw [tlRetry] at m5
          have m6 := ba_ne (show s ≠ nmCrash by rw [hs]; exact fun e => absurd (congrArg (fun b : ByteArray => b.data.toList) e) (by decide))
          rw [tlCrash] at m6
          have m7 := ba_ne (show s ≠ nmAlloc by rw [hs]; exact fun e => absurd (congrArg (fun b : ByteArray => b.data.toList) e) (by decide))
          rw [tlAlloc] at m7
          have m8 := ba_ne (show s ≠ nmFree by rw [hs]; exact fun e => absurd (congrArg (fun b : ByteArray => b.data.toList) e) (by decide))
          rw [tlFree] at m8
          have m9 := ba_ne (show s ≠ nmWrite by rw [hs]; exact fun e => absurd (congrArg (fun b : ByteArray => b.data.toList) e) (by decide))
          rw [tlWrite] at m9
          have m10 := ba_ne (show s ≠ nmLink by rw [hs]; exact fun e => absurd (congrArg (fun b : ByteArray => b.data.toList) e) (by decide))
          rw [tlLink] at m10
          have m11 := ba_ne (show s ≠ nmRoot by rw [hs]; exact fun e => absurd (congrArg (fun b : ByteArray => b.data.toList) e) (by decide))
          rw [tlRoot] at m11
          have m12 := ba_ne (show s ≠ nmRead by rw [hs]; exact fun e => absurd (congrArg (fun b : ByteArray => b.data.toList) e) (by decide))
          rw [tlRead] at m12
          have m13 : (s.toList == [102, 111, 108, 108, 111, 119]) = true := by rw [hs, tlFollow]; rfl
          have HS := Lib.hid hs
          clear hs
          have hst7 := HX.out.2.2.2.1.store (P := Tryd.prog) (cs' := oc 7 x2 x3 0 0 0 0) rfl (oc_one 7 x2 x3 0 0 0 0)
          have hko7 := HX.out.2.2.2.1.set (oc 7 x2 x3 0 0 0 0)
          have hc7 : Chg (fun j => j = wr.heap.size) w6 (w6.setRow wr.heap.size (oc 7 x2 x3 0 0 0 0).toArray) := Chg.setRow (S := fun j => j = wr.heap.size) (Chg.refl _ _) (.inr rfl) _
          have hkr7 := HX.out.2.1.chg hc7 (by have := HX.out.2.2.2.2.2; omega)
          have hka7 := HX.out.1.chg hc7 (by have := HX.out.2.2.2.2.2; omega)
          have hb7 := below_setRow HX.out.2.2.1 (show w.heap.size ≤ wr.heap.size by have := HX.out.2.2.2.2.2; omega) (oc 7 x2 x3 0 0 0 0).toArray
          obtain ⟨w7, hw7⟩ : ∃ z, w6.setRow wr.heap.size (oc 7 x2 x3 0 0 0 0).toArray = z := ⟨_, rfl⟩
          rw [hw7] at hst7 hko7 hkr7 hka7 hb7
          have c1 : w7.cell? ⟨w.heap.size + 1, 1, none⟩ = some (.int .i64 x1) := by rw [HN.out.1]; exact hka7.cell 1
          have hld7 := hko7.load (P := Tryd.prog) (k := 7) rfl
          have HZ := Lib.hid (And.intro hkr7 hb7)
          simp only [oc] at hst7 hld7
          clear hko7 hc7 hkr7 hka7 hb7 hw7
          have hst := HZ.out.1.store (P := Tryd.prog) (cs' := ac 5 0 0 x1 7 x2 x3 0 0 0 0) rfl (ac_one 5 0 0 x1 7 x2 x3 0 0 0 0)
          have HE := Lib.hid (And.intro (HZ.out.1.set (ac 5 0 0 x1 7 x2 x3 0 0 0 0)) (below_setRow HZ.out.2 (Nat.le_refl _) (ac 5 0 0 x1 7 x2 x3 0 0 0 0).toArray))
          simp only [ac] at hst
          go_wp2_with fail
          refine bodyPost_ret (results_cell_row rfl _ _ w.heap.size 27 _ (0, 0) _ rfl HE.out.1 Tryd.underlying27 rfl (by kernel_rfl)) rfl ⟨5, 0, 0, x1, 7, x2, x3, 0, 0, 0, 0, rfl, (.inr (.inr (.inr (.inr (.inr (.inr (.inr (.inr (.inr (.inr (.inr (.inr (.inr (.inl ⟨HS.out, rfl, rfl, rfl, HN.out.1, rfl, HN.out.2.1, HN.out.2.2.1, rfl, rfl, rfl, rfl⟩)))))))))))))), HE.out.2⟩
        have k13 := hs
        clear hs
        by_cases hs : s = nmTop
        · have m0 := ba_ne (show s ≠ nmTick by rw [hs]; exact fun e => absurd (congrArg (fun b : ByteArray => b.data.toList) e) (by decide))
          rw [tlTick] at m0
          have m1 := ba_ne (show s ≠ nmStart by rw [hs]; exact fun e => absurd (congrArg (fun b : ByteArray => b.data.toList) e) (by decide))
          rw [tlStart] at m1
          have m2 := ba_ne (show s ≠ nmDeliver by rw [hs]; exact fun e => absurd (congrArg (fun b : ByteArray => b.data.toList) e) (by decide))
          rw [tlDeliver] at m2
          have m3 := ba_ne (show s ≠ nmDrop by rw [hs]; exact fun e => absurd (congrArg (fun b : ByteArray => b.data.toList) e) (by decide))
          rw [tlDrop] at m3
          have m4 := ba_ne (show s ≠ nmDouble by rw [hs]; exact fun e => absurd (congrArg (fun b : ByteArray => b.data.toList) e) (by decide))
          rw [tlDouble] at m4
          have m5 := ba_ne (show s ≠ nmRetry by rw [hs]; exact fun e => absurd (congrArg (fun b : ByteArray => b.data.toList) e) (by decide))
          rw [tlRetry] at m5
          have m6 := ba_ne (show s ≠ nmCrash by rw [hs]; exact fun e => absurd (congrArg (fun b : ByteArray => b.data.toList) e) (by decide))
          rw [tlCrash] at m6
          have m7 := ba_ne (show s ≠ nmAlloc by rw [hs]; exact fun e => absurd (congrArg (fun b : ByteArray => b.data.toList) e) (by decide))
          rw [tlAlloc] at m7
          have m8 := ba_ne (show s ≠ nmFree by rw [hs]; exact fun e => absurd (congrArg (fun b : ByteArray => b.data.toList) e) (by decide))
          rw [tlFree] at m8
          have m9 := ba_ne (show s ≠ nmWrite by rw [hs]; exact fun e => absurd (congrArg (fun b : ByteArray => b.data.toList) e) (by decide))
          rw [tlWrite] at m9
          have m10 := ba_ne (show s ≠ nmLink by rw [hs]; exact fun e => absurd (congrArg (fun b : ByteArray => b.data.toList) e) (by decide))
          rw [tlLink] at m10
          have m11 := ba_ne (show s ≠ nmRoot by rw [hs]; exact fun e => absurd (congrArg (fun b : ByteArray => b.data.toList) e) (by decide))
          rw [tlRoot] at m11
          have m12 := ba_ne (show s ≠ nmRead by rw [hs]; exact fun e => absurd (congrArg (fun b : ByteArray => b.data.toList) e) (by decide))
          rw [tlRead] at m12
          have m13 := ba_ne (show s ≠ nmFollow by rw [hs]; exact fun e => absurd (congrArg (fun b : ByteArray => b.data.toList) e) (by decide))
          rw [tlFollow] at m13
          have m14 : (s.toList == [116, 111, 112]) = true := by rw [hs, tlTop]; rfl
          have HS := Lib.hid hs
          clear hs
          have hst7 := HX.out.2.2.2.1.store (P := Tryd.prog) (cs' := oc 8 0 x2 0 0 0 0) rfl (oc_one 8 0 x2 0 0 0 0)
          have hko7 := HX.out.2.2.2.1.set (oc 8 0 x2 0 0 0 0)
          have hc7 : Chg (fun j => j = wr.heap.size) w6 (w6.setRow wr.heap.size (oc 8 0 x2 0 0 0 0).toArray) := Chg.setRow (S := fun j => j = wr.heap.size) (Chg.refl _ _) (.inr rfl) _
          have hkr7 := HX.out.2.1.chg hc7 (by have := HX.out.2.2.2.2.2; omega)
          have hka7 := HX.out.1.chg hc7 (by have := HX.out.2.2.2.2.2; omega)
          have hb7 := below_setRow HX.out.2.2.1 (show w.heap.size ≤ wr.heap.size by have := HX.out.2.2.2.2.2; omega) (oc 8 0 x2 0 0 0 0).toArray
          obtain ⟨w7, hw7⟩ : ∃ z, w6.setRow wr.heap.size (oc 8 0 x2 0 0 0 0).toArray = z := ⟨_, rfl⟩
          rw [hw7] at hst7 hko7 hkr7 hka7 hb7
          have c1 : w7.cell? ⟨w.heap.size + 1, 1, none⟩ = some (.int .i64 x1) := by rw [HN.out.1]; exact hka7.cell 1
          have hld7 := hko7.load (P := Tryd.prog) (k := 7) rfl
          have HZ := Lib.hid (And.intro hkr7 hb7)
          simp only [oc] at hst7 hld7
          clear hko7 hc7 hkr7 hka7 hb7 hw7
          have hst := HZ.out.1.store (P := Tryd.prog) (cs' := ac 5 0 0 x1 8 0 x2 0 0 0 0) rfl (ac_one 5 0 0 x1 8 0 x2 0 0 0 0)
          have HE := Lib.hid (And.intro (HZ.out.1.set (ac 5 0 0 x1 8 0 x2 0 0 0 0)) (below_setRow HZ.out.2 (Nat.le_refl _) (ac 5 0 0 x1 8 0 x2 0 0 0 0).toArray))
          simp only [ac] at hst
          go_wp2_with fail
          refine bodyPost_ret (results_cell_row rfl _ _ w.heap.size 27 _ (0, 0) _ rfl HE.out.1 Tryd.underlying27 rfl (by kernel_rfl)) rfl ⟨5, 0, 0, x1, 8, 0, x2, 0, 0, 0, 0, rfl, (.inr (.inr (.inr (.inr (.inr (.inr (.inr (.inr (.inr (.inr (.inr (.inr (.inr (.inr (.inl ⟨HS.out, rfl, rfl, rfl, HN.out.1, rfl, HN.out.2.1, rfl, rfl, rfl, rfl, rfl⟩))))))))))))))), HE.out.2⟩
        have k14 := hs
        clear hs
        have m0 := ba_ne k0
        rw [tlTick] at m0
        have m1 := ba_ne k1
        rw [tlStart] at m1
        have m2 := ba_ne k2
        rw [tlDeliver] at m2
        have m3 := ba_ne k3
        rw [tlDrop] at m3
        have m4 := ba_ne k4
        rw [tlDouble] at m4
        have m5 := ba_ne k5
        rw [tlRetry] at m5
        have m6 := ba_ne k6
        rw [tlCrash] at m6
        have m7 := ba_ne k7
        rw [tlAlloc] at m7
        have m8 := ba_ne k8
        rw [tlFree] at m8
        have m9 := ba_ne k9
        rw [tlWrite] at m9
        have m10 := ba_ne k10
        rw [tlLink] at m10
        have m11 := ba_ne k11
        rw [tlRoot] at m11
        have m12 := ba_ne k12
        rw [tlRead] at m12
        have m13 := ba_ne k13
        rw [tlFollow] at m13
        have m14 := ba_ne k14
        rw [tlTop] at m14
        have HNI := Lib.hid (show s ≠ nmTick ∧ s ≠ nmStart ∧ s ≠ nmDeliver ∧ s ≠ nmDrop ∧ s ≠ nmDouble ∧ s ≠ nmRetry ∧ s ≠ nmCrash ∧ s ≠ nmAlloc ∧ s ≠ nmFree ∧ s ≠ nmWrite ∧ s ≠ nmLink ∧ s ≠ nmRoot ∧ s ≠ nmRead ∧ s ≠ nmFollow ∧ s ≠ nmTop from ⟨k0, k1, k2, k3, k4, k5, k6, k7, k8, k9, k10, k11, k12, k13, k14⟩)
        clear k0 k1 k2 k3 k4 k5 k6 k7 k8 k9 k10 k11 k12 k13 k14
        have hst := HX.out.2.1.store (P := Tryd.prog) (cs' := ac 0 0 0 0 0 0 0 0 0 0 0) rfl (ac_one 0 0 0 0 0 0 0 0 0 0 0)
        have HE := Lib.hid (And.intro (HX.out.2.1.set (ac 0 0 0 0 0 0 0 0 0 0 0)) (below_setRow HX.out.2.2.1 (Nat.le_refl _) (ac 0 0 0 0 0 0 0 0 0 0 0).toArray))
        simp only [ac] at hst
        go_wp2_with fail
        refine bodyPost_ret (results_cell_row rfl _ _ w.heap.size 27 _ (0, 0) _ rfl HE.out.1 Tryd.underlying27 rfl (by kernel_rfl)) rfl ⟨0, 0, 0, 0, 0, 0, 0, 0, 0, 0, 0, rfl, (.inr (.inr (.inr (.inr (.inr (.inr (.inr (.inr (.inr (.inr (.inr (.inr (.inr (.inr (.inr (⟨HNI.out, rfl, rfl, rfl, rfl, rfl, rfl, rfl, rfl, rfl, rfl, rfl⟩)))))))))))))))), HE.out.2⟩
end
end Go.Proofs.YtehhgpnaemffnaaDoor
