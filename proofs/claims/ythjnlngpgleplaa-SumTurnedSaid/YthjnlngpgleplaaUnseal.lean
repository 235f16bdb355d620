/- slices.Equal, slices.Clone, sum.Open and the document's Open: contracts. -/
import Derived.Test.YthjnlngpgleplaaSeal
import Derived.Test.YthjnlngpgleplaaMono
import Derived.WalkSmall
namespace Go.Proofs.Ythjnlngpgleplaa
open Go.RowKit

theorem below_drewN' {B : Nat} {a w : World} (h : Below B a w) (n : Nat) : Below B a (w.drewN n) := h.trans ⟨rfl, rfl, rfl, Nat.le_refl _, fun _ _ => rfl⟩

theorem take_eq_step (l m : List UInt8) (k : Nat) (h1 : k < l.length) (h2 : k < m.length) (h : l.take k = m.take k) (he : l[k] = m[k]) : l.take (k + 1) = m.take (k + 1) := by
  rw [List.take_succ_eq_append_getElem h1, List.take_succ_eq_append_getElem h2, h, he]

theorem equal_any (A : Option Addr) (n c : Nat) (A2 : Option Addr) (n2 c2 : Nat) (l m : List UInt8) (B B2 : Nat) (w : World) (hr : Rd w B A (bv l)) (hr2 : Rd w B2 A2 (bv m)) (hl : l.length = n) (hl2 : m.length = n2) (hn : n ≤ 1099511627776) (hn2 : n2 ≤ 1099511627776) :
    Calls Try.prog 28 #[.slice A n c, .slice A2 n2 c2] w fun e w' => e = .returned (.bool (decide (l = m))) ∧ ∃ q, w' = w.drewN q := by
  by_cases hne : n = n2
  · subst hne
    have H := Lib.hid (And.intro (And.intro hr hl) (And.intro hr2 hl2)); clear hr hr2 hl hl2
    go_enter Try.func28, Try.ntmps28
    go_wp2_with fail
    go_loopw [5, 13] (fun o i wr => ∃ k : Nat, k ≤ n ∧ i = .int .i64 k ∧ l.take k = m.take k ∧ ∃ q, wr = w.drewN q) (fun _ i _ => n - (intOf i).toNat)
    case atStart => exact ⟨0, by omega, rfl, rfl, 0, rfl⟩
    case round =>
      obtain ⟨k, hk, rfl, htk, q, hq⟩ := hrel
      have HQ := Lib.hid hq
      have H2 := Lib.hid (show Rd wr B A (bv l) ∧ Rd wr B2 A2 (bv m) from ⟨hq ▸ H.out.1.1.drewN q, hq ▸ H.out.2.1.drewN q⟩)
      clear hq
      have HT := Lib.hid htk; clear htk
      by_cases hlt : k < n
      · have hk1 : k < l.length := by have := H.out.1.2; omega
        have hk2 : k < m.length := by have := H.out.2.2; omega
        obtain ⟨b, off, rfl, _, hc⟩ := H2.out.1.at_ (k := k) (by rw [bv_length]; exact hk1)
        have hcell := hc k _ (bv_at l k hk1)
        clear hc
        obtain ⟨b2, off2, rfl, _, hc⟩ := H2.out.2.at_ (k := k) (by rw [bv_length]; exact hk2)
        have hcell2 := hc k _ (bv_at m k hk2)
        clear hc
        by_cases he : l[k] = m[k]
        · have HS := Lib.hid (take_eq_step l m k hk1 hk2 HT.out he)
          rw [← he] at hcell2
          clear he
          generalize (l[k]).toNat = x at *
          go_wp2_with fail
          go_quiet (fail)
          go_wp2_with fail
          go_roundw
          case rel => exact ⟨k + 1, by omega, by go_num, HS.out, _, by rw [HQ.out, World.drewN_drewN]⟩
          case measure => simp [intOf]; omega
        · have hne2 : (((l[k]).toNat : Int) != ((m[k]).toNat : Int)) = true := by
            simp only [bne_iff_ne, ne_eq]
            intro h
            exact he (UInt8.toNat_inj.1 (by omega))
          have HE := Lib.hid (show decide (l = m) = false by
            simp only [decide_eq_false_iff_not]
            rintro rfl
            exact he rfl)
          clear he
          generalize (l[k]).toNat = x at *
          generalize (m[k]).toNat = y at *
          go_wp2_with fail
          go_quiet (fail)
          go_wp2_with fail
          go_ret
          exact ⟨by rw [HE.out]; rfl, _, by rw [HQ.out, World.drewN_drewN]⟩
      · obtain rfl : k = n := by omega
        have HE := Lib.hid (show decide (l = m) = true by
          have h1 := HT.out
          rw [List.take_of_length_le (by have := H.out.1.2; omega), List.take_of_length_le (by have := H.out.2.2; omega)] at h1
          simpa using h1)
        go_wp2_with fail
        go_ret
        exact ⟨by rw [HE.out]; rfl, _, HQ.out⟩
  · have hne2 : ((n : Int) != (n2 : Int)) = true := by
      simp only [bne_iff_ne, ne_eq]
      omega
    have HE := Lib.hid (show decide (l = m) = false by
      simp only [decide_eq_false_iff_not]
      rintro rfl
      omega)
    clear hne hr hr2 hl hl2
    go_enter Try.func28, Try.ntmps28
    go_wp2_with fail
    go_ret
    exact ⟨by rw [HE.out]; rfl, 0, rfl⟩

theorem clone_any (A : Option Addr) (n c : Nat) (l : List UInt8) (w : World) (hr : Rd w w.heap.size A (bv l)) (hl : l.length = n) (hn : n ≤ 1099511627776) :
    Calls Try.prog 29 #[.slice A n c] w fun e w' => ∃ v, e = .returned v ∧ w'.ownsRow w.heap.size 5 1 v n (bv l) ∧ Below w.heap.size w w' := by
  obtain ⟨i0, hi0, hz0, hz1, hz2⟩ := info_parts u8_info
  cases A with
  | none =>
    have hln : l = [] := by
      rcases hr with h | ⟨b, off, e, _⟩
      · cases l with
        | nil => rfl
        | cons a t => simp [bv] at h
      · cases e
    subst hln
    obtain rfl : n = 0 := by simpa using hl.symm
    have hnil : ∀ W, (binOp .eql 22 (.slice none 0 c) (.slice none 0 0)).run Try.prog W = .ok (.bool true) W := fun _ => rfl
    go_enter Try.func29, Try.ntmps29
    go_wp2_with fail
    go_ret
    exact ⟨_, rfl, World.ownsRow_nil _ _ _ _, Below.refl _ _⟩
  | some ad =>
    have H := Lib.hid (And.intro hr hl); clear hr hl
    have hnil : ∀ W, (binOp .eql 22 (.slice (some ad) n c) (.slice none 0 0)).run Try.prog W = .ok (.bool false) W := fun _ => rfl
    have hown0 := World.ownsRow_lit (e := 5) (size := 1) (base := w.heap.size) w #[] 0 (Nat.le_refl _) (by unfold maxLen; omega) rfl
    have HOWN := Lib.hid hown0; clear hown0
    have hba := (Below.refl w.heap.size w).alloc (Nat.le_refl _) (.cells #[] 5)
    have HBA := Lib.hid hba; clear hba
    go_enter Try.func29, Try.ntmps29
    go_wp2_with (at_builtin; refine wpList_append_rd _ rfl (.tmp 5) (.tmp 6) _ rfl w.heap.size 5 i0 (.int .u8 0) 1 1 Try.underlying22 hi0 hz0 hz1 hz2 rfl (by omega) _ 0 [] HOWN.out rfl w.heap.size (some ad) n c (bv l) (H.out.1.below HBA.out (Nat.le_refl _)) rfl ?_ (bv_one l) ?_ ?_ HBA.out.size ?_)
    · rw [bv_length, H.out.2]
    · unfold maxLen; omega
    · omega
    intro v3 w3 hown3 hg3
    have HO3 := Lib.hid hown3
    have HB3 := Lib.hid (HBA.out.trans (below_of_grown HOWN.out hg3 HBA.out.size))
    clear hown3 hg3
    go_wp2_with fail
    go_ret
    exact ⟨_, rfl, HO3.out, HB3.out⟩

/-- A slice that reads as a word's four bytes. -/
def Four (s : Nat) : Value → World → Prop := fun v w => ∃ A c, v = .slice A 4 c ∧ ∃ w1, Rd w1 w1.heap.size A (bv (four s)) ∧ Below w1.heap.size w1 w
theorem pers_four (s : Nat) : Pers (Four s) := by
  rintro v w w' ⟨A, c, e, w1, hr, hb⟩ hb'
  exact ⟨A, c, e, w1, hr, hb.trans (hb'.mono hb.size)⟩

/-- What a row that is opened holds: it is sealed. -/
def goodB (l : List UInt8) : Bool := decide (4 ≤ l.length) && decide (l.drop (l.length - 4) = four (moreN 0 (l.take (l.length - 4))))

theorem open_short (A : Option Addr) (n c : Nat) (w : World) (h4 : n < 4) :
    Calls Try.prog 19 #[.slice A n c] w fun e w' => e = .returned (.tuple #[.slice none 0 0, .int .i64 20]) ∧ ∃ q, w' = w.drewN q := by
  have hneg : decide ((n : Int) - 4 < 0) = true := by simp; omega
  go_enter Try.func19, Try.ntmps19
  go_wp2_with fail
  go_quiet (fail)
  go_wp2_with fail
  go_ret2
  exact ⟨rfl, _, rfl⟩

theorem open_any (A : Option Addr) (n c : Nat) (l : List UInt8) (w : World) (hr : Rd w w.heap.size A (bv l)) (hl : l.length = n) (hc : n ≤ c) (hn : n ≤ 1000000000) (h4 : 4 ≤ n) :
    Calls Try.prog 19 #[.slice A n c] w fun e w' => (goodB l = false → e = .returned (.tuple #[.slice none 0 0, .int .i64 20])) ∧
      (goodB l = true → ∃ v, e = .returned (.tuple #[v, .int .i64 0]) ∧ w'.ownsRow w.heap.size 5 1 v (n - 4) (bv (l.take (n - 4)))) ∧ Below w.heap.size w w' := by
  obtain ⟨m, rfl⟩ : ∃ m, n = m + 4 := ⟨n - 4, by omega⟩
  have hm : ((m + 4 : Nat) : Int) - 4 = (m : Int) := by omega
  have hs := moreN_lt (s := 0) (l.take m) (by omega)
  have hcut := hr.cut (k := m) (cap := c) (by rw [bv_length]; omega)
  obtain ⟨A', hA'⟩ : ∃ A', (if c = m then A else A.map (·.add m)) = A' := ⟨_, rfl⟩
  rw [hA', bv_drop] at hcut
  have RD := Lib.hid hcut
  have RT := Lib.hid (show Rd w w.heap.size A (bv (l.take m)) by rw [← bv_take]; exact hr.take m)
  have LT := Lib.hid (show (l.take m).length = m by rw [List.length_take]; omega)
  have LD := Lib.hid (show (l.drop m).length = 4 by rw [List.length_drop]; omega)
  have hgood : goodB l = decide (l.drop m = four (moreN 0 (l.take m))) := by
    unfold goodB
    rw [show l.length - 4 = m by omega]
    simp
    omega
  rw [hgood]
  have hme : m + 4 - 4 = m := by omega
  rw [hme]
  have hmc : m ≤ c := by omega
  have hmc4 : c - m ≤ maxLen ∨ True := .inr trivial
  obtain ⟨s, hse⟩ : ∃ s, moreN 0 (l.take m) = s := ⟨_, rfl⟩
  have SM := Lib.hid hse
  rw [hse] at hs ⊢
  clear hcut hr hl hgood hse hme hmc4
  obtain ⟨b, hb⟩ : ∃ b, decide (l.drop m = four s) = b := ⟨_, rfl⟩
  have EQ := Lib.hid hb
  rw [hb]
  clear hb
  have hneg : decide ((m : Int) < 0) = false := by simp
  go_enter Try.func19, Try.ntmps19
  go_wp2_with fail
  refine wp_region_mono' (by kernel_rfl) (by kernel_rfl) ?_
  iterate 10 (refine ex_det ?_; apply Exists.intro)
  refine ex_free (Four s) ?_
  iterate 3 (refine ex_det ?_; apply Exists.intro)
  refine ex_nil ⟨?pers, ?walk⟩
  case walk =>
    iterate 9
      apply mwalk_det (by kernel_rfl) (by intro t w h; cases h; exact trivial) rfl
      · intro W hW hF
        go_wp2_with fail
        exact ⟨rfl, _, rfl, hW, Below.refl _ _, rfl⟩
      simp only [Act.put, List.setIfInBounds_toArray, List.set_cons_zero, List.set_cons_succ]
    apply mwalk_det (by kernel_rfl) (by intro t w h; cases h; exact trivial) rfl
    · intro W hW hF
      go_wp2_with fail
      refine (sum_any A m c _ (l.take m) W (RT.out.below hW (Nat.le_refl _)) LT.out (by omega)).mono ?_
      rintro e w9 ⟨rfl, rfl⟩
      rw [SM.out]
      go_wp2_with fail
      exact ⟨rfl, _, rfl, hW, Below.refl _ _, rfl⟩
    simp only [Act.put, List.setIfInBounds_toArray, List.set_cons_zero, List.set_cons_succ]
    refine ⟨fun W hW hF => ?_, fun v18 => ?_⟩
    · go_wp2_with fail
      refine (tail_any s _ hs).mono ?_
      rintro e w9 ⟨v, rfl, hown, hb⟩
      obtain ⟨A9, c9, rfl, hr9, _⟩ := own_rd hown
      clear hown
      go_wp2_with fail
      exact ⟨rfl, _, rfl, hW.trans (hb.mono hW.size), hb, A9, c9, rfl, _, hr9, Below.refl _ _⟩
    simp only [Act.put, List.setIfInBounds_toArray, List.set_cons_zero, List.set_cons_succ]
    apply mwalk_det (by kernel_rfl) (by intro t w h; cases h; exact trivial) rfl
    · intro W hW hF
      have f18 := hF 18 (of_decide_eq_true (by kernel_rfl))
      obtain ⟨A9, c9, rfl, w9, hr9, hb9⟩ := f18
      go_wp2_with fail
      refine (equal_any A' 4 (c - m) A9 4 c9 (l.drop m) (four s) _ _ W (RD.out.below hW (Nat.le_refl _)) (hr9.below hb9 (Nat.le_refl _)) LD.out rfl (by omega) (by omega)).mono ?_
      rintro e w9 ⟨rfl, q, rfl⟩
      rw [EQ.out]
      go_wp2_with fail
      exact ⟨rfl, _, rfl, below_drewN' hW q, below_drewN' (Below.refl _ _) q, rfl⟩
    simp only [Act.put, List.setIfInBounds_toArray, List.set_cons_zero, List.set_cons_succ]
    iterate 2
      apply mwalk_det (by kernel_rfl) (by intro t w h; cases h; exact trivial) rfl
      · intro W hW hF
        go_wp2_with fail
        exact ⟨rfl, _, rfl, hW, Below.refl _ _, rfl⟩
      simp only [Act.put, List.setIfInBounds_toArray, List.set_cons_zero, List.set_cons_succ]
    intro W hW hF
    have HW := Lib.hid hW
    clear hW
    cases b
    · go_wp2_with fail
      go_ret2
      exact ⟨rfl, HW.out⟩
    · go_wp2_with fail
      refine (clone_any A m c (l.take m) _ ((RT.out.below HW.out (Nat.le_refl _)).more HW.out.size) LT.out (by omega)).mono ?_
      rintro e w9 ⟨v, rfl, hown, hb9⟩
      have HO := Lib.hid (And.intro (own_base (base' := w.heap.size) hown HW.out.size) (HW.out.trans (hb9.mono HW.out.size)))
      clear hown hb9
      go_wp2_with fail
      go_ret2
      exact ⟨⟨v, rfl, HO.out.1⟩, HO.out.2⟩
  case pers => exact ⟨pers_isV _, pers_isV _, pers_isV _, pers_isV _, pers_isV _, pers_isV _, pers_isV _, pers_isV _, pers_isV _, pers_isV _, pers_four _, pers_isV _, pers_isV _, pers_isV _, trivial⟩

theorem refOpen_short (A : Option Addr) (n c : Nat) (w : World) (h4 : n < 4) :
    Calls Try.prog 21 #[.slice A n c] w fun e w' => e = .returned (.tuple #[.slice none 0 0, .int .i64 20]) ∧ ∃ q, w' = w.drewN q := by
  have hneg : decide ((n : Int) - 4 < 0) = true := by simp; omega
  go_enter Try.func21, Try.ntmps21
  go_wp2_with fail
  go_quiet (fail)
  go_wp2_with fail
  go_ret2
  exact ⟨rfl, _, rfl⟩

/-- A slice of n bytes that reads as these. -/
def Bytes (n : Nat) (l : List UInt8) : Value → World → Prop := fun v w => ∃ A c, v = .slice A n c ∧ ∃ w1, Rd w1 w1.heap.size A (bv l) ∧ Below w1.heap.size w1 w
theorem pers_bytes (n : Nat) (l : List UInt8) : Pers (Bytes n l) := by
  rintro v w w' ⟨A, c, e, w1, hr, hb⟩ hb'
  exact ⟨A, c, e, w1, hr, hb.trans (hb'.mono hb.size)⟩

theorem goodB_eq (l : List UInt8) (m : Nat) (h : l.length = m + 4) : goodB l = decide (sealB (l.take m) = l) := by
  unfold goodB sealB
  rw [show l.length - 4 = m by omega]
  have e : (l.take m ++ four (moreN 0 (l.take m)) = l) ↔ (l.drop m = four (moreN 0 (l.take m))) := by
    constructor
    · intro h2
      have h3 := congrArg (List.drop m) h2
      rw [List.drop_left' (by rw [List.length_take]; omega)] at h3
      exact h3.symm
    · intro h2
      rw [← h2, List.take_append_drop]
  rw [show decide (4 ≤ l.length) = true by simp; omega, Bool.true_and]
  exact decide_eq_decide.2 e.symm

theorem refOpen_any (A : Option Addr) (n c : Nat) (l : List UInt8) (w : World) (hr : Rd w w.heap.size A (bv l)) (hl : l.length = n) (hc : n ≤ c) (hn : n ≤ 1000000000) (h4 : 4 ≤ n) :
    Calls Try.prog 21 #[.slice A n c] w fun e w' => e = .returned (if goodB l then .tuple #[.slice A (n - 4) c, .int .i64 0] else .tuple #[.slice none 0 0, .int .i64 20]) ∧ Below w.heap.size w w' := by
  obtain ⟨m, rfl⟩ : ∃ m, n = m + 4 := ⟨n - 4, by omega⟩
  have hm : ((m + 4 : Nat) : Int) - 4 = (m : Int) := by omega
  have RT := Lib.hid (show Rd w w.heap.size A (bv (l.take m)) by rw [← bv_take]; exact hr.take m)
  have LT := Lib.hid (show (l.take m).length = m by rw [List.length_take]; omega)
  rw [goodB_eq l m hl, show m + 4 - 4 = m by omega]
  have hmc : m ≤ c := by omega
  have hcvB' : ∀ W, Below w.heap.size w W → Sem.run Try.prog (convert 22 9 (.slice A (m + 4) c)) W = .ok (.string ⟨l.toArray⟩) W := fun W hb =>
    conv_rd (P := Try.prog) W 22 9 5 Try.underlying22 Try.underlying5 Try.underlying9 _ A _ c _ (hr.below hb (Nat.le_refl _)) hl
  have hcvB := Lib.hid hcvB'; clear hcvB'
  have HL := Lib.hid (show (sealB (l.take m)).length = m + 4 by rw [sealB_length, LT.out])
  clear hr hl
  obtain ⟨b, hb⟩ : ∃ b, decide (sealB (l.take m) = l) = b := ⟨_, rfl⟩
  have hse : (sealB (l.take m) == l) = b := by rw [← hb, Bool.eq_iff_iff]; simp
  have hite : (if sealB (l.take m) = l then (Value.tuple #[.slice A m c, .int .i64 0]) else .tuple #[.slice none 0 0, .int .i64 20]) = if b then (.tuple #[.slice A m c, .int .i64 0]) else .tuple #[.slice none 0 0, .int .i64 20] := by
    rw [← hb]
    simp
  simp only [decide_eq_true_eq]
  rw [hite]
  clear hite hb
  have hneg : decide ((m : Int) < 0) = false := by simp
  go_enter Try.func21, Try.ntmps21
  go_wp2_with fail
  refine wp_region_mono' (by kernel_rfl) (by kernel_rfl) ?_
  iterate 6 (refine ex_det ?_; apply Exists.intro)
  refine ex_free (Bytes (m + 4) (sealB (l.take m))) ?_
  iterate 5 (refine ex_det ?_; apply Exists.intro)
  refine ex_nil ⟨?pers, ?walk⟩
  case walk =>
    iterate 6
      apply mwalk_det (by kernel_rfl) (by intro t w h; cases h; exact trivial) rfl
      · intro W hW hF
        go_wp2_with fail
        exact ⟨rfl, _, rfl, hW, Below.refl _ _, rfl⟩
      simp only [Act.put, List.setIfInBounds_toArray, List.set_cons_zero, List.set_cons_succ]
    refine ⟨fun W hW hF => ?_, fun v14 => ?_⟩
    · go_wp2_with fail
      refine (refSeal_any A m c (l.take m) _ ((RT.out.below hW (Nat.le_refl _)).more hW.size) LT.out (by omega)).mono ?_
      rintro e w9 ⟨v, rfl, hown, hb⟩
      obtain ⟨A9, c9, rfl, hr9, _⟩ := own_rd hown
      clear hown
      go_wp2_with fail
      exact ⟨rfl, _, rfl, hW.trans (hb.mono hW.size), hb, A9, c9, rfl, _, hr9, Below.refl _ _⟩
    simp only [Act.put, List.setIfInBounds_toArray, List.set_cons_zero, List.set_cons_succ]
    apply mwalk_det (by kernel_rfl) (by intro t w h; cases h; exact trivial) rfl
    · intro W hW hF
      have f14 := hF 14 (of_decide_eq_true (by kernel_rfl))
      obtain ⟨A9, c9, rfl, w9, hr9, hb9⟩ := f14
      have hcv := conv_rd (P := Try.prog) W 22 9 5 Try.underlying22 Try.underlying5 Try.underlying9 _ A9 _ c9 _ (hr9.below hb9 (Nat.le_refl _)) HL.out
      go_wp2_with fail
      exact ⟨rfl, _, rfl, hW, Below.refl _ _, rfl⟩
    simp only [Act.put, List.setIfInBounds_toArray, List.set_cons_zero, List.set_cons_succ]
    iterate 1
      apply mwalk_det (by kernel_rfl) (by intro t w h; cases h; exact trivial) rfl
      · intro W hW hF
        go_wp2_with fail
        exact ⟨rfl, _, rfl, hW, Below.refl _ _, rfl⟩
      simp only [Act.put, List.setIfInBounds_toArray, List.set_cons_zero, List.set_cons_succ]
    apply mwalk_det (by kernel_rfl) (by intro t w h; cases h; exact trivial) rfl
    · intro W hW hF
      have hcv := hcvB.out W hW
      go_wp2_with fail
      exact ⟨rfl, _, rfl, hW, Below.refl _ _, rfl⟩
    simp only [Act.put, List.setIfInBounds_toArray, List.set_cons_zero, List.set_cons_succ]
    iterate 2
      apply mwalk_det (by kernel_rfl) (by intro t w h; cases h; exact trivial) rfl
      · intro W hW hF
        go_wp2_with fail
        exact ⟨rfl, _, rfl, hW, Below.refl _ _, rfl⟩
      simp only [Act.put, List.setIfInBounds_toArray, List.set_cons_zero, List.set_cons_succ]
    intro W hW hF
    have HW := Lib.hid hW
    clear hW
    cases b
    · go_wp2_with fail
      go_ret2
      exact ⟨rfl, HW.out⟩
    · go_wp2_with fail
      go_ret2
      exact ⟨rfl, HW.out⟩
  case pers => exact ⟨pers_isV _, pers_isV _, pers_isV _, pers_isV _, pers_isV _, pers_isV _, pers_bytes _ _, pers_isV _, pers_isV _, pers_isV _, pers_isV _, pers_isV _, trivial⟩
end Go.Proofs.Ythjnlngpgleplaa
