/- views.Enough, its sets of bits, and the document's Enough. -/
import Derived.Test.YtlomahddominlaaViews
import Derived.Test.YtlomahddominlaaOpen
namespace Go.Proofs.Ytlomahddominlaa
open Go.RowKit

def inB (x : Int) (l : List Int) : Bool := decide (x ∈ l)
theorem in_any (A : Option Addr) (n c B : Nat) (l : List Int) (x : Int) (w : World) (hr : Rd w B A (iv l)) (hl : l.length = n) (hn : n ≤ 1099511627776) :
    Calls Try.prog 30 #[.slice A n c, .int .i64 x] w fun e w' => e = .returned (.bool (inB x l)) ∧ w = w' := by
  have H := Lib.hid (And.intro hr hl); clear hr hl
  go_enter Try.func30, Try.ntmps30
  go_wp2_with fail
  go_loop [5] (fun i => ∃ k : Nat, k ≤ n ∧ i = .int .i64 k ∧ Hid (∀ y, y ∈ l.take k → y ≠ x)) (fun i => n - (intOf i).toNat)
  case atStart => exact ⟨0, by omega, rfl, Lib.hid fun y hy => by simp at hy⟩
  case round =>
    obtain ⟨k, hk, rfl, HN⟩ := hrel
    by_cases hlt : k < n
    · have hkl : k < l.length := by have := H.out.2; omega
      obtain ⟨b, off, rfl, _, hc⟩ := H.out.1.at_ (k := k) (by rw [iv_length]; exact hkl)
      have hcell := hc k _ (iv_at l k hkl)
      clear hc
      by_cases hx : l[k] = x
      · have hb : (l[k] == x) = true := by simp [hx]
        have HX := Lib.hid (show inB x l = true by simp only [inB, decide_eq_true_eq]; rw [← hx]; exact List.getElem_mem hkl)
        clear hx
        go_wp2_with fail
        go_ret
        exact ⟨by rw [HX.out]; rfl, rfl⟩
      · have hb : (l[k] == x) = false := by simp [hx]
        have HX := Lib.hid hx; clear hx
        go_wp2_with fail
        go_round
        case rel =>
          refine ⟨k + 1, by omega, by go_num, Lib.hid fun y hy => ?_⟩
          rw [List.take_succ_eq_append_getElem hkl, List.mem_append, List.mem_singleton] at hy
          rcases hy with hy | rfl
          · exact HN.out y hy
          · exact HX.out
        case measure => simp [intOf]; omega
    · have HX := Lib.hid (show inB x l = false by
        have e : l.take k = l := List.take_of_length_le (by have := H.out.2; omega)
        have := HN.out
        rw [e] at this
        simp only [inB, decide_eq_false_iff_not]
        exact fun hm => this x hm rfl)
      go_wp2_with fail
      go_ret
      exact ⟨by rw [HX.out]; rfl, rfl⟩

/-- How many of the nodes are in a row. -/
def cntB (n : Int) (l : List Int) (k : Nat) : Bool := decide (1 ≤ k) && decide ((k : Int) ≤ n) && inB k l
def cntUp (n : Int) (l : List Int) (k : Nat) : Nat := ((List.range k).filter (cntB n l)).length
def enoughB (n : Int) (l : List Int) : Bool := nodesB n && decide (n < 2 * (cntUp n l 8 : Int))
theorem cntUp_succ (n : Int) (l : List Int) (k : Nat) : cntUp n l (k + 1) = cntUp n l k + (if cntB n l k = true then 1 else 0) := by
  unfold cntUp
  rw [List.range_succ, List.filter_append, List.length_append]
  congr 1
  by_cases h : cntB n l k = true <;> simp [h]
theorem cntUp_le (n : Int) (l : List Int) (k : Nat) : cntUp n l k ≤ k := by
  unfold cntUp
  exact Nat.le_trans (List.length_filter_le _ _) (by simp)

theorem refEnough_any (x : Int) (A : Option Addr) (n c B : Nat) (l : List Int) (w : World) (hr : Rd w B A (iv l)) (hl : l.length = n) (hn : n ≤ 1099511627776) (hx : (Lit.int .i64 x).wf = true) :
    Calls Try.prog 19 #[.int .i64 x, .slice A n c] w fun e w' => e = .returned (.bool (enoughB x l)) ∧ w = w' := by
  have hwf := bounds_i64 hx
  clear hx
  have H := Lib.hid (And.intro hr hl); clear hr hl
  go_enter Try.func19, Try.ntmps19
  go_wp2_with fail
  go_loop [5, 6] (fun v i => ∃ k : Nat, 1 ≤ k ∧ k ≤ 8 ∧ i = .int .i64 k ∧ v = .int .i64 (cntUp x l k)) (fun _ i => 8 - (intOf i).toNat)
  case atStart => exact ⟨1, by omega, by omega, rfl, by simp [cntUp, List.range_succ, cntB]⟩
  case round =>
    obtain ⟨k, hk1, hk2, rfl, rfl⟩ := hrel
    have hcl := cntUp_le x l k
    have HS := Lib.hid (cntUp_succ x l k)
    generalize hz : cntUp x l k = z at hcl HS ⊢
    have HZ := Lib.hid hz; clear hz
    by_cases hlt : k ≤ 7
    · by_cases hkx : (k : Int) ≤ x
      · go_wp2_with fail
        refine (in_any A n c B l k w H.out.1 H.out.2 hn).mono ?_
        rintro e w' ⟨rfl, rfl⟩
        by_cases hin : inB k l = true
        · have HC := Lib.hid (show cntB x l k = true by simp [cntB, hk1, hkx, hin])
          go_wp2_with fail
          go_round
          case rel => exact ⟨k + 1, by omega, by omega, by go_num, by rw [HS.out, if_pos HC.out]; go_num⟩
          case measure => simp [intOf]; omega
        · have hinf : inB k l = false := by simpa using hin
          have HC := Lib.hid (show ¬ cntB x l k = true by simp [cntB, hinf])
          clear hin
          go_wp2_with fail
          go_round
          case rel => exact ⟨k + 1, by omega, by omega, by go_num, by rw [HS.out, if_neg HC.out]; go_num⟩
          case measure => simp [intOf]; omega
      · have hd : decide ((k : Int) ≤ x) = false := by simpa using hkx
        have HC := Lib.hid (show ¬ cntB x l k = true by simp [cntB, hd])
        clear hkx
        go_wp2_with fail
        go_round
        case rel => exact ⟨k + 1, by omega, by omega, by go_num, by rw [HS.out, if_neg HC.out]; go_num⟩
        case measure => simp [intOf]; omega
    · obtain rfl : k = 8 := by omega
      go_wp2_with fail
      refine (refNodes_any x w).mono ?_
      rintro e w' ⟨rfl, rfl⟩
      by_cases hn2 : nodesB x = true
      · have HE := Lib.hid (show enoughB x l = decide (x < 2 * (z : Int)) by unfold enoughB; rw [hn2, HZ.out]; rfl)
        go_wp2_with fail
        go_ret
        exact ⟨by rw [HE.out]; rfl, rfl⟩
      · have hnf : nodesB x = false := by simpa using hn2
        have HE := Lib.hid (show enoughB x l = false by unfold enoughB; rw [hnf]; rfl)
        clear hn2
        go_wp2_with fail
        go_ret
        exact ⟨by rw [HE.out]; rfl, rfl⟩

/-- A set of bits with one more. -/
def withN (n : Int) (s : Nat) (x : Int) : Nat := if 1 ≤ x ∧ x ≤ n then s ||| 2 ^ x.toNat else s
theorem withN_lt {n x : Int} {s : Nat} (hn : n ≤ 7) (hs : s < 256) : withN n s x < 256 := by
  unfold withN
  split
  · rename_i h
    exact Nat.or_lt_two_pow (n := 8) hs (Nat.pow_lt_pow_right (by omega) (by omega))
  · exact hs

theorem with_any (s : Nat) (x n : Int) (w : World) (hs : s < 256) (hn : n ≤ 7) :
    Calls Try.prog 28 #[.int .u16 s, .int .i64 x, .int .i64 n] w fun e w' => e = .returned (.int .u16 (withN n s x)) ∧ w = w' := by
  by_cases h1 : 1 ≤ x
  · by_cases h2 : x ≤ n
    · have HW := Lib.hid (show withN n s x = s ||| 2 ^ x.toNat by unfold withN; rw [if_pos ⟨h1, h2⟩])
      have b1 : decide (x < 1) = false := by simp; omega
      have b2 : decide (n < x) = false := by simp; omega
      have hor := u16_or_nat s (2 ^ x.toNat) (by omega) (Nat.lt_of_le_of_lt (Nat.pow_le_pow_right (by omega) (show x.toNat ≤ 7 by omega)) (by omega))
      obtain rfl | rfl | rfl | rfl | rfl | rfl | rfl : x = 1 ∨ x = 2 ∨ x = 3 ∨ x = 4 ∨ x = 5 ∨ x = 6 ∨ x = 7 := by omega
      all_goals
        have HO := Lib.hid hor; clear hor
        go_enter Try.func28, Try.ntmps28
        go_wp2_with fail
        go_ret
        exact ⟨by rw [HW.out, ← HO.out]; rfl, rfl⟩
    · have HW := Lib.hid (show withN n s x = s by unfold withN; rw [if_neg fun h => h2 h.2])
      have b1 : decide (x < 1) = false := by simp; omega
      clear h1
      go_enter Try.func28, Try.ntmps28
      go_wp2_with fail
      go_ret
      exact ⟨by rw [HW.out]; rfl, rfl⟩
  · have HW := Lib.hid (show withN n s x = s by unfold withN; rw [if_neg fun h => h1 h.1])
    go_enter Try.func28, Try.ntmps28
    go_wp2_with fail
    go_ret
    exact ⟨by rw [HW.out]; rfl, rfl⟩

/-- How many bits of eight are set. -/
def pc (s : Nat) : Nat := ((List.range 8).filter fun k => s.testBit k).length
theorem pc_step : ∀ s : Fin 256, s.val ≠ 0 → pc (s.val &&& (s.val - 1)) + 1 = pc s.val ∧ (s.val &&& (s.val - 1)) < s.val := by decide +kernel
theorem pc_le (s : Nat) : pc s ≤ 8 := by
  unfold pc
  exact Nat.le_trans (List.length_filter_le _ _) (by simp)

theorem count_any (s : Nat) (w : World) (hs : s < 256) :
    Calls Try.prog 29 #[.int .u16 s] w fun e w' => e = .returned (.int .i64 (pc s)) ∧ w = w' := by
  have hpl := pc_le s
  go_enter Try.func29, Try.ntmps29
  go_wp2_with fail
  go_loop [0, 3] (fun v i => ∃ t k : Nat, t < 256 ∧ v = .int .u16 t ∧ i = .int .i64 k ∧ pc t + k = pc s) (fun v _ => (intOf v).toNat)
  case atStart => exact ⟨s, 0, hs, rfl, rfl, by omega⟩
  case round =>
    obtain ⟨t, k, ht, rfl, rfl, hk⟩ := hrel
    by_cases h0 : t = 0
    · subst h0
      have h00 : pc 0 = 0 := by decide
      have HK := Lib.hid (show k = pc s by omega)
      clear h00
      clear hk
      go_wp2_with fail
      go_ret
      exact ⟨by rw [← HK.out]; rfl, rfl⟩
    · obtain ⟨hp, hlt⟩ := pc_step ⟨t, ht⟩ h0
      dsimp only at hp hlt
      have hand := u16_and_nat t (t - 1) (by omega) (by omega)
      have hsub : ((t - 1 : Nat) : Int) = (t : Int) - 1 := by omega
      rw [hsub] at hand
      have hk9 : k ≤ 8 := by omega
      have HK := Lib.hid (show pc (t &&& (t - 1)) + (k + 1) = pc s by omega)
      have HL := Lib.hid hlt
      have hb : ((t : Int) == 0) = false := by simp; omega
      have hb2 : ((t : Int) != 0) = true := by simp; omega
      have ht1 : 1 ≤ t := by omega
      generalize t &&& (t - 1) = q at hand HK HL ⊢
      clear hp hlt hk hsub h0
      go_wp2_with fail
      go_round
      case rel => exact ⟨q, k + 1, by have := HL.out; omega, rfl, by go_num, HK.out⟩
      case measure => have := HL.out; simp [intOf]; omega

/-- A row's nodes as bits. -/
def setN (n : Int) (l : List Int) : Nat := l.foldl (withN n) 0
theorem setN_snoc (n : Int) (l : List Int) (x : Int) : setN n (l ++ [x]) = withN n (setN n l) x := by simp [setN]
theorem withN_bit (n : Int) (s : Nat) (x : Int) (k : Nat) : (withN n s x).testBit k = (s.testBit k || decide ((1 ≤ x ∧ x ≤ n) ∧ x = (k : Int))) := by
  unfold withN
  split
  · rename_i h
    rw [Nat.testBit_or, Nat.testBit_two_pow]
    congr 1
    rw [decide_eq_decide]
    constructor
    · intro e; exact ⟨h, by omega⟩
    · intro e; omega
  · rename_i h
    simp [h]
theorem foldN_bit (n : Int) (k : Nat) : ∀ (l : List Int) (s : Nat), (l.foldl (withN n) s).testBit k = (s.testBit k || decide (1 ≤ (k : Int) ∧ (k : Int) ≤ n ∧ (k : Int) ∈ l))
  | [], s => by simp
  | x :: l, s => by
    rw [List.foldl_cons, foldN_bit n k l, withN_bit, Bool.or_assoc]
    congr 1
    rw [← Bool.decide_or, decide_eq_decide]
    simp only [List.mem_cons]
    constructor
    · rintro (⟨h, rfl⟩ | h)
      · exact ⟨h.1, h.2, .inl rfl⟩
      · exact ⟨h.1, h.2.1, .inr h.2.2⟩
    · rintro ⟨h1, h2, rfl | h3⟩
      · exact .inl ⟨⟨h1, h2⟩, rfl⟩
      · exact .inr ⟨h1, h2, h3⟩
theorem pc_setN (n : Int) (l : List Int) : pc (setN n l) = cntUp n l 8 := by
  unfold pc cntUp setN
  congr 1
  apply List.filter_congr
  intro k _
  rw [foldN_bit]
  simp only [Nat.zero_testBit, Bool.false_or, cntB, inB, ← Bool.decide_and]
  rw [decide_eq_decide]
  constructor
  · rintro ⟨h1, h2, h3⟩; exact ⟨⟨by omega, h2⟩, h3⟩
  · rintro ⟨⟨h1, h2⟩, h3⟩; exact ⟨by omega, h2, h3⟩
theorem setN_lt (n : Int) (hn : n ≤ 7) : ∀ (l : List Int) (s : Nat), s < 256 → l.foldl (withN n) s < 256
  | [], _, h => h
  | _ :: l, _, h => setN_lt n hn l _ (withN_lt hn h)

theorem enough_any (x : Int) (A : Option Addr) (n c B : Nat) (l : List Int) (w : World) (hr : Rd w B A (iv l)) (hl : l.length = n) (hn : n ≤ 1099511627776) :
    Calls Try.prog 18 #[.int .i64 x, .slice A n c] w fun e w' => e = .returned (.bool (enoughB x l)) ∧ w = w' := by
  by_cases hx : nodesB x = true
  · have hxx := nodesB_of hx
    have hx7 : x ≤ 7 := by omega
    have hx0 : 0 ≤ x := by omega
    clear hxx
    have H := Lib.hid (And.intro hr hl); clear hr hl
    go_enter Try.func18, Try.ntmps18
    go_wp2_with fail
    refine (nodes_any x w).mono ?_
    rintro e w' ⟨rfl, rfl⟩
    go_wp2_with fail
    go_loop [6, 8, 14] (fun v o i => ∃ k : Nat, k ≤ n ∧ i = .int .i64 k ∧ v = .int .u16 (setN x (l.take k))) (fun _ _ i => n - (intOf i).toNat)
    case atStart => exact ⟨0, by omega, rfl, rfl⟩
    case round =>
      obtain ⟨k, hk, rfl, rfl⟩ := hrel
      by_cases hlt : k < n
      · have hkl : k < l.length := by have := H.out.2; omega
        obtain ⟨b, off, rfl, _, hc⟩ := H.out.1.at_ (k := k) (by rw [iv_length]; exact hkl)
        have hcell := hc k _ (iv_at l k hkl)
        clear hc
        have hs := setN_lt x hx7 (l.take k) 0 (by omega)
        have HS := Lib.hid (show setN x (l.take (k + 1)) = withN x (setN x (l.take k)) l[k] by rw [List.take_succ_eq_append_getElem hkl, setN_snoc])
        change setN x (l.take k) < 256 at hs
        have HL := Lib.hid hs; clear hs
        go_wp2_with fail
        refine (with_any (setN x (l.take k)) l[k] x w HL.out hx7).mono ?_
        rintro e w' ⟨rfl, rfl⟩
        go_wp2_with fail
        go_round
        case rel => exact ⟨k + 1, by omega, by go_num, by rw [HS.out]⟩
        case measure => simp [intOf]; omega
      · obtain rfl : k = n := by omega
        have e : l.take k = l := List.take_of_length_le (by have := H.out.2; omega)
        rw [e]
        have HL := Lib.hid (setN_lt x hx7 l 0 (by omega))
        change Hid (setN x l < 256) at HL
        have hcl := cntUp_le x l 8
        have HE := Lib.hid (show enoughB x l = decide (x < 2 * (cntUp x l 8 : Int)) by unfold enoughB; rw [hx]; rfl)
        go_wp2_with fail
        refine (count_any (setN x l) w HL.out).mono ?_
        rintro e w' ⟨rfl, rfl⟩
        rw [pc_setN]
        generalize cntUp x l 8 = z at hcl HE ⊢
        go_wp2_with fail
        go_ret
        exact ⟨by rw [HE.out]; rfl, rfl⟩
  · have hnf : nodesB x = false := by simpa using hx
    have HE := Lib.hid (show enoughB x l = false by unfold enoughB; rw [hnf]; rfl)
    clear hx
    go_enter Try.func18, Try.ntmps18
    go_wp2_with fail
    refine (nodes_any x w).mono ?_
    rintro e w' ⟨rfl, rfl⟩
    go_wp2_with fail
    go_ret
    exact ⟨by rw [HE.out]; rfl, rfl⟩
end Go.Proofs.Ytlomahddominlaa
