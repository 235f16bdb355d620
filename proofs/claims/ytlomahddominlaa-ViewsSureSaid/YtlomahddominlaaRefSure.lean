/- The document's answer: how many have a number, and the greatest that enough have. -/
import Derived.Test.YtlomahddominlaaOpenA
namespace Go.Proofs.Ytlomahddominlaa
open Go.RowKit

/-- Has node k told a number from n on, among the first so many? -/
def toldB (l : List (Int × Int)) (n : Int) (k : Nat) : Bool := inB (k : Int) (lN l n)
theorem toldB_snoc (l : List (Int × Int)) (a : Int × Int) (n : Int) (k : Nat) : toldB (l ++ [a]) n k = (toldB l n k || (decide (a.1 = (k : Int)) && decide (n ≤ a.2))) := by
  simp only [toldB, inB, lN_snoc]
  rw [Bool.eq_iff_iff]
  simp only [Bool.or_eq_true, Bool.and_eq_true, decide_eq_true_eq, List.mem_append]
  by_cases h : n ≤ a.2
  · rw [if_pos h]
    simp only [List.mem_singleton]
    constructor
    · rintro (g | g)
      · exact .inl g
      · exact .inr ⟨g.symm, h⟩
    · rintro (g | g)
      · exact .inl g
      · exact .inr g.1.symm
  · rw [if_neg h]
    constructor
    · rintro (g | g)
      · exact .inl g
      · cases g
    · rintro (g | g)
      · exact .inl g
      · exact absurd g.2 h
/-- What the document counts over the nodes ahead of k. -/
def cntTo (N : Int) (l : List (Int × Int)) (n : Int) (k : Nat) : Nat := cntUp N (lN l n) k
theorem cntTo_succ (N : Int) (l : List (Int × Int)) (n : Int) (k : Nat) (h1 : 1 ≤ k) (h2 : (k : Int) ≤ N) : cntTo N l n (k + 1) = cntTo N l n k + (if toldB l n k = true then 1 else 0) := by
  unfold cntTo
  rw [cntUp_succ]
  have : cntB N (lN l n) k = toldB l n k := by
    simp only [cntB, toldB]
    rw [decide_eq_true h1, decide_eq_true h2]
    simp
  rw [this]
theorem cntTo_one (N : Int) (l : List (Int × Int)) (n : Int) : cntTo N l n 1 = 0 := by
  unfold cntTo
  rw [cntUp_succ]
  simp [cntUp, cntB]
theorem cntTo_end (N : Int) (l : List (Int × Int)) (n : Int) : ∀ (d k : Nat), N < (k : Int) → cntUp N (lN l n) (k + d) = cntUp N (lN l n) k
  | 0, _, _ => rfl
  | d + 1, k, h => by
    rw [← Nat.add_assoc, cntUp_succ, cntTo_end N l n d k h]
    have : cntB N (lN l n) (k + d) = false := by
      simp only [cntB]
      rw [decide_eq_false (p := ((k + d : Nat) : Int) ≤ N) (by omega)]
      simp
    rw [this]
    simp

set_option maxHeartbeats 1600000 in
theorem refCount_any (N own n : Int) (A : Option Addr) (m c C : Nat) (l : List (Int × Int)) (w : World) (hN : nodesB N = true) (hr : Rd w C A (ackCells l)) (hl : l.length = m) (hm : m ≤ 100000) :
    Calls Try.prog 40 #[.int .i64 N, .int .i64 own, .slice A m c, .int .i64 n] w fun e w' => e = .returned (.int .i64 (cntA N own l n : Nat)) ∧ w = w' := by
  have h357 := nodesB_of hN
  have hN1 : 3 ≤ N := by omega
  have hN7 : N ≤ 7 := by omega
  have H := Lib.hid (And.intro hr hl)
  clear hr hl hN h357
  obtain ⟨NN, rfl⟩ := Int.eq_ofNat_of_zero_le (show 0 ≤ N by omega)
  have hle : ∀ k, cntTo (NN : Int) l n k ≤ k := fun k => cntUp_le _ _ k
  have HLE := Lib.hid hle; clear hle
  have HEnd := Lib.hid (show cntTo (NN : Int) l n (NN + 1) = cntUp (NN : Int) (lN l n) 8 by
    unfold cntTo
    have := cntTo_end (NN : Int) l n (7 - NN) (NN + 1) (by omega)
    rw [← this]
    congr 1
    omega)
  have hcz : (n ≤ own ∧ (if n ≤ own then 1 else 0) = 1) ∨ (¬ n ≤ own ∧ (if n ≤ own then 1 else 0) = 0) := by
    by_cases ho : n ≤ own
    · exact .inl ⟨ho, by rw [if_pos ho]⟩
    · exact .inr ⟨ho, by rw [if_neg ho]⟩
  have hres : ∃ z : Nat, (if n ≤ own then 1 else 0) = z ∧ cntA (NN : Int) own l n = z + cntTo (NN : Int) l n (NN + 1) := ⟨_, rfl, by rw [HEnd.out]; unfold cntA; omega⟩
  obtain ⟨z, hz, hres⟩ := hres
  rw [hz] at hcz
  rw [hres]
  clear hz hres
  rcases hcz with ⟨ho, rfl⟩ | ⟨ho, rfl⟩
  · go_enter Try.func40, Try.ntmps40
    go_wp2_with fail
    go_loop [9, 10] (fun cc kk => ∃ k : Nat, 1 ≤ k ∧ k ≤ NN + 1 ∧ kk = .int .i64 k ∧ cc = .int .i64 (1 + cntTo (NN : Int) l n k : Nat)) (fun _ kk => NN + 1 - (intOf kk).toNat)
    case atStart => exact ⟨1, by omega, by omega, rfl, by rw [cntTo_one]; rfl⟩
    case round =>
      obtain ⟨k, hk1, hk, rfl, rfl⟩ := hrel
      have hck := HLE.out k
      by_cases hlt : k ≤ NN
      · have g1 : (k : Int) ≤ (NN : Int) := by omega
        have HSt := Lib.hid (cntTo_succ (NN : Int) l n k hk1 g1)
        obtain ⟨q, hq⟩ : ∃ q, cntTo (NN : Int) l n k = q := ⟨_, rfl⟩
        rw [hq] at hck ⊢
        have HQ := Lib.hid hq; clear hq
        go_wp2_with fail
        go_loop [11, 12] (fun has i => ∃ j : Nat, j ≤ m ∧ i = .int .i64 j ∧ has = .bool (toldB (l.take j) n k)) (fun _ i => m - (intOf i).toNat)
        case atStart => exact ⟨0, by omega, rfl, rfl⟩
        case round =>
          obtain ⟨j, hj, rfl, rfl⟩ := hrel
          by_cases hjm : j < m
          · have g3 : (j : Int) < (m : Int) := by omega
            have hjl : j < l.length := by have := H.out.2; omega
            obtain ⟨b, off, hA, hbC, q0, q1⟩ := ack_rd H.out.1 j hjl
            subst hA
            have hst := toldB_snoc (l.take j) (l[j]'hjl) n k
            rw [← List.take_succ_eq_append_getElem hjl] at hst
            generalize l[j]'hjl = a at *
            obtain ⟨x, y⟩ := a
            simp only at hst q0 q1
            obtain ⟨t1, ht1⟩ : ∃ t, toldB (l.take j) n k = t := ⟨_, rfl⟩
            rw [ht1] at hst ⊢
            have HT := Lib.hid ht1; clear ht1
            cases t1
            · by_cases hxk : x = (k : Int)
              · have hxb : (x == (k : Int)) = true := by simp [hxk]
                by_cases hy : n ≤ y
                · have HS := Lib.hid (hst.trans (by rw [decide_eq_true hxk, decide_eq_true hy]; rfl : _ = true)); clear hst
                  clear hxk
                  go_wp2_with fail
                  go_round
                  case rel => exact ⟨j + 1, by omega, by go_num, by rw [HS.out]⟩
                  case measure => simp [intOf]; omega
                · have HS := Lib.hid (hst.trans (by rw [decide_eq_false hy, Bool.and_false]; rfl : _ = false)); clear hst
                  clear hxk
                  go_wp2_with fail
                  go_round
                  case rel => exact ⟨j + 1, by omega, by go_num, by rw [HS.out]⟩
                  case measure => simp [intOf]; omega
              · have hxb : (x == (k : Int)) = false := by simp [hxk]
                have HS := Lib.hid (hst.trans (by rw [decide_eq_false hxk]; rfl : _ = false)); clear hst
                clear hxk
                go_wp2_with fail
                go_round
                case rel => exact ⟨j + 1, by omega, by go_num, by rw [HS.out]⟩
                case measure => simp [intOf]; omega
            · have HS := Lib.hid (hst.trans (Bool.true_or _)); clear hst
              go_wp2_with fail
              go_round
              case rel => exact ⟨j + 1, by omega, by go_num, by rw [HS.out]⟩
              case measure => simp [intOf]; omega
          · obtain rfl : j = m := by omega
            have htk : l.take j = l := List.take_of_length_le (by have := H.out.2; omega)
            rw [htk]
            clear htk
            have hs := HSt.out
            rw [HQ.out] at hs
            obtain ⟨t1, ht1⟩ : ∃ t, toldB l n k = t := ⟨_, rfl⟩
            rw [ht1] at hs ⊢
            clear ht1
            have HS := Lib.hid hs; clear hs
            cases t1
            · have hs2 : cntTo (NN : Int) l n (k + 1) = q := HS.out
              have HS2 := Lib.hid hs2; clear hs2
              go_wp2_with fail
              go_round
              case rel => exact ⟨k + 1, by omega, by omega, by go_num, by rw [HS2.out] <;> go_num⟩
              case measure => simp [intOf]; omega
            · have hs2 : cntTo (NN : Int) l n (k + 1) = q + 1 := HS.out
              have HS2 := Lib.hid hs2; clear hs2
              go_wp2_with fail
              go_round
              case rel => exact ⟨k + 1, by omega, by omega, by go_num, by rw [HS2.out] <;> go_num⟩
              case measure => simp [intOf]; omega
      · obtain rfl : k = NN + 1 := by omega
        obtain ⟨q, hq⟩ : ∃ q, cntTo (NN : Int) l n (NN + 1) = q := ⟨_, rfl⟩
        rw [hq] at hck ⊢
        have HQ := Lib.hid hq; clear hq
        go_wp2_with fail
        go_ret
        refine ⟨?_, rfl⟩
        rw [HQ.out]
        first | rfl | exact ret_v (by go_num)
  · go_enter Try.func40, Try.ntmps40
    go_wp2_with fail
    go_loop [9, 10] (fun cc kk => ∃ k : Nat, 1 ≤ k ∧ k ≤ NN + 1 ∧ kk = .int .i64 k ∧ cc = .int .i64 (0 + cntTo (NN : Int) l n k : Nat)) (fun _ kk => NN + 1 - (intOf kk).toNat)
    case atStart => exact ⟨1, by omega, by omega, rfl, by rw [cntTo_one]; rfl⟩
    case round =>
      obtain ⟨k, hk1, hk, rfl, rfl⟩ := hrel
      have hck := HLE.out k
      by_cases hlt : k ≤ NN
      · have g1 : (k : Int) ≤ (NN : Int) := by omega
        have HSt := Lib.hid (cntTo_succ (NN : Int) l n k hk1 g1)
        obtain ⟨q, hq⟩ : ∃ q, cntTo (NN : Int) l n k = q := ⟨_, rfl⟩
        rw [hq] at hck ⊢
        have HQ := Lib.hid hq; clear hq
        go_wp2_with fail
        go_loop [11, 12] (fun has i => ∃ j : Nat, j ≤ m ∧ i = .int .i64 j ∧ has = .bool (toldB (l.take j) n k)) (fun _ i => m - (intOf i).toNat)
        case atStart => exact ⟨0, by omega, rfl, rfl⟩
        case round =>
          obtain ⟨j, hj, rfl, rfl⟩ := hrel
          by_cases hjm : j < m
          · have g3 : (j : Int) < (m : Int) := by omega
            have hjl : j < l.length := by have := H.out.2; omega
            obtain ⟨b, off, hA, hbC, q0, q1⟩ := ack_rd H.out.1 j hjl
            subst hA
            have hst := toldB_snoc (l.take j) (l[j]'hjl) n k
            rw [← List.take_succ_eq_append_getElem hjl] at hst
            generalize l[j]'hjl = a at *
            obtain ⟨x, y⟩ := a
            simp only at hst q0 q1
            obtain ⟨t1, ht1⟩ : ∃ t, toldB (l.take j) n k = t := ⟨_, rfl⟩
            rw [ht1] at hst ⊢
            have HT := Lib.hid ht1; clear ht1
            cases t1
            · by_cases hxk : x = (k : Int)
              · have hxb : (x == (k : Int)) = true := by simp [hxk]
                by_cases hy : n ≤ y
                · have HS := Lib.hid (hst.trans (by rw [decide_eq_true hxk, decide_eq_true hy]; rfl : _ = true)); clear hst
                  clear hxk
                  go_wp2_with fail
                  go_round
                  case rel => exact ⟨j + 1, by omega, by go_num, by rw [HS.out]⟩
                  case measure => simp [intOf]; omega
                · have HS := Lib.hid (hst.trans (by rw [decide_eq_false hy, Bool.and_false]; rfl : _ = false)); clear hst
                  clear hxk
                  go_wp2_with fail
                  go_round
                  case rel => exact ⟨j + 1, by omega, by go_num, by rw [HS.out]⟩
                  case measure => simp [intOf]; omega
              · have hxb : (x == (k : Int)) = false := by simp [hxk]
                have HS := Lib.hid (hst.trans (by rw [decide_eq_false hxk]; rfl : _ = false)); clear hst
                clear hxk
                go_wp2_with fail
                go_round
                case rel => exact ⟨j + 1, by omega, by go_num, by rw [HS.out]⟩
                case measure => simp [intOf]; omega
            · have HS := Lib.hid (hst.trans (Bool.true_or _)); clear hst
              go_wp2_with fail
              go_round
              case rel => exact ⟨j + 1, by omega, by go_num, by rw [HS.out]⟩
              case measure => simp [intOf]; omega
          · obtain rfl : j = m := by omega
            have htk : l.take j = l := List.take_of_length_le (by have := H.out.2; omega)
            rw [htk]
            clear htk
            have hs := HSt.out
            rw [HQ.out] at hs
            obtain ⟨t1, ht1⟩ : ∃ t, toldB l n k = t := ⟨_, rfl⟩
            rw [ht1] at hs ⊢
            clear ht1
            have HS := Lib.hid hs; clear hs
            cases t1
            · have hs2 : cntTo (NN : Int) l n (k + 1) = q := HS.out
              have HS2 := Lib.hid hs2; clear hs2
              go_wp2_with fail
              go_round
              case rel => exact ⟨k + 1, by omega, by omega, by go_num, by rw [HS2.out] <;> go_num⟩
              case measure => simp [intOf]; omega
            · have hs2 : cntTo (NN : Int) l n (k + 1) = q + 1 := HS.out
              have HS2 := Lib.hid hs2; clear hs2
              go_wp2_with fail
              go_round
              case rel => exact ⟨k + 1, by omega, by omega, by go_num, by rw [HS2.out] <;> go_num⟩
              case measure => simp [intOf]; omega
      · obtain rfl : k = NN + 1 := by omega
        obtain ⟨q, hq⟩ : ∃ q, cntTo (NN : Int) l n (NN + 1) = q := ⟨_, rfl⟩
        rw [hq] at hck ⊢
        have HQ := Lib.hid hq; clear hq
        go_wp2_with fail
        go_ret
        refine ⟨?_, rfl⟩
        rw [HQ.out]
        first | rfl | exact ret_v (by go_num)

theorem sureN_foldl (N own : Int) (l : List (Int × Int)) (h : nodesB N = true) : sureN N own l = (l.map (·.2)).foldl (stepS N own l) (stepS N own l 0 own) := by
  unfold sureN
  rw [if_pos h]
  rfl
set_option maxHeartbeats 1600000 in
theorem refSure_any (N own : Int) (A : Option Addr) (m c C : Nat) (l : List (Int × Int)) (w : World) (hr : Rd w C A (ackCells l)) (hl : l.length = m) (hm : m ≤ 100000) :
    Calls Try.prog 25 #[.int .i64 N, .int .i64 own, .slice A m c] w fun e w' => e = .returned (.int .i64 (sureN N own l)) ∧ w = w' := by
  have HNo := Lib.hid (refNodes_any N w)
  cases hnb : nodesB N
  · have hz : sureN N own l = 0 := by unfold sureN; rw [hnb]; rfl
    rw [hz]
    rw [hnb] at HNo
    clear hz hnb hr hl
    go_enter Try.func25, Try.ntmps25
    go_wp2_with fail
    refine HNo.out.mono ?_
    rintro e w' ⟨rfl, rfl⟩
    go_wp2_with fail
    go_ret
    exact ⟨rfl, rfl⟩
  · have HC := Lib.hid (fun n : Int => refCount_any N own n A m c C l w hnb hr hl hm)
    have hle : ∀ n : Int, cntA N own l n ≤ 9 := fun n => by
      have := cntUp_le N (lN l n) 8
      unfold cntA
      split <;> omega
    have HLe := Lib.hid hle; clear hle
    have h357 := nodesB_of hnb
    have hN1 : 3 ≤ N := by omega
    have hN7 : N ≤ 7 := by omega
    clear h357
    have H := Lib.hid (And.intro hr hl)
    have HF := Lib.hid (sureN_foldl N own l hnb)
    rw [hnb] at HNo
    clear hr hl hnb
    -- what a round does, the number known
    have HStep := Lib.hid (show ∀ b n : Int, (stepS N own l b n = b ∧ ¬ (b < n ∧ N < 2 * (cntA N own l n : Int))) ∨ (stepS N own l b n = n ∧ b < n ∧ N < 2 * (cntA N own l n : Int)) from fun b n => by
      unfold stepS hasB
      by_cases h : b < n ∧ N < 2 * (cntA N own l n : Int)
      · exact .inr ⟨if_pos ⟨h.1, by simpa using h.2⟩, h.1, h.2⟩
      · exact .inl ⟨if_neg (by simpa using h), h⟩)
    go_enter Try.func25, Try.ntmps25
    go_wp2_with fail
    refine HNo.out.mono ?_
    rintro e w' ⟨rfl, rfl⟩
    go_wp2_with fail
    go_loop [7, 8, 9] (fun b i _ => ∃ k : Nat, k ≤ m + 1 ∧ i = .int .i64 ((k : Int) - 1) ∧ b = .int .i64 (((alls own l).take k).foldl (stepS N own l) 0)) (fun _ i _ => (m - intOf i).toNat)
    case atStart => exact ⟨0, by omega, rfl, rfl⟩
    case round =>
      obtain ⟨k, hk, rfl, rfl⟩ := hrel
      by_cases hlt : k ≤ m
      · have hal : k < (alls own l).length := by have := H.out.2; simp [alls]; omega
        have htk : (alls own l).take (k + 1) = (alls own l).take k ++ [(alls own l)[k]'hal] := List.take_succ_eq_append_getElem hal
        obtain ⟨b, hb⟩ : ∃ b, ((alls own l).take k).foldl (stepS N own l) 0 = b := ⟨_, rfl⟩
        obtain ⟨n, hn⟩ : ∃ n, (alls own l)[k]'hal = n := ⟨_, rfl⟩
        have hnx : ((alls own l).take (k + 1)).foldl (stepS N own l) 0 = stepS N own l b n := by rw [htk, List.foldl_append, hb, hn]; rfl
        rw [hb]
        have HX := Lib.hid hnx
        clear hnx hb htk
        have hst := HStep.out b n
        have hcn := HLe.out n
        have HCn := Lib.hid (HC.out n)
        obtain ⟨q, hq⟩ : ∃ q, cntA N own l n = q := ⟨_, rfl⟩
        rw [hq] at hst hcn HCn
        clear hq
        have g3 : (k : Int) - 1 < (m : Int) := by omega
        have HSt := Lib.hid hst; clear hst
        have HNk := Lib.hid hn; clear hn
        rcases Nat.eq_zero_or_pos k with hk0 | hk0
        · subst hk0
          have hno : own = n := by have := HNk.out; simpa [alls] using this
          subst hno
          rcases HSt.out with ⟨hs, hc⟩ | ⟨hs, hc1, hc2⟩
          · have HS := Lib.hid hs; clear hs
            by_cases hbn : b < own
            · have hc2 : ¬ N < 2 * (q : Int) := fun h => hc ⟨hbn, h⟩
              clear hc
              go_wp2_with fail
              refine HCn.out.mono ?_
              rintro e w' ⟨rfl, rfl⟩
              go_wp2_with fail
              go_round
              case rel => exact ⟨1, by omega, by go_num, by rw [HX.out, HS.out]⟩
              case measure => first | (simp [intOf]; done) | (simp [intOf]; omega)
            · clear hc
              go_wp2_with fail
              go_round
              case rel => exact ⟨1, by omega, by go_num, by rw [HX.out, HS.out]⟩
              case measure => first | (simp [intOf]; done) | (simp [intOf]; omega)
          · have HS := Lib.hid hs; clear hs
            go_wp2_with fail
            refine HCn.out.mono ?_
            rintro e w' ⟨rfl, rfl⟩
            go_wp2_with fail
            go_round
            case rel => exact ⟨1, by omega, by go_num, by rw [HX.out, HS.out]⟩
            case measure => first | (simp [intOf]; done) | (simp [intOf]; omega)
        · obtain ⟨j, rfl⟩ : ∃ j, k = j + 1 := ⟨k - 1, by omega⟩
          have hjl : j < l.length := by have := H.out.2; omega
          obtain ⟨bb, off, hA, hbC, q0, q1⟩ := ack_rd H.out.1 j hjl
          subst hA
          have hno : (l[j]'hjl).2 = n := by have := HNk.out; simpa [alls] using this
          rw [hno] at q1
          clear hno q0
          rcases HSt.out with ⟨hs, hc⟩ | ⟨hs, hc1, hc2⟩
          · have HS := Lib.hid hs; clear hs
            by_cases hbn : b < n
            · have hc2 : ¬ N < 2 * (q : Int) := fun h => hc ⟨hbn, h⟩
              clear hc
              go_wp2_with fail
              refine HCn.out.mono ?_
              rintro e w' ⟨rfl, rfl⟩
              go_wp2_with fail
              go_round
              case rel => exact ⟨j + 2, by omega, by go_num, by rw [HX.out, HS.out]⟩
              case measure => first | (simp [intOf]; done) | (simp [intOf]; omega)
            · clear hc
              go_wp2_with fail
              go_round
              case rel => exact ⟨j + 2, by omega, by go_num, by rw [HX.out, HS.out]⟩
              case measure => first | (simp [intOf]; done) | (simp [intOf]; omega)
          · have HS := Lib.hid hs; clear hs
            go_wp2_with fail
            refine HCn.out.mono ?_
            rintro e w' ⟨rfl, rfl⟩
            go_wp2_with fail
            go_round
            case rel => exact ⟨j + 2, by omega, by go_num, by rw [HX.out, HS.out]⟩
            case measure => first | (simp [intOf]; done) | (simp [intOf]; omega)
      · obtain rfl : k = m + 1 := by omega
        have htk : (alls own l).take (m + 1) = alls own l := List.take_of_length_le (by have := H.out.2; simp [alls]; omega)
        have hfin : ((alls own l).take (m + 1)).foldl (stepS N own l) 0 = sureN N own l := by rw [htk, HF.out]; rfl
        rw [hfin]
        clear hfin htk
        obtain ⟨r, hr⟩ : ∃ r, sureN N own l = r := ⟨_, rfl⟩
        rw [hr]
        have HR := Lib.hid hr; clear hr
        go_wp2_with fail
        go_ret
        refine ⟨?_, rfl⟩
        rw [HR.out]
        rfl
end Go.Proofs.Ytlomahddominlaa
