/- code.Reader.Text, and the document's ReadNumber, ReadInt, ReadText. -/
import Derived.Test.YtlipnncbpbbdnaaReader
namespace Go.Proofs.Ytlipnncbpbbdnaa
open Go.RowKit

theorem text_nil (w : World) :
    Calls Try.prog 26 #[.pointer none] w fun e w' => e = .returned (.tuple #[.string ⟨#[]⟩, .int .i64 3]) ∧ w = w' := by
  go_enter Try.func26, Try.ntmps26
  go_wp2_with fail
  refine (count_nil w).mono ?_
  rintro e w' ⟨rfl, rfl⟩
  go_wp2_with fail
  go_ret2
  exact ⟨rfl, rfl⟩

theorem text_any (g : Nat) (l : List UInt8) (w : World) (h : Holds w g l) :
    Calls Try.prog 26 #[.pointer (some ⟨g, 0, none⟩)] w fun e w' => e = .returned (.tuple #[.string (text l).1, .int .i64 (text l).2.2]) ∧ Holds w' g (l.drop (text l).2.1) ∧ w.grownBy w' (some g) := by
  have hc := Lib.hid (count_any g l w h)
  have HH := Lib.hid h
  unfold text
  unfold num at hc
  by_cases h4 : l.length < 4
  · rw [if_pos h4]
    rw [if_pos h4] at hc
    clear h
    go_enter Try.func26, Try.ntmps26
    go_wp2_with fail
    refine Calls.mono hc.out ?_
    rintro e w' ⟨rfl, rfl⟩
    go_wp2_with fail
    go_ret2
    exact ⟨rfl, HH.out, World.grownBy.refl _ _⟩
  · rw [if_neg h4]
    rw [if_neg h4] at hc
    have H4 := Lib.hid (show 4 ≤ l.length by omega)
    have h5 : beV (l.take 4) < 4294967296 := beV_lt4 _ (by simp; omega)
    clear h4
    obtain ⟨y, hy⟩ : ∃ y, beV (l.take 4) = y := ⟨_, rfl⟩
    rw [hy] at hc h5 ⊢
    clear hy
    by_cases hb : 2147483647 < y
    · rw [if_pos hb] at hc
      rw [if_pos (by omega)]
      clear h
      go_enter Try.func26, Try.ntmps26
      go_wp2_with fail
      refine Calls.mono hc.out ?_
      rintro e w' ⟨rfl, rfl⟩
      go_wp2_with fail
      go_ret2
      exact ⟨rfl, HH.out, World.grownBy.refl _ _⟩
    rw [if_neg hb] at hc
    by_cases hb2 : 65536 < y
    · rw [if_pos hb2]
      clear h
      go_enter Try.func26, Try.ntmps26
      go_wp2_with fail
      refine Calls.mono hc.out ?_
      rintro e w' ⟨rfl, rfl⟩
      go_wp2_with fail
      go_ret2
      exact ⟨rfl, HH.out, World.grownBy.refl _ _⟩
    rw [if_neg hb2]
    have hl := Lib.hid (left_any g l w h)
    have hn : l.length ≤ 9223372036854775807 := by
      obtain ⟨A, n, c, h1, h2, h3, h6, h7⟩ := h
      unfold maxLen at h7
      omega
    by_cases hb3 : l.length - 4 < y
    · rw [if_pos hb3]
      clear h
      have h6 := H4.out
      have hb4 : ((l.length : Int) - 4 < (y : Int)) := by omega
      go_enter Try.func26, Try.ntmps26
      go_wp2_with fail
      refine Calls.mono hc.out ?_
      rintro e w' ⟨rfl, rfl⟩
      go_wp2_with fail
      refine Calls.mono hl.out ?_
      rintro e w' ⟨rfl, rfl⟩
      go_wp2_with fail
      go_ret2
      exact ⟨rfl, HH.out, World.grownBy.refl _ _⟩
    · rw [if_neg hb3]
      have h6 := H4.out
      have hb4 : ¬ ((l.length : Int) - 4 < (y : Int)) := by omega
      have hp := Lib.hid (pass_any g l 4 w h h6)
      have hy6 : y ≤ 65536 := by omega
      have HY := Lib.hid (show y ≤ (l.drop 4).length by rw [List.length_drop]; omega)
      clear h hb hb2 hb3 h5
      go_enter Try.func26, Try.ntmps26
      go_wp2_with fail
      refine Calls.mono hc.out ?_
      rintro e w' ⟨rfl, rfl⟩
      go_wp2_with fail
      refine Calls.mono hl.out ?_
      rintro e w' ⟨rfl, rfl⟩
      go_wp2_with fail
      refine Calls.mono hp.out ?_
      rintro e w1 ⟨rfl, h2, h3⟩
      have hp2 := Lib.hid (pass_any g (l.drop 4) y w1 h2 HY.out)
      obtain ⟨A, n, c, g1, g2, g3, g4, g5⟩ := h2
      have hcell := cell_of_block g1
      have hyn : y ≤ n := by have := HY.out; omega
      have hcv := conv_rd (P := Try.prog) w1 58 9 5 Try.underlying58 Try.underlying5 Try.underlying9 g A y c ((l.drop 4).take y) (by rw [← bv_take]; exact g2.take y) (by rw [List.length_take]; have := HY.out; omega)
      have H3 := Lib.hid h3
      clear g1 g2 g3 h3 hb4
      go_wp2_with fail
      refine Calls.mono hp2.out ?_
      rintro e w2 ⟨rfl, k2, k3⟩
      have K := Lib.hid (And.intro k2 k3); clear k2 k3
      go_wp2_with fail
      go_ret2
      refine ⟨rfl, ?_, grownBy_trans H3.out K.out.2⟩
      have := K.out.1
      rw [List.drop_drop] at this
      exact this

theorem beV4 (a b c d : UInt8) : beV [a, b, c, d] = ((a.toNat * 256 + b.toNat) * 256 + c.toNat) * 256 + d.toNat := by simp [beV]

theorem four_cons : ∀ l : List UInt8, ¬ l.length < 4 → ∃ a b c d r, l = a :: b :: c :: d :: r
  | [], h => absurd (by simp) h
  | [_], h => absurd (by simp) h
  | [_, _], h => absurd (by simp) h
  | [_, _, _], h => absurd (by simp) h
  | a :: b :: c :: d :: r, _ => ⟨a, b, c, d, r, rfl⟩

theorem refNumber_any (A : Option Addr) (n c B : Nat) (l : List UInt8) (w : World) (hr : Rd w B A (bv l)) (hl : l.length = n) (hn : n ≤ 9223372036854775807) :
    Calls Try.prog 23 #[.slice A n c] w fun e w' => e = .returned (.tuple #[.int .i64 (num l).1, .int .i64 (num l).2.1, .int .i64 (num l).2.2]) ∧ ∃ m, w' = w.drewN m := by
  unfold num
  by_cases h4 : l.length < 4
  · rw [if_pos h4]
    have hn4 : n < 4 := by omega
    clear hr hl h4
    go_enter Try.func23, Try.ntmps23
    go_wp2_with fail
    go_ret3
    exact ⟨rfl, 0, rfl⟩
  · rw [if_neg h4]
    obtain ⟨a, b, c4, d, rest, rfl⟩ := four_cons l h4
    clear h4
    have hn4 : ¬ n < 4 := by simp at hl; omega
    obtain ⟨bb, off, rfl, _, hc⟩ := hr.at_ (k := 0) (by simp [bv])
    have q0 : w.cell? ⟨bb, off, none⟩ = some (.int .u8 (a.toNat : Int)) := hc 0 _ rfl
    have q1 : w.cell? ⟨bb, off + 1, none⟩ = some (.int .u8 (b.toNat : Int)) := hc 1 _ rfl
    have q2 : w.cell? ⟨bb, off + 2, none⟩ = some (.int .u8 (c4.toNat : Int)) := hc 2 _ rfl
    have q3 : w.cell? ⟨bb, off + 3, none⟩ = some (.int .u8 (d.toNat : Int)) := hc 3 _ rfl
    clear hc hr hl
    rw [show (a :: b :: c4 :: d :: rest).take 4 = [a, b, c4, d] from rfl, beV4]
    have b0 := a.toNat_lt
    have b1 := b.toNat_lt
    have b2 := c4.toNat_lt
    have b3 := d.toNat_lt
    generalize a.toNat = x0 at *
    generalize b.toNat = x1 at *
    generalize c4.toNat = x2 at *
    generalize d.toNat = x3 at *
    by_cases hx : 127 < x0
    · rw [if_pos (by omega)]
      go_enter Try.func23, Try.ntmps23
      go_wp2_with fail
      go_ret3
      exact ⟨rfl, 0, rfl⟩
    · rw [if_neg (by omega)]
      go_enter Try.func23, Try.ntmps23
      go_wp2_with fail
      go_quiet (fail)
      have e1 : (16777216 * (x0 : Int) + 65536 * x1 + 256 * x2 + x3) = ((((x0 * 256 + x1) * 256 + x2) * 256 + x3 : Nat) : Int) := by omega
      have E1 := Lib.hid e1; clear e1
      go_wp2_with fail
      go_ret3
      exact ⟨by rw [← E1.out]; rfl, _, rfl⟩

theorem refInt_any (A : Option Addr) (n c B : Nat) (l : List UInt8) (w : World) (hr : Rd w B A (bv l)) (hl : l.length = n) (hn : n ≤ 9223372036854775807) :
    Calls Try.prog 25 #[.slice A n c] w fun e w' => e = .returned (.tuple #[.int .i64 (int l).1, .int .i64 (int l).2.1, .int .i64 (int l).2.2]) ∧ w = w' := by
  unfold int
  by_cases h4 : l.length < 8
  · rw [if_pos h4]
    have hn4 : n < 8 := by omega
    clear hr hl h4
    go_enter Try.func25, Try.ntmps25
    go_wp2_with fail
    go_ret3
    exact ⟨rfl, rfl⟩
  · rw [if_neg h4]
    have hn4 : ¬ n < 8 := by omega
    have HL := Lib.hid (And.intro hr hl); clear hr hl h4
    go_enter Try.func25, Try.ntmps25
    go_wp2_with fail
    go_loop [5, 6] (fun v i => ∃ t : Nat, t ≤ 8 ∧ i = .int .i64 t ∧ v = .int .u64 (beV (l.take t))) (fun _ i => 8 - (intOf i).toNat)
    case atStart => exact ⟨0, by omega, rfl, rfl⟩
    case round =>
      obtain ⟨t, ht, rfl, rfl⟩ := hrel
      by_cases hlt : t < 8
      · have htl : t < l.length := by have := HL.out.2; omega
        obtain ⟨b, off, rfl, _, hc2⟩ := HL.out.1.at_ (k := t) (by rw [bv_length]; exact htl)
        have hcell2 := hc2 t _ (bv_at l t htl)
        clear hc2
        have hsn := beV_snoc (l.take t) l[t]
        rw [← List.take_succ_eq_append_getElem htl] at hsn
        have HS := Lib.hid hsn; clear hsn
        have hy := beV_lt7 (l.take t) (by simp; omega)
        have hq := (l[t]).toNat_lt
        generalize beV (l.take t) = y at *
        generalize (l[t]).toNat = q at *
        go_wp2_with fail
        go_round
        case rel => exact ⟨t + 1, by omega, by go_num, by rw [HS.out]; exact ret_i (by omega)⟩
        case measure => simp [intOf]; omega
      · obtain rfl : t = 8 := by omega
        go_wp2_with fail
        go_ret3
        exact ⟨rfl, rfl⟩

theorem refText_any (A : Option Addr) (n c B : Nat) (l : List UInt8) (w : World) (hr : Rd w B A (bv l)) (hl : l.length = n) (hnc : n ≤ c) (hn : c ≤ 9223372036854775807) :
    Calls Try.prog 27 #[.slice A n c] w fun e w' => e = .returned (.tuple #[.string (text l).1, .int .i64 (text l).2.1, .int .i64 (text l).2.2]) ∧ ∃ m, w' = w.drewN m := by
  have hc := Lib.hid (refNumber_any A n c B l w hr hl (by omega))
  unfold text
  unfold num at hc
  by_cases h4 : l.length < 4
  · rw [if_pos h4]
    rw [if_pos h4] at hc
    clear hr hl h4
    go_enter Try.func27, Try.ntmps27
    go_wp2_with fail
    refine Calls.mono hc.out ?_
    rintro e w' ⟨rfl, m, rfl⟩
    go_wp2_with fail
    go_ret3
    exact ⟨rfl, m, rfl⟩
  · rw [if_neg h4]
    rw [if_neg h4] at hc
    have h5 : beV (l.take 4) < 4294967296 := beV_lt4 _ (by simp; omega)
    obtain ⟨y, hy⟩ : ∃ y, beV (l.take 4) = y := ⟨_, rfl⟩
    rw [hy] at hc h5 ⊢
    clear hy
    by_cases hb : 2147483647 < y
    · rw [if_pos hb] at hc
      rw [if_pos (by omega)]
      clear hr hl h4
      go_enter Try.func27, Try.ntmps27
      go_wp2_with fail
      refine Calls.mono hc.out ?_
      rintro e w' ⟨rfl, m, rfl⟩
      go_wp2_with fail
      go_ret3
      exact ⟨rfl, m, rfl⟩
    rw [if_neg hb] at hc
    by_cases hb2 : 65536 < y
    · rw [if_pos hb2]
      clear hr hl h4
      go_enter Try.func27, Try.ntmps27
      go_wp2_with fail
      refine Calls.mono hc.out ?_
      rintro e w' ⟨rfl, m, rfl⟩
      go_wp2_with fail
      go_ret3
      exact ⟨rfl, m, rfl⟩
    rw [if_neg hb2]
    have hn4 : 4 ≤ n := by omega
    by_cases hb3 : l.length - 4 < y
    · rw [if_pos hb3]
      have hb4 : ((n : Int) - 4 < (y : Int)) := by omega
      clear hr hl h4 hb3
      go_enter Try.func27, Try.ntmps27
      go_wp2_with fail
      refine Calls.mono hc.out ?_
      rintro e w' ⟨rfl, m, rfl⟩
      go_wp2_with fail
      go_ret3
      exact ⟨rfl, m, rfl⟩
    · rw [if_neg hb3]
      have hb4 : ¬ ((n : Int) - 4 < (y : Int)) := by omega
      have hy6 : y ≤ 65536 := by omega
      obtain ⟨bb, off, rfl, hbB, hcells⟩ := hr.at_ (k := 0) (by rw [bv_length]; omega)
      by_cases hc4 : c = 4
      · subst hc4
        obtain rfl : n = 4 := by omega
        obtain rfl : y = 0 := by omega
        have hcv := fun m => conv_rd (P := Try.prog) (w.drewN m) 22 9 5 Try.underlying22 Try.underlying5 Try.underlying9 B (some ⟨bb, off, none⟩) 0 0 ((l.drop 4).take 0) Rd.nil rfl
        clear hr hl h4 hb3 hb hb2 h5 hcells
        go_enter Try.func27, Try.ntmps27
        go_wp2_with fail
        refine Calls.mono hc.out ?_
        rintro e w' ⟨rfl, m, rfl⟩
        have hcv := hcv m
        go_wp2_with fail
        go_ret3
        exact ⟨rfl, m, rfl⟩
      · have hcut := hr.cut (k := 4) (cap := c) (by rw [bv_length]; omega)
        rw [if_neg hc4, bv_drop, Option.map_some, Addr.add_lit] at hcut
        have hcv := fun m => conv_rd (P := Try.prog) (w.drewN m) 22 9 5 Try.underlying22 Try.underlying5 Try.underlying9 B (some ⟨bb, off + 4, none⟩) y (c - 4) ((l.drop 4).take y) (by rw [← bv_take]; exact (hcut.take y).drewN m) (by rw [List.length_take, List.length_drop]; omega)
        have hyn : 4 + y ≤ c := by omega
        clear hr hl h4 hb3 hcut hb hb2 h5 hcells
        go_enter Try.func27, Try.ntmps27
        go_wp2_with fail
        refine Calls.mono hc.out ?_
        rintro e w' ⟨rfl, m, rfl⟩
        have hcv := hcv m
        go_wp2_with fail
        go_ret3
        exact ⟨rfl, m, rfl⟩
end Go.Proofs.Ytlipnncbpbbdnaa
