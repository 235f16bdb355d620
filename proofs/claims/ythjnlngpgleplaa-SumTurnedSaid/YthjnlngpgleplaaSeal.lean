/- sum.tail, slices.Grow, slices.Concat, slices.Equal, slices.Clone: contracts; and sum.Seal, the document's Seal. -/
import Derived.Test.YthjnlngpgleplaaEight
import Derived.Test.YthjnlngpgleplaaOpen2
import Derived.Lib.AppendZeros
namespace Go.Proofs.Ythjnlngpgleplaa
open Go.RowKit

theorem tail_any (s : Nat) (w : World) (hs : s < 4294967296) :
    Calls Try.prog 26 #[.int .i64 s] w fun e w' => ∃ v, e = .returned v ∧ w'.ownsRow w.heap.size 5 1 v 4 (bv (four s)) ∧ Below w.heap.size w w' := by
  go_enter Try.func26, Try.ntmps26
  go_wp2_with fail
  go_ret
  refine ⟨_, rfl, ?_, (Below.refl _ _).alloc (Nat.le_refl _) _⟩
  have h := World.ownsRow_lit (e := 5) (size := 1) (base := w.heap.size) w (bv (four s)).toArray 4 (Nat.le_refl _) (by unfold maxLen; omega) (by simp [bv, four])
  have e : (s : Int) / 16777216 % 256 = (s : Int) / 16777216 := by omega
  simpa [bv, four, e] using h

theorem grow_any (n : Nat) (w : World) (h0 : 0 < n) (hn : n ≤ 1099511627776) :
    Calls Try.prog 30 #[.slice none 0 0, .int .i64 n] w fun e w' => ∃ v, e = .returned v ∧ w'.ownsRow w.heap.size 5 1 v 0 [] ∧ Below w.heap.size w w' := by
  obtain ⟨i0, hi0, hz0, hz1, hz2⟩ := info_parts u8_info
  have happ := fun w : World => Lib.run_append_nil_zeros (P := Try.prog) w 22 3 22 5 i0 (.int .u8 0) .i64 .i64 Try.underlying22 Try.underlying3 hi0 hz0 n h0 (by omega) (by omega) (by rw [hz2]; omega)
  have HAPP := Lib.hid happ; clear happ
  go_enter Try.func30, Try.ntmps30
  go_wp2_with (at_builtin; refine Lib.wpList_append_run _ rfl (.tmp 20) (.tmp 21) _ _ rfl _ _ rfl rfl _ _ (HAPP.out w) ?_)
  go_ret
  refine ⟨_, rfl, ⟨by simp, .inr ⟨w.heap.size, grownCap w n 0 5, _, rfl, Nat.le_refl _, heap_alloc_new w _, by omega, grownCap_le_maxLen w n 0 _ (by unfold maxLen; omega), ?_, by simp⟩⟩, ((Below.refl _ _).alloc (Nat.le_refl _) _).drew⟩
  have := grownCap_ge w n 0 5
  simp [size_zeroCells]
  omega

/-- All bytes of some slices, one behind the other. -/
def flatB (l : List BRow) : List UInt8 := l.flatMap BRow.l
theorem flatB_snoc (l : List BRow) (k : Nat) (h : k < l.length) : flatB (l.take (k + 1)) = flatB (l.take k) ++ (l[k]).l := by
  unfold flatB
  rw [List.take_succ_eq_append_getElem h, List.flatMap_append]
  simp only [List.flatMap_cons, List.flatMap_nil, List.append_nil]
theorem flatB_take (l : List BRow) (k : Nat) : (flatB (l.take k)).length ≤ (flatB l).length := by
  have : flatB l = flatB (l.take k) ++ flatB (l.drop k) := by
    unfold flatB
    rw [← List.flatMap_append, List.take_append_drop]
  rw [this, List.length_append]
  omega

theorem concat_any (a : Option Addr) (n c : Nat) (l : List BRow) (w : World) (hr : Rd w w.heap.size a (l.map BRow.val)) (hl : l.length = n) (hok : ∀ r ∈ l, Rd w w.heap.size r.a (bv r.l) ∧ r.l.length = r.n) (hn : n ≤ 1000000) (h0 : 0 < (flatB l).length) (h1 : (flatB l).length ≤ 1099511627776) :
    Calls Try.prog 25 #[.slice a n c] w fun e w' => ∃ v, e = .returned v ∧ w'.ownsRow w.heap.size 5 1 v (flatB l).length (bv (flatB l)) ∧ Below w.heap.size w w' := by
  obtain ⟨i0, hi0, hz0, hz1, hz2⟩ := info_parts u8_info
  have H := Lib.hid (And.intro hr (And.intro hl hok)); clear hr hl hok
  go_enter Try.func25, Try.ntmps25
  go_wp2_with fail
  go_loop [3, 5, 11] (fun s r i => ∃ k : Nat, k ≤ n ∧ i = .int .i64 k ∧ s = .int .i64 (flatB (l.take k)).length) (fun _ _ i => n - (intOf i).toNat)
  case atStart => exact ⟨0, by omega, rfl, rfl⟩
  case round =>
    obtain ⟨k, hk, rfl, rfl⟩ := hrel
    by_cases hlt : k < n
    · have hkl : k < l.length := by have := H.out.2.1; omega
      obtain ⟨bb, off, rfl, hbb, hc⟩ := H.out.1.at_ (k := k) (by rw [List.length_map]; exact hkl)
      have hcell := hc k _ (show _ = some (l[k]).val by simp [hkl])
      clear hc
      have hok := H.out.2.2 _ (List.getElem_mem hkl)
      have hsn := flatB_snoc l k hkl
      have ht1 := flatB_take l (k + 1)
      obtain ⟨ra, rn, rc, rl, hrow⟩ : ∃ ra rn rc, ∃ rl, l[k] = ⟨ra, rn, rc, rl⟩ := ⟨_, _, _, _, rfl⟩
      rw [hrow] at hcell hok hsn
      clear hrow
      simp only [BRow.val] at hcell
      obtain ⟨g1, g2⟩ := hok
      dsimp only at g1 g2 hsn
      have hq : (flatB (l.take (k + 1))).length = (flatB (l.take k)).length + rn := by rw [hsn, List.length_append, g2]
      have HQ := Lib.hid hq
      rw [hq] at ht1
      clear hq hsn g1 g2
      generalize (flatB (l.take k)).length = q at *
      have hneg : decide ((q : Int) + (rn : Int) < 0) = false := by simp; omega
      go_wp2_with fail
      go_round
      case rel => exact ⟨k + 1, by omega, by go_num, by rw [HQ.out]; go_num⟩
      case measure => simp [intOf]; omega
    · obtain rfl : k = n := by omega
      have e1 : l.take k = l := List.take_of_length_le (by have := H.out.2.1; omega)
      rw [e1]
      have HG := Lib.hid (grow_any (flatB l).length w h0 h1)
      generalize hq : (flatB l).length = q at *
      have HQ := Lib.hid hq; clear hq
      go_wp2_with fail
      refine Calls.mono HG.out ?_
      rintro e w1 ⟨v, rfl, hown, hb1⟩
      have HO := Lib.hid hown; clear hown
      have HB := Lib.hid hb1; clear hb1
      go_wp2_with fail
      go_loopw [6, 8, 27] (fun v r i wr => ∃ t : Nat, t ≤ k ∧ i = .int .i64 t ∧ wr.ownsRow w.heap.size 5 1 v (flatB (l.take t)).length (bv (flatB (l.take t))) ∧ Below w.heap.size w wr) (fun _ _ i _ => k - (intOf i).toNat)
      case atStart => exact ⟨0, by omega, rfl, HO.out, HB.out⟩
      case round =>
        obtain ⟨t, ht, rfl, hown, hb⟩ := hrel
        by_cases hlt2 : t < k
        · have hkl : t < l.length := by have := H.out.2.1; omega
          obtain ⟨bb, off, rfl, hbb, hc⟩ := H.out.1.at_ (k := t) (by rw [List.length_map]; exact hkl)
          have hcell : wr.cell? ⟨bb, off + t, none⟩ = some (l[t]).val := (hb.cell (p := ⟨bb, off + t, none⟩) hbb).trans (hc t _ (show _ = some (l[t]).val by simp [hkl]))
          clear hc
          have hok := H.out.2.2 _ (List.getElem_mem hkl)
          have hsn := flatB_snoc l t hkl
          have ht1 := flatB_take l (t + 1)
          rw [HQ.out] at ht1
          obtain ⟨ra, rn, rc, rl, hrow⟩ : ∃ ra rn rc, ∃ rl, l[t] = ⟨ra, rn, rc, rl⟩ := ⟨_, _, _, _, rfl⟩
          rw [hrow] at hcell hok hsn
          clear hrow
          simp only [BRow.val] at hcell
          obtain ⟨g1, g2⟩ := hok
          dsimp only at g1 g2 hsn
          rw [hsn, List.length_append] at ht1
          have HS := Lib.hid hsn; clear hsn
          have G := Lib.hid (And.intro g1 g2); clear g1 g2
          generalize flatB (l.take t) = fl at *
          go_wp2_with (at_builtin; refine wpList_append_rd _ rfl (.tmp 31) (.tmp 32) _ rfl w.heap.size 5 i0 (.int .u8 0) 1 1 Try.underlying22 hi0 hz0 hz1 hz2 rfl (by omega) _ fl.length (bv fl) hown rfl w.heap.size ra rn rc (bv rl) (G.out.1.below hb (Nat.le_refl _)) rfl ?_ (bv_one rl) ?_ ?_ hb.size ?_)
          · rw [bv_length, G.out.2]; omega
          · have := G.out.2; unfold maxLen; omega
          · have := G.out.2; omega
          intro v2 w2 hown2 hg2
          have hb2 := hb.trans (below_of_grown hown hg2 hb.size)
          rw [← bv_append] at hown2
          have HO2 := Lib.hid hown2
          have HB2 := Lib.hid hb2
          clear hown hcell hown2 hb2 hg2 hb
          go_wp2_with fail
          go_roundw
          case rel => exact ⟨t + 1, by omega, by go_num, by rw [HS.out, List.length_append, G.out.2]; exact HO2.out, HB2.out⟩
          case measure => simp [intOf]; omega
        · obtain rfl : t = k := by omega
          rw [e1, HQ.out] at hown
          have HO3 := Lib.hid hown; clear hown
          have HB3 := Lib.hid hb; clear hb
          go_wp2_with fail
          go_ret
          refine ⟨_, rfl, ?_, HB3.out⟩
          rw [HQ.out]
          exact HO3.out

/-- Cells, just laid. -/
theorem rd_new (w : World) (g : Nat) (hg : g = w.heap.size) (xs : List Value) (t : TypeId) : Rd (w.alloc (.cells xs.toArray t)) (w.heap.size + 1) (some ⟨g, 0, none⟩) xs := by
  subst hg
  refine .inr ⟨w.heap.size, 0, rfl, by omega, fun j u hu => ?_⟩
  rw [Nat.zero_add, World.cell?_alloc_mark]
  simpa using hu

/-- A sealed row. -/
def sealB (l : List UInt8) : List UInt8 := l ++ four (moreN 0 l)
theorem sealB_length (l : List UInt8) : (sealB l).length = l.length + 4 := by simp [sealB, four_length]

theorem seal_any (A : Option Addr) (n c : Nat) (l : List UInt8) (w : World) (hr : Rd w w.heap.size A (bv l)) (hl : l.length = n) (hn : n ≤ 1000000000) :
    Calls Try.prog 17 #[.slice A n c] w fun e w' => ∃ v, e = .returned v ∧ w'.ownsRow w.heap.size 5 1 v (n + 4) (bv (sealB l)) ∧ Below w.heap.size w w' := by
  have H := Lib.hid (And.intro hr hl); clear hr hl
  have hs := moreN_lt (s := 0) l (by omega)
  have HS := Lib.hid (show sealB l = l ++ four (moreN 0 l) from rfl)
  go_enter Try.func17, Try.ntmps17
  go_wp2_with fail
  refine (sum_any A n c _ l w H.out.1 H.out.2 (by omega)).mono ?_
  rintro e w' ⟨rfl, rfl⟩
  generalize moreN 0 l = s at *
  go_wp2_with fail
  refine (tail_any s w hs).mono ?_
  rintro e w1 ⟨v, rfl, hown, hb1⟩
  obtain ⟨A2, c2, rfl, hr2, hl2, _, _⟩ := own_rd hown
  have HR := Lib.hid (And.intro hr2 hb1); clear hr2 hb1 hown hl2
  go_wp2_with fail
  have hrow := rd_new w1 _ rfl [BRow.val ⟨A, n, c, l⟩, BRow.val ⟨A2, 4, c2, four s⟩] 22
  have hba := (Below.refl w1.heap.size w1).alloc (Nat.le_refl _) (.cells [BRow.val ⟨A, n, c, l⟩, BRow.val ⟨A2, 4, c2, four s⟩].toArray 22)
  have hfl : flatB [⟨A, n, c, l⟩, ⟨A2, 4, c2, four s⟩] = sealB l := by rw [HS.out]; simp [flatB]
  have hlen : (sealB l).length = n + 4 := by rw [sealB_length, H.out.2]
  have hcc := concat_any (some ⟨w1.heap.size, 0, none⟩) 2 2 [⟨A, n, c, l⟩, ⟨A2, 4, c2, four s⟩] _ (hrow.more (by simp)) rfl (by
    intro r hm
    simp only [List.mem_cons, List.not_mem_nil, or_false] at hm
    rcases hm with rfl | rfl
    · exact ⟨((H.out.1.below HR.out.2 (Nat.le_refl _)).more HR.out.2.size).below hba (Nat.le_refl _) |>.more (by simp), H.out.2⟩
    · exact ⟨(HR.out.1.below hba (Nat.le_refl _)).more (by simp), four_length s⟩) (by omega) (by rw [hfl, hlen]; omega) (by rw [hfl, hlen]; omega)
  rw [hfl, hlen] at hcc
  have HC := Lib.hid hcc
  have HBA := Lib.hid (HR.out.2.trans (hba.mono HR.out.2.size))
  clear hcc hba hrow hfl hlen
  refine Calls.mono HC.out ?_
  rintro e w3 ⟨v, rfl, hown, hb3⟩
  have HO := Lib.hid (And.intro (own_base (base' := w.heap.size) hown (by have := HR.out.2.size; simp; omega)) (HBA.out.trans (hb3.mono HBA.out.size)))
  clear hown hb3
  go_wp2_with fail
  go_ret
  exact ⟨v, rfl, HO.out.1, HO.out.2⟩

theorem refSeal_any (A : Option Addr) (n c : Nat) (l : List UInt8) (w : World) (hr : Rd w w.heap.size A (bv l)) (hl : l.length = n) (hn : n ≤ 1000000000) :
    Calls Try.prog 18 #[.slice A n c] w fun e w' => ∃ v, e = .returned v ∧ w'.ownsRow w.heap.size 5 1 v (n + 4) (bv (sealB l)) ∧ Below w.heap.size w w' := by
  obtain ⟨i0, hi0, hz0, hz1, hz2⟩ := info_parts u8_info
  have H := Lib.hid (And.intro hr hl); clear hr hl
  have hs := moreN_lt (s := 0) l (by omega)
  have HS := Lib.hid (show sealB l = l ++ four (moreN 0 l) from rfl)
  go_enter Try.func18, Try.ntmps18
  go_wp2_with (at_builtin; refine wpList_append_rd _ rfl (.tmp 5) (.tmp 6) _ rfl w.heap.size 5 i0 (.int .u8 0) 1 1 Try.underlying22 hi0 hz0 hz1 hz2 rfl (by omega) (.slice none 0 0) 0 [] (World.ownsRow_nil _ _ _ _) rfl w.heap.size A n c (bv l) H.out.1 rfl ?_ (bv_one l) ?_ ?_ ?_ ?_)
  · rw [bv_length, H.out.2]; omega
  · unfold maxLen; omega
  · omega
  · exact Nat.le_refl _
  intro v1 w1 hown1 hg1
  have HO1 := Lib.hid hown1
  have HB1 := Lib.hid ((Below.refl w.heap.size w).grown hg1 (Nat.le_refl _) (by simp [Value.ownBlock]))
  clear hown1 hg1
  go_wp2_with fail
  refine (refSum_any A n c w.heap.size l w1 (H.out.1.below HB1.out (Nat.le_refl _)) H.out.2 (by omega)).mono ?_
  rintro e w' ⟨rfl, rfl⟩
  generalize moreN 0 l = s at *
  go_wp2_with fail
  refine (eight_any s w1).mono ?_
  rintro e w2 ⟨v2, rfl, hown2, hb2⟩
  obtain ⟨A2, c2, rfl, hr2, hl2, hc2, _⟩ := own_rd hown2
  obtain ⟨b2, off2, rfl, _, _⟩ := hr2.at_ (k := 0) (by rw [bv_length, hl2]; omega)
  have hcut := hr2.cut (k := 4) (cap := c2) (by rw [bv_length, hl2]; exact hc2)
  rw [bv_drop, word_nat s hs, eight_four, if_neg (by omega), Option.map_some, Addr.add_lit] at hcut
  have HO2 := Lib.hid (own_below HO1.out hb2 (Nat.le_refl _))
  have HB2 := Lib.hid (HB1.out.trans (hb2.mono HB1.out.size))
  have HR := Lib.hid hcut
  clear hcut hr2 hl2 hown2 hb2
  have h4 : ¬ c2 = 4 := by omega
  go_wp2_with (at_builtin; refine wpList_append_rd _ rfl (.tmp 11) (.tmp 13) _ rfl w.heap.size 5 i0 (.int .u8 0) 1 1 Try.underlying22 hi0 hz0 hz1 hz2 rfl (by omega) v1 n (bv l) HO2.out rfl w2.heap.size (some ⟨b2, off2 + 4, none⟩) 4 (c2 - 4) (bv (four s)) HR.out rfl ?_ (bv_one _) ?_ ?_ HB2.out.size ?_)
  · rfl
  · unfold maxLen; omega
  · omega
  intro v3 w3 hown3 hg3
  rw [← bv_append, ← HS.out] at hown3
  have HO3 := Lib.hid hown3
  have HB3 := Lib.hid (HB2.out.trans (below_of_grown HO2.out hg3 HB2.out.size))
  clear hown3 hg3
  go_wp2_with fail
  go_ret
  exact ⟨_, rfl, HO3.out, HB3.out⟩
end Go.Proofs.Ythjnlngpgleplaa
