/- BagTakes: who takes in place 0 takes what was put, in its order. No condition. -/
import Derived.Test.YtbdbimnfknaakaaLarge
import Derived.Test.YtbdbimnfknaakaaOpen
namespace Go.Proofs.Ytbdbimnfknaakaa
open Go.RowKit

attribute [-go_sem] loadCellsFrom storeCells
attribute [local go_sem] storeCells_one Mt.cells_len
theorem Blk.rd {W : World} {g : Nat} {t : TypeId} {cs : List Value} (h : Blk W g t cs) : Rd W (g + 1) (some ⟨g, 0, none⟩) cs :=
  .inr ⟨g, 0, rfl, by omega, fun j u hu => by rw [Nat.zero_add, h.cell]; exact hu⟩
theorem away_of {W : World} {T : Nat → Prop} {B : Nat} {v : Value} {l : List Mt} (h : MsAt W B v l) (hT : ∀ i, T i → B ≤ i) (hB : B ≤ W.heap.size) : Away W T B v l :=
  fun _ hc => h.below (hc.below hT hB) (Nat.le_refl _)
theorem BagAt.bagS {base : Nat} {g most : Nat} {v : Value} {l : List Mt} {w : World} (h : BagAt w (fun i => base ≤ i) g most v l) : ∀ i, bagS g v i → base ≤ i := by
  rintro i (rfl | hi)
  · exact h.inS
  · exact (h.row.lt i hi).1
/-- The messages that are some, of the first so many. -/
def somes (l : List Mt) (k : Nat) : List Ms := ((l.take k).map Mt.m).filter fun m => decide (m.h.k ≠ 0)
theorem somes_succ (l : List Mt) (k : Nat) (x : Mt) (h : l[k]? = some x) : somes l (k + 1) = somes l k ++ if x.h.k ≠ 0 then [x.m] else [] := by
  obtain ⟨hk, rfl⟩ := List.getElem?_eq_some_iff.1 h
  unfold somes
  rw [List.take_succ_eq_append_getElem hk, List.map_append, List.filter_append]
  congr 1
  by_cases hz : (l[k]).h.k ≠ 0
  · rw [if_pos hz]
    exact List.filter_eq_self.2 (fun m hm => by rw [List.mem_singleton.1 hm]; exact decide_eq_true hz)
  · rw [if_neg hz]
    exact List.filter_eq_nil_iff.2 (fun m hm => by rw [List.mem_singleton.1 hm]; have hz' : (l[k]).m.h.k = 0 := Classical.not_not.1 hz; simp [hz'])
theorem somes_pre (l : List Mt) (k j : Nat) (h : k ≤ j) : ∃ R, somes l j = somes l k ++ R := by
  refine ⟨((l.take j).drop k |>.map Mt.m).filter (fun m => decide (m.h.k ≠ 0)), ?_⟩
  unfold somes
  rw [← List.filter_append, ← List.map_append]
  congr 2
  have := (List.take_append_drop k (l.take j)).symm
  rw [List.take_take, Nat.min_eq_left h] at this
  exact this
theorem somes_zero (l : List Mt) : somes l 0 = [] := by simp [somes]

set_option linter.unusedVariables false in
set_option maxRecDepth 40000 in
set_option maxHeartbeats 6400000 in
theorem bagTakes_walk (x0 : Int) (a1 : Option Addr) (n1 c1 : Nat) (l1 : List Mt) (w : World) (f0 : (Lit.int .i64 x0).wf = true) (e1 : MsRaw w (.slice a1 n1 c1) l1) :
    Calls Try.prog 5 #[.int .i64 x0, .slice a1 n1 c1] w fun e w' => e = .returned (.bool true) ∧ Below w.heap.size w w' := by
  have hsl := e1
  obtain ⟨_, _, _, hsle, _, hln, _⟩ := hsl
  cases hsle
  have hk1 := Blk.new w 33 [.int .i64 0, .int .i64 0, .slice a1 n1 c1]
  have hb1 := (Below.refl w.heap.size w).alloc (Nat.le_refl _) (.cells #[.int .i64 0, .int .i64 0, .slice a1 n1 c1] 33)
  have hraw1 := e1.below hb1
  have HLg := Lib.hid (large_any (some ⟨w.heap.size, 0, none⟩) 1 1 (w.heap.size + 1) [⟨0, 0, .slice a1 n1 c1, l1⟩] _ hk1.rd (by simp) rfl (fun o ho => by rw [List.mem_singleton.1 ho]; exact hraw1))
  have H := Lib.hid (And.intro hb1 (And.intro e1 hln))
  clear hk1 hb1 hraw1 e1 f0
  go_enter Try.func5, Try.ntmps5
  go_wp2_with fail
  refine HLg.out.mono ?_
  rintro e w2 ⟨hb2, rfl | ⟨rfl, _, hok⟩⟩
  · have B2 := Lib.hid (H.out.1.trans (hb2.mono H.out.1.size)); clear hb2
    go_wp2_with fail
    go_ret
    exact ⟨rfl, B2.out⟩
  have B2 := Lib.hid (H.out.1.trans (hb2.mono H.out.1.size)); clear hb2
  obtain ⟨hlen, hnb⟩ := hok _ (List.mem_singleton.2 rfl)
  simp only at hlen hnb
  have HM := Lib.hid (H.out.2.1.at hnb)
  clear hok hnb HLg
  by_cases hlow : x0 < 1
  · have hl1 : decide (x0 < 1) = true := decide_eq_true hlow
    go_wp2_with fail
    go_ret
    exact ⟨rfl, B2.out⟩
  have hl1 : decide (x0 < 1) = false := decide_eq_false hlow
  by_cases hhigh : 200 < x0
  · have hl2 : decide (200 < x0) = true := decide_eq_true hhigh
    go_wp2_with fail
    go_ret
    exact ⟨rfl, B2.out⟩
  have hl2 : decide (200 < x0) = false := decide_eq_false hhigh
  obtain ⟨most, rfl⟩ := Int.eq_ofNat_of_zero_le (show 0 ≤ x0 by omega)
  have hm1 : 1 ≤ most := by omega
  have hm2 : most ≤ 200 := by omega
  have HNew := Lib.hid (new_any most w2 hm1 hm2)
  go_wp2_with fail
  refine HNew.out.mono ?_
  rintro e w3 ⟨rfl, hbag3, hb3⟩
  have hbag3' : BagAt w3 (fun i => w.heap.size ≤ i) w2.heap.size most (.slice none 0 0) [] := hbag3.mono (fun i _ hi => Nat.le_trans B2.out.size hi)
  have hb3' := B2.out.trans (hb3.mono B2.out.size)
  have hms3 : MsAt w3 w.heap.size (.slice a1 n1 c1) l1 := HM.out.below hb3' (Nat.le_refl _)
  have HPut := Lib.hid (put_any (S := fun i => w.heap.size ≤ i) (.slice a1 n1 c1) l1 w.heap.size w3 hbag3' (fun i hi => Nat.le_trans hb3'.size hi) hm1 hm2 (away_of hms3 hbag3'.bagS hb3'.size) hb3'.size (by omega))
  have H3 := Lib.hid (And.intro hbag3' hb3')
  clear hbag3 hb3 hbag3' hb3' hms3 HNew
  go_wp2_with fail
  refine HPut.out.mono ?_
  rintro e w4 ⟨rfl, v4, l4, hbag4, hl4, hch4, _⟩
  have hb4 := H3.out.2.trans (H3.out.1.chg_below hch4 H3.out.2.size)
  have hF : l4.map Mt.m = (somes l1 n1).drop ((somes l1 n1).length - most) := by
    rw [hl4]
    have e : somes l1 n1 = (l1.map Mt.m).filter fun m => decide (m.h.k ≠ 0) := by
      unfold somes
      rw [List.take_of_length_le (by have := H.out.2.2; omega)]
    rw [e]
    rfl
  have H4 := Lib.hid (And.intro hbag4 (And.intro hb4 hF))
  obtain ⟨G, hG⟩ : ∃ G, (somes l1 n1).length - most = G := ⟨_, rfl⟩
  have hFle : (somes l1 n1).length ≤ 300 := by
    have h1 : (somes l1 n1).length ≤ ((l1.take n1).map Mt.m).length := List.length_filter_le _ _
    rw [List.length_map, List.length_take] at h1
    have := H.out.2.2
    omega
  have HG := Lib.hid (And.intro hG hFle)
  clear hbag4 hl4 hch4 hb4 hF HPut hG hFle hlow hhigh hl1 hl2
  go_wp2_with fail
  go_loopw [7, 8] (fun n i wr => ∃ k : Nat, k ≤ n1 ∧ i = .int .i64 k ∧ n = .int .i64 ((somes l1 k).length : Nat) ∧ w4 = wr) (fun _ i _ => n1 - (intOf i).toNat)
  case atStart => exact ⟨0, by omega, rfl, by rw [somes_zero]; rfl, rfl⟩
  case round =>
    obtain ⟨k, hk, rfl, rfl, hw⟩ := hrel
    subst hw
    have hle : (somes l1 k).length ≤ 300 := by
      obtain ⟨R, hR⟩ := somes_pre l1 k n1 hk
      have := HG.out.2
      rw [hR, List.length_append] at this
      omega
    by_cases hlt : k < n1
    · have g3 : (k : Int) < (n1 : Int) := by omega
      have hka : k < l1.length := by have := H.out.2.2; omega
      obtain ⟨A2, n2, c2, e2, hr2, _⟩ := HM.out.below H4.out.2.1 (Nat.le_refl _)
      cases e2
      obtain ⟨b, off, hA, _, hc, _⟩ := rows_load (P := Try.prog) 23 Mt.cells (fun _ => rfl) (by omega) l1 hr2 k hka
      subst hA
      have hsu := somes_succ l1 k _ (List.getElem?_eq_getElem hka)
      generalize l1[k]'hka = x at *
      have q0 : w4.cell? ⟨b, off + k * 23, none⟩ = some (.int .i64 x.h.k) := hc 0 _ rfl
      obtain ⟨q, hq⟩ : ∃ q, (somes l1 k).length = q := ⟨_, rfl⟩
      rw [hq] at hle ⊢
      have HX := Lib.hid (And.intro hsu hq); clear hsu hq hc hr2
      by_cases hk0 : x.h.k = 0
      · have hkb : (x.h.k != 0) = false := by simp [hk0]
        have HK := Lib.hid (show (somes l1 (k + 1)).length = q by rw [HX.out.1, if_neg (by rw [Classical.not_not]; exact hk0), List.append_nil, HX.out.2])
        clear hk0
        go_wp2_with fail
        go_roundw
        case rel => exact ⟨k + 1, by omega, by go_num, by rw [HK.out], trivial⟩
        case measure => simp [intOf]; omega
      · have hkb : (x.h.k != 0) = true := by simp [hk0]
        have HK := Lib.hid (show (somes l1 (k + 1)).length = q + 1 by rw [HX.out.1, if_pos hk0, List.length_append, HX.out.2]; rfl)
        clear hk0
        go_wp2_with fail
        go_roundw
        case rel => exact ⟨k + 1, by omega, by go_num, by rw [HK.out]; go_num, trivial⟩
        case measure => simp [intOf]; omega
    · obtain rfl : k = n1 := by omega
      obtain ⟨q, hq⟩ : ∃ q, (somes l1 k).length = q := ⟨_, rfl⟩
      rw [hq] at hle HG ⊢
      have HQ := Lib.hid hq; clear hq
      have hAB : ((0 : Int) < (q : Int) - (most : Int) ∧ (q : Int) - (most : Int) = (G : Int)) ∨ (¬ (0 : Int) < (q : Int) - (most : Int) ∧ (0 : Int) = (G : Int)) := by
        have := HG.out.1
        omega
      have HLen := Lib.hid (show ∀ j, j ≤ k → (somes l1 j).length ≤ 300 from fun j hj => by
        obtain ⟨R, hR⟩ := somes_pre l1 j k hj
        have := HQ.out
        rw [hR, List.length_append] at this
        omega)
      rcases hAB with ⟨c1', c2⟩ | ⟨c1', c2⟩
      · have C2 := Lib.hid c2
        clear c2
        go_wp2_with fail
        go_loopw [9, 10] (fun gn i wr => ∃ j : Nat, j ≤ k ∧ i = .int .i64 j ∧ gn = .int .i64 ((G - (somes l1 j).length : Nat)) ∧ ∃ v' l', BagAt wr (fun i => w.heap.size ≤ i) w2.heap.size most v' l' ∧ l'.map Mt.m = (somes l1 k).drop (max (somes l1 j).length G) ∧ Below w.heap.size w wr) (fun _ i _ => k - (intOf i).toNat)
        case atStart =>
          refine ⟨0, by omega, rfl, by rw [somes_zero, List.length_nil, Nat.sub_zero, ← C2.out], v4, l4, H4.out.1, ?_, H4.out.2.1⟩
          rw [H4.out.2.2, HQ.out, HG.out.1, somes_zero, List.length_nil, Nat.zero_max]
        case round =>
          obtain ⟨j, hj, rfl, rfl, v', l', hbag', hl', hb'⟩ := hrel
          have HB := Lib.hid (And.intro hbag' (And.intro hl' hb')); clear hbag' hl' hb'
          by_cases hlt : j < k
          · have g3 : (j : Int) < (k : Int) := by omega
            have hka : j < l1.length := by have := H.out.2.2; omega
            have hmw := HM.out.below HB.out.2.2 (Nat.le_refl _)
            obtain ⟨A2, n2, c2, e2, hr2, _, _, hes2⟩ := hmw
            cases e2
            have hexx := hes2 _ (List.getElem_mem hka)
            have HLd := Lib.hid (fun (W : World) (hW : Below w.heap.size wr W) => rows_load (P := Try.prog) 23 Mt.cells (fun _ => rfl) (by omega) l1 (hr2.below hW (Nat.le_refl _)) j hka)
            obtain ⟨b, off, hA, _, hc, _⟩ := HLd.out wr (Below.refl _ _)
            subst hA
            have hsu := somes_succ l1 j _ (List.getElem?_eq_getElem hka)
            generalize l1[j]'hka = x at *
            have q0 : wr.cell? ⟨b, off + j * 23, none⟩ = some (.int .i64 x.h.k) := hc 0 _ rfl
            have hlq := HLen.out (j + 1) (by omega)
            have hlp := HLen.out j (by omega)
            obtain ⟨p, hp⟩ : ∃ p, (somes l1 j).length = p := ⟨_, rfl⟩
            rw [hp] at hlp HB ⊢
            have HX := Lib.hid (And.intro hsu (And.intro hp hexx)); clear hsu hp hc hr2 hes2 hexx
            by_cases hk0 : x.h.k = 0
            · have hkb : (x.h.k == 0) = true := by simp [hk0]
              have HK := Lib.hid (show (somes l1 (j + 1)).length = p by rw [HX.out.1, if_neg (by rw [Classical.not_not]; exact hk0), List.append_nil, HX.out.2.1])
              clear hk0 hlq
              go_wp2_with fail
              go_roundw
              case rel => exact ⟨j + 1, by omega, by go_num, by rw [HK.out], v', l', HB.out.1, by rw [HK.out]; exact HB.out.2.1, HB.out.2.2⟩
              case measure => simp [intOf]; omega
            · have hkb : (x.h.k == 0) = false := by simp [hk0]
              have HK := Lib.hid (show (somes l1 (j + 1)).length = p + 1 ∧ somes l1 (j + 1) = somes l1 j ++ [x.m] by
                rw [HX.out.1, if_pos hk0, List.length_append, HX.out.2.1]; exact ⟨rfl, rfl⟩)
              clear hk0
              by_cases hgo : p < G
              · have g5 : (0 : Int) < ((G - p : Nat) : Int) := by omega
                have g6 : ((G - p : Nat) : Int) ≤ 300 := by have := HG.out; omega
                go_wp2_with fail
                go_roundw
                case rel =>
                  refine ⟨j + 1, by omega, by go_num, ?_, v', l', HB.out.1, ?_, HB.out.2.2⟩
                  · rw [HK.out.1]
                    congr 1
                    omega
                  · rw [HK.out.1, HB.out.2.1]
                    congr 1
                    omega
                case measure => simp [intOf]; omega
              · have g5 : ¬ (0 : Int) < ((G - p : Nat) : Int) := by omega
                have hmaxp : max p G = p := by omega
                obtain ⟨R, hR⟩ := somes_pre l1 (j + 1) k (by omega)
                have hl' := HB.out.2.1
                rw [hmaxp, hR, HK.out.2, List.append_assoc, List.drop_append_of_le_length (by rw [HX.out.2.1]; exact Nat.le_refl _), List.drop_of_length_le (by rw [HX.out.2.1]; exact Nat.le_refl _), List.nil_append, List.singleton_append] at hl'
                obtain ⟨y, t, rfl, hy, ht⟩ : ∃ y t, l' = y :: t ∧ y.m = x.m ∧ t.map Mt.m = R := by
                  cases l' with
                  | nil => simp at hl'
                  | cons y t =>
                    simp only [List.map_cons, List.cons.injEq] at hl'
                    exact ⟨y, t, rfl, hl'.1, hl'.2⟩
                have hshort := HB.out.1.short
                have HT := Lib.hid (take_at 0 y wr HB.out.1 rfl (by omega))
                have HR := Lib.hid (And.intro hR (And.intro hy ht))
                clear hR hy ht hl' hmaxp
                go_wp2_with fail
                refine HT.out.mono ?_
                rintro e w6 ⟨rfl, hes6, v6, hbag6, hch6, _⟩
                have hb6 := HB.out.1.chg_below hch6 HB.out.2.2.size
                have hz := Blk.new w6 47 zero47
                have hst := hz.store (P := Try.prog) (cs' := y.cells) rfl (Mt.one hes6.at)
                have hz7 := hz.set y.cells
                have hb7 : Below w6.heap.size w6 ((w6.alloc (.cells zero47.toArray 47)).setRow w6.heap.size y.cells.toArray) := below_setRow ((Below.refl _ _).alloc (Nat.le_refl _) _) (Nat.le_refl _) _
                obtain ⟨w7, hw7⟩ : ∃ w7, (w6.alloc (.cells zero47.toArray 47)).setRow w6.heap.size y.cells.toArray = w7 := ⟨_, rfl⟩
                rw [hw7] at hst hz7 hb7
                have hb67 : Below w.heap.size wr w7 := hb6.trans (hb7.mono (Nat.le_trans HB.out.2.2.size hb6.size))
                have H7 := Lib.hid (And.intro hz7 (And.intro (hbag6.below hb7) (And.intro (hes6.below hb7) (And.intro hb67 (HX.out.2.2.1.below hb67 (Nat.le_refl _))))))
                have HE := Lib.hid (show (y :: t).eraseIdx 0 = t from rfl)
                clear hz hz7 hb7 hb6 hb67 hes6 hbag6 hch6 hw7
                simp only [zero47] at hst
                go_wp2_with fail
                refine wp_region_mono' (by kernel_rfl) (by kernel_rfl) ?_
                iterate 11 (refine ex_det ?_; apply Exists.intro)
                refine ex_nil ⟨?pers, ?walk⟩
                case' walk =>
                  iterate 3
                    apply mwalk_det (by kernel_rfl) (by intro t w h; cases h; exact trivial) rfl
                    · intro W hW hF
                      go_wp2_with fail
                      exact ⟨rfl, _, rfl, hW, Below.refl _ _, rfl⟩
                    simp only [Act.put, List.setIfInBounds_toArray, List.set_cons_zero, List.set_cons_succ]
                  apply mwalk_det (by kernel_rfl) (by intro t w h; cases h; exact trivial) rfl
                  · intro W hW hF
                    have hld := (H7.out.1.below hW H7.out.1.lt).load (P := Try.prog) (k := 23) rfl
                    go_wp2_with fail
                    exact ⟨rfl, _, rfl, hW, Below.refl _ _, rfl⟩
                  simp only [Act.put, List.setIfInBounds_toArray, List.set_cons_zero, List.set_cons_succ]
                  iterate 3
                    apply mwalk_det (by kernel_rfl) (by intro t w h; cases h; exact trivial) rfl
                    · intro W hW hF
                      go_wp2_with fail
                      exact ⟨rfl, _, rfl, hW, Below.refl _ _, rfl⟩
                    simp only [Act.put, List.setIfInBounds_toArray, List.set_cons_zero, List.set_cons_succ]
                  apply mwalk_det (by kernel_rfl) (by intro t w h; cases h; exact trivial) rfl
                  · intro W hW hF
                    obtain ⟨b', off', hA', _, _, hld⟩ := HLd.out W (H7.out.2.2.2.1.trans (hW.mono (Nat.le_trans HB.out.2.2.size H7.out.2.2.2.1.size)))
                    cases hA'
                    have hld := hld 0
                    change Sem.run _ _ W = .ok _ W at hld
                    go_wp2_with fail
                    exact ⟨rfl, _, rfl, hW, Below.refl _ _, rfl⟩
                  simp only [Act.put, List.setIfInBounds_toArray, List.set_cons_zero, List.set_cons_succ]
                  apply mwalk_det (by kernel_rfl) (by intro t w h; cases h; exact trivial) rfl
                  · intro W hW hF
                    go_wp2_with fail
                    refine (bagSame_any y x W.heap.size W (EsAt.more (H7.out.2.2.1.at.below hW (Nat.le_refl _)) hW.size) (EsAt.more (H7.out.2.2.2.2.below hW (Nat.le_trans HB.out.2.2.size H7.out.2.2.2.1.size)) (Nat.le_trans (Nat.le_trans HB.out.2.2.size H7.out.2.2.2.1.size) hW.size)) (Nat.le_refl _) (Nat.le_trans H7.out.2.2.1.2 (by omega))).mono ?_
                    rintro e w9 ⟨rfl, hb⟩
                    rw [decide_eq_true HR.out.2.1]
                    have HB9 := Lib.hid hb; clear hb
                    go_wp2_with fail
                    exact ⟨rfl, _, rfl, hW.trans (HB9.out.mono hW.size), HB9.out, rfl⟩
                  simp only [Act.put, List.setIfInBounds_toArray, List.set_cons_zero, List.set_cons_succ]
                  iterate 2
                    apply mwalk_det (by kernel_rfl) (by intro t w h; cases h; exact trivial) rfl
                    · intro W hW hF
                      go_wp2_with fail
                      exact ⟨rfl, _, rfl, hW, Below.refl _ _, rfl⟩
                    simp only [Act.put, List.setIfInBounds_toArray, List.set_cons_zero, List.set_cons_succ]
                  intro W hW hF
                  have HW := Lib.hid (And.intro (H7.out.2.1.below hW) (HB.out.2.2.trans (H7.out.2.2.2.1.trans (hW.mono (Nat.le_trans HB.out.2.2.size H7.out.2.2.2.1.size)))))
                  clear hW
                case pers => exact ⟨pers_isV _, pers_isV _, pers_isV _, pers_isV _, pers_isV _, pers_isV _, pers_isV _, pers_isV _, pers_isV _, pers_isV _, pers_isV _, trivial⟩
                go_wp2_with fail
                go_roundw
                case rel =>
                  refine ⟨j + 1, by omega, by go_num, ?_, v6, _, HW.out.1, ?_, HW.out.2⟩
                  · rw [HK.out.1]
                    congr 1
                    omega
                  · rw [HE.out, HR.out.2.2, HR.out.1, HK.out.1, show max (p + 1) G = p + 1 by omega, List.drop_append_of_le_length (by rw [HK.out.1]; exact Nat.le_refl _), List.drop_of_length_le (by rw [HK.out.1]; exact Nat.le_refl _), List.nil_append]
                case measure => simp [intOf]; omega
          · obtain rfl : j = k := by omega
            have hl' := HB.out.2.1
            rw [List.drop_of_length_le (Nat.le_max_left _ _)] at hl'
            obtain rfl : l' = [] := by simpa using hl'
            clear hl'
            obtain ⟨p, hp⟩ : ∃ p, (somes l1 j).length = p := ⟨_, rfl⟩
            rw [hp]
            clear hp
            go_wp2_with fail
            refine (awake_any wr).mono ?_
            rintro e w8 ⟨rfl, hb8⟩
            have H8 := Lib.hid (HB.out.2.2.trans (hb8.mono HB.out.2.2.size))
            have HLn := Lib.hid (len_any w8 (HB.out.1.below hb8))
            clear hb8
            go_wp2_with fail
            refine HLn.out.mono ?_
            rintro e w' ⟨rfl, rfl⟩
            go_wp2_with fail
            go_ret
            exact ⟨rfl, H8.out⟩
      · have C2 := Lib.hid c2
        clear c2
        go_wp2_with fail
        go_loopw [9, 10] (fun gn i wr => ∃ j : Nat, j ≤ k ∧ i = .int .i64 j ∧ gn = .int .i64 ((G - (somes l1 j).length : Nat)) ∧ ∃ v' l', BagAt wr (fun i => w.heap.size ≤ i) w2.heap.size most v' l' ∧ l'.map Mt.m = (somes l1 k).drop (max (somes l1 j).length G) ∧ Below w.heap.size w wr) (fun _ i _ => k - (intOf i).toNat)
        case atStart =>
          refine ⟨0, by omega, rfl, by rw [somes_zero, List.length_nil, Nat.sub_zero, ← C2.out], v4, l4, H4.out.1, ?_, H4.out.2.1⟩
          rw [H4.out.2.2, HQ.out, HG.out.1, somes_zero, List.length_nil, Nat.zero_max]
        case round =>
          obtain ⟨j, hj, rfl, rfl, v', l', hbag', hl', hb'⟩ := hrel
          have HB := Lib.hid (And.intro hbag' (And.intro hl' hb')); clear hbag' hl' hb'
          by_cases hlt : j < k
          · have g3 : (j : Int) < (k : Int) := by omega
            have hka : j < l1.length := by have := H.out.2.2; omega
            have hmw := HM.out.below HB.out.2.2 (Nat.le_refl _)
            obtain ⟨A2, n2, c2, e2, hr2, _, _, hes2⟩ := hmw
            cases e2
            have hexx := hes2 _ (List.getElem_mem hka)
            have HLd := Lib.hid (fun (W : World) (hW : Below w.heap.size wr W) => rows_load (P := Try.prog) 23 Mt.cells (fun _ => rfl) (by omega) l1 (hr2.below hW (Nat.le_refl _)) j hka)
            obtain ⟨b, off, hA, _, hc, _⟩ := HLd.out wr (Below.refl _ _)
            subst hA
            have hsu := somes_succ l1 j _ (List.getElem?_eq_getElem hka)
            generalize l1[j]'hka = x at *
            have q0 : wr.cell? ⟨b, off + j * 23, none⟩ = some (.int .i64 x.h.k) := hc 0 _ rfl
            have hlq := HLen.out (j + 1) (by omega)
            have hlp := HLen.out j (by omega)
            obtain ⟨p, hp⟩ : ∃ p, (somes l1 j).length = p := ⟨_, rfl⟩
            rw [hp] at hlp HB ⊢
            have HX := Lib.hid (And.intro hsu (And.intro hp hexx)); clear hsu hp hc hr2 hes2 hexx
            by_cases hk0 : x.h.k = 0
            · have hkb : (x.h.k == 0) = true := by simp [hk0]
              have HK := Lib.hid (show (somes l1 (j + 1)).length = p by rw [HX.out.1, if_neg (by rw [Classical.not_not]; exact hk0), List.append_nil, HX.out.2.1])
              clear hk0 hlq
              go_wp2_with fail
              go_roundw
              case rel => exact ⟨j + 1, by omega, by go_num, by rw [HK.out], v', l', HB.out.1, by rw [HK.out]; exact HB.out.2.1, HB.out.2.2⟩
              case measure => simp [intOf]; omega
            · have hkb : (x.h.k == 0) = false := by simp [hk0]
              have HK := Lib.hid (show (somes l1 (j + 1)).length = p + 1 ∧ somes l1 (j + 1) = somes l1 j ++ [x.m] by
                rw [HX.out.1, if_pos hk0, List.length_append, HX.out.2.1]; exact ⟨rfl, rfl⟩)
              clear hk0
              by_cases hgo : p < G
              · have g5 : (0 : Int) < ((G - p : Nat) : Int) := by omega
                have g6 : ((G - p : Nat) : Int) ≤ 300 := by have := HG.out; omega
                go_wp2_with fail
                go_roundw
                case rel =>
                  refine ⟨j + 1, by omega, by go_num, ?_, v', l', HB.out.1, ?_, HB.out.2.2⟩
                  · rw [HK.out.1]
                    congr 1
                    omega
                  · rw [HK.out.1, HB.out.2.1]
                    congr 1
                    omega
                case measure => simp [intOf]; omega
              · have g5 : ¬ (0 : Int) < ((G - p : Nat) : Int) := by omega
                have hmaxp : max p G = p := by omega
                obtain ⟨R, hR⟩ := somes_pre l1 (j + 1) k (by omega)
                have hl' := HB.out.2.1
                rw [hmaxp, hR, HK.out.2, List.append_assoc, List.drop_append_of_le_length (by rw [HX.out.2.1]; exact Nat.le_refl _), List.drop_of_length_le (by rw [HX.out.2.1]; exact Nat.le_refl _), List.nil_append, List.singleton_append] at hl'
                obtain ⟨y, t, rfl, hy, ht⟩ : ∃ y t, l' = y :: t ∧ y.m = x.m ∧ t.map Mt.m = R := by
                  cases l' with
                  | nil => simp at hl'
                  | cons y t =>
                    simp only [List.map_cons, List.cons.injEq] at hl'
                    exact ⟨y, t, rfl, hl'.1, hl'.2⟩
                have hshort := HB.out.1.short
                have HT := Lib.hid (take_at 0 y wr HB.out.1 rfl (by omega))
                have HR := Lib.hid (And.intro hR (And.intro hy ht))
                clear hR hy ht hl' hmaxp
                go_wp2_with fail
                refine HT.out.mono ?_
                rintro e w6 ⟨rfl, hes6, v6, hbag6, hch6, _⟩
                have hb6 := HB.out.1.chg_below hch6 HB.out.2.2.size
                have hz := Blk.new w6 47 zero47
                have hst := hz.store (P := Try.prog) (cs' := y.cells) rfl (Mt.one hes6.at)
                have hz7 := hz.set y.cells
                have hb7 : Below w6.heap.size w6 ((w6.alloc (.cells zero47.toArray 47)).setRow w6.heap.size y.cells.toArray) := below_setRow ((Below.refl _ _).alloc (Nat.le_refl _) _) (Nat.le_refl _) _
                obtain ⟨w7, hw7⟩ : ∃ w7, (w6.alloc (.cells zero47.toArray 47)).setRow w6.heap.size y.cells.toArray = w7 := ⟨_, rfl⟩
                rw [hw7] at hst hz7 hb7
                have hb67 : Below w.heap.size wr w7 := hb6.trans (hb7.mono (Nat.le_trans HB.out.2.2.size hb6.size))
                have H7 := Lib.hid (And.intro hz7 (And.intro (hbag6.below hb7) (And.intro (hes6.below hb7) (And.intro hb67 (HX.out.2.2.1.below hb67 (Nat.le_refl _))))))
                have HE := Lib.hid (show (y :: t).eraseIdx 0 = t from rfl)
                clear hz hz7 hb7 hb6 hb67 hes6 hbag6 hch6 hw7
                simp only [zero47] at hst
                go_wp2_with fail
                refine wp_region_mono' (by kernel_rfl) (by kernel_rfl) ?_
                iterate 11 (refine ex_det ?_; apply Exists.intro)
                refine ex_nil ⟨?pers1, ?walk1⟩
                case' walk1 =>
                  iterate 3
                    apply mwalk_det (by kernel_rfl) (by intro t w h; cases h; exact trivial) rfl
                    · intro W hW hF
                      go_wp2_with fail
                      exact ⟨rfl, _, rfl, hW, Below.refl _ _, rfl⟩
                    simp only [Act.put, List.setIfInBounds_toArray, List.set_cons_zero, List.set_cons_succ]
                  apply mwalk_det (by kernel_rfl) (by intro t w h; cases h; exact trivial) rfl
                  · intro W hW hF
                    have hld := (H7.out.1.below hW H7.out.1.lt).load (P := Try.prog) (k := 23) rfl
                    go_wp2_with fail
                    exact ⟨rfl, _, rfl, hW, Below.refl _ _, rfl⟩
                  simp only [Act.put, List.setIfInBounds_toArray, List.set_cons_zero, List.set_cons_succ]
                  iterate 3
                    apply mwalk_det (by kernel_rfl) (by intro t w h; cases h; exact trivial) rfl
                    · intro W hW hF
                      go_wp2_with fail
                      exact ⟨rfl, _, rfl, hW, Below.refl _ _, rfl⟩
                    simp only [Act.put, List.setIfInBounds_toArray, List.set_cons_zero, List.set_cons_succ]
                  apply mwalk_det (by kernel_rfl) (by intro t w h; cases h; exact trivial) rfl
                  · intro W hW hF
                    obtain ⟨b', off', hA', _, _, hld⟩ := HLd.out W (H7.out.2.2.2.1.trans (hW.mono (Nat.le_trans HB.out.2.2.size H7.out.2.2.2.1.size)))
                    cases hA'
                    have hld := hld 0
                    change Sem.run _ _ W = .ok _ W at hld
                    go_wp2_with fail
                    exact ⟨rfl, _, rfl, hW, Below.refl _ _, rfl⟩
                  simp only [Act.put, List.setIfInBounds_toArray, List.set_cons_zero, List.set_cons_succ]
                  apply mwalk_det (by kernel_rfl) (by intro t w h; cases h; exact trivial) rfl
                  · intro W hW hF
                    go_wp2_with fail
                    refine (bagSame_any y x W.heap.size W (EsAt.more (H7.out.2.2.1.at.below hW (Nat.le_refl _)) hW.size) (EsAt.more (H7.out.2.2.2.2.below hW (Nat.le_trans HB.out.2.2.size H7.out.2.2.2.1.size)) (Nat.le_trans (Nat.le_trans HB.out.2.2.size H7.out.2.2.2.1.size) hW.size)) (Nat.le_refl _) (Nat.le_trans H7.out.2.2.1.2 (by omega))).mono ?_
                    rintro e w9 ⟨rfl, hb⟩
                    rw [decide_eq_true HR.out.2.1]
                    have HB9 := Lib.hid hb; clear hb
                    go_wp2_with fail
                    exact ⟨rfl, _, rfl, hW.trans (HB9.out.mono hW.size), HB9.out, rfl⟩
                  simp only [Act.put, List.setIfInBounds_toArray, List.set_cons_zero, List.set_cons_succ]
                  iterate 2
                    apply mwalk_det (by kernel_rfl) (by intro t w h; cases h; exact trivial) rfl
                    · intro W hW hF
                      go_wp2_with fail
                      exact ⟨rfl, _, rfl, hW, Below.refl _ _, rfl⟩
                    simp only [Act.put, List.setIfInBounds_toArray, List.set_cons_zero, List.set_cons_succ]
                  intro W hW hF
                  have HW := Lib.hid (And.intro (H7.out.2.1.below hW) (HB.out.2.2.trans (H7.out.2.2.2.1.trans (hW.mono (Nat.le_trans HB.out.2.2.size H7.out.2.2.2.1.size)))))
                  clear hW
                case pers1 => exact ⟨pers_isV _, pers_isV _, pers_isV _, pers_isV _, pers_isV _, pers_isV _, pers_isV _, pers_isV _, pers_isV _, pers_isV _, pers_isV _, trivial⟩
                go_wp2_with fail
                go_roundw
                case rel =>
                  refine ⟨j + 1, by omega, by go_num, ?_, v6, _, HW.out.1, ?_, HW.out.2⟩
                  · rw [HK.out.1]
                    congr 1
                    omega
                  · rw [HE.out, HR.out.2.2, HR.out.1, HK.out.1, show max (p + 1) G = p + 1 by omega, List.drop_append_of_le_length (by rw [HK.out.1]; exact Nat.le_refl _), List.drop_of_length_le (by rw [HK.out.1]; exact Nat.le_refl _), List.nil_append]
                case measure => simp [intOf]; omega
          · obtain rfl : j = k := by omega
            have hl' := HB.out.2.1
            rw [List.drop_of_length_le (Nat.le_max_left _ _)] at hl'
            obtain rfl : l' = [] := by simpa using hl'
            clear hl'
            obtain ⟨p, hp⟩ : ∃ p, (somes l1 j).length = p := ⟨_, rfl⟩
            rw [hp]
            clear hp
            go_wp2_with fail
            refine (awake_any wr).mono ?_
            rintro e w8 ⟨rfl, hb8⟩
            have H8 := Lib.hid (HB.out.2.2.trans (hb8.mono HB.out.2.2.size))
            have HLn := Lib.hid (len_any w8 (HB.out.1.below hb8))
            clear hb8
            go_wp2_with fail
            refine HLn.out.mono ?_
            rintro e w' ⟨rfl, rfl⟩
            go_wp2_with fail
            go_ret
            exact ⟨rfl, H8.out⟩

end Go.Proofs.Ytbdbimnfknaakaa
namespace Go.Proofs.Ytbdbimnfknaakaa.bagTakes
open Go.ChangeShapes Go.WideShapes Go.ChangeAt Go.RowKit
open Go.ChangeMaps (open_string shut_string)

set_option linter.unusedVariables false in
set_option maxRecDepth 100000 in
theorem lifted (os : Os) (started : os.Started) (H : Type) (enc : TypeId × Value → H) :
    ReturnsInHanded {} Try.checked os 5 .any (Rows.bagTakesSpec.pre6 enc Try.prog Try.f5 Rows.bagTakesRow.domain false) (Rows.bagTakesSpec.post enc Try.prog Try.f5 false true false false) := by
  refine returnsInHanded_of_change (C := Try.checked) own started (by kernel_rfl) Try.func5
    (ChangeSpec.witness6 (enc := enc) (C := Try.checked) false ⟨#[], #[.int .i64 0, .slice none 0 0], []⟩ 8 (by kernel_rfl) (by kernel_rfl) (by kernel_rfl) (by kernel_rfl)) ?_
  intro W base args ds gs before hval0 hW hcnd _
  have hval : ∀ (j : Nat) t v, Try.f5.params[j]? = some t → args[j]? = some v → Value.okWide Try.prog W .any base t v := hval0
  have hW' := hW
  obtain ⟨p, q, hA0, hV, rfl, hfz, hnd⟩ := hW
  have hA : DataW.TrodAll enc Try.prog W 0 (fun _ => true) true Try.f5.params.toList args.toList ds p := hA0
  rw [Try.params5] at hA hval
  obtain ⟨v0, vs0, d0, ds0, p0, q0, hargs, rfl, rfl, h0, r'0⟩ := trodAll_cons hA
  obtain ⟨v1, vs1, d1, ds1, p1, q1, rfl, rfl, rfl, h1, r'1⟩ := trodAll_cons r'0
  obtain ⟨rfl, rfl, rfl⟩ := trodAll_nil r'1
  obtain rfl : args = #[v0, v1] := by cases args; simp_all
  obtain ⟨rfl, rfl⟩ := trodVars_none hV
  have k0 := h0
  have lt0 : ∀ x ∈ p0, x.block < W.heap.size := by obtain ⟨m, hm⟩ := k0; exact DataW.trod_lt m _ _ _ hm
  obtain ⟨x0, rfl, rfl, rfl, f0⟩ := open_int Try.underlying3 (hval 0 3 v0 rfl rfl) h0
  have k1 := h1
  have lt1 : ∀ x ∈ p1, x.block < W.heap.size := by obtain ⟨m, hm⟩ := k1; exact DataW.trod_lt m _ _ _ hm
  obtain ⟨a1, n1, c1, rfl⟩ := okWide_slice Try.underlying29 (hval 1 29 v1 rfl rfl)
  obtain ⟨l1, e1⟩ := openMsgs h1
  clear hA0 hval0
  refine (bagTakes_walk x0 a1 n1 c1 l1 W f0 e1).mono fun e W' ⟨he, bel⟩ => ?_
  subst he
  exact ⟨_, rfl, _, _, _, [], _, [], hW', trodAll_mk1 (shut_bool Try.underlying4 _), (trodAll_cons_mk (Below.trod laidOut (by kernel_rfl) (of_decide_eq_true (by kernel_rfl)) k0 bel lt0) (trodAll_cons_mk (Below.trod laidOut (by kernel_rfl) (of_decide_eq_true (by kernel_rfl)) k1 bel lt1) trodAll_mk0)), rfl, bel.frame _, fun h => by cases h⟩

theorem over : Rows.bagTakesRow.holds Try.pinned (OpenSpec.ofChange Rows.bagTakesSpec) :=
  OpenClaim.holds_of_wide 5 Try.f5 rfl rfl rfl rfl rfl rfl rfl ⟨rfl, rfl, rfl, rfl, rfl⟩ rfl rfl rfl rfl rfl (by kernel_rfl) Try.func5 (by kernel_rfl)
    (of_decide_eq_true (by kernel_rfl)) (by unfold Func.isWrapper; first | (rw [if_pos (by decide +kernel)]; kernel_rfl) | (rw [if_neg (by decide +kernel)]; exact ⟨rfl, rfl⟩))
    (fun os started H enc _ => lifted os started H enc)

/-- The statement. -/
theorem proved : Rows.BagTakesSaid := over
#print axioms proved
end Go.Proofs.Ytbdbimnfknaakaa.bagTakes
