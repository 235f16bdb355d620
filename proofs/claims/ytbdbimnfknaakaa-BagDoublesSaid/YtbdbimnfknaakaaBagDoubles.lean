/- BagDoubles: a message that is doubled is taken twice. No condition. -/
import Derived.Test.YtbdbimnfknaakaaLarge
import Derived.Test.YtbdbimnfknaakaaOpen
namespace Go.Proofs.Ytbdbimnfknaakaa
open Go.RowKit

attribute [-go_sem] loadCellsFrom storeCells
attribute [local go_sem] storeCells_one Mt.cells_len
theorem Blk.rd {W : World} {g : Nat} {t : TypeId} {cs : List Value} (h : Blk W g t cs) : Rd W (g + 1) (some ⟨g, 0, none⟩) cs :=
  .inr ⟨g, 0, rfl, by omega, fun j u hu => by rw [Nat.zero_add, h.cell]; exact hu⟩
theorem away_of {W : World} {T : Nat → Prop} {B : Nat} {v : Value} {l : List Mt} (h : MsAt W B v l) (hT : ∀ i, T i → B ≤ i) (hB : B ≤ W.heap.size) : Away W T B v l :=
  fun _ hc => h.below (hc.below hT hB) (Nat.le_refl _)
theorem BagAt.bagS {base : Nat} {g most : Nat} {v : Value} {l : List Mt} {w : World} (h : BagAt w (fun i => base ≤ i) g most v l) : ∀ i, bagS g v i → base ≤ i := by
  rintro i (rfl | hi)
  · exact h.inS
  · exact (h.row.lt i hi).1

set_option linter.unusedVariables false in
set_option maxRecDepth 40000 in
set_option maxHeartbeats 6400000 in
theorem bagDoubles_walk (a0 : Option Addr) (n0 c0 : Nat) (l0 : List Mt) (x1 : Int) (w : World) (e0 : MsRaw w (.slice a0 n0 c0) l0) (f1 : (Lit.int .i64 x1).wf = true) :
    Calls Try.prog 7 #[.slice a0 n0 c0, .int .i64 x1] w fun e w' => e = .returned (.bool true) ∧ Below w.heap.size w w' := by
  have hsl := e0
  obtain ⟨_, _, _, hsle, _, hln, _⟩ := hsl
  cases hsle
  have hk1 := Blk.new w 33 [.int .i64 0, .int .i64 0, .slice a0 n0 c0]
  have hb1 := (Below.refl w.heap.size w).alloc (Nat.le_refl _) (.cells #[.int .i64 0, .int .i64 0, .slice a0 n0 c0] 33)
  have hraw1 := e0.below hb1
  have HLg := Lib.hid (large_any (some ⟨w.heap.size, 0, none⟩) 1 1 (w.heap.size + 1) [⟨0, 0, .slice a0 n0 c0, l0⟩] _ hk1.rd (by simp) rfl (fun o ho => by rw [List.mem_singleton.1 ho]; exact hraw1))
  have H := Lib.hid (And.intro hb1 (And.intro e0 hln))
  clear hk1 hb1 hraw1 e0
  go_enter Try.func7, Try.ntmps7
  go_wp2_with fail
  refine HLg.out.mono ?_
  rintro e w2 ⟨hb2, rfl | ⟨rfl, _, hok⟩⟩
  · have B2 := Lib.hid (H.out.1.trans (hb2.mono H.out.1.size)); clear hb2
    go_wp2_with fail
    go_ret
    exact ⟨rfl, B2.out⟩
  have B2 := Lib.hid (H.out.1.trans (hb2.mono H.out.1.size)); clear hb2
  obtain ⟨hlen, hnb⟩ := hok _ (List.mem_singleton.2 rfl)
  simp only at hlen hnb
  have HM := Lib.hid (H.out.2.1.at hnb)
  clear hok hnb HLg
  by_cases hlow : 200 ≤ n0
  · have hl1 : decide ((200 : Int) ≤ (n0 : Int)) = true := decide_eq_true (by omega)
    go_wp2_with fail
    go_ret
    exact ⟨rfl, B2.out⟩
  have hl1 : decide ((200 : Int) ≤ (n0 : Int)) = false := decide_eq_false (by omega)
  have HNew := Lib.hid (new_any 200 w2 (by omega) (by omega))
  go_wp2_with fail
  refine HNew.out.mono ?_
  rintro e w3 ⟨rfl, hbag3, hb3⟩
  have hbag3' : BagAt w3 (fun i => w.heap.size ≤ i) w2.heap.size 200 (.slice none 0 0) [] := hbag3.mono (fun i _ hi => Nat.le_trans B2.out.size hi)
  have hb3' := B2.out.trans (hb3.mono B2.out.size)
  have hms3 : MsAt w3 w.heap.size (.slice a0 n0 c0) l0 := HM.out.below hb3' (Nat.le_refl _)
  have HPut := Lib.hid (put_any (S := fun i => w.heap.size ≤ i) (.slice a0 n0 c0) l0 w.heap.size w3 hbag3' (fun i hi => Nat.le_trans hb3'.size hi) (by omega) (by omega) (away_of hms3 hbag3'.bagS hb3'.size) hb3'.size (by omega))
  have H3 := Lib.hid (And.intro hbag3' hb3')
  clear hbag3 hb3 hbag3' hb3' hms3 HNew
  go_wp2_with fail
  refine HPut.out.mono ?_
  rintro e w4 ⟨rfl, v4, l4, hbag4, hl4, hch4, _⟩
  have hb4 := H3.out.2.trans (H3.out.1.chg_below hch4 H3.out.2.size)
  have hl4n : l4.length ≤ 199 := by
    have h1 := congrArg List.length hl4
    rw [List.length_map] at h1
    have h2 : (putN 200 (([] : List Mt).map Mt.m) (l0.map Mt.m)).length ≤ l0.length := by
      unfold putN lastN
      rw [List.length_drop]
      have h3 : ((([] : List Mt).map Mt.m) ++ (l0.map Mt.m).filter fun m => decide (m.h.k ≠ 0)).length ≤ l0.length := by
        have := List.length_filter_le (fun m : Ms => decide (m.h.k ≠ 0)) (l0.map Mt.m)
        simpa using this
      omega
    have := H.out.2.2
    omega
  have H4 := Lib.hid (And.intro hbag4 hb4)
  have HL4 := Lib.hid (len_any w4 hbag4)
  clear hbag4 hl4 hch4 hb4 HPut hlow hl1
  go_wp2_with fail
  refine HL4.out.mono ?_
  rintro e w' ⟨rfl, rfl⟩
  by_cases hneg : x1 < 0
  · have hl2 : decide (x1 < 0) = true := decide_eq_true hneg
    go_wp2_with fail
    refine (awake_any w4).mono ?_
    rintro e w5 ⟨rfl, hb5⟩
    have H5 := Lib.hid (And.intro (H4.out.1.below hb5) (H4.out.2.trans (hb5.mono H4.out.2.size))); clear hb5
    have HD := Lib.hid (double_bad x1 w5 H5.out.1 (by unfold inL; rw [decide_eq_false (show ¬ 0 ≤ x1 by omega)]; rfl))
    have HL5 := Lib.hid (len_any w5 H5.out.1)
    go_wp2_with fail
    refine HD.out.mono ?_
    rintro e w' ⟨rfl, rfl⟩
    go_wp2_with fail
    refine HL5.out.mono ?_
    rintro e w' ⟨rfl, rfl⟩
    go_wp2_with fail
    go_ret
    exact ⟨rfl, H5.out.2⟩
  obtain ⟨i, rfl⟩ := Int.eq_ofNat_of_zero_le (show 0 ≤ x1 by omega)
  have hl2 : decide ((i : Int) < 0) = false := decide_eq_false hneg
  by_cases hin : l4.length ≤ i
  · have hl3 : decide ((l4.length : Int) ≤ (i : Int)) = true := decide_eq_true (by omega)
    have hl3' : decide (l4.length ≤ i) = true := decide_eq_true hin
    go_wp2_with fail
    refine (awake_any w4).mono ?_
    rintro e w5 ⟨rfl, hb5⟩
    have H5 := Lib.hid (And.intro (H4.out.1.below hb5) (H4.out.2.trans (hb5.mono H4.out.2.size))); clear hb5
    have HD := Lib.hid (double_bad (i : Int) w5 H5.out.1 (by unfold inL; rw [decide_eq_false (show ¬ (i : Int) < (l4.length : Int) by omega), Bool.and_false]))
    have HL5 := Lib.hid (len_any w5 H5.out.1)
    go_wp2_with fail
    refine HD.out.mono ?_
    rintro e w' ⟨rfl, rfl⟩
    go_wp2_with fail
    refine HL5.out.mono ?_
    rintro e w' ⟨rfl, rfl⟩
    go_wp2_with fail
    go_ret
    exact ⟨rfl, H5.out.2⟩
  have hl3 : decide ((l4.length : Int) ≤ (i : Int)) = false := decide_eq_false (by omega)
  have hl3' : decide (l4.length ≤ i) = false := decide_eq_false hin
  have hi4 : i < l4.length := by omega
  obtain ⟨x, hx⟩ : ∃ x, l4[i]? = some x := ⟨_, List.getElem?_eq_getElem hi4⟩
  have HD := Lib.hid (double_at i x w4 H4.out.1 (fun k hk => Nat.le_trans H4.out.2.size hk) (by omega) (by omega) hx)
  have HX := Lib.hid hx; clear hx
  go_wp2_with fail
  refine HD.out.mono ?_
  rintro e w5 ⟨rfl, v5, l5, hbag5, hl5, hch5, _⟩
  rw [lastN_all (by rw [List.length_append, List.length_map]; simp; omega)] at hl5
  have hb5 := H4.out.2.trans (H4.out.1.chg_below hch5 H4.out.2.size)
  have hlen5 : l5.length = l4.length + 1 := by have := congrArg List.length hl5; simpa using this
  obtain ⟨x5, hx5⟩ : ∃ x5, l5[l4.length]? = some x5 := ⟨_, List.getElem?_eq_getElem (by omega)⟩
  obtain ⟨y5, hy5⟩ : ∃ y5, l5[i]? = some y5 := ⟨_, List.getElem?_eq_getElem (by omega)⟩
  have hxm : x5.m = x.m := by
    have h1 := congrArg (fun l => l[l4.length]?) hl5
    simp only [List.getElem?_map, hx5, Option.map_some] at h1
    rw [List.getElem?_append_right (by simp)] at h1
    simpa using h1
  have hym : y5.m = x.m := by
    have h1 := congrArg (fun l => l[i]?) hl5
    simp only [List.getElem?_map, hy5, Option.map_some] at h1
    rw [List.getElem?_append_left (by simpa using hi4), List.getElem?_map, HX.out] at h1
    simpa using h1
  have HT := Lib.hid (take_at l4.length x5 w5 hbag5 hx5 (by omega))
  have hye : (l5.eraseIdx l4.length)[i]? = some y5 := by rw [List.getElem?_eraseIdx_of_lt hi4]; exact hy5
  have hle5 : (l5.eraseIdx l4.length).length = l4.length := by rw [List.length_eraseIdx, hlen5, if_pos (by omega)]; omega
  have H5 := Lib.hid (And.intro hbag5 (And.intro hb5 (And.intro hxm (And.intro hym (And.intro hye hle5)))))
  clear hbag5 hl5 hch5 hb5 hlen5 hx5 hy5 hxm hym hye hle5
  go_wp2_with fail
  refine HT.out.mono ?_
  rintro e w6 ⟨rfl, hes6, v6, hbag6, hch6, _⟩
  have hb6 := H5.out.2.1.trans (H5.out.1.chg_below hch6 H5.out.2.1.size)
  have hz := Blk.new w6 47 zero47
  have hst := hz.store (P := Try.prog) (cs' := x5.cells) rfl (Mt.one hes6.at)
  have hz7 := hz.set x5.cells
  have hb7 : Below w6.heap.size w6 ((w6.alloc (.cells zero47.toArray 47)).setRow w6.heap.size x5.cells.toArray) := below_setRow ((Below.refl _ _).alloc (Nat.le_refl _) _) (Nat.le_refl _) _
  obtain ⟨w7, hw7⟩ : ∃ w7, (w6.alloc (.cells zero47.toArray 47)).setRow w6.heap.size x5.cells.toArray = w7 := ⟨_, rfl⟩
  rw [hw7] at hst hz7 hb7
  have hbag7 := hbag6.below hb7
  have HT2 := Lib.hid (take_at i y5 w7 hbag7 H5.out.2.2.2.2.1 (by rw [H5.out.2.2.2.2.2]; omega))
  have H7 := Lib.hid (And.intro hz7 (And.intro hbag7 (And.intro (hes6.below hb7) (And.intro (hb6.trans (hb7.mono hb6.size)) hb7.size))))
  have hg6 : w2.heap.size < w6.heap.size := hbag6.blk.lt
  have hv6 : ∀ k, some k = v6.ownBlock → k < w6.heap.size := fun k hk => (hbag6.row.lt k hk).2
  have HV := Lib.hid (And.intro hg6 hv6)
  clear hz hz7 hb7 hb6 hes6 hbag6 hch6 hw7 hbag7 hg6 hv6
  simp only [zero47] at hst
  go_wp2_with fail
  refine HT2.out.mono ?_
  rintro e w8 ⟨rfl, hes8, v8, hbag8, hch8, _⟩
  have hb8 := H7.out.2.2.2.1.trans (H7.out.2.1.chg_below hch8 H7.out.2.2.2.1.size)
  have hz8 := H7.out.1.chg hch8 (by
    rintro (h | h)
    · have := HV.out.1; omega
    · have := HV.out.2 _ h; omega)
  have hx8 : EsAt w8 w8.heap.size x5.v x5.es := by
    have h0 := H7.out.2.2.1
    have h1 : EsMy w8 (fun i => w.heap.size ≤ i) x5 := h0.chg hch8 (fun k c hk hg => by
      rcases hk with rfl | hk
      · rw [show w7.heap[_]? = _ from H7.out.2.1.blk] at hg
        simp at hg
      · obtain ⟨c', hc'⟩ := H7.out.2.1.row.tag hk
        rw [hc'] at hg
        simp at hg)
    exact h1.at
  have hz := Blk.new w8 47 zero47
  have hst2 := hz.store (P := Try.prog) (cs' := y5.cells) rfl (Mt.one hes8.at)
  have hz9 := hz.set y5.cells
  have hb9 : Below w8.heap.size w8 ((w8.alloc (.cells zero47.toArray 47)).setRow w8.heap.size y5.cells.toArray) := below_setRow ((Below.refl _ _).alloc (Nat.le_refl _) _) (Nat.le_refl _) _
  obtain ⟨w9, hw9⟩ : ∃ w9, (w8.alloc (.cells zero47.toArray 47)).setRow w8.heap.size y5.cells.toArray = w9 := ⟨_, rfl⟩
  rw [hw9] at hst2 hz9 hb9
  have H9 := Lib.hid (And.intro (hz8.below hb9 hz8.lt) (And.intro hz9 (And.intro (hbag8.below hb9) (And.intro (hb8.trans (hb9.mono hb8.size)) (And.intro (hx8.below hb9 (Nat.le_refl _)) (And.intro (hes8.at.below hb9 (Nat.le_refl _)) (And.intro hb9.size (And.intro H7.out.2.2.1.2 hes8.2))))))))
  clear hz hz9 hb9 hb8 hes8 hbag8 hch8 hw9 hz8 hx8 hst
  simp only [zero47] at hst2
  go_wp2_with fail
  refine (awake_any w9).mono ?_
  rintro e w10 ⟨rfl, hb10⟩
  have hld1 := (H9.out.1.below hb10 H9.out.1.lt).load (P := Try.prog) (k := 23) rfl
  have hld2 := (H9.out.2.1.below hb10 H9.out.2.1.lt).load (P := Try.prog) (k := 23) rfl
  have hbs := bagSame_any x5 y5 w10.heap.size w10 (EsAt.more (H9.out.2.2.2.2.1.below hb10 H9.out.2.2.2.2.2.2.1) (Nat.le_trans H9.out.2.2.2.2.2.2.1 hb10.size)) (EsAt.more (H9.out.2.2.2.2.2.1.below hb10 H9.out.2.2.2.2.2.2.1) (Nat.le_trans H9.out.2.2.2.2.2.2.1 hb10.size)) (Nat.le_refl _) (Nat.le_trans H9.out.2.2.2.2.2.2.2.1 (by omega))
  rw [decide_eq_true (show x5.m = y5.m by rw [H5.out.2.2.1, H5.out.2.2.2.1])] at hbs
  have HBs := Lib.hid hbs
  have H10 := Lib.hid (And.intro (H9.out.2.2.1.below hb10) (H9.out.2.2.2.1.trans (hb10.mono H9.out.2.2.2.1.size)))
  clear hb10 hst2 hbs
  go_wp2_with fail
  refine HBs.out.mono ?_
  rintro e w11 ⟨rfl, hb11⟩
  have HL11 := len_any w11 (H10.out.1.below hb11)
  obtain ⟨n, hn⟩ : ∃ n, l4.length = n := ⟨_, rfl⟩
  rw [List.length_eraseIdx, H5.out.2.2.2.2.2, if_pos hi4, hn] at HL11
  have hi4n : i < n := by omega
  rw [show ((n - 1 : Nat) : Int) = (n : Int) - 1 by omega] at HL11
  have HL11 := Lib.hid HL11
  have B11 := Lib.hid (H10.out.2.trans (hb11.mono H10.out.2.size))
  have HN := Lib.hid (And.intro hn hi4n)
  have hn200 : (n : Int) ≤ 199 := by omega
  clear hb11 hld1 hld2 hi4 hi4n hl4n hl3 hl3' hin
  rw [hn]
  clear hn
  go_wp2_with fail
  refine HL11.out.mono ?_
  rintro e w' ⟨rfl, rfl⟩
  go_wp2_with fail
  go_ret
  exact ⟨rfl, B11.out⟩

end Go.Proofs.Ytbdbimnfknaakaa
namespace Go.Proofs.Ytbdbimnfknaakaa.bagDoubles
open Go.ChangeShapes Go.WideShapes Go.ChangeAt Go.RowKit
open Go.ChangeMaps (open_string shut_string)

set_option linter.unusedVariables false in
set_option maxRecDepth 100000 in
theorem lifted (os : Os) (started : os.Started) (H : Type) (enc : TypeId × Value → H) :
    ReturnsInHanded {} Try.checked os 7 .any (Rows.bagDoublesSpec.pre6 enc Try.prog Try.f7 Rows.bagDoublesRow.domain false) (Rows.bagDoublesSpec.post enc Try.prog Try.f7 false true false false) := by
  refine returnsInHanded_of_change (C := Try.checked) own started (by kernel_rfl) Try.func7
    (ChangeSpec.witness6 (enc := enc) (C := Try.checked) false ⟨#[], #[.slice none 0 0, .int .i64 0], []⟩ 8 (by kernel_rfl) (by kernel_rfl) (by kernel_rfl) (by kernel_rfl)) ?_
  intro W base args ds gs before hval0 hW hcnd _
  have hval : ∀ (j : Nat) t v, Try.f7.params[j]? = some t → args[j]? = some v → Value.okWide Try.prog W .any base t v := hval0
  have hW' := hW
  obtain ⟨p, q, hA0, hV, rfl, hfz, hnd⟩ := hW
  have hA : DataW.TrodAll enc Try.prog W 0 (fun _ => true) true Try.f7.params.toList args.toList ds p := hA0
  rw [Try.params7] at hA hval
  obtain ⟨v0, vs0, d0, ds0, p0, q0, hargs, rfl, rfl, h0, r'0⟩ := trodAll_cons hA
  obtain ⟨v1, vs1, d1, ds1, p1, q1, rfl, rfl, rfl, h1, r'1⟩ := trodAll_cons r'0
  obtain ⟨rfl, rfl, rfl⟩ := trodAll_nil r'1
  obtain rfl : args = #[v0, v1] := by cases args; simp_all
  obtain ⟨rfl, rfl⟩ := trodVars_none hV
  have k0 := h0
  have lt0 : ∀ x ∈ p0, x.block < W.heap.size := by obtain ⟨m, hm⟩ := k0; exact DataW.trod_lt m _ _ _ hm
  obtain ⟨a0, n0, c0, rfl⟩ := okWide_slice Try.underlying29 (hval 0 29 v0 rfl rfl)
  obtain ⟨l0, e0⟩ := openMsgs h0
  have k1 := h1
  have lt1 : ∀ x ∈ p1, x.block < W.heap.size := by obtain ⟨m, hm⟩ := k1; exact DataW.trod_lt m _ _ _ hm
  obtain ⟨x1, rfl, rfl, rfl, f1⟩ := open_int Try.underlying3 (hval 1 3 v1 rfl rfl) h1
  clear hA0 hval0
  refine (bagDoubles_walk a0 n0 c0 l0 x1 W e0 f1).mono fun e W' ⟨he, bel⟩ => ?_
  subst he
  exact ⟨_, rfl, _, _, _, [], _, [], hW', trodAll_mk1 (shut_bool Try.underlying4 _), (trodAll_cons_mk (Below.trod laidOut (by kernel_rfl) (of_decide_eq_true (by kernel_rfl)) k0 bel lt0) (trodAll_cons_mk (Below.trod laidOut (by kernel_rfl) (of_decide_eq_true (by kernel_rfl)) k1 bel lt1) trodAll_mk0)), rfl, bel.frame _, fun h => by cases h⟩

theorem over : Rows.bagDoublesRow.holds Try.pinned (OpenSpec.ofChange Rows.bagDoublesSpec) :=
  OpenClaim.holds_of_wide 7 Try.f7 rfl rfl rfl rfl rfl rfl rfl ⟨rfl, rfl, rfl, rfl, rfl⟩ rfl rfl rfl rfl rfl (by kernel_rfl) Try.func7 (by kernel_rfl)
    (of_decide_eq_true (by kernel_rfl)) (by unfold Func.isWrapper; first | (rw [if_pos (by decide +kernel)]; kernel_rfl) | (rw [if_neg (by decide +kernel)]; exact ⟨rfl, rfl⟩))
    (fun os started H enc _ => lifted os started H enc)

/-- The statement. -/
theorem proved : Rows.BagDoublesSaid := over
#print axioms proved
end Go.Proofs.Ytbdbimnfknaakaa.bagDoubles
