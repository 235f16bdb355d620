/- BagRuns: whatever is put, taken and doubled, the answers and the messages are the document's. No condition. -/
import Derived.Test.YtbdbimnfknaakaaCallDouble
import Derived.Test.YtbdbimnfknaakaaOpen
namespace Go.Proofs.Ytbdbimnfknaakaa
open Go.RowKit

attribute [-go_sem] loadCellsFrom storeCells
attribute [local go_sem] storeCells_one Mt.cells_len
theorem call_any {base g most : Nat} {vl : Value} {ms : List Ms} {Sb Sr : Nat → Prop} {v : Value} {lb ll : List Mt} (k on : Int) (ov : Value) (ol : List Mt) (w : World) (h : St base w g most vl ms Sb Sr v lb ll) (h1 : 1 ≤ most) (h2 : most ≤ 200) (hbase : base ≤ w.heap.size) (ho : MsAt w base ov ol) (hol : ol.length ≤ 300) :
    Calls Try.prog 11 #[.pointer (some ⟨g, 0, none⟩), vl, .agg #[.int .i64 k, .int .i64 on, ov], .int .i64 most] w fun e w' =>
      ∃ ms' vl' Sb' Sr' v' lb' ll', e = .returned (.tuple #[vl', .bool true]) ∧ St base w' g most vl' ms' Sb' Sr' v' lb' ll' ∧ Below base w w' := by
  have key : ∀ ms', Calls Try.prog 11 #[.pointer (some ⟨g, 0, none⟩), vl, .agg #[.int .i64 k, .int .i64 on, ov], .int .i64 most] w (CallPost base g most w ms') →
      Calls Try.prog 11 #[.pointer (some ⟨g, 0, none⟩), vl, .agg #[.int .i64 k, .int .i64 on, ov], .int .i64 most] w fun e w' =>
      ∃ ms' vl' Sb' Sr' v' lb' ll', e = .returned (.tuple #[vl', .bool true]) ∧ St base w' g most vl' ms' Sb' Sr' v' lb' ll' ∧ Below base w w' := fun ms' hc => hc.mono fun e w' hh => by
    obtain ⟨⟨vl', Sb', Sr', v', lb', ll', he, hs⟩, hb⟩ := hh
    exact ⟨ms', vl', Sb', Sr', v', lb', ll', he, hs, hb⟩
  by_cases hk1 : k = 1
  · subst hk1
    exact key _ (call_put on ov ol w h h1 h2 hbase ho hol)
  by_cases hk2 : k = 2
  · subst hk2
    by_cases hin : 0 ≤ on ∧ on < (ms.length : Int)
    · obtain ⟨i, rfl⟩ := Int.eq_ofNat_of_zero_le hin.1
      exact key _ (call_take i ov w h hbase h2 (by omega))
    · exact key _ (call_take_bad on ov w h hbase (by omega))
  by_cases hk3 : k = 3
  · subst hk3
    by_cases hin : 0 ≤ on ∧ on < (ms.length : Int)
    · obtain ⟨i, rfl⟩ := Int.eq_ofNat_of_zero_le hin.1
      have hi : i < ms.length := by omega
      exact key _ (call_double i ov w _ h hbase h1 h2 hi (List.getElem?_eq_getElem hi))
    · exact key _ (call_double_bad on ov w h hbase (by omega))
  exact key _ (call_else k on ov w h hbase hk1 hk2 hk3)

set_option linter.unusedVariables false in
set_option maxRecDepth 40000 in
set_option maxHeartbeats 12800000 in
theorem bagRuns_walk (x0 : Int) (a1 : Option Addr) (n1 c1 : Nat) (l1 : List Bo) (w : World) (f0 : (Lit.int .i64 x0).wf = true) (r1 : Rd w w.heap.size a1 (boCells l1)) (e1 : l1.length = n1) (b1 : n1 ≤ c1) (m1 : c1 ≤ maxLen) (o1 : ∀ o ∈ l1, MsRaw w o.v o.l) :
    Calls Try.prog 3 #[.int .i64 x0, .slice a1 n1 c1] w fun e w' => e = .returned (.bool true) ∧ Below w.heap.size w w' := by
  have HLg := Lib.hid (large_any a1 n1 c1 w.heap.size l1 w r1 (Nat.le_refl _) e1 o1)
  have H := Lib.hid (And.intro r1 (And.intro e1 o1))
  clear r1 e1 b1 m1 o1 f0
  go_enter Try.func3, Try.ntmps3
  go_wp2_with fail
  refine HLg.out.mono ?_
  rintro e w2 ⟨hb2, rfl | ⟨rfl, hlen, hok⟩⟩
  · have B2 := Lib.hid hb2; clear hb2
    go_wp2_with fail
    go_ret
    exact ⟨rfl, B2.out⟩
  have B2 := Lib.hid hb2; clear hb2
  have HOk := Lib.hid (And.intro hlen hok); clear hlen hok HLg
  have hn60 : n1 ≤ 60 := by have := H.out.2.1; have := HOk.out.1; omega
  by_cases hlow : x0 < 1
  · have hl1 : decide (x0 < 1) = true := decide_eq_true hlow
    have HNew := Lib.hid (new_no x0 w2 (.inl hlow))
    go_wp2_with fail
    refine HNew.out.mono ?_
    rintro e w' ⟨rfl, rfl⟩
    go_wp2_with fail
    refine (awake_any w2).mono ?_
    rintro e w3 ⟨rfl, hb3⟩
    have B3 := Lib.hid (B2.out.trans (hb3.mono B2.out.size)); clear hb3
    go_wp2_with fail
    go_ret
    exact ⟨rfl, B3.out⟩
  have hl1 : decide (x0 < 1) = false := decide_eq_false hlow
  by_cases hhigh : 200 < x0
  · have hl2 : decide (200 < x0) = true := decide_eq_true hhigh
    have HNew := Lib.hid (new_no x0 w2 (.inr hhigh))
    go_wp2_with fail
    refine HNew.out.mono ?_
    rintro e w' ⟨rfl, rfl⟩
    go_wp2_with fail
    refine (awake_any w2).mono ?_
    rintro e w3 ⟨rfl, hb3⟩
    have B3 := Lib.hid (B2.out.trans (hb3.mono B2.out.size)); clear hb3
    go_wp2_with fail
    go_ret
    exact ⟨rfl, B3.out⟩
  have hl2 : decide (200 < x0) = false := decide_eq_false hhigh
  obtain ⟨most, rfl⟩ := Int.eq_ofNat_of_zero_le (show 0 ≤ x0 by omega)
  have hm1 : 1 ≤ most := by omega
  have hm2 : most ≤ 200 := by omega
  have HNew := Lib.hid (new_any most w2 hm1 hm2)
  go_wp2_with fail
  refine HNew.out.mono ?_
  rintro e w3 ⟨rfl, hbag3, hb3⟩
  have hb3' := B2.out.trans (hb3.mono B2.out.size)
  have hst3 : St w.heap.size w3 w2.heap.size most (.slice none 0 0) [] (fun i => w2.heap.size ≤ i ∧ i < w3.heap.size) (fun _ => False) (.slice none 0 0) [] [] :=
    ⟨fun i hi => ⟨Nat.le_trans B2.out.size hi.1, hi.2⟩, fun i hi => hi.elim, fun i _ h => h, hbag3.mono fun i hi hs => ⟨hs, hi⟩, ⟨ORow.nil _ _ _ _, fun p hp => by cases hp⟩, rfl, rfl, fun m hm => by cases hm⟩
  have H3 := Lib.hid (And.intro hst3 hb3')
  clear hbag3 hb3 hb3' hst3 HNew hlow hhigh
  go_wp2_with fail
  go_loopw [7, 8] (fun vl i wr => ∃ k : Nat, k ≤ n1 ∧ i = .int .i64 k ∧ ∃ ms Sb Sr v lb ll, St w.heap.size wr w2.heap.size most vl ms Sb Sr v lb ll ∧ Below w.heap.size w wr) (fun _ i _ => n1 - (intOf i).toNat)
  case atStart => exact ⟨0, by omega, rfl, _, _, _, _, _, _, H3.out.1, H3.out.2⟩
  case round =>
    obtain ⟨k, hk, rfl, ms, Sb, Sr, v, lb, ll, hst, hb⟩ := hrel
    have HB := Lib.hid (And.intro hst hb); clear hst hb
    by_cases hlt : k < n1
    · have g3 : (k : Int) < (n1 : Int) := by omega
      have hka : k < l1.length := by have := H.out.2.1; omega
      obtain ⟨b, off, hA, _, _, hld⟩ := rows_load (P := Try.prog) 3 Bo.cells (fun _ => rfl) (by omega) l1 (H.out.1.below HB.out.2 (Nat.le_refl _)) k hka
      have hld := hld 0
      change Sem.run _ _ wr = .ok _ wr at hld
      subst hA
      have hraw := H.out.2.2 _ (List.getElem_mem hka)
      have hokk := HOk.out.2 _ (List.getElem_mem hka)
      generalize l1[k]'hka = o at *
      obtain ⟨ok, on, ov, ol⟩ := o
      have hms : MsAt wr w.heap.size ov ol := (hraw.at hokk.2).below HB.out.2 (Nat.le_refl _)
      have HC := Lib.hid (call_any ok on ov ol wr HB.out.1 hm1 hm2 HB.out.2.size hms hokk.1)
      simp only [Bo.cells] at hld
      clear hraw hokk hms
      go_wp2_with fail
      refine HC.out.mono ?_
      rintro e w5 ⟨ms', vl', Sb', Sr', v', lb', ll', rfl, hst5, hb5⟩
      have hlb : lb'.length = ms'.length := by rw [← hst5.mb, List.length_map]
      have hll : ll'.length = ms'.length := by rw [← hst5.mr, List.length_map]
      have hmsl : ms'.length ≤ 200 := by have := hst5.bag.short; omega
      obtain ⟨Al, cl, hvl, _⟩ := hst5.row.1.slice
      rw [hll] at hvl
      subst hvl
      have hln := len_any w5 hst5.bag
      rw [hlb] at hln
      have HLn := Lib.hid hln
      have HAl := Lib.hid (all_any w5 hst5.bag (by omega))
      have H5 := Lib.hid (And.intro hst5 (HB.out.2.trans hb5))
      have HLb := Lib.hid (And.intro hlb hll)
      clear hst5 hb5 hlb hll hln hld
      go_wp2_with fail
      refine HLn.out.mono ?_
      rintro e w' ⟨rfl, hw⟩
      subst hw
      go_wp2_with fail
      refine HAl.out.mono ?_
      rintro e w6 ⟨v6, l6, rfl, hmy6, hl6, hb6⟩
      have hl6n : l6.length = ms'.length := by have := congrArg List.length hl6; rw [List.length_map, List.length_map] at this; have := HLb.out.1; omega
      have hst6 := H5.out.1.below hb6
      have hrow6 := hst6.row.at
      have hall := refAll_any v6 (.slice Al ms'.length cl) l6 ll' w6.heap.size w6 hmy6.at hrow6 (Nat.le_refl _) (by omega)
      rw [decide_eq_true (show l6.map Mt.m = ll'.map Mt.m by rw [hl6, H5.out.1.mb, H5.out.1.mr])] at hall
      have HAll := Lib.hid hall
      have H6 := Lib.hid (And.intro hst6 (And.intro (H5.out.2.trans (hb6.mono H5.out.2.size)) (And.intro hmy6 (And.intro hl6n hb6.size))))
      clear hl6 hb6 hl6n hst6 hrow6 hall hmy6
      go_wp2_with fail
      refine HAll.out.mono ?_
      rintro e w7 ⟨rfl, hb7⟩
      have hov := over_any (S := fun i => w5.heap.size ≤ i ∧ i < w6.heap.size) w7 ((H6.out.2.2.1.mono fun i hi hs => ⟨hs, hi⟩).below hb7) (by have := H6.out.2.2.2.1; omega)
      have HOv := Lib.hid hov
      have H7 := Lib.hid hb7
      clear hov hb7
      go_wp2_with fail
      refine HOv.out.mono ?_
      rintro e w8 ⟨rfl, hch8⟩
      have HF := Lib.hid (show St w.heap.size w8 w2.heap.size most (.slice Al ms'.length cl) ms' Sb' Sr' v' lb' ll' ∧ Below w.heap.size w w8 from by
        have h7 := H6.out.1.below H7.out
        have s5 := H5.out.2.size
        have s6 := H6.out.2.2.2.2
        have s7 := H7.out.size
        refine ⟨⟨fun i hi => ⟨(h7.b i hi).1, Nat.lt_of_lt_of_le (h7.b i hi).2 hch8.size⟩, fun i hi => ⟨(h7.r i hi).1, Nat.lt_of_lt_of_le (h7.r i hi).2 hch8.size⟩, h7.apart, h7.bag.chg hch8 (fun i hi ht => ?_), h7.row.chg hch8 (fun i hi _ ht => ?_), h7.mb, h7.mr, h7.kinds⟩, ?_⟩
        · have := (H5.out.1.b i hi).2; omega
        · have := (H5.out.1.r i hi).2; omega
        · exact (H6.out.2.1.trans (H7.out.mono H6.out.2.1.size)).trans (hch8.below (fun i hi => by omega) (by omega)))
      clear hch8
      go_wp2_with fail
      go_roundw
      case rel => exact ⟨k + 1, by omega, by go_num, ms', Sb', Sr', v', lb', ll', HF.out.1, HF.out.2⟩
      case measure => simp [intOf]; omega
    · obtain rfl : k = n1 := by omega
      go_wp2_with fail
      refine (awake_any wr).mono ?_
      rintro e w3 ⟨rfl, hb3⟩
      have B3 := Lib.hid (HB.out.2.trans (hb3.mono HB.out.2.size)); clear hb3
      go_wp2_with fail
      go_ret
      exact ⟨rfl, B3.out⟩

end Go.Proofs.Ytbdbimnfknaakaa
namespace Go.Proofs.Ytbdbimnfknaakaa.bagRuns
open Go.ChangeShapes Go.WideShapes Go.ChangeAt Go.RowKit
open Go.ChangeMaps (open_string shut_string)

set_option linter.unusedVariables false in
set_option maxRecDepth 100000 in
theorem lifted (os : Os) (started : os.Started) (H : Type) (enc : TypeId × Value → H) :
    ReturnsInHanded {} Try.checked os 3 .any (Rows.bagRunsSpec.pre6 enc Try.prog Try.f3 Rows.bagRunsRow.domain false) (Rows.bagRunsSpec.post enc Try.prog Try.f3 false true false false) := by
  refine returnsInHanded_of_change (C := Try.checked) own started (by kernel_rfl) Try.func3
    (ChangeSpec.witness6 (enc := enc) (C := Try.checked) false ⟨#[], #[.int .i64 0, .slice none 0 0], []⟩ 8 (by kernel_rfl) (by kernel_rfl) (by kernel_rfl) (by kernel_rfl)) ?_
  intro W base args ds gs before hval0 hW hcnd _
  have hval : ∀ (j : Nat) t v, Try.f3.params[j]? = some t → args[j]? = some v → Value.okWide Try.prog W .any base t v := hval0
  have hW' := hW
  obtain ⟨p, q, hA0, hV, rfl, hfz, hnd⟩ := hW
  have hA : DataW.TrodAll enc Try.prog W 0 (fun _ => true) true Try.f3.params.toList args.toList ds p := hA0
  rw [Try.params3] at hA hval
  obtain ⟨v0, vs0, d0, ds0, p0, q0, hargs, rfl, rfl, h0, r'0⟩ := trodAll_cons hA
  obtain ⟨v1, vs1, d1, ds1, p1, q1, rfl, rfl, rfl, h1, r'1⟩ := trodAll_cons r'0
  obtain ⟨rfl, rfl, rfl⟩ := trodAll_nil r'1
  obtain rfl : args = #[v0, v1] := by cases args; simp_all
  obtain ⟨rfl, rfl⟩ := trodVars_none hV
  have k0 := h0
  have lt0 : ∀ x ∈ p0, x.block < W.heap.size := by obtain ⟨m, hm⟩ := k0; exact DataW.trod_lt m _ _ _ hm
  obtain ⟨x0, rfl, rfl, rfl, f0⟩ := open_int Try.underlying3 (hval 0 3 v0 rfl rfl) h0
  have k1 := h1
  have lt1 : ∀ x ∈ p1, x.block < W.heap.size := by obtain ⟨m, hm⟩ := k1; exact DataW.trod_lt m _ _ _ hm
  obtain ⟨a1, n1, c1, rfl⟩ := okWide_slice Try.underlying22 (hval 1 22 v1 rfl rfl)
  obtain ⟨l1, r1, e1, b1, m1, o1⟩ := openOps h1
  clear hA0 hval0
  refine (bagRuns_walk x0 a1 n1 c1 l1 W f0 r1 e1 b1 m1 o1).mono fun e W' ⟨he, bel⟩ => ?_
  subst he
  exact ⟨_, rfl, _, _, _, [], _, [], hW', trodAll_mk1 (shut_bool Try.underlying4 _), (trodAll_cons_mk (Below.trod laidOut (by kernel_rfl) (of_decide_eq_true (by kernel_rfl)) k0 bel lt0) (trodAll_cons_mk (Below.trod laidOut (by kernel_rfl) (of_decide_eq_true (by kernel_rfl)) k1 bel lt1) trodAll_mk0)), rfl, bel.frame _, fun h => by cases h⟩

theorem over : Rows.bagRunsRow.holds Try.pinned (OpenSpec.ofChange Rows.bagRunsSpec) :=
  OpenClaim.holds_of_wide 3 Try.f3 rfl rfl rfl rfl rfl rfl rfl ⟨rfl, rfl, rfl, rfl, rfl⟩ rfl rfl rfl rfl rfl (by kernel_rfl) Try.func3 (by kernel_rfl)
    (of_decide_eq_true (by kernel_rfl)) (by unfold Func.isWrapper; first | (rw [if_pos (by decide +kernel)]; kernel_rfl) | (rw [if_neg (by decide +kernel)]; exact ⟨rfl, rfl⟩))
    (fun os started H enc _ => lifted os started H enc)

/-- The statement. -/
theorem proved : Rows.BagRunsSaid := over
#print axioms proved
end Go.Proofs.Ytbdbimnfknaakaa.bagRuns
