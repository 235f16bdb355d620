/- ChunkCuts: a text has just this manifest and these chunks, or is refused. No condition. -/
import Derived.Test.YtdfjaephlabnhaaCuts
import Derived.Test.YtdfjaephlabnhaaOpen
namespace Go.Proofs.Ytdfjaephlabnhaa
open Go.RowKit

set_option linter.unusedVariables false in
set_option maxRecDepth 40000 in
set_option maxHeartbeats 3200000 in
theorem chunkCuts_walk (s0 : ByteArray) (x1 : Int) (w : World) (m0 : s0.size ≤ maxLen) (f1 : (Lit.int .i64 x1).wf = true) :
    Calls Try.prog 3 #[.string s0, .int .i64 x1] w fun e w' => e = .returned (.bool true) ∧ Below w.heap.size w w' := by
  unfold maxLen at m0
  by_cases hlong : 131072 < s0.size
  · have h1 : (131072 : Int) < (s0.size : Int) := by omega
    go_enter Try.func3, Try.ntmps3
    go_wp2_with fail
    go_ret
    exact ⟨rfl, Below.refl _ _⟩
  have h1 : ¬ (131072 : Int) < (s0.size : Int) := by omega
  have hN := mN_le s0
  have HOf := Lib.hid (fun W : World => of_any s0 W)
  have HSu := Lib.hid (fun W : World => refSums_any s0 W (by omega))
  have HCu := Lib.hid (fun W : World => cut_any s0 x1 W (by omega))
  have HRc := Lib.hid (fun W : World => refCut_any s0 x1 W (by omega))
  have hcase : (mEr s0 = 0 ∧ mSz s0 = s0.size) ∨ (mEr s0 = 100 ∧ mSz s0 = 0) := by
    unfold mEr mSz
    by_cases h : s0.size ≤ 65536
    · rw [if_pos h, if_pos h]; exact .inl ⟨rfl, rfl⟩
    · rw [if_neg h, if_neg h]; exact .inr ⟨rfl, rfl⟩
  have HN := Lib.hid (show (mSums s0).length = mN s0 from rfl)
  generalize mSums s0 = ll at *
  generalize mN s0 = n at *
  generalize mSz s0 = sz at *
  generalize mEr s0 = er at *
  generalize cutS s0 x1 = cs at *
  generalize cutE s0 x1 = ce at *
  clear hlong f1 m0
  rcases hcase with ⟨rfl, hsz⟩ | ⟨rfl, hsz⟩
  all_goals
    first | (have hcmp : (sz == (s0.size : Int)) = true := by (rw [hsz]; simp; done)) | (have hcmp : (sz == 0) = true := by (rw [hsz]; simp; done))
    clear hsz
    go_enter Try.func3, Try.ntmps3
    go_wp2_with fail
    refine (HOf.out w).mono ?_
    rintro e w1 ⟨A1, c1, rfl, hown1, hb1⟩
    have hg1 : ∀ g, A1 = some ⟨g, 0, none⟩ → g < w1.heap.size := by
      rintro g rfl
      rcases own_form hown1 with ⟨h, _⟩ | ⟨g', _, h, _, hg, _⟩
      · cases h
      · injection h with h; injection h with h; injection h with h; omega
    have G1 := Lib.hid hg1; clear hg1
    have t1 := Two.new_at w1 _ rfl 24 (.int .i64 sz) (.slice A1 n c1)
    have O1 := Lib.hid (hown1.alloc (.cells #[.int .i64 sz, .slice A1 n c1] 24))
    have B1 := Lib.hid (hb1.alloc hb1.size (.cells #[.int .i64 sz, .slice A1 n c1] 24))
    have T1 := Lib.hid t1; clear t1 hown1 hb1
    go_wp2_with fail
    refine (HSu.out _).mono ?_
    rintro e w2 ⟨A2, c2, rfl, hown2, hb2⟩
    have hx2 : ∀ g, A2 = some ⟨g, 0, none⟩ → w1.heap.size < g := by
      rintro g rfl
      rcases own_form hown2 with ⟨h, _⟩ | ⟨g', _, h, hg, _, _⟩
      · cases h
      · injection h with h; injection h with h; injection h with h; simp at hg; omega
    have X2 := Lib.hid hx2; clear hx2
    have O12 := Lib.hid (own_below O1.out hb2 (Nat.le_refl _))
    have T12 := Lib.hid (T1.out.below hb2 (by simp))
    have B2 := Lib.hid (B1.out.trans (hb2.mono B1.out.size))
    have O2 := Lib.hid hown2; clear hown2 hb2
    have S2 := Lib.hid (show w1.heap.size < w2.heap.size from T12.out.lt)
    go_wp2_with fail
    refine (HCu.out _).mono ?_
    rintro e w3 ⟨rfl, hb3⟩
    have O13 := Lib.hid (own_below O12.out hb3 (Nat.le_refl _))
    have O3 := Lib.hid (own_below O2.out hb3 (Nat.le_refl _))
    have T3 := Lib.hid (T12.out.below hb3 S2.out)
    have B3 := Lib.hid (B2.out.trans (hb3.mono B2.out.size))
    have S3 := Lib.hid (show w1.heap.size < w3.heap.size from T3.out.lt); clear hb3
    go_wp2_with fail
    refine (HRc.out _).mono ?_
    rintro e w' ⟨rfl, rfl⟩
    have q0 := T3.out.cell0; have q1 := T3.out.cell1
    have HI := Lib.hid (ints_any A1 A2 n n c1 c2 _ _ ll ll w3 (Rd.of_own O13.out) HN.out (Rd.of_own O3.out) HN.out (by omega) (by omega))
    go_wp2_with fail
    refine Calls.mono HI.out ?_
    rintro e w4 ⟨rfl, qq, rfl⟩
    simp only [decide_true]
    go_wp2_with fail
    have HW := Lib.hid (And.intro O13.out (And.intro O3.out (And.intro T3.out B3.out)))
    go_loopw [15] (fun i wr => ∃ (k : Nat) (xs : List Value), k ≤ n ∧ i = .int .i64 k ∧ wr.ownsRow w.heap.size 3 1 (.slice A1 n c1) n xs ∧
      wr.ownsRow (w1.heap.size + 1) 3 1 (.slice A2 n c2) n (iv ll) ∧ Two wr w1.heap.size 24 (.int .i64 sz) (.slice A1 n c1) ∧ Below w.heap.size w wr) (fun i _ => n - (intOf i).toNat)
    case atStart => exact ⟨0, _, by omega, rfl, HW.out.1, by have := HW.out.2.1; rw [World.size_alloc] at this; exact this, HW.out.2.2.1, below_drewN HW.out.2.2.2 _⟩
    case round =>
      obtain ⟨k, xs, hk, rfl, o1, o2, t1, hb⟩ := hrel
      by_cases hlt : k < n
      · have g3 : (k : Int) < (n : Int) := by omega
        rcases own_form o1 with ⟨_, h0, _⟩ | ⟨g2, cap2, h5, hg2, _, hcap2, _⟩
        · omega
        injection h5 with h6 _ h7
        subst h6 h7
        have hxl : k < xs.length := by have := o1.1; omega
        have hcA := (o1.cellAt k (by omega)).trans (List.getElem?_eq_getElem hxl)
        have hfA := o1.frozenAt k
        have p1 := t1.cell1
        have hlow := G1.out g2 rfl
        obtain ⟨ho2, hgr⟩ := o1.stored k (.int .i64 (-7))
        have hne : Value.ownBlock (.slice A2 n c2) ≠ some g2 := by
          cases A2 with
          | none => simp [Value.ownBlock]
          | some ad =>
            rcases own_form o2 with ⟨h, _⟩ | ⟨g', _, h, hg, _, _⟩
            · cases h
            · injection h with h
              injection h with h
              subst h
              simp [Value.ownBlock]
              omega
        have HO := Lib.hid (And.intro ho2 (And.intro (o2.kept hgr (.inr hne)) (And.intro (t1.kept hgr (by simp; omega)) (hb.trans (below_of_grown o1 hgr hb.size)))))
        clear o1 o2 t1 hb ho2 hgr hne hlow
        go_wp2_with fail
        go_roundw
        case rel => exact ⟨k + 1, _, by omega, by go_num, HO.out.1, HO.out.2.1, HO.out.2.2.1, HO.out.2.2.2⟩
        case measure => simp [intOf]; omega
      · obtain rfl : k = n := by omega
        have p1 := t1.cell1
        have HO := Lib.hid (And.intro o2 hb)
        clear o1 o2 t1 hb
        go_wp2_with fail
        refine (HOf.out wr).mono ?_
        rintro e w5 ⟨A5, c5, rfl, hown5, hb5⟩
        have t5 := Two.new_at w5 _ rfl 24 (.int .i64 sz) (.slice A5 k c5)
        have R5 := Lib.hid (And.intro (hown5.alloc (.cells #[.int .i64 sz, .slice A5 k c5] 24)) (And.intro t5 (And.intro ((own_below HO.out.1 hb5 (Nat.le_refl _)).alloc (.cells #[.int .i64 sz, .slice A5 k c5] 24))
          ((HO.out.2.trans (hb5.mono HO.out.2.size)).alloc (HO.out.2.trans (hb5.mono HO.out.2.size)).size (.cells #[.int .i64 sz, .slice A5 k c5] 24)))))
        clear hown5 hb5 t5
        go_wp2_with fail
        refine (cuts_any _).mono ?_
        rintro e w6 ⟨rfl, hb6⟩
        have p6 := (R5.out.2.1.below hb6 (by simp)).cell1
        have HJ := Lib.hid (ints_any A5 A2 k k c5 c2 _ _ ll ll w6 (Rd.of_own (own_below R5.out.1 hb6 (Nat.le_refl _))) HN.out (Rd.of_own (own_below R5.out.2.2.1 hb6 (Nat.le_refl _))) HN.out (by omega) (by omega))
        have B6 := Lib.hid (R5.out.2.2.2.trans (hb6.mono R5.out.2.2.2.size)); clear hb6
        go_wp2_with fail
        refine Calls.mono HJ.out ?_
        rintro e w7 ⟨rfl, q7, rfl⟩
        simp only [decide_true]
        go_wp2_with fail
        go_ret
        exact ⟨rfl, below_drewN B6.out _⟩

end Go.Proofs.Ytdfjaephlabnhaa
namespace Go.Proofs.Ytdfjaephlabnhaa.chunkCuts
open Go.ChangeShapes Go.WideShapes Go.ChangeAt Go.RowKit
open Go.ChangeMaps (open_string shut_string)

set_option linter.unusedVariables false in
set_option maxRecDepth 100000 in
theorem lifted (os : Os) (started : os.Started) (H : Type) (enc : TypeId × Value → H) :
    ReturnsInHanded {} Try.checked os 3 .any (Rows.chunkCutsSpec.pre6 enc Try.prog Try.f3 Rows.chunkCutsRow.domain false) (Rows.chunkCutsSpec.post enc Try.prog Try.f3 false true false false) := by
  refine returnsInHanded_of_change (C := Try.checked) own started (by kernel_rfl) Try.func3
    (ChangeSpec.witness6 (enc := enc) (C := Try.checked) false ⟨#[], #[.string ByteArray.empty, .int .i64 0], []⟩ 8 (by kernel_rfl) (by kernel_rfl) (by kernel_rfl) (by kernel_rfl)) ?_
  intro W base args ds gs before hval0 hW hcnd _
  have hval : ∀ (j : Nat) t v, Try.f3.params[j]? = some t → args[j]? = some v → Value.okWide Try.prog W .any base t v := hval0
  have hW' := hW
  obtain ⟨p, q, hA0, hV, rfl, hfz, hnd⟩ := hW
  have hA : DataW.TrodAll enc Try.prog W 0 (fun _ => true) true Try.f3.params.toList args.toList ds p := hA0
  rw [Try.params3] at hA hval
  obtain ⟨v0, vs0, d0, ds0, p0, q0, hargs, rfl, rfl, h0, r'0⟩ := trodAll_cons hA
  obtain ⟨v1, vs1, d1, ds1, p1, q1, rfl, rfl, rfl, h1, r'1⟩ := trodAll_cons r'0
  obtain ⟨rfl, rfl, rfl⟩ := trodAll_nil r'1
  obtain rfl : args = #[v0, v1] := by cases args; simp_all
  obtain ⟨rfl, rfl⟩ := trodVars_none hV
  have k0 := h0
  have lt0 : ∀ x ∈ p0, x.block < W.heap.size := by obtain ⟨m, hm⟩ := k0; exact DataW.trod_lt m _ _ _ hm
  obtain ⟨s0, rfl, rfl, rfl, m0⟩ := open_string Try.underlying9 (hval 0 9 v0 rfl rfl) h0
  have k1 := h1
  have lt1 : ∀ x ∈ p1, x.block < W.heap.size := by obtain ⟨m, hm⟩ := k1; exact DataW.trod_lt m _ _ _ hm
  obtain ⟨x1, rfl, rfl, rfl, f1⟩ := open_int Try.underlying3 (hval 1 3 v1 rfl rfl) h1
  clear hA0 hval0
  refine (chunkCuts_walk s0 x1 W m0 f1).mono fun e W' ⟨he, bel⟩ => ?_
  subst he
  exact ⟨_, rfl, _, _, _, [], _, [], hW', trodAll_mk1 (shut_bool Try.underlying4 _), (trodAll_cons_mk (Below.trod laidOut (by kernel_rfl) (of_decide_eq_true (by kernel_rfl)) k0 bel lt0) (trodAll_cons_mk (Below.trod laidOut (by kernel_rfl) (of_decide_eq_true (by kernel_rfl)) k1 bel lt1) trodAll_mk0)), rfl, bel.frame _, fun h => by cases h⟩

theorem over : Rows.chunkCutsRow.holds Try.pinned (OpenSpec.ofChange Rows.chunkCutsSpec) :=
  OpenClaim.holds_of_wide 3 Try.f3 rfl rfl rfl rfl rfl rfl rfl ⟨rfl, rfl, rfl, rfl, rfl⟩ rfl rfl rfl rfl rfl (by kernel_rfl) Try.func3 (by kernel_rfl)
    (of_decide_eq_true (by kernel_rfl)) (by unfold Func.isWrapper; first | (rw [if_pos (by decide +kernel)]; kernel_rfl) | (rw [if_neg (by decide +kernel)]; exact ⟨rfl, rfl⟩))
    (fun os started H enc _ => lifted os started H enc)

/-- The statement. -/
theorem proved : Rows.ChunkCutsSaid := over
#print axioms proved
end Go.Proofs.Ytdfjaephlabnhaa.chunkCuts
