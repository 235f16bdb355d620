/- chunk.Join and the document's answer: pieces are just this text, or none. -/
import Derived.Test.YtdfjaephlabnhaaFitsAll
import Derived.Test.YtdfjaephlabnhaaShelf
import Derived.Test.YtdfjaephlabnhaaOpen
namespace Go.Proofs.Ytdfjaephlabnhaa
open Go.RowKit

def okAt (size : Int) (l : List Int) (ps : List ByteArray) (k : Nat) : Bool :=
  (rightB size l && decide (ps.length = l.length)) && (List.range k).all fun j => fitsB size l j (ps.getD j ⟨#[]⟩)
theorem okAt_succ (size : Int) (l : List Int) (ps : List ByteArray) (k : Nat) : okAt size l ps (k + 1) = (okAt size l ps k && fitsB size l k (ps.getD k ⟨#[]⟩)) := by
  simp only [okAt, List.range_succ, List.all_append, List.all_cons, List.all_nil, Bool.and_true, Bool.and_assoc]
theorem okAt_no {size : Int} {l : List Int} {ps : List ByteArray} : ∀ (k n : Nat), k ≤ n → okAt size l ps k = false → okAt size l ps n = false
  | k, n, h, hk => by
    obtain ⟨d, rfl⟩ := Nat.le.dest h
    clear h
    induction d with
    | zero => exact hk
    | succ d ih => rw [show k + (d + 1) = (k + d) + 1 by omega, okAt_succ, ih]; rfl
def joinS (ps : List ByteArray) : ByteArray := ⟨((ps.map (·.data.toList)).flatten).toArray⟩
def joinR (size : Int) (l : List Int) (ps : List ByteArray) : ByteArray := if okAt size l ps ps.length then joinS ps else ⟨#[]⟩
def joinE (size : Int) (l : List Int) (ps : List ByteArray) : Int := if okAt size l ps ps.length then 0 else 100
theorem join_flat (xs : List (List UInt8)) : Lib.join xs [] = xs.flatten := by
  cases xs with
  | nil => rfl
  | cons x r =>
    induction r generalizing x with
    | nil => simp [Lib.join_one]
    | cons y r ih =>
      have h1 := Lib.join_cons x (y :: r) ([] : List UInt8)
      have h2 := Lib.join_cons y r ([] : List UInt8)
      rw [h1]
      rw [ih] at h2
      simp [Lib.joinTail] at h1 h2 ⊢
theorem flat_length (ps : List ByteArray) (b : Nat) (h : ∀ p ∈ ps, p.size ≤ b) : (ps.map (·.data.toList)).flatten.length ≤ ps.length * b := by
  induction ps with
  | nil => simp
  | cons p r ih =>
    have h1 := ih fun q hq => h q (List.mem_cons_of_mem _ hq)
    have h2 := h p (List.mem_cons_self ..)
    have h3 : p.data.toList.length = p.size := by simp
    simp only [List.map_cons, List.flatten_cons, List.length_append, List.length_cons, Nat.succ_mul, h3]
    omega

theorem rd_back {w wr : World} {C : Nat} {A : Option Addr} {xs : List Value} {o : Obj} (h : Rd (w.alloc o) C A xs) (hC : C ≤ w.heap.size) (hb : Below w.heap.size w wr) : Rd wr C A xs :=
  h.keep fun p hp => (hb.cell (Nat.lt_of_lt_of_le hp hC)).trans (World.cell?_alloc_lt w o p (Nat.lt_of_lt_of_le hp hC)).symm
/-- strings.Join of pieces with nothing between. -/
theorem strJoin_any (B : Option Addr) (m d D : Nat) (ps : List ByteArray) (w : World) (hq : Rd w D B (sv ps)) (hD : D ≤ w.heap.size) (hm : ps.length = m) (hd : m ≤ d) (hmm : m ≤ 100000) (hps : ∀ p ∈ ps, p.size ≤ 1000000) :
    Calls Try.prog 30 #[.slice B m d, .string ⟨#[]⟩] w fun e w' => e = .returned (.string (joinS ps)) ∧ Below w.heap.size w w' := by
  subst hm
  rcases hq with hnil | ⟨b, off, rfl, hb, hc⟩
  · have : ps = [] := by simpa [sv] using hnil
    subst this
    refine (joinNone B d ⟨#[]⟩ w).mono ?_
    rintro e w' ⟨rfl, rfl⟩
    exact ⟨rfl, Below.refl _ _⟩
  · have hlen := flat_length ps 1000000 hps
    refine (joinAny b off d ps ⟨#[]⟩ w (fun j x hx => hc j _ (by simp [sv, hx])) (by omega) (by omega) hd ?_).mono ?_
    · show (Lib.join _ []).length ≤ _
      rw [join_flat]
      have : ps.length * 1000000 ≤ 100000 * 1000000 := Nat.mul_le_mul_right _ hmm
      omega
    · rintro e w' ⟨rfl, hb2⟩
      exact ⟨by show Ending.returned (Value.string ⟨(Lib.join _ []).toArray⟩) = _; rw [join_flat]; rfl, hb2⟩

set_option maxHeartbeats 1600000 in
theorem join_any (size : Int) (A B : Option Addr) (n c C m d D : Nat) (l : List Int) (ps : List ByteArray) (w : World) (hr : Rd w C A (iv l)) (hC : C ≤ w.heap.size) (hl : l.length = n) (hn : n ≤ 1000000)
    (hq : Rd w D B (sv ps)) (hD : D ≤ w.heap.size) (hm : ps.length = m) (hd : m ≤ d) (hmm : m ≤ 100000) (hps : ∀ p ∈ ps, p.size ≤ 1000000) :
    Calls Try.prog 19 #[.agg #[.int .i64 size, .slice A n c], .slice B m d] w fun e w' => e = .returned (.tuple #[.string (joinR size l ps), .int .i64 (joinE size l ps)]) ∧ Below w.heap.size w w' := by
  obtain ⟨r, hres⟩ : ∃ r, joinR size l ps = r := ⟨_, rfl⟩
  obtain ⟨z, hrez⟩ : ∃ z, joinE size l ps = z := ⟨_, rfl⟩
  rw [hres, hrez]
  have HE := Lib.hid (And.intro hres hrez); clear hres hrez
  have t1 := Two.new_at w _ rfl 24 (.int .i64 size) (.slice A n c)
  have q0 := t1.cell0; have q1 := t1.cell1
  have HR1 := Lib.hid (hr.alloc hC (.cells #[.int .i64 size, .slice A n c] 24))
  have HQ := Lib.hid (hq.alloc hD (.cells #[.int .i64 size, .slice A n c] 24))
  have HB := Lib.hid ((Below.refl _ w).alloc (Nat.le_refl _) (.cells #[.int .i64 size, .slice A n c] 24))
  have HRI := Lib.hid (right_any size A n c C l _ HR1.out (by simp; omega) hl hn)
  have HT := Lib.hid t1
  have HP := Lib.hid hps
  clear hr hq t1 hps
  have h0 : (rightB size l && ((m : Int) == (n : Int))) = okAt size l ps 0 := by
    simp only [okAt, List.range_zero, List.all_nil, Bool.and_true]
    congr 1
    rw [Bool.eq_iff_iff]
    simp
    omega
  have H0 := Lib.hid h0; clear h0
  go_enter Try.func19, Try.ntmps19
  go_wp2_with fail
  refine HRI.out.mono ?_
  rintro e w2 ⟨rfl, hb2⟩
  have T2 := Lib.hid (HT.out.below hb2 (by simp))
  have q2 := T2.out.cell1
  have HB2 := Lib.hid (HB.out.trans (hb2.mono (by simp))); clear hb2
  obtain ⟨rb, hrb⟩ : ∃ rb, rightB size l = rb := ⟨_, rfl⟩
  have hk0 : (rb && ((m : Int) == (n : Int))) = okAt size l ps 0 := by rw [← hrb]; exact H0.out
  have HK0 := Lib.hid hk0
  rw [hrb]
  clear hrb hk0
  obtain ⟨mn, hmn⟩ : ∃ mn, ((m : Int) == (n : Int)) = mn := ⟨_, rfl⟩
  have HMN := Lib.hid hmn
  cases rb <;> cases mn
  all_goals
    go_wp2_with fail
    go_loopw [6, 21] (fun ok i wr => ∃ k : Nat, k ≤ m ∧ ok = .bool (okAt size l ps k) ∧ i = .int .i64 k ∧ Two wr w.heap.size 24 (.int .i64 size) (.slice A n c) ∧ Below w.heap.size w wr) (fun _ i _ => m - (intOf i).toNat)
    case atStart => exact ⟨0, by omega, by rw [← HK0.out]; try rw [HMN.out]; rfl, rfl, T2.out, HB2.out⟩
    case round =>
      obtain ⟨k, hk, rfl, rfl, t3, hb⟩ := hrel
      have HO := Lib.hid (And.intro t3 hb); clear t3 hb
      have p0 := HO.out.1.cell0; have p1 := HO.out.1.cell1
      by_cases hlt : k < m
      · have g3 : (k : Int) < (m : Int) := by omega
        have hkl : k < ps.length := by omega
        obtain ⟨b1, o1, hBe, hb1, hc1⟩ := HQ.out.at_ (k := k) (by simp [sv]; omega)
        have q5 : wr.cell? ⟨b1, o1 + k, none⟩ = some (.string (ps[k]'hkl)) := (HO.out.2.cell (p := ⟨b1, o1 + k, none⟩) (by simp; omega)).trans (((World.cell?_alloc_lt w _ ⟨b1, o1 + k, none⟩ (by simp; omega)).symm).trans (hc1 k _ (sv_at ps k hkl)))
        subst hBe
        clear hc1
        have hpk : (ps[k]'hkl).size ≤ 1000000 := HP.out _ (List.getElem_mem _)
        have hnx : okAt size l ps (k + 1) = (okAt size l ps k && fitsB size l k (ps[k]'hkl)) := by
          rw [okAt_succ]; simp [List.getD, hkl]
        have HN := Lib.hid hnx; clear hnx
        have HF := Lib.hid (fits_any size A n c C l k (ps[k]'hkl) wr ((rd_back HR1.out hC HO.out.2)) (by have := HO.out.2.size; omega) hl hn hpk)
        generalize ps[k]'hkl = x at *
        generalize okAt size l ps k = ok at *
        cases ok
        · go_wp2_with fail
          go_roundw
          case rel => exact ⟨k + 1, by omega, by rw [HN.out]; rfl, by go_num, HO.out.1, HO.out.2⟩
          case measure => simp [intOf]; omega
        · go_wp2_with fail
          refine HF.out.mono ?_
          rintro e w4 ⟨rfl, hb4⟩
          have HO4 := Lib.hid (And.intro (HO.out.1.below hb4 HO.out.1.lt) (HO.out.2.trans (hb4.mono HO.out.2.size))); clear hb4
          go_wp2_with fail
          go_roundw
          case rel => exact ⟨k + 1, by omega, by rw [HN.out]; rfl, by go_num, HO4.out.1, HO4.out.2⟩
          case measure => simp [intOf]; omega
      · obtain rfl : k = m := by omega
        have HS := Lib.hid (strJoin_any B k d D ps wr (rd_back HQ.out hD HO.out.2) (by have := HO.out.2.size; omega) hm hd hmm HP.out)
        have hR : joinR size l ps = if okAt size l ps k then joinS ps else ⟨#[]⟩ := by unfold joinR; rw [hm]
        have hZ : joinE size l ps = if okAt size l ps k then 0 else 100 := by unfold joinE; rw [hm]
        have HRZ := Lib.hid (And.intro hR hZ); clear hR hZ
        generalize okAt size l ps k = ok at *
        cases ok
        · obtain rfl : r = ⟨#[]⟩ := by rw [← HE.out.1, HRZ.out.1]; rfl
          obtain rfl : z = 100 := by rw [← HE.out.2, HRZ.out.2]; rfl
          go_wp2_with fail
          go_ret2
          exact ⟨rfl, HO.out.2⟩
        · obtain rfl : r = joinS ps := by rw [← HE.out.1, HRZ.out.1]; rfl
          obtain rfl : z = 0 := by rw [← HE.out.2, HRZ.out.2]; rfl
          go_wp2_with fail
          refine HS.out.mono ?_
          rintro e w4 ⟨rfl, hb4⟩
          have HB4 := Lib.hid (HO.out.2.trans (hb4.mono HO.out.2.size)); clear hb4
          go_wp2_with fail
          go_ret2
          exact ⟨rfl, HB4.out⟩

theorem joinS_take (ps : List ByteArray) (k : Nat) (h : k < ps.length) : joinS (ps.take (k + 1)) = joinS (ps.take k) ++ ps[k] := by
  rw [List.take_succ_eq_append_getElem h]
  apply ByteArray.ext
  apply Array.ext'
  simp only [joinS, ByteArray.data_append, Array.toList_append, List.map_append, List.map_cons, List.map_nil, List.flatten_append, List.flatten_cons, List.flatten_nil, List.append_nil]

set_option maxHeartbeats 1600000 in
theorem refJoin_any (size : Int) (A B : Option Addr) (n c C m d D : Nat) (l : List Int) (ps : List ByteArray) (w : World) (hr : Rd w C A (iv l)) (hC : C ≤ w.heap.size) (hl : l.length = n) (hn : n ≤ 1000000)
    (hq : Rd w D B (sv ps)) (hD : D ≤ w.heap.size) (hm : ps.length = m) (hmm : m ≤ 100000) (hps : ∀ p ∈ ps, p.size ≤ 1000000) :
    Calls Try.prog 20 #[.int .i64 size, .slice A n c, .slice B m d] w fun e w' => e = .returned (.tuple #[.string (joinR size l ps), .int .i64 (joinE size l ps)]) ∧ Below w.heap.size w w' := by
  obtain ⟨r, hres⟩ : ∃ r, joinR size l ps = r := ⟨_, rfl⟩
  obtain ⟨z, hrez⟩ : ∃ z, joinE size l ps = z := ⟨_, rfl⟩
  rw [hres, hrez]
  have HE := Lib.hid (And.intro hres hrez); clear hres hrez
  have HR := Lib.hid hr; have HQ := Lib.hid hq; have HP := Lib.hid hps
  clear hr hq hps
  have HRI := Lib.hid (refRight_any size A n c C l w HR.out hl hn)
  have hno : ∀ k, k ≤ ps.length → okAt size l ps k = false → joinR size l ps = ⟨#[]⟩ ∧ joinE size l ps = 100 := fun k hk h => by
    have h2 := okAt_no k ps.length hk h
    exact ⟨by unfold joinR; rw [h2]; rfl, by unfold joinE; rw [h2]; rfl⟩
  have HN := Lib.hid hno; clear hno
  by_cases h0 : rightB size l = true ∧ m = n
  · obtain ⟨hrt, rfl⟩ := h0
    have hne : ((m : Int) != (m : Int)) = false := by simp
    have hok0 : okAt size l ps 0 = true := by
      simp only [okAt, List.range_zero, List.all_nil, Bool.and_true]
      rw [hrt, decide_eq_true (by omega)]
      rfl
    have HRT := Lib.hid hrt; have HK := Lib.hid hok0; clear hrt hok0
    go_enter Try.func20, Try.ntmps20
    go_wp2_with fail
    refine HRI.out.mono ?_
    rintro e w' ⟨rfl, rfl⟩
    rw [HRT.out]
    go_wp2_with fail
    go_loopw [8, 9] (fun sS i wr => ∃ k : Nat, k ≤ m ∧ okAt size l ps k = true ∧ sS = .string (joinS (ps.take k)) ∧ i = .int .i64 k ∧ Below w.heap.size w wr) (fun _ i _ => m - (intOf i).toNat)
    case atStart => exact ⟨0, by omega, HK.out, rfl, rfl, Below.refl _ _⟩
    case round =>
      obtain ⟨k, hk, hokk, rfl, rfl, hb⟩ := hrel
      have HO := Lib.hid (And.intro hokk hb); clear hokk hb
      by_cases hlt : k < m
      · have g3 : (k : Int) < (m : Int) := by omega
        have hkl : k < ps.length := by omega
        obtain ⟨b1, o1, hBe, hb1, hc1⟩ := HQ.out.at_ (k := k) (by simp [sv]; omega)
        have q5 : wr.cell? ⟨b1, o1 + k, none⟩ = some (.string (ps[k]'hkl)) := (HO.out.2.cell (p := ⟨b1, o1 + k, none⟩) (by simp; omega)).trans (hc1 k _ (sv_at ps k hkl))
        have Q4 := Lib.hid (fun (W : World) (h : Below w.heap.size w W) => (h.cell (p := ⟨b1, o1 + k, none⟩) (by simp; omega)).trans (hc1 k _ (sv_at ps k hkl)))
        subst hBe
        clear hc1
        have hpk : (ps[k]'hkl).size ≤ 1000000 := HP.out _ (List.getElem_mem _)
        have hnx : okAt size l ps (k + 1) = (okAt size l ps k && fitsB size l k (ps[k]'hkl)) := by
          rw [okAt_succ]; simp [List.getD, hkl]
        have HX := Lib.hid (And.intro hnx (joinS_take ps k hkl)); clear hnx
        have hcs : (joinS (ps.take k)).size + (ps[k]'hkl).size ≤ 9223372036854775807 := by
          have h1 := flat_length (ps.take k) 1000000 (fun p hp => HP.out p (List.mem_of_mem_take hp))
          have h2 : (joinS (ps.take k)).size = ((ps.take k).map (·.data.toList)).flatten.length := by simp only [joinS, ByteArray.size, List.size_toArray]
          have h3 : (ps.take k).length ≤ 100000 := by simp; omega
          have h4 : (ps.take k).length * 1000000 ≤ 100000 * 1000000 := Nat.mul_le_mul_right _ h3
          omega
        have HF := Lib.hid (refFits_any size A m c C l k (ps[k]'hkl) wr (HR.out.below HO.out.2 hC) (by have := HO.out.2.size; omega) hl hn hpk)
        generalize ps[k]'hkl = x at *
        cases hfb : fitsB size l k x
        · rw [hfb] at HF
          have HFB := Lib.hid hfb; clear hfb
          have hkno := HN.out (k + 1) (by omega) (by rw [HX.out.1, HFB.out, Bool.and_false])
          obtain rfl : r = ⟨#[]⟩ := by rw [← HE.out.1]; exact hkno.1
          obtain rfl : z = 100 := by rw [← HE.out.2]; exact hkno.2
          clear hkno
          go_wp2_with fail
          refine HF.out.mono ?_
          rintro e w4 ⟨rfl, hb4⟩
          have HB4 := Lib.hid (HO.out.2.trans (hb4.mono HO.out.2.size)); clear hb4
          go_wp2_with fail
          go_ret2
          exact ⟨rfl, HB4.out⟩
        · rw [hfb] at HF
          have HFB := Lib.hid hfb; clear hfb
          go_wp2_with fail
          refine HF.out.mono ?_
          rintro e w4 ⟨rfl, hb4⟩
          have HB4 := Lib.hid (HO.out.2.trans (hb4.mono HO.out.2.size)); clear hb4
          have q6 := Q4.out w4 HB4.out
          go_wp2_with fail
          go_roundw
          case rel => exact ⟨k + 1, by omega, by rw [HX.out.1, HFB.out, HO.out.1]; rfl, by rw [HX.out.2], by go_num, HB4.out⟩
          case measure => simp [intOf]; omega
      · obtain rfl : k = m := by omega
        obtain rfl : r = joinS (ps.take k) := by
          rw [← HE.out.1]
          unfold joinR
          rw [hm, HO.out.1, List.take_of_length_le (by omega)]
          rfl
        obtain rfl : z = 0 := by
          rw [← HE.out.2]
          unfold joinE
          rw [hm, HO.out.1]
          rfl
        go_wp2_with fail
        go_ret2
        exact ⟨rfl, HO.out.2⟩
  · have h0no : okAt size l ps 0 = false := by
      simp only [okAt, List.range_zero, List.all_nil, Bool.and_true]
      cases hrt : rightB size l
      · rfl
      · rw [decide_eq_false (by intro e; exact h0 ⟨hrt, by omega⟩)]; rfl
    have hz := HN.out 0 (by omega) h0no
    obtain rfl : r = ⟨#[]⟩ := by rw [← HE.out.1]; exact hz.1
    obtain rfl : z = 100 := by rw [← HE.out.2]; exact hz.2
    clear hz h0no
    cases hrt : rightB size l
    · have HRT := Lib.hid hrt; clear hrt h0
      go_enter Try.func20, Try.ntmps20
      go_wp2_with fail
      refine HRI.out.mono ?_
      rintro e w' ⟨rfl, rfl⟩
      rw [HRT.out]
      go_wp2_with fail
      go_ret2
      exact ⟨rfl, Below.refl _ _⟩
    · have hne : ((m : Int) != (n : Int)) = true := by
        simp
        intro e
        exact h0 ⟨hrt, by omega⟩
      have HRT := Lib.hid hrt; clear hrt h0
      go_enter Try.func20, Try.ntmps20
      go_wp2_with fail
      refine HRI.out.mono ?_
      rintro e w' ⟨rfl, rfl⟩
      rw [HRT.out]
      go_wp2_with fail
      go_ret2
      exact ⟨rfl, Below.refl _ _⟩
end Go.Proofs.Ytdfjaephlabnhaa
