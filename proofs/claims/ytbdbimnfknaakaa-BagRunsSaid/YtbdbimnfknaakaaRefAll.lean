/- Rows of messages; the document's All. -/
import Derived.Test.YtbdbimnfknaakaaRefSame
namespace Go.Proofs.Ytbdbimnfknaakaa
open Go.RowKit
attribute [-go_sem] loadCellsFrom storeCells
attribute [local go_sem] storeCells_one Mt.cells_len

def mtCells (l : List Mt) : List Value := (l.map Mt.cells).flatten
theorem mtCells_len (l : List Mt) : (mtCells l).length = l.length * 23 := by
  have := flatten_len 23 (l.map Mt.cells) (fun r hr => by obtain ⟨a, _, rfl⟩ := List.mem_map.1 hr; rfl)
  simpa [mtCells] using this
/-- The lists of these messages lie where they say, and are short. -/
def EsAll (w : World) (B : Nat) (l : List Mt) : Prop := ∀ p ∈ l, EsAt w B p.v p.es ∧ p.es.length ≤ 1000
theorem EsAll.below {w w' : World} {B C : Nat} {l : List Mt} (h : EsAll w B l) (hb : Below C w w') (hC : B ≤ C) : EsAll w' B l := fun p hp => ⟨(h p hp).1.below hb hC, (h p hp).2⟩
/-- A row of messages lies where a slice says. -/
def MsAt (w : World) (B : Nat) (v : Value) (l : List Mt) : Prop := ∃ A n c, v = .slice A n c ∧ Rd w B A (mtCells l) ∧ l.length = n ∧ n ≤ c ∧ EsAll w B l
theorem MsAt.below {w w' : World} {B C : Nat} {v : Value} {l : List Mt} (h : MsAt w B v l) (hb : Below C w w') (hC : B ≤ C) : MsAt w' B v l := by
  obtain ⟨A, n, c, hv, hr, hl, hc, he⟩ := h
  exact ⟨A, n, c, hv, hr.below hb hC, hl, hc, he.below hb hC⟩
theorem MsAt.more {w : World} {B C : Nat} {v : Value} {l : List Mt} (h : MsAt w B v l) (hC : B ≤ C) : MsAt w C v l := by
  obtain ⟨A, n, c, hv, hr, hl, hc, he⟩ := h
  refine ⟨A, n, c, hv, hr.more hC, hl, hc, fun p hp => ⟨?_, (he p hp).2⟩⟩
  obtain ⟨A', n', c', hv', hr', hl', hc'⟩ := (he p hp).1
  exact ⟨A', n', c', hv', hr'.more hC, hl', hc'⟩

set_option maxHeartbeats 3200000 in
theorem refAll_any (va vb : Value) (la lb : List Mt) (B : Nat) (w : World) (ha : MsAt w B va la) (hb : MsAt w B vb lb) (hB : B ≤ w.heap.size) (hn : la.length ≤ 1000000) :
    Calls Try.prog 14 #[va, vb] w fun e w' => e = .returned (.bool (decide (la.map Mt.m = lb.map Mt.m))) ∧ Below w.heap.size w w' := by
  obtain ⟨A, n, c, rfl, hr, hl, hc, he⟩ := ha
  obtain ⟨A', n', c', rfl, hr', hl', hc', he'⟩ := hb
  have H := Lib.hid (And.intro hr (And.intro hl (And.intro hr' hl')))
  have HE := Lib.hid (And.intro he he')
  obtain ⟨r, hres⟩ : ∃ r, decide (la.map Mt.m = lb.map Mt.m) = r := ⟨_, rfl⟩
  rw [hres]
  have HR := Lib.hid hres; clear hres hr hr' hc hc' he he'
  by_cases hne : ¬ n = n'
  · have hnb : ((n : Int) != (n' : Int)) = true := by simp; omega
    have hrf : r = false := by rw [← HR.out]; exact decide_eq_false fun h => by have := congrArg List.length h; simp only [List.length_map] at this; omega
    subst hrf
    go_enter Try.func14, Try.ntmps14
    go_wp2_with fail
    go_ret
    exact ⟨rfl, Below.refl _ _⟩
  replace hne := Classical.not_not.1 hne
  subst hne
  clear hl hl'
  go_enter Try.func14, Try.ntmps14
  go_wp2_with fail
  go_loopw [5] (fun i wr => ∃ k : Nat, k ≤ n ∧ i = .int .i64 k ∧ (la.take k).map Mt.m = (lb.take k).map Mt.m ∧ Below w.heap.size w wr) (fun i _ => n - (intOf i).toNat)
  case atStart => exact ⟨0, by omega, rfl, by simp, Below.refl _ _⟩
  case round =>
    obtain ⟨k, hk, rfl, htk, hb⟩ := hrel
    have HT := Lib.hid htk
    have HB := Lib.hid hb
    clear htk hb
    by_cases hlt : k < n
    · have g3 : (k : Int) < (n : Int) := by omega
      have hka : k < la.length := by have := H.out.2.1; omega
      have hkb : k < lb.length := by have := H.out.2.2.2; omega
      have HA := Lib.hid (H.out.1.below HB.out hB)
      have HA' := Lib.hid (H.out.2.2.1.below HB.out hB)
      have HL := Lib.hid (fun (W : World) (hW : Below wr.heap.size wr W) => rows_load (P := Try.prog) 23 Mt.cells (fun _ => rfl) (by omega) la (HA.out.below hW (Nat.le_trans hB HB.out.size)) k hka)
      have HL' := Lib.hid (fun (W : World) (hW : Below wr.heap.size wr W) => rows_load (P := Try.prog) 23 Mt.cells (fun _ => rfl) (by omega) lb (HA'.out.below hW (Nat.le_trans hB HB.out.size)) k hkb)
      have hx := (HE.out.1 _ (List.getElem_mem hka)).1.below HB.out hB
      have hy := (HE.out.2 _ (List.getElem_mem hkb)).1.below HB.out hB
      have hxn := (HE.out.1 _ (List.getElem_mem hka)).2
      obtain ⟨b, off, hA, _, _, _⟩ := HL.out wr (Below.refl _ _)
      obtain ⟨b', off', hA', _, _, _⟩ := HL'.out wr (Below.refl _ _)
      subst hA hA'
      have hta : la.take (k + 1) = la.take k ++ [la[k]'hka] := List.take_succ_eq_append_getElem hka
      have htb : lb.take (k + 1) = lb.take k ++ [lb[k]'hkb] := List.take_succ_eq_append_getElem hkb
      have hgx := List.getElem?_eq_getElem hka
      have hgy := List.getElem?_eq_getElem hkb
      generalize la[k]'hka = x at *
      generalize lb[k]'hkb = y at *
      have HTT := Lib.hid (And.intro hta (And.intro htb (And.intro hgx hgy))); clear hta htb hgx hgy
      have HXY := Lib.hid (And.intro hx (And.intro hy hxn)); clear hx hy hxn
      have hld : ∀ W : World, Below wr.heap.size wr W → Sem.run Try.prog (loadCellsFrom ⟨b, off + k * 23, none⟩ 0 23 #[]) W = .ok x.cells.toArray W := fun W hW => by
        obtain ⟨_, _, e, _, _, h⟩ := HL.out W hW
        cases e
        exact h 0
      have hld' : ∀ W : World, Below wr.heap.size wr W → Sem.run Try.prog (loadCellsFrom ⟨b', off' + k * 23, none⟩ 0 23 #[]) W = .ok y.cells.toArray W := fun W hW => by
        obtain ⟨_, _, e, _, _, h⟩ := HL'.out W hW
        cases e
        exact h 0
      have HLD := Lib.hid (And.intro hld hld'); clear hld hld' HL HL'
      obtain ⟨s, hs⟩ : ∃ s, decide (x.m = y.m) = s := ⟨_, rfl⟩
      have HS := Lib.hid hs; clear hs
      go_wp2_with fail
      refine wp_region_mono' (by kernel_rfl) (by kernel_rfl) ?_
      iterate 10 (refine ex_det ?_; apply Exists.intro)
      refine ex_nil ⟨?pers, ?walk⟩
      case' walk =>
        iterate 3
          apply mwalk_det (by kernel_rfl) (by intro t w h; cases h; exact trivial) rfl
          · intro W hW hF
            go_wp2_with fail
            exact ⟨rfl, _, rfl, hW, Below.refl _ _, rfl⟩
          simp only [Act.put, List.setIfInBounds_toArray, List.set_cons_zero, List.set_cons_succ]
        apply mwalk_det (by kernel_rfl) (by intro t w h; cases h; exact trivial) rfl
        · intro W hW hF
          have hld := HLD.out.1 W hW
          go_wp2_with fail
          exact ⟨rfl, _, rfl, hW, Below.refl _ _, rfl⟩
        simp only [Act.put, List.setIfInBounds_toArray, List.set_cons_zero, List.set_cons_succ]
        iterate 3
          apply mwalk_det (by kernel_rfl) (by intro t w h; cases h; exact trivial) rfl
          · intro W hW hF
            go_wp2_with fail
            exact ⟨rfl, _, rfl, hW, Below.refl _ _, rfl⟩
          simp only [Act.put, List.setIfInBounds_toArray, List.set_cons_zero, List.set_cons_succ]
        apply mwalk_det (by kernel_rfl) (by intro t w h; cases h; exact trivial) rfl
        · intro W hW hF
          have hld := HLD.out.2 W hW
          go_wp2_with fail
          exact ⟨rfl, _, rfl, hW, Below.refl _ _, rfl⟩
        simp only [Act.put, List.setIfInBounds_toArray, List.set_cons_zero, List.set_cons_succ]
        apply mwalk_det (by kernel_rfl) (by intro t w h; cases h; exact trivial) rfl
        · intro W hW hF
          go_wp2_with fail
          refine (refSame_any x y B W (HXY.out.1.below hW (Nat.le_trans hB HB.out.size)) (HXY.out.2.1.below hW (Nat.le_trans hB HB.out.size)) (Nat.le_trans (Nat.le_trans hB HB.out.size) hW.size) (Nat.le_trans HXY.out.2.2 (by omega))).mono ?_
          rintro e w9 ⟨rfl, hb⟩
          rw [HS.out]
          have HB9 := Lib.hid hb; clear hb
          go_wp2_with fail
          exact ⟨rfl, _, rfl, hW.trans (HB9.out.mono hW.size), HB9.out, rfl⟩
        simp only [Act.put, List.setIfInBounds_toArray, List.set_cons_zero, List.set_cons_succ]
        iterate 1
          apply mwalk_det (by kernel_rfl) (by intro t w h; cases h; exact trivial) rfl
          · intro W hW hF
            go_wp2_with fail
            exact ⟨rfl, _, rfl, hW, Below.refl _ _, rfl⟩
          simp only [Act.put, List.setIfInBounds_toArray, List.set_cons_zero, List.set_cons_succ]
        intro W hW hF
        have HW := Lib.hid (HB.out.trans (hW.mono HB.out.size))
        clear hW
        have hsx := HS.out
      case pers => exact ⟨pers_isV _, pers_isV _, pers_isV _, pers_isV _, pers_isV _, pers_isV _, pers_isV _, pers_isV _, pers_isV _, pers_isV _, trivial⟩
      cases s
      · have hrf : r = false := by
          rw [← HR.out]
          refine decide_eq_false fun h => ?_
          have hne := of_decide_eq_false hsx
          have h1 := congrArg (fun l => l[k]?) h
          simp only [List.getElem?_map, HTT.out.2.2.1, HTT.out.2.2.2, Option.map_some, Option.some.injEq] at h1
          exact hne h1
        subst hrf
        clear hsx
        go_wp2_with fail
        go_ret
        exact ⟨rfl, HW.out⟩
      · have hxy := of_decide_eq_true hsx
        clear hsx
        have hnx : (la.take (k + 1)).map Mt.m = (lb.take (k + 1)).map Mt.m := by
          rw [HTT.out.1, HTT.out.2.1, List.map_append, List.map_append, HT.out]
          simp [hxy]
        have HNX := Lib.hid hnx
        clear hnx hxy
        go_wp2_with fail
        go_roundw
        case rel => exact ⟨k + 1, by omega, by go_num, HNX.out, HW.out⟩
        case measure => simp [intOf]; omega
    · obtain rfl : k = n := by omega
      have hrt : r = true := by
        rw [← HR.out]
        have h1 := HT.out
        rw [List.take_of_length_le (by have := H.out.2.1; omega), List.take_of_length_le (by have := H.out.2.2.2; omega)] at h1
        exact decide_eq_true h1
      subst hrt
      go_wp2_with fail
      go_ret
      exact ⟨rfl, HB.out⟩
end Go.Proofs.Ytbdbimnfknaakaa
