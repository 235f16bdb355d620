/- Is a script more than is looked at? -/
import Derived.Test.YtbdbimnfknaakaaOpenM
namespace Go.Proofs.Ytbdbimnfknaakaa
open Go.RowKit
attribute [-go_sem] loadCellsFrom storeCells
attribute [local go_sem] storeCells_one Mt.cells_len

def bigB (p : Mt) : Bool := decide (1000 < p.es.length) || decide (200000 < p.h.d.size)
theorem EsAt.more {w : World} {B C : Nat} {v : Value} {es : List En} (h : EsAt w B v es) (hC : B ≤ C) : EsAt w C v es := by
  obtain ⟨A, n, c, hv, hr, hl, hc⟩ := h
  exact ⟨A, n, c, hv, hr.more hC, hl, hc⟩
theorem MsRaw.below {w w' : World} {v : Value} {l : List Mt} (h : MsRaw w v l) (hb : Below w.heap.size w w') : MsRaw w' v l := by
  obtain ⟨A, n, c, hv, hr, hl, hc, hm, hes⟩ := h
  exact ⟨A, n, c, hv, (hr.below hb (Nat.le_refl _)).more hb.size, hl, hc, hm, fun p hp => ((hes p hp).below hb (Nat.le_refl _)).more hb.size⟩
theorem MsRaw.at {w : World} {v : Value} {l : List Mt} (h : MsRaw w v l) (hs : ∀ p ∈ l, bigB p = false) : MsAt w w.heap.size v l := by
  obtain ⟨A, n, c, hv, hr, hl, hc, _, hes⟩ := h
  refine ⟨A, n, c, hv, hr, hl, hc, fun p hp => ⟨hes p hp, ?_⟩⟩
  have := hs p hp
  simp [bigB] at this
  omega
/-- What is said of calls that are looked at. -/
def okOp (o : Bo) : Prop := o.l.length ≤ 300 ∧ ∀ p ∈ o.l, bigB p = false

set_option linter.unusedSimpArgs false in
set_option maxHeartbeats 6400000 in
theorem large_any (A : Option Addr) (m c C : Nat) (l : List Bo) (w : World) (hr : Rd w C A (boCells l)) (hC : C ≤ w.heap.size) (hl : l.length = m) (ho : ∀ o ∈ l, MsRaw w o.v o.l) :
    Calls Try.prog 8 #[.slice A m c] w fun e w' => Below w.heap.size w w' ∧ (e = .returned (.bool true) ∨ (e = .returned (.bool false) ∧ l.length ≤ 60 ∧ ∀ o ∈ l, okOp o)) := by
  by_cases hlong : 60 < m
  · have h1 : (60 : Int) < (m : Int) := by omega
    clear hr hC hl ho hlong
    go_enter Try.func8, Try.ntmps8
    go_wp2_with fail
    go_ret
    exact ⟨Below.refl _ _, .inl rfl⟩
  have h1 : ¬ (60 : Int) < (m : Int) := by omega
  have H := Lib.hid (And.intro hr (And.intro hl ho))
  clear hr hl ho
  go_enter Try.func8, Try.ntmps8
  go_wp2_with fail
  go_loopw [3, 4] (fun n i wr => ∃ (k s : Nat), k ≤ m ∧ s ≤ 300 ∧ i = .int .i64 k ∧ n = .int .i64 s ∧ (∀ o ∈ l.take k, okOp o) ∧ Below w.heap.size w wr) (fun _ i _ => m - (intOf i).toNat)
  case atStart => exact ⟨0, 0, by omega, by omega, rfl, rfl, fun o ho => absurd ho (by simp), Below.refl _ _⟩
  case round =>
    obtain ⟨k, s, hk, hs, rfl, rfl, hok, hb⟩ := hrel
    obtain ⟨W9, rfl⟩ : ∃ W9, W9 = wr := ⟨_, rfl⟩
    have HB := Lib.hid (And.intro hb hok); clear hb hok
    by_cases hlt : k < m
    · have g3 : (k : Int) < (m : Int) := by omega
      have hka : k < l.length := by have := H.out.2.1; omega
      have HRd := Lib.hid (H.out.1.below HB.out.1 hC)
      obtain ⟨b, off, hA, hbC, hc, _⟩ := rows_load (P := Try.prog) 3 Bo.cells (fun _ => rfl) (by omega) l HRd.out k hka
      subst hA
      have hraw := (H.out.2.2 _ (List.getElem_mem hka)).below HB.out.1
      have htk : l.take (k + 1) = l.take k ++ [l[k]'hka] := List.take_succ_eq_append_getElem hka
      generalize l[k]'hka = o at *
      obtain ⟨ok, on, ov, ol⟩ := o
      obtain ⟨A2, n2, c2, rfl, hr2, hl2, hnc2, hm2, hes2⟩ := hraw
      have q2 : W9.cell? ⟨b, off + k * 3 + 2, none⟩ = some (.slice A2 n2 c2) := hc 2 _ rfl
      have HX := Lib.hid (And.intro hr2 (And.intro hl2 (And.intro hes2 htk)))
      simp only at hl2
      clear hc hr2 hes2 htk hl2 hnc2 hm2
      by_cases hbig : 300 - s < n2
      · have hbg : (300 : Int) - (s : Int) < (n2 : Int) := by omega
        go_wp2_with fail
        go_ret
        exact ⟨HB.out.1, .inl rfl⟩
      · have hbg : ¬ (300 : Int) - (s : Int) < (n2 : Int) := by omega
        go_wp2_with fail
        go_loopw [5] (fun j wr => ∃ jj : Nat, jj ≤ n2 ∧ j = .int .i64 jj ∧ (∀ p ∈ ol.take jj, bigB p = false) ∧ Below W9.heap.size W9 wr) (fun j _ => n2 - (intOf j).toNat)
        case atStart => exact ⟨0, by omega, rfl, fun p hp => absurd hp (by simp), Below.refl _ _⟩
        case round =>
          obtain ⟨jj, hjj, rfl, hpj, hbq⟩ := hrel
          have HQ := Lib.hid (And.intro hpj hbq); clear hpj hbq
          have q3 : wr.cell? ⟨b, off + k * 3 + 2, none⟩ = some (.slice A2 n2 c2) := (HQ.out.2.cell (p := ⟨b, off + k * 3 + 2, none⟩) (show b < W9.heap.size by have := HB.out.1.size; omega)).trans q2
          by_cases hjlt : jj < n2
          · have g4 : (jj : Int) < (n2 : Int) := by omega
            have hjl : jj < ol.length := by have := HX.out.2.1; omega
            obtain ⟨b2, off2, hA2, hbC2, _, hld⟩ := rows_load (P := Try.prog) 23 Mt.cells (fun _ => rfl) (by omega) ol (HX.out.1.below HQ.out.2 (Nat.le_refl _)) jj hjl
            subst hA2
            have hld := hld 0
            change Sem.run _ _ wr = .ok _ wr at hld
            have hes := (HX.out.2.2.1 _ (List.getElem_mem hjl)).below HQ.out.2 (Nat.le_refl _)
            have htj : ol.take (jj + 1) = ol.take jj ++ [ol[jj]'hjl] := List.take_succ_eq_append_getElem hjl
            generalize ol[jj]'hjl = x at *
            obtain ⟨bg, hbg2⟩ : ∃ bg, bigB x = bg := ⟨_, rfl⟩
            have hbig := big_any x W9.heap.size wr hes
            rw [show (decide (1000 < x.es.length) || decide (200000 < x.h.d.size)) = bg from hbg2] at hbig
            have HBg := Lib.hid (And.intro hbig (And.intro hbg2 htj))
            clear hbig hbg2 htj hes
            cases bg
            · go_wp2_with fail
              refine HBg.out.1.mono ?_
              rintro e w5 ⟨rfl, hb5⟩
              have H5 := Lib.hid (HQ.out.2.trans (hb5.mono HQ.out.2.size)); clear hb5
              go_wp2_with fail
              go_roundw
              case rel =>
                refine ⟨jj + 1, by omega, by go_num, fun p hp => ?_, H5.out⟩
                rw [HBg.out.2.2] at hp
                rcases List.mem_append.1 hp with hp | hp
                · exact HQ.out.1 p hp
                · rw [List.mem_singleton.1 hp]; exact HBg.out.2.1
              case measure => simp [intOf]; omega
            · go_wp2_with fail
              refine HBg.out.1.mono ?_
              rintro e w5 ⟨rfl, hb5⟩
              have H5 := Lib.hid (HB.out.1.trans ((HQ.out.2.trans (hb5.mono HQ.out.2.size)).mono HB.out.1.size)); clear hb5
              go_wp2_with fail
              go_ret
              exact ⟨H5.out, .inl rfl⟩
          · obtain rfl : jj = n2 := by omega
            have hall : ∀ p ∈ ol, bigB p = false := by
              have h1 := HQ.out.1
              rw [List.take_of_length_le (by have := HX.out.2.1; omega)] at h1
              exact h1
            have HAll := Lib.hid hall; clear hall
            go_wp2_with fail
            go_roundw
            case rel =>
              refine ⟨k + 1, s + jj, by omega, by omega, by go_num, by go_num, fun o ho => ?_, HB.out.1.trans (HQ.out.2.mono HB.out.1.size)⟩
              rw [HX.out.2.2.2] at ho
              rcases List.mem_append.1 ho with ho | ho
              · exact HB.out.2 o ho
              · rw [List.mem_singleton.1 ho]
                exact ⟨show ol.length ≤ 300 by have := HX.out.2.1; omega, HAll.out⟩
            case measure => simp [intOf]; omega
    · obtain rfl : k = m := by omega
      go_wp2_with fail
      go_ret
      refine ⟨HB.out.1, .inr ⟨rfl, by have := H.out.2.1; omega, ?_⟩⟩
      have h2 := HB.out.2
      rw [List.take_of_length_le (by have := H.out.2.1; omega)] at h2
      exact h2
end Go.Proofs.Ytbdbimnfknaakaa
