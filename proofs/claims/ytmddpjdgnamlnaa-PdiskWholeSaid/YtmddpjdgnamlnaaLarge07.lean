/- Is a script more than is looked at? -/
import Derived.Test.YtmddpjdgnamlnaaOpenD
namespace Go.Proofs.Ytmddpjdgnamlnaa
open Go.RowKit Go.Deep
attribute [-go_sem] loadCellsFrom storeCells
attribute [local go_sem] storeCells_one

theorem rows_load {α : Type} {P : Program} {w : World} {B : Nat} {A : Option Addr} (k : Nat) (enc : α → List Value) (hk : ∀ a, (enc a).length = k) (h0 : 0 < k) (l : List α) (hr : Rd w B A (l.map enc).flatten) (i : Nat) (hi : i < l.length) :
    ∃ b off, A = some ⟨b, off, none⟩ ∧ b < B ∧ (∀ t u, (enc (l[i]))[t]? = some u → w.cell? ⟨b, off + i * k + t, none⟩ = some u) ∧
      ∀ n, Sem.run P (loadCellsFrom ⟨b, off + i * k, none⟩ 0 k #[]) (w.drewN n) = .ok (enc (l[i])).toArray (w.drewN n) := by
  have hlen := flatten_len k (l.map enc) (fun r hr => by obtain ⟨a, _, rfl⟩ := List.mem_map.1 hr; exact hk a)
  rw [List.length_map] at hlen
  have hat := fun t ht => flatten_at k (l.map enc) (fun r hr => by obtain ⟨a, _, rfl⟩ := List.mem_map.1 hr; exact hk a) i t (by simpa using hi) ht
  simp only [List.getElem_map] at hat
  obtain ⟨b, off, hA, hb, hc⟩ := hr.at_ (k := i * k) (by rw [hlen]; exact Nat.mul_lt_mul_of_pos_right hi h0)
  have hcell : ∀ t u, (enc (l[i]))[t]? = some u → w.cell? ⟨b, off + i * k + t, none⟩ = some u := fun t u hu => by
    have ht : t < k := by have := (List.getElem?_eq_some_iff.1 hu).1; rw [hk] at this; exact this
    rw [Nat.add_assoc]
    exact hc _ _ ((hat t ht).trans hu)
  refine ⟨b, off, hA, hb, hcell, fun n => ?_⟩
  have := run_loadCells_list (P := P) (w := w.drewN n) ⟨b, off + i * k, none⟩ (enc (l[i])) (fun j v hv => by
    rw [Addr.add_lit]
    exact hcell j v hv)
  rw [hk] at this
  simpa [loadCells] using this


def okDo (o : Do) : Prop := o.b.length ≤ 1000 ∧ o.kp.length ≤ 5000
set_option maxHeartbeats 1600000 in
theorem large_any (A : Option Addr) (m c C : Nat) (l : List Do) (w : World) (hr : Rd w C A (doCells l)) (hl : l.length = m) (ho : ∀ o ∈ l, o.raw w) :
    Calls Try.prog 8 #[.slice A m c] w fun e w' => w = w' ∧ (e = .returned (.bool true) ∨ (e = .returned (.bool false) ∧ l.length ≤ 100 ∧ ∀ o ∈ l, okDo o)) := by
  by_cases hlong : 100 < m
  · have h1 : (100 : Int) < (m : Int) := by omega
    clear hr hl ho hlong
    go_enter Try.func8, Try.ntmps8
    go_wp2_with fail
    go_ret
    exact ⟨rfl, .inl rfl⟩
  have h1 : ¬ (100 : Int) < (m : Int) := by omega
  have H := Lib.hid (And.intro hr (And.intro hl ho))
  clear hr hl ho
  go_enter Try.func8, Try.ntmps8
  go_wp2_with fail
  go_loopw [3] (fun i wr => ∃ k : Nat, k ≤ m ∧ i = .int .i64 k ∧ (∀ o ∈ l.take k, okDo o) ∧ w = wr) (fun i _ => m - (intOf i).toNat)
  case atStart => exact ⟨0, by omega, rfl, fun o ho => absurd ho (by simp), rfl⟩
  case round =>
    obtain ⟨k, hk, rfl, hok, hw⟩ := hrel
    subst hw
    have HB := Lib.hid hok; clear hok
    by_cases hlt : k < m
    · have g3 : (k : Int) < (m : Int) := by omega
      have hka : k < l.length := by have := H.out.2.1; omega
      obtain ⟨b, off, hA, hbC, hc, _⟩ := rows_load (P := Try.prog) 4 Do.cells (fun _ => rfl) (by omega) l H.out.1 k hka
      subst hA
      have hraw := H.out.2.2 _ (List.getElem_mem hka)
      have htk : l.take (k + 1) = l.take k ++ [l[k]'hka] := List.take_succ_eq_append_getElem hka
      generalize l[k]'hka = o at *
      obtain ⟨ok, on, ob, obl, okv, okl⟩ := o
      obtain ⟨⟨A2, n2, c2, e2, hr2, hl2, hnc2, hm2⟩, ⟨A3, n3, c3, e3, hr3, hl3, hnc3, hm3⟩⟩ := hraw
      simp only at e2 e3 hl2 hl3
      subst e2 e3
      have q2 : w.cell? ⟨b, off + k * 4 + 2, none⟩ = some (.slice A2 n2 c2) := hc 2 _ rfl
      have q3 : w.cell? ⟨b, off + k * 4 + 3, none⟩ = some (.slice A3 n3 c3) := hc 3 _ rfl
      have HX := Lib.hid (And.intro hl2 (And.intro hl3 htk))
      clear hc hr2 hr3 htk hl2 hl3 hnc2 hm2 hnc3 hm3
      by_cases hbig : 1000 < n2
      · have hbg : (1000 : Int) < (n2 : Int) := by omega
        go_wp2_with fail
        go_ret
        exact ⟨rfl, .inl rfl⟩
      · have hbg : ¬ (1000 : Int) < (n2 : Int) := by omega
        by_cases hbig3 : 5000 < n3
        · have hbg3 : (5000 : Int) < (n3 : Int) := by omega
          go_wp2_with fail
          go_ret
          exact ⟨rfl, .inl rfl⟩
        · have hbg3 : ¬ (5000 : Int) < (n3 : Int) := by omega
          go_wp2_with fail
          go_roundw
          case rel =>
            refine ⟨k + 1, by omega, by go_num, ?_, trivial⟩
            rw [HX.out.2.2]
            intro o ho
            rcases List.mem_append.1 ho with ho | ho
            · exact HB.out o ho
            · rw [List.mem_singleton.1 ho]
              have h1 := HX.out.1
              have h2 := HX.out.2.1
              exact ⟨by show obl.length ≤ 1000; omega, by show okl.length ≤ 5000; omega⟩
          case measure => simp [intOf]; omega
    · obtain rfl : k = m := by omega
      go_wp2_with fail
      go_ret
      refine ⟨rfl, .inr ⟨rfl, by have := H.out.2.1; omega, ?_⟩⟩
      have := HB.out
      rw [List.take_of_length_le (by have := H.out.2.1; omega)] at this
      exact this
end Go.Proofs.Ytmddpjdgnamlnaa
