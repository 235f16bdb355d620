/- A word and numbers, a blank ahead of each: desk's join, the document's numbers. -/
import Derived.Test.YtehhgpnaemffnaaDoorNum22
namespace Go.Proofs.YtehhgpnaemffnaaDoor
open Go.RowKit

def numsL (l : List Int) : List UInt8 := l.flatMap fun n => 32 :: Lib.itoa n
theorem numsL_snoc (l : List Int) (n : Int) : numsL (l ++ [n]) = numsL l ++ 32 :: Lib.itoa n := by simp [numsL]
def I64 (x : Int) : Prop := -9223372036854775808 ≤ x ∧ x ≤ 9223372036854775807
theorem numsL_len (l : List Int) (h : ∀ x ∈ l, I64 x) : (numsL l).length ≤ 22 * l.length := by
  induction l with
  | nil => simp [numsL]
  | cons a l ih =>
    have h1 := Lib.itoa_length_le a (h a List.mem_cons_self).1 (h a List.mem_cons_self).2
    have h2 := ih fun x hx => h x (List.mem_cons_of_mem _ hx)
    simp only [numsL, List.flatMap_cons, List.length_append, List.length_cons] at h2 ⊢
    omega
def numsB (l : List Int) : ByteArray := ⟨(numsL l).toArray⟩
theorem numsB_size (l : List Int) (h : ∀ x ∈ l, I64 x) : (numsB l).size ≤ 22 * l.length := by
  have := numsL_len l h
  simpa [numsB, ByteArray.size] using this
theorem ba_push (S : ByteArray) (l : List Int) (n : Int) : S ++ numsB l ++ ((⟨#[32]⟩ : ByteArray) ++ ⟨(Lib.itoa n).toArray⟩) = S ++ numsB (l ++ [n]) := by
  apply ba_ext
  simp [numsB, numsL_snoc]
theorem ba_push2 (l : List Int) (n : Int) : numsB l ++ (⟨#[32]⟩ : ByteArray) ++ ⟨(Lib.itoa n).toArray⟩ = numsB (l ++ [n]) := by
  apply ba_ext
  simp [numsB, numsL_snoc]
theorem ints_at {w : World} {B : Nat} {A : Option Addr} {ns : List Int} (hr : Rd w B A (iv ns)) {k : Nat} (hk : k < ns.length) : ∃ b off, A = some ⟨b, off, none⟩ ∧ w.cell? ⟨b, off + k, none⟩ = some (.int .i64 (ns[k]'hk)) := by
  obtain ⟨b, off, hA, _, hc⟩ := hr.at_ (k := k) (by simpa [iv] using hk)
  exact ⟨b, off, hA, hc k _ (by simp [iv, hk])⟩
section
variable {w : World}
theorem join_any (he : Env w) (first : ByteArray) (hf : first.size ≤ 20) (A : Option Addr) (n c B : Nat) (ns : List Int) (hr : Rd w B A (iv ns)) (hB : B ≤ w.heap.size) (hl : ns.length = n) (hn : n ≤ 10) (hwf : ∀ x ∈ ns, I64 x) :
    Calls Tryd.prog 25 #[.string first, .slice A n c] w fun e w' => e = .returned (.string (first ++ numsB ns)) ∧ Below w.heap.size w w' := by
  have H := Lib.hid (And.intro he (And.intro hf (And.intro hr (And.intro hB (And.intro hl hwf)))))
  clear he hf hr hB hl hwf
  go_enter Tryd.func25, Tryd.ntmps25
  go_wp2_with fail
  go_loopw [0, 6, 9] (fun s _ i wr => ∃ k : Nat, k ≤ n ∧ i = .int .i64 k ∧ s = .string (first ++ numsB (ns.take k)) ∧ Below w.heap.size w wr) (fun _ _ i _ => n - (intOf i).toNat)
  case atStart => exact ⟨0, by omega, rfl, by rw [show first ++ numsB (ns.take 0) = first from ba_ext (by simp [numsB, numsL])], Below.refl _ _⟩
  case round =>
    obtain ⟨k, hk, rfl, rfl, hb⟩ := hrel
    by_cases hlt : k < n
    · have g3 : (k : Int) < (n : Int) := by omega
      have hka : k < ns.length := by rw [H.out.2.2.2.2.1]; exact hlt
      obtain ⟨b, off, hA, hc⟩ := ints_at (H.out.2.2.1.below hb H.out.2.2.2.1) hka
      subst hA
      have hx := H.out.2.2.2.2.2 _ (List.getElem_mem hka)
      have htk : ns.take (k + 1) = ns.take k ++ [ns[k]'hka] := List.take_succ_eq_append_getElem hka
      generalize ns[k]'hka = x at *
      have hi := itoa_any (H.out.1.below hb H.out.1.big) x hx.1 hx.2
      have hN := itoa_bytes x hx.1 hx.2
      have hS : (first ++ numsB (ns.take k)).size ≤ 300 := by
        have h1 := numsB_size (ns.take k) fun y hy => H.out.2.2.2.2.2 y (List.mem_of_mem_take hy)
        have h2 := H.out.2.1
        rw [ByteArray.size_append]
        have h3 : (ns.take k).length ≤ k := List.length_take_le _ _
        omega
      have hpu := ba_push first (ns.take k) x
      rw [← htk] at hpu
      obtain ⟨N, hNN⟩ : ∃ N : ByteArray, ⟨(Lib.itoa x).toArray⟩ = N := ⟨_, rfl⟩
      obtain ⟨S, hSS⟩ : ∃ S : ByteArray, first ++ numsB (ns.take k) = S := ⟨_, rfl⟩
      rw [hNN] at hi hN hpu
      rw [hSS] at hpu hS ⊢
      have hcs1 : 1 + N.size ≤ 9223372036854775807 := by omega
      have hcs2 : S.size + (1 + N.size) ≤ 9223372036854775807 := by omega
      have HI := Lib.hid hi
      have HP := Lib.hid (And.intro hpu hb)
      clear hi hpu hb htk hka hx hNN hSS
      go_wp2_with fail
      refine HI.out.mono ?_
      rintro e w2 ⟨rfl, hb2⟩
      have H2 := Lib.hid (HP.out.2.trans (hb2.mono HP.out.2.size)); clear hb2
      go_wp2_with fail
      go_roundw
      case rel => exact ⟨k + 1, by omega, by go_num, by rw [← HP.out.1], H2.out⟩
      case measure => simp [intOf]; omega
    · obtain rfl : k = n := by omega
      have e : ns.take k = ns := List.take_of_length_le (by rw [H.out.2.2.2.2.1]; exact Nat.le_refl _)
      rw [e]
      have HB := Lib.hid hb
      clear hb e
      go_wp2_with fail
      go_ret
      exact ⟨rfl, HB.out⟩
theorem numbers_any (A : Option Addr) (n c B : Nat) (ns : List Int) (hr : Rd w B A (iv ns)) (hl : ns.length = n) (hn : n ≤ 10) (hwf : ∀ x ∈ ns, I64 x) :
    Calls Tryd.prog 23 #[.slice A n c] w fun e w' => e = .returned (.string (numsB ns)) ∧ w = w' := by
  have H := Lib.hid (And.intro hr (And.intro hl hwf))
  clear hr hl hwf
  go_enter Tryd.func23, Tryd.ntmps23
  go_wp2_with fail
  go_loopw [3, 4] (fun s i wr => ∃ k : Nat, k ≤ n ∧ i = .int .i64 k ∧ s = .string (numsB (ns.take k)) ∧ w = wr) (fun _ i _ => n - (intOf i).toNat)
  case atStart => exact ⟨0, by omega, rfl, by rw [show numsB (ns.take 0) = ⟨#[]⟩ from rfl], rfl⟩
  case round =>
    obtain ⟨k, hk, rfl, rfl, rfl⟩ := hrel
    by_cases hlt : k < n
    · have g3 : (k : Int) < (n : Int) := by omega
      have hka : k < ns.length := by rw [H.out.2.1]; exact hlt
      obtain ⟨b, off, hA, hc⟩ := ints_at H.out.1 hka
      subst hA
      have hx := H.out.2.2 _ (List.getElem_mem hka)
      have htk : ns.take (k + 1) = ns.take k ++ [ns[k]'hka] := List.take_succ_eq_append_getElem hka
      generalize ns[k]'hka = x at *
      have hi := Number_any x.natAbs x (Nat.le_refl _) hx.1 hx.2 w
      have hN := itoa_bytes x hx.1 hx.2
      have hS : (numsB (ns.take k)).size ≤ 300 := by
        have h1 := numsB_size (ns.take k) fun y hy => H.out.2.2 y (List.mem_of_mem_take hy)
        have h3 : (ns.take k).length ≤ k := List.length_take_le _ _
        omega
      have hpu := ba_push2 (ns.take k) x
      rw [← htk] at hpu
      obtain ⟨N, hNN⟩ : ∃ N : ByteArray, ⟨(Lib.itoa x).toArray⟩ = N := ⟨_, rfl⟩
      obtain ⟨S, hSS⟩ : ∃ S : ByteArray, numsB (ns.take k) = S := ⟨_, rfl⟩
      rw [hNN] at hi hN hpu
      rw [hSS] at hpu hS ⊢
      have hcs1 : S.size + 1 ≤ 9223372036854775807 := by omega
      have hcs2 : S.size + 1 + N.size ≤ 9223372036854775807 := by omega
      have HI := Lib.hid hi
      have HP := Lib.hid hpu
      clear hi hpu htk hka hx hNN hSS
      go_wp2_with fail
      refine HI.out.mono ?_
      rintro e w2 ⟨rfl, hw⟩
      subst hw
      go_wp2_with fail
      go_roundw
      case rel => exact ⟨k + 1, by omega, by go_num, by rw [← HP.out], trivial⟩
      case measure => simp [intOf]; omega
    · obtain rfl : k = n := by omega
      have e : ns.take k = ns := List.take_of_length_le (by rw [H.out.2.1]; exact Nat.le_refl _)
      rw [e]
      clear e
      go_wp2_with fail
      go_ret
      exact ⟨rfl, rfl⟩
/-- Both at numbers that have just been laid. -/
theorem join_new (he : Env w) (first : ByteArray) (hf : first.size ≤ 20) (ns : List Int) (hn : ns.length ≤ 10) (hwf : ∀ x ∈ ns, I64 x) :
    Calls Tryd.prog 25 #[.string first, .slice (some ⟨w.heap.size, 0, none⟩) ns.length ns.length] (w.alloc (.cells (iv ns).toArray 3)) fun e w' => e = .returned (.string (first ++ numsB ns)) ∧ Below w.heap.size w w' := by
  have hb : Below w.heap.size w (w.alloc (.cells (iv ns).toArray 3)) := (Below.refl _ _).alloc (Nat.le_refl _) _
  have hk := Blk.new w 3 (iv ns)
  refine (join_any (he.below hb he.big) first hf _ _ _ (w.heap.size + 1) ns (.inr ⟨w.heap.size, 0, rfl, by omega, fun j u hu => by rw [Nat.zero_add, hk.cell]; exact hu⟩) (by simp) rfl hn hwf).mono ?_
  rintro e w' ⟨rfl, hb2⟩
  exact ⟨rfl, hb.trans (hb2.mono (by simp))⟩
theorem numbers_new (ns : List Int) (hn : ns.length ≤ 10) (hwf : ∀ x ∈ ns, I64 x) :
    Calls Tryd.prog 23 #[.slice (some ⟨w.heap.size, 0, none⟩) ns.length ns.length] (w.alloc (.cells (iv ns).toArray 3)) fun e w' => e = .returned (.string (numsB ns)) ∧ Below w.heap.size w w' := by
  have hb : Below w.heap.size w (w.alloc (.cells (iv ns).toArray 3)) := (Below.refl _ _).alloc (Nat.le_refl _) _
  have hk := Blk.new w 3 (iv ns)
  refine (numbers_any _ _ _ (w.heap.size + 1) ns (.inr ⟨w.heap.size, 0, rfl, by omega, fun j u hu => by rw [Nat.zero_add, hk.cell]; exact hu⟩) rfl hn hwf).mono ?_
  rintro e w' ⟨rfl, rfl⟩
  exact ⟨rfl, hb⟩
end
end Go.Proofs.YtehhgpnaemffnaaDoor
