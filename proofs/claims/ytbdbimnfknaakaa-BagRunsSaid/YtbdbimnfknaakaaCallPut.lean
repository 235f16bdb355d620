/- A script's calls: Put. -/
import Derived.Test.YtbdbimnfknaakaaWithout
namespace Go.Proofs.Ytbdbimnfknaakaa
open Go.RowKit
attribute [-go_sem] loadCellsFrom storeCells
attribute [local go_sem] storeCells_one Mt.cells_len Mt.fold

theorem ORow.rd_lt {w : World} {S : Nat → Prop} {e : TypeId} {k n B : Nat} {A : Option Addr} {c : Nat} {xs : List Value} (h : ORow w S e k (.slice A n c) n xs) (hB : ∀ i, S i → i < B) : Rd w B A xs := by
  have h0 := h.rd
  rcases h.2 with ⟨hv, rfl⟩ | ⟨g, off, cap, cur, hv, hs, hg, _⟩
  · exact .inl (List.eq_nil_of_length_eq_zero (by simpa using h.1))
  · cases hv
    rcases h0 with h0 | ⟨b, off', e', _, hc⟩
    · exact .inl h0
    · cases e'
      exact .inr ⟨g, off, rfl, hB g hs, hc⟩
theorem MyRow.at_lt {w : World} {S : Nat → Prop} {B : Nat} {v : Value} {l : List Mt} (h : MyRow w S v l) (hB : ∀ i, S i → i < B) : MsAt w B v l := by
  obtain ⟨A, c, hv, hc, _⟩ := h.1.slice
  have h1 := h.1
  rw [hv] at h1
  refine ⟨A, _, c, hv, h1.rd_lt hB, rfl, hc, fun p hp => ⟨?_, (h.2 p hp).2⟩⟩
  obtain ⟨A2, c2, hv2, hc2, _⟩ := (h.2 p hp).1.slice
  have h2 := (h.2 p hp).1
  rw [hv2] at h2
  exact ⟨A2, _, c2, hv2, h2.rd_lt hB, rfl, hc2⟩
/-- The bag and the document's row beside it. -/
structure St (base : Nat) (w : World) (g most : Nat) (vl : Value) (ms : List Ms) (Sb Sr : Nat → Prop) (v : Value) (lb ll : List Mt) : Prop where
  b : ∀ i, Sb i → base ≤ i ∧ i < w.heap.size
  r : ∀ i, Sr i → base ≤ i ∧ i < w.heap.size
  apart : ∀ i, Sb i → ¬ Sr i
  bag : BagAt w Sb g most v lb
  row : MyRow w Sr vl ll
  mb : lb.map Mt.m = ms
  mr : ll.map Mt.m = ms
  kinds : ∀ m ∈ ms, m.h.k ≠ 0
theorem St.below {base : Nat} {w w' : World} {g most : Nat} {vl : Value} {ms : List Ms} {Sb Sr : Nat → Prop} {v : Value} {lb ll : List Mt} (h : St base w g most vl ms Sb Sr v lb ll) (hb : Below w.heap.size w w') : St base w' g most vl ms Sb Sr v lb ll :=
  ⟨fun i hi => ⟨(h.b i hi).1, Nat.lt_of_lt_of_le (h.b i hi).2 hb.size⟩, fun i hi => ⟨(h.r i hi).1, Nat.lt_of_lt_of_le (h.r i hi).2 hb.size⟩, h.apart, h.bag.below hb, h.row.below hb, h.mb, h.mr, h.kinds⟩
theorem St.bagS {base : Nat} {w : World} {g most : Nat} {vl : Value} {ms : List Ms} {Sb Sr : Nat → Prop} {v : Value} {lb ll : List Mt} (h : St base w g most vl ms Sb Sr v lb ll) : ∀ i, bagS g v i → Sb i := by
  rintro i (rfl | hi)
  · exact h.bag.inS
  · exact (h.bag.row.lt i hi).1
theorem putN_kind {most : Nat} {l more : List Ms} (h : ∀ m ∈ l, m.h.k ≠ 0) : ∀ m ∈ putN most l more, m.h.k ≠ 0 := by
  intro m hm
  have := List.mem_of_mem_drop hm
  rcases List.mem_append.1 this with h1 | h1
  · exact h m h1
  · simpa using (List.mem_filter.1 h1).2

set_option linter.unusedSimpArgs false in
set_option maxRecDepth 100000 in
set_option maxHeartbeats 12800000 in
theorem call_put {base g most : Nat} {vl : Value} {ms : List Ms} {Sb Sr : Nat → Prop} {v : Value} {lb ll : List Mt} (on : Int) (ov : Value) (ol : List Mt) (w : World) (h : St base w g most vl ms Sb Sr v lb ll) (h1 : 1 ≤ most) (h2 : most ≤ 200) (hbase : base ≤ w.heap.size) (ho : MsAt w base ov ol) (hol : ol.length ≤ 300) :
    Calls Try.prog 11 #[.pointer (some ⟨g, 0, none⟩), vl, .agg #[.int .i64 1, .int .i64 on, ov], .int .i64 most] w fun e w' =>
      (∃ vl' Sb' Sr' v' lb' ll', e = .returned (.tuple #[vl', .bool true]) ∧ St base w' g most vl' (putN most ms (ol.map Mt.m)) Sb' Sr' v' lb' ll') ∧ Below base w w' := by
  obtain ⟨A, n, c, rfl, hr, hln, hnc, hes⟩ := ho
  have hk1 := Blk.new w 33 [.int .i64 1, .int .i64 on, .slice A n c]
  have hb1 := (Below.refl w.heap.size w).alloc (Nat.le_refl _) (.cells #[.int .i64 1, .int .i64 on, .slice A n c] 33)
  obtain ⟨w1, hw1⟩ : ∃ w1, w.alloc (.cells #[.int .i64 1, .int .i64 on, .slice A n c] 33) = w1 := ⟨_, rfl⟩
  have hs1 : w1.heap.size = w.heap.size + 1 := by rw [← hw1]; simp
  rw [hw1] at hk1 hb1
  have HS1 := Lib.hid hs1
  have hmsl : ms.length ≤ 200 := by have := h.bag.short; rw [← h.mb, List.length_map]; omega
  have H := Lib.hid (And.intro h (And.intro hb1 (And.intro hk1 (And.intro hr (And.intro hln (And.intro hes hnc))))))
  have q0 : w1.cell? ⟨w.heap.size, 0, none⟩ = some (.int .i64 1) := hk1.cell 0
  clear h hk1 hb1 hr hes hs1 hnc
  obtain ⟨i0, hi0, hz0, hz1, hz2⟩ := info_parts ms_info
  go_enter Try.func11, Try.ntmps11
  go_wp2_with fail
  clear q0
  go_loopw [10, 11] (fun out i wr => ∃ k : Nat, k ≤ n ∧ i = .int .i64 k ∧ ∃ lo, MyRow wr (fun i => w1.heap.size ≤ i) out lo ∧ lo.length = k ∧ lo.map Mt.m = (ol.take k).map Mt.m ∧ Below w1.heap.size w1 wr) (fun _ i _ => n - (intOf i).toNat)
  case atStart =>
    exact ⟨0, by omega, rfl, [], ⟨ORow.nil _ _ _ _, fun p hp => by cases hp⟩, rfl, by simp, Below.refl _ _⟩
  case round =>
    obtain ⟨k, hk, rfl, lo, hmy, hlo, hlm, hb⟩ := hrel
    have HB := Lib.hid (And.intro hmy (And.intro hlm hb)); clear hmy hlm hb
    have HLo := Lib.hid hlo
    have hlo3 : lo.length ≤ 300 := by omega
    clear hlo
    obtain ⟨Ao, co, rfl, hco, _⟩ := HB.out.1.1.slice
    have hbw : Below w.heap.size w wr := H.out.2.1.trans (HB.out.2.2.mono (by rw [HS1.out]; omega))
    have HBW := Lib.hid hbw; clear hbw
    have q2 : wr.cell? ⟨w.heap.size, 2, none⟩ = some (.slice A n c) := (H.out.2.2.1.below HB.out.2.2 H.out.2.2.1.lt).cell 2
    by_cases hlt : k < n
    · have g3 : (k : Int) < (n : Int) := by omega
      have hka : k < ol.length := by omega
      obtain ⟨b, off, hA, _, hc, hld⟩ := rows_load (P := Try.prog) 23 Mt.cells (fun _ => rfl) (by omega) ol (H.out.2.2.2.1.below (HBW.out.mono hbase) (Nat.le_refl _)) k hka
      have hld := hld 0
      change Sem.run _ _ wr = .ok _ wr at hld
      subst hA
      have hx := H.out.2.2.2.2.2.1 _ (List.getElem_mem hka)
      have htk : ol.take (k + 1) = ol.take k ++ [ol[k]'hka] := List.take_succ_eq_append_getElem hka
      generalize ol[k]'hka = x at *
      have hx1 := hx.2
      have HX := Lib.hid (And.intro (hx.1.below (HBW.out.mono hbase) (Nat.le_refl _)) htk); clear hx htk hc
      have hBr : base ≤ wr.heap.size := Nat.le_trans hbase HBW.out.size
      go_wp2_with fail
      refine (refOwn_any x base wr HX.out.1 hBr (by omega)).mono ?_
      rintro e w3 ⟨v3, rfl, ho3, hb3⟩
      have hz := Blk.new w3 47 zero47
      have es3 : EsMy w3 (fun i => w1.heap.size ≤ i) (x.with v3) := EsMy.of_own (p := x.with v3) ho3 hx1 (fun i hi _ => Nat.le_trans HB.out.2.2.size hi)
      have hst := hz.store (P := Try.prog) (cs' := (x.with v3).cells) rfl (Mt.one es3.at)
      have hz4 := hz.set (x.with v3).cells
      have hb4 : Below w3.heap.size w3 ((w3.alloc (.cells zero47.toArray 47)).setRow w3.heap.size (x.with v3).cells.toArray) := below_setRow ((Below.refl _ _).alloc (Nat.le_refl _) _) (Nat.le_refl _) _
      obtain ⟨w4, hw4⟩ : ∃ w4, (w3.alloc (.cells zero47.toArray 47)).setRow w3.heap.size (x.with v3).cells.toArray = w4 := ⟨_, rfl⟩
      rw [hw4] at hst hz4 hb4
      have hld4 := hz4.load (P := Try.prog) (k := 23) rfl
      have hb34 : Below wr.heap.size wr w4 := hb3.trans (hb4.mono hb3.size)
      have hb5 : Below w4.heap.size w4 (w4.alloc (.cells (x.with v3).cells.toArray 47)) := (Below.refl _ _).alloc (Nat.le_refl _) _
      have hk5 := Blk.new w4 47 (x.with v3).cells
      have hb35 := hb34.trans (hb5.mono hb34.size)
      have H5 := Lib.hid (And.intro (HB.out.1.1.below hb35) (And.intro hk5 (And.intro (es3.below (hb4.trans (hb5.mono hb4.size))) (And.intro hb35 (show ∀ p ∈ lo, EsMy _ (fun i => w1.heap.size ≤ i) p from fun p hp => (HB.out.1.2 p hp).below hb35)))))
      have hS5 : ∀ i, (w4.alloc (.cells (x.with v3).cells.toArray 47)).heap.size ≤ i → w1.heap.size ≤ i := fun i hi => Nat.le_trans HB.out.2.2.size (Nat.le_trans hb35.size hi)
      have hO := Mt.one es3.at
      clear hz hz4 hb4 hb34 hb5 hk5 hb35 es3 ho3 hb3 hld hw4
      simp only [zero47] at hst
      go_wp2_with (at_builtin; refine wpList_append_orow _ rfl (.tmp 35) (.tmp 37) _ rfl 47 i0 _ 23 208 Try.underlying29 hi0 hz0 hz1 hz2 rfl (by omega) (fun i => w1.heap.size ≤ i) _ lo.length (mtCells lo) rfl H5.out.1 hS5 ⟨w4.heap.size, 0, none⟩ 1 1 (x.with v3).cells rfl rfl ?_ hO ?_ ?_ ?_)
      · intro j u hj
        rw [Addr.add_lit, Nat.zero_add, H5.out.2.1.cell]
        exact hj
      · unfold maxLen; omega
      · omega
      intro v6 w6 hr6 hc6 hv6
      have hblk : Below w1.heap.size w1 w6 := by
        have h0 : Below w1.heap.size _ w6 := hc6.below (B := w1.heap.size) (fun i hi => (H5.out.1.lt i hi).1) (Nat.le_trans HB.out.2.2.size H5.out.2.2.2.1.size)
        exact (HB.out.2.2.trans (H5.out.2.2.2.1.mono HB.out.2.2.size)).trans h0
      have htag : ∀ i c', some i = (Value.slice Ao lo.length co).ownBlock → (w4.alloc (.cells (x.with v3).cells.toArray 47)).heap[i]? ≠ some (.cells c' 67 (0, 0)) := fun i c' hi hg => by
        obtain ⟨c'', hc''⟩ := H5.out.1.tag hi
        rw [hc''] at hg
        simp at hg
      have hml : mtCells lo ++ (x.with v3).cells = mtCells (lo ++ [x.with v3]) := by rw [mtCells_append]; simp [mtCells]
      rw [hml] at hr6
      have hll : (lo ++ [x.with v3]).length = lo.length + 1 := by simp
      rw [← hll] at hr6
      have hmy6 : MyRow w6 (fun i => w1.heap.size ≤ i) v6 (lo ++ [x.with v3]) := by
        refine ⟨hr6, fun p hp => ?_⟩
        rcases List.mem_append.1 hp with hp | hp
        · exact (H5.out.2.2.2.2 p hp).chg hc6 htag
        · rw [List.mem_singleton.1 hp]
          exact H5.out.2.2.1.chg hc6 htag
      have H6 := Lib.hid (And.intro hmy6 hblk)
      clear hmy6 hr6 hblk htag hml hc6 hv6 hll
      go_wp2_with fail
      go_roundw
      case rel =>
        refine ⟨k + 1, by omega, by go_num, lo ++ [x.with v3], H6.out.1, by rw [List.length_append, HLo.out]; rfl, ?_, H6.out.2⟩
        rw [List.map_append, HB.out.2.1, HX.out.2, List.map_append]
        rfl
      case measure => simp [intOf]; omega
    · obtain rfl : k = n := by omega
      obtain ⟨W9, rfl⟩ : ∃ W9, W9 = wr := ⟨_, rfl⟩
      have hlom : lo.map Mt.m = ol.map Mt.m := by rw [HB.out.2.1, List.take_of_length_le (by omega)]
      -- the bag's own deed
      have hSt9 := H.out.1.below HBW.out
      have hmy9 : MyRow W9 (fun i => w1.heap.size ≤ i ∧ i < W9.heap.size) (.slice Ao lo.length co) lo := HB.out.1.mono fun i hi hs => ⟨hs, hi⟩
      have hdis : ∀ i, Sb i → i < w1.heap.size := fun i hi => by have := (H.out.1.b i hi).2; rw [HS1.out]; omega
      have haw : Away W9 (bagS g v) W9.heap.size (.slice Ao lo.length co) lo := fun w' hc => by
        have h0 := hmy9.chg hc (fun i hi _ ht => by have := hdis i (hSt9.bagS i ht); omega)
        exact h0.at_lt fun i hi => hi.2
      have HPut := Lib.hid (put_any (S := fun i => Sb i ∨ W9.heap.size ≤ i) (.slice Ao lo.length co) lo W9.heap.size W9 (hSt9.bag.mono fun i _ hi => .inl hi) (fun i hi => .inr hi) h1 h2 haw (Nat.le_refl _) (by omega))
      have H9 := Lib.hid (And.intro hSt9 (And.intro hmy9 (And.intro hdis hlom)))
      clear hSt9 hmy9 hdis haw hlom
      go_wp2_with fail
      refine HPut.out.mono ?_
      rintro e w6 ⟨rfl, v6, l6, hbag6, hl6, hch6, _⟩
      rw [H9.out.1.mb, H9.out.2.2.2] at hl6
      have hb6 : Below base w w6 := (HBW.out.mono hbase).trans (hch6.below (fun i hi => (H9.out.1.b i (H9.out.1.bagS i hi)).1) (Nat.le_trans hbase HBW.out.size))
      have hmy6 := H9.out.2.1.chg hch6 (fun i hi _ ht => by have := H9.out.2.2.1 i (H9.out.1.bagS i ht); omega)
      have hrow6 := H9.out.1.row.chg hch6 (fun i hi _ ht => H9.out.1.apart i (H9.out.1.bagS i ht) hi)
      have hk6 := (H.out.2.2.1.below HB.out.2.2 H.out.2.2.1.lt).chg hch6 (fun ht => by have := (H.out.1.b _ (H9.out.1.bagS _ ht)).2; omega)
      have q2 : w6.cell? ⟨w.heap.size, 2, none⟩ = some (.slice A k c) := hk6.cell 2
      have hbag6' : BagAt w6 (fun i => (Sb i ∨ W9.heap.size ≤ i) ∧ i < w6.heap.size) g most v6 l6 := hbag6.mono fun i hi hs => ⟨hs, hi⟩
      have hms6 : MsAt w6 w6.heap.size (.slice A k c) ol := MsAt.more ⟨A, k, c, rfl, H.out.2.2.2.1.below hb6 (Nat.le_refl _), H.out.2.2.2.2.1, H.out.2.2.2.2.2.2, H.out.2.2.2.2.2.1.below hb6 (Nat.le_refl _)⟩ (Nat.le_trans hbase hb6.size)
      have hall := refAll_any (.slice Ao lo.length co) (.slice A k c) lo ol w6.heap.size w6 hmy6.at hms6 (Nat.le_refl _) (by omega)
      rw [decide_eq_true H9.out.2.2.2] at hall
      have HAll := Lib.hid hall
      have H6 := Lib.hid (And.intro hbag6' (And.intro hl6 (And.intro hb6 (And.intro hmy6 (And.intro hrow6 (And.intro hk6 hch6.size))))))
      clear hbag6 hbag6' hl6 hb6 hmy6 hrow6 hk6 hch6 hms6 hall HPut
      go_wp2_with fail
      refine HAll.out.mono ?_
      rintro e w7 ⟨rfl, hb7⟩
      have hmy7 := H6.out.2.2.2.1.below hb7
      have HOv := Lib.hid (over_any w7 hmy7 (by omega))
      have H7 := Lib.hid hb7
      clear hmy7 hb7 q2
      go_wp2_with fail
      refine HOv.out.mono ?_
      rintro e w8 ⟨rfl, hch8⟩
      have hb8 : Below base w w8 := (H6.out.2.2.1.trans (H7.out.mono (Nat.le_trans hbase H6.out.2.2.1.size))).trans (hch8.below (fun i hi => by have := HS1.out; omega) (Nat.le_trans hbase (Nat.le_trans H6.out.2.2.1.size H7.out.size)))
      have hsb : ∀ i, Sb i → i < w.heap.size := fun i hi => (H.out.1.b i hi).2
      have hsr : ∀ i, Sr i → i < w.heap.size := fun i hi => (H.out.1.r i hi).2
      have hbag8 := (H6.out.1.below H7.out).chg hch8 (fun i hi ht => by
        have := HS1.out
        rcases hi.1 with h | h
        · have := hsb i h; omega
        · omega)
      have hrow8 := (H6.out.2.2.2.2.1.below H7.out).chg hch8 (fun i hi _ ht => by have := hsr i hi; have := HS1.out; omega)
      have hk8 := (H6.out.2.2.2.2.2.1.below H7.out H6.out.2.2.2.2.2.1.lt).chg hch8 (fun ht => by have := HS1.out; omega)
      have q2 : w8.cell? ⟨w.heap.size, 2, none⟩ = some (.slice A k c) := hk8.cell 2
      have hms8 : MsAt w8 base (.slice A k c) ol := ⟨A, k, c, rfl, H.out.2.2.2.1.below hb8 (Nat.le_refl _), H.out.2.2.2.2.1, H.out.2.2.2.2.2.2, H.out.2.2.2.2.2.1.below hb8 (Nat.le_refl _)⟩
      have hll : ll.length ≤ 1000 := by have := congrArg List.length H.out.1.mr; rw [List.length_map] at this; omega
      have HRp := Lib.hid (refPut_any (.slice A k c) ol base most w8 hrow8 hms8 (Nat.le_trans hbase hb8.size) h1 h2 hll (by omega))
      have H8 := Lib.hid (And.intro hbag8 (And.intro hb8 (And.intro hch8.size (And.intro hsb hsr))))
      clear hbag8 hb8 hch8 hrow8 hk8 hms8 hll hsb hsr
      go_wp2_with fail
      refine HRp.out.mono ?_
      rintro e w10 ⟨v10, l10, rfl, hmy10, hl10, hb10⟩
      rw [H.out.1.mr] at hl10
      have HFin := Lib.hid (show St base w10 g most v10 (putN most ms (ol.map Mt.m)) (fun i => (Sb i ∨ W9.heap.size ≤ i) ∧ i < w6.heap.size) (fun i => (Sr i ∨ w8.heap.size ≤ i) ∧ i < w10.heap.size) v6 l6 l10 from by
        have s1 := HBW.out.size
        have s2 := H6.out.2.2.2.2.2.2
        have s3 := H7.out.size
        have s4 := H8.out.2.2.1
        have s5 := hb10.size
        refine ⟨fun i hi => ⟨?_, by have := hi.2; omega⟩, fun i hi => ⟨?_, hi.2⟩, fun i hi hr => ?_, H8.out.1.below hb10, hmy10.mono fun i hi hs => ⟨hs, hi⟩, H6.out.2.1, hl10, putN_kind H.out.1.kinds⟩
        · rcases hi.1 with h | h
          · exact (H.out.1.b i h).1
          · omega
        · rcases hi.1 with h | h
          · exact (H.out.1.r i h).1
          · omega
        · rcases hr.1 with h | h
          · rcases hi.1 with h' | h'
            · exact H.out.1.apart i h' h
            · have := H8.out.2.2.2.2 i h; omega
          · have := hi.2; omega)
      have HB10 := Lib.hid (H8.out.2.1.trans (hb10.mono (Nat.le_trans hbase H8.out.2.1.size)))
      clear hmy10 hl10 hb10 q2
      go_wp2_with fail
      go_ret2
      exact ⟨⟨v10, _, _, v6, l6, l10, rfl, HFin.out⟩, HB10.out⟩
end Go.Proofs.Ytbdbimnfknaakaa
