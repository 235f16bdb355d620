/- Take. -/
import Derived.Test.YtbdbimnfknaakaaDel
namespace Go.Proofs.Ytbdbimnfknaakaa
open Go.RowKit
attribute [-go_sem] loadCellsFrom storeCells
attribute [local go_sem] storeCells_one Mt.cells_len

theorem results_cell_tmp {P : Program} {fn : Func} {p q : Tmp} {ty : TypeId} (h : fn.results = #[.cell p ty, .tmp q]) (tmps : Array Value) (w : World) (g : Nat) (t : TypeId) (cs : Array Value) (fr : Nat × Nat) (d : TypeDesc)
    (hp : tmps.getD p undef = .pointer (some ⟨g, 0, none⟩)) (hg : w.heap[g]? = some (.cells cs t fr))
    (hu : P.underlying ty = some d) (hd : (match d with | .struct _ | .array _ _ => true | _ => false) = true) (hi : (P.info? ty).map (·.size) = some cs.size) :
    (results fn tmps).run P w = .ok (.tuple #[.agg cs, tmps.getD q undef]) w := by
  have hp' : tmps[p]?.getD undef = .pointer (some ⟨g, 0, none⟩) := by simpa using hp
  simp [results, h, hp', asAddr, run_loadVar_row w g t ty cs fr d hg hu hd hi, Result.andThen]

/-- No message: all zero. -/
def mt0 : Mt := ⟨⟨0, 0, 0, 0, 0, 0, 0, 0, 0, 0, { data := #[] }, 0, 0, 0, 0, 0, 0, 0, 0, 0, 0, false⟩, .slice none 0 0, []⟩
theorem mt0_cells : mt0.cells = zero47 := rfl
theorem mt0_at (w : World) (B : Nat) : EsAt w B mt0.v mt0.es := ⟨none, 0, 0, rfl, .inl rfl, rfl, Nat.le_refl _⟩

set_option maxHeartbeats 1600000 in
theorem take_nil (i : Int) (w : World) : Calls Try.prog 21 #[.pointer none, .int .i64 i] w fun e w' => e = .returned (.tuple #[.agg mt0.cells.toArray, .int .i64 3]) ∧ Below w.heap.size w w' := by
  have hk := Blk.new w 47 zero47
  have hst := hk.store (P := Try.prog) (cs' := mt0.cells) rfl (Mt.one (mt0_at w 0))
  have HK := Lib.hid (hk.set mt0.cells)
  rw [mt0_cells] at hst
  simp only [zero47] at hst
  clear hk
  have HPl := Lib.hid (place_nil i (w.alloc (.cells zero47.toArray 47)))
  go_enter Try.func21, Try.ntmps21
  go_wp2_with fail
  refine HPl.out.mono ?_
  rintro e w' ⟨rfl, hw⟩
  subst hw
  simp only [zero47]
  go_wp2_with fail
  refine bodyPost_ret (results_cell_tmp rfl _ _ w.heap.size 47 _ (0, 0) _ rfl HK.out Try.underlying47 rfl (Mt.size _)) rfl ⟨rfl, ?_⟩
  exact below_setRow ((Below.refl _ _).alloc (Nat.le_refl _) _) (Nat.le_refl _) _

set_option maxHeartbeats 1600000 in
theorem take_bad {S : Nat → Prop} {g most : Nat} {v : Value} {l : List Mt} (i : Int) (w : World) (h : BagAt w S g most v l) (hi : inL l i = false) :
    Calls Try.prog 21 #[.pointer (some ⟨g, 0, none⟩), .int .i64 i] w fun e w' => e = .returned (.tuple #[.agg mt0.cells.toArray, .int .i64 120]) ∧ Below w.heap.size w w' := by
  have hk := Blk.new w 47 zero47
  have hst := hk.store (P := Try.prog) (cs' := mt0.cells) rfl (Mt.one (mt0_at w 0))
  have HK := Lib.hid (hk.set mt0.cells)
  rw [mt0_cells] at hst
  simp only [zero47] at hst
  clear hk
  have hpl := place_any i (w.alloc (.cells zero47.toArray 47)) (h.below ((Below.refl _ _).alloc (Nat.le_refl _) _))
  rw [if_neg (by rw [hi]; simp)] at hpl
  have HPl := Lib.hid hpl
  clear hpl h hi
  go_enter Try.func21, Try.ntmps21
  go_wp2_with fail
  refine HPl.out.mono ?_
  rintro e w' ⟨rfl, hw⟩
  subst hw
  simp only [zero47]
  go_wp2_with fail
  refine bodyPost_ret (results_cell_tmp rfl _ _ w.heap.size 47 _ (0, 0) _ rfl HK.out Try.underlying47 rfl (Mt.size _)) rfl ⟨rfl, ?_⟩
  exact below_setRow ((Below.refl _ _).alloc (Nat.le_refl _) _) (Nat.le_refl _) _

set_option linter.unusedSimpArgs false in
set_option maxHeartbeats 6400000 in
theorem take_any {S : Nat → Prop} {g most : Nat} {v : Value} {l : List Mt} (i : Nat) (w : World) (h : BagAt w S g most v l) (hi : i < l.length) (hlm : l.length ≤ 1000) :
    Calls Try.prog 21 #[.pointer (some ⟨g, 0, none⟩), .int .i64 i] w fun e w' => e = .returned (.tuple #[.agg (l[i]'hi).cells.toArray, .int .i64 0]) ∧ EsMy w' S (l[i]'hi) ∧
      ∃ v', BagAt w' S g most v' (l.eraseIdx i) ∧ Chg (bagS g v) w w' ∧ v'.ownBlock = v.ownBlock := by
  have hin : inL l (i : Int) = true := by simp [inL, hi]
  -- all that is the bag's lies below the call's own memory
  replace h : BagAt w (fun k => S k ∧ k < w.heap.size) g most v l := h.mono fun k hk hs => ⟨hs, hk⟩
  -- a block for the answer
  have hbz : Below w.heap.size w (w.alloc (.cells zero47.toArray 47)) := (Below.refl _ _).alloc (Nat.le_refl _) _
  have hz := Blk.new w 47 zero47
  have hpl := place_any (i : Int) (w.alloc (.cells zero47.toArray 47)) (h.below hbz)
  rw [if_pos hin] at hpl
  have hbag0 := h.below hbz
  obtain ⟨W0, hW0⟩ : ∃ W0, w.alloc (.cells zero47.toArray 47) = W0 := ⟨_, rfl⟩
  have hs0 : W0.heap.size = w.heap.size + 1 := by rw [← hW0]; simp
  rw [hW0] at hpl hbag0 hz hbz
  -- the message
  obtain ⟨x, hx⟩ : ∃ x, l[i]'hi = x := ⟨_, rfl⟩
  obtain ⟨A, n, c, e, hr, hln, hnc, hes⟩ := hbag0.ms
  have hfm := hbag0.row.form (by omega)
  obtain ⟨gr, off, cap, cur, e2, _⟩ := hfm
  rw [e] at e2
  cases e2
  subst e
  obtain ⟨b, off', hA, _, _, hld⟩ := rows_load (P := Try.prog) 23 Mt.cells (fun _ => rfl) (by omega) l hr i hi
  cases hA
  have hld := hld 0
  change Sem.run _ _ W0 = .ok _ W0 at hld
  rw [hx] at hld ⊢
  have q0 : W0.cell? ⟨g, 0, none⟩ = some (.slice (some ⟨gr, off, none⟩) l.length c) := by rw [hbag0.blk.cell 0, List.getElem?_cons_zero]
  -- the message in a block of its own
  have hm := Blk.new W0 47 zero47
  have hex : EsMy W0 (fun k => S k ∧ k < w.heap.size) x := by rw [← hx]; exact hbag0.es _ (List.getElem_mem hi)
  have hst := hm.store (P := Try.prog) (cs' := x.cells) rfl (Mt.one hex.at)
  have hm1 := hm.set x.cells
  have hb1 : Below W0.heap.size W0 ((W0.alloc (.cells zero47.toArray 47)).setRow W0.heap.size x.cells.toArray) := below_setRow ((Below.refl _ _).alloc (Nat.le_refl _) _) (Nat.le_refl _) _
  obtain ⟨W1, hW1⟩ : ∃ W1, (W0.alloc (.cells zero47.toArray 47)).setRow W0.heap.size x.cells.toArray = W1 := ⟨_, rfl⟩
  rw [hW1] at hst hm1 hb1
  have hz1 := hz.below hb1 (by rw [hs0]; omega)
  have hbag1 := hbag0.below hb1
  have ex1 := hex.below hb1
  have q1 : W1.cell? ⟨g, 0, none⟩ = some (.slice (some ⟨gr, off, none⟩) l.length c) := by rw [hbag1.blk.cell 0, List.getElem?_cons_zero]
  have hdel := delete_any i (i + 1) W1 hbag1.row (B := W1.heap.size) (fun p hp => ⟨(hbag1.es p hp).at, (hbag1.es p hp).2⟩) hi rfl
  rw [show (((i + 1 : Nat)) : Int) = (i : Int) + 1 from rfl] at hdel
  rw [hs0] at hst hm1
  have H := Lib.hid (And.intro h (And.intro hbz (And.intro hb1 (And.intro hz1 (And.intro hm1 (And.intro hbag1 ex1))))))
  have HH := Lib.hid (And.intro hpl hdel)
  have HS := Lib.hid hs0
  have HW := Lib.hid (And.intro hW0 hW1)
  have hi2 : (i : Int) < (l.length : Int) := by omega
  clear hW1 hz1 hbag1 ex1 hb1 hm1 hm hex hbag0 hpl hdel hbz hz h hln hes hr hin hx
  simp only [zero47] at hst hW0
  go_enter Try.func21, Try.ntmps21
  go_wp2_with fail
  refine HH.out.1.mono ?_
  rintro e w' ⟨rfl, hw⟩
  subst hw
  go_wp2_with fail
  refine HH.out.2.mono ?_
  rintro e w2 ⟨v2, rfl, hrow2, hch2, hv2⟩
  obtain ⟨A2, c2, hv2s, _⟩ := hrow2.slice
  have hgl := H.out.1.blk.lt
  have hrl : gr < w.heap.size := (H.out.1.row.lt gr rfl).2
  have hgr : some g ≠ (Value.slice (some ⟨gr, off, none⟩) l.length c).ownBlock := H.out.2.2.2.2.2.1.row.not_blk H.out.2.2.2.2.2.1.blk (by decide)
  have hb2 := H.out.2.2.2.2.2.1.blk.chg hch2 hgr
  have hz2 := H.out.2.2.2.1.chg hch2 (by simp [Value.ownBlock]; omega)
  have hm2 := H.out.2.2.2.2.1.chg hch2 (by simp [Value.ownBlock]; omega)
  have p0 : w2.cell? ⟨g, 0, none⟩ = some (.slice (some ⟨gr, off, none⟩) l.length c) := hb2.cell 0
  have f0 := hb2.frozen 0
  subst hv2s
  have hm3 := hm2.otherCell (g' := g) (by omega) 0 (.slice A2 (l.eraseIdx i).length c2)
  have hz3 := hz2.otherCell (g' := g) (by omega) 0 (.slice A2 (l.eraseIdx i).length c2)
  have hld3 := hm3.load (P := Try.prog) (k := 23) rfl
  have hst3 := hz3.store (P := Try.prog) (cs' := x.cells) rfl (Mt.one H.out.2.2.2.2.2.2.at)
  have hz4 := hz3.set x.cells
  have hc12 : Chg (fun k => some k = (Value.slice (some ⟨gr, off, none⟩) l.length c).ownBlock) w w2 :=
    (Chg.of_below (H.out.2.1.trans (H.out.2.2.1.mono H.out.2.1.size))).trans hch2 (fun _ _ h => h)
  have hend := bag_end H.out.1 hc12 hrow2 (fun q hq => H.out.1.es q (List.mem_of_mem_eraseIdx hq)) (Nat.le_trans (List.length_eraseIdx_le _ _) H.out.1.short) ⟨_, hb2⟩ ((Chg.refl (fun k => k = g) w2).setCell (g := g) (.inr rfl) 0 (.slice A2 (l.eraseIdx i).length c2)) (hb2.setCell 0 _)
  have hcz : Chg (fun k => k = w.heap.size) (w2.setCell ⟨g, 0, none⟩ (.slice A2 (l.eraseIdx i).length c2)) ((w2.setCell ⟨g, 0, none⟩ (.slice A2 (l.eraseIdx i).length c2)).setRow w.heap.size x.cells.toArray) := (Chg.refl (fun k => k = w.heap.size) _).setRow (g := w.heap.size) (.inr rfl) _
  have hbag4 := hend.1.chg hcz (fun k hk e => by have := hk.2; omega)
  have hx3 : EsMy (w2.setCell ⟨g, 0, none⟩ (.slice A2 (l.eraseIdx i).length c2)) (fun k => S k ∧ k < w.heap.size) x := by
    have e1 := H.out.2.2.2.2.2.2.chg hch2 (fun k c' hk hg => by
      obtain ⟨c'', hc''⟩ := H.out.2.2.2.2.2.1.row.tag hk
      rw [hc''] at hg
      simp at hg)
    refine e1.chg ((Chg.refl (fun k => k = g) w2).setCell (g := g) (.inr rfl) 0 _) (fun k c' hk hg => ?_)
    subst hk
    rw [show w2.heap[k]? = _ from hb2] at hg
    simp at hg
  have hx4 : EsMy _ (fun k => S k ∧ k < w.heap.size) x := ⟨hx3.1.chg hcz (fun k hk e => by have := (hx3.1.lt k hk).1.2; omega), hx3.2⟩
  have hch4 : Chg (bagS g (.slice (some ⟨gr, off, none⟩) l.length c)) w _ := hend.2.setRow (g := w.heap.size) (.inl (Nat.le_refl _)) x.cells.toArray
  have HF := Lib.hid (And.intro hz4 (And.intro hbag4 (And.intro hx4 (And.intro hch4 hv2))))
  clear hz4 hbag4 hx4 hch4 hv2 hx3 hcz hend hc12 hm3 hz3 hz2 hm2 hb2 hrow2 hch2 hgr hrl hgl
  go_wp2_with fail
  refine bodyPost_ret (results_cell_tmp rfl _ _ w.heap.size 47 _ (0, 0) _ rfl HF.out.1 Try.underlying47 rfl (Mt.size _)) rfl ⟨rfl, ?_⟩
  refine ⟨⟨HF.out.2.2.1.1.mono (fun k _ hk => hk.1), HF.out.2.2.1.2⟩, _, HF.out.2.1.mono (fun k _ hk => hk.1), HF.out.2.2.2.1, HF.out.2.2.2.2⟩
end Go.Proofs.Ytbdbimnfknaakaa
