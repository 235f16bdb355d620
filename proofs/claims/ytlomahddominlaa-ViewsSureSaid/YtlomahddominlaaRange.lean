/- A loop over an iterator that keeps a state of its own in one cell, and a region that draws its order within such a loop's round. Plain lemmas on the model's loops, no program of the seat's in sight. -/
import Derived.Test.YtlomahddominlaaMono
import Derived.RangeFuncNested
import Derived.RangeFuncBound
import Derived.RangeFuncCalls
import Derived.RangeFuncLeaves
import Derived.Shelf.Abstract
import Derived.Shelf.RegionOpen
import Derived.OwnWalkIn
import Derived.TacticsInMore
import Derived.LoopNIn
import Derived.LoopIn
namespace Go.Proofs.Ytlomahddominlaa
open Go.RowKit

/-- What an iterator that keeps its state in the cell of block b promises a loop over it: it hands over just xs, one by one, as long as the body goes on. -/
def CellSeq {α : Type} (P : Program) (g : Nat) (lb : Array Value) (enc : α → Value) (b : Nat) (xs : List α) (W0 : World) : Prop :=
  ∀ (l : Nat) (J Jx : List α → World → Prop), (∀ s A v, J s A → J s (A.setCell ⟨b, 0, none⟩ v)) →
    (∀ pre x rest A, xs = pre ++ x :: rest → J pre A → YieldAt Fence.wide 4 P l #[enc x] A fun e B =>
      (e = .returned (.bool true) ∧ J (pre ++ [x]) B ∧ B.heap[b]? = A.heap[b]?) ∨ (e = .returned (.bool false) ∧ Jx (pre ++ [x]) B)) →
    ∀ W, W.heap[b]? = W0.heap[b]? → J [] W →
      CallsIn Fence.wide 5 P g (#[.func (.yield l) #[] #[]] ++ lb) W fun e W' => (∃ v, e = .returned v) ∧ (J xs W' ∨ ∃ pre, pre <+: xs ∧ Jx pre W')

/-- How a round may be left. -/
abbrev cellPost {α : Type} (b : Nat) (I : List α → World → Prop) (Ix : Code → List α → World → Prop) (s : List α) (W : World) : Exit → Act → World → Prop :=
  ownPostK (fun A B => B.heap[b]? = A.heap[b]?) I Ix s W

theorem wp_cellSeq {α : Type} {P : Program} {g : Operand} {p q : Tmp} {assign body : Code} {Q : Exit → Act → World → Prop} {a : Act} {w : World}
    {gf : Nat} {lb : Array Value} (hg : a.eval g = .func (.func gf) #[] lb) (eg : ∀ args w, (callFunc gf args).run P w = .ok (.enter gf args) w)
    {enc : α → Value} {b : Nat} {xs : List α} (hb : b < w.heap.size) (hseq : CellSeq P gf lb enc b xs w)
    (I : List α → World → Prop) (Ix : Code → List α → World → Prop) (hI : OwnFrom w.heap.size I) (hIx : ∀ c, OwnFrom w.heap.size (Ix c))
    (hIb : ∀ s A v, I s A → I s (A.setCell ⟨b, 0, none⟩ v)) (h0 : I [] w)
    (hassign : ∀ (l : Nat) (x : α) (W : World) (K : Act → World → Prop), K { tmps := (a.tmps.setIfInBounds p (enc x)).setIfInBounds q (enc x), defers := [] } W →
      assign.wpIn (Fence.wide.inRound l) 4 P (Exit.then K (fun _ _ _ => False)) { tmps := a.tmps.setIfInBounds p (enc x), defers := [] } W)
    (hbody : ∀ (l : Nat) (pre : List α) (x : α) (rest : List α) (W : World), xs = pre ++ x :: rest → I pre W → body.wpIn (Fence.wide.inRound l) 4 P (cellPost b I Ix (pre ++ [x]) W) { tmps := (a.tmps.setIfInBounds p (enc x)).setIfInBounds q (enc x), defers := [] } W)
    (hdone : ∀ (D : Nat) (W : World), w.heap.size ≤ D → I xs W → W.heap[D]? = some (.deferred (some [])) → Q .normal { a with defers := { target := .collected D, args := #[] } :: a.defers } W)
    (hstop : ∀ (D : Nat) (c : Code) (pre : List α) (W : World), w.heap.size ≤ D → pre <+: xs → Ix c pre W → W.heap[D]? = some (.deferred (some [])) → c.wp P Q { a with defers := { target := .collected D, args := #[] } :: a.defers } W) :
    (Code.rangeFunc g #[p] assign body).wp P Q a w := by
  refine (wpIn_wide (n := 6)).1 (wpIn_rangeFunc fun fn hfn => ?_)
  obtain ⟨rc, hrc⟩ : ∃ rc : LoopState → Option Code → Loop, rc = fun st pe => { state := st, pending := pe, fn, tmps := a.tmps, params := #[p], assign, body, defers := w.heap.size } := ⟨_, rfl⟩
  -- the two blocks that the loop lays: the rounds' deferred calls, the loop's record
  obtain ⟨Bk, hBk⟩ : ∃ Bk : World → LoopState → Option Code → Prop, Bk = fun W st pe => W.heap[w.heap.size + 1]? = some (.loop (rc st pe)) ∧ W.heap[w.heap.size]? = some (.deferred (some [])) := ⟨_, rfl⟩
  have bkLt : ∀ {W st pe}, Bk W st pe → w.heap.size + 1 < W.heap.size := fun h => by rw [hBk] at h; exact (Array.getElem?_eq_some_iff.1 h.1).1
  have bkTurn : ∀ {W st pe} (st' : LoopState) (pe' : Option Code), Bk W st pe → Bk (W.putObj (w.heap.size + 1) (.loop (rc st' pe'))) st' pe' := fun {W st pe} st' pe' h => by
    have hl := bkLt h
    rw [hBk] at h ⊢
    exact ⟨World.putObj_heap_same hl, (World.putObj_heap_other (by omega)).trans h.2⟩
  have bkKeep : ∀ {W W' st pe}, KeepsOthers W W' → Bk W st pe → Bk W' st pe := fun hk h => by
    rw [hBk] at h ⊢
    exact ⟨hk.same _ _ h.1 rfl, hk.same _ _ h.2 rfl⟩
  have bkRec : ∀ {W st pe}, Bk W st pe → W.heap[w.heap.size + 1]? = some (.loop (rc st pe)) := fun h => by rw [hBk] at h; exact h.1
  have bkDef : ∀ {W st pe}, Bk W st pe → W.heap[w.heap.size]? = some (.deferred (some [])) := fun h => by rw [hBk] at h; exact h.2
  have iTurn : ∀ {K : List α → World → Prop}, OwnFrom w.heap.size K → ∀ {s W st pe} (o : Obj), Bk W st pe → K s W → K s (W.putObj (w.heap.size + 1) o) := fun {K} hK {s W st pe} o h hi => OwnFrom.putObj hK o hi (by omega) (bkRec h) rfl
  have other : ∀ {W : World} (o : Obj), (W.putObj (w.heap.size + 1) o).heap[b]? = W.heap[b]? := fun o => World.putObj_heap_other (by omega)
  obtain ⟨W1, hW1⟩ : ∃ W1, (w.alloc (.deferred (some []))).alloc (.loop (rc .ready none)) = W1 := ⟨_, rfl⟩
  have hB1 : Bk W1 .ready none := by
    have h1 := World.alloc_heap_new (w.alloc (.deferred (some []))) (.loop (rc .ready none))
    rw [World.size_alloc, hW1] at h1
    have h2 : W1.heap[w.heap.size]? = some (.deferred (some [])) := by rw [← hW1]; exact (Below.heap_alloc _ _ _ (by simp)).trans (World.alloc_heap_new w _)
    rw [hBk]
    exact ⟨h1, h2⟩
  have hI1 : I [] W1 := by rw [← hW1]; exact hI.alloc _ (hI.alloc _ h0)
  have hb1 : W1.heap[b]? = w.heap[b]? := by rw [← hW1]; exact (Below.heap_alloc _ _ _ (by simp; omega)).trans (Below.heap_alloc _ _ _ hb)
  refine ⟨w.heap.size + 1, [{ target := .collected w.heap.size, args := #[] }], W1, { target := .fn (.func gf) lb, args := #[.func (.yield (w.heap.size + 1)) #[] #[]] }, W1, gf,
    #[.func (.yield (w.heap.size + 1)) #[] #[]] ++ lb, W1, ?_, ?_, fun _ _ => trivial, ?_, fun h => by simp [Fence.wide] at h, ?_⟩
  · rw [← hW1, hrc]; exact run_enterLoop_outer _ _ _ _ _
  · simp only [resolve, hg]
    simp [go_sem]
  · simp [invoke, go_sem, eg]
  refine (hseq (w.heap.size + 1) (fun s W => I s W ∧ Bk W .ready none) (fun s W => ∃ c, Ix c s W ∧ Bk W .done (some c)) (fun s A v h => ⟨hIb s A v h.1, bkKeep (KeepsOthers.setCell _ _ _) h.2⟩) ?_ W1 hb1 ⟨hI1, hB1⟩).mono ?_
  · rintro pre x rest W hx ⟨hi, hk⟩
    have hy : (Instr.yield (w.heap.size + 1) #[enc x]).run P W = .ok (.round (w.heap.size + 1) fn (a.tmps.setIfInBounds p (enc x)) assign body) W := by
      have := run_yield (P := P) (args := #[enc x]) (bkRec hk) (by rw [hrc]; rfl)
      rw [hrc] at this
      simpa using this
    refine ⟨fn, _, assign, body, hy, roundIn_of_wpIn (F := Fence.wide) (n := 4) trivial (hassign _ x W _ ?_)⟩
    clear hy
    refine ⟨_, run_beginRound (bkRec hk) (by rw [hrc]), ?_⟩
    have hk2 : Bk (W.putObj (w.heap.size + 1) (.loop (rc .busy none))) .busy none := bkTurn .busy none hk
    have e2 : ({ rc .ready none with state := .busy } : Loop) = rc .busy none := by rw [hrc]
    rw [e2]
    refine wpIn_mono (hbody _ pre x rest _ hx (iTurn hI _ hk hi)) ?_
    have fin : ∀ (j : Option Code) {W3 : World}, Bk W3 .busy none → (Instr.endRound (w.heap.size + 1) j).run P W3 = .ok (.bool j.isNone) (W3.putObj (w.heap.size + 1) (.loop (rc (if j.isNone then .ready else .done) j))) := fun j W3 h => by
      have := run_endRound (P := P) j (bkRec h)
      rw [hrc] at this ⊢
      exact this
    rintro e a3 W3 hp
    cases e with
    | normal =>
      obtain ⟨hko, hbb, hi3⟩ := hp
      have h3 := bkKeep hko hk2
      exact ⟨_, _, fin none h3, .inl ⟨rfl, ⟨iTurn hI _ h3 hi3, bkTurn _ _ h3⟩, (other _).trans (hbb.trans (other _))⟩⟩
    | ret =>
      obtain ⟨hko, hi3⟩ := hp
      have h3 := bkKeep hko hk2
      exact ⟨_, _, fin (some .ret) h3, .inr ⟨rfl, .ret, iTurn (hIx _) _ h3 hi3, bkTurn _ _ h3⟩⟩
    | exit id =>
      obtain ⟨hko, hi3⟩ := hp
      have h3 := bkKeep hko hk2
      exact ⟨_, _, fin (some (.exit id)) h3, .inr ⟨rfl, .exit id, iTurn (hIx _) _ h3 hi3, bkTurn _ _ h3⟩⟩
    | goto t =>
      obtain ⟨hko, hi3⟩ := hp
      have h3 := bkKeep hko hk2
      exact ⟨_, _, fin (some (.goto t)) h3, .inr ⟨rfl, .goto t, iTurn (hIx _) _ h3 hi3, bkTurn _ _ h3⟩⟩
    | panic ch => exact hp.elim
    | outgrown => exact hp.elim
  · have fin : ∀ {W st j}, Bk W st j → st ≠ .busy → ∃ o, (Instr.endLoop (w.heap.size + 1)).run P W = .ok j (W.putObj (w.heap.size + 1) o) := fun {W st j} h hs => by
      have := run_endLoop (P := P) (bkRec h) (by rw [hrc]; exact hs)
      rw [hrc] at this
      exact ⟨_, this⟩
    have dfr : ∀ {W : World} {st j} (o : Obj), Bk W st j → (W.putObj (w.heap.size + 1) o).heap[w.heap.size]? = some (.deferred (some [])) := fun o h => (World.putObj_heap_other (by omega)).trans (bkDef h)
    rintro e W2 ⟨⟨v, rfl⟩, ⟨hi, hk⟩ | ⟨pre, hpre, c, hi, hk⟩⟩
    · obtain ⟨o, ho⟩ := fin hk (by simp)
      exact ⟨none, _, ho, hdone _ _ (Nat.le_refl _) (iTurn hI _ hk hi) (dfr o hk)⟩
    · obtain ⟨o, ho⟩ := fin hk (by simp)
      exact ⟨some c, _, ho, wpIn_wide.2 (hstop _ c pre _ (Nat.le_refl _) hpre (iTurn (hIx c) _ hk hi) (dfr o hk))⟩

/-! A region that draws its order, in a round. -/
/-- No 'defer' among them. -/
def calmB (ops : Array Oper) : Bool := ops.toList.all fun o => match o.op with | .defer .. => false | _ => true

theorem op_inRound {P : Program} {l n : Nat} {o : Oper} (ho : (match o.op with | .defer .. => false | _ => true) = true) {a : Act} {w : World} {K K' : Act → World → Prop} {Q Q' : Exit → Act → World → Prop}
    (hQ : ∀ e a w, ¬ (e ≠ Exit.normal ∧ Q e a w)) (hK : ∀ a w, K a w → K' a w) (h : o.wp P a w K Q) : o.wpIn (Fence.wide.inRound l) n P a w K' Q' := by
  refine ⟨fun _ _ => trivial, ?_⟩
  have hs : o.semAt (Fence.wide.inRound l).round a.eval = execOp a.eval o := by
    show o.semAt (some l) a.eval = _
    apply Oper.semAt_some
    intro c hc
    rw [hc] at ho
    cases ho
  rw [hs]
  unfold Oper.wp at h
  generalize (execOp a.eval o).run P w = r at h ⊢
  cases r with
  | ok x w' =>
    cases x <;> simp only [Oper.upon, Oper.uponIn] at h ⊢
    case value v => exact hK _ _ h
    case skip => exact hK _ _ h
    case defer d => exact hK _ _ h
    case enter f args =>
      refine ⟨fun h => by simp [Fence.wide] at h, CallsIn.inRound l (callsIn_wide.2 (h.mono fun e w'' hh => ?_))⟩
      cases e with
      | returned v => exact hK _ _ hh
      | panicked ch => exact absurd ⟨by simp, hh⟩ (hQ _ _ _)
      | outgrown => obtain ⟨_, _, hq⟩ := hh; exact absurd ⟨by simp, hq⟩ (hQ _ _ _)
    case row r args =>
      refine ⟨fun h => by simp [Fence.wide] at h, ?_⟩
      have h2 := h.mono fun v w'' hh => hK (a.put o.dst v) w'' hh
      intro c cs _
      obtain ⟨v, w'', hr, hst⟩ := h2 c cs
      exact ⟨v, w'', hr, stepsIn_wide.2 hst⟩
  | halt x w' =>
    cases x <;> simp only [Oper.upon, Oper.uponIn] at h ⊢
    all_goals (exact absurd ⟨by simp, h⟩ (hQ _ _ _))

theorem any_inRound {P : Program} {l n : Nat} {ops : Array Oper} (hc : calmB ops = true) {K : Act → World → Prop} {Q Q' : Exit → Act → World → Prop} (hQ : ∀ e a w, ¬ (e ≠ Exit.normal ∧ Q e a w)) (hQ' : ∀ a w, Q .normal a w → Q' .normal a w) :
    ∀ (fuel : Nat) (listed : Array Bool) (a : Act) (w : World), wpAny P .any ops Q fuel listed a w → wpAnyIn (Fence.wide.inRound l) n P .any ops Q' fuel listed a w
  | 0, _, _, _, h => ⟨h.1, hQ' _ _ h.2⟩
  | fuel + 1, listed, a, w, h => by
    refine ⟨fun e => hQ' _ _ (h.1 e), fun i hi => ?_⟩
    have h1 := h.2 i hi
    unfold wpOp at h1
    unfold wpOpIn
    split
    · rename_i ho
      rw [ho] at h1
      exact any_inRound hc (K := K) hQ hQ' fuel _ _ _ h1
    · rename_i o ho
      simp only [ho] at h1
      have hm : o ∈ ops.toList := by simpa using Array.mem_of_getElem? ho
      have hd := List.all_eq_true.1 hc o hm
      split
      · rename_i hw
        rw [if_pos hw] at h1
        rcases h1 with h1 | ⟨_, _, _, hq⟩
        · exact op_inRound hd hQ (fun a w hh => any_inRound hc (K := K) hQ hQ' fuel _ _ _ hh) h1
        · exact absurd ⟨by simp, hq⟩ (hQ _ _ _)
      · rename_i hw
        rw [if_neg hw] at h1
        exact ⟨fun _ _ => trivial, any_inRound hc (K := K) hQ hQ' fuel _ _ _ h1⟩

theorem wpIn_region_mono {P : Program} {r n id : Nat} {l : List Oper} {a : Act} {w : World} {Q : Exit → Act → World → Prop} (hm : P.follows .mixedOrders = true) (hB : monoB l.toArray = true) (hc : calmB l.toArray = true)
    (h : ∃ φs : List (Value → World → Prop), PersAll φs ∧ mwalk P l.toArray (fun w' => Below w.heap.size w w') (Q .normal) l φs a (fun _ _ => True)) : (Code.region id l.toArray true).wpIn (Fence.wide.inRound r) n P Q a w := by
  obtain ⟨φs, hp, h⟩ := h
  refine wpIn_region_any hm (any_inRound hc (K := fun _ _ => True) (Q := fun e a w => e = .normal ∧ Q .normal a w) (fun e a w h => h.1 h.2.1) (fun _ _ h => h.2) _ _ _ _ ?_)
  have none_yet : ∀ k, k < l.toArray.size → (Array.replicate l.toArray.size false).getD k true = false := fun k hk => by simp [show k < l.length by simpa using hk]
  have e : actOf l.toArray a (fun _ => undef) (fun j => (Array.replicate l.toArray.size false).getD j true) l.toArray.size = a := by
    have : ∀ k, k ≤ l.toArray.size → actOf l.toArray a (fun _ => undef) (fun j => (Array.replicate l.toArray.size false).getD j true) k = a := by
      intro k
      induction k with
      | zero => intro _; rfl
      | succ k ih =>
        intro hk
        rw [actOf, none_yet k (by omega)]
        exact ih (by omega)
    exact this _ (Nat.le_refl _)
  have hmain := any_of_mono (C := fun w' => Below w.heap.size w w') (Qa := fun e a w => e = .normal ∧ Q .normal a w) (P := P) hB (φs := φs) (persAll_phi φs hp) (a := a)
    (by
      have conv : ∀ (l' : List Oper) (φs : List (Value → World → Prop)) (a : Act) (G : Tmp → World → Prop), mwalk P l.toArray (fun w' => Below w.heap.size w w') (Q .normal) l' φs a G →
          mwalk P l.toArray (fun w' => Below w.heap.size w w') (fun a w => Exit.normal = Exit.normal ∧ Q .normal a w) l' φs a G := by
        intro l'
        induction l' with
        | nil => intro φs a G h w' hC hG; exact ⟨rfl, h w' hC hG⟩
        | cons o l' ih => intro φs a G h; exact ⟨h.1, fun v => ih _ _ _ (h.2 v)⟩
      simpa using conv l φs a _ h)
    l.toArray.size (Array.replicate l.toArray.size false) (fun _ => undef) { w with drawn := w.drawn + 1 } (by simp)
    (by rw [List.filter_eq_self.2 (fun j hj => by rw [none_yet j (by simpa using hj)]; rfl)]; simp) (Below.refl w.heap.size w).drew
    (fun j hj hl => by rw [none_yet j hj] at hl; cases hl)
    (fun i o ho hl => by rw [none_yet i (Array.getElem?_eq_some_iff.1 ho).1] at hl; cases hl)
  rw [e] at hmain
  exact hmain

/-! A function's results in its own cells. -/
theorem run_loadVar_one {P : Program} (w : World) {ty : TypeId} {A : Addr} {v : Value} {d : TypeDesc} (hu : P.underlying ty = some d) (hd : (match d with | .struct _ | .array _ _ => true | _ => false) = false) (hc : w.cell? A = some v) :
    (loadVar ty A).run P w = .ok v w := by
  unfold loadVar
  cases d <;> simp at hd <;> simp [isAgg, underlying, Sem.run_bind, Result.andThen, hu, go_sem, hc]

theorem results_cell2 {P : Program} {fn : Func} {p q : Tmp} {ty uy : TypeId} (h : fn.results = #[.cell p ty, .cell q uy]) {tmps : Array Value} {w : World} {A B : Addr} {u v : Value}
    (hp : tmps.getD p undef = .pointer (some A)) (hq : tmps.getD q undef = .pointer (some B)) (h1 : (loadVar ty A).run P w = .ok u w) (h2 : (loadVar uy B).run P w = .ok v w) : (results fn tmps).run P w = .ok (.tuple #[u, v]) w := by
  have hp' : tmps[p]?.getD undef = .pointer (some A) := by simpa using hp
  have hq' : tmps[q]?.getD undef = .pointer (some B) := by simpa using hq
  simp [results, h, hp', hq', asAddr, h1, h2, Sem.run_bind, Result.andThen]

theorem below_putObj {n₀ : Nat} {w W : World} {l : Nat} {o' : Obj} (h : Below n₀ w W) (hl : n₀ ≤ l) (hn : n₀ ≤ W.heap.size) : Below n₀ w (W.putObj l o') :=
  h.trans ((Below.refl n₀ W).grown (grownBy_putObj' W l o') hn (fun k e => by cases e; exact hl))
theorem boxed_putObj {W : World} {B l : Nat} {t : TypeId} {v : Value} {o : Obj} (h : Boxed W B t v) (hl : B ≠ l) : Boxed (W.putObj l o) B t v := h.kept (grownBy_putObj' W l o) (fun e => hl (by cases e; rfl))
theorem boxed_below {W W' : World} {B C : Nat} {t : TypeId} {v : Value} (h : Boxed W B t v) (hb : Below C W W') (hB : B < C) : Boxed W' B t v := (hb.block B hB).trans h
/-- A box of whatever value speaks of cells alone. -/
theorem boxedAny_own {β : Type} (B : Nat) (t : TypeId) : Own (fun (_ : β) W => ∃ u, Boxed W B t u) := fun s X Y row ⟨u, hs⟩ hg hrow => ⟨u, boxed_own B t (fun _ => u) s X Y row hs hg hrow⟩
theorem boxedAny_other {W : World} {B B' : Nat} {t : TypeId} (h : ∃ u, Boxed W B t u) (hne : B ≠ B') (v : Value) : ∃ u, Boxed (W.setCell ⟨B', 0, none⟩ v) B t u := let ⟨u, hu⟩ := h; ⟨u, hu.other hne v⟩

/-! A region that draws its order, an operation at a time, by hand. -/
abbrev onlyN (K : Act → World → Prop) : Exit → Act → World → Prop := fun e a w => e = .normal ∧ K a w

theorem wp_onlyN {P : Program} {o : Oper} {a : Act} {w : World} {K K' : Act → World → Prop} {L L' : Act → World → Prop} (hK : ∀ a w, K a w → K' a w) (h : o.wp P a w K (onlyN L)) : o.wp P a w K' (onlyN L') := by
  unfold Oper.wp at h ⊢
  generalize (execOp a.eval o).run P w = r at h ⊢
  cases r with
  | ok x w' =>
    cases x <;> simp only [Oper.upon] at h ⊢
    case value v => exact hK _ _ h
    case skip => exact hK _ _ h
    case defer d => exact hK _ _ h
    case enter f args =>
      refine h.mono fun e w'' hh => ?_
      cases e with
      | returned v => exact hK _ _ hh
      | panicked ch => exact absurd hh.1 (by simp)
      | outgrown => obtain ⟨_, _, hq, _⟩ := hh; cases hq
    case row r args => exact h.mono fun v w'' hh => hK _ _ hh
  | halt x w' =>
    cases x <;> simp only [Oper.upon] at h ⊢
    all_goals (exact absurd h.1 (by simp))

section
variable {P : Program} {ops : Array Oper} {K : Act → World → Prop} {fuel : Nat} {listed : Array Bool} {a : Act} {w : World}
theorem any_step {i : Nat} {o : Oper} (ho : ops[i]? = some o) (h : wpList P ops (onlyN (wpAny P .any ops (onlyN K) fuel (listed.setIfInBounds i true))) [o] a w) :
    wpOp P ops (onlyN K) i (wpAny P .any ops (onlyN K) fuel (listed.setIfInBounds i true)) a w := by
  unfold wpOp
  simp only [ho]
  simp only [wpList] at h
  split
  · rename_i hw
    rw [if_pos hw] at h
    rcases h with h | ⟨_, _, _, hq, _⟩
    · exact .inl (wp_onlyN (fun a w hh => hh.2) h)
    · cases hq
  · rename_i hw
    rw [if_neg hw] at h
    exact h.2
theorem any_only (i : Nat) {o : Oper} (hr : Region.ready .any ops listed = [i]) (ho : ops[i]? = some o) (h : wpList P ops (onlyN (wpAny P .any ops (onlyN K) fuel (listed.setIfInBounds i true))) [o] a w) :
    wpAny P .any ops (onlyN K) (fuel + 1) listed a w :=
  wpAny_all hr (by simp) fun j hj => by
    obtain rfl : j = i := by simpa using hj
    exact any_step ho h
theorem any_pair (i k : Nat) {o p : Oper} (hr : Region.ready .any ops listed = [i, k]) (ho : ops[i]? = some o) (hp : ops[k]? = some p) (h : wpList P ops (onlyN (wpAny P .any ops (onlyN K) fuel (listed.setIfInBounds i true))) [o] a w)
    (h2 : wpList P ops (onlyN (wpAny P .any ops (onlyN K) fuel (listed.setIfInBounds k true))) [p] a w) : wpAny P .any ops (onlyN K) (fuel + 1) listed a w :=
  wpAny_all hr (by simp) fun j hj => by
    rcases List.mem_cons.1 hj with rfl | hj
    · exact any_step ho h
    · obtain rfl : j = k := by simpa using hj
      exact any_step hp h2
theorem any_take {i : Nat} {o : Oper} (v : Value) (ho : ops[i]? = some o) (hs : Region.noSelect ops = true) (hf : Region.free .any ops listed i = true) (hr : (Region.ready .any ops listed).contains i = true)
    (hw : Region.wanted o (yielded ops a.tmps) = true) (hy : ∀ w, (execOp a.eval o).run P w = .ok (.value v) w) (h : wpAny P .any ops (onlyN K) fuel (listed.setIfInBounds i true) (a.put o.dst v) w) : wpAny P .any ops (onlyN K) (fuel + 1) listed a w :=
  wpAny_take ho hs hf hr (fun _ _ _ h => by cases h.1) (.inl ⟨hw, hy⟩) h
theorem region_by_hand {id r n : Nat} {Q : Exit → Act → World → Prop} (hm : P.follows .mixedOrders = true) (hc : calmB ops = true)
    (h : wpAny P .any ops (onlyN (Q .normal)) ops.size (Array.replicate ops.size false) a w.drew) : (Code.region id ops true).wpIn (Fence.wide.inRound r) n P Q a w :=
  wpIn_region_any hm (any_inRound hc (K := fun _ _ => True) (fun _ _ _ h => h.1 h.2.1) (fun _ _ h => h.2) _ _ _ _ h)
theorem region_by_hand0 {id : Nat} {Q : Exit → Act → World → Prop} (hm : P.follows .mixedOrders = true)
    (h : wpAny P .any ops Q ops.size (Array.replicate ops.size false) a w.drew) : (Code.region id ops true).wp P Q a w := wp_region_any hm h
end
end Go.Proofs.Ytlomahddominlaa
