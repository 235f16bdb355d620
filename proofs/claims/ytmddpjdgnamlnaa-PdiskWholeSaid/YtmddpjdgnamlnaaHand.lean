/- A region that draws its order, an operation at a time, by hand: outside of a fence. -/
import Derived.Test.YtmddpjdgnamlnaaMono
import Derived.Orders
namespace Go.Proofs.Ytmddpjdgnamlnaa
open Go.RowKit

abbrev onlyN (K : Act → World → Prop) : Exit → Act → World → Prop := fun e a w => e = .normal ∧ K a w
theorem wp_onlyN {P : Program} {o : Oper} {a : Act} {w : World} {K K' : Act → World → Prop} {L : Act → World → Prop} {Q : Exit → Act → World → Prop} (hK : ∀ a w, K a w → K' a w) (h : o.wp P a w K (onlyN L)) : o.wp P a w K' Q := by
  unfold Oper.wp at h ⊢
  generalize (execOp a.eval o).run P w = r at h ⊢
  cases r with
  | ok x w' =>
    cases x <;> simp only [Oper.upon] at h ⊢
    case value v => exact hK _ _ h
    case skip => exact hK _ _ h
    case defer d => exact hK _ _ h
    case enter f args =>
      refine h.mono fun e w'' hh => ?_
      cases e with
      | returned v => exact hK _ _ hh
      | panicked ch => exact absurd hh.1 (by simp)
      | outgrown => obtain ⟨_, _, hq, _⟩ := hh; cases hq
    case row r args => exact h.mono fun v w'' hh => hK _ _ hh
  | halt x w' =>
    cases x <;> simp only [Oper.upon] at h ⊢
    all_goals (exact absurd h.1 (by simp))
section
variable {P : Program} {ops : Array Oper} {K : Act → World → Prop} {Q : Exit → Act → World → Prop}
theorem wpOp_onlyN {i : Nat} {a : Act} {w : World} {K K' : Act → World → Prop} {L : Act → World → Prop} (hK : ∀ a w, K a w → K' a w) (h : wpOp P ops (onlyN L) i K a w) : wpOp P ops Q i K' a w := by
  unfold wpOp at h ⊢
  cases ho : ops[i]? with
  | none => simp only [ho] at h ⊢; exact hK _ _ h
  | some o =>
    simp only [ho] at h ⊢
    split
    · rename_i hw
      rw [if_pos hw] at h
      rcases h with h | ⟨_, _, _, hq, _⟩
      · exact .inl (wp_onlyN hK h)
      · cases hq
    · rename_i hw
      rw [if_neg hw] at h
      exact hK _ _ h
theorem any_plain : ∀ (fuel : Nat) (listed : Array Bool) (a : Act) (w : World), wpAny P .any ops (onlyN (Q .normal)) fuel listed a w → wpAny P .any ops Q fuel listed a w
  | 0, _, _, _, h => ⟨h.1, h.2.2⟩
  | fuel + 1, _, _, _, h => ⟨fun e => (h.1 e).2, fun i hi => wpOp_onlyN (fun a w hh => any_plain fuel _ a w hh) (h.2 i hi)⟩
variable {fuel : Nat} {listed : Array Bool} {a : Act} {w : World}
theorem any_step {i : Nat} {o : Oper} (ho : ops[i]? = some o) (h : wpList P ops (onlyN (wpAny P .any ops (onlyN K) fuel (listed.setIfInBounds i true))) [o] a w) :
    wpOp P ops (onlyN K) i (wpAny P .any ops (onlyN K) fuel (listed.setIfInBounds i true)) a w := by
  unfold wpOp
  simp only [ho]
  simp only [wpList] at h
  split
  · rename_i hw
    rw [if_pos hw] at h
    rcases h with h | ⟨_, _, _, hq, _⟩
    · exact .inl (wp_onlyN (fun a w hh => hh.2) h)
    · cases hq
  · rename_i hw
    rw [if_neg hw] at h
    exact h.2
theorem any_only (i : Nat) {o : Oper} (hr : Region.ready .any ops listed = [i]) (ho : ops[i]? = some o) (h : wpList P ops (onlyN (wpAny P .any ops (onlyN K) fuel (listed.setIfInBounds i true))) [o] a w) :
    wpAny P .any ops (onlyN K) (fuel + 1) listed a w :=
  wpAny_all hr (by simp) fun j hj => by
    obtain rfl : j = i := by simpa using hj
    exact any_step ho h
theorem any_pair (i k : Nat) {o p : Oper} (hr : Region.ready .any ops listed = [i, k]) (ho : ops[i]? = some o) (hp : ops[k]? = some p) (h : wpList P ops (onlyN (wpAny P .any ops (onlyN K) fuel (listed.setIfInBounds i true))) [o] a w)
    (h2 : wpList P ops (onlyN (wpAny P .any ops (onlyN K) fuel (listed.setIfInBounds k true))) [p] a w) : wpAny P .any ops (onlyN K) (fuel + 1) listed a w :=
  wpAny_all hr (by simp) fun j hj => by
    rcases List.mem_cons.1 hj with rfl | hj
    · exact any_step ho h
    · obtain rfl : j = k := by simpa using hj
      exact any_step hp h2
theorem any_take {i : Nat} {o : Oper} (v : Value) (ho : ops[i]? = some o) (hs : Region.noSelect ops = true) (hf : Region.free .any ops listed i = true) (hr : (Region.ready .any ops listed).contains i = true)
    (hw : Region.wanted o (yielded ops a.tmps) = true) (hy : ∀ w, (execOp a.eval o).run P w = .ok (.value v) w) (h : wpAny P .any ops (onlyN K) fuel (listed.setIfInBounds i true) (a.put o.dst v) w) : wpAny P .any ops (onlyN K) (fuel + 1) listed a w :=
  wpAny_take ho hs hf hr (fun _ _ _ h => by cases h.1) (.inl ⟨hw, hy⟩) h
theorem region_by_hand0 {id : Nat} {Q : Exit → Act → World → Prop} (hm : P.follows .mixedOrders = true)
    (h : wpAny P .any ops (onlyN (Q .normal)) ops.size (Array.replicate ops.size false) a w.drew) : (Code.region id ops true).wp P Q a w := wp_region_any hm (any_plain _ _ _ _ h)
end
end Go.Proofs.Ytmddpjdgnamlnaa
