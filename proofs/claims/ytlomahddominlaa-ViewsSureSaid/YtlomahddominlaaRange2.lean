/- The library's law for a loop over an iterator, at two loop variables of which the second is used. A plain lemma. -/
import Derived.Test.YtlomahddominlaaRange
namespace Go.Proofs.Ytlomahddominlaa
open Go.RowKit

theorem wp_range2 {α : Type} {P : Program} {g : Operand} {p1 p2 q : Tmp} {assign body : Code} {Q : Exit → Act → World → Prop} {a : Act} {w : World}
    {gf : Nat} {lb : Array Value} (hg : a.eval g = .func (.func gf) #[] lb) (eg : ∀ args w, (callFunc gf args).run P w = .ok (.enter gf args) w)
    {v1 v2 : α → Value} {n₀ : Nat} {S Sp : List α → Prop} {N : Nat} (hseq : SeqStopsK Fence.wide 5 P gf lb (fun x => #[v1 x, v2 x]) (Below n₀) S Sp N w) (hn : n₀ ≤ w.heap.size)
    (I : List α → World → Prop) (Ix : Code → List α → World → Prop) (hI : OwnFrom w.heap.size I) (hIx : ∀ c, OwnFrom w.heap.size (Ix c)) (h0 : I [] w)
    (hassign : ∀ (l : Nat) (x : α) (W : World) (K : Act → World → Prop), K { tmps := ((a.tmps.setIfInBounds p1 (v1 x)).setIfInBounds p2 (v2 x)).setIfInBounds q (v2 x), defers := [] } W →
      assign.wpIn (Fence.wide.inRound l) 4 P (Exit.then K (fun _ _ _ => False)) { tmps := (a.tmps.setIfInBounds p1 (v1 x)).setIfInBounds p2 (v2 x), defers := [] } W)
    (hbody : ∀ (l : Nat) (pre : List α) (x : α) (W : World), I pre W → pre.length < N → body.wpIn (Fence.wide.inRound l) 4 P (ownPostK (Below n₀) I Ix (pre ++ [x]) W) { tmps := ((a.tmps.setIfInBounds p1 (v1 x)).setIfInBounds p2 (v2 x)).setIfInBounds q (v2 x), defers := [] } W)
    (hdone : ∀ (D : Nat) (xs : List α) (W : World), w.heap.size ≤ D → S xs → I xs W → W.heap[D]? = some (.deferred (some [])) → Q .normal { a with defers := { target := .collected D, args := #[] } :: a.defers } W)
    (hstop : ∀ (D : Nat) (c : Code) (pre : List α) (W : World), w.heap.size ≤ D → Sp pre → Ix c pre W → W.heap[D]? = some (.deferred (some [])) → c.wp P Q { a with defers := { target := .collected D, args := #[] } :: a.defers } W) :
    (Code.rangeFunc g #[p1, p2] assign body).wp P Q a w := by
  refine (wpIn_wide (n := 6)).1 (wpIn_rangeFunc_ownF rfl (by omega) hg trivial eg hseq belowK_t (belowK_b hn) (Below.refl _ _) (fun _ => rfl) I Ix hI hIx h0
    (fun x => { tmps := ((a.tmps.setIfInBounds p1 (v1 x)).setIfInBounds p2 (v2 x)).setIfInBounds q (v2 x), defers := [] }) ?_ hbody hdone (fun D c pre W h1 h2 h3 h4 => wpIn_wide.2 (hstop D c pre W h1 h2 h3 h4)))
  intro l x W K hK
  have e : ((#[p1, p2] : Array Tmp).zip #[v1 x, v2 x]).foldl (fun t (p, v) => t.setIfInBounds p v) a.tmps = (a.tmps.setIfInBounds p1 (v1 x)).setIfInBounds p2 (v2 x) := by simp
  rw [e]
  exact hassign l x W K hK
end Go.Proofs.Ytlomahddominlaa
