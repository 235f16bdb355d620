/- One call of a script, whatever its kind; Stop(0), and a disk that is down. -/
import Derived.Test.YtmddpjdgnamlnaaCall07
namespace Go.Proofs.Ytmddpjdgnamlnaa
open Go.RowKit Go.Maps

/-- A call's bytes and bools, in memory below B. -/
def Do.at (w : World) (B : Nat) (o : Do) : Prop := (∃ A n c, o.bs = .slice A n c ∧ Rd w B A (bv o.b) ∧ o.b.length = n) ∧ ∃ A n c, o.ks = .slice A n c ∧ Rd w B A (tv o.kp) ∧ o.kp.length = n
theorem Do.raw.at {w w' : World} {o : Do} (h : o.raw w) (hb : Below w.heap.size w w') : o.at w' w.heap.size := by
  obtain ⟨⟨A, n, c, hv, hr, hl, _⟩, ⟨A2, n2, c2, hv2, hr2, hl2, _⟩⟩ := h
  exact ⟨⟨A, n, c, hv, hr.below hb (Nat.le_refl _), hl⟩, ⟨A2, n2, c2, hv2, hr2.below hb (Nat.le_refl _), hl2⟩⟩
section
variable {g gl mb n gm an af ad n2 B : Nat} {w : World}
theorem both_below {w' : World} (hB : B ≤ w.heap.size) (h1 : ∀ i, dkS g gl mb i → B ≤ i) (h2 : ∀ i, mS gm an af ad i → B ≤ i) (h : Chg (bothS g gl mb gm an af ad) w w') : Below B w w' :=
  h.below (fun i hi => by rcases hi with hi | hi; exact h1 i hi; exact h2 i hi) hB
theorem call_any (o : Do) (ha : o.at w B) (hlen : o.b.length ≤ 1000) (hd : SomeDisk w g gl mb n) (hm : MAt w gm an af ad n2) (hBw : B ≤ w.heap.size) (hB1 : ∀ i, dkS g gl mb i → B ≤ i) (hB2 : ∀ i, mS gm an af ad i → B ≤ i) :
    Calls Try.prog 11 #[.pointer (some ⟨g, 0, none⟩), .pointer (some ⟨gm, 0, none⟩), .agg o.cells.toArray] w fun e w' => RetV e ∧ SomeDisk w' g gl mb n ∧ MAt w' gm an af ad n2 ∧ Below B w w' := by
  obtain ⟨k, at_, bs, b, ks, kp⟩ := o
  obtain ⟨⟨A, m, c, e1, hr, hl⟩, ⟨A2, m2, c2, e2, hr2, hl2⟩⟩ := ha
  simp only at e1 e2 hr hr2 hl hl2 hlen
  subst e1 e2
  simp only [Do.cells]
  have fin : ∀ (e : Ending) (w' : World), (RetV e ∧ SomeDisk w' g gl mb n ∧ MAt w' gm an af ad n2 ∧ Chg (bothS g gl mb gm an af ad) w w') → RetV e ∧ SomeDisk w' g gl mb n ∧ MAt w' gm an af ad n2 ∧ Below B w w' :=
    fun e w' h => ⟨h.1, h.2.1, h.2.2.1, both_below hBw hB1 hB2 h.2.2.2⟩
  by_cases h1 : k = 1
  · subst h1
    exact (call_write at_ A A2 m c m2 c2 B b hr hl (by omega) hBw hB1 hB2 hd hm).mono fin
  by_cases h2 : k = 2
  · subst h2
    exact (call_flush at_ A A2 m c m2 c2 hd hm).mono fin
  by_cases h3 : k = 3
  · subst h3
    exact (call_read at_ A A2 m c m2 c2 hd hm).mono fin
  by_cases h4 : k = 4
  · subst h4
    exact (call_stop at_ A A2 m c m2 c2 hd hm).mono fin
  by_cases h5 : k = 5
  · subst h5
    exact (call_crash at_ A A2 m c m2 c2 B kp hr2 hl2 hBw hB1 hB2 hd hm).mono fin
  exact (call_none at_ A A2 m c m2 c2 k ⟨h1, h2, h3, h4, h5⟩ hd hm).mono fin
/-- A disk that is down. -/
def DownDisk (w : World) (g gl mb n : Nat) (d : Dk) : Prop := DiskAt w g gl mb d ∧ d.now.length = n ∧ d.down = true
theorem stop0_any (h : SomeDisk w g gl mb n) : Calls Try.prog 20 #[.pointer (some ⟨g, 0, none⟩), .int .i64 0] w fun e w' => Ended e ∧ (∃ d, DownDisk w' g gl mb n d) ∧ Chg (dkS g gl mb) w w' := by
  obtain ⟨d, hd, hn⟩ := h
  cases hdn : d.down
  · refine (stop_ok 0 hd hdn rfl).mono ?_
    rintro e w' ⟨rfl, hd', hc⟩
    exact ⟨Ended.mk _, ⟨_, hd', hn, rfl⟩, hc.mono fun i _ h => .inl h⟩
  · refine (stop_down 0 hd hdn).mono ?_
    rintro e w' ⟨rfl, rfl⟩
    exact ⟨Ended.mk _, ⟨d, hd, hn, hdn⟩, Chg.refl _ _⟩
end
end Go.Proofs.Ytmddpjdgnamlnaa
