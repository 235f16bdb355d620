/- A region that draws its order, whose operations read memory or make new memory: one walk of each operation, at whatever world it comes up, with what is known of the slots that it looks at, serves every order. Plain lemmas on the model's regions. -/
import Derived.Test.YtehhgpnaemffnaaDoorBase
import Derived.Orders
namespace Go.Proofs.YtehhgpnaemffnaaDoor
open Go.RowKit

def dstAt (ops : Array Oper) (i : Nat) : Option Tmp := (ops[i]?).bind (·.dst)
def waitsFor (ops : Array Oper) (i j : Nat) : Bool := ((ops[i]?).map fun o => o.after.any fun e => Region.binds .any e && e.on == j).getD false
def looksOf (ops : Array Oper) (i : Nat) : List Tmp := ((ops[i]?).map fun o => o.looksAt ops).getD []
/-- What is asked of the region, reckoned. -/
def monoB (ops : Array Oper) : Bool :=
  Region.noSelect ops && (List.range ops.size).all fun i =>
    ((ops[i]?).map fun o => o.after.all fun e => !Region.binds .any e || decide (e.on < i)).getD true &&
    (List.range ops.size).all fun j => i == j ||
      match dstAt ops j with
      | none => true
      | some d => (dstAt ops i != some d) && (!(looksOf ops i).contains d || (decide (j < i) && waitsFor ops i j) || (decide (i < j) && waitsFor ops j i))

/-- The frame in which the listed operations have put their values. -/
def actOf (ops : Array Oper) (a : Act) (x : Nat → Value) (L : Nat → Bool) : Nat → Act
  | 0 => a
  | k + 1 => if L k then (actOf ops a x L k).put (dstAt ops k) (x k) else actOf ops a x L k

def upd (x : Nat → Value) (i : Nat) (v : Value) : Nat → Value := fun j => if j = i then v else x j

section
variable {ops : Array Oper} {a : Act}

theorem put_size (a : Act) (d : Option Tmp) (v : Value) : (a.put d v).tmps.size = a.tmps.size := by
  cases d <;> simp [Act.put]
theorem put_defers (a : Act) (d : Option Tmp) (v : Value) : (a.put d v).defers = a.defers := by
  cases d <;> simp [Act.put]
theorem actOf_size (x : Nat → Value) (L : Nat → Bool) : ∀ k, (actOf ops a x L k).tmps.size = a.tmps.size
  | 0 => rfl
  | k + 1 => by
    unfold actOf
    split
    · rw [put_size, actOf_size x L k]
    · exact actOf_size x L k
theorem actOf_defers (x : Nat → Value) (L : Nat → Bool) : ∀ k, (actOf ops a x L k).defers = a.defers
  | 0 => rfl
  | k + 1 => by
    unfold actOf
    split
    · rw [put_defers, actOf_defers x L k]
    · exact actOf_defers x L k
theorem actOf_congr {x y : Nat → Value} {L M : Nat → Bool} : ∀ k, (∀ j, j < k → L j = M j) → (∀ j, j < k → L j = true → x j = y j) → actOf ops a x L k = actOf ops a y M k
  | 0, _, _ => rfl
  | k + 1, h1, h2 => by
    have ih := actOf_congr (x := x) (y := y) k (fun j hj => h1 j (by omega)) (fun j hj => h2 j (by omega))
    unfold actOf
    rw [← h1 k (by omega), ih]
    split
    · rename_i hL; rw [h2 k (by omega) hL]
    · rfl
theorem actOf_flip {x : Nat → Value} {L : Nat → Bool} {i : Nat} {v : Value} (hL : L i = false) : ∀ k, i < k → (∀ j, j < k → j ≠ i → ∀ d, dstAt ops j = some d → dstAt ops i ≠ some d) →
    (actOf ops a x L k).put (dstAt ops i) v = actOf ops a (upd x i v) (fun j => j == i || L j) k
  | 0, h, _ => absurd h (by omega)
  | k + 1, h, hd => by
    by_cases hik : i = k
    · subst hik
      have e : actOf ops a x L i = actOf ops a (upd x i v) (fun j => j == i || L j) i :=
        actOf_congr i (fun j hj => by simp [show j ≠ i by omega]) (fun j hj _ => by simp [upd, show j ≠ i by omega])
      conv => lhs; rw [actOf, hL]
      conv => rhs; rw [actOf]
      simp [e, upd]
    · have ih := actOf_flip (x := x) (v := v) hL k (by omega) (fun j hj => hd j (by omega))
      have hki : k ≠ i := fun e => hik e.symm
      conv => lhs; rw [actOf]
      conv => rhs; rw [actOf]
      have e1 : (k == i || L k) = L k := by simp [hki]
      rw [e1, ← ih]
      split
      · rw [Act.put_comm _ _ _ (hd k (by omega) hki)]
        simp [upd, hki]
      · rfl

/-- Two frames that an operation can't tell apart. -/
def AgreeOn (S : List Tmp) (a b : Act) : Prop := ∀ t, t ∈ S → a.tmps[t]? = b.tmps[t]?
theorem AgreeOn.put_both {S : List Tmp} {a b : Act} (h : AgreeOn S a b) (hsz : a.tmps.size = b.tmps.size) (d : Option Tmp) (v : Value) : AgreeOn S (a.put d v) (b.put d v) := by
  intro t ht
  cases d with
  | none => exact h t ht
  | some d =>
    simp only [Act.put, Array.getElem?_setIfInBounds, hsz]
    rw [h t ht]
theorem AgreeOn.put_left {S : List Tmp} {a b : Act} (h : AgreeOn S a b) {d : Option Tmp} (hd : ∀ t, d = some t → t ∉ S) (v : Value) : AgreeOn S (a.put d v) b := by
  intro t ht
  cases d with
  | none => exact h t ht
  | some d =>
    have hne : d ≠ t := fun e => hd d rfl (e ▸ ht)
    simp only [Act.put, Array.getElem?_setIfInBounds_ne hne]
    exact h t ht
theorem AgreeOn.symm {S : List Tmp} {a b : Act} (h : AgreeOn S a b) : AgreeOn S b a := fun t ht => (h t ht).symm
theorem agree_actOf {S : List Tmp} {x : Nat → Value} {L M : Nat → Bool} : ∀ k, (∀ j, j < k → L j ≠ M j → ∀ d, dstAt ops j = some d → d ∉ S) → AgreeOn S (actOf ops a x L k) (actOf ops a x M k)
  | 0, _ => fun _ _ => rfl
  | k + 1, h => by
    have ih := agree_actOf (x := x) k (fun j hj => h j (by omega))
    unfold actOf
    cases hL : L k <;> cases hM : M k <;> simp only [Bool.false_eq_true, if_false, if_true]
    · exact ih
    · exact (ih.symm.put_left (h k (by omega) (by simp [hL, hM])) _).symm
    · exact ih.put_left (h k (by omega) (by simp [hL, hM])) _
    · exact ih.put_both (by rw [actOf_size, actOf_size]) _ _
theorem exec_agree {o : Oper} (hs : ∀ cs b, o.op ≠ .select cs b) {a b : Act} (h : AgreeOn (o.looksAt ops) a b) : execOp a.eval o = execOp b.eval o :=
  execOp_congr o hs fun x hx => by
    cases x with
    | tmp t =>
      have := h t (List.mem_append_left _ (List.mem_filterMap.2 ⟨.tmp t, by simpa using hx, rfl⟩))
      simp [Act.eval, this]
    | _ => rfl
theorem wanted_agree {o : Oper} {a b : Act} (h : AgreeOn (o.looksAt ops) a b) : Region.wanted o (yielded ops a.tmps) = Region.wanted o (yielded ops b.tmps) := by
  unfold Region.wanted
  cases hg : o.guard with
  | none => rfl
  | some gw =>
    obtain ⟨g, want⟩ := gw
    have hy : yielded ops a.tmps g = yielded ops b.tmps g := by
      unfold yielded
      cases ht : (ops[g]?).bind (·.dst) with
      | none => rfl
      | some t =>
        have := h t (by simp [Oper.looksAt, hg, ht])
        simp [this]
    simp only [hy]
end

/-- How one operation's own walk ends: its value in its slot, and what is said of it. -/
def OneQ (a : Act) (d : Option Tmp) (R : Value → World → Prop) : Exit → Act → World → Prop :=
  fun e a' w' => e = .normal ∧ ∃ v, a' = a.put d v ∧ R v w'

section
variable {P : Program} {ops : Array Oper} {Q : Exit → Act → World → Prop} {C : World → Prop}

theorem put_eq {a b : Act} (h : a.tmps.size = b.tmps.size) {d : Option Tmp} {v u : Value} (he : a.put d v = a.put d u) : b.put d v = b.put d u := by
  cases d with
  | none => rfl
  | some d =>
    by_cases hd : d < a.tmps.size
    · have h1 := congrArg (fun z : Act => z.tmps[d]?) he
      simp [Act.put, hd] at h1
      rw [h1]
    · have hb : ¬ d < b.tmps.size := by rw [← h]; exact hd
      simp [Act.put, Array.setIfInBounds, hb]

/-- The same operation in a frame that it can't tell from the first. -/
theorem wp_transfer {o : Oper} {a b : Act} {w : World} {R : Value → World → Prop} {K : Act → World → Prop} (he : execOp b.eval o = execOp a.eval o) (hsz : a.tmps.size = b.tmps.size)
    (h : wpList P ops (OneQ a o.dst R) [o] a w) (hwant : Region.wanted o (yielded ops b.tmps) = Region.wanted o (yielded ops a.tmps))
    (hK : ∀ v w', R v w' → K (b.put o.dst v) w') :
    if Region.wanted o (yielded ops b.tmps) then o.wp P b w K Q else K (b.put o.dst undef) w := by
  rw [hwant]
  have low : ∀ v w', OneQ a o.dst R .normal (a.put o.dst v) w' → K (b.put o.dst v) w' := by
    rintro v w' ⟨_, u, hu, hR⟩
    rw [put_eq hsz hu]
    exact hK u w' hR
  simp only [wpList] at h
  split
  · rename_i hw
    rw [if_pos hw] at h
    rcases h with h | ⟨_, a', w', hq⟩
    · unfold Oper.wp at h ⊢
      rw [he]
      generalize (execOp a.eval o).run P w = r at h
      cases r with
      | ok n w' =>
        cases n <;> simp only [Oper.upon] at h ⊢
        case value v => exact low _ _ h
        case skip => exact low _ _ h
        case defer d =>
          obtain ⟨_, v, hv, _⟩ := h
          have := congrArg Act.defers hv
          rw [put_defers, put_defers] at this
          simp at this
        case enter f args =>
          refine h.mono fun e w'' hh => ?_
          cases e with
          | returned v => exact low _ _ hh
          | panicked ch => exact absurd hh.1 (by simp)
          | outgrown => obtain ⟨_, _, hq, _⟩ := hh; cases hq
        case row r args => exact h.mono fun v w'' hh => low _ _ hh
      | halt x w' =>
        cases x <;> simp only [Oper.upon] at h ⊢
        all_goals (exact absurd h.1 (by simp))
    · obtain ⟨hq, _⟩ := hq; cases hq
  · rename_i hw
    rw [if_neg hw] at h
    exact low _ _ h

/-- The walk, an operation at a time, in the text's order. F: what is known of a slot that an operation of the region has written. -/
def mwalk (P : Program) (ops : Array Oper) (C : World → Prop) (Qn : Act → World → Prop) : List Oper → List (Value → World → Prop) → Act → (Tmp → World → Prop) → Prop
  | [], _, a, F => ∀ w, C w → (∀ t, F t w) → Qn a w
  | o :: l, φs, a, F =>
    (∀ w, C w → (∀ t, t ∈ o.looksAt ops → F t w) → wpList P ops (OneQ a o.dst fun v w' => C w' ∧ Below w.heap.size w w' ∧ (φs.headD fun _ _ => True) v w') [o] a w) ∧
    ∀ v, mwalk P ops C Qn l φs.tail (a.put o.dst v) (fun t w => if o.dst = some t then (φs.headD fun _ _ => True) v w else F t w)

def phi (φs : List (Value → World → Prop)) (i : Nat) : Value → World → Prop := φs.getD i fun _ _ => True
/-- What is known of the slots behind the first i operations. -/
def knowF (ops : Array Oper) (φs : List (Value → World → Prop)) (x : Nat → Value) : Nat → Tmp → World → Prop
  | 0 => fun _ _ => True
  | i + 1 => fun t w => if dstAt ops i = some t then phi φs i (x i) w else knowF ops φs x i t w
theorem knowF_of (φs : List (Value → World → Prop)) (x : Nat → Value) (t : Tmp) (w : World) : ∀ i, (∀ j, j < i → dstAt ops j = some t → phi φs j (x j) w) → knowF ops φs x i t w
  | 0, _ => trivial
  | i + 1, h => by
    unfold knowF
    split
    · rename_i hd; exact h i (by omega) hd
    · exact knowF_of φs x t w i fun j hj => h j (by omega)

theorem actOf_lex (a : Act) (x : Nat → Value) (i : Nat) (n : Nat) (h : i ≤ n) : actOf ops a x (fun j => decide (j < i)) n = actOf ops a x (fun _ => true) i := by
  induction n with
  | zero => obtain rfl : i = 0 := by omega
            rfl
  | succ n ih =>
    by_cases hi : i = n + 1
    · subst hi
      exact actOf_congr _ (fun j hj => by simpa using hj) (fun _ _ _ => rfl)
    · rw [actOf]
      have : decide (n < i) = false := by simp; omega
      rw [this]
      exact ih (by omega)

theorem mwalk_at {Qn : Act → World → Prop} {φs : List (Value → World → Prop)} {a : Act} (h : mwalk P ops C Qn ops.toList φs a (fun _ _ => True)) (x : Nat → Value) :
    ∀ i, i ≤ ops.size → mwalk P ops C Qn (ops.toList.drop i) (φs.drop i) (actOf ops a x (fun _ => true) i) (knowF ops φs x i)
  | 0, _ => h
  | i + 1, hi => by
    have ih := mwalk_at h x i (by omega)
    have hlt : i < ops.toList.length := by simpa using Nat.lt_of_succ_le hi
    rw [List.drop_eq_getElem_cons hlt] at ih
    obtain ⟨_, ih2⟩ := ih
    have e1 : dstAt ops i = (ops.toList[i]).dst := by simp [dstAt, show i < ops.size by omega]
    have e2 : (φs.drop i).headD (fun _ _ => True) = phi φs i := by
      unfold phi
      cases hd : φs.drop i with
      | nil =>
        have : φs.length ≤ i := by simpa using hd
        simp [List.getD, List.getElem?_eq_none this]
      | cons p r =>
        have hl : i < φs.length := by
          rcases Nat.lt_or_ge i φs.length with h | h
          · exact h
          · rw [List.drop_eq_nil_of_le h] at hd; cases hd
        rw [List.drop_eq_getElem_cons hl] at hd
        injection hd with hd _
        simp [List.getD, hl, hd]
    have := ih2 (x i)
    rw [e2, List.tail_drop, ← e1] at this
    rw [actOf]
    simpa [knowF] using this

theorem monoB_spec (hB : monoB ops = true) : Region.noSelect ops = true ∧ (∀ i o, ops[i]? = some o → ∀ e ∈ o.after, Region.binds .any e = true → e.on < i) ∧
    ∀ i j d, i < ops.size → j < ops.size → i ≠ j → dstAt ops j = some d → dstAt ops i ≠ some d ∧ (d ∈ looksOf ops i → (j < i ∧ waitsFor ops i j = true) ∨ (i < j ∧ waitsFor ops j i = true)) := by
  simp only [monoB, Bool.and_eq_true, List.all_eq_true, List.mem_range] at hB
  obtain ⟨h1, h2⟩ := hB
  refine ⟨h1, fun i o ho e he hb => ?_, fun i j d hi hj hne hd => ?_⟩
  · have hi : i < ops.size := (Array.getElem?_eq_some_iff.1 ho).1
    have h3 := (h2 i hi).1
    rw [ho] at h3
    simp only [Option.map_some, Option.getD_some] at h3
    have h4 := Array.all_eq_true_iff_forall_mem.1 h3 e he
    simpa [hb] using h4
  · have h3 := (h2 i hi).2 j hj
    simp only [Bool.or_eq_true, beq_iff_eq, hne, false_or, hd, Bool.and_eq_true, bne_iff_ne, ne_eq, Bool.not_eq_true', decide_eq_true_eq] at h3
    refine ⟨h3.1, fun hm => ?_⟩
    rcases h3.2 with (h4 | h4) | h4
    · rw [List.contains_eq_mem] at h4; simp [hm] at h4
    · exact .inl h4
    · exact .inr h4

theorem any_of_mono {Qa : Exit → Act → World → Prop} (hB : monoB ops = true) {φs : List (Value → World → Prop)} (pers : ∀ i v w w', phi φs i v w → Below w.heap.size w w' → phi φs i v w') {a : Act}
    (h : mwalk P ops C (Qa .normal) ops.toList φs a (fun _ _ => True)) :
    ∀ (fuel : Nat) (listed : Array Bool) (x : Nat → Value) (w : World), listed.size = ops.size → ((List.range ops.size).filter fun j => !listed.getD j true).length = fuel →
      C w → (∀ j, j < ops.size → listed.getD j true = true → phi φs j (x j) w) →
      (∀ i o, ops[i]? = some o → listed.getD i true = true → ∀ e ∈ o.after, Region.binds .any e = true → listed.getD e.on true = true) →
      wpAny P .any ops Qa fuel listed (actOf ops a x (fun j => listed.getD j true) ops.size) w := by
  obtain ⟨hsel, hback, hdist⟩ := monoB_spec hB
  have done : ∀ (listed : Array Bool) (x : Nat → Value) (w : World), (∀ j, j < ops.size → listed.getD j true = true) → C w → (∀ j, j < ops.size → listed.getD j true = true → phi φs j (x j) w) →
      Qa .normal (actOf ops a x (fun j => listed.getD j true) ops.size) w := by
    intro listed x w hall hC hφ
    have hm := mwalk_at h x ops.size (Nat.le_refl _)
    rw [List.drop_eq_nil_of_le (by simp)] at hm
    have e : actOf ops a x (fun j => listed.getD j true) ops.size = actOf ops a x (fun _ => true) ops.size := actOf_congr _ (fun j hj => hall j hj) (fun _ _ _ => rfl)
    rw [e]
    exact hm w hC fun t => knowF_of _ _ _ _ _ fun j hj _ => hφ j hj (hall j hj)
  intro fuel
  induction fuel with
  | zero =>
    intro listed x w hsz hlen hC hφ hcl
    have hnil := List.eq_nil_of_length_eq_zero hlen
    have hall : ∀ j, j < ops.size → listed.getD j true = true := fun j hj => by
      cases hb : listed.getD j true with
      | true => rfl
      | false =>
        have : j ∈ (List.range ops.size).filter fun j => !listed.getD j true := List.mem_filter.2 ⟨List.mem_range.2 hj, by simp only [hb]; rfl⟩
        rw [hnil] at this; cases this
    refine ⟨?_, done listed x w hall hC hφ⟩
    rw [List.eq_nil_iff_forall_not_mem]
    intro j hj
    obtain ⟨h0, o, ho, _⟩ := mem_ready.1 hj
    rw [hall j (Array.getElem?_eq_some_iff.1 ho).1] at h0
    cases h0
  | succ fuel ih =>
    intro listed x w hsz hlen hC hφ hcl
    refine ⟨fun hr => ?_, fun i hi => ?_⟩
    · -- nothing may come up: then all have
      refine done listed x w (fun j hj => ?_) hC hφ
      induction j using Nat.strongRecOn with
      | ind j ihj =>
        cases hb : listed.getD j true with
        | true => rfl
        | false =>
          exfalso
          obtain ⟨o, ho⟩ : ∃ o, ops[j]? = some o := ⟨_, Array.getElem?_eq_getElem hj⟩
          have : j ∈ Region.ready .any ops listed := mem_ready.2 ⟨hb, o, ho, fun e he hbd => by
            have hlt := hback j o ho e he hbd
            have := ihj e.on hlt (by omega)
            simpa [show e.on < listed.size by omega] using this⟩
          rw [hr] at this
          cases this
    · obtain ⟨hun, o, ho, hall⟩ := mem_ready.1 hi
      have hin : i < ops.size := (Array.getElem?_eq_some_iff.1 ho).1
      have hdi : dstAt ops i = o.dst := by simp [dstAt, ho]
      have hlk : looksOf ops i = o.looksAt ops := by simp [looksOf, ho]
      have hwl : ∀ j, waitsFor ops i j = true → listed.getD j true = true := fun j hj => by
        simp only [waitsFor, ho, Option.map_some, Option.getD_some] at hj
        obtain ⟨e, he, hb⟩ := Array.any_eq_true'.1 hj
        simp only [Bool.and_eq_true, beq_iff_eq] at hb
        have h1 := hall e he hb.1
        rw [hb.2] at h1
        rcases Nat.lt_or_ge j listed.size with h' | h'
        · simp [h'] at h1 ⊢; exact h1
        · simp [Array.getElem?_eq_none h'] at h1
      have hwn : ∀ j, j < ops.size → waitsFor ops j i = true → listed.getD j true = false := fun j hj hw => by
        cases hb : listed.getD j true with
        | false => rfl
        | true =>
          exfalso
          obtain ⟨oj, hoj⟩ : ∃ o, ops[j]? = some o := ⟨_, Array.getElem?_eq_getElem hj⟩
          simp only [waitsFor, hoj, Option.map_some, Option.getD_some] at hw
          obtain ⟨e, he, hbb⟩ := Array.any_eq_true'.1 hw
          simp only [Bool.and_eq_true, beq_iff_eq] at hbb
          have := hcl j oj hoj hb e he hbb.1
          rw [hbb.2, hun] at this
          cases this
      -- the operation's own walk, in the text's frame
      have hm := mwalk_at h x i (by omega)
      rw [List.drop_eq_getElem_cons (show i < ops.toList.length by simpa using hin)] at hm
      have hoi : ops.toList[i]'(by simpa using hin) = o := by
        have := (Array.getElem?_eq_some_iff.1 ho).2
        simpa using this
      rw [hoi] at hm
      have e2 : (φs.drop i).headD (fun _ _ => True) = phi φs i := by
        unfold phi
        cases hd : φs.drop i with
        | nil =>
          have : φs.length ≤ i := by simpa using hd
          simp [List.getD, List.getElem?_eq_none this]
        | cons p r =>
          have hl : i < φs.length := by
            rcases Nat.lt_or_ge i φs.length with h | h
            · exact h
            · rw [List.drop_eq_nil_of_le h] at hd; cases hd
          rw [List.drop_eq_getElem_cons hl] at hd
          injection hd with hd _
          simp [List.getD, hl, hd]
      have hone := hm.1 w hC (fun t ht => knowF_of _ _ _ _ _ fun j hj hd => by
        have hjn : j < ops.size := by omega
        rcases (hdist i j t hin hjn (by omega) hd).2 (hlk ▸ ht) with ⟨_, hw⟩ | ⟨h2, _⟩
        · exact hφ j hjn (hwl j hw)
        · omega)
      rw [e2] at hone
      have hagree : AgreeOn (o.looksAt ops) (actOf ops a x (fun j => listed.getD j true) ops.size) (actOf ops a x (fun _ => true) i) := by
        rw [← actOf_lex a x i ops.size (by omega)]
        refine agree_actOf _ fun j hj hne d hd hmem => ?_
        by_cases hji : j = i
        · subst hji
          apply hne
          simp only [hun]
          simp
        · rcases (hdist i j d hin hj (fun e => hji e.symm) hd).2 (hlk ▸ hmem) with ⟨h1, hw⟩ | ⟨h1, hw⟩
          · apply hne
            rw [hwl j hw]
            simp [h1]
          · apply hne
            rw [hwn j hj hw]
            simp; omega
      unfold wpOp
      simp only [ho]
      have htr := wp_transfer (Q := Qa) (K := wpAny P .any ops Qa fuel (listed.setIfInBounds i true)) (exec_agree (Region.noSelect_spec hsel i o · · ho) hagree) (by rw [actOf_size, actOf_size]) hone (wanted_agree hagree) (fun v w' hR => by
        obtain ⟨hC', hb', hp'⟩ := hR
        rw [← hdi, actOf_flip (a := a) (x := x) (v := v) hun ops.size hin (fun j hj hji d hd => (hdist i j d hin hj (fun e => hji e.symm) hd).1)]
        have hget : ∀ j, (listed.setIfInBounds i true).getD j true = (j == i || listed.getD j true) := fun j => by
          by_cases hji : j = i
          · subst hji; simp [show j < listed.size by omega]
          · rw [getD_set_ne true (fun e => hji e.symm)]; simp [hji]
        have ef : (fun j => j == i || listed.getD j true) = fun j => (listed.setIfInBounds i true).getD j true := funext fun j => (hget j).symm
        rw [ef]
        refine ih (listed.setIfInBounds i true) (upd x i v) w' (by simpa using hsz) ?_ hC' (fun j hj hl => ?_) (fun j oj hoj hl e he hb => ?_)
        · have e3 : ((List.range ops.size).filter fun j => !(listed.setIfInBounds i true).getD j true) = ((List.range ops.size).filter fun j => !listed.getD j true).erase i := by
            rw [List.Nodup.erase_eq_filter (List.nodup_range.filter _), List.filter_filter]
            apply List.filter_congr
            intro j _
            rw [hget j]
            cases hj : (j == i) <;> simp [bne, hj]
          rw [e3, List.length_erase_of_mem (List.mem_filter.2 ⟨List.mem_range.2 hin, by simp only [hun]; rfl⟩), hlen]
          rfl
        · by_cases hji : j = i
          · subst hji; simpa [upd] using hp'
          · rw [hget j] at hl
            simp only [beq_iff_eq, hji, Bool.or_eq_true, false_or] at hl
            simp only [upd, hji, if_false]
            exact pers j _ _ _ (hφ j hj hl) hb'
        · rw [hget e.on]
          rw [hget j] at hl
          by_cases hji : j = i
          · subst hji
            have : oj = o := by rw [ho] at hoj; injection hoj with hoj; exact hoj.symm
            subst this
            have h1 := hall e he hb
            have h2 : listed.getD e.on true = true := by
              rcases Nat.lt_or_ge e.on listed.size with h' | h'
              · simp [h'] at h1 ⊢; exact h1
              · simp [Array.getElem?_eq_none h'] at h1
            rw [h2]; simp
          · simp only [beq_iff_eq, hji, Bool.or_eq_true, false_or] at hl
            rw [hcl j oj hoj hl e he hb]; simp)
      split
      · rename_i hw
        rw [if_pos hw] at htr
        exact .inl htr
      · rename_i hw
        rw [if_neg hw] at htr
        exact htr

/-- What stays known while memory only grows. -/
def Pers (φ : Value → World → Prop) : Prop := ∀ v w w', φ v w → Below w.heap.size w w' → φ v w'
def PersAll : List (Value → World → Prop) → Prop
  | [] => True
  | φ :: r => Pers φ ∧ PersAll r
theorem persAll_phi : ∀ (φs : List (Value → World → Prop)), PersAll φs → ∀ i v w w', phi φs i v w → Below w.heap.size w w' → phi φs i v w'
  | [], _, i, _, _, _, _, _ => by simp [phi]
  | φ :: r, h, 0, v, w, w', hp, hb => h.1 v w w' hp hb
  | φ :: r, h, i + 1, v, w, w', hp, hb => persAll_phi r h.2 i v w w' hp hb

theorem wp_region_mono {id : Nat} {l : List Oper} (φs : List (Value → World → Prop)) {a : Act} {w : World} (hm : P.follows .mixedOrders = true) (hB : monoB l.toArray = true) (hp : PersAll φs)
    (h : mwalk P l.toArray (fun w' => Below w.heap.size w w') (Q .normal) l φs a (fun _ _ => True)) : (Code.region id l.toArray true).wp P Q a w := by
  refine wp_region_any hm ?_
  have e : actOf l.toArray a (fun _ => undef) (fun j => (Array.replicate l.toArray.size false).getD j true) l.toArray.size = a := by
    have : ∀ k, k ≤ l.toArray.size → actOf l.toArray a (fun _ => undef) (fun j => (Array.replicate l.toArray.size false).getD j true) k = a := by
      intro k
      induction k with
      | zero => intro _; rfl
      | succ k ih =>
        intro hk
        rw [actOf]
        have : (Array.replicate l.toArray.size false).getD k true = false := by simp [show k < l.length by simpa using Nat.lt_of_succ_le hk]
        rw [this]
        exact ih (by omega)
    exact this _ (Nat.le_refl _)
  have hmain := any_of_mono (C := fun w' => Below w.heap.size w w') (Qa := Q) (P := P) hB (φs := φs) (persAll_phi φs hp) (a := a) (by simpa using h) l.toArray.size (Array.replicate l.toArray.size false) (fun _ => undef) { w with drawn := w.drawn + 1 }
    (by simp) (by
      rw [List.filter_eq_self.2 (fun j hj => by simp only [List.mem_range] at hj; simp [show j < l.length by simpa using hj])]
      simp) (Below.refl w.heap.size w).drew
    (fun j hj hl => by simp [show j < l.length by simpa using hj] at hl)
    (fun i o ho hl => by
      have hi : i < l.length := by simpa using (Array.getElem?_eq_some_iff.1 ho).1
      simp [hi] at hl)
  rw [e] at hmain
  exact hmain

theorem wp_region_mono' {id : Nat} {l : List Oper} {a : Act} {w : World} (hm : P.follows .mixedOrders = true) (hB : monoB l.toArray = true)
    (h : ∃ φs : List (Value → World → Prop), PersAll φs ∧ mwalk P l.toArray (fun w' => Below w.heap.size w w') (Q .normal) l φs a (fun _ _ => True)) : (Code.region id l.toArray true).wp P Q a w :=
  let ⟨φs, hp, hw⟩ := h
  wp_region_mono φs hm hB hp hw

theorem wpList_one_agree {o : Oper} {a b : Act} {w : World} {R : Value → World → Prop} (hs : ∀ cs b, o.op ≠ .select cs b) (hag : AgreeOn (o.looksAt ops) b a) (hsz : a.tmps.size = b.tmps.size)
    (h : wpList P ops (OneQ a o.dst R) [o] a w) : wpList P ops (OneQ b o.dst R) [o] b w := by
  refine wpList_step fun K hK => ?_
  exact wp_transfer (exec_agree hs hag) hsz h (wanted_agree hag) fun v w' hR => hK _ _ ⟨rfl, v, rfl, hR⟩

/-- Is a slot written by none of these, and no select among them? -/
def aloneB (d : Option Tmp) (l : List Oper) : Bool := l.all fun o => (d.isNone || o.dst != d) && (match o.op with | .select .. => false | _ => true)

theorem mwalk_subst {Qn : Act → World → Prop} {d : Option Tmp} {c v : Value} : ∀ (l : List Oper) (φs : List (Value → World → Prop)) (a : Act) (F G : Tmp → World → Prop), aloneB d l = true →
    (∀ t w, G t w → F t w) → (∀ t w, d = some t → G t w → v = c) → (∀ t w, d ≠ some t → F t w → G t w) → (d = none → v = c) →
    mwalk P ops C Qn l φs (a.put d c) F → mwalk P ops C Qn l φs (a.put d v) G
  | [], φs, a, F, G, _, hGF, hG, _, hn, h => fun w hw hall => by
    have : v = c := by
      cases d with
      | none => exact hn rfl
      | some t => exact hG t w rfl (hall t)
    rw [this]
    exact h w hw fun t => hGF t w (hall t)
  | o :: l, φs, a, F, G, hal, hGF, hG, hFG, hn, h => by
    simp only [aloneB, List.all_cons, Bool.and_eq_true, Bool.or_eq_true] at hal
    obtain ⟨⟨hd, hsel⟩, hal'⟩ := hal
    have hs : ∀ cs b, o.op ≠ .select cs b := fun cs b e => by rw [e] at hsel; simp at hsel
    have hne : ∀ t, d = some t → o.dst ≠ some t := fun t ht e => by
      rcases hd with hd | hd
      · rw [ht] at hd; simp at hd
      · rw [ht, e] at hd; simp at hd
    refine ⟨fun w hw hF => ?_, fun u => ?_⟩
    · have h1 := h.1 w hw fun t ht => hGF t w (hF t ht)
      by_cases hv : v = c
      · rw [hv]; exact h1
      · refine wpList_one_agree hs ?_ (by rw [put_size, put_size]) h1
        have hag : AgreeOn (o.looksAt ops) a a := fun _ _ => rfl
        have hnm : ∀ t, d = some t → t ∉ o.looksAt ops := fun t ht hm => hv (hG t w ht (hF t hm))
        exact ((hag.put_left hnm v).symm.put_left hnm c).symm
    · have e : ∀ z, (a.put d z).put o.dst u = (a.put o.dst u).put d z := fun z => Act.put_comm a z u fun t ht => hne t ht
      rw [e]
      refine mwalk_subst l φs.tail (a.put o.dst u) (fun t w => if o.dst = some t then (φs.headD fun _ _ => True) u w else F t w) _ hal' (fun t w hg => ?_) (fun t w ht hg => ?_) (fun t w ht hf => ?_) hn ?_
      · split
        · rename_i h2; rw [if_pos h2] at hg; exact hg
        · rename_i h2; rw [if_neg h2] at hg; exact hGF t w hg
      · rw [if_neg (hne t ht)] at hg
        exact hG t w ht hg
      · split
        · rename_i h2; rw [if_pos h2] at hf; exact hf
        · rename_i h2; rw [if_neg h2] at hf; exact hFG t w ht hf
      · rw [← e]; exact h.2 u

/-- It is this value. -/
def isV (c : Value) : Value → World → Prop := fun v _ => v = c
theorem pers_isV (c : Value) : Pers (isV c) := fun _ _ _ h _ => h
theorem ex_det {S : List (Value → World → Prop) → Prop} (h : ∃ c, ∃ r, S (isV c :: r)) : ∃ φs, S φs := let ⟨_, r, hs⟩ := h; ⟨_ :: r, hs⟩
theorem ex_free {S : List (Value → World → Prop) → Prop} (φ : Value → World → Prop) (h : ∃ r, S (φ :: r)) : ∃ φs, S φs := let ⟨r, hs⟩ := h; ⟨φ :: r, hs⟩
theorem ex_nil {S : List (Value → World → Prop) → Prop} (h : S []) : ∃ φs, S φs := ⟨[], h⟩
/-- An operation that yields one value: the walk goes on with it. -/
theorem mwalk_det {Qn : Act → World → Prop} {o : Oper} {l : List Oper} {φs : List (Value → World → Prop)} {a : Act} {F : Tmp → World → Prop} {c : Value} (hal : aloneB o.dst l = true) (hF : ∀ t w, o.dst = some t → F t w)
    (hn : o.dst.isSome = true)
    (h1 : ∀ w, C w → (∀ t, t ∈ o.looksAt ops → F t w) → wpList P ops (OneQ a o.dst fun v w' => C w' ∧ Below w.heap.size w w' ∧ v = c) [o] a w)
    (h2 : mwalk P ops C Qn l φs (a.put o.dst c) F) : mwalk P ops C Qn (o :: l) (isV c :: φs) a F := by
  refine ⟨h1, fun v => ?_⟩
  refine mwalk_subst l φs a F _ hal (fun t w hg => ?_) (fun t w ht hg => ?_) (fun t w ht hf => ?_) (fun h => by rw [h] at hn; simp at hn) h2
  · split at hg
    · rename_i h; exact hF t w h
    · exact hg
  · simpa [ht, isV] using hg
  · rw [if_neg ht]
    exact hf
end
end Go.Proofs.YtehhgpnaemffnaaDoor
