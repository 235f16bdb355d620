/- Messages: what they are, and what they are in memory; large ones; a message in memory of its own. -/
import Derived.Test.YtbdbimnfknaakaaCells
import Derived.Test.YtbdbimnfknaakaaMono
import Derived.Laws.ResultCell
namespace Go.Proofs.Ytbdbimnfknaakaa
open Go.RowKit

/-- An entry of a log. -/
structure En where
  (n v c s k h i m j u t : Int)
deriving DecidableEq
def En.cells (x : En) : List Value := [.int .i64 x.n, .int .i64 x.v, .int .i64 x.c, .int .i64 x.s, .int .i64 x.k, .int .i64 x.h, .int .i64 x.i, .int .i64 x.m, .int .i64 x.j, .int .i64 x.u, .int .i64 x.t]
/-- A message without its list. -/
structure Hd where
  (k f t v n u b c o a : Int)
  (d : ByteArray)
  (s o1 o2 o3 o4 o5 o6 o7 r1 r2 : Int)
  (ok : Bool)
deriving DecidableEq
/-- A message. -/
structure Ms where
  h : Hd
  es : List En
deriving DecidableEq
/-- A message in memory: where its list lies stands beside. -/
structure Mt where
  h : Hd
  v : Value
  es : List En
def Mt.m (p : Mt) : Ms := ⟨p.h, p.es⟩
def Mt.cells (p : Mt) : List Value :=
  [.int .i64 p.h.k, .int .i64 p.h.f, .int .i64 p.h.t, .int .i64 p.h.v, .int .i64 p.h.n, .int .i64 p.h.u, .int .i64 p.h.b, .int .i64 p.h.c, p.v, .int .i64 p.h.o, .int .i64 p.h.a, .string p.h.d, .int .i64 p.h.s,
   .int .i64 p.h.o1, .int .i64 p.h.o2, .int .i64 p.h.o3, .int .i64 p.h.o4, .int .i64 p.h.o5, .int .i64 p.h.o6, .int .i64 p.h.o7, .int .i64 p.h.r1, .int .i64 p.h.r2, .bool p.h.ok]
theorem Mt.cells_len (p : Mt) : p.cells.length = 23 := rfl
def enCells (l : List En) : List Value := (l.map En.cells).flatten
theorem enCells_len (l : List En) : (enCells l).length = l.length * 11 := by
  have := flatten_len 11 (l.map En.cells) (fun r hr => by obtain ⟨a, _, rfl⟩ := List.mem_map.1 hr; rfl)
  simpa [enCells] using this
theorem enCells_one (l : List En) : ∀ u ∈ enCells l, u.oneCell' = true := by
  intro u hu
  simp only [enCells, List.mem_flatten, List.mem_map] at hu
  obtain ⟨r, ⟨a, _, rfl⟩, hu⟩ := hu
  simp only [En.cells, List.mem_cons, List.not_mem_nil, or_false] at hu
  rcases hu with rfl | rfl | rfl | rfl | rfl | rfl | rfl | rfl | rfl | rfl | rfl <;> rfl
/-- A list of entries lies where a slice says. -/
def EsAt (w : World) (B : Nat) (v : Value) (es : List En) : Prop := ∃ A n c, v = .slice A n c ∧ Rd w B A (enCells es) ∧ es.length = n ∧ n ≤ c
theorem EsAt.below {w w' : World} {B C : Nat} {v : Value} {es : List En} (h : EsAt w B v es) (hb : Below C w w') (hC : B ≤ C) : EsAt w' B v es := by
  obtain ⟨A, n, c, hv, hr, hl, hc⟩ := h
  exact ⟨A, n, c, hv, hr.below hb hC, hl, hc⟩

theorem en_info : (Try.prog.info? 67).map (fun i => (i.zero, i.size, i.bytes)) = some (some (.agg #[.int .i64 0, .int .i64 0, .int .i64 0, .int .i64 0, .int .i64 0, .int .i64 0, .int .i64 0, .int .i64 0, .int .i64 0, .int .i64 0, .int .i64 0]), 11, 88) := by kernel_rfl

set_option maxHeartbeats 1600000 in
theorem big_any (p : Mt) (B : Nat) (w : World) (hp : EsAt w B p.v p.es) :
    Calls Try.prog 16 #[.agg p.cells.toArray] w fun e w' => e = .returned (.bool (decide (1000 < p.es.length) || decide (200000 < p.h.d.size))) ∧ Below w.heap.size w w' := by
  obtain ⟨⟨k, f, t, v, n, u, b, c, o, a, d, s, o1, o2, o3, o4, o5, o6, o7, r1, r2, ok⟩, v, es⟩ := p
  obtain ⟨A, nn, cc, hv, _, hl, _⟩ := hp
  simp only at hv hl
  subst hv hl
  simp only [Mt.cells]
  by_cases h1 : 1000 < es.length
  · have g1 : (1000 : Int) < (es.length : Int) := by omega
    rw [decide_eq_true h1]
    clear h1
    go_enter Try.func16, Try.ntmps16
    go_wp2_with fail
    go_ret
    exact ⟨rfl, (Below.refl _ _).alloc (Nat.le_refl _) _⟩
  · have g1 : ¬ (1000 : Int) < (es.length : Int) := by omega
    rw [decide_eq_false h1]
    clear h1
    obtain ⟨r, hr⟩ : ∃ r, (false || decide (200000 < d.size)) = r := ⟨_, rfl⟩
    rw [hr]
    have HR := Lib.hid (show decide ((200000 : Int) < (d.size : Int)) = r by rw [← hr, Bool.false_or]; exact decide_eq_decide.2 (by omega)); clear hr
    go_enter Try.func16, Try.ntmps16
    go_wp2_with fail
    go_ret
    refine ⟨?_, (Below.refl _ _).alloc (Nat.le_refl _) _⟩
    rw [← HR.out]
    rfl
end Go.Proofs.Ytbdbimnfknaakaa
