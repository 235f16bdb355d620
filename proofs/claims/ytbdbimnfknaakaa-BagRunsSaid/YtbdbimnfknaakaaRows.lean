/-
  No cell of these rows narrows 'for every input' (looked for: loops, veiled, ifaces, maps, wideKeys, modest, calm, conditions, laid).
  DERIVED. THE GIVEN ROWS OF THIS SEAT. 5 by the template 'for every input the law returns true; each argument reads behind the call as it read before'; 0 by the template 'total and deterministic' (their statements: YtbdbimnfknaakaaTotals.lean).
  GIVEN WITH THE SEED: the statements are not yours to turn. If you find one false, say at which input.
  Laid BY PROGRAM, IN A SANDBOX (cutbox-rows.mjs): the forced cells as the released guide's own fill.sh prints them over the translation a39e00c57a453d2c… (all of the seat's roots in one cut). By AI agents, Wed Nov 11 2026. No macro, syntax, notation, axiom, sorry.
-/
import Derived.Test.YtbdbimnfknaakaaChecked
import GoSem.Claim
import GoSem.ClaimJoined
import GoSem.ClaimMapViews
import Derived.JoinedTies
import Derived.KernelRfl
namespace Go.Proofs.Ytbdbimnfknaakaa
/- THE CELL 'sum', in the pinned program and in every row, IS THE sha256 OF THE DUMP (.gsa) THAT YtbdbimnfknaakaaProg.lean LOADS. Nothing in Lean hashes anything: it is a label: what it is worth is what the hold of that sum in a sandbox is worth. -/
noncomputable def Try.pinned : Pinned := { name := "ytbdbimnfknaakaa", sum := "a39e00c57a453d2c18e517f97c98092558a9f74ea0dc688d931d35499a9f0de5", checked := Try.checked }
namespace Rows
def none {H : Type} : Left H := { results := [], args := [] }

/-- 'tumuluslaw12.BagRuns': WHATEVER THE INPUT: true; the input reads as it did. -/
def bagRunsSpec : ChangeSpec := { name := "bagRuns", fn := fun _ => fun
  | [d1, d2] => { results := [.lit (.bool true)], args := [d1, d2] }
  | _ => none }
def bagRunsRow : OpenClaim := { program := "ytbdbimnfknaakaa", sum := "a39e00c57a453d2c18e517f97c98092558a9f74ea0dc688d931d35499a9f0de5", func := "tumulus/tumuluslaw12.BagRuns", spec := "bagRuns", apart := false }
def BagRunsSaid : Prop := bagRunsRow.holds Try.pinned (OpenSpec.ofChange bagRunsSpec)

/-- ITS FALSE NEIGHBOUR: 'it returns false'. Refute it at one input. -/
def bagRunsWrong : ChangeSpec := { name := "bagRuns", fn := fun _ => fun
  | [d1, d2] => { results := [.lit (.bool false)], args := [d1, d2] }
  | _ => none }
def BagRunsWrongFalsely : Prop := bagRunsRow.holds Try.pinned (OpenSpec.ofChange bagRunsWrong)

/-- 'tumuluslaw12.BagSames': WHATEVER THE INPUT: true; the input reads as it did. -/
def bagSamesSpec : ChangeSpec := { name := "bagSames", fn := fun _ => fun
  | [d1, d2] => { results := [.lit (.bool true)], args := [d1, d2] }
  | _ => none }
def bagSamesRow : OpenClaim := { program := "ytbdbimnfknaakaa", sum := "a39e00c57a453d2c18e517f97c98092558a9f74ea0dc688d931d35499a9f0de5", func := "tumulus/tumuluslaw12.BagSames", spec := "bagSames", apart := false }
def BagSamesSaid : Prop := bagSamesRow.holds Try.pinned (OpenSpec.ofChange bagSamesSpec)

/-- ITS FALSE NEIGHBOUR: 'it returns false'. Refute it at one input. -/
def bagSamesWrong : ChangeSpec := { name := "bagSames", fn := fun _ => fun
  | [d1, d2] => { results := [.lit (.bool false)], args := [d1, d2] }
  | _ => none }
def BagSamesWrongFalsely : Prop := bagSamesRow.holds Try.pinned (OpenSpec.ofChange bagSamesWrong)

/-- 'tumuluslaw12.BagTakes': WHATEVER THE INPUT: true; the input reads as it did. -/
def bagTakesSpec : ChangeSpec := { name := "bagTakes", fn := fun _ => fun
  | [d1, d2] => { results := [.lit (.bool true)], args := [d1, d2] }
  | _ => none }
def bagTakesRow : OpenClaim := { program := "ytbdbimnfknaakaa", sum := "a39e00c57a453d2c18e517f97c98092558a9f74ea0dc688d931d35499a9f0de5", func := "tumulus/tumuluslaw12.BagTakes", spec := "bagTakes", apart := false }
def BagTakesSaid : Prop := bagTakesRow.holds Try.pinned (OpenSpec.ofChange bagTakesSpec)

/-- ITS FALSE NEIGHBOUR: 'it returns false'. Refute it at one input. -/
def bagTakesWrong : ChangeSpec := { name := "bagTakes", fn := fun _ => fun
  | [d1, d2] => { results := [.lit (.bool false)], args := [d1, d2] }
  | _ => none }
def BagTakesWrongFalsely : Prop := bagTakesRow.holds Try.pinned (OpenSpec.ofChange bagTakesWrong)

/-- 'tumuluslaw12.BagNil': WHATEVER THE INPUT: true; the input reads as it did. -/
def bagNilSpec : ChangeSpec := { name := "bagNil", fn := fun _ => fun
  | [d] => { results := [.lit (.bool true)], args := [d] }
  | _ => none }
def bagNilRow : OpenClaim := { program := "ytbdbimnfknaakaa", sum := "a39e00c57a453d2c18e517f97c98092558a9f74ea0dc688d931d35499a9f0de5", func := "tumulus/tumuluslaw12.BagNil", spec := "bagNil", apart := false }
def BagNilSaid : Prop := bagNilRow.holds Try.pinned (OpenSpec.ofChange bagNilSpec)

/-- ITS FALSE NEIGHBOUR: 'it returns false'. Refute it at one input. -/
def bagNilWrong : ChangeSpec := { name := "bagNil", fn := fun _ => fun
  | [d] => { results := [.lit (.bool false)], args := [d] }
  | _ => none }
def BagNilWrongFalsely : Prop := bagNilRow.holds Try.pinned (OpenSpec.ofChange bagNilWrong)

/-- 'tumuluslaw12.BagDoubles': WHATEVER THE INPUT: true; the input reads as it did. -/
def bagDoublesSpec : ChangeSpec := { name := "bagDoubles", fn := fun _ => fun
  | [d1, d2] => { results := [.lit (.bool true)], args := [d1, d2] }
  | _ => none }
def bagDoublesRow : OpenClaim := { program := "ytbdbimnfknaakaa", sum := "a39e00c57a453d2c18e517f97c98092558a9f74ea0dc688d931d35499a9f0de5", func := "tumulus/tumuluslaw12.BagDoubles", spec := "bagDoubles", apart := false }
def BagDoublesSaid : Prop := bagDoublesRow.holds Try.pinned (OpenSpec.ofChange bagDoublesSpec)

/-- ITS FALSE NEIGHBOUR: 'it returns false'. Refute it at one input. -/
def bagDoublesWrong : ChangeSpec := { name := "bagDoubles", fn := fun _ => fun
  | [d1, d2] => { results := [.lit (.bool false)], args := [d1, d2] }
  | _ => none }
def BagDoublesWrongFalsely : Prop := bagDoublesRow.holds Try.pinned (OpenSpec.ofChange bagDoublesWrong)

/- THE SECOND FORM. 'bulk': how many values and letters a reading holds, each counted each time it is reached (what is shared counts as often as it is met; a slice's spare places count too). A statement '..UptoSaid' is the law's where the arguments, and the package variables that the reading takes, are together of bulk at most 1048576: NARROWER than '..Said'. Prove '..Said' where nothing that the law and all that it calls make is longer than what came in: it says more and counts as full. Else prove '..UptoSaid'. A law counts once. -/
mutual
def uptoBulk {H : Type} : DataW H → Nat
  | .lit (.string bytes) => bytes.length + 1
  | .lit _ => 1
  | .nil => 1
  | .ptr d => uptoBulk d + 1
  | .slice elems spare => uptoBulkAll elems + uptoBulkAll spare + 1
  | .agg parts => uptoBulkAll parts + 1
  | .iface _ d => uptoBulk d + 1
  | .map entries => uptoBulkEntries entries + 1
  | .held _ => 1
def uptoBulkAll {H : Type} : List (DataW H) → Nat
  | [] => 0
  | d :: r => uptoBulk d + uptoBulkAll r
def uptoBulkEntries {H : Type} : List (Lit × DataW H) → Nat
  | [] => 0
  | x :: r => uptoBulkEntry x + uptoBulkEntries r
def uptoBulkEntry {H : Type} : Lit × DataW H → Nat
  | (.string bytes, d) => bytes.length + uptoBulk d + 1
  | (_, d) => uptoBulk d + 1
 end
def uptoSmall : (H : Type) → List (DataW H) → Bool := fun _ ds => decide (uptoBulkAll ds ≤ 1048576)
def OpenSpec.upto (s : _root_.Go.ChangeSpec) : _root_.Go.OpenSpec := { _root_.Go.OpenSpec.ofChange s with cond := some uptoSmall }

/-- 'tumuluslaw12.BagRuns', WHERE WHAT IT READS IS OF BULK AT MOST 1048576: true; the input reads as it did. -/
def bagRunsUptoRow : OpenClaim := { program := "ytbdbimnfknaakaa", sum := "a39e00c57a453d2c18e517f97c98092558a9f74ea0dc688d931d35499a9f0de5", func := "tumulus/tumuluslaw12.BagRuns", spec := "bagRuns", apart := false, narrowed := true }
def BagRunsUptoSaid : Prop := bagRunsUptoRow.holds Try.pinned (OpenSpec.upto bagRunsSpec)

/-- 'tumuluslaw12.BagSames', WHERE WHAT IT READS IS OF BULK AT MOST 1048576: true; the input reads as it did. -/
def bagSamesUptoRow : OpenClaim := { program := "ytbdbimnfknaakaa", sum := "a39e00c57a453d2c18e517f97c98092558a9f74ea0dc688d931d35499a9f0de5", func := "tumulus/tumuluslaw12.BagSames", spec := "bagSames", apart := false, narrowed := true }
def BagSamesUptoSaid : Prop := bagSamesUptoRow.holds Try.pinned (OpenSpec.upto bagSamesSpec)

/-- 'tumuluslaw12.BagTakes', WHERE WHAT IT READS IS OF BULK AT MOST 1048576: true; the input reads as it did. -/
def bagTakesUptoRow : OpenClaim := { program := "ytbdbimnfknaakaa", sum := "a39e00c57a453d2c18e517f97c98092558a9f74ea0dc688d931d35499a9f0de5", func := "tumulus/tumuluslaw12.BagTakes", spec := "bagTakes", apart := false, narrowed := true }
def BagTakesUptoSaid : Prop := bagTakesUptoRow.holds Try.pinned (OpenSpec.upto bagTakesSpec)

/-- 'tumuluslaw12.BagNil', WHERE WHAT IT READS IS OF BULK AT MOST 1048576: true; the input reads as it did. -/
def bagNilUptoRow : OpenClaim := { program := "ytbdbimnfknaakaa", sum := "a39e00c57a453d2c18e517f97c98092558a9f74ea0dc688d931d35499a9f0de5", func := "tumulus/tumuluslaw12.BagNil", spec := "bagNil", apart := false, narrowed := true }
def BagNilUptoSaid : Prop := bagNilUptoRow.holds Try.pinned (OpenSpec.upto bagNilSpec)

/-- 'tumuluslaw12.BagDoubles', WHERE WHAT IT READS IS OF BULK AT MOST 1048576: true; the input reads as it did. -/
def bagDoublesUptoRow : OpenClaim := { program := "ytbdbimnfknaakaa", sum := "a39e00c57a453d2c18e517f97c98092558a9f74ea0dc688d931d35499a9f0de5", func := "tumulus/tumuluslaw12.BagDoubles", spec := "bagDoubles", apart := false, narrowed := true }
def BagDoublesUptoSaid : Prop := bagDoublesUptoRow.holds Try.pinned (OpenSpec.upto bagDoublesSpec)

end Rows
end Go.Proofs.Ytbdbimnfknaakaa
