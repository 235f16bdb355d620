/-
  No cell of these rows narrows 'for every input' (looked for: loops, veiled, ifaces, maps, wideKeys, modest, calm, conditions, laid).
  DERIVED. THE GIVEN ROWS OF THIS SEAT. 8 by the template 'for every input the law returns true; each argument reads behind the call as it read before'; 0 by the template 'total and deterministic' (their statements: YtlomahddominlaaTotals.lean).
  GIVEN WITH THE SEED: the statements are not yours to turn. If you find one false, say at which input.
  Laid BY PROGRAM, IN A SANDBOX (cutbox-rows.mjs): the forced cells as the released guide's own fill.sh prints them over the translation 6ab6648ccab2020e… (all of the seat's roots in one cut). By AI agents, Wed Nov 11 2026. No macro, syntax, notation, axiom, sorry.
-/
import Derived.Test.YtlomahddominlaaChecked
import GoSem.Claim
import GoSem.ClaimJoined
import GoSem.ClaimMapViews
import Derived.JoinedTies
import Derived.KernelRfl
namespace Go.Proofs.Ytlomahddominlaa
/- THE CELL 'sum', in the pinned program and in every row, IS THE sha256 OF THE DUMP (.gsa) THAT YtlomahddominlaaProg.lean LOADS. Nothing in Lean hashes anything: it is a label: what it is worth is what the hold of that sum in a sandbox is worth. -/
noncomputable def Try.pinned : Pinned := { name := "ytlomahddominlaa", sum := "6ab6648ccab2020e61ae1a28a0a68e2033a98b81d7873b3b27792098b29c3c21", checked := Try.checked }
namespace Rows
def none {H : Type} : Left H := { results := [], args := [] }

/-- 'tumuluslaw13.ViewsAsks': WHATEVER THE INPUT: true; the input reads as it did. -/
def viewsAsksSpec : ChangeSpec := { name := "viewsAsks", fn := fun _ => fun
  | [d1, d2, d3, d4] => { results := [.lit (.bool true)], args := [d1, d2, d3, d4] }
  | _ => none }
def viewsAsksRow : OpenClaim := { program := "ytlomahddominlaa", sum := "6ab6648ccab2020e61ae1a28a0a68e2033a98b81d7873b3b27792098b29c3c21", func := "tumulus/tumuluslaw13.ViewsAsks", spec := "viewsAsks", unfollowed := true, recurses := true, apart := false }
def ViewsAsksSaid : Prop := viewsAsksRow.holds Try.pinned (OpenSpec.ofChange viewsAsksSpec)

/-- ITS FALSE NEIGHBOUR: 'it returns false'. Refute it at one input. -/
def viewsAsksWrong : ChangeSpec := { name := "viewsAsks", fn := fun _ => fun
  | [d1, d2, d3, d4] => { results := [.lit (.bool false)], args := [d1, d2, d3, d4] }
  | _ => none }
def ViewsAsksWrongFalsely : Prop := viewsAsksRow.holds Try.pinned (OpenSpec.ofChange viewsAsksWrong)

/-- 'tumuluslaw13.ViewsMeet': WHATEVER THE INPUT: true; the input reads as it did. -/
def viewsMeetSpec : ChangeSpec := { name := "viewsMeet", fn := fun _ => fun
  | [d1, d2, d3] => { results := [.lit (.bool true)], args := [d1, d2, d3] }
  | _ => none }
def viewsMeetRow : OpenClaim := { program := "ytlomahddominlaa", sum := "6ab6648ccab2020e61ae1a28a0a68e2033a98b81d7873b3b27792098b29c3c21", func := "tumulus/tumuluslaw13.ViewsMeet", spec := "viewsMeet", unfollowed := true, recurses := true, apart := false }
def ViewsMeetSaid : Prop := viewsMeetRow.holds Try.pinned (OpenSpec.ofChange viewsMeetSpec)

/-- ITS FALSE NEIGHBOUR: 'it returns false'. Refute it at one input. -/
def viewsMeetWrong : ChangeSpec := { name := "viewsMeet", fn := fun _ => fun
  | [d1, d2, d3] => { results := [.lit (.bool false)], args := [d1, d2, d3] }
  | _ => none }
def ViewsMeetWrongFalsely : Prop := viewsMeetRow.holds Try.pinned (OpenSpec.ofChange viewsMeetWrong)

/-- 'tumuluslaw13.ViewsTurns': WHATEVER THE INPUT: true; the input reads as it did. -/
def viewsTurnsSpec : ChangeSpec := { name := "viewsTurns", fn := fun _ => fun
  | [d1, d2, d3] => { results := [.lit (.bool true)], args := [d1, d2, d3] }
  | _ => none }
def viewsTurnsRow : OpenClaim := { program := "ytlomahddominlaa", sum := "6ab6648ccab2020e61ae1a28a0a68e2033a98b81d7873b3b27792098b29c3c21", func := "tumulus/tumuluslaw13.ViewsTurns", spec := "viewsTurns", unfollowed := true, recurses := true, apart := false }
def ViewsTurnsSaid : Prop := viewsTurnsRow.holds Try.pinned (OpenSpec.ofChange viewsTurnsSpec)

/-- ITS FALSE NEIGHBOUR: 'it returns false'. Refute it at one input. -/
def viewsTurnsWrong : ChangeSpec := { name := "viewsTurns", fn := fun _ => fun
  | [d1, d2, d3] => { results := [.lit (.bool false)], args := [d1, d2, d3] }
  | _ => none }
def ViewsTurnsWrongFalsely : Prop := viewsTurnsRow.holds Try.pinned (OpenSpec.ofChange viewsTurnsWrong)

/-- 'tumuluslaw13.ViewsHalves': WHATEVER THE INPUT: true; the input reads as it did. -/
def viewsHalvesSpec : ChangeSpec := { name := "viewsHalves", fn := fun _ => fun
  | [d1, d2] => { results := [.lit (.bool true)], args := [d1, d2] }
  | _ => none }
def viewsHalvesRow : OpenClaim := { program := "ytlomahddominlaa", sum := "6ab6648ccab2020e61ae1a28a0a68e2033a98b81d7873b3b27792098b29c3c21", func := "tumulus/tumuluslaw13.ViewsHalves", spec := "viewsHalves", unfollowed := true, recurses := true, apart := false }
def ViewsHalvesSaid : Prop := viewsHalvesRow.holds Try.pinned (OpenSpec.ofChange viewsHalvesSpec)

/-- ITS FALSE NEIGHBOUR: 'it returns false'. Refute it at one input. -/
def viewsHalvesWrong : ChangeSpec := { name := "viewsHalves", fn := fun _ => fun
  | [d1, d2] => { results := [.lit (.bool false)], args := [d1, d2] }
  | _ => none }
def ViewsHalvesWrongFalsely : Prop := viewsHalvesRow.holds Try.pinned (OpenSpec.ofChange viewsHalvesWrong)

/-- 'tumuluslaw13.ViewsNext': WHATEVER THE INPUT: true; the input reads as it did. -/
def viewsNextSpec : ChangeSpec := { name := "viewsNext", fn := fun _ => fun
  | [d1, d2, d3] => { results := [.lit (.bool true)], args := [d1, d2, d3] }
  | _ => none }
def viewsNextRow : OpenClaim := { program := "ytlomahddominlaa", sum := "6ab6648ccab2020e61ae1a28a0a68e2033a98b81d7873b3b27792098b29c3c21", func := "tumulus/tumuluslaw13.ViewsNext", spec := "viewsNext", unfollowed := true, recurses := true, apart := false }
def ViewsNextSaid : Prop := viewsNextRow.holds Try.pinned (OpenSpec.ofChange viewsNextSpec)

/-- ITS FALSE NEIGHBOUR: 'it returns false'. Refute it at one input. -/
def viewsNextWrong : ChangeSpec := { name := "viewsNext", fn := fun _ => fun
  | [d1, d2, d3] => { results := [.lit (.bool false)], args := [d1, d2, d3] }
  | _ => none }
def ViewsNextWrongFalsely : Prop := viewsNextRow.holds Try.pinned (OpenSpec.ofChange viewsNextWrong)

/-- 'tumuluslaw13.ViewsBest': WHATEVER THE INPUT: true; the input reads as it did. -/
def viewsBestSpec : ChangeSpec := { name := "viewsBest", fn := fun _ => fun
  | [d] => { results := [.lit (.bool true)], args := [d] }
  | _ => none }
def viewsBestRow : OpenClaim := { program := "ytlomahddominlaa", sum := "6ab6648ccab2020e61ae1a28a0a68e2033a98b81d7873b3b27792098b29c3c21", func := "tumulus/tumuluslaw13.ViewsBest", spec := "viewsBest", unfollowed := true, recurses := true, apart := false }
def ViewsBestSaid : Prop := viewsBestRow.holds Try.pinned (OpenSpec.ofChange viewsBestSpec)

/-- ITS FALSE NEIGHBOUR: 'it returns false'. Refute it at one input. -/
def viewsBestWrong : ChangeSpec := { name := "viewsBest", fn := fun _ => fun
  | [d] => { results := [.lit (.bool false)], args := [d] }
  | _ => none }
def ViewsBestWrongFalsely : Prop := viewsBestRow.holds Try.pinned (OpenSpec.ofChange viewsBestWrong)

/-- 'tumuluslaw13.ViewsSure': WHATEVER THE INPUT: true; the input reads as it did. -/
def viewsSureSpec : ChangeSpec := { name := "viewsSure", fn := fun _ => fun
  | [d1, d2, d3] => { results := [.lit (.bool true)], args := [d1, d2, d3] }
  | _ => none }
def viewsSureRow : OpenClaim := { program := "ytlomahddominlaa", sum := "6ab6648ccab2020e61ae1a28a0a68e2033a98b81d7873b3b27792098b29c3c21", func := "tumulus/tumuluslaw13.ViewsSure", spec := "viewsSure", unfollowed := true, recurses := true, apart := false }
def ViewsSureSaid : Prop := viewsSureRow.holds Try.pinned (OpenSpec.ofChange viewsSureSpec)

/-- ITS FALSE NEIGHBOUR: 'it returns false'. Refute it at one input. -/
def viewsSureWrong : ChangeSpec := { name := "viewsSure", fn := fun _ => fun
  | [d1, d2, d3] => { results := [.lit (.bool false)], args := [d1, d2, d3] }
  | _ => none }
def ViewsSureWrongFalsely : Prop := viewsSureRow.holds Try.pinned (OpenSpec.ofChange viewsSureWrong)

/-- 'tumuluslaw13.ViewsHave': WHATEVER THE INPUT: true; the input reads as it did. -/
def viewsHaveSpec : ChangeSpec := { name := "viewsHave", fn := fun _ => fun
  | [d1, d2, d3, d4] => { results := [.lit (.bool true)], args := [d1, d2, d3, d4] }
  | _ => none }
def viewsHaveRow : OpenClaim := { program := "ytlomahddominlaa", sum := "6ab6648ccab2020e61ae1a28a0a68e2033a98b81d7873b3b27792098b29c3c21", func := "tumulus/tumuluslaw13.ViewsHave", spec := "viewsHave", unfollowed := true, recurses := true, apart := false }
def ViewsHaveSaid : Prop := viewsHaveRow.holds Try.pinned (OpenSpec.ofChange viewsHaveSpec)

/-- ITS FALSE NEIGHBOUR: 'it returns false'. Refute it at one input. -/
def viewsHaveWrong : ChangeSpec := { name := "viewsHave", fn := fun _ => fun
  | [d1, d2, d3, d4] => { results := [.lit (.bool false)], args := [d1, d2, d3, d4] }
  | _ => none }
def ViewsHaveWrongFalsely : Prop := viewsHaveRow.holds Try.pinned (OpenSpec.ofChange viewsHaveWrong)

/- THE SECOND FORM. 'bulk': how many values and letters a reading holds, each counted each time it is reached (what is shared counts as often as it is met; a slice's spare places count too). A statement '..UptoSaid' is the law's where the arguments, and the package variables that the reading takes, are together of bulk at most 1048576: NARROWER than '..Said'. Prove '..Said' where nothing that the law and all that it calls make is longer than what came in: it says more and counts as full. Else prove '..UptoSaid'. A law counts once. -/
mutual
def uptoBulk {H : Type} : DataW H → Nat
  | .lit (.string bytes) => bytes.length + 1
  | .lit _ => 1
  | .nil => 1
  | .ptr d => uptoBulk d + 1
  | .slice elems spare => uptoBulkAll elems + uptoBulkAll spare + 1
  | .agg parts => uptoBulkAll parts + 1
  | .iface _ d => uptoBulk d + 1
  | .map entries => uptoBulkEntries entries + 1
  | .held _ => 1
def uptoBulkAll {H : Type} : List (DataW H) → Nat
  | [] => 0
  | d :: r => uptoBulk d + uptoBulkAll r
def uptoBulkEntries {H : Type} : List (Lit × DataW H) → Nat
  | [] => 0
  | x :: r => uptoBulkEntry x + uptoBulkEntries r
def uptoBulkEntry {H : Type} : Lit × DataW H → Nat
  | (.string bytes, d) => bytes.length + uptoBulk d + 1
  | (_, d) => uptoBulk d + 1
 end
def uptoSmall : (H : Type) → List (DataW H) → Bool := fun _ ds => decide (uptoBulkAll ds ≤ 1048576)
def OpenSpec.upto (s : _root_.Go.ChangeSpec) : _root_.Go.OpenSpec := { _root_.Go.OpenSpec.ofChange s with cond := some uptoSmall }

/-- 'tumuluslaw13.ViewsAsks', WHERE WHAT IT READS IS OF BULK AT MOST 1048576: true; the input reads as it did. -/
def viewsAsksUptoRow : OpenClaim := { program := "ytlomahddominlaa", sum := "6ab6648ccab2020e61ae1a28a0a68e2033a98b81d7873b3b27792098b29c3c21", func := "tumulus/tumuluslaw13.ViewsAsks", spec := "viewsAsks", unfollowed := true, recurses := true, apart := false, narrowed := true }
def ViewsAsksUptoSaid : Prop := viewsAsksUptoRow.holds Try.pinned (OpenSpec.upto viewsAsksSpec)

/-- 'tumuluslaw13.ViewsMeet', WHERE WHAT IT READS IS OF BULK AT MOST 1048576: true; the input reads as it did. -/
def viewsMeetUptoRow : OpenClaim := { program := "ytlomahddominlaa", sum := "6ab6648ccab2020e61ae1a28a0a68e2033a98b81d7873b3b27792098b29c3c21", func := "tumulus/tumuluslaw13.ViewsMeet", spec := "viewsMeet", unfollowed := true, recurses := true, apart := false, narrowed := true }
def ViewsMeetUptoSaid : Prop := viewsMeetUptoRow.holds Try.pinned (OpenSpec.upto viewsMeetSpec)

/-- 'tumuluslaw13.ViewsTurns', WHERE WHAT IT READS IS OF BULK AT MOST 1048576: true; the input reads as it did. -/
def viewsTurnsUptoRow : OpenClaim := { program := "ytlomahddominlaa", sum := "6ab6648ccab2020e61ae1a28a0a68e2033a98b81d7873b3b27792098b29c3c21", func := "tumulus/tumuluslaw13.ViewsTurns", spec := "viewsTurns", unfollowed := true, recurses := true, apart := false, narrowed := true }
def ViewsTurnsUptoSaid : Prop := viewsTurnsUptoRow.holds Try.pinned (OpenSpec.upto viewsTurnsSpec)

/-- 'tumuluslaw13.ViewsHalves', WHERE WHAT IT READS IS OF BULK AT MOST 1048576: true; the input reads as it did. -/
def viewsHalvesUptoRow : OpenClaim := { program := "ytlomahddominlaa", sum := "6ab6648ccab2020e61ae1a28a0a68e2033a98b81d7873b3b27792098b29c3c21", func := "tumulus/tumuluslaw13.ViewsHalves", spec := "viewsHalves", unfollowed := true, recurses := true, apart := false, narrowed := true }
def ViewsHalvesUptoSaid : Prop := viewsHalvesUptoRow.holds Try.pinned (OpenSpec.upto viewsHalvesSpec)

/-- 'tumuluslaw13.ViewsNext', WHERE WHAT IT READS IS OF BULK AT MOST 1048576: true; the input reads as it did. -/
def viewsNextUptoRow : OpenClaim := { program := "ytlomahddominlaa", sum := "6ab6648ccab2020e61ae1a28a0a68e2033a98b81d7873b3b27792098b29c3c21", func := "tumulus/tumuluslaw13.ViewsNext", spec := "viewsNext", unfollowed := true, recurses := true, apart := false, narrowed := true }
def ViewsNextUptoSaid : Prop := viewsNextUptoRow.holds Try.pinned (OpenSpec.upto viewsNextSpec)

/-- 'tumuluslaw13.ViewsBest', WHERE WHAT IT READS IS OF BULK AT MOST 1048576: true; the input reads as it did. -/
def viewsBestUptoRow : OpenClaim := { program := "ytlomahddominlaa", sum := "6ab6648ccab2020e61ae1a28a0a68e2033a98b81d7873b3b27792098b29c3c21", func := "tumulus/tumuluslaw13.ViewsBest", spec := "viewsBest", unfollowed := true, recurses := true, apart := false, narrowed := true }
def ViewsBestUptoSaid : Prop := viewsBestUptoRow.holds Try.pinned (OpenSpec.upto viewsBestSpec)

/-- 'tumuluslaw13.ViewsSure', WHERE WHAT IT READS IS OF BULK AT MOST 1048576: true; the input reads as it did. -/
def viewsSureUptoRow : OpenClaim := { program := "ytlomahddominlaa", sum := "6ab6648ccab2020e61ae1a28a0a68e2033a98b81d7873b3b27792098b29c3c21", func := "tumulus/tumuluslaw13.ViewsSure", spec := "viewsSure", unfollowed := true, recurses := true, apart := false, narrowed := true }
def ViewsSureUptoSaid : Prop := viewsSureUptoRow.holds Try.pinned (OpenSpec.upto viewsSureSpec)

/-- 'tumuluslaw13.ViewsHave', WHERE WHAT IT READS IS OF BULK AT MOST 1048576: true; the input reads as it did. -/
def viewsHaveUptoRow : OpenClaim := { program := "ytlomahddominlaa", sum := "6ab6648ccab2020e61ae1a28a0a68e2033a98b81d7873b3b27792098b29c3c21", func := "tumulus/tumuluslaw13.ViewsHave", spec := "viewsHave", unfollowed := true, recurses := true, apart := false, narrowed := true }
def ViewsHaveUptoSaid : Prop := viewsHaveUptoRow.holds Try.pinned (OpenSpec.upto viewsHaveSpec)

end Rows
end Go.Proofs.Ytlomahddominlaa
