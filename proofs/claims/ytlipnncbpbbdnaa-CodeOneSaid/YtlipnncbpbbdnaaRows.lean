/-
  No cell of these rows narrows 'for every input' (looked for: loops, veiled, ifaces, maps, wideKeys, modest, calm, conditions, laid).
  DERIVED. THE GIVEN ROWS OF THIS SEAT. 9 by the template 'for every input the law returns true; each argument reads behind the call as it read before'; 0 by the template 'total and deterministic' (their statements: YtlipnncbpbbdnaaTotals.lean).
  GIVEN WITH THE SEED: the statements are not yours to turn. If you find one false, say at which input.
  Laid BY PROGRAM, IN A SANDBOX (cutbox-rows.mjs): the forced cells as the released guide's own fill.sh prints them over the translation af1a89a177db0ee9… (all of the seat's roots in one cut). By AI agents, Wed Nov 11 2026. No macro, syntax, notation, axiom, sorry.
-/
import Derived.Test.YtlipnncbpbbdnaaChecked
import GoSem.Claim
import GoSem.ClaimJoined
import GoSem.ClaimMapViews
import Derived.JoinedTies
import Derived.KernelRfl
namespace Go.Proofs.Ytlipnncbpbbdnaa
/- THE CELL 'sum', in the pinned program and in every row, IS THE sha256 OF THE DUMP (.gsa) THAT YtlipnncbpbbdnaaProg.lean LOADS. Nothing in Lean hashes anything: it is a label: what it is worth is what the hold of that sum in a sandbox is worth. -/
noncomputable def Try.pinned : Pinned := { name := "ytlipnncbpbbdnaa", sum := "af1a89a177db0ee9cfa962f31081d9b257243bbfe6e1d4494ae4044356fb98ac", checked := Try.checked }
namespace Rows
def none {H : Type} : Left H := { results := [], args := [] }

/-- 'tumuluslaw01.CodeNumbers': WHATEVER THE INPUT: true; the input reads as it did. -/
def codeNumbersSpec : ChangeSpec := { name := "codeNumbers", fn := fun _ => fun
  | [d1, d2] => { results := [.lit (.bool true)], args := [d1, d2] }
  | _ => none }
def codeNumbersRow : OpenClaim := { program := "ytlipnncbpbbdnaa", sum := "af1a89a177db0ee9cfa962f31081d9b257243bbfe6e1d4494ae4044356fb98ac", func := "tumulus/tumuluslaw01.CodeNumbers", spec := "codeNumbers", apart := false }
def CodeNumbersSaid : Prop := codeNumbersRow.holds Try.pinned (OpenSpec.ofChange codeNumbersSpec)

/-- ITS FALSE NEIGHBOUR: 'it returns false'. Refute it at one input. -/
def codeNumbersWrong : ChangeSpec := { name := "codeNumbers", fn := fun _ => fun
  | [d1, d2] => { results := [.lit (.bool false)], args := [d1, d2] }
  | _ => none }
def CodeNumbersWrongFalsely : Prop := codeNumbersRow.holds Try.pinned (OpenSpec.ofChange codeNumbersWrong)

/-- 'tumuluslaw01.CodeTexts': WHATEVER THE INPUT: true; the input reads as it did. -/
def codeTextsSpec : ChangeSpec := { name := "codeTexts", fn := fun _ => fun
  | [d1, d2] => { results := [.lit (.bool true)], args := [d1, d2] }
  | _ => none }
def codeTextsRow : OpenClaim := { program := "ytlipnncbpbbdnaa", sum := "af1a89a177db0ee9cfa962f31081d9b257243bbfe6e1d4494ae4044356fb98ac", func := "tumulus/tumuluslaw01.CodeTexts", spec := "codeTexts", apart := false }
def CodeTextsSaid : Prop := codeTextsRow.holds Try.pinned (OpenSpec.ofChange codeTextsSpec)

/-- ITS FALSE NEIGHBOUR: 'it returns false'. Refute it at one input. -/
def codeTextsWrong : ChangeSpec := { name := "codeTexts", fn := fun _ => fun
  | [d1, d2] => { results := [.lit (.bool false)], args := [d1, d2] }
  | _ => none }
def CodeTextsWrongFalsely : Prop := codeTextsRow.holds Try.pinned (OpenSpec.ofChange codeTextsWrong)

/-- 'tumuluslaw01.CodeInts': WHATEVER THE INPUT: true; the input reads as it did. -/
def codeIntsSpec : ChangeSpec := { name := "codeInts", fn := fun _ => fun
  | [d1, d2] => { results := [.lit (.bool true)], args := [d1, d2] }
  | _ => none }
def codeIntsRow : OpenClaim := { program := "ytlipnncbpbbdnaa", sum := "af1a89a177db0ee9cfa962f31081d9b257243bbfe6e1d4494ae4044356fb98ac", func := "tumulus/tumuluslaw01.CodeInts", spec := "codeInts", apart := false }
def CodeIntsSaid : Prop := codeIntsRow.holds Try.pinned (OpenSpec.ofChange codeIntsSpec)

/-- ITS FALSE NEIGHBOUR: 'it returns false'. Refute it at one input. -/
def codeIntsWrong : ChangeSpec := { name := "codeInts", fn := fun _ => fun
  | [d1, d2] => { results := [.lit (.bool false)], args := [d1, d2] }
  | _ => none }
def CodeIntsWrongFalsely : Prop := codeIntsRow.holds Try.pinned (OpenSpec.ofChange codeIntsWrong)

/-- 'tumuluslaw01.CodeRises': WHATEVER THE INPUT: true; the input reads as it did. -/
def codeRisesSpec : ChangeSpec := { name := "codeRises", fn := fun _ => fun
  | [d1, d2] => { results := [.lit (.bool true)], args := [d1, d2] }
  | _ => none }
def codeRisesRow : OpenClaim := { program := "ytlipnncbpbbdnaa", sum := "af1a89a177db0ee9cfa962f31081d9b257243bbfe6e1d4494ae4044356fb98ac", func := "tumulus/tumuluslaw01.CodeRises", spec := "codeRises", apart := false }
def CodeRisesSaid : Prop := codeRisesRow.holds Try.pinned (OpenSpec.ofChange codeRisesSpec)

/-- ITS FALSE NEIGHBOUR: 'it returns false'. Refute it at one input. -/
def codeRisesWrong : ChangeSpec := { name := "codeRises", fn := fun _ => fun
  | [d1, d2] => { results := [.lit (.bool false)], args := [d1, d2] }
  | _ => none }
def CodeRisesWrongFalsely : Prop := codeRisesRow.holds Try.pinned (OpenSpec.ofChange codeRisesWrong)

/-- 'tumuluslaw01.CodeReads': WHATEVER THE INPUT: true; the input reads as it did. -/
def codeReadsSpec : ChangeSpec := { name := "codeReads", fn := fun _ => fun
  | [d1, d2] => { results := [.lit (.bool true)], args := [d1, d2] }
  | _ => none }
def codeReadsRow : OpenClaim := { program := "ytlipnncbpbbdnaa", sum := "af1a89a177db0ee9cfa962f31081d9b257243bbfe6e1d4494ae4044356fb98ac", func := "tumulus/tumuluslaw01.CodeReads", spec := "codeReads", unfollowed := true, recurses := true, apart := false }
def CodeReadsSaid : Prop := codeReadsRow.holds Try.pinned (OpenSpec.ofChange codeReadsSpec)

/-- ITS FALSE NEIGHBOUR: 'it returns false'. Refute it at one input. -/
def codeReadsWrong : ChangeSpec := { name := "codeReads", fn := fun _ => fun
  | [d1, d2] => { results := [.lit (.bool false)], args := [d1, d2] }
  | _ => none }
def CodeReadsWrongFalsely : Prop := codeReadsRow.holds Try.pinned (OpenSpec.ofChange codeReadsWrong)

/-- 'tumuluslaw01.CodeNil': WHATEVER THE INPUT: true; the input reads as it did. -/
def codeNilSpec : ChangeSpec := { name := "codeNil", fn := fun _ => fun
  | [d] => { results := [.lit (.bool true)], args := [d] }
  | _ => none }
def codeNilRow : OpenClaim := { program := "ytlipnncbpbbdnaa", sum := "af1a89a177db0ee9cfa962f31081d9b257243bbfe6e1d4494ae4044356fb98ac", func := "tumulus/tumuluslaw01.CodeNil", spec := "codeNil", unfollowed := true, recurses := true, apart := false }
def CodeNilSaid : Prop := codeNilRow.holds Try.pinned (OpenSpec.ofChange codeNilSpec)

/-- ITS FALSE NEIGHBOUR: 'it returns false'. Refute it at one input. -/
def codeNilWrong : ChangeSpec := { name := "codeNil", fn := fun _ => fun
  | [d] => { results := [.lit (.bool false)], args := [d] }
  | _ => none }
def CodeNilWrongFalsely : Prop := codeNilRow.holds Try.pinned (OpenSpec.ofChange codeNilWrong)

/-- 'tumuluslaw01.CodeRows': WHATEVER THE INPUT: true; the input reads as it did. -/
def codeRowsSpec : ChangeSpec := { name := "codeRows", fn := fun _ => fun
  | [d] => { results := [.lit (.bool true)], args := [d] }
  | _ => none }
def codeRowsRow : OpenClaim := { program := "ytlipnncbpbbdnaa", sum := "af1a89a177db0ee9cfa962f31081d9b257243bbfe6e1d4494ae4044356fb98ac", func := "tumulus/tumuluslaw01.CodeRows", spec := "codeRows", unfollowed := true, recurses := true, apart := false }
def CodeRowsSaid : Prop := codeRowsRow.holds Try.pinned (OpenSpec.ofChange codeRowsSpec)

/-- ITS FALSE NEIGHBOUR: 'it returns false'. Refute it at one input. -/
def codeRowsWrong : ChangeSpec := { name := "codeRows", fn := fun _ => fun
  | [d] => { results := [.lit (.bool false)], args := [d] }
  | _ => none }
def CodeRowsWrongFalsely : Prop := codeRowsRow.holds Try.pinned (OpenSpec.ofChange codeRowsWrong)

/-- 'tumuluslaw01.CodeBack': WHATEVER THE INPUT: true; the input reads as it did. -/
def codeBackSpec : ChangeSpec := { name := "codeBack", fn := fun _ => fun
  | [d1, d2, d3, d4] => { results := [.lit (.bool true)], args := [d1, d2, d3, d4] }
  | _ => none }
def codeBackRow : OpenClaim := { program := "ytlipnncbpbbdnaa", sum := "af1a89a177db0ee9cfa962f31081d9b257243bbfe6e1d4494ae4044356fb98ac", func := "tumulus/tumuluslaw01.CodeBack", spec := "codeBack", unfollowed := true, recurses := true, apart := false }
def CodeBackSaid : Prop := codeBackRow.holds Try.pinned (OpenSpec.ofChange codeBackSpec)

/-- ITS FALSE NEIGHBOUR: 'it returns false'. Refute it at one input. -/
def codeBackWrong : ChangeSpec := { name := "codeBack", fn := fun _ => fun
  | [d1, d2, d3, d4] => { results := [.lit (.bool false)], args := [d1, d2, d3, d4] }
  | _ => none }
def CodeBackWrongFalsely : Prop := codeBackRow.holds Try.pinned (OpenSpec.ofChange codeBackWrong)

/-- 'tumuluslaw01.CodeOne': WHATEVER THE INPUT: true; the input reads as it did. -/
def codeOneSpec : ChangeSpec := { name := "codeOne", fn := fun _ => fun
  | [d] => { results := [.lit (.bool true)], args := [d] }
  | _ => none }
def codeOneRow : OpenClaim := { program := "ytlipnncbpbbdnaa", sum := "af1a89a177db0ee9cfa962f31081d9b257243bbfe6e1d4494ae4044356fb98ac", func := "tumulus/tumuluslaw01.CodeOne", spec := "codeOne", unfollowed := true, recurses := true, apart := false }
def CodeOneSaid : Prop := codeOneRow.holds Try.pinned (OpenSpec.ofChange codeOneSpec)

/-- ITS FALSE NEIGHBOUR: 'it returns false'. Refute it at one input. -/
def codeOneWrong : ChangeSpec := { name := "codeOne", fn := fun _ => fun
  | [d] => { results := [.lit (.bool false)], args := [d] }
  | _ => none }
def CodeOneWrongFalsely : Prop := codeOneRow.holds Try.pinned (OpenSpec.ofChange codeOneWrong)

/- THE SECOND FORM. 'bulk': how many values and letters a reading holds, each counted each time it is reached (what is shared counts as often as it is met; a slice's spare places count too). A statement '..UptoSaid' is the law's where the arguments, and the package variables that the reading takes, are together of bulk at most 1048576: NARROWER than '..Said'. Prove '..Said' where nothing that the law and all that it calls make is longer than what came in: it says more and counts as full. Else prove '..UptoSaid'. A law counts once. -/
mutual
def uptoBulk {H : Type} : DataW H → Nat
  | .lit (.string bytes) => bytes.length + 1
  | .lit _ => 1
  | .nil => 1
  | .ptr d => uptoBulk d + 1
  | .slice elems spare => uptoBulkAll elems + uptoBulkAll spare + 1
  | .agg parts => uptoBulkAll parts + 1
  | .iface _ d => uptoBulk d + 1
  | .map entries => uptoBulkEntries entries + 1
  | .held _ => 1
def uptoBulkAll {H : Type} : List (DataW H) → Nat
  | [] => 0
  | d :: r => uptoBulk d + uptoBulkAll r
def uptoBulkEntries {H : Type} : List (Lit × DataW H) → Nat
  | [] => 0
  | x :: r => uptoBulkEntry x + uptoBulkEntries r
def uptoBulkEntry {H : Type} : Lit × DataW H → Nat
  | (.string bytes, d) => bytes.length + uptoBulk d + 1
  | (_, d) => uptoBulk d + 1
 end
def uptoSmall : (H : Type) → List (DataW H) → Bool := fun _ ds => decide (uptoBulkAll ds ≤ 1048576)
def OpenSpec.upto (s : _root_.Go.ChangeSpec) : _root_.Go.OpenSpec := { _root_.Go.OpenSpec.ofChange s with cond := some uptoSmall }

/-- 'tumuluslaw01.CodeNumbers', WHERE WHAT IT READS IS OF BULK AT MOST 1048576: true; the input reads as it did. -/
def codeNumbersUptoRow : OpenClaim := { program := "ytlipnncbpbbdnaa", sum := "af1a89a177db0ee9cfa962f31081d9b257243bbfe6e1d4494ae4044356fb98ac", func := "tumulus/tumuluslaw01.CodeNumbers", spec := "codeNumbers", apart := false, narrowed := true }
def CodeNumbersUptoSaid : Prop := codeNumbersUptoRow.holds Try.pinned (OpenSpec.upto codeNumbersSpec)

/-- 'tumuluslaw01.CodeTexts', WHERE WHAT IT READS IS OF BULK AT MOST 1048576: true; the input reads as it did. -/
def codeTextsUptoRow : OpenClaim := { program := "ytlipnncbpbbdnaa", sum := "af1a89a177db0ee9cfa962f31081d9b257243bbfe6e1d4494ae4044356fb98ac", func := "tumulus/tumuluslaw01.CodeTexts", spec := "codeTexts", apart := false, narrowed := true }
def CodeTextsUptoSaid : Prop := codeTextsUptoRow.holds Try.pinned (OpenSpec.upto codeTextsSpec)

/-- 'tumuluslaw01.CodeInts', WHERE WHAT IT READS IS OF BULK AT MOST 1048576: true; the input reads as it did. -/
def codeIntsUptoRow : OpenClaim := { program := "ytlipnncbpbbdnaa", sum := "af1a89a177db0ee9cfa962f31081d9b257243bbfe6e1d4494ae4044356fb98ac", func := "tumulus/tumuluslaw01.CodeInts", spec := "codeInts", apart := false, narrowed := true }
def CodeIntsUptoSaid : Prop := codeIntsUptoRow.holds Try.pinned (OpenSpec.upto codeIntsSpec)

/-- 'tumuluslaw01.CodeRises', WHERE WHAT IT READS IS OF BULK AT MOST 1048576: true; the input reads as it did. -/
def codeRisesUptoRow : OpenClaim := { program := "ytlipnncbpbbdnaa", sum := "af1a89a177db0ee9cfa962f31081d9b257243bbfe6e1d4494ae4044356fb98ac", func := "tumulus/tumuluslaw01.CodeRises", spec := "codeRises", apart := false, narrowed := true }
def CodeRisesUptoSaid : Prop := codeRisesUptoRow.holds Try.pinned (OpenSpec.upto codeRisesSpec)

/-- 'tumuluslaw01.CodeReads', WHERE WHAT IT READS IS OF BULK AT MOST 1048576: true; the input reads as it did. -/
def codeReadsUptoRow : OpenClaim := { program := "ytlipnncbpbbdnaa", sum := "af1a89a177db0ee9cfa962f31081d9b257243bbfe6e1d4494ae4044356fb98ac", func := "tumulus/tumuluslaw01.CodeReads", spec := "codeReads", unfollowed := true, recurses := true, apart := false, narrowed := true }
def CodeReadsUptoSaid : Prop := codeReadsUptoRow.holds Try.pinned (OpenSpec.upto codeReadsSpec)

/-- 'tumuluslaw01.CodeNil', WHERE WHAT IT READS IS OF BULK AT MOST 1048576: true; the input reads as it did. -/
def codeNilUptoRow : OpenClaim := { program := "ytlipnncbpbbdnaa", sum := "af1a89a177db0ee9cfa962f31081d9b257243bbfe6e1d4494ae4044356fb98ac", func := "tumulus/tumuluslaw01.CodeNil", spec := "codeNil", unfollowed := true, recurses := true, apart := false, narrowed := true }
def CodeNilUptoSaid : Prop := codeNilUptoRow.holds Try.pinned (OpenSpec.upto codeNilSpec)

/-- 'tumuluslaw01.CodeRows', WHERE WHAT IT READS IS OF BULK AT MOST 1048576: true; the input reads as it did. -/
def codeRowsUptoRow : OpenClaim := { program := "ytlipnncbpbbdnaa", sum := "af1a89a177db0ee9cfa962f31081d9b257243bbfe6e1d4494ae4044356fb98ac", func := "tumulus/tumuluslaw01.CodeRows", spec := "codeRows", unfollowed := true, recurses := true, apart := false, narrowed := true }
def CodeRowsUptoSaid : Prop := codeRowsUptoRow.holds Try.pinned (OpenSpec.upto codeRowsSpec)

/-- 'tumuluslaw01.CodeBack', WHERE WHAT IT READS IS OF BULK AT MOST 1048576: true; the input reads as it did. -/
def codeBackUptoRow : OpenClaim := { program := "ytlipnncbpbbdnaa", sum := "af1a89a177db0ee9cfa962f31081d9b257243bbfe6e1d4494ae4044356fb98ac", func := "tumulus/tumuluslaw01.CodeBack", spec := "codeBack", unfollowed := true, recurses := true, apart := false, narrowed := true }
def CodeBackUptoSaid : Prop := codeBackUptoRow.holds Try.pinned (OpenSpec.upto codeBackSpec)

/-- 'tumuluslaw01.CodeOne', WHERE WHAT IT READS IS OF BULK AT MOST 1048576: true; the input reads as it did. -/
def codeOneUptoRow : OpenClaim := { program := "ytlipnncbpbbdnaa", sum := "af1a89a177db0ee9cfa962f31081d9b257243bbfe6e1d4494ae4044356fb98ac", func := "tumulus/tumuluslaw01.CodeOne", spec := "codeOne", unfollowed := true, recurses := true, apart := false, narrowed := true }
def CodeOneUptoSaid : Prop := codeOneUptoRow.holds Try.pinned (OpenSpec.upto codeOneSpec)

end Rows
end Go.Proofs.Ytlipnncbpbbdnaa
