/-
  No cell of these rows narrows 'for every input' (looked for: loops, veiled, ifaces, maps, wideKeys, modest, calm, conditions, laid).
  DERIVED. THE GIVEN ROWS OF THIS SEAT. 5 by the template 'for every input the law returns true; each argument reads behind the call as it read before'; 0 by the template 'total and deterministic' (their statements: YtmddpjdgnamlnaaTotals.lean).
  GIVEN WITH THE SEED: the statements are not yours to turn. If you find one false, say at which input.
  Laid BY PROGRAM, IN A SANDBOX (cutbox-rows.mjs): the forced cells as the released guide's own fill.sh prints them over the translation 3bfa84f06d1d7603… (all of the seat's roots in one cut). By AI agents, Wed Nov 11 2026. No macro, syntax, notation, axiom, sorry.
-/
import Derived.Test.YtmddpjdgnamlnaaChecked
import GoSem.Claim
import GoSem.ClaimJoined
import GoSem.ClaimMapViews
import Derived.JoinedTies
import Derived.KernelRfl
namespace Go.Proofs.Ytmddpjdgnamlnaa
/- THE CELL 'sum', in the pinned program and in every row, IS THE sha256 OF THE DUMP (.gsa) THAT YtmddpjdgnamlnaaProg.lean LOADS. Nothing in Lean hashes anything: it is a label: what it is worth is what the hold of that sum in a sandbox is worth. -/
noncomputable def Try.pinned : Pinned := { name := "ytmddpjdgnamlnaa", sum := "3bfa84f06d1d76031c56d77fe2fe9c62d69628432b3bea96f2dbd53e14c961fd", checked := Try.checked }
namespace Rows
def none {H : Type} : Left H := { results := [], args := [] }

/-- 'tumuluslaw07.PdiskWhole': WHATEVER THE INPUT: true; the input reads as it did. -/
def pdiskWholeSpec : ChangeSpec := { name := "pdiskWhole", fn := fun _ => fun
  | [d1, d2] => { results := [.lit (.bool true)], args := [d1, d2] }
  | _ => none }
def pdiskWholeRow : OpenClaim := { program := "ytmddpjdgnamlnaa", sum := "3bfa84f06d1d76031c56d77fe2fe9c62d69628432b3bea96f2dbd53e14c961fd", func := "tumulus/tumuluslaw07.PdiskWhole", spec := "pdiskWhole", unfollowed := true, recurses := true, apart := false }
def PdiskWholeSaid : Prop := pdiskWholeRow.holds Try.pinned (OpenSpec.ofChange pdiskWholeSpec)

/-- ITS FALSE NEIGHBOUR: 'it returns false'. Refute it at one input. -/
def pdiskWholeWrong : ChangeSpec := { name := "pdiskWhole", fn := fun _ => fun
  | [d1, d2] => { results := [.lit (.bool false)], args := [d1, d2] }
  | _ => none }
def PdiskWholeWrongFalsely : Prop := pdiskWholeRow.holds Try.pinned (OpenSpec.ofChange pdiskWholeWrong)

/-- 'tumuluslaw07.PdiskApart': WHATEVER THE INPUT: true; the input reads as it did. -/
def pdiskApartSpec : ChangeSpec := { name := "pdiskApart", fn := fun _ => fun
  | [d1, d2, d3] => { results := [.lit (.bool true)], args := [d1, d2, d3] }
  | _ => none }
def pdiskApartRow : OpenClaim := { program := "ytmddpjdgnamlnaa", sum := "3bfa84f06d1d76031c56d77fe2fe9c62d69628432b3bea96f2dbd53e14c961fd", func := "tumulus/tumuluslaw07.PdiskApart", spec := "pdiskApart", unfollowed := true, recurses := true, apart := false }
def PdiskApartSaid : Prop := pdiskApartRow.holds Try.pinned (OpenSpec.ofChange pdiskApartSpec)

/-- ITS FALSE NEIGHBOUR: 'it returns false'. Refute it at one input. -/
def pdiskApartWrong : ChangeSpec := { name := "pdiskApart", fn := fun _ => fun
  | [d1, d2, d3] => { results := [.lit (.bool false)], args := [d1, d2, d3] }
  | _ => none }
def PdiskApartWrongFalsely : Prop := pdiskApartRow.holds Try.pinned (OpenSpec.ofChange pdiskApartWrong)

/-- 'tumuluslaw07.PdiskFlushed': WHATEVER THE INPUT: true; the input reads as it did. -/
def pdiskFlushedSpec : ChangeSpec := { name := "pdiskFlushed", fn := fun _ => fun
  | [d1, d2, d3, d4, d5, d6] => { results := [.lit (.bool true)], args := [d1, d2, d3, d4, d5, d6] }
  | _ => none }
def pdiskFlushedRow : OpenClaim := { program := "ytmddpjdgnamlnaa", sum := "3bfa84f06d1d76031c56d77fe2fe9c62d69628432b3bea96f2dbd53e14c961fd", func := "tumulus/tumuluslaw07.PdiskFlushed", spec := "pdiskFlushed", unfollowed := true, recurses := true, apart := false }
def PdiskFlushedSaid : Prop := pdiskFlushedRow.holds Try.pinned (OpenSpec.ofChange pdiskFlushedSpec)

/-- ITS FALSE NEIGHBOUR: 'it returns false'. Refute it at one input. -/
def pdiskFlushedWrong : ChangeSpec := { name := "pdiskFlushed", fn := fun _ => fun
  | [d1, d2, d3, d4, d5, d6] => { results := [.lit (.bool false)], args := [d1, d2, d3, d4, d5, d6] }
  | _ => none }
def PdiskFlushedWrongFalsely : Prop := pdiskFlushedRow.holds Try.pinned (OpenSpec.ofChange pdiskFlushedWrong)

/-- 'tumuluslaw07.PdiskStops': WHATEVER THE INPUT: true; the input reads as it did. -/
def pdiskStopsSpec : ChangeSpec := { name := "pdiskStops", fn := fun _ => fun
  | [d1, d2, d3] => { results := [.lit (.bool true)], args := [d1, d2, d3] }
  | _ => none }
def pdiskStopsRow : OpenClaim := { program := "ytmddpjdgnamlnaa", sum := "3bfa84f06d1d76031c56d77fe2fe9c62d69628432b3bea96f2dbd53e14c961fd", func := "tumulus/tumuluslaw07.PdiskStops", spec := "pdiskStops", unfollowed := true, recurses := true, apart := false }
def PdiskStopsSaid : Prop := pdiskStopsRow.holds Try.pinned (OpenSpec.ofChange pdiskStopsSpec)

/-- ITS FALSE NEIGHBOUR: 'it returns false'. Refute it at one input. -/
def pdiskStopsWrong : ChangeSpec := { name := "pdiskStops", fn := fun _ => fun
  | [d1, d2, d3] => { results := [.lit (.bool false)], args := [d1, d2, d3] }
  | _ => none }
def PdiskStopsWrongFalsely : Prop := pdiskStopsRow.holds Try.pinned (OpenSpec.ofChange pdiskStopsWrong)

/-- 'tumuluslaw07.PdiskNil': WHATEVER THE INPUT: true; the input reads as it did. -/
def pdiskNilSpec : ChangeSpec := { name := "pdiskNil", fn := fun _ => fun
  | [d] => { results := [.lit (.bool true)], args := [d] }
  | _ => none }
def pdiskNilRow : OpenClaim := { program := "ytmddpjdgnamlnaa", sum := "3bfa84f06d1d76031c56d77fe2fe9c62d69628432b3bea96f2dbd53e14c961fd", func := "tumulus/tumuluslaw07.PdiskNil", spec := "pdiskNil", unfollowed := true, recurses := true, apart := false }
def PdiskNilSaid : Prop := pdiskNilRow.holds Try.pinned (OpenSpec.ofChange pdiskNilSpec)

/-- ITS FALSE NEIGHBOUR: 'it returns false'. Refute it at one input. -/
def pdiskNilWrong : ChangeSpec := { name := "pdiskNil", fn := fun _ => fun
  | [d] => { results := [.lit (.bool false)], args := [d] }
  | _ => none }
def PdiskNilWrongFalsely : Prop := pdiskNilRow.holds Try.pinned (OpenSpec.ofChange pdiskNilWrong)

/- THE SECOND FORM. 'bulk': how many values and letters a reading holds, each counted each time it is reached (what is shared counts as often as it is met; a slice's spare places count too). A statement '..UptoSaid' is the law's where the arguments, and the package variables that the reading takes, are together of bulk at most 1048576: NARROWER than '..Said'. Prove '..Said' where nothing that the law and all that it calls make is longer than what came in: it says more and counts as full. Else prove '..UptoSaid'. A law counts once. -/
mutual
def uptoBulk {H : Type} : DataW H → Nat
  | .lit (.string bytes) => bytes.length + 1
  | .lit _ => 1
  | .nil => 1
  | .ptr d => uptoBulk d + 1
  | .slice elems spare => uptoBulkAll elems + uptoBulkAll spare + 1
  | .agg parts => uptoBulkAll parts + 1
  | .iface _ d => uptoBulk d + 1
  | .map entries => uptoBulkEntries entries + 1
  | .held _ => 1
def uptoBulkAll {H : Type} : List (DataW H) → Nat
  | [] => 0
  | d :: r => uptoBulk d + uptoBulkAll r
def uptoBulkEntries {H : Type} : List (Lit × DataW H) → Nat
  | [] => 0
  | x :: r => uptoBulkEntry x + uptoBulkEntries r
def uptoBulkEntry {H : Type} : Lit × DataW H → Nat
  | (.string bytes, d) => bytes.length + uptoBulk d + 1
  | (_, d) => uptoBulk d + 1
 end
def uptoSmall : (H : Type) → List (DataW H) → Bool := fun _ ds => decide (uptoBulkAll ds ≤ 1048576)
def OpenSpec.upto (s : _root_.Go.ChangeSpec) : _root_.Go.OpenSpec := { _root_.Go.OpenSpec.ofChange s with cond := some uptoSmall }

/-- 'tumuluslaw07.PdiskWhole', WHERE WHAT IT READS IS OF BULK AT MOST 1048576: true; the input reads as it did. -/
def pdiskWholeUptoRow : OpenClaim := { program := "ytmddpjdgnamlnaa", sum := "3bfa84f06d1d76031c56d77fe2fe9c62d69628432b3bea96f2dbd53e14c961fd", func := "tumulus/tumuluslaw07.PdiskWhole", spec := "pdiskWhole", unfollowed := true, recurses := true, apart := false, narrowed := true }
def PdiskWholeUptoSaid : Prop := pdiskWholeUptoRow.holds Try.pinned (OpenSpec.upto pdiskWholeSpec)

/-- 'tumuluslaw07.PdiskApart', WHERE WHAT IT READS IS OF BULK AT MOST 1048576: true; the input reads as it did. -/
def pdiskApartUptoRow : OpenClaim := { program := "ytmddpjdgnamlnaa", sum := "3bfa84f06d1d76031c56d77fe2fe9c62d69628432b3bea96f2dbd53e14c961fd", func := "tumulus/tumuluslaw07.PdiskApart", spec := "pdiskApart", unfollowed := true, recurses := true, apart := false, narrowed := true }
def PdiskApartUptoSaid : Prop := pdiskApartUptoRow.holds Try.pinned (OpenSpec.upto pdiskApartSpec)

/-- 'tumuluslaw07.PdiskFlushed', WHERE WHAT IT READS IS OF BULK AT MOST 1048576: true; the input reads as it did. -/
def pdiskFlushedUptoRow : OpenClaim := { program := "ytmddpjdgnamlnaa", sum := "3bfa84f06d1d76031c56d77fe2fe9c62d69628432b3bea96f2dbd53e14c961fd", func := "tumulus/tumuluslaw07.PdiskFlushed", spec := "pdiskFlushed", unfollowed := true, recurses := true, apart := false, narrowed := true }
def PdiskFlushedUptoSaid : Prop := pdiskFlushedUptoRow.holds Try.pinned (OpenSpec.upto pdiskFlushedSpec)

/-- 'tumuluslaw07.PdiskStops', WHERE WHAT IT READS IS OF BULK AT MOST 1048576: true; the input reads as it did. -/
def pdiskStopsUptoRow : OpenClaim := { program := "ytmddpjdgnamlnaa", sum := "3bfa84f06d1d76031c56d77fe2fe9c62d69628432b3bea96f2dbd53e14c961fd", func := "tumulus/tumuluslaw07.PdiskStops", spec := "pdiskStops", unfollowed := true, recurses := true, apart := false, narrowed := true }
def PdiskStopsUptoSaid : Prop := pdiskStopsUptoRow.holds Try.pinned (OpenSpec.upto pdiskStopsSpec)

/-- 'tumuluslaw07.PdiskNil', WHERE WHAT IT READS IS OF BULK AT MOST 1048576: true; the input reads as it did. -/
def pdiskNilUptoRow : OpenClaim := { program := "ytmddpjdgnamlnaa", sum := "3bfa84f06d1d76031c56d77fe2fe9c62d69628432b3bea96f2dbd53e14c961fd", func := "tumulus/tumuluslaw07.PdiskNil", spec := "pdiskNil", unfollowed := true, recurses := true, apart := false, narrowed := true }
def PdiskNilUptoSaid : Prop := pdiskNilUptoRow.holds Try.pinned (OpenSpec.upto pdiskNilSpec)

end Rows
end Go.Proofs.Ytmddpjdgnamlnaa
