/-
  No cell of these rows narrows 'for every input' (looked for: loops, veiled, ifaces, maps, wideKeys, modest, calm, conditions, laid).
  DERIVED. THE GIVEN ROWS OF THIS SEAT. 3 by the template 'for every input the law returns true; each argument reads behind the call as it read before'; 0 by the template 'total and deterministic' (their statements: YthalbagblhkeaaaGreatTotals.lean).
  GIVEN WITH THE SEED: the statements are not yours to turn. If you find one false, say at which input.
  Laid BY PROGRAM, IN A SANDBOX (cutbox-rows.mjs): the forced cells as the released guide's own fill.sh prints them over the translation de055fd5a5b9351f… (all of the seat's roots in one cut). By AI agents, Wed Nov 11 2026. No macro, syntax, notation, axiom, sorry.
-/
import Derived.Test.YthalbagblhkeaaaGreatChecked
import GoSem.Claim
import GoSem.ClaimJoined
import GoSem.ClaimMapViews
import Derived.JoinedTies
import Derived.KernelRfl
namespace Go.Proofs.YthalbagblhkeaaaGreat
/- THE CELL 'sum', in the pinned program and in every row, IS THE sha256 OF THE DUMP (.gsa) THAT YthalbagblhkeaaaGreatProg.lean LOADS. Nothing in Lean hashes anything: it is a label: what it is worth is what the hold of that sum in a sandbox is worth. -/
noncomputable def Tryz.pinned : Pinned := { name := "ythalbagblhkeaaagreat", sum := "de055fd5a5b9351f41f72f5e4032818962b05c840b26eabe3dca7280da76a82d", checked := Tryz.checked }
namespace Rows
def none {H : Type} : Left H := { results := [], args := [] }

/-- 'tumuluslaw18.VrElder': WHATEVER THE INPUT: true; the input reads as it did. -/
def vrElderSpec : ChangeSpec := { name := "vrElder", fn := fun _ => fun
  | [d1, d2] => { results := [.lit (.bool true)], args := [d1, d2] }
  | _ => none }
def vrElderRow : OpenClaim := { program := "ythalbagblhkeaaagreat", sum := "de055fd5a5b9351f41f72f5e4032818962b05c840b26eabe3dca7280da76a82d", func := "tumulus/tumuluslaw18.VrElder", spec := "vrElder", inPlace := ["slices.overlaps[tumulus/api.Block]", "slices.overlaps[tumulus/api.Row]", "slices.overlaps[tumulus/api.Acked]", "slices.overlaps[int]", "slices.overlaps[tumulus/api.Vote]"], unfollowed := true, recurses := true, apart := false }
def VrElderSaid : Prop := vrElderRow.holds Tryz.pinned (OpenSpec.ofChange vrElderSpec)

/-- ITS FALSE NEIGHBOUR: 'it returns false'. Refute it at one input. -/
def vrElderWrong : ChangeSpec := { name := "vrElder", fn := fun _ => fun
  | [d1, d2] => { results := [.lit (.bool false)], args := [d1, d2] }
  | _ => none }
def VrElderWrongFalsely : Prop := vrElderRow.holds Tryz.pinned (OpenSpec.ofChange vrElderWrong)

/-- 'tumuluslaw18.VrForward': WHATEVER THE INPUT: true; the input reads as it did. -/
def vrForwardSpec : ChangeSpec := { name := "vrForward", fn := fun _ => fun
  | [d1, d2] => { results := [.lit (.bool true)], args := [d1, d2] }
  | _ => none }
def vrForwardRow : OpenClaim := { program := "ythalbagblhkeaaagreat", sum := "de055fd5a5b9351f41f72f5e4032818962b05c840b26eabe3dca7280da76a82d", func := "tumulus/tumuluslaw18.VrForward", spec := "vrForward", inPlace := ["slices.overlaps[tumulus/api.Block]", "slices.overlaps[tumulus/api.Row]", "slices.overlaps[tumulus/api.Acked]", "slices.overlaps[int]", "slices.overlaps[tumulus/api.Vote]"], unfollowed := true, recurses := true, apart := false }
def VrForwardSaid : Prop := vrForwardRow.holds Tryz.pinned (OpenSpec.ofChange vrForwardSpec)

/-- ITS FALSE NEIGHBOUR: 'it returns false'. Refute it at one input. -/
def vrForwardWrong : ChangeSpec := { name := "vrForward", fn := fun _ => fun
  | [d1, d2] => { results := [.lit (.bool false)], args := [d1, d2] }
  | _ => none }
def VrForwardWrongFalsely : Prop := vrForwardRow.holds Tryz.pinned (OpenSpec.ofChange vrForwardWrong)

/-- 'tumuluslaw18.VrAnew': WHATEVER THE INPUT: true; the input reads as it did. -/
def vrAnewSpec : ChangeSpec := { name := "vrAnew", fn := fun _ => fun
  | [d1, d2] => { results := [.lit (.bool true)], args := [d1, d2] }
  | _ => none }
def vrAnewRow : OpenClaim := { program := "ythalbagblhkeaaagreat", sum := "de055fd5a5b9351f41f72f5e4032818962b05c840b26eabe3dca7280da76a82d", func := "tumulus/tumuluslaw18.VrAnew", spec := "vrAnew", inPlace := ["slices.overlaps[tumulus/api.Block]", "slices.overlaps[tumulus/api.Row]", "slices.overlaps[tumulus/api.Acked]", "slices.overlaps[int]", "slices.overlaps[tumulus/api.Vote]"], unfollowed := true, recurses := true, apart := false }
def VrAnewSaid : Prop := vrAnewRow.holds Tryz.pinned (OpenSpec.ofChange vrAnewSpec)

/-- ITS FALSE NEIGHBOUR: 'it returns false'. Refute it at one input. -/
def vrAnewWrong : ChangeSpec := { name := "vrAnew", fn := fun _ => fun
  | [d1, d2] => { results := [.lit (.bool false)], args := [d1, d2] }
  | _ => none }
def VrAnewWrongFalsely : Prop := vrAnewRow.holds Tryz.pinned (OpenSpec.ofChange vrAnewWrong)

/- THE SECOND FORM. 'bulk': how many values and letters a reading holds, each counted each time it is reached (what is shared counts as often as it is met; a slice's spare places count too). A statement '..UptoSaid' is the law's where the arguments, and the package variables that the reading takes, are together of bulk at most 1048576: NARROWER than '..Said'. Prove '..Said' where nothing that the law and all that it calls make is longer than what came in: it says more and counts as full. Else prove '..UptoSaid'. A law counts once. -/
mutual
def uptoBulk {H : Type} : DataW H → Nat
  | .lit (.string bytes) => bytes.length + 1
  | .lit _ => 1
  | .nil => 1
  | .ptr d => uptoBulk d + 1
  | .slice elems spare => uptoBulkAll elems + uptoBulkAll spare + 1
  | .agg parts => uptoBulkAll parts + 1
  | .iface _ d => uptoBulk d + 1
  | .map entries => uptoBulkEntries entries + 1
  | .held _ => 1
def uptoBulkAll {H : Type} : List (DataW H) → Nat
  | [] => 0
  | d :: r => uptoBulk d + uptoBulkAll r
def uptoBulkEntries {H : Type} : List (Lit × DataW H) → Nat
  | [] => 0
  | x :: r => uptoBulkEntry x + uptoBulkEntries r
def uptoBulkEntry {H : Type} : Lit × DataW H → Nat
  | (.string bytes, d) => bytes.length + uptoBulk d + 1
  | (_, d) => uptoBulk d + 1
 end
def uptoSmall : (H : Type) → List (DataW H) → Bool := fun _ ds => decide (uptoBulkAll ds ≤ 1048576)
def OpenSpec.upto (s : _root_.Go.ChangeSpec) : _root_.Go.OpenSpec := { _root_.Go.OpenSpec.ofChange s with cond := some uptoSmall }

/-- 'tumuluslaw18.VrElder', WHERE WHAT IT READS IS OF BULK AT MOST 1048576: true; the input reads as it did. -/
def vrElderUptoRow : OpenClaim := { program := "ythalbagblhkeaaagreat", sum := "de055fd5a5b9351f41f72f5e4032818962b05c840b26eabe3dca7280da76a82d", func := "tumulus/tumuluslaw18.VrElder", spec := "vrElder", inPlace := ["slices.overlaps[tumulus/api.Block]", "slices.overlaps[tumulus/api.Row]", "slices.overlaps[tumulus/api.Acked]", "slices.overlaps[int]", "slices.overlaps[tumulus/api.Vote]"], unfollowed := true, recurses := true, apart := false, narrowed := true }
def VrElderUptoSaid : Prop := vrElderUptoRow.holds Tryz.pinned (OpenSpec.upto vrElderSpec)

/-- 'tumuluslaw18.VrForward', WHERE WHAT IT READS IS OF BULK AT MOST 1048576: true; the input reads as it did. -/
def vrForwardUptoRow : OpenClaim := { program := "ythalbagblhkeaaagreat", sum := "de055fd5a5b9351f41f72f5e4032818962b05c840b26eabe3dca7280da76a82d", func := "tumulus/tumuluslaw18.VrForward", spec := "vrForward", inPlace := ["slices.overlaps[tumulus/api.Block]", "slices.overlaps[tumulus/api.Row]", "slices.overlaps[tumulus/api.Acked]", "slices.overlaps[int]", "slices.overlaps[tumulus/api.Vote]"], unfollowed := true, recurses := true, apart := false, narrowed := true }
def VrForwardUptoSaid : Prop := vrForwardUptoRow.holds Tryz.pinned (OpenSpec.upto vrForwardSpec)

/-- 'tumuluslaw18.VrAnew', WHERE WHAT IT READS IS OF BULK AT MOST 1048576: true; the input reads as it did. -/
def vrAnewUptoRow : OpenClaim := { program := "ythalbagblhkeaaagreat", sum := "de055fd5a5b9351f41f72f5e4032818962b05c840b26eabe3dca7280da76a82d", func := "tumulus/tumuluslaw18.VrAnew", spec := "vrAnew", inPlace := ["slices.overlaps[tumulus/api.Block]", "slices.overlaps[tumulus/api.Row]", "slices.overlaps[tumulus/api.Acked]", "slices.overlaps[int]", "slices.overlaps[tumulus/api.Vote]"], unfollowed := true, recurses := true, apart := false, narrowed := true }
def VrAnewUptoSaid : Prop := vrAnewUptoRow.holds Tryz.pinned (OpenSpec.upto vrAnewSpec)

end Rows
end Go.Proofs.YthalbagblhkeaaaGreat
