/- The document's answer: does a piece fit, at whatever manifest. -/
import Derived.Test.YtdfjaephlabnhaaRefFitsNo
import Derived.Test.YtdfjaephlabnhaaRefFitsEq
import Derived.Test.YtdfjaephlabnhaaRefFitsNe
namespace Go.Proofs.Ytdfjaephlabnhaa
open Go.RowKit

theorem refFits_any (size : Int) (A : Option Addr) (n c C : Nat) (l : List Int) (i : Int) (p : ByteArray) (w : World) (hr : Rd w C A (iv l)) (hC : C ≤ w.heap.size) (hl : l.length = n) (hn : n ≤ 1000000) (hp : p.size ≤ 1000000) :
    Calls Try.prog 18 #[.int .i64 size, .slice A n c, .int .i64 i, .string p] w fun e w' => e = .returned (.bool (fitsB size l i p)) ∧ Below w.heap.size w w' := by
  cases hrr : rightB size l
  · exact refFits_no size A n c C l i p w hr hC hl hn hp hrr
  · by_cases hcmp : lenAt size.toNat i = (p.size : Int)
    · exact refFits_eq size A n c C l i p w hr hC hl hn hp hrr hcmp
    · exact refFits_ne size A n c C l i p w hr hC hl hn hp hrr hcmp
end Go.Proofs.Ytdfjaephlabnhaa
