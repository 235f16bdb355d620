import Derived.Test.YtdoopoapbffpbaaGreatZ00
import Derived.SliceStrings
import Derived.Deep.Strs
namespace Go.Proofs.YtdoopoapbffpbaaGreat
open Go.RowKit Go.Proofs.Tryz
set_option maxRecDepth 100000
set_option maxHeartbeats 12800000
set_option linter.unusedVariables false
set_option linter.unusedSimpArgs false
section
open Go.RowKit Go.ChangeShapes Go.WideShapes Go.ChangeAt
theorem own:ownKnob prog.godebug=none:=by kernel_rfl
theorem laidOut:laidOutB prog=true:=by kernel_rfl
theorem Pc{w:World}{x:Addr}{i:Nat}{v:Value}(h:w.cell? (x.add i)=some v)(c:∃u,w.cell? (x.add 0)=some u):∃b a,x=⟨b,a,none⟩:=by
 obtain⟨u,d⟩:=c;obtain⟨b,a,e⟩:=x;have:e=none:=by simpa [Addr.add] using World.cell?_spot d
 subst this;exact⟨b,a,rfl⟩
section
variable {H:Type}{enc:TypeId×Value→H}{P:Program}{w:World}{base:Nat}{spare:Nat→Bool}{held:Bool}
def sv(l:List ByteArray):List Value:=l.map Value.string
end
end
end Go.Proofs.YtdoopoapbffpbaaGreat
