/- The bytes' type. -/
import Derived.Test.YtdfjaephlabnhaaBase
namespace Go.Proofs.Ytdfjaephlabnhaa
open Go.RowKit

theorem u8_info : (Try.prog.info? 5).map (fun i => (i.zero, i.size, i.bytes)) = some (some (.int .u8 0), 1, 1) := by kernel_rfl
end Go.Proofs.Ytdfjaephlabnhaa
