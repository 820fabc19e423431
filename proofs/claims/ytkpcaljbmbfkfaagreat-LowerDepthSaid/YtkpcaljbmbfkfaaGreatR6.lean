import Derived.Test.YtkpcaljbmbfkfaaGreatU3
namespace Go.Ab
open Go Go.Proofs
theorem r6t : envN tabG 1000000 4 (vl [.i .i64 (.ofNat 6), .b true]) h0 isT = some (undefV, .mk .z .e) := by kernel_rfl
theorem r10t : envN tabG 1000000 4 (vl [.i .i64 (.ofNat 10), .b true]) h0 isT = some (undefV, .mk .z .e) := by kernel_rfl
theorem r18t : envN tabG 1000000 4 (vl [.i .i64 (.ofNat 18), .b true]) h0 isT = some (undefV, .mk .z .e) := by kernel_rfl
theorem r27t : envN tabG 1000000 4 (vl [.i .i64 (.ofNat 27), .b true]) h0 isT = some (undefV, .mk .z .e) := by kernel_rfl
end Go.Ab
