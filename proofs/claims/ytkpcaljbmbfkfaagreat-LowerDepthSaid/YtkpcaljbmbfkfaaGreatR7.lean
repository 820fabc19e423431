import Derived.Test.YtkpcaljbmbfkfaaGreatU3
namespace Go.Ab
open Go Go.Proofs
theorem r6f : envN tabG 1000000 4 (vl [.i .i64 (.ofNat 6), .b false]) h0 isT = some (undefV, .mk .z .e) := by kernel_rfl
theorem r10f : envN tabG 1000000 4 (vl [.i .i64 (.ofNat 10), .b false]) h0 isT = some (undefV, .mk .z .e) := by kernel_rfl
theorem r18f : envN tabG 1000000 4 (vl [.i .i64 (.ofNat 18), .b false]) h0 isT = some (undefV, .mk .z .e) := by kernel_rfl
theorem r27f : envN tabG 1000000 4 (vl [.i .i64 (.ofNat 27), .b false]) h0 isT = some (undefV, .mk .z .e) := by kernel_rfl
end Go.Ab
