import Derived.Test.YtkpcaljbmbfkfaaGreatU3
namespace Go.Ab
open Go Go.Proofs
theorem r5f : envN tabG 1000000 4 (vl [.i .i64 (.ofNat 5), .b false]) h0 isT = some (undefV, .mk .z .e) := by kernel_rfl
theorem r9f : envN tabG 1000000 4 (vl [.i .i64 (.ofNat 9), .b false]) h0 isT = some (undefV, .mk .z .e) := by kernel_rfl
theorem r17f : envN tabG 1000000 4 (vl [.i .i64 (.ofNat 17), .b false]) h0 isT = some (undefV, .mk .z .e) := by kernel_rfl
theorem r28f : envN tabG 1000000 4 (vl [.i .i64 (.ofNat 28), .b false]) h0 isT = some (undefV, .mk .z .e) := by kernel_rfl
end Go.Ab
