import Derived.Test.YtkpcaljbmbfkfaaGreatU3
namespace Go.Ab
open Go Go.Proofs
theorem r2f : envN tabG 1000000 4 (vl [.i .i64 (.ofNat 2), .b false]) h0 isT = some (undefV, .mk .z .e) := by kernel_rfl
theorem r12f : envN tabG 1000000 4 (vl [.i .i64 (.ofNat 12), .b false]) h0 isT = some (undefV, .mk .z .e) := by kernel_rfl
theorem r20f : envN tabG 1000000 4 (vl [.i .i64 (.ofNat 20), .b false]) h0 isT = some (undefV, .mk .z .e) := by kernel_rfl
theorem r25f : envN tabG 1000000 4 (vl [.i .i64 (.ofNat 25), .b false]) h0 isT = some (undefV, .mk .z .e) := by kernel_rfl
end Go.Ab
