import Derived.Test.YtkpcaljbmbfkfaaGreatU3
namespace Go.Ab
open Go Go.Proofs
theorem r14f : envN tabG 1000000 4 (vl [.i .i64 (.ofNat 14), .b false]) h0 isT = some (undefV, .mk .z .e) := by kernel_rfl
theorem r22f : envN tabG 1000000 4 (vl [.i .i64 (.ofNat 22), .b false]) h0 isT = some (undefV, .mk .z .e) := by kernel_rfl
theorem r23f : envN tabG 1000000 4 (vl [.i .i64 (.ofNat 23), .b false]) h0 isT = some (undefV, .mk .z .e) := by kernel_rfl
end Go.Ab
