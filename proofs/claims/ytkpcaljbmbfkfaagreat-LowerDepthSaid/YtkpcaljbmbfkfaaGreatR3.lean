import Derived.Test.YtkpcaljbmbfkfaaGreatU3
namespace Go.Ab
open Go Go.Proofs
theorem r3f : envN tabG 1000000 4 (vl [.i .i64 (.ofNat 3), .b false]) h0 isT = some (undefV, .mk .z .e) := by kernel_rfl
theorem r8f : envN tabG 1000000 4 (vl [.i .i64 (.ofNat 8), .b false]) h0 isT = some (undefV, .mk .z .e) := by kernel_rfl
theorem r16f : envN tabG 1000000 4 (vl [.i .i64 (.ofNat 16), .b false]) h0 isT = some (undefV, .mk .z .e) := by kernel_rfl
theorem r29f : envN tabG 1000000 4 (vl [.i .i64 (.ofNat 29), .b false]) h0 isT = some (undefV, .mk .z .e) := by kernel_rfl
end Go.Ab
