import Derived.Test.YtkpcaljbmbfkfaaGreatU3
namespace Go.Ab
open Go Go.Proofs
theorem r0f : envN tabG 1000000 4 (vl [.i .i64 (.ofNat 0), .b false]) h0 isT = some (undefV, .mk .z .e) := by kernel_rfl
theorem r13f : envN tabG 1000000 4 (vl [.i .i64 (.ofNat 13), .b false]) h0 isT = some (undefV, .mk .z .e) := by kernel_rfl
theorem r21f : envN tabG 1000000 4 (vl [.i .i64 (.ofNat 21), .b false]) h0 isT = some (undefV, .mk .z .e) := by kernel_rfl
theorem r24f : envN tabG 1000000 4 (vl [.i .i64 (.ofNat 24), .b false]) h0 isT = some (undefV, .mk .z .e) := by kernel_rfl
end Go.Ab
