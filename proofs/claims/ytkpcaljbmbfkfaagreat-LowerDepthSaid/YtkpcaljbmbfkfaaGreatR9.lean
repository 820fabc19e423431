import Derived.Test.YtkpcaljbmbfkfaaGreatU3
namespace Go.Ab
open Go Go.Proofs
theorem r4f : envN tabG 1000000 4 (vl [.i .i64 (.ofNat 4), .b false]) h0 isT = some (undefV, .mk .z .e) := by kernel_rfl
theorem r11f : envN tabG 1000000 4 (vl [.i .i64 (.ofNat 11), .b false]) h0 isT = some (undefV, .mk .z .e) := by kernel_rfl
theorem r19f : envN tabG 1000000 4 (vl [.i .i64 (.ofNat 19), .b false]) h0 isT = some (undefV, .mk .z .e) := by kernel_rfl
theorem r26f : envN tabG 1000000 4 (vl [.i .i64 (.ofNat 26), .b false]) h0 isT = some (undefV, .mk .z .e) := by kernel_rfl
end Go.Ab
