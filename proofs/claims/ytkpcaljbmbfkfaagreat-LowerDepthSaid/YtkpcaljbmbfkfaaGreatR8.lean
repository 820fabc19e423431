import Derived.Test.YtkpcaljbmbfkfaaGreatU3
namespace Go.Ab
open Go Go.Proofs
theorem r4t : envN tabG 1000000 4 (vl [.i .i64 (.ofNat 4), .b true]) h0 isT = some (undefV, .mk .z .e) := by kernel_rfl
theorem r11t : envN tabG 1000000 4 (vl [.i .i64 (.ofNat 11), .b true]) h0 isT = some (undefV, .mk .z .e) := by kernel_rfl
theorem r19t : envN tabG 1000000 4 (vl [.i .i64 (.ofNat 19), .b true]) h0 isT = some (undefV, .mk .z .e) := by kernel_rfl
theorem r26t : envN tabG 1000000 4 (vl [.i .i64 (.ofNat 26), .b true]) h0 isT = some (undefV, .mk .z .e) := by kernel_rfl
end Go.Ab
