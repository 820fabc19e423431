import Derived.Test.YtkpcaljbmbfkfaaGreatU3
namespace Go.Ab
open Go Go.Proofs
theorem r2t : envN tabG 1000000 4 (vl [.i .i64 (.ofNat 2), .b true]) h0 isT = some (undefV, .mk .z .e) := by kernel_rfl
theorem r12t : envN tabG 1000000 4 (vl [.i .i64 (.ofNat 12), .b true]) h0 isT = some (undefV, .mk .z .e) := by kernel_rfl
theorem r20t : envN tabG 1000000 4 (vl [.i .i64 (.ofNat 20), .b true]) h0 isT = some (undefV, .mk .z .e) := by kernel_rfl
theorem r25t : envN tabG 1000000 4 (vl [.i .i64 (.ofNat 25), .b true]) h0 isT = some (undefV, .mk .z .e) := by kernel_rfl
end Go.Ab
