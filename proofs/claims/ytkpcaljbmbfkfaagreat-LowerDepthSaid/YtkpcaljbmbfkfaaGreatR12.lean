import Derived.Test.YtkpcaljbmbfkfaaGreatU3
namespace Go.Ab
open Go Go.Proofs
theorem r0t : envN tabG 1000000 4 (vl [.i .i64 (.ofNat 0), .b true]) h0 isT = some (undefV, .mk .z .e) := by kernel_rfl
theorem r13t : envN tabG 1000000 4 (vl [.i .i64 (.ofNat 13), .b true]) h0 isT = some (undefV, .mk .z .e) := by kernel_rfl
theorem r21t : envN tabG 1000000 4 (vl [.i .i64 (.ofNat 21), .b true]) h0 isT = some (undefV, .mk .z .e) := by kernel_rfl
theorem r24t : envN tabG 1000000 4 (vl [.i .i64 (.ofNat 24), .b true]) h0 isT = some (undefV, .mk .z .e) := by kernel_rfl
end Go.Ab
