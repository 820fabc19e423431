import Derived.Test.YtkpcaljbmbfkfaaGreatU3
namespace Go.Ab
open Go Go.Proofs
set_option maxHeartbeats 0 in
theorem r5t : envN tabG 1000000 4 (vl [.i .i64 (.ofNat 5), .b true]) h0 isT = some (undefV, .mk .z .e) := by kernel_rfl
set_option maxHeartbeats 0 in
theorem r9t : envN tabG 1000000 4 (vl [.i .i64 (.ofNat 9), .b true]) h0 isT = some (undefV, .mk .z .e) := by kernel_rfl
set_option maxHeartbeats 0 in
theorem r17t : envN tabG 1000000 4 (vl [.i .i64 (.ofNat 17), .b true]) h0 isT = some (undefV, .mk .z .e) := by kernel_rfl
set_option maxHeartbeats 0 in
theorem r28t : envN tabG 1000000 4 (vl [.i .i64 (.ofNat 28), .b true]) h0 isT = some (undefV, .mk .z .e) := by kernel_rfl
end Go.Ab
