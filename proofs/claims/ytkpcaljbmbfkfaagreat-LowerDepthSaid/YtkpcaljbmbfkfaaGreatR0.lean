import Derived.Test.YtkpcaljbmbfkfaaGreatU3
namespace Go.Ab
open Go Go.Proofs
set_option maxHeartbeats 0 in
theorem r1t : envN tabG 1000000 4 (vl [.i .i64 (.ofNat 1), .b true]) h0 isT = some (undefV, .mk .z .e) := by kernel_rfl
set_option maxHeartbeats 0 in
theorem r7t : envN tabG 1000000 4 (vl [.i .i64 (.ofNat 7), .b true]) h0 isT = some (undefV, .mk .z .e) := by kernel_rfl
set_option maxHeartbeats 0 in
theorem r15t : envN tabG 1000000 4 (vl [.i .i64 (.ofNat 15), .b true]) h0 isT = some (undefV, .mk .z .e) := by kernel_rfl
set_option maxHeartbeats 0 in
theorem r30t : envN tabG 1000000 4 (vl [.i .i64 (.ofNat 30), .b true]) h0 isT = some (undefV, .mk .z .e) := by kernel_rfl
end Go.Ab
