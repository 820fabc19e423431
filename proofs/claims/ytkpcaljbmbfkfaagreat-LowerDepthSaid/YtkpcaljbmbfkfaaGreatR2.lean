import Derived.Test.YtkpcaljbmbfkfaaGreatU3
namespace Go.Ab
open Go Go.Proofs
set_option maxHeartbeats 0 in
theorem r3t : envN tabG 1000000 4 (vl [.i .i64 (.ofNat 3), .b true]) h0 isT = some (undefV, .mk .z .e) := by kernel_rfl
set_option maxHeartbeats 0 in
theorem r8t : envN tabG 1000000 4 (vl [.i .i64 (.ofNat 8), .b true]) h0 isT = some (undefV, .mk .z .e) := by kernel_rfl
set_option maxHeartbeats 0 in
theorem r16t : envN tabG 1000000 4 (vl [.i .i64 (.ofNat 16), .b true]) h0 isT = some (undefV, .mk .z .e) := by kernel_rfl
set_option maxHeartbeats 0 in
theorem r29t : envN tabG 1000000 4 (vl [.i .i64 (.ofNat 29), .b true]) h0 isT = some (undefV, .mk .z .e) := by kernel_rfl
end Go.Ab
