import Derived.Test.YtkpcaljbmbfkfaaGreatR0
import Derived.Test.YtkpcaljbmbfkfaaGreatR1
import Derived.Test.YtkpcaljbmbfkfaaGreatR2
import Derived.Test.YtkpcaljbmbfkfaaGreatR3
import Derived.Test.YtkpcaljbmbfkfaaGreatR4
import Derived.Test.YtkpcaljbmbfkfaaGreatR5
import Derived.Test.YtkpcaljbmbfkfaaGreatR6
import Derived.Test.YtkpcaljbmbfkfaaGreatR7
import Derived.Test.YtkpcaljbmbfkfaaGreatR8
import Derived.Test.YtkpcaljbmbfkfaaGreatR9
import Derived.Test.YtkpcaljbmbfkfaaGreatR10
import Derived.Test.YtkpcaljbmbfkfaaGreatR11
import Derived.Test.YtkpcaljbmbfkfaaGreatR12
import Derived.Test.YtkpcaljbmbfkfaaGreatR13
import Derived.Test.YtkpcaljbmbfkfaaGreatR14
import Derived.Test.YtkpcaljbmbfkfaaGreatR15
namespace Go.Ab
open Go Go.Proofs Go.RowKit
theorem dneg (m : Nat) (b : Bool) : envN tabG 1000000 4 (vl [.i .i64 (.negSucc m), .b b]) h0 isT = some (undefV, .mk .z .e) := by kernel_rfl
theorem dbig (m : Nat) (b : Bool) : envN tabG 1000000 4 (vl [.i .i64 (.ofNat (m + 31)), .b b]) h0 isT = some (undefV, .mk .z .e) := by kernel_rfl
theorem dall : ∀ (a : Int) (b : Bool), envN tabG 1000000 4 (vl [.i .i64 a, .b b]) h0 isT = some (undefV, .mk .z .e)
  | .negSucc m, b => dneg m b
  | .ofNat 0, true => r0t
  | .ofNat 0, false => r0f
  | .ofNat 1, true => r1t
  | .ofNat 1, false => r1f
  | .ofNat 2, true => r2t
  | .ofNat 2, false => r2f
  | .ofNat 3, true => r3t
  | .ofNat 3, false => r3f
  | .ofNat 4, true => r4t
  | .ofNat 4, false => r4f
  | .ofNat 5, true => r5t
  | .ofNat 5, false => r5f
  | .ofNat 6, true => r6t
  | .ofNat 6, false => r6f
  | .ofNat 7, true => r7t
  | .ofNat 7, false => r7f
  | .ofNat 8, true => r8t
  | .ofNat 8, false => r8f
  | .ofNat 9, true => r9t
  | .ofNat 9, false => r9f
  | .ofNat 10, true => r10t
  | .ofNat 10, false => r10f
  | .ofNat 11, true => r11t
  | .ofNat 11, false => r11f
  | .ofNat 12, true => r12t
  | .ofNat 12, false => r12f
  | .ofNat 13, true => r13t
  | .ofNat 13, false => r13f
  | .ofNat 14, true => r14t
  | .ofNat 14, false => r14f
  | .ofNat 15, true => r15t
  | .ofNat 15, false => r15f
  | .ofNat 16, true => r16t
  | .ofNat 16, false => r16f
  | .ofNat 17, true => r17t
  | .ofNat 17, false => r17f
  | .ofNat 18, true => r18t
  | .ofNat 18, false => r18f
  | .ofNat 19, true => r19t
  | .ofNat 19, false => r19f
  | .ofNat 20, true => r20t
  | .ofNat 20, false => r20f
  | .ofNat 21, true => r21t
  | .ofNat 21, false => r21f
  | .ofNat 22, true => r22t
  | .ofNat 22, false => r22f
  | .ofNat 23, true => r23t
  | .ofNat 23, false => r23f
  | .ofNat 24, true => r24t
  | .ofNat 24, false => r24f
  | .ofNat 25, true => r25t
  | .ofNat 25, false => r25f
  | .ofNat 26, true => r26t
  | .ofNat 26, false => r26f
  | .ofNat 27, true => r27t
  | .ofNat 27, false => r27f
  | .ofNat 28, true => r28t
  | .ofNat 28, false => r28f
  | .ofNat 29, true => r29t
  | .ofNat 29, false => r29f
  | .ofNat 30, true => r30t
  | .ofNat 30, false => r30f
  | .ofNat (m + 31), b => dbig m b
theorem depth_walk (a0 : Int) (a1 : Bool) (w : World) : Calls Tryz.prog 4 #[.int .i64 a0, .bool a1] w fun e w' => e = .returned (.bool true) ∧ Below w.heap.size w w' :=
  calls_of_run (env_allG _) (dall a0 a1) (.c _ _ _ _ (.i _ _) (.c _ _ _ _ (.b _) .e)) w
end Go.Ab
