/-
  No cell of these rows narrows 'for every input' (looked for: loops, veiled, ifaces, maps, wideKeys, modest, calm, conditions, laid).
  DERIVED. THE GIVEN ROWS OF THIS SEAT. 5 by the template 'for every input the law returns true; each argument reads behind the call as it read before'; 0 by the template 'total and deterministic' (their statements: YtkpcaljbmbfkfaaGreatTotals.lean).
  GIVEN WITH THE SEED: the statements are not yours to turn. If you find one false, say at which input.
  Laid BY PROGRAM, IN A SANDBOX (cutbox-rows.mjs): the forced cells as the released guide's own fill.sh prints them over the translation a8007fbb01499a58… (all of the seat's roots in one cut). By AI agents, Wed Nov 11 2026. No macro, syntax, notation, axiom, sorry.
-/
import Derived.Test.YtkpcaljbmbfkfaaGreatChecked
import GoSem.Claim
import GoSem.ClaimJoined
import GoSem.ClaimMapViews
import Derived.JoinedTies
import Derived.KernelRfl
namespace Go.Proofs.YtkpcaljbmbfkfaaGreat
/- THE CELL 'sum', in the pinned program and in every row, IS THE sha256 OF THE DUMP (.gsa) THAT YtkpcaljbmbfkfaaGreatProg.lean LOADS. Nothing in Lean hashes anything: it is a label: what it is worth is what the hold of that sum in a sandbox is worth. -/
noncomputable def Tryz.pinned : Pinned := { name := "ytkpcaljbmbfkfaagreat", sum := "a8007fbb01499a58a3ac2c8ca9be1833dd9daf56214feeef80510c9906b433e6", checked := Tryz.checked }
namespace Rows
def none {H : Type} : Left H := { results := [], args := [] }

/-- 'derricklaw09.LowerEscapes': WHATEVER THE INPUT: true; the input reads as it did. -/
def lowerEscapesSpec : ChangeSpec := { name := "lowerEscapes", fn := fun _ => fun
  | [d1, d2] => { results := [.lit (.bool true)], args := [d1, d2] }
  | _ => none }
def lowerEscapesRow : OpenClaim := { program := "ytkpcaljbmbfkfaagreat", sum := "a8007fbb01499a58a3ac2c8ca9be1833dd9daf56214feeef80510c9906b433e6", func := "derrick/derricklaw09.LowerEscapes", spec := "lowerEscapes", unfollowed := true, recurses := true, apart := false }
def LowerEscapesSaid : Prop := lowerEscapesRow.holds Tryz.pinned (OpenSpec.ofChange lowerEscapesSpec)

/-- ITS FALSE NEIGHBOUR: 'it returns false'. Refute it at one input. -/
def lowerEscapesWrong : ChangeSpec := { name := "lowerEscapes", fn := fun _ => fun
  | [d1, d2] => { results := [.lit (.bool false)], args := [d1, d2] }
  | _ => none }
def LowerEscapesWrongFalsely : Prop := lowerEscapesRow.holds Tryz.pinned (OpenSpec.ofChange lowerEscapesWrong)

/-- 'derricklaw09.LowerDepth': WHATEVER THE INPUT: true; the input reads as it did. -/
def lowerDepthSpec : ChangeSpec := { name := "lowerDepth", fn := fun _ => fun
  | [d1, d2] => { results := [.lit (.bool true)], args := [d1, d2] }
  | _ => none }
def lowerDepthRow : OpenClaim := { program := "ytkpcaljbmbfkfaagreat", sum := "a8007fbb01499a58a3ac2c8ca9be1833dd9daf56214feeef80510c9906b433e6", func := "derrick/derricklaw09.LowerDepth", spec := "lowerDepth", unfollowed := true, recurses := true, apart := false }
def LowerDepthSaid : Prop := lowerDepthRow.holds Tryz.pinned (OpenSpec.ofChange lowerDepthSpec)

/-- ITS FALSE NEIGHBOUR: 'it returns false'. Refute it at one input. -/
def lowerDepthWrong : ChangeSpec := { name := "lowerDepth", fn := fun _ => fun
  | [d1, d2] => { results := [.lit (.bool false)], args := [d1, d2] }
  | _ => none }
def LowerDepthWrongFalsely : Prop := lowerDepthRow.holds Tryz.pinned (OpenSpec.ofChange lowerDepthWrong)

/-- 'derricklaw09.LowerTexts': WHATEVER THE INPUT: true; the input reads as it did. -/
def lowerTextsSpec : ChangeSpec := { name := "lowerTexts", fn := fun _ => fun
  | [d] => { results := [.lit (.bool true)], args := [d] }
  | _ => none }
def lowerTextsRow : OpenClaim := { program := "ytkpcaljbmbfkfaagreat", sum := "a8007fbb01499a58a3ac2c8ca9be1833dd9daf56214feeef80510c9906b433e6", func := "derrick/derricklaw09.LowerTexts", spec := "lowerTexts", unfollowed := true, recurses := true, apart := false }
def LowerTextsSaid : Prop := lowerTextsRow.holds Tryz.pinned (OpenSpec.ofChange lowerTextsSpec)

/-- ITS FALSE NEIGHBOUR: 'it returns false'. Refute it at one input. -/
def lowerTextsWrong : ChangeSpec := { name := "lowerTexts", fn := fun _ => fun
  | [d] => { results := [.lit (.bool false)], args := [d] }
  | _ => none }
def LowerTextsWrongFalsely : Prop := lowerTextsRow.holds Tryz.pinned (OpenSpec.ofChange lowerTextsWrong)

/-- 'derricklaw09.LowerKeeps': WHATEVER THE INPUT: true; the input reads as it did. -/
def lowerKeepsSpec : ChangeSpec := { name := "lowerKeeps", fn := fun _ => fun
  | [d] => { results := [.lit (.bool true)], args := [d] }
  | _ => none }
def lowerKeepsRow : OpenClaim := { program := "ytkpcaljbmbfkfaagreat", sum := "a8007fbb01499a58a3ac2c8ca9be1833dd9daf56214feeef80510c9906b433e6", func := "derrick/derricklaw09.LowerKeeps", spec := "lowerKeeps", unfollowed := true, recurses := true, apart := false }
def LowerKeepsSaid : Prop := lowerKeepsRow.holds Tryz.pinned (OpenSpec.ofChange lowerKeepsSpec)

/-- ITS FALSE NEIGHBOUR: 'it returns false'. Refute it at one input. -/
def lowerKeepsWrong : ChangeSpec := { name := "lowerKeeps", fn := fun _ => fun
  | [d] => { results := [.lit (.bool false)], args := [d] }
  | _ => none }
def LowerKeepsWrongFalsely : Prop := lowerKeepsRow.holds Tryz.pinned (OpenSpec.ofChange lowerKeepsWrong)

/-- 'derricklaw09.LowerAgain': WHATEVER THE INPUT: true; the input reads as it did. -/
def lowerAgainSpec : ChangeSpec := { name := "lowerAgain", fn := fun _ => fun
  | [d] => { results := [.lit (.bool true)], args := [d] }
  | _ => none }
def lowerAgainRow : OpenClaim := { program := "ytkpcaljbmbfkfaagreat", sum := "a8007fbb01499a58a3ac2c8ca9be1833dd9daf56214feeef80510c9906b433e6", func := "derrick/derricklaw09.LowerAgain", spec := "lowerAgain", unfollowed := true, recurses := true, apart := false }
def LowerAgainSaid : Prop := lowerAgainRow.holds Tryz.pinned (OpenSpec.ofChange lowerAgainSpec)

/-- ITS FALSE NEIGHBOUR: 'it returns false'. Refute it at one input. -/
def lowerAgainWrong : ChangeSpec := { name := "lowerAgain", fn := fun _ => fun
  | [d] => { results := [.lit (.bool false)], args := [d] }
  | _ => none }
def LowerAgainWrongFalsely : Prop := lowerAgainRow.holds Tryz.pinned (OpenSpec.ofChange lowerAgainWrong)

/- THE SECOND FORM. 'bulk': how many values and letters a reading holds, each counted each time it is reached (what is shared counts as often as it is met; a slice's spare places count too). A statement '..UptoSaid' is the law's where the arguments, and the package variables that the reading takes, are together of bulk at most 1048576: NARROWER than '..Said'. Prove '..Said' where nothing that the law and all that it calls make is longer than what came in: it says more and counts as full. Else prove '..UptoSaid'. A law counts once. -/
mutual
def uptoBulk {H : Type} : DataW H → Nat
  | .lit (.string bytes) => bytes.length + 1
  | .lit _ => 1
  | .nil => 1
  | .ptr d => uptoBulk d + 1
  | .slice elems spare => uptoBulkAll elems + uptoBulkAll spare + 1
  | .agg parts => uptoBulkAll parts + 1
  | .iface _ d => uptoBulk d + 1
  | .map entries => uptoBulkEntries entries + 1
  | .held _ => 1
def uptoBulkAll {H : Type} : List (DataW H) → Nat
  | [] => 0
  | d :: r => uptoBulk d + uptoBulkAll r
def uptoBulkEntries {H : Type} : List (Lit × DataW H) → Nat
  | [] => 0
  | x :: r => uptoBulkEntry x + uptoBulkEntries r
def uptoBulkEntry {H : Type} : Lit × DataW H → Nat
  | (.string bytes, d) => bytes.length + uptoBulk d + 1
  | (_, d) => uptoBulk d + 1
 end
def uptoSmall : (H : Type) → List (DataW H) → Bool := fun _ ds => decide (uptoBulkAll ds ≤ 1048576)
def OpenSpec.upto (s : _root_.Go.ChangeSpec) : _root_.Go.OpenSpec := { _root_.Go.OpenSpec.ofChange s with cond := some uptoSmall }

/-- 'derricklaw09.LowerEscapes', WHERE WHAT IT READS IS OF BULK AT MOST 1048576: true; the input reads as it did. -/
def lowerEscapesUptoRow : OpenClaim := { program := "ytkpcaljbmbfkfaagreat", sum := "a8007fbb01499a58a3ac2c8ca9be1833dd9daf56214feeef80510c9906b433e6", func := "derrick/derricklaw09.LowerEscapes", spec := "lowerEscapes", unfollowed := true, recurses := true, apart := false, narrowed := true }
def LowerEscapesUptoSaid : Prop := lowerEscapesUptoRow.holds Tryz.pinned (OpenSpec.upto lowerEscapesSpec)

/-- 'derricklaw09.LowerDepth', WHERE WHAT IT READS IS OF BULK AT MOST 1048576: true; the input reads as it did. -/
def lowerDepthUptoRow : OpenClaim := { program := "ytkpcaljbmbfkfaagreat", sum := "a8007fbb01499a58a3ac2c8ca9be1833dd9daf56214feeef80510c9906b433e6", func := "derrick/derricklaw09.LowerDepth", spec := "lowerDepth", unfollowed := true, recurses := true, apart := false, narrowed := true }
def LowerDepthUptoSaid : Prop := lowerDepthUptoRow.holds Tryz.pinned (OpenSpec.upto lowerDepthSpec)

/-- 'derricklaw09.LowerTexts', WHERE WHAT IT READS IS OF BULK AT MOST 1048576: true; the input reads as it did. -/
def lowerTextsUptoRow : OpenClaim := { program := "ytkpcaljbmbfkfaagreat", sum := "a8007fbb01499a58a3ac2c8ca9be1833dd9daf56214feeef80510c9906b433e6", func := "derrick/derricklaw09.LowerTexts", spec := "lowerTexts", unfollowed := true, recurses := true, apart := false, narrowed := true }
def LowerTextsUptoSaid : Prop := lowerTextsUptoRow.holds Tryz.pinned (OpenSpec.upto lowerTextsSpec)

/-- 'derricklaw09.LowerKeeps', WHERE WHAT IT READS IS OF BULK AT MOST 1048576: true; the input reads as it did. -/
def lowerKeepsUptoRow : OpenClaim := { program := "ytkpcaljbmbfkfaagreat", sum := "a8007fbb01499a58a3ac2c8ca9be1833dd9daf56214feeef80510c9906b433e6", func := "derrick/derricklaw09.LowerKeeps", spec := "lowerKeeps", unfollowed := true, recurses := true, apart := false, narrowed := true }
def LowerKeepsUptoSaid : Prop := lowerKeepsUptoRow.holds Tryz.pinned (OpenSpec.upto lowerKeepsSpec)

/-- 'derricklaw09.LowerAgain', WHERE WHAT IT READS IS OF BULK AT MOST 1048576: true; the input reads as it did. -/
def lowerAgainUptoRow : OpenClaim := { program := "ytkpcaljbmbfkfaagreat", sum := "a8007fbb01499a58a3ac2c8ca9be1833dd9daf56214feeef80510c9906b433e6", func := "derrick/derricklaw09.LowerAgain", spec := "lowerAgain", unfollowed := true, recurses := true, apart := false, narrowed := true }
def LowerAgainUptoSaid : Prop := lowerAgainUptoRow.holds Tryz.pinned (OpenSpec.upto lowerAgainSpec)

end Rows
end Go.Proofs.YtkpcaljbmbfkfaaGreat
