/-
  Spans: the reference's size, cmp.
-/
import Derived.Test.YtaaidjphacofgaaGreatDoorSpanG
import Derived.LoopN
namespace Go.Proofs.YtaaidjphacofgaaGreatDoor
open Go.RowKit
set_option linter.unusedVariables false

/-- Which one is greater. -/
def cmpv (x y : Int) : Int := if x < y then -1 else if y < x then 1 else 0
theorem mag_pos {v : Int} (h : -9223372036854775808 ≤ v ∧ v ≤ 9223372036854775807) : 0 ≤ mag v ∧ mag v ≤ 9223372036854775808 := by
  unfold mag; split <;> omega

end Go.Proofs.YtaaidjphacofgaaGreatDoor
