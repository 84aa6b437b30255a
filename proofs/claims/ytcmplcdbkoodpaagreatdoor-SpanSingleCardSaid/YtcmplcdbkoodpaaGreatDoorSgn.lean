/-
  A row of bits read with its sign.
-/
import Derived.Test.YtcmplcdbkoodpaaGreatDoorBits
namespace Go.Proofs.YtcmplcdbkoodpaaGreatDoor
open Go.RowKit
set_option linter.unusedVariables false

/-- A row of n bits read with its sign. -/
def sgn (n x : Nat) : Int := if x < 2 ^ (n - 1) then (x : Int) else (x : Int) - 2 ^ n
theorem sgn64 {x : Nat} (hx : x < 18446744073709551616) : sgn 64 x = wrap64 (x : Int) := by
  unfold sgn wrap64
  have e1 : (2 : Nat) ^ (64 - 1) = 9223372036854775808 := rfl
  have e2 : (2 : Int) ^ 64 = 18446744073709551616 := rfl
  rw [e1, e2]
  split <;> omega
theorem sgn32 {x : Nat} (hx : x < 4294967296) : sgn 32 x = wrap32 (x : Int) := by
  unfold sgn wrap32
  have e1 : (2 : Nat) ^ (32 - 1) = 2147483648 := rfl
  have e2 : (2 : Int) ^ 32 = 4294967296 := rfl
  rw [e1, e2]
  split <;> omega
end Go.Proofs.YtcmplcdbkoodpaaGreatDoor
