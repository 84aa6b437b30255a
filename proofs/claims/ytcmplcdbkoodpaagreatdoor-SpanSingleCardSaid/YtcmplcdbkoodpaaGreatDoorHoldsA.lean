/-
  Holds: the program's and the reference's conditions.
-/
import Derived.Test.YtcmplcdbkoodpaaGreatDoorRfAl
import Derived.Test.YtcmplcdbkoodpaaGreatDoorWordMath
namespace Go.Proofs.YtcmplcdbkoodpaaGreatDoor
open Go.RowKit
set_option linter.unusedVariables false

/-- A call that answers a bool; below the heap's old size nothing has turned. -/
def Says (f : FuncId) (args : Array Value) (v : Bool) : Prop :=
  ∀ w : World, Calls Tryz.prog f args w fun e w' => e = .returned (.bool v) ∧ Below w.heap.size w w'

theorem beq_cast (x y : Nat) : ((x : Int) == y) = decide (x = y) := by
  by_cases h : x = y
  · simp [h]
  · have h2 : (x : Int) ≠ y := by omega
    rw [beq_eq_false_iff_ne.mpr h2]; simp [h]
theorem bne_cast (x y : Nat) : ((x : Int) != y) = !decide (x = y) := by
  unfold bne; rw [beq_cast]
theorem lowN_64 (a : Int) : lowN 64 a = un a := Nat.mod_eq_of_lt (un_lt a)
theorem u64_un' (a : Int) : IntKind.u64.wrap a = ((un a : Nat) : Int) := by rw [IntKind.wrap_u64, un_cast]
theorem u64_keep {x : Nat} (h : x < 18446744073709551616) : IntKind.u64.wrap (x : Int) = x := IntWalk.u64_in _ (by omega)
theorem sgn_un' {a : Int} (h : -9223372036854775808 ≤ a ∧ a ≤ 9223372036854775807) : sgn 64 (un a) = a := by
  rw [sgn64 (un_lt a)]; exact wrap64_un h.1 h.2
theorem lowN_cast' (a : Int) : a % 4294967296 = ((lowN 32 a : Nat) : Int) := by
  unfold lowN; rw [Int.natCast_emod, un_cast]
  have e : ((2 ^ 32 : Nat) : Int) = 4294967296 := rfl
  rw [e]; omega
theorem sgn_low (a : Int) : wrap32 a = sgn 32 (lowN 32 a) := by
  have h := lowN_cast' a
  rw [sgn32 (lowN_lt 32 a), ← h]; unfold wrap32; omega
theorem wrap64_in {a : Int} (h : -2147483648 ≤ a ∧ a ≤ 2147483647) : wrap64 a = a := by unfold wrap64; omega
theorem wrap32_range (a : Int) : -2147483648 ≤ wrap32 a ∧ wrap32 a ≤ 2147483647 := by unfold wrap32; omega
theorem u64_band (x y : Nat) (hx : x < 18446744073709551616) (hy : y < 18446744073709551616) : (bits BinOp.and IntKind.u64 (x : Int) (y : Int) != 0) = !decide (x &&& y = 0) := by
  rw [bits_and_u64_nat x y hx hy]
  by_cases h : x &&& y = 0
  · simp [h]
  · simp [h]

/-- Condition 27 on 64 bits. -/
def hold64_eq (x y : Nat) : Bool := decide (x = y)

/-- Condition 28 on 64 bits. -/
def hold64_ne (x y : Nat) : Bool := !decide (x = y)

/-- Condition 29 on 64 bits. -/
def hold64_gt (x y : Nat) : Bool := decide (y < x)

/-- Condition 30 on 64 bits. -/
def hold64_ge (x y : Nat) : Bool := decide (y ≤ x)

/-- Condition 31 on 64 bits. -/
def hold64_lt (x y : Nat) : Bool := decide (x < y)

/-- Condition 32 on 64 bits. -/
def hold64_le (x y : Nat) : Bool := decide (x ≤ y)

/-- Condition 33 on 64 bits. -/
def hold64_sgt (x y : Nat) : Bool := decide (sgn 64 y < sgn 64 x)

/-- Condition 34 on 64 bits. -/
def hold64_sge (x y : Nat) : Bool := decide (sgn 64 y ≤ sgn 64 x)

/-- Condition 35 on 64 bits. -/
def hold64_slt (x y : Nat) : Bool := decide (sgn 64 x < sgn 64 y)

/-- Condition 36 on 64 bits. -/
def hold64_sle (x y : Nat) : Bool := decide (sgn 64 x ≤ sgn 64 y)

/-- Condition 37 on 64 bits. -/
def hold64_set (x y : Nat) : Bool := !decide (x &&& y = 0)

/-! ### The program's, 64 bits -/

/-- Condition 27 on 32 bits. -/
def hold32_eq (x y : Nat) : Bool := decide (x = y)

/-- Condition 28 on 32 bits. -/
def hold32_ne (x y : Nat) : Bool := !decide (x = y)

/-- Condition 29 on 32 bits. -/
def hold32_gt (x y : Nat) : Bool := decide (y < x)

/-- Condition 30 on 32 bits. -/
def hold32_ge (x y : Nat) : Bool := decide (y ≤ x)

/-- Condition 31 on 32 bits. -/
def hold32_lt (x y : Nat) : Bool := decide (x < y)

/-- Condition 32 on 32 bits. -/
def hold32_le (x y : Nat) : Bool := decide (x ≤ y)

/-- Condition 33 on 32 bits. -/
def hold32_sgt (x y : Nat) : Bool := decide (sgn 32 y < sgn 32 x)

/-- Condition 34 on 32 bits. -/
def hold32_sge (x y : Nat) : Bool := decide (sgn 32 y ≤ sgn 32 x)

/-- Condition 35 on 32 bits. -/
def hold32_slt (x y : Nat) : Bool := decide (sgn 32 x < sgn 32 y)

/-- Condition 36 on 32 bits. -/
def hold32_sle (x y : Nat) : Bool := decide (sgn 32 x ≤ sgn 32 y)

/-- Condition 37 on 32 bits. -/
def hold32_set (x y : Nat) : Bool := !decide (x &&& y = 0)

/-! ### The program's, 32 bits -/

end Go.Proofs.YtcmplcdbkoodpaaGreatDoor
