/-
  Instructions: a plain model of them; the small functions of package code.
-/
import Derived.Test.YtbkcpepalicbjaaGreatProg
import Derived.Test.YtbkcpepalicbjaaGreatBase
import Derived.WalkKit
import Derived.BigQuiet
namespace Go.Proofs.YtbkcpepalicbjaaGreat
open Go.RowKit
set_option linter.unusedVariables false

/-- Told without a change of the world. -/
def Told (w : World) (v : Value) : Ending → World → Prop := fun e w' => e = .returned v ∧ w' = w
/-- Told, with new blocks of the call's own. -/
def Ret (w : World) (v : Value) : Ending → World → Prop := fun e w' => e = .returned v ∧ Below w.heap.size w w'

/-- Has an operation a second operand? -/
def secondv (op : Int) : Bool := (decide (1 ≤ op) && decide (op ≤ 15) && (op != 14)) || (op == 24) || (decide (27 ≤ op) && decide (op ≤ 37))
set_option maxRecDepth 100000 in
set_option maxHeartbeats 3200000 in
theorem second_of (op : Int) (w : World) : Calls Tryz.prog 219 #[.int .i64 op] w (Told w (.bool (secondv op))) := by
  have hc : op < 1 ∨ (1 ≤ op ∧ op ≤ 13) ∨ op = 14 ∨ op = 15 ∨ (16 ≤ op ∧ op ≤ 23) ∨ op = 24 ∨ (25 ≤ op ∧ op ≤ 26) ∨ (27 ≤ op ∧ op ≤ 37) ∨ 37 < op := by omega
  rcases hc with h | ⟨h, h'⟩ | rfl | rfl | ⟨h, h'⟩ | rfl | ⟨h, h'⟩ | ⟨h, h'⟩ | h
  · rw [show secondv op = false by (simp [secondv] <;> omega)]
    go_enter Tryz.func219, Tryz.ntmps219
    go_wp2
    go_ret
    exact ⟨by first | rfl | (simp; omega), rfl⟩
  · rw [show secondv op = true by (simp [secondv] <;> omega)]
    go_enter Tryz.func219, Tryz.ntmps219
    go_wp2
    go_ret
    exact ⟨by first | rfl | (simp; omega), rfl⟩
  · rw [show secondv 14 = false by decide]
    go_enter Tryz.func219, Tryz.ntmps219
    go_wp2
    go_ret
    exact ⟨by first | rfl | (simp; omega), rfl⟩
  · rw [show secondv 15 = true by decide]
    go_enter Tryz.func219, Tryz.ntmps219
    go_wp2
    go_ret
    exact ⟨by first | rfl | (simp; omega), rfl⟩
  · rw [show secondv op = false by (simp [secondv] <;> omega)]
    go_enter Tryz.func219, Tryz.ntmps219
    go_wp2
    go_ret
    exact ⟨by first | rfl | (simp; omega), rfl⟩
  · rw [show secondv 24 = true by decide]
    go_enter Tryz.func219, Tryz.ntmps219
    go_wp2
    go_ret
    exact ⟨by first | rfl | (simp; omega), rfl⟩
  · rw [show secondv op = false by (simp [secondv] <;> omega)]
    go_enter Tryz.func219, Tryz.ntmps219
    go_wp2
    go_ret
    exact ⟨by first | rfl | (simp; omega), rfl⟩
  · rw [show secondv op = true by (simp [secondv] <;> omega)]
    go_enter Tryz.func219, Tryz.ntmps219
    go_wp2
    go_ret
    exact ⟨by first | rfl | (simp; omega), rfl⟩
  · rw [show secondv op = false by (simp [secondv] <;> omega)]
    go_enter Tryz.func219, Tryz.ntmps219
    go_wp2
    go_ret
    exact ⟨by first | rfl | (simp; omega), rfl⟩
/-- Does an operation write Dst? -/
def writesDstv (op : Int) : Bool := decide (1 ≤ op) && decide (op ≤ 23)
set_option maxRecDepth 100000 in
set_option maxHeartbeats 3200000 in
theorem writesDst_of (op : Int) (w : World) : Calls Tryz.prog 195 #[.int .i64 op] w (Told w (.bool (writesDstv op))) := by
  have hc : op < 1 ∨ (1 ≤ op ∧ op ≤ 23) ∨ 23 < op := by omega
  rcases hc with h | ⟨h, h'⟩ | h
  · rw [show writesDstv op = false by (simp [writesDstv] <;> omega)]
    go_enter Tryz.func195, Tryz.ntmps195
    go_wp2
    go_ret
    exact ⟨by first | rfl | (simp; omega), rfl⟩
  · rw [show writesDstv op = true by (simp [writesDstv] <;> omega)]
    go_enter Tryz.func195, Tryz.ntmps195
    go_wp2
    go_ret
    exact ⟨by first | rfl | (simp; omega), rfl⟩
  · rw [show writesDstv op = false by (simp [writesDstv] <;> omega)]
    go_enter Tryz.func195, Tryz.ntmps195
    go_wp2
    go_ret
    exact ⟨by first | rfl | (simp; omega), rfl⟩
/-- A register that may be there? -/
def isRegv (n : Int) (wr : Bool) : Bool := decide (0 ≤ n) && decide (n ≤ 10) && !(wr && (n == 10))
set_option maxRecDepth 100000 in
set_option maxHeartbeats 3200000 in
theorem isReg_of (n : Int) (wr : Bool) (w : World) : Calls Tryz.prog 194 #[.int .i64 n, .bool wr] w (Told w (.bool (isRegv n wr))) := by
  have hc : (n < 0 ∧ wr = true) ∨ (n < 0 ∧ wr = false) ∨ ((0 ≤ n ∧ n ≤ 9) ∧ wr = true) ∨ ((0 ≤ n ∧ n ≤ 9) ∧ wr = false) ∨ (n = 10 ∧ wr = true) ∨ (n = 10 ∧ wr = false) ∨ (10 < n ∧ wr = true) ∨ (10 < n ∧ wr = false) := by cases wr <;> simp <;> omega
  rcases hc with ⟨h, rfl⟩ | ⟨h, rfl⟩ | ⟨⟨h, h'⟩, rfl⟩ | ⟨⟨h, h'⟩, rfl⟩ | ⟨rfl, rfl⟩ | ⟨rfl, rfl⟩ | ⟨h, rfl⟩ | ⟨h, rfl⟩
  · rw [show isRegv n true = false by (simp [isRegv] <;> omega)]
    go_enter Tryz.func194, Tryz.ntmps194
    go_wp2
    go_ret
    exact ⟨by first | rfl | (simp; omega), rfl⟩
  · rw [show isRegv n false = false by (simp [isRegv] <;> omega)]
    go_enter Tryz.func194, Tryz.ntmps194
    go_wp2
    go_ret
    exact ⟨by first | rfl | (simp; omega), rfl⟩
  · rw [show isRegv n true = true by (simp [isRegv] <;> omega)]
    go_enter Tryz.func194, Tryz.ntmps194
    go_wp2
    go_ret
    exact ⟨by first | rfl | (simp; omega), rfl⟩
  · rw [show isRegv n false = true by (simp [isRegv] <;> omega)]
    go_enter Tryz.func194, Tryz.ntmps194
    go_wp2
    go_ret
    exact ⟨by first | rfl | (simp; omega), rfl⟩
  · rw [show isRegv 10 true = false by decide]
    go_enter Tryz.func194, Tryz.ntmps194
    go_wp2
    go_ret
    exact ⟨by first | rfl | (simp; omega), rfl⟩
  · rw [show isRegv 10 false = true by decide]
    go_enter Tryz.func194, Tryz.ntmps194
    go_wp2
    go_ret
    exact ⟨by first | rfl | (simp; omega), rfl⟩
  · rw [show isRegv n true = false by (simp [isRegv] <;> omega)]
    go_enter Tryz.func194, Tryz.ntmps194
    go_wp2
    go_ret
    exact ⟨by first | rfl | (simp; omega), rfl⟩
  · rw [show isRegv n false = false by (simp [isRegv] <;> omega)]
    go_enter Tryz.func194, Tryz.ntmps194
    go_wp2
    go_ret
    exact ⟨by first | rfl | (simp; omega), rfl⟩
end Go.Proofs.YtbkcpepalicbjaaGreat
