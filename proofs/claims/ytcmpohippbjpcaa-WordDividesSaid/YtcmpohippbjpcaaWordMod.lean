/-
  Plain arithmetic of wraps.
-/
import Derived.Test.YtcmpohippbjpcaaWordOut
namespace Go.Proofs.Ytcmpohippbjpcaa
open Go.RowKit
set_option linter.unusedVariables false

theorem wrap_add_l (x y : Int) : wrap64 (wrap64 x + y) = wrap64 (x + y) := by
  refine wrap64_congr ?_; rw [Int.add_emod, wrap64_mod, ← Int.add_emod]
theorem wrap_add_r (x y : Int) : wrap64 (x + wrap64 y) = wrap64 (x + y) := by
  refine wrap64_congr ?_; rw [Int.add_emod, wrap64_mod, ← Int.add_emod]
theorem wrap_sub_l (x y : Int) : wrap64 (wrap64 x - y) = wrap64 (x - y) := by
  refine wrap64_congr ?_; rw [Int.sub_emod, wrap64_mod, ← Int.sub_emod]
theorem wrap_sub_r (x y : Int) : wrap64 (x - wrap64 y) = wrap64 (x - y) := by
  refine wrap64_congr ?_; rw [Int.sub_emod, wrap64_mod, ← Int.sub_emod]
theorem wrap_mul_r (x y : Int) : wrap64 (x * wrap64 y) = wrap64 (x * y) := by
  refine wrap64_congr ?_; rw [Int.mul_emod, wrap64_mod, ← Int.mul_emod]
theorem wrap_mul_l (x y : Int) : wrap64 (wrap64 x * y) = wrap64 (x * y) := by
  refine wrap64_congr ?_; rw [Int.mul_emod, wrap64_mod, ← Int.mul_emod]
theorem un_sum (a b : Int) : wrap64 ((un a + un b : Nat) : Int) = wrap64 (a + b) := by
  refine wrap64_congr ?_
  rw [Int.natCast_add, un_cast, un_cast, ← Int.add_emod]
theorem un_wrap {x : Nat} (h : x < 18446744073709551616) : un (wrap64 (x : Int)) = x := by
  unfold un; rw [wrap64_mod]; omega
theorem un_mod64 (b : Int) : ((un b % 64 : Nat) : Int) = b % 64 := by rw [Int.natCast_emod, un_cast]; omega
theorem un_mod32 (b : Int) : ((un b % 32 : Nat) : Int) = b % 32 := by rw [Int.natCast_emod, un_cast]; omega
end Go.Proofs.Ytcmpohippbjpcaa
