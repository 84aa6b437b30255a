/-
  Spans: the reference's number, whole.
-/
import Derived.Test.YtcmplcdbkoodpaaGreatDoorSpanJ
import Derived.Lib.EndianBits
namespace Go.Proofs.YtcmplcdbkoodpaaGreatDoor
open Go.RowKit
set_option linter.unusedVariables false

theorem jo_mag (m : Int) (hm : 0 ≤ m ∧ m ≤ 9223372036854775808) : jo (m % 4294967296) (m / 4294967296) = m := by
  unfold jo
  have h1 : IntKind.u64.wrap (m % 4294967296) = m % 4294967296 := by simp [IntKind.wrap, IntKind.bits, IntKind.signed]; omega
  have h2 : IntKind.u64.wrap (m / 4294967296) = m / 4294967296 := by simp [IntKind.wrap, IntKind.bits, IntKind.signed]; omega
  have h3 : IntKind.u64.wrap (m / 4294967296 * 4294967296) = m / 4294967296 * 4294967296 := by simp [IntKind.wrap, IntKind.bits, IntKind.signed]; omega
  rw [h1, h2, h3, u64_or32 _ _ (by omega) (by omega) (by omega) (by omega) (by omega)]
  omega

theorem number_of (v : Int) (hv : -9223372036854775808 ≤ v ∧ v ≤ 9223372036854775807) (w : World) : Calls Tryz.prog 150 #[wd v] w (Ret w (.tuple #[.int .i64 v, .bool true])) := by
  have hC1 : cmpv v (-9223372036854775808) = 0 ∨ cmpv v (-9223372036854775808) = 1 := by unfold cmpv; (repeat' split) <;> omega
  have hC2 : cmpv v 9223372036854775807 = 0 ∨ cmpv v 9223372036854775807 = -1 := by unfold cmpv; (repeat' split) <;> omega
  have hN : nov (decide (v < 0)) (mag v % 4294967296) (mag v / 4294967296) = v := by
    have hm : 0 ≤ mag v ∧ mag v ≤ 9223372036854775808 := by unfold mag; split <;> omega
    unfold nov
    rw [jo_mag _ hm]
    unfold mag
    by_cases h : v < 0
    · simp only [h, decide_true, if_true]
      simp only [IntKind.wrap, IntKind.bits, IntKind.signed, wrap64, Bool.false_and, Bool.false_eq_true, if_false]
      omega
    · simp only [h, decide_false, if_false, Bool.false_eq_true]
      unfold wrap64
      omega
  have := number_run (decide (v < 0)) (mag v % 4294967296) (mag v / 4294967296) _ _ hC1 hC2 (fun y hy w => by
    have := cmp_of v y hv (by omega) w
    rcases hy with rfl | rfl
    · rw [cm2_lo]; exact this
    · rw [cm2_hi]; exact this) w
  rw [hN] at this
  exact this
end Go.Proofs.YtcmplcdbkoodpaaGreatDoor
