/-
  Every Swap is the reference's.
-/
import Derived.Test.YtcmpohippbjpcaaSwapB
import Derived.Test.YtcmpohippbjpcaaExtend
namespace Go.Proofs.Ytcmpohippbjpcaa
open Go.RowKit
set_option linter.unusedVariables false

theorem swap_tells {k : Nat} {size : Int} {t : Bool} {a : Int} {v : Int} (h : ∀ w, Calls Try.prog 29 #[.int .i64 size, .bool t, .int .i64 a] w fun e w' => e = .returned (.int .i64 v) ∧ w = w') :
    Tells 29 #[.int .i64 size, .bool t, .int .i64 a] v := fun w => (h w).mono fun e w' ⟨he, hw⟩ => ⟨he, hw ▸ Below.refl _ _⟩
theorem swap_both (size : Int) (t : Bool) (a : Int) (ra : -9223372036854775808 ≤ a ∧ a ≤ 9223372036854775807) :
    ∃ v, Tells 29 #[.int .i64 size, .bool t, .int .i64 a] v ∧ Tells 30 #[.int .i64 size, .bool t, .int .i64 a] v := by
  by_cases h : size ≠ 16 ∧ size ≠ 32 ∧ size ≠ 64
  · exact ⟨0, swap_tells (k := 0) (fun w => swap_other size t a h w), fun w => (refSwap_other size t a h w).mono fun e w' ⟨he, hw⟩ => ⟨he, hw ▸ Below.refl _ _⟩⟩
  · have h' : size = 16 ∨ size = 32 ∨ size = 64 := by omega
    clear h
    cases t
    · rcases h' with rfl | rfl | rfl
      · exact ⟨_, swap_tells (k := 0) (fun w => swap16_false a ra w), fun w => refSwap16_false a w⟩
      · exact ⟨_, swap_tells (k := 0) (fun w => swap32_false a ra w), fun w => refSwap32_false a w⟩
      · exact ⟨_, swap_tells (k := 0) (fun w => swap64_false a ra w), fun w => refSwap64_false a w⟩
    · rcases h' with rfl | rfl | rfl
      · exact ⟨_, swap_tells (k := 0) (fun w => swap16_true a ra w), fun w => refSwap16_true a w⟩
      · exact ⟨_, swap_tells (k := 0) (fun w => swap32_true a ra w), fun w => refSwap32_true a w⟩
      · exact ⟨_, swap_tells (k := 0) (fun w => swap64_true a ra w), fun w => refSwap64_true a w⟩
end Go.Proofs.Ytcmpohippbjpcaa
