/-
  Every Holds is the reference's.
-/
import Derived.Test.YtcmpohippbjpcaaHoldsC
import Derived.Test.YtcmpohippbjpcaaHoldsD
namespace Go.Proofs.Ytcmpohippbjpcaa
open Go.RowKit
set_option linter.unusedVariables false

theorem holds_both (op : Int) (nar : Bool) (a b : Int) (ra : -9223372036854775808 ≤ a ∧ a ≤ 9223372036854775807) (rb : -9223372036854775808 ≤ b ∧ b ≤ 9223372036854775807) :
    ∃ v, Says 32 #[.int .i64 op, .bool nar, .int .i64 a, .int .i64 b] v ∧ Says 50 #[.int .i64 op, .bool nar, .int .i64 a, .int .i64 b] v := by
  by_cases h : op < 27 ∨ 37 < op
  · exact ⟨false, holds_other op nar a b h, refHolds_other op nar a b h⟩
  · have h' : op = 27 ∨ op = 28 ∨ op = 29 ∨ op = 30 ∨ op = 31 ∨ op = 32 ∨ op = 33 ∨ op = 34 ∨ op = 35 ∨ op = 36 ∨ op = 37 := by omega
    clear h
    cases nar
    · rcases h' with rfl | rfl | rfl | rfl | rfl | rfl | rfl | rfl | rfl | rfl | rfl
      · exact ⟨_, holds64_eq a b ra rb, refHolds64_eq a b⟩
      · exact ⟨_, holds64_ne a b ra rb, refHolds64_ne a b⟩
      · exact ⟨_, holds64_gt a b ra rb, refHolds64_gt a b⟩
      · exact ⟨_, holds64_ge a b ra rb, refHolds64_ge a b⟩
      · exact ⟨_, holds64_lt a b ra rb, refHolds64_lt a b⟩
      · exact ⟨_, holds64_le a b ra rb, refHolds64_le a b⟩
      · exact ⟨_, holds64_sgt a b ra rb, refHolds64_sgt a b⟩
      · exact ⟨_, holds64_sge a b ra rb, refHolds64_sge a b⟩
      · exact ⟨_, holds64_slt a b ra rb, refHolds64_slt a b⟩
      · exact ⟨_, holds64_sle a b ra rb, refHolds64_sle a b⟩
      · exact ⟨_, holds64_set a b ra rb, refHolds64_set a b⟩
    · rcases h' with rfl | rfl | rfl | rfl | rfl | rfl | rfl | rfl | rfl | rfl | rfl
      · exact ⟨_, holds32_eq a b ra rb, refHolds32_eq a b⟩
      · exact ⟨_, holds32_ne a b ra rb, refHolds32_ne a b⟩
      · exact ⟨_, holds32_gt a b ra rb, refHolds32_gt a b⟩
      · exact ⟨_, holds32_ge a b ra rb, refHolds32_ge a b⟩
      · exact ⟨_, holds32_lt a b ra rb, refHolds32_lt a b⟩
      · exact ⟨_, holds32_le a b ra rb, refHolds32_le a b⟩
      · exact ⟨_, holds32_sgt a b ra rb, refHolds32_sgt a b⟩
      · exact ⟨_, holds32_sge a b ra rb, refHolds32_sge a b⟩
      · exact ⟨_, holds32_slt a b ra rb, refHolds32_slt a b⟩
      · exact ⟨_, holds32_sle a b ra rb, refHolds32_sle a b⟩
      · exact ⟨_, holds32_set a b ra rb, refHolds32_set a b⟩

set_option maxHeartbeats 800000 in
theorem holds_any (op a b : Int) (ra : -9223372036854775808 ≤ a ∧ a ≤ 9223372036854775807) (rb : -9223372036854775808 ≤ b ∧ b ≤ 9223372036854775807) : Says 31 #[.int .i64 op, .int .i64 a, .int .i64 b] true := by
  intro w
  obtain ⟨v, hv, hv'⟩ := holds_both op false a b ra rb
  obtain ⟨u, hu, hu'⟩ := holds_both op true a b ra rb
  have HV := Lib.hid hv
  have HV' := Lib.hid hv'
  have HU := Lib.hid hu
  have HU' := Lib.hid hu'
  clear hv hv' hu hu' ra rb
  have hvv : (v == v) = true := by simp
  have huu : (u == u) = true := by simp
  go_enter Try.func31, Try.ntmps31
  have hB := Below.refl w.heap.size w
  have hs := hB.size
  go_wp2_with fail
  refine (HV.out _).mono ?_
  rintro e w1 ⟨rfl, hB1⟩
  have hs1 := hB1.size
  go_wp2_with fail
  refine (HV'.out _).mono ?_
  rintro e w2 ⟨rfl, h1⟩
  have hB2 := hB1.trans (h1.mono hs1)
  have hs2 := hB2.size
  clear h1 hs
  go_wp2_with fail
  refine (HU.out _).mono ?_
  rintro e w3 ⟨rfl, h1⟩
  have hB3 := hB2.trans (h1.mono hs2)
  have hs3 := hB3.size
  clear h1
  go_wp2_with fail
  refine (HU'.out _).mono ?_
  rintro e w4 ⟨rfl, h1⟩
  have hB4 := hB3.trans (h1.mono hs3)
  clear h1
  go_wp2
  go_ret
  exact ⟨rfl, hB4⟩
end Go.Proofs.Ytcmpohippbjpcaa
