/-
  What is narrow hangs on the low halves alone: plain facts on the contracts of Alu.
-/
import Derived.Test.YtcmpohippbjpcaaWordOut
namespace Go.Proofs.Ytcmpohippbjpcaa
open Go.RowKit
set_option linter.unusedVariables false

theorem lowN_c (a : Int) : ((lowN 32 a : Nat) : Int) = a % 4294967296 := by
  unfold lowN; rw [Int.natCast_emod, un_cast]
  have e : ((2 ^ 32 : Nat) : Int) = 4294967296 := rfl
  rw [e]; omega
theorem wrap64_low (x : Int) : wrap64 x % 4294967296 = x % 4294967296 := by unfold wrap64; omega
theorem nat_low (x : Nat) : (wrap64 (x : Int)) % 4294967296 = ((x % 2 ^ 32 : Nat) : Int) := by
  rw [wrap64_low, Int.natCast_emod]; rfl
theorem whole_add (a b : Int) : wrap64 (a + b) % 4294967296 = ((w_add 32 (lowN 32 a) (lowN 32 b) : Nat) : Int) := by
  rw [wrap64_low]
  have ha := lowN_c a
  have hb := lowN_c b
  unfold w_add
  rw [Int.natCast_emod, Int.natCast_add, ha, hb]
  have e : ((2 ^ 32 : Nat) : Int) = 4294967296 := rfl
  rw [e]; omega
theorem whole_sub (a b : Int) : wrap64 (a - b) % 4294967296 = ((w_sub 32 (lowN 32 a) (lowN 32 b) : Nat) : Int) := by
  rw [wrap64_low]
  have ha := lowN_c a
  have hb := lowN_c b
  have hl := lowN_lt 32 b
  unfold w_sub
  simp only [Nat.reducePow] at hl ⊢
  omega
theorem whole_mul (a b : Int) : wrap64 (a * b) % 4294967296 = ((w_mul 32 (lowN 32 a) (lowN 32 b) : Nat) : Int) := by
  rw [wrap64_low]
  have ha := lowN_c a
  have hb := lowN_c b
  unfold w_mul
  rw [Int.natCast_emod, Int.natCast_mul, ha, hb]
  have e : ((2 ^ 32 : Nat) : Int) = 4294967296 := rfl
  rw [e, ← Int.mul_emod]
theorem whole_or (a b : Int) : wrap64 ((un a ||| un b : Nat) : Int) % 4294967296 = ((w_or 32 (lowN 32 a) (lowN 32 b) : Nat) : Int) := by
  rw [nat_low, Nat.or_mod_two_pow]; rfl
theorem whole_and (a b : Int) : wrap64 ((un a &&& un b : Nat) : Int) % 4294967296 = ((w_and 32 (lowN 32 a) (lowN 32 b) : Nat) : Int) := by
  rw [nat_low, Nat.and_mod_two_pow]; rfl
theorem whole_xor (a b : Int) : wrap64 ((un a ^^^ un b : Nat) : Int) % 4294967296 = ((w_xor 32 (lowN 32 a) (lowN 32 b) : Nat) : Int) := by
  rw [nat_low, Nat.xor_mod_two_pow]; rfl
theorem whole_neg (a b : Int) : wrap64 (-a) % 4294967296 = ((w_neg 32 (lowN 32 a) (lowN 32 b) : Nat) : Int) := by
  rw [wrap64_low]
  have ha := lowN_c a
  have hl := lowN_lt 32 a
  unfold w_neg
  simp only [Nat.reducePow] at hl ⊢
  omega
theorem whole_mov (a b : Int) : b % 4294967296 = ((w_mov 32 (lowN 32 a) (lowN 32 b) : Nat) : Int) := (lowN_c b).symm
theorem lt32_add (a b : Int) : w_add 32 (lowN 32 a) (lowN 32 b) < 4294967296 := by
  rw [← same32_add _ _ (lowN_lt 32 a) (lowN_lt 32 b)]; exact Nat.mod_lt _ (by decide)
theorem lt32_sub (a b : Int) : w_sub 32 (lowN 32 a) (lowN 32 b) < 4294967296 := by
  rw [← same32_sub _ _ (lowN_lt 32 a) (lowN_lt 32 b)]; exact Nat.mod_lt _ (by decide)
theorem lt32_mul (a b : Int) : w_mul 32 (lowN 32 a) (lowN 32 b) < 4294967296 := by
  rw [← same32_mul _ _ (lowN_lt 32 a) (lowN_lt 32 b)]; exact Nat.mod_lt _ (by decide)
theorem lt32_div (a b : Int) : w_div 32 (lowN 32 a) (lowN 32 b) < 4294967296 := by
  rw [← same32_div _ _ (lowN_lt 32 a) (lowN_lt 32 b)]; exact Nat.mod_lt _ (by decide)
theorem lt32_mod (a b : Int) : w_mod 32 (lowN 32 a) (lowN 32 b) < 4294967296 := by
  rw [← same32_mod _ _ (lowN_lt 32 a) (lowN_lt 32 b)]; exact Nat.mod_lt _ (by decide)
theorem lt32_sdiv (a b : Int) : w_sdiv 32 (lowN 32 a) (lowN 32 b) < 4294967296 := by
  rw [← same32_sdiv _ _ (lowN_lt 32 a) (lowN_lt 32 b)]; exact Nat.mod_lt _ (by decide)
theorem lt32_smod (a b : Int) : w_smod 32 (lowN 32 a) (lowN 32 b) < 4294967296 := by
  rw [← same32_smod _ _ (lowN_lt 32 a) (lowN_lt 32 b)]; exact Nat.mod_lt _ (by decide)
theorem lt32_or (a b : Int) : w_or 32 (lowN 32 a) (lowN 32 b) < 4294967296 := by
  rw [← same32_or _ _ (lowN_lt 32 a) (lowN_lt 32 b)]; exact Nat.mod_lt _ (by decide)
theorem lt32_and (a b : Int) : w_and 32 (lowN 32 a) (lowN 32 b) < 4294967296 := by
  rw [← same32_and _ _ (lowN_lt 32 a) (lowN_lt 32 b)]; exact Nat.mod_lt _ (by decide)
theorem lt32_xor (a b : Int) : w_xor 32 (lowN 32 a) (lowN 32 b) < 4294967296 := by
  rw [← same32_xor _ _ (lowN_lt 32 a) (lowN_lt 32 b)]; exact Nat.mod_lt _ (by decide)
theorem lt32_lsh (a b : Int) : w_lsh 32 (lowN 32 a) (lowN 32 b) < 4294967296 := by
  rw [← same32_lsh _ _ (lowN_lt 32 a) (lowN_lt 32 b)]; exact Nat.mod_lt _ (by decide)
theorem lt32_rsh (a b : Int) : w_rsh 32 (lowN 32 a) (lowN 32 b) < 4294967296 := by
  rw [← same32_rsh _ _ (lowN_lt 32 a) (lowN_lt 32 b)]; exact Nat.mod_lt _ (by decide)
theorem lt32_arsh (a b : Int) : w_arsh 32 (lowN 32 a) (lowN 32 b) < 4294967296 := by
  rw [← same32_arsh _ _ (lowN_lt 32 a) (lowN_lt 32 b)]; exact Nat.mod_lt _ (by decide)
theorem lt32_neg (a b : Int) : w_neg 32 (lowN 32 a) (lowN 32 b) < 4294967296 := by
  rw [← same32_neg _ _ (lowN_lt 32 a) (lowN_lt 32 b)]; exact Nat.mod_lt _ (by decide)
theorem lt32_mov (a b : Int) : w_mov 32 (lowN 32 a) (lowN 32 b) < 4294967296 := by
  rw [← same32_mov _ _ (lowN_lt 32 a) (lowN_lt 32 b)]; exact Nat.mod_lt _ (by decide)

theorem half_whole (op a b c d : Int) (rb : -9223372036854775808 ≤ b ∧ b ≤ 9223372036854775807) (h : op = 1 ∨ op = 2 ∨ op = 3 ∨ op = 8 ∨ op = 9 ∨ op = 10 ∨ op = 14 ∨ op = 15) (ha : lowN 32 c = lowN 32 a) (hb : lowN 32 d = lowN 32 b) :
    ∃ v u : Int, Gives 35 #[.int .i64 op, .bool true, .int .i64 a, .int .i64 b] v 0 ∧ Gives 35 #[.int .i64 op, .bool true, .int .i64 c, .int .i64 d] v 0 ∧ 0 ≤ v ∧ v < 4294967296 ∧ Gives 35 #[.int .i64 op, .bool false, .int .i64 a, .int .i64 b] u 0 ∧ u % 4294967296 = v := by
  rcases h with rfl | rfl | rfl | rfl | rfl | rfl | rfl | rfl
  · exact ⟨_, _, alu32_add a b, by have h := alu32_add c d; rw [ha, hb] at h; exact h, Int.natCast_nonneg _, by have := lt32_add a b; omega, gives_add a b, whole_add a b⟩
  · exact ⟨_, _, alu32_sub a b, by have h := alu32_sub c d; rw [ha, hb] at h; exact h, Int.natCast_nonneg _, by have := lt32_sub a b; omega, gives_sub a b, whole_sub a b⟩
  · exact ⟨_, _, alu32_mul a b, by have h := alu32_mul c d; rw [ha, hb] at h; exact h, Int.natCast_nonneg _, by have := lt32_mul a b; omega, gives_mul a b, whole_mul a b⟩
  · exact ⟨_, _, alu32_or a b, by have h := alu32_or c d; rw [ha, hb] at h; exact h, Int.natCast_nonneg _, by have := lt32_or a b; omega, gives_or a b, whole_or a b⟩
  · exact ⟨_, _, alu32_and a b, by have h := alu32_and c d; rw [ha, hb] at h; exact h, Int.natCast_nonneg _, by have := lt32_and a b; omega, gives_and a b, whole_and a b⟩
  · exact ⟨_, _, alu32_xor a b, by have h := alu32_xor c d; rw [ha, hb] at h; exact h, Int.natCast_nonneg _, by have := lt32_xor a b; omega, gives_xor a b, whole_xor a b⟩
  · exact ⟨_, _, alu32_neg a b, by have h := alu32_neg c d; rw [ha, hb] at h; exact h, Int.natCast_nonneg _, by have := lt32_neg a b; omega, gives_neg a b, whole_neg a b⟩
  · exact ⟨_, _, alu32_mov a b, by have h := alu32_mov c d; rw [ha, hb] at h; exact h, Int.natCast_nonneg _, by have := lt32_mov a b; omega, gives_mov a b rb, whole_mov a b⟩

theorem half_shift (op a b c d : Int) (h : op = 11 ∨ op = 12 ∨ op = 13) (ha : lowN 32 c = lowN 32 a) (hb : lowN 32 d = lowN 32 b) :
    ∃ v : Int, Gives 35 #[.int .i64 op, .bool true, .int .i64 a, .int .i64 b] v 0 ∧ Gives 35 #[.int .i64 op, .bool true, .int .i64 c, .int .i64 d] v 0 ∧ 0 ≤ v ∧ v < 4294967296 := by
  rcases h with rfl | rfl | rfl
  · exact ⟨_, alu32_lsh a b, by have h := alu32_lsh c d; rw [ha, hb] at h; exact h, Int.natCast_nonneg _, by have := lt32_lsh a b; omega⟩
  · exact ⟨_, alu32_rsh a b, by have h := alu32_rsh c d; rw [ha, hb] at h; exact h, Int.natCast_nonneg _, by have := lt32_rsh a b; omega⟩
  · exact ⟨_, alu32_arsh a b, by have h := alu32_arsh c d; rw [ha, hb] at h; exact h, Int.natCast_nonneg _, by have := lt32_arsh a b; omega⟩

theorem half_div (op a b c d : Int) (h0 : lowN 32 b ≠ 0) (h : op = 4 ∨ op = 5 ∨ op = 6 ∨ op = 7) (ha : lowN 32 c = lowN 32 a) (hb : lowN 32 d = lowN 32 b) :
    ∃ v : Int, Gives 35 #[.int .i64 op, .bool true, .int .i64 a, .int .i64 b] v 0 ∧ Gives 35 #[.int .i64 op, .bool true, .int .i64 c, .int .i64 d] v 0 ∧ 0 ≤ v ∧ v < 4294967296 := by
  have h1 : lowN 32 d ≠ 0 := by rw [hb]; exact h0
  rcases h with rfl | rfl | rfl | rfl
  · exact ⟨_, alu32_div a b h0, by have h := alu32_div c d h1; rw [ha, hb] at h; exact h, Int.natCast_nonneg _, by have := lt32_div a b; omega⟩
  · exact ⟨_, alu32_mod a b h0, by have h := alu32_mod c d h1; rw [ha, hb] at h; exact h, Int.natCast_nonneg _, by have := lt32_mod a b; omega⟩
  · exact ⟨_, alu32_sdiv a b h0, by have h := alu32_sdiv c d h1; rw [ha, hb] at h; exact h, Int.natCast_nonneg _, by have := lt32_sdiv a b; omega⟩
  · exact ⟨_, alu32_smod a b h0, by have h := alu32_smod c d h1; rw [ha, hb] at h; exact h, Int.natCast_nonneg _, by have := lt32_smod a b; omega⟩

theorem half_div0 (op a b c d : Int) (h0 : lowN 32 b = 0) (h : op = 4 ∨ op = 5 ∨ op = 6 ∨ op = 7) (ha : lowN 32 c = lowN 32 a) (hb : lowN 32 d = lowN 32 b) :
    Gives 35 #[.int .i64 op, .bool true, .int .i64 a, .int .i64 b] 0 84 ∧ Gives 35 #[.int .i64 op, .bool true, .int .i64 c, .int .i64 d] 0 84 := by
  have h1 : lowN 32 d = 0 := by rw [hb]; exact h0
  rcases h with rfl | rfl | rfl | rfl
  · exact ⟨Gives.same fun w => alu32_div0 a b h0 w, Gives.same fun w => alu32_div0 c d h1 w⟩
  · exact ⟨Gives.same fun w => alu32_mod0 a b h0 w, Gives.same fun w => alu32_mod0 c d h1 w⟩
  · exact ⟨Gives.same fun w => alu32_sdiv0 a b h0 w, Gives.same fun w => alu32_sdiv0 c d h1 w⟩
  · exact ⟨Gives.same fun w => alu32_smod0 a b h0 w, Gives.same fun w => alu32_smod0 c d h1 w⟩
end Go.Proofs.Ytcmpohippbjpcaa
