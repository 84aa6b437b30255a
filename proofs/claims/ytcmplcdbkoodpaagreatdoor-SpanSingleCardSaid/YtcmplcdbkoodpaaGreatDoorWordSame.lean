/-
  The program's Alu and the reference's answer the same, operation by operation.
-/
import Derived.Test.YtcmplcdbkoodpaaGreatDoorWordMath
import Derived.Test.YtcmplcdbkoodpaaGreatDoorAlAB
namespace Go.Proofs.YtcmplcdbkoodpaaGreatDoor
open Go.RowKit
set_option linter.unusedVariables false

/-- A call of two numbers' answer: v and the error g; below the heap's old size nothing has turned. -/
def Gives (f : FuncId) (args : Array Value) (v g : Int) : Prop :=
  ∀ w : World, Calls Tryz.prog f args w fun e w' => e = .returned (.tuple #[.int .i64 v, .int .i64 g]) ∧ Below w.heap.size w w'
theorem Gives.same {f : FuncId} {args : Array Value} {v g : Int} (h : ∀ w : World, Calls Tryz.prog f args w fun e w' => e = .returned (.tuple #[.int .i64 v, .int .i64 g]) ∧ w = w') : Gives f args v g :=
  fun w => (h w).mono fun e w' ⟨he, hw⟩ => ⟨he, by rw [← hw]; exact Below.refl _ _⟩
theorem lowN64 (a : Int) : lowN 64 a = un a := Nat.mod_eq_of_lt (un_lt a)
theorem same64_add (x y : Nat) (hx : x < 2 ^ 64) (hy : y < 2 ^ 64) : val64_add x y % 2 ^ 64 = w_add 64 x y := by
  unfold val64_add w_add; omega
theorem same64_sub (x y : Nat) (hx : x < 2 ^ 64) (hy : y < 2 ^ 64) : val64_sub x y % 2 ^ 64 = w_sub 64 x y := by
  unfold val64_sub w_sub; omega
theorem same64_mul (x y : Nat) (hx : x < 2 ^ 64) (hy : y < 2 ^ 64) : val64_mul x y % 2 ^ 64 = w_mul 64 x y := by
  unfold val64_mul w_mul; rw [Nat.mul_mod_mod]
theorem same64_div (x y : Nat) (hx : x < 2 ^ 64) (hy : y < 2 ^ 64) : val64_div x y % 2 ^ 64 = w_div 64 x y := by
  unfold val64_div w_div; have := Nat.div_le_self x y; exact Nat.mod_eq_of_lt (Nat.lt_of_le_of_lt this hx)
theorem same64_mod (x y : Nat) (hx : x < 2 ^ 64) (hy : y < 2 ^ 64) : val64_mod x y % 2 ^ 64 = w_mod 64 x y := by
  unfold val64_mod w_mod; have := Nat.mod_le x y; exact Nat.mod_eq_of_lt (Nat.lt_of_le_of_lt this hx)
theorem same64_sdiv (x y : Nat) (hx : x < 2 ^ 64) (hy : y < 2 ^ 64) : val64_sdiv x y % 2 ^ 64 = w_sdiv 64 x y := by
  exact sdiv_same 64 x y (by decide) hx hy
theorem same64_smod (x y : Nat) (hx : x < 2 ^ 64) (hy : y < 2 ^ 64) : val64_smod x y % 2 ^ 64 = w_smod 64 x y := by
  exact smod_same 64 x y (by decide) hx hy
theorem same64_or (x y : Nat) (hx : x < 2 ^ 64) (hy : y < 2 ^ 64) : val64_or x y % 2 ^ 64 = w_or 64 x y := by
  unfold val64_or w_or; exact Nat.mod_eq_of_lt (Nat.or_lt_two_pow hx hy)
theorem same64_and (x y : Nat) (hx : x < 2 ^ 64) (hy : y < 2 ^ 64) : val64_and x y % 2 ^ 64 = w_and 64 x y := by
  unfold val64_and w_and; exact Nat.mod_eq_of_lt (Nat.and_lt_two_pow _ hy)
theorem same64_xor (x y : Nat) (hx : x < 2 ^ 64) (hy : y < 2 ^ 64) : val64_xor x y % 2 ^ 64 = w_xor 64 x y := by
  unfold val64_xor w_xor; exact Nat.mod_eq_of_lt (Nat.xor_lt_two_pow hx hy)
theorem same64_lsh (x y : Nat) (hx : x < 2 ^ 64) (hy : y < 2 ^ 64) : val64_lsh x y % 2 ^ 64 = w_lsh 64 x y := by
  rfl
theorem same64_rsh (x y : Nat) (hx : x < 2 ^ 64) (hy : y < 2 ^ 64) : val64_rsh x y % 2 ^ 64 = w_rsh 64 x y := by
  unfold val64_rsh w_rsh downVal; have := Nat.div_le_self x (2 ^ (y % 64)); exact Nat.mod_eq_of_lt (Nat.lt_of_le_of_lt this hx)
theorem same64_arsh (x y : Nat) (hx : x < 2 ^ 64) (hy : y < 2 ^ 64) : val64_arsh x y % 2 ^ 64 = w_arsh 64 x y := by
  exact arsh_same 64 x (y % 64) (by decide) (Nat.mod_lt _ (by decide)) hx
theorem same64_neg (x y : Nat) (hx : x < 2 ^ 64) (hy : y < 2 ^ 64) : val64_neg x y % 2 ^ 64 = w_neg 64 x y := by
  unfold val64_neg w_neg; omega
theorem same64_mov (x y : Nat) (hx : x < 2 ^ 64) (hy : y < 2 ^ 64) : val64_mov x y % 2 ^ 64 = w_mov 64 x y := by
  unfold val64_mov w_mov; exact Nat.mod_eq_of_lt hy
theorem same32_add (x y : Nat) (hx : x < 2 ^ 32) (hy : y < 2 ^ 32) : val32_add x y % 2 ^ 32 = w_add 32 x y := by
  unfold val32_add w_add; omega
theorem same32_sub (x y : Nat) (hx : x < 2 ^ 32) (hy : y < 2 ^ 32) : val32_sub x y % 2 ^ 32 = w_sub 32 x y := by
  unfold val32_sub w_sub; omega
theorem same32_mul (x y : Nat) (hx : x < 2 ^ 32) (hy : y < 2 ^ 32) : val32_mul x y % 2 ^ 32 = w_mul 32 x y := by
  unfold val32_mul w_mul; rw [Nat.mul_mod_mod]
theorem same32_div (x y : Nat) (hx : x < 2 ^ 32) (hy : y < 2 ^ 32) : val32_div x y % 2 ^ 32 = w_div 32 x y := by
  unfold val32_div w_div; have := Nat.div_le_self x y; exact Nat.mod_eq_of_lt (Nat.lt_of_le_of_lt this hx)
theorem same32_mod (x y : Nat) (hx : x < 2 ^ 32) (hy : y < 2 ^ 32) : val32_mod x y % 2 ^ 32 = w_mod 32 x y := by
  unfold val32_mod w_mod; have := Nat.mod_le x y; exact Nat.mod_eq_of_lt (Nat.lt_of_le_of_lt this hx)
theorem same32_sdiv (x y : Nat) (hx : x < 2 ^ 32) (hy : y < 2 ^ 32) : val32_sdiv x y % 2 ^ 32 = w_sdiv 32 x y := by
  exact sdiv_same 32 x y (by decide) hx hy
theorem same32_smod (x y : Nat) (hx : x < 2 ^ 32) (hy : y < 2 ^ 32) : val32_smod x y % 2 ^ 32 = w_smod 32 x y := by
  exact smod_same 32 x y (by decide) hx hy
theorem same32_or (x y : Nat) (hx : x < 2 ^ 32) (hy : y < 2 ^ 32) : val32_or x y % 2 ^ 32 = w_or 32 x y := by
  unfold val32_or w_or; exact Nat.mod_eq_of_lt (Nat.or_lt_two_pow hx hy)
theorem same32_and (x y : Nat) (hx : x < 2 ^ 32) (hy : y < 2 ^ 32) : val32_and x y % 2 ^ 32 = w_and 32 x y := by
  unfold val32_and w_and; exact Nat.mod_eq_of_lt (Nat.and_lt_two_pow _ hy)
theorem same32_xor (x y : Nat) (hx : x < 2 ^ 32) (hy : y < 2 ^ 32) : val32_xor x y % 2 ^ 32 = w_xor 32 x y := by
  unfold val32_xor w_xor; exact Nat.mod_eq_of_lt (Nat.xor_lt_two_pow hx hy)
theorem same32_lsh (x y : Nat) (hx : x < 2 ^ 32) (hy : y < 2 ^ 32) : val32_lsh x y % 2 ^ 32 = w_lsh 32 x y := by
  rfl
theorem same32_rsh (x y : Nat) (hx : x < 2 ^ 32) (hy : y < 2 ^ 32) : val32_rsh x y % 2 ^ 32 = w_rsh 32 x y := by
  unfold val32_rsh w_rsh downVal; have := Nat.div_le_self x (2 ^ (y % 32)); exact Nat.mod_eq_of_lt (Nat.lt_of_le_of_lt this hx)
theorem same32_arsh (x y : Nat) (hx : x < 2 ^ 32) (hy : y < 2 ^ 32) : val32_arsh x y % 2 ^ 32 = w_arsh 32 x y := by
  exact arsh_same 32 x (y % 32) (by decide) (Nat.mod_lt _ (by decide)) hx
theorem same32_neg (x y : Nat) (hx : x < 2 ^ 32) (hy : y < 2 ^ 32) : val32_neg x y % 2 ^ 32 = w_neg 32 x y := by
  unfold val32_neg w_neg; omega
theorem same32_mov (x y : Nat) (hx : x < 2 ^ 32) (hy : y < 2 ^ 32) : val32_mov x y % 2 ^ 32 = w_mov 32 x y := by
  unfold val32_mov w_mov; exact Nat.mod_eq_of_lt hy

/-- Both answer the same, on 64 bits. -/
theorem both64 (op a b : Int) (h : 1 ≤ op ∧ op ≤ 15) : ∃ v g, Gives 31 #[.int .i64 op, .bool false, .int .i64 a, .int .i64 b] v g ∧ Gives 13 #[.int .i64 op, .bool false, .int .i64 a, .int .i64 b] v g := by
  have hx := lowN_lt 64 a
  have hy := lowN_lt 64 b
  have hcase : op = 1 ∨ op = 2 ∨ op = 3 ∨ op = 4 ∨ op = 5 ∨ op = 6 ∨ op = 7 ∨ op = 8 ∨ op = 9 ∨ op = 10 ∨ op = 11 ∨ op = 12 ∨ op = 13 ∨ op = 14 ∨ op = 15 := by omega
  rcases hcase with rfl | rfl | rfl | rfl | rfl | rfl | rfl | rfl | rfl | rfl | rfl | rfl | rfl | rfl | rfl
  · exact ⟨_, _, alu64_add a b , fun w => (refAlu64_add a b w).mono fun e w' ⟨he, hb⟩ => ⟨by rw [he, same64_add _ _ hx hy, lowN64, lowN64], hb⟩⟩
  · exact ⟨_, _, alu64_sub a b , fun w => (refAlu64_sub a b w).mono fun e w' ⟨he, hb⟩ => ⟨by rw [he, same64_sub _ _ hx hy, lowN64, lowN64], hb⟩⟩
  · exact ⟨_, _, alu64_mul a b , fun w => (refAlu64_mul a b w).mono fun e w' ⟨he, hb⟩ => ⟨by rw [he, same64_mul _ _ hx hy, lowN64, lowN64], hb⟩⟩
  · by_cases h0 : lowN 64 b = 0
    · have h0' : un b = 0 := by rwa [lowN64] at h0
      exact ⟨0, 84, Gives.same (alu64_div0 a b h0'), refAlu64_div0 a b h0⟩
    · have h0' : un b ≠ 0 := by rwa [lowN64] at h0
      exact ⟨_, _, alu64_div a b h0' , fun w => (refAlu64_div a b h0 w).mono fun e w' ⟨he, hb⟩ => ⟨by rw [he, same64_div _ _ hx hy, lowN64, lowN64], hb⟩⟩
  · by_cases h0 : lowN 64 b = 0
    · have h0' : un b = 0 := by rwa [lowN64] at h0
      exact ⟨0, 84, Gives.same (alu64_mod0 a b h0'), refAlu64_mod0 a b h0⟩
    · have h0' : un b ≠ 0 := by rwa [lowN64] at h0
      exact ⟨_, _, alu64_mod a b h0' , fun w => (refAlu64_mod a b h0 w).mono fun e w' ⟨he, hb⟩ => ⟨by rw [he, same64_mod _ _ hx hy, lowN64, lowN64], hb⟩⟩
  · by_cases h0 : lowN 64 b = 0
    · have h0' : un b = 0 := by rwa [lowN64] at h0
      exact ⟨0, 84, Gives.same (alu64_sdiv0 a b h0'), refAlu64_sdiv0 a b h0⟩
    · have h0' : un b ≠ 0 := by rwa [lowN64] at h0
      exact ⟨_, _, alu64_sdiv a b h0' , fun w => (refAlu64_sdiv a b h0 w).mono fun e w' ⟨he, hb⟩ => ⟨by rw [he, same64_sdiv _ _ hx hy, lowN64, lowN64], hb⟩⟩
  · by_cases h0 : lowN 64 b = 0
    · have h0' : un b = 0 := by rwa [lowN64] at h0
      exact ⟨0, 84, Gives.same (alu64_smod0 a b h0'), refAlu64_smod0 a b h0⟩
    · have h0' : un b ≠ 0 := by rwa [lowN64] at h0
      exact ⟨_, _, alu64_smod a b h0' , fun w => (refAlu64_smod a b h0 w).mono fun e w' ⟨he, hb⟩ => ⟨by rw [he, same64_smod _ _ hx hy, lowN64, lowN64], hb⟩⟩
  · exact ⟨_, _, alu64_or a b , fun w => (refAlu64_or a b w).mono fun e w' ⟨he, hb⟩ => ⟨by rw [he, same64_or _ _ hx hy, lowN64, lowN64], hb⟩⟩
  · exact ⟨_, _, alu64_and a b , fun w => (refAlu64_and a b w).mono fun e w' ⟨he, hb⟩ => ⟨by rw [he, same64_and _ _ hx hy, lowN64, lowN64], hb⟩⟩
  · exact ⟨_, _, alu64_xor a b , fun w => (refAlu64_xor a b w).mono fun e w' ⟨he, hb⟩ => ⟨by rw [he, same64_xor _ _ hx hy, lowN64, lowN64], hb⟩⟩
  · exact ⟨_, _, alu64_lsh a b , fun w => (refAlu64_lsh a b w).mono fun e w' ⟨he, hb⟩ => ⟨by rw [he, same64_lsh _ _ hx hy, lowN64, lowN64], hb⟩⟩
  · exact ⟨_, _, alu64_rsh a b , fun w => (refAlu64_rsh a b w).mono fun e w' ⟨he, hb⟩ => ⟨by rw [he, same64_rsh _ _ hx hy, lowN64, lowN64], hb⟩⟩
  · exact ⟨_, _, alu64_arsh a b , fun w => (refAlu64_arsh a b w).mono fun e w' ⟨he, hb⟩ => ⟨by rw [he, same64_arsh _ _ hx hy, lowN64, lowN64], hb⟩⟩
  · exact ⟨_, _, alu64_neg a b , fun w => (refAlu64_neg a b w).mono fun e w' ⟨he, hb⟩ => ⟨by rw [he, same64_neg _ _ hx hy, lowN64, lowN64], hb⟩⟩
  · exact ⟨_, _, alu64_mov a b , fun w => (refAlu64_mov a b w).mono fun e w' ⟨he, hb⟩ => ⟨by rw [he, same64_mov _ _ hx hy, lowN64, lowN64], hb⟩⟩

/-- Both answer the same, on 32 bits. -/
theorem both32 (op a b : Int) (h : 1 ≤ op ∧ op ≤ 15) : ∃ v g, Gives 31 #[.int .i64 op, .bool true, .int .i64 a, .int .i64 b] v g ∧ Gives 13 #[.int .i64 op, .bool true, .int .i64 a, .int .i64 b] v g := by
  have hx := lowN_lt 32 a
  have hy := lowN_lt 32 b
  have hcase : op = 1 ∨ op = 2 ∨ op = 3 ∨ op = 4 ∨ op = 5 ∨ op = 6 ∨ op = 7 ∨ op = 8 ∨ op = 9 ∨ op = 10 ∨ op = 11 ∨ op = 12 ∨ op = 13 ∨ op = 14 ∨ op = 15 := by omega
  rcases hcase with rfl | rfl | rfl | rfl | rfl | rfl | rfl | rfl | rfl | rfl | rfl | rfl | rfl | rfl | rfl
  · exact ⟨_, _, alu32_add a b , fun w => (refAlu32_add a b w).mono fun e w' ⟨he, hb⟩ => ⟨by
      have hs := same32_add _ _ hx hy
      have hlt := Nat.mod_lt (val32_add (lowN 32 a) (lowN 32 b)) (Nat.two_pow_pos 32)
      rw [he, IntWalk.wrap64_in _ (by omega), hs], hb⟩⟩
  · exact ⟨_, _, alu32_sub a b , fun w => (refAlu32_sub a b w).mono fun e w' ⟨he, hb⟩ => ⟨by
      have hs := same32_sub _ _ hx hy
      have hlt := Nat.mod_lt (val32_sub (lowN 32 a) (lowN 32 b)) (Nat.two_pow_pos 32)
      rw [he, IntWalk.wrap64_in _ (by omega), hs], hb⟩⟩
  · exact ⟨_, _, alu32_mul a b , fun w => (refAlu32_mul a b w).mono fun e w' ⟨he, hb⟩ => ⟨by
      have hs := same32_mul _ _ hx hy
      have hlt := Nat.mod_lt (val32_mul (lowN 32 a) (lowN 32 b)) (Nat.two_pow_pos 32)
      rw [he, IntWalk.wrap64_in _ (by omega), hs], hb⟩⟩
  · by_cases h0 : lowN 32 b = 0
    · skip
      exact ⟨0, 84, Gives.same (alu32_div0 a b h0), refAlu32_div0 a b h0⟩
    · skip
      exact ⟨_, _, alu32_div a b h0 , fun w => (refAlu32_div a b h0 w).mono fun e w' ⟨he, hb⟩ => ⟨by
      have hs := same32_div _ _ hx hy
      have hlt := Nat.mod_lt (val32_div (lowN 32 a) (lowN 32 b)) (Nat.two_pow_pos 32)
      rw [he, IntWalk.wrap64_in _ (by omega), hs], hb⟩⟩
  · by_cases h0 : lowN 32 b = 0
    · skip
      exact ⟨0, 84, Gives.same (alu32_mod0 a b h0), refAlu32_mod0 a b h0⟩
    · skip
      exact ⟨_, _, alu32_mod a b h0 , fun w => (refAlu32_mod a b h0 w).mono fun e w' ⟨he, hb⟩ => ⟨by
      have hs := same32_mod _ _ hx hy
      have hlt := Nat.mod_lt (val32_mod (lowN 32 a) (lowN 32 b)) (Nat.two_pow_pos 32)
      rw [he, IntWalk.wrap64_in _ (by omega), hs], hb⟩⟩
  · by_cases h0 : lowN 32 b = 0
    · skip
      exact ⟨0, 84, Gives.same (alu32_sdiv0 a b h0), refAlu32_sdiv0 a b h0⟩
    · skip
      exact ⟨_, _, alu32_sdiv a b h0 , fun w => (refAlu32_sdiv a b h0 w).mono fun e w' ⟨he, hb⟩ => ⟨by
      have hs := same32_sdiv _ _ hx hy
      have hlt := Nat.mod_lt (val32_sdiv (lowN 32 a) (lowN 32 b)) (Nat.two_pow_pos 32)
      rw [he, IntWalk.wrap64_in _ (by omega), hs], hb⟩⟩
  · by_cases h0 : lowN 32 b = 0
    · skip
      exact ⟨0, 84, Gives.same (alu32_smod0 a b h0), refAlu32_smod0 a b h0⟩
    · skip
      exact ⟨_, _, alu32_smod a b h0 , fun w => (refAlu32_smod a b h0 w).mono fun e w' ⟨he, hb⟩ => ⟨by
      have hs := same32_smod _ _ hx hy
      have hlt := Nat.mod_lt (val32_smod (lowN 32 a) (lowN 32 b)) (Nat.two_pow_pos 32)
      rw [he, IntWalk.wrap64_in _ (by omega), hs], hb⟩⟩
  · exact ⟨_, _, alu32_or a b , fun w => (refAlu32_or a b w).mono fun e w' ⟨he, hb⟩ => ⟨by
      have hs := same32_or _ _ hx hy
      have hlt := Nat.mod_lt (val32_or (lowN 32 a) (lowN 32 b)) (Nat.two_pow_pos 32)
      rw [he, IntWalk.wrap64_in _ (by omega), hs], hb⟩⟩
  · exact ⟨_, _, alu32_and a b , fun w => (refAlu32_and a b w).mono fun e w' ⟨he, hb⟩ => ⟨by
      have hs := same32_and _ _ hx hy
      have hlt := Nat.mod_lt (val32_and (lowN 32 a) (lowN 32 b)) (Nat.two_pow_pos 32)
      rw [he, IntWalk.wrap64_in _ (by omega), hs], hb⟩⟩
  · exact ⟨_, _, alu32_xor a b , fun w => (refAlu32_xor a b w).mono fun e w' ⟨he, hb⟩ => ⟨by
      have hs := same32_xor _ _ hx hy
      have hlt := Nat.mod_lt (val32_xor (lowN 32 a) (lowN 32 b)) (Nat.two_pow_pos 32)
      rw [he, IntWalk.wrap64_in _ (by omega), hs], hb⟩⟩
  · exact ⟨_, _, alu32_lsh a b , fun w => (refAlu32_lsh a b w).mono fun e w' ⟨he, hb⟩ => ⟨by
      have hs := same32_lsh _ _ hx hy
      have hlt := Nat.mod_lt (val32_lsh (lowN 32 a) (lowN 32 b)) (Nat.two_pow_pos 32)
      rw [he, IntWalk.wrap64_in _ (by omega), hs], hb⟩⟩
  · exact ⟨_, _, alu32_rsh a b , fun w => (refAlu32_rsh a b w).mono fun e w' ⟨he, hb⟩ => ⟨by
      have hs := same32_rsh _ _ hx hy
      have hlt := Nat.mod_lt (val32_rsh (lowN 32 a) (lowN 32 b)) (Nat.two_pow_pos 32)
      rw [he, IntWalk.wrap64_in _ (by omega), hs], hb⟩⟩
  · exact ⟨_, _, alu32_arsh a b , fun w => (refAlu32_arsh a b w).mono fun e w' ⟨he, hb⟩ => ⟨by
      have hs := same32_arsh _ _ hx hy
      have hlt := Nat.mod_lt (val32_arsh (lowN 32 a) (lowN 32 b)) (Nat.two_pow_pos 32)
      rw [he, IntWalk.wrap64_in _ (by omega), hs], hb⟩⟩
  · exact ⟨_, _, alu32_neg a b , fun w => (refAlu32_neg a b w).mono fun e w' ⟨he, hb⟩ => ⟨by
      have hs := same32_neg _ _ hx hy
      have hlt := Nat.mod_lt (val32_neg (lowN 32 a) (lowN 32 b)) (Nat.two_pow_pos 32)
      rw [he, IntWalk.wrap64_in _ (by omega), hs], hb⟩⟩
  · exact ⟨_, _, alu32_mov a b , fun w => (refAlu32_mov a b w).mono fun e w' ⟨he, hb⟩ => ⟨by
      have hs := same32_mov _ _ hx hy
      have hlt := Nat.mod_lt (val32_mov (lowN 32 a) (lowN 32 b)) (Nat.two_pow_pos 32)
      rw [he, IntWalk.wrap64_in _ (by omega), hs], hb⟩⟩

end Go.Proofs.YtcmplcdbkoodpaaGreatDoor
