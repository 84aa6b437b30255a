/-
  The program's Alu in plain integers; the small functions of the outright laws.
-/
import Derived.Test.YtcmpohippbjpcaaWordSame
namespace Go.Proofs.Ytcmpohippbjpcaa
open Go.RowKit
set_option linter.unusedVariables false

theorem wrap64_congr {x y : Int} (h : x % 18446744073709551616 = y % 18446744073709551616) : wrap64 x = wrap64 y := by unfold wrap64; omega
theorem wrap64_mod (x : Int) : wrap64 x % 18446744073709551616 = x % 18446744073709551616 := by unfold wrap64; omega
theorem wrap64_id {x : Int} (h : -9223372036854775808 ≤ x ∧ x ≤ 9223372036854775807) : wrap64 x = x := IntWalk.wrap64_in x h
theorem wrap64_range (x : Int) : -9223372036854775808 ≤ wrap64 x ∧ wrap64 x ≤ 9223372036854775807 := by unfold wrap64; omega
theorem toNat_wrap (z : Int) : wrap64 (((z % 2 ^ 64).toNat : Nat) : Int) = wrap64 z := by
  have e : (2 : Int) ^ 64 = 18446744073709551616 := rfl
  rw [e]; unfold wrap64; omega
theorem sgn_un {a : Int} (h : -9223372036854775808 ≤ a ∧ a ≤ 9223372036854775807) : sgn 64 (un a) = a := by
  rw [sgn64 (un_lt a)]; exact wrap64_un h.1 h.2
theorem un_ne {b : Int} (h : -9223372036854775808 ≤ b ∧ b ≤ 9223372036854775807) (h0 : b ≠ 0) : un b ≠ 0 := by unfold un; omega

theorem gives_add (a b : Int) : Gives 35 #[.int .i64 1, .bool false, .int .i64 a, .int .i64 b] (wrap64 (a + b)) 0 := by
  have h := alu64_add a b
  rwa [show wrap64 ((w_add 64 (un a) (un b) : Nat) : Int) = wrap64 (a + b) from by
    unfold w_add; have h1 := un_cast a; have h2 := un_cast b; exact wrap64_congr (by omega)] at h
theorem gives_sub (a b : Int) : Gives 35 #[.int .i64 2, .bool false, .int .i64 a, .int .i64 b] (wrap64 (a - b)) 0 := by
  have h := alu64_sub a b
  rwa [show wrap64 ((w_sub 64 (un a) (un b) : Nat) : Int) = wrap64 (a - b) from by
    unfold w_sub; have h1 := un_cast a; have h2 := un_cast b; have h3 := un_lt b; exact wrap64_congr (by omega)] at h
theorem gives_mul (a b : Int) : Gives 35 #[.int .i64 3, .bool false, .int .i64 a, .int .i64 b] (wrap64 (a * b)) 0 := by
  have h := alu64_mul a b
  rwa [show wrap64 ((w_mul 64 (un a) (un b) : Nat) : Int) = wrap64 (a * b) from by
    unfold w_mul; have h1 := un_cast a; have h2 := un_cast b
    refine wrap64_congr ?_
    rw [Int.natCast_emod, Int.natCast_mul, h1, h2]
    have e : ((2 ^ 64 : Nat) : Int) = 18446744073709551616 := rfl
    rw [e, Int.emod_emod_of_dvd _ (Int.dvd_refl _), ← Int.mul_emod]] at h
theorem gives_or (a b : Int) : Gives 35 #[.int .i64 8, .bool false, .int .i64 a, .int .i64 b] (wrap64 ((un a ||| un b : Nat) : Int)) 0 := alu64_or a b
theorem gives_and (a b : Int) : Gives 35 #[.int .i64 9, .bool false, .int .i64 a, .int .i64 b] (wrap64 ((un a &&& un b : Nat) : Int)) 0 := alu64_and a b
theorem gives_xor (a b : Int) : Gives 35 #[.int .i64 10, .bool false, .int .i64 a, .int .i64 b] (wrap64 ((un a ^^^ un b : Nat) : Int)) 0 := alu64_xor a b
theorem gives_neg (a b : Int) : Gives 35 #[.int .i64 14, .bool false, .int .i64 a, .int .i64 b] (wrap64 (-a)) 0 := by
  have h := alu64_neg a b
  rwa [show wrap64 ((w_neg 64 (un a) (un b) : Nat) : Int) = wrap64 (-a) from by
    unfold w_neg; have h1 := un_cast a; have h3 := un_lt a; exact wrap64_congr (by omega)] at h
theorem gives_mov (a b : Int) (hb : -9223372036854775808 ≤ b ∧ b ≤ 9223372036854775807) : Gives 35 #[.int .i64 15, .bool false, .int .i64 a, .int .i64 b] b 0 := by
  have h := alu64_mov a b
  rwa [show wrap64 ((w_mov 64 (un a) (un b) : Nat) : Int) = b from wrap64_un hb.1 hb.2] at h
theorem gives_div (a b : Int) (h0 : un b ≠ 0) : Gives 35 #[.int .i64 4, .bool false, .int .i64 a, .int .i64 b] (wrap64 ((un a / un b : Nat) : Int)) 0 := alu64_div a b h0
theorem gives_mod (a b : Int) (h0 : un b ≠ 0) : Gives 35 #[.int .i64 5, .bool false, .int .i64 a, .int .i64 b] (wrap64 ((un a % un b : Nat) : Int)) 0 := alu64_mod a b h0
theorem gives_sdiv (a b : Int) (ha : -9223372036854775808 ≤ a ∧ a ≤ 9223372036854775807) (hb : -9223372036854775808 ≤ b ∧ b ≤ 9223372036854775807) (h0 : b ≠ 0) :
    Gives 35 #[.int .i64 6, .bool false, .int .i64 a, .int .i64 b] (wrap64 (a.tdiv b)) 0 := by
  have h := alu64_sdiv a b (un_ne hb h0)
  rwa [show wrap64 ((w_sdiv 64 (un a) (un b) : Nat) : Int) = wrap64 (a.tdiv b) from by
    unfold w_sdiv; rw [sgn_un ha, sgn_un hb, toNat_wrap]] at h
theorem gives_smod (a b : Int) (ha : -9223372036854775808 ≤ a ∧ a ≤ 9223372036854775807) (hb : -9223372036854775808 ≤ b ∧ b ≤ 9223372036854775807) (h0 : b ≠ 0) :
    Gives 35 #[.int .i64 7, .bool false, .int .i64 a, .int .i64 b] (wrap64 (a.tmod b)) 0 := by
  have h := alu64_smod a b (un_ne hb h0)
  rwa [show wrap64 ((w_smod 64 (un a) (un b) : Nat) : Int) = wrap64 (a.tmod b) from by
    unfold w_smod; rw [sgn_un ha, sgn_un hb, toNat_wrap]] at h
theorem gives_lsh (a b : Int) : Gives 35 #[.int .i64 11, .bool false, .int .i64 a, .int .i64 b] (wrap64 (a * 2 ^ (un b % 64))) 0 := by
  have h := alu64_lsh a b
  rwa [show wrap64 ((w_lsh 64 (un a) (un b) : Nat) : Int) = wrap64 (a * 2 ^ (un b % 64)) from by
    unfold w_lsh; have h1 := un_cast a
    refine wrap64_congr ?_
    rw [Int.natCast_emod, Int.natCast_mul, h1]
    have e : ((2 ^ 64 : Nat) : Int) = 18446744073709551616 := rfl
    rw [e, Int.emod_emod_of_dvd _ (Int.dvd_refl _), Int.mul_emod, Int.emod_emod_of_dvd _ (Int.dvd_refl _), ← Int.mul_emod]
    simp] at h
theorem gives_rsh (a b : Int) : Gives 35 #[.int .i64 12, .bool false, .int .i64 a, .int .i64 b] (wrap64 ((un a / 2 ^ (un b % 64) : Nat) : Int)) 0 := alu64_rsh a b
theorem gives_arsh (a b : Int) (ha : -9223372036854775808 ≤ a ∧ a ≤ 9223372036854775807) : Gives 35 #[.int .i64 13, .bool false, .int .i64 a, .int .i64 b] (wrap64 (a / 2 ^ (un b % 64))) 0 := by
  have h := alu64_arsh a b
  rwa [show wrap64 ((w_arsh 64 (un a) (un b) : Nat) : Int) = wrap64 (a / 2 ^ (un b % 64)) from by
    unfold w_arsh; rw [sgn_un ha, toNat_wrap]] at h

set_option maxHeartbeats 400000 in
theorem of_at (op a b v z : Int) (nar : Bool) (h : Gives 35 #[.int .i64 op, .bool nar, .int .i64 a, .int .i64 b] v 0) (hz : v = z) (w : World) :
    Calls Try.prog 37 #[.int .i64 op, .bool nar, .int .i64 a, .int .i64 b] w fun e w' => e = .returned (.int .i64 z) ∧ Below w.heap.size w w' := by
  subst hz
  have H := Lib.hid h
  clear h
  go_enter Try.func37, Try.ntmps37
  go_wp2_with fail
  refine (H.out _).mono ?_
  rintro e w1 ⟨rfl, hB⟩
  go_wp2
  go_ret
  exact ⟨rfl, hB⟩
set_option maxHeartbeats 400000 in
theorem is_at (op a b v want : Int) (nar : Bool) (h : Gives 35 #[.int .i64 op, .bool nar, .int .i64 a, .int .i64 b] v 0) (hz : v = want) (w : World) :
    Calls Try.prog 36 #[.int .i64 op, .bool nar, .int .i64 a, .int .i64 b, .int .i64 want] w fun e w' => e = .returned (.bool true) ∧ Below w.heap.size w w' := by
  subst hz
  have H := Lib.hid h
  clear h
  go_enter Try.func36, Try.ntmps36
  go_wp2_with fail
  refine (H.out _).mono ?_
  rintro e w1 ⟨rfl, hB⟩
  go_wp2
  go_ret
  exact ⟨rfl, hB⟩

/-- The low k bits of a number. -/
theorem low_of (v : Int) (k : Nat) (kk : Int) (hkk : kk = k) (hk : k < 63) (w : World) :
    Calls Try.prog 28 #[.int .i64 v, .int .i64 kk] w fun e w' => e = .returned (.int .i64 (v % 2 ^ k)) ∧ w = w' := by
  subst hkk
  have hp : (2 : Int) ^ k ≤ 2 ^ 62 := by
    have : (2 : Nat) ^ k ≤ 2 ^ 62 := Nat.pow_le_pow_right (by decide) (by omega)
    exact_mod_cast this
  have hq : (0 : Int) < 2 ^ k := Int.pow_pos (by decide)
  have e62 : (2 : Int) ^ 62 = 4611686018427387904 := rfl
  rw [e62] at hp
  have hm := i64_and_mask v k (by omega)
  have HM := Lib.hid hm
  clear hm e62
  go_enter Try.func28, Try.ntmps28
  go_wp2
  go_ret
  exact ⟨ret_int HM.out, rfl⟩

theorem xor_least (a : Int) (ha : -9223372036854775808 ≤ a ∧ a ≤ 9223372036854775807) : bits .xor .i64 a (-9223372036854775808) = (un a : Int) - 9223372036854775808 := by
  rw [i64_xor]
  have e : un (-9223372036854775808) = 2 ^ 63 := by decide
  rw [e]
  have hlt := un_lt a
  have hx : un a ^^^ 2 ^ 63 < 2 ^ 64 := Nat.xor_lt_two_pow (by omega) (by decide)
  have h : un a ^^^ 2 ^ 63 = if un a < 2 ^ 63 then un a + 2 ^ 63 else un a - 2 ^ 63 := by
    split
    · rename_i h
      have h1 := Nat.two_pow_add_eq_or_of_lt (i := 63) h 1
      rw [Nat.mul_one] at h1
      rw [Nat.add_comm, h1]
      apply Nat.eq_of_testBit_eq
      intro i
      rw [Nat.testBit_xor, Nat.testBit_or, Nat.testBit_two_pow]
      by_cases hi : 63 = i
      · subst hi; rw [Nat.testBit_lt_two_pow h]; simp
      · simp [hi]
    · rename_i h
      have h2 : un a - 2 ^ 63 < 2 ^ 63 := by omega
      have h1 := Nat.two_pow_add_eq_or_of_lt (i := 63) h2 1
      rw [Nat.mul_one] at h1
      have h3 : un a = 2 ^ 63 ||| (un a - 2 ^ 63) := by rw [← h1]; omega
      apply Nat.eq_of_testBit_eq
      intro i
      conv => lhs; rw [h3]
      rw [Nat.testBit_xor, Nat.testBit_or, Nat.testBit_two_pow]
      by_cases hi : 63 = i
      · subst hi; rw [Nat.testBit_lt_two_pow h2]; simp
      · simp [hi]
  rw [h]
  unfold wrap64
  split <;> omega

/-- Is a less than b without signs? -/
theorem ahead_of (a b : Int) (ha : -9223372036854775808 ≤ a ∧ a ≤ 9223372036854775807) (hb : -9223372036854775808 ≤ b ∧ b ≤ 9223372036854775807) (p : Bool) (hp : p = decide (un a < un b)) (w : World) :
    Calls Try.prog 38 #[.int .i64 a, .int .i64 b] w fun e w' => e = .returned (.bool p) ∧ w = w' := by
  have HA := Lib.hid (xor_least a ha)
  have HB := Lib.hid (xor_least b hb)
  go_enter Try.func38, Try.ntmps38
  go_wp2
  go_ret
  refine ⟨ret_bool ?_, rfl⟩
  rw [HA.out, HB.out, hp, decide_eq_decide]
  omega
end Go.Proofs.Ytcmpohippbjpcaa
