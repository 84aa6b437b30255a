/-
  Turned bytes and extended signs: plain facts, and the program's Swap under one contract.
-/
import Derived.Test.YtcmplcdbkoodpaaGreatDoorBackA
import Derived.Test.YtcmplcdbkoodpaaGreatDoorReSw
import Derived.Test.YtcmplcdbkoodpaaGreatDoorExtend
namespace Go.Proofs.YtcmplcdbkoodpaaGreatDoor
open Go.RowKit
set_option linter.unusedVariables false

theorem putl_snoc (k : Nat) (v : Int) : putl (k + 1) v = putl k v ++ [v / 2 ^ (8 * k) % 256] := by
  unfold putl
  rw [List.range_succ, List.map_append]; rfl
theorem pow_cast (n : Nat) : ((2 ^ n : Nat) : Int) = (2 : Int) ^ n := by simp
theorem putl_rev (k : Nat) : ∀ x : Nat, putl k ((rev k x : Nat) : Int) = (putl k (x : Int)).reverse := by
  induction k with
  | zero => intro x; rfl
  | succ k ih =>
    intro x
    have hl := rev_lt k (x / 256)
    have e256 : (256 : Nat) ^ k = 2 ^ (8 * k) := by rw [Nat.pow_mul]
    rw [e256] at hl
    have hr : rev (k + 1) x = x % 256 * 2 ^ (8 * k) + rev k (x / 256) := by
      show x % 256 * 256 ^ k + rev k (x / 256) = _
      rw [e256]
    have hc : ((rev (k + 1) x : Nat) : Int) = ((rev k (x / 256) : Nat) : Int) + 2 ^ (8 * k) * ((x % 256 : Nat) : Int) := by
      rw [hr, Int.natCast_add, Int.natCast_mul, pow_cast, Int.mul_comm]; omega
    rw [putl_snoc, putl_succ k (x : Int), List.reverse_cons]
    have h1 : putl k ((rev (k + 1) x : Nat) : Int) = putl k ((rev k (x / 256) : Nat) : Int) := by
      refine putl_congr k _ _ ?_
      rw [hc, Int.add_mul_emod_self_left]
    have h2 : ((rev (k + 1) x : Nat) : Int) / 2 ^ (8 * k) % 256 = (x : Int) % 256 := by
      have hp := pow8_pos k
      have hq := pow_cast (8 * k)
      rw [hc, Int.add_mul_ediv_left _ _ (by omega), Int.ediv_eq_zero_of_lt (by omega) (by omega)]
      omega
    rw [h1, h2, ih (x / 256)]
    have : (((x / 256 : Nat) : Int)) = (x : Int) / 256 := by omega
    rw [this]
theorem low_cast (k : Nat) (a : Int) (hk : k ≤ 64) : ((lowN k a : Nat) : Int) = a % 2 ^ k := by
  unfold lowN
  have e : (18446744073709551616 : Int) = 2 ^ k * 2 ^ (64 - k) := by
    rw [← Int.pow_add, show k + (64 - k) = 64 by omega]; rfl
  rw [Int.natCast_emod, un_cast, pow_cast, e, Int.emod_emod_of_dvd _ ⟨_, rfl⟩]
theorem low_congr (k : Nat) (a b : Int) (hk : k ≤ 64) (h : a % 2 ^ k = b % 2 ^ k) : lowN k a = lowN k b := by
  have h1 := low_cast k a hk
  have h2 := low_cast k b hk
  omega
theorem putl_low (k : Nat) (a : Int) (hk : k ≤ 8) : putl k ((lowN (8 * k) a : Nat) : Int) = putl k a := by
  refine putl_congr k _ _ ?_
  rw [low_cast _ _ (by omega), Int.emod_emod_of_dvd _ (Int.dvd_refl _)]
theorem low_nat (k : Nat) (x : Nat) (hk : k ≤ 8) (hx : x < 2 ^ (8 * k)) : lowN (8 * k) (wrap64 (x : Int)) = x := by
  have h1 := low_cast (8 * k) (wrap64 (x : Int)) (by omega)
  rw [wrap64_mod8 _ k hk] at h1
  have h2 : ((x % 2 ^ (8 * k) : Nat) : Int) = (x : Int) % 2 ^ (8 * k) := by rw [Int.natCast_emod, pow_cast]
  rw [Nat.mod_eq_of_lt hx] at h2
  omega
theorem nat_of_putl (k x y : Nat) (hx : x < 2 ^ (8 * k)) (hy : y < 2 ^ (8 * k)) (h : putl k (x : Int) = putl k (y : Int)) : x = y := by
  have h1 := num_putl k (x : Int)
  have h2 := num_putl k (y : Int)
  rw [h] at h1
  have e1 : ((x % 2 ^ (8 * k) : Nat) : Int) = (x : Int) % 2 ^ (8 * k) := by rw [Int.natCast_emod, pow_cast]
  have e2 : ((y % 2 ^ (8 * k) : Nat) : Int) = (y : Int) % 2 ^ (8 * k) := by rw [Int.natCast_emod, pow_cast]
  rw [Nat.mod_eq_of_lt hx] at e1
  rw [Nat.mod_eq_of_lt hy] at e2
  omega
theorem rev_lt2 (k x : Nat) : rev k x < 2 ^ (8 * k) := by
  have := rev_lt k x
  rwa [pow256] at this
theorem rev_rev (k x : Nat) (hx : x < 2 ^ (8 * k)) : rev k (rev k x) = x :=
  nat_of_putl k _ _ (rev_lt2 _ _) hx (by rw [putl_rev, putl_rev, List.reverse_reverse])
/-- Turned bytes. -/
theorem putl_swap (k : Nat) (a : Int) (hk : k ≤ 8) : putl k (wrap64 ((swp k true a : Nat) : Int)) = (putl k a).reverse := by
  have e : swp k true a = rev k (lowN (8 * k) a) := rfl
  rw [e, ← putl_low k a hk, ← putl_rev]
  refine putl_congr k _ _ (wrap64_mod8 _ k hk)
theorem swap_swap (k : Nat) (a : Int) (hk : k ≤ 8) : swp k true (wrap64 ((swp k true a : Nat) : Int)) = swp k false a := by
  have e : swp k true a = rev k (lowN (8 * k) a) := rfl
  have e2 : ∀ z, swp k true z = rev k (lowN (8 * k) z) := fun z => rfl
  have e3 : swp k false a = lowN (8 * k) a := rfl
  rw [e2, e, e3, low_nat k _ hk (rev_lt2 _ _), rev_rev k _ (lowN_lt _ _)]
theorem swap_low (k : Nat) (a : Int) (hk : k ≤ 7) : wrap64 ((swp k false a : Nat) : Int) = a % 2 ^ (8 * k) := by
  have e3 : swp k false a = lowN (8 * k) a := rfl
  have hl := lowN_lt (8 * k) a
  have h2 : 2 ^ (8 * k) ≤ 2 ^ 56 := Nat.pow_le_pow_right (by decide) (by omega)
  have e56 : (2 : Nat) ^ 56 = 72057594037927936 := rfl
  rw [e56] at h2
  rw [e3, ← low_cast _ _ (by omega)]
  generalize lowN (8 * k) a = z at hl ⊢
  exact IntWalk.wrap64_in _ (by omega)
theorem swap_64 (a : Int) (ra : -9223372036854775808 ≤ a ∧ a ≤ 9223372036854775807) : wrap64 ((swp 8 false a : Nat) : Int) = a := by
  have e3 : swp 8 false a = lowN 64 a := rfl
  have h := low_cast 64 a (by decide)
  have e : (2 : Int) ^ 64 = 18446744073709551616 := rfl
  rw [e] at h
  rw [e3, h]; unfold wrap64; omega
theorem swap_any (m k : Nat) (t : Bool) (a : Int) (ra : -9223372036854775808 ≤ a ∧ a ≤ 9223372036854775807) (h : m = 2 ∨ m = 4 ∨ m = 8) (hk : k = 8 * m) (w : World) :
    Calls Tryz.prog 48 #[.int .i64 k, .bool t, .int .i64 a] w fun e w' => e = .returned (.int .i64 (wrap64 ((swp m t a : Nat) : Int))) ∧ w = w' := by
  subst hk
  cases t
  · rcases h with rfl | rfl | rfl
    · exact swap16_false a ra w
    · exact swap32_false a ra w
    · exact swap64_false a ra w
  · rcases h with rfl | rfl | rfl
    · exact swap16_true a ra w
    · exact swap32_true a ra w
    · exact swap64_true a ra w
/-! ### Extended signs -/
theorem ext_any (m k : Nat) (a : Int) (h : m = 1 ∨ m = 2 ∨ m = 4) (hk : k = 8 * m) (w : World) :
    Calls Tryz.prog 56 #[.int .i64 k, .bool false, .int .i64 a] w fun e w' => e = .returned (.int .i64 (ext k a)) ∧ w = w' := by
  subst hk
  rcases h with rfl | rfl | rfl
  · exact extend_wide8 a w
  · exact extend_wide16 a w
  · exact extend_wide32 a w
theorem ext_mod (k : Nat) (a : Int) (hk : k ≤ 64) : ext k a % 2 ^ k = a % 2 ^ k := by
  unfold ext
  rw [sgn_mod k _ _ rfl (Int.pow_pos (by decide)), low_cast k a hk, Int.emod_emod_of_dvd _ (Int.dvd_refl _)]
theorem ext_ext (k : Nat) (a : Int) (hk : k ≤ 64) : ext k (ext k a) = ext k a := by
  have h := low_congr k _ _ hk (ext_mod k a hk)
  show sgn k (lowN k (ext k a)) = sgn k (lowN k a)
  rw [h]
theorem ext_get (m : Nat) (a : Int) (h1 : 1 ≤ m) (h7 : m ≤ 7) : getv true (putl m a) = ext (8 * m) a := by
  rw [(get_put m a h1 h7).2]
  have h := num_putl m a
  have h2 := low_cast (8 * m) a (by omega)
  have : num (putl m a) = lowN (8 * m) a := by omega
  rw [this]; rfl
theorem ext_top (k : Nat) (a : Int) (hk : 1 ≤ k) (hk2 : k ≤ 64) : ext k a / 2 ^ (k - 1) = 0 ∨ ext k a / 2 ^ (k - 1) = -1 := by
  have hl := lowN_lt k a
  have hN := pow_cast (k - 1)
  have hp : (0 : Int) < 2 ^ (k - 1) := Int.pow_pos (by decide)
  have hd : (2 : Nat) ^ k = 2 * 2 ^ (k - 1) := by
    rw [← Nat.pow_succ']; congr 1; omega
  have hM := pow_cast k
  unfold ext sgn
  rw [← hM, ← hN]
  rw [← hN] at hp
  generalize lowN k a = z at hl ⊢
  rw [hd] at hl ⊢
  generalize 2 ^ (k - 1) = h at *
  split
  · left; exact Int.ediv_eq_zero_of_lt (by omega) (by omega)
  · right
    have e : (z : Int) - ((2 * h : Nat) : Int) = (z - h) + h * (-1) := by omega
    rw [e, Int.add_mul_ediv_left _ _ (by omega), Int.ediv_eq_zero_of_lt (by omega) (by omega)]; rfl
theorem ext_bounds (k : Nat) (a : Int) (hk : 0 < k ∧ k ≤ 32) : -9223372036854775808 ≤ ext k a ∧ ext k a ≤ 9223372036854775807 := by
  have := ext_range k a hk; omega
end Go.Proofs.YtcmplcdbkoodpaaGreatDoor
