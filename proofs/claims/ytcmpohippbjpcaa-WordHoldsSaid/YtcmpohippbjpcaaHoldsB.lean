/-
  The reference's Holds: plain facts, and no operation.
-/
import Derived.Test.YtcmpohippbjpcaaHoldsA
namespace Go.Proofs.Ytcmpohippbjpcaa
open Go.RowKit
set_option linter.unusedVariables false

/-- x with its bit m turned. -/
def flip (m x : Nat) : Nat := (x + 2 ^ m) % 2 ^ (m + 1)
theorem flip_lt (m x : Nat) : flip m x < 2 ^ (m + 1) := Nat.mod_lt _ (Nat.two_pow_pos _)
theorem flip_bit (m x t : Nat) (h : t < m) : bit (flip m x) t = bit x t := by
  unfold flip
  rw [bit_mod (by omega)]
  obtain ⟨d, rfl⟩ : ∃ d, m = t + (d + 1) := ⟨m - t - 1, by omega⟩
  unfold bit
  have e : x + 2 ^ (t + (d + 1)) = x + 2 ^ t * (2 * 2 ^ d) := by rw [Nat.pow_add, Nat.pow_succ']
  rw [e, Nat.add_mul_div_left _ _ (Nat.two_pow_pos t)]
  congr 1
  omega
theorem flip_top (m x : Nat) : bit (flip m x) m = 1 - bit x m := by
  unfold flip
  rw [bit_mod (by omega)]
  unfold bit
  have e : x + 2 ^ m = x + 2 ^ m * 1 := by rw [Nat.mul_one]
  rw [e, Nat.add_mul_div_left _ _ (Nat.two_pow_pos m)]
  omega
theorem flip_row (m x : Nat) : itab (m + 1) (fun t => if t = m then 1 - bit x m else bit x t) = itab (m + 1) (bit (flip m x)) := by
  refine itab_congr fun t ht => ?_
  by_cases h : t = m
  · subst h; rw [if_pos rfl, flip_top]
  · rw [if_neg h, flip_bit m x t (by omega)]
theorem sgn_flip64 {x : Nat} (h : x < 18446744073709551616) : sgn 64 x = ((flip 63 x : Nat) : Int) - 9223372036854775808 := by
  rw [sgn64 h]
  have e : ((flip 63 x : Nat) : Int) = ((x : Int) + 9223372036854775808) % 18446744073709551616 := by
    unfold flip
    rw [Int.natCast_emod, Int.natCast_add]
    rfl
  rw [e]
  generalize (x : Int) = z
  unfold wrap64
  omega
theorem sgn_flip32 {x : Nat} (h : x < 4294967296) : sgn 32 x = ((flip 31 x : Nat) : Int) - 2147483648 := by
  rw [sgn32 h]
  have e : ((flip 31 x : Nat) : Int) = ((x : Int) + 2147483648) % 4294967296 := by
    unfold flip
    rw [Int.natCast_emod, Int.natCast_add]
    rfl
  rw [e]
  generalize (x : Int) = z
  unfold wrap32
  omega
theorem set_none {x y n : Nat} (hx : x < 2 ^ n) (h : ∀ t, t < n → ¬ bit x t + bit y t = 2) : x &&& y = 0 := by
  refine bit_ext (n := n) (Nat.lt_of_le_of_lt Nat.and_le_left hx) (Nat.two_pow_pos n) fun t ht => ?_
  have h1 := h t ht
  rw [bit_test, bit_test] at h1
  rw [bit_test, bit_test, Nat.testBit_and, Nat.zero_testBit]
  cases hx : x.testBit t <;> cases hy : y.testBit t <;> simp [hx, hy] at h1 ⊢
theorem set_some {x y t : Nat} (h : bit x t + bit y t = 2) : ¬ x &&& y = 0 := by
  intro h0
  have h1 : bit (x &&& y) t = 0 := by rw [h0]; simp [bit]
  rw [bit_test, Nat.testBit_and] at h1
  rw [bit_test, bit_test] at h
  cases hx : x.testBit t <;> cases hy : y.testBit t <;> simp [hx, hy] at h1 h

set_option maxHeartbeats 1600000 in
theorem refHolds_other (op : Int) (nar : Bool) (a b : Int) (h : op < 27 ∨ 37 < op) : Says 50 #[.int .i64 op, .bool nar, .int .i64 a, .int .i64 b] false := by
  intro w
  have t27 : (op == 27) = false := by rw [beq_eq_false_iff_ne]; omega
  have t28 : (op == 28) = false := by rw [beq_eq_false_iff_ne]; omega
  have t29 : (op == 29) = false := by rw [beq_eq_false_iff_ne]; omega
  have t30 : (op == 30) = false := by rw [beq_eq_false_iff_ne]; omega
  have t31 : (op == 31) = false := by rw [beq_eq_false_iff_ne]; omega
  have t32 : (op == 32) = false := by rw [beq_eq_false_iff_ne]; omega
  have t33 : (op == 33) = false := by rw [beq_eq_false_iff_ne]; omega
  have t34 : (op == 34) = false := by rw [beq_eq_false_iff_ne]; omega
  have t35 : (op == 35) = false := by rw [beq_eq_false_iff_ne]; omega
  have t36 : (op == 36) = false := by rw [beq_eq_false_iff_ne]; omega
  have t37 : (op == 37) = false := by rw [beq_eq_false_iff_ne]; omega
  rcases h with h | h
  · have hg : ¬ (33 ≤ op) := by omega
    cases nar
    · obtain ⟨x, hxe⟩ : ∃ x, x = lowN 64 a := ⟨_, rfl⟩
      obtain ⟨y, hye⟩ : ∃ y, y = lowN 64 b := ⟨_, rfl⟩
      have hx : x < 2 ^ 64 := by rw [hxe]; exact lowN_lt 64 a
      have hy : y < 2 ^ 64 := by rw [hye]; exact lowN_lt 64 b
      have HXE := Lib.hid hxe
      have HYE := Lib.hid hye
      have HX := Lib.hid hx
      have HY := Lib.hid hy
      clear hxe hye hx hy
      go_enter Try.func50, Try.ntmps50
      go_wp2_with fail
      refine (width_wide _).mono ?_
      rintro e w0 ⟨rfl, rfl⟩
      go_wp2_with fail
      refine (row_any a 64 64 rfl (by decide) _).mono ?_
      rintro e w1 ⟨b1, rfl, hb1, hR1, hB1⟩
      go_wp2_with fail
      refine (width_wide _).mono ?_
      rintro e w1' ⟨rfl, rfl⟩
      go_wp2_with fail
      refine (row_any b 64 64 rfl (by decide) _).mono ?_
      rintro e w2 ⟨b2, rfl, hb2, hR2, hB2⟩
      have hX := row_low (hR1.below hB2 hR1.lt)
      have hY := row_low hR2
      rw [← HXE.out] at hX
      rw [← HYE.out] at hY
      have hs1 := hB1.size
      have hB02 := hB1.trans (hB2.mono hs1)
      have hs2 := hB02.size
      have hl1 := hR1.lt
      have hne : b1 ≠ b2 := by omega
      clear hR1 hR2 hB1 hB2
      clear HXE HYE
      clear hX hY HX HY
      go_wp2
      go_ret
      exact ⟨rfl, hB02⟩
    · obtain ⟨x, hxe⟩ : ∃ x, x = lowN 32 a := ⟨_, rfl⟩
      obtain ⟨y, hye⟩ : ∃ y, y = lowN 32 b := ⟨_, rfl⟩
      have hx : x < 2 ^ 32 := by rw [hxe]; exact lowN_lt 32 a
      have hy : y < 2 ^ 32 := by rw [hye]; exact lowN_lt 32 b
      have HXE := Lib.hid hxe
      have HYE := Lib.hid hye
      have HX := Lib.hid hx
      have HY := Lib.hid hy
      clear hxe hye hx hy
      go_enter Try.func50, Try.ntmps50
      go_wp2_with fail
      refine (width_narrow _).mono ?_
      rintro e w0 ⟨rfl, rfl⟩
      go_wp2_with fail
      refine (row_any a 32 32 rfl (by decide) _).mono ?_
      rintro e w1 ⟨b1, rfl, hb1, hR1, hB1⟩
      go_wp2_with fail
      refine (width_narrow _).mono ?_
      rintro e w1' ⟨rfl, rfl⟩
      go_wp2_with fail
      refine (row_any b 32 32 rfl (by decide) _).mono ?_
      rintro e w2 ⟨b2, rfl, hb2, hR2, hB2⟩
      have hX := row_low (hR1.below hB2 hR1.lt)
      have hY := row_low hR2
      rw [← HXE.out] at hX
      rw [← HYE.out] at hY
      have hs1 := hB1.size
      have hB02 := hB1.trans (hB2.mono hs1)
      have hs2 := hB02.size
      have hl1 := hR1.lt
      have hne : b1 ≠ b2 := by omega
      clear hR1 hR2 hB1 hB2
      clear HXE HYE
      clear hX hY HX HY
      go_wp2
      go_ret
      exact ⟨rfl, hB02⟩
  · have hg : ¬ (op ≤ 36) := by omega
    cases nar
    · obtain ⟨x, hxe⟩ : ∃ x, x = lowN 64 a := ⟨_, rfl⟩
      obtain ⟨y, hye⟩ : ∃ y, y = lowN 64 b := ⟨_, rfl⟩
      have hx : x < 2 ^ 64 := by rw [hxe]; exact lowN_lt 64 a
      have hy : y < 2 ^ 64 := by rw [hye]; exact lowN_lt 64 b
      have HXE := Lib.hid hxe
      have HYE := Lib.hid hye
      have HX := Lib.hid hx
      have HY := Lib.hid hy
      clear hxe hye hx hy
      go_enter Try.func50, Try.ntmps50
      go_wp2_with fail
      refine (width_wide _).mono ?_
      rintro e w0 ⟨rfl, rfl⟩
      go_wp2_with fail
      refine (row_any a 64 64 rfl (by decide) _).mono ?_
      rintro e w1 ⟨b1, rfl, hb1, hR1, hB1⟩
      go_wp2_with fail
      refine (width_wide _).mono ?_
      rintro e w1' ⟨rfl, rfl⟩
      go_wp2_with fail
      refine (row_any b 64 64 rfl (by decide) _).mono ?_
      rintro e w2 ⟨b2, rfl, hb2, hR2, hB2⟩
      have hX := row_low (hR1.below hB2 hR1.lt)
      have hY := row_low hR2
      rw [← HXE.out] at hX
      rw [← HYE.out] at hY
      have hs1 := hB1.size
      have hB02 := hB1.trans (hB2.mono hs1)
      have hs2 := hB02.size
      have hl1 := hR1.lt
      have hne : b1 ≠ b2 := by omega
      clear hR1 hR2 hB1 hB2
      clear HXE HYE
      clear hX hY HX HY
      go_wp2
      go_ret
      exact ⟨rfl, hB02⟩
    · obtain ⟨x, hxe⟩ : ∃ x, x = lowN 32 a := ⟨_, rfl⟩
      obtain ⟨y, hye⟩ : ∃ y, y = lowN 32 b := ⟨_, rfl⟩
      have hx : x < 2 ^ 32 := by rw [hxe]; exact lowN_lt 32 a
      have hy : y < 2 ^ 32 := by rw [hye]; exact lowN_lt 32 b
      have HXE := Lib.hid hxe
      have HYE := Lib.hid hye
      have HX := Lib.hid hx
      have HY := Lib.hid hy
      clear hxe hye hx hy
      go_enter Try.func50, Try.ntmps50
      go_wp2_with fail
      refine (width_narrow _).mono ?_
      rintro e w0 ⟨rfl, rfl⟩
      go_wp2_with fail
      refine (row_any a 32 32 rfl (by decide) _).mono ?_
      rintro e w1 ⟨b1, rfl, hb1, hR1, hB1⟩
      go_wp2_with fail
      refine (width_narrow _).mono ?_
      rintro e w1' ⟨rfl, rfl⟩
      go_wp2_with fail
      refine (row_any b 32 32 rfl (by decide) _).mono ?_
      rintro e w2 ⟨b2, rfl, hb2, hR2, hB2⟩
      have hX := row_low (hR1.below hB2 hR1.lt)
      have hY := row_low hR2
      rw [← HXE.out] at hX
      rw [← HYE.out] at hY
      have hs1 := hB1.size
      have hB02 := hB1.trans (hB2.mono hs1)
      have hs2 := hB02.size
      have hl1 := hR1.lt
      have hne : b1 ≠ b2 := by omega
      clear hR1 hR2 hB1 hB2
      clear HXE HYE
      clear hX hY HX HY
      go_wp2
      go_ret
      exact ⟨rfl, hB02⟩
end Go.Proofs.Ytcmpohippbjpcaa
