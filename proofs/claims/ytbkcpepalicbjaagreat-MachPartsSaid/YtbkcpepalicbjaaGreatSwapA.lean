/-
  The program's Swap.
-/
import Derived.Test.YtbkcpepalicbjaaGreatRevB
namespace Go.Proofs.YtbkcpepalicbjaaGreat
open Go.RowKit
set_option linter.unusedVariables false

/-- What Swap answers: k bytes, turned or not. -/
def swp (k : Nat) (t : Bool) (a : Int) : Nat := if t then rev k (lowN (8 * k) a) else lowN (8 * k) a
theorem swp_lt (k : Nat) (t : Bool) (a : Int) : swp k t a < 256 ^ k := by
  unfold swp
  have e : (256 : Nat) ^ k = 2 ^ (8 * k) := by rw [Nat.pow_mul]
  cases t
  · rw [if_neg (by decide), e]; exact lowN_lt _ _
  · rw [if_pos rfl]; exact rev_lt _ _
theorem low16_cast (a : Int) (U : Nat) (h : U = un a) : (U : Int) % 65536 = ((lowN 16 a : Nat) : Int) := by
  unfold lowN; rw [← h, Int.natCast_emod]; rfl
theorem low32_cast (a : Int) (U : Nat) (h : U = un a) : (U : Int) % 4294967296 = ((lowN 32 a : Nat) : Int) := by
  unfold lowN; rw [← h, Int.natCast_emod]; rfl

set_option maxHeartbeats 800000 in
theorem swap16_false (a : Int) (ra : -9223372036854775808 ≤ a ∧ a ≤ 9223372036854775807) (w : World) :
    Calls Tryz.prog 22 #[.int .i64 16, .bool false, .int .i64 a] w fun e w' => e = .returned (.int .i64 (wrap64 ((swp 2 false a : Nat) : Int))) ∧ w = w' := by
  obtain ⟨R, hR⟩ : ∃ R, R = swp 2 false a := ⟨_, rfl⟩
  rw [← hR]
  have hRl : R < 65536 := by rw [hR]; exact swp_lt 2 false a
  have hua := u64_un' a
  obtain ⟨U, hU⟩ : ∃ U, U = un a := ⟨_, rfl⟩
  have hUl : U < 18446744073709551616 := by rw [hU]; exact un_lt a
  rw [← hU] at hua
  have hl := low16_cast a U hU
  have hl2 : IntKind.u16.wrap (U : Int) = ((lowN 16 a : Nat) : Int) := by rw [IntKind.wrap_u16]; exact hl
  obtain ⟨X, hX⟩ : ∃ X, X = lowN 16 a := ⟨_, rfl⟩
  rw [← hX] at hl hl2
  have hXl : X < 65536 := by rw [hX]; exact lowN_lt 16 a
  have hRX : R = X := by rw [hR, hX]; rfl
  have HRX := Lib.hid hRX
  have HXL := Lib.hid hXl
  clear hRX hX hU hR
  go_enter Tryz.func22, Tryz.ntmps22
  go_wp2
  go_ret
  refine ⟨ret_int ?_, rfl⟩
  rw [HRX.out]
  all_goals (first | rfl | (have := HXL.out; (symm; unfold wrap64; omega)))

set_option maxHeartbeats 800000 in
theorem swap16_true (a : Int) (ra : -9223372036854775808 ≤ a ∧ a ≤ 9223372036854775807) (w : World) :
    Calls Tryz.prog 22 #[.int .i64 16, .bool true, .int .i64 a] w fun e w' => e = .returned (.int .i64 (wrap64 ((swp 2 true a : Nat) : Int))) ∧ w = w' := by
  obtain ⟨R, hR⟩ : ∃ R, R = swp 2 true a := ⟨_, rfl⟩
  rw [← hR]
  have hRl : R < 65536 := by rw [hR]; exact swp_lt 2 true a
  have hua := u64_un' a
  obtain ⟨U, hU⟩ : ∃ U, U = un a := ⟨_, rfl⟩
  have hUl : U < 18446744073709551616 := by rw [hU]; exact un_lt a
  rw [← hU] at hua
  have hl := low16_cast a U hU
  have hl2 : IntKind.u16.wrap (U : Int) = ((lowN 16 a : Nat) : Int) := by rw [IntKind.wrap_u16]; exact hl
  obtain ⟨X, hX⟩ : ∃ X, X = lowN 16 a := ⟨_, rfl⟩
  rw [← hX] at hl hl2
  have hXl : X < 65536 := by rw [hX]; exact lowN_lt 16 a
  have hRX : R = rev 2 X := by rw [hR, hX]; rfl
  have HRX := Lib.hid hRX
  have HXL := Lib.hid hXl
  clear hRX hX hU hR
  go_enter Tryz.func22, Tryz.ntmps22
  go_wp2_with fail
  refine (rev16_run X HXL.out _).mono ?_
  rintro e w1 ⟨rfl, rfl⟩
  rw [← HRX.out]
  go_wp2
  go_ret
  refine ⟨ret_int ?_, rfl⟩
  all_goals (first | rfl | (symm; unfold wrap64; omega))

set_option maxHeartbeats 800000 in
theorem swap32_false (a : Int) (ra : -9223372036854775808 ≤ a ∧ a ≤ 9223372036854775807) (w : World) :
    Calls Tryz.prog 22 #[.int .i64 32, .bool false, .int .i64 a] w fun e w' => e = .returned (.int .i64 (wrap64 ((swp 4 false a : Nat) : Int))) ∧ w = w' := by
  obtain ⟨R, hR⟩ : ∃ R, R = swp 4 false a := ⟨_, rfl⟩
  rw [← hR]
  have hRl : R < 4294967296 := by rw [hR]; exact swp_lt 4 false a
  have hua := u64_un' a
  obtain ⟨U, hU⟩ : ∃ U, U = un a := ⟨_, rfl⟩
  have hUl : U < 18446744073709551616 := by rw [hU]; exact un_lt a
  rw [← hU] at hua
  have hl := low32_cast a U hU
  have hl2 : IntKind.u32.wrap (U : Int) = ((lowN 32 a : Nat) : Int) := by rw [IntKind.wrap_u32]; exact hl
  obtain ⟨X, hX⟩ : ∃ X, X = lowN 32 a := ⟨_, rfl⟩
  rw [← hX] at hl hl2
  have hXl : X < 4294967296 := by rw [hX]; exact lowN_lt 32 a
  have hRX : R = X := by rw [hR, hX]; rfl
  have HRX := Lib.hid hRX
  have HXL := Lib.hid hXl
  clear hRX hX hU hR
  go_enter Tryz.func22, Tryz.ntmps22
  go_wp2
  go_ret
  refine ⟨ret_int ?_, rfl⟩
  rw [HRX.out]
  all_goals (first | rfl | (have := HXL.out; (symm; unfold wrap64; omega)))

set_option maxHeartbeats 800000 in
theorem swap32_true (a : Int) (ra : -9223372036854775808 ≤ a ∧ a ≤ 9223372036854775807) (w : World) :
    Calls Tryz.prog 22 #[.int .i64 32, .bool true, .int .i64 a] w fun e w' => e = .returned (.int .i64 (wrap64 ((swp 4 true a : Nat) : Int))) ∧ w = w' := by
  obtain ⟨R, hR⟩ : ∃ R, R = swp 4 true a := ⟨_, rfl⟩
  rw [← hR]
  have hRl : R < 4294967296 := by rw [hR]; exact swp_lt 4 true a
  have hua := u64_un' a
  obtain ⟨U, hU⟩ : ∃ U, U = un a := ⟨_, rfl⟩
  have hUl : U < 18446744073709551616 := by rw [hU]; exact un_lt a
  rw [← hU] at hua
  have hl := low32_cast a U hU
  have hl2 : IntKind.u32.wrap (U : Int) = ((lowN 32 a : Nat) : Int) := by rw [IntKind.wrap_u32]; exact hl
  obtain ⟨X, hX⟩ : ∃ X, X = lowN 32 a := ⟨_, rfl⟩
  rw [← hX] at hl hl2
  have hXl : X < 4294967296 := by rw [hX]; exact lowN_lt 32 a
  have hRX : R = rev 4 X := by rw [hR, hX]; rfl
  have HRX := Lib.hid hRX
  have HXL := Lib.hid hXl
  clear hRX hX hU hR
  go_enter Tryz.func22, Tryz.ntmps22
  go_wp2_with fail
  refine (rev32_run X HXL.out _).mono ?_
  rintro e w1 ⟨rfl, rfl⟩
  rw [← HRX.out]
  go_wp2
  go_ret
  refine ⟨ret_int ?_, rfl⟩
  all_goals (first | rfl | (symm; unfold wrap64; omega))

set_option maxHeartbeats 800000 in
theorem swap64_false (a : Int) (ra : -9223372036854775808 ≤ a ∧ a ≤ 9223372036854775807) (w : World) :
    Calls Tryz.prog 22 #[.int .i64 64, .bool false, .int .i64 a] w fun e w' => e = .returned (.int .i64 (wrap64 ((swp 8 false a : Nat) : Int))) ∧ w = w' := by
  obtain ⟨R, hR⟩ : ∃ R, R = swp 8 false a := ⟨_, rfl⟩
  rw [← hR]
  have hRl : R < 18446744073709551616 := by rw [hR]; exact swp_lt 8 false a
  have hua := u64_un' a
  obtain ⟨U, hU⟩ : ∃ U, U = un a := ⟨_, rfl⟩
  have hUl : U < 18446744073709551616 := by rw [hU]; exact un_lt a
  rw [← hU] at hua
  have hw : wrap64 (R : Int) = a := by rw [hR]; show wrap64 ((lowN 64 a : Nat) : Int) = a; rw [lowN_64]; exact wrap64_un ra.1 ra.2
  rw [hw]
  clear hw hR hU
  go_enter Tryz.func22, Tryz.ntmps22
  go_wp2
  go_ret
  exact ⟨rfl, rfl⟩

set_option maxHeartbeats 800000 in
theorem swap64_true (a : Int) (ra : -9223372036854775808 ≤ a ∧ a ≤ 9223372036854775807) (w : World) :
    Calls Tryz.prog 22 #[.int .i64 64, .bool true, .int .i64 a] w fun e w' => e = .returned (.int .i64 (wrap64 ((swp 8 true a : Nat) : Int))) ∧ w = w' := by
  obtain ⟨R, hR⟩ : ∃ R, R = swp 8 true a := ⟨_, rfl⟩
  rw [← hR]
  have hRl : R < 18446744073709551616 := by rw [hR]; exact swp_lt 8 true a
  have hua := u64_un' a
  obtain ⟨U, hU⟩ : ∃ U, U = un a := ⟨_, rfl⟩
  have hUl : U < 18446744073709551616 := by rw [hU]; exact un_lt a
  rw [← hU] at hua
  have hRX : R = rev 8 U := by rw [hR, hU]; show rev 8 (lowN 64 a) = _; rw [lowN_64]
  have HRX := Lib.hid hRX
  have HXL := Lib.hid hUl
  clear hRX hR hU
  go_enter Tryz.func22, Tryz.ntmps22
  go_wp2_with fail
  refine (rev64_run U HXL.out _).mono ?_
  rintro e w1 ⟨rfl, rfl⟩
  rw [← HRX.out]
  go_wp2
  go_ret
  refine ⟨ret_int ?_, rfl⟩
  all_goals (first | rfl | (symm; unfold wrap64; omega))

set_option maxHeartbeats 800000 in
theorem swap_other (size : Int) (t : Bool) (a : Int) (h : size ≠ 16 ∧ size ≠ 32 ∧ size ≠ 64) (w : World) :
    Calls Tryz.prog 22 #[.int .i64 size, .bool t, .int .i64 a] w fun e w' => e = .returned (.int .i64 0) ∧ w = w' := by
  have h1 : (size == 16) = false := by rw [beq_eq_false_iff_ne]; omega
  have h2 : (size == 32) = false := by rw [beq_eq_false_iff_ne]; omega
  have h3 : (size == 64) = false := by rw [beq_eq_false_iff_ne]; omega
  clear h
  cases t
  all_goals
    go_enter Tryz.func22, Tryz.ntmps22
    go_wp2
    go_ret
    exact ⟨rfl, rfl⟩
end Go.Proofs.YtbkcpepalicbjaaGreat
