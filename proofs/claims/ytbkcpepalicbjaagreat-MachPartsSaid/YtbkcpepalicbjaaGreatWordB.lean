/-
  What the operations of words come to, in plain arithmetic; and the program's methods of words.
-/
import Derived.Test.YtbkcpepalicbjaaGreatWordA
import Derived.Test.YtbkcpepalicbjaaGreatSgn
namespace Go.Proofs.YtbkcpepalicbjaaGreat
open Go.RowKit
set_option linter.unusedVariables false

def w_add (n x y : Nat) : Nat := (x + y) % 2 ^ n
def w_sub (n x y : Nat) : Nat := (x + (2 ^ n - y)) % 2 ^ n
def w_mul (n x y : Nat) : Nat := x * y % 2 ^ n
def w_div (n x y : Nat) : Nat := x / y
def w_mod (n x y : Nat) : Nat := x % y
def w_sdiv (n x y : Nat) : Nat := ((sgn n x).tdiv (sgn n y) % 2 ^ n).toNat
def w_smod (n x y : Nat) : Nat := ((sgn n x).tmod (sgn n y) % 2 ^ n).toNat
def w_or (n x y : Nat) : Nat := x ||| y
def w_and (n x y : Nat) : Nat := x &&& y
def w_xor (n x y : Nat) : Nat := x ^^^ y
def w_lsh (n x y : Nat) : Nat := x * 2 ^ (y % n) % 2 ^ n
def w_rsh (n x y : Nat) : Nat := x / 2 ^ (y % n)
def w_arsh (n x y : Nat) : Nat := (sgn n x / 2 ^ (y % n) % 2 ^ n).toNat
def w_neg (n x y : Nat) : Nat := (2 ^ n - x) % 2 ^ n
def w_mov (n x y : Nat) : Nat := y

theorem mask63 (y : Nat) (hy : y < 18446744073709551616) : bits BinOp.and IntKind.u64 (y : Int) 63 = ((y % 64 : Nat) : Int) := by
  have := bits_and_u64_nat y 63 hy (by decide)
  rw [nat_mask6] at this
  exact this
theorem mask31 (y : Nat) (hy : y < 18446744073709551616) : bits BinOp.and IntKind.u64 (y : Int) 31 = ((y % 32 : Nat) : Int) := by
  have := bits_and_u64_nat y 31 hy (by decide)
  rw [nat_mask5] at this
  exact this
theorem maskLow (y : Nat) (hy : y < 18446744073709551616) : bits BinOp.and IntKind.u64 (y : Int) 4294967295 = ((y % 4294967296 : Nat) : Int) := by
  have := bits_and_u64_nat y 4294967295 hy (by decide)
  rw [nat_mask32] at this
  exact this

theorem low_any (x : Nat) (hx : x < 18446744073709551616) (w : World) : Calls Tryz.prog 68 #[.int .u64 x] w fun e w' => e = .returned (.int .u64 ((x % 2 ^ 32 : Nat) : Int)) ∧ w = w' := by
  have hm := maskLow x hx
  go_enter Tryz.func68, Tryz.ntmps68
  go_wp2
  go_ret
  exact ⟨ret_int (by simp), rfl⟩

theorem u64_nat {x : Nat} {z : Int} (h : z = ((x : Nat) : Int)) : IntKind.u64.wrap z = ((x % 2 ^ 64 : Nat) : Int) := by
  subst h; rw [IntKind.wrap_u64]; omega
theorem u64_toNat (z : Int) : IntKind.u64.wrap z = (((z % 2 ^ 64).toNat : Nat) : Int) := by
  rw [IntKind.wrap_u64]
  have e : (2 : Int) ^ 64 = 18446744073709551616 := rfl
  rw [e]; omega
theorem u64_wrap64 (z : Int) : IntKind.u64.wrap (wrap64 z) = IntKind.u64.wrap z := by
  rw [IntKind.wrap_u64, IntKind.wrap_u64]; unfold wrap64; omega
theorem low_toNat (z : Int) : z % 4294967296 = (((z % 2 ^ 32).toNat : Nat) : Int) := by
  have e : (2 : Int) ^ 32 = 4294967296 := rfl
  rw [e]; omega
theorem wrap32_mod (z : Int) : wrap32 z % 4294967296 = z % 4294967296 := by unfold wrap32; omega

set_option maxHeartbeats 400000 in
theorem Add_any (x y : Nat) (hx : x < 18446744073709551616) (hy : y < 18446744073709551616) (w : World) : Calls Tryz.prog 107 #[.int .u64 x, .int .u64 y] w fun e w' => e = .returned (.int .u64 ((w_add 64 x y : Nat) : Int)) ∧ w = w' := by
  go_enter Tryz.func107, Tryz.ntmps107
  go_wp2
  go_ret
  exact ⟨ret_int (u64_nat (by simp)), rfl⟩

set_option maxHeartbeats 400000 in
theorem Sub_any (x y : Nat) (hx : x < 18446744073709551616) (hy : y < 18446744073709551616) (w : World) : Calls Tryz.prog 108 #[.int .u64 x, .int .u64 y] w fun e w' => e = .returned (.int .u64 ((w_sub 64 x y : Nat) : Int)) ∧ w = w' := by
  go_enter Tryz.func108, Tryz.ntmps108
  go_wp2
  go_ret
  exact ⟨ret_int (by rw [IntKind.wrap_u64]; unfold w_sub; omega), rfl⟩

set_option maxHeartbeats 400000 in
theorem Mul_any (x y : Nat) (hx : x < 18446744073709551616) (hy : y < 18446744073709551616) (w : World) : Calls Tryz.prog 109 #[.int .u64 x, .int .u64 y] w fun e w' => e = .returned (.int .u64 ((w_mul 64 x y : Nat) : Int)) ∧ w = w' := by
  go_enter Tryz.func109, Tryz.ntmps109
  go_wp2
  go_ret
  exact ⟨ret_int (u64_nat (by simp)), rfl⟩

set_option maxHeartbeats 400000 in
theorem Div_any (x y : Nat) (hx : x < 18446744073709551616) (hy : y < 18446744073709551616) (h0 : y ≠ 0) (w : World) : Calls Tryz.prog 110 #[.int .u64 x, .int .u64 y] w fun e w' => e = .returned (.int .u64 ((w_div 64 x y : Nat) : Int)) ∧ w = w' := by
  go_enter Tryz.func110, Tryz.ntmps110
  go_wp2
  go_ret
  exact ⟨ret_int (by have hq := Nat.div_le_self x y; rw [u64_nat (x := x / y) (by simp), Nat.mod_eq_of_lt (show x / y < 2 ^ 64 by omega)]; rfl), rfl⟩

set_option maxHeartbeats 400000 in
theorem Mod_any (x y : Nat) (hx : x < 18446744073709551616) (hy : y < 18446744073709551616) (h0 : y ≠ 0) (w : World) : Calls Tryz.prog 111 #[.int .u64 x, .int .u64 y] w fun e w' => e = .returned (.int .u64 ((w_mod 64 x y : Nat) : Int)) ∧ w = w' := by
  go_enter Tryz.func111, Tryz.ntmps111
  go_wp2
  go_ret
  exact ⟨ret_int (by simp [w_mod]), rfl⟩

set_option maxHeartbeats 400000 in
theorem Sdiv_any (x y : Nat) (hx : x < 18446744073709551616) (hy : y < 18446744073709551616) (h0 : y ≠ 0) (w : World) : Calls Tryz.prog 112 #[.int .u64 x, .int .u64 y] w fun e w' => e = .returned (.int .u64 ((w_sdiv 64 x y : Nat) : Int)) ∧ w = w' := by
  have hs : ¬ wrap64 (y : Int) = 0 := by unfold wrap64; omega
  go_enter Tryz.func112, Tryz.ntmps112
  go_wp2
  go_ret
  exact ⟨ret_int (by rw [u64_wrap64, u64_toNat]; unfold w_sdiv; rw [sgn64 hx, sgn64 hy]), rfl⟩

set_option maxHeartbeats 400000 in
theorem Smod_any (x y : Nat) (hx : x < 18446744073709551616) (hy : y < 18446744073709551616) (h0 : y ≠ 0) (w : World) : Calls Tryz.prog 113 #[.int .u64 x, .int .u64 y] w fun e w' => e = .returned (.int .u64 ((w_smod 64 x y : Nat) : Int)) ∧ w = w' := by
  have hs : ¬ wrap64 (y : Int) = 0 := by unfold wrap64; omega
  go_enter Tryz.func113, Tryz.ntmps113
  go_wp2
  go_ret
  exact ⟨ret_int (by rw [u64_toNat]; unfold w_smod; rw [sgn64 hx, sgn64 hy]), rfl⟩

set_option maxHeartbeats 400000 in
theorem Or_any (x y : Nat) (hx : x < 18446744073709551616) (hy : y < 18446744073709551616) (w : World) : Calls Tryz.prog 114 #[.int .u64 x, .int .u64 y] w fun e w' => e = .returned (.int .u64 ((w_or 64 x y : Nat) : Int)) ∧ w = w' := by
  go_enter Tryz.func114, Tryz.ntmps114
  go_wp2
  go_ret
  exact ⟨ret_int (bits_or_u64_nat x y hx hy), rfl⟩

set_option maxHeartbeats 400000 in
theorem And_any (x y : Nat) (hx : x < 18446744073709551616) (hy : y < 18446744073709551616) (w : World) : Calls Tryz.prog 115 #[.int .u64 x, .int .u64 y] w fun e w' => e = .returned (.int .u64 ((w_and 64 x y : Nat) : Int)) ∧ w = w' := by
  go_enter Tryz.func115, Tryz.ntmps115
  go_wp2
  go_ret
  exact ⟨ret_int (bits_and_u64_nat x y hx hy), rfl⟩

set_option maxHeartbeats 400000 in
theorem Xor_any (x y : Nat) (hx : x < 18446744073709551616) (hy : y < 18446744073709551616) (w : World) : Calls Tryz.prog 116 #[.int .u64 x, .int .u64 y] w fun e w' => e = .returned (.int .u64 ((w_xor 64 x y : Nat) : Int)) ∧ w = w' := by
  go_enter Tryz.func116, Tryz.ntmps116
  go_wp2
  go_ret
  exact ⟨ret_int (bits_xor_u64_nat x y hx hy), rfl⟩

set_option maxHeartbeats 400000 in
theorem Lsh_any (x y : Nat) (hx : x < 18446744073709551616) (hy : y < 18446744073709551616) (w : World) : Calls Tryz.prog 117 #[.int .u64 x, .int .u64 y] w fun e w' => e = .returned (.int .u64 ((w_lsh 64 x y : Nat) : Int)) ∧ w = w' := by
  have hm := mask63 y hy
  have hk : y % 64 < 64 := Nat.mod_lt _ (by decide)
  obtain ⟨k, hke⟩ : ∃ k, k = y % 64 := ⟨_, rfl⟩
  rw [← hke] at hm hk
  have HK := Lib.hid hke
  clear hke
  go_enter Tryz.func117, Tryz.ntmps117
  go_wp2
  go_ret
  exact ⟨ret_int (by unfold w_lsh; rw [← HK.out]; exact u64_nat (by simp)), rfl⟩

set_option maxHeartbeats 400000 in
theorem Rsh_any (x y : Nat) (hx : x < 18446744073709551616) (hy : y < 18446744073709551616) (w : World) : Calls Tryz.prog 118 #[.int .u64 x, .int .u64 y] w fun e w' => e = .returned (.int .u64 ((w_rsh 64 x y : Nat) : Int)) ∧ w = w' := by
  have hm := mask63 y hy
  have hk : y % 64 < 64 := Nat.mod_lt _ (by decide)
  obtain ⟨k, hke⟩ : ∃ k, k = y % 64 := ⟨_, rfl⟩
  rw [← hke] at hm hk
  have HK := Lib.hid hke
  clear hke
  go_enter Tryz.func118, Tryz.ntmps118
  go_wp2
  go_ret
  exact ⟨ret_int (by unfold w_rsh; rw [← HK.out]; simp), rfl⟩

set_option maxHeartbeats 400000 in
theorem Arsh_any (x y : Nat) (hx : x < 18446744073709551616) (hy : y < 18446744073709551616) (w : World) : Calls Tryz.prog 119 #[.int .u64 x, .int .u64 y] w fun e w' => e = .returned (.int .u64 ((w_arsh 64 x y : Nat) : Int)) ∧ w = w' := by
  have hm := mask63 y hy
  have hk : y % 64 < 64 := Nat.mod_lt _ (by decide)
  obtain ⟨k, hke⟩ : ∃ k, k = y % 64 := ⟨_, rfl⟩
  rw [← hke] at hm hk
  have HK := Lib.hid hke
  clear hke
  go_enter Tryz.func119, Tryz.ntmps119
  go_wp2
  go_ret
  exact ⟨ret_int (by unfold w_arsh; rw [← HK.out, u64_toNat, sgn64 hx]), rfl⟩

set_option maxHeartbeats 400000 in
theorem Neg_any (x y : Nat) (hx : x < 18446744073709551616) (hy : y < 18446744073709551616) (w : World) : Calls Tryz.prog 120 #[.int .u64 x, .int .u64 y] w fun e w' => e = .returned (.int .u64 ((w_neg 64 x y : Nat) : Int)) ∧ w = w' := by
  go_enter Tryz.func120, Tryz.ntmps120
  go_wp2
  go_ret
  exact ⟨ret_int (by rw [IntKind.wrap_u64]; unfold w_neg; omega), rfl⟩

set_option maxHeartbeats 400000 in
theorem Mov_any (x y : Nat) (hx : x < 18446744073709551616) (hy : y < 18446744073709551616) (w : World) : Calls Tryz.prog 121 #[.int .u64 x, .int .u64 y] w fun e w' => e = .returned (.int .u64 ((w_mov 64 x y : Nat) : Int)) ∧ w = w' := by
  go_enter Tryz.func121, Tryz.ntmps121
  go_wp2
  go_ret
  exact ⟨ret_int (rfl), rfl⟩

set_option maxHeartbeats 400000 in
theorem Div32_any (x y : Nat) (hx : x < 4294967296) (hy : y < 4294967296) (h0 : y ≠ 0) (w : World) : Calls Tryz.prog 122 #[.int .u64 x, .int .u64 y] w fun e w' => e = .returned (.int .u64 ((w_div 32 x y : Nat) : Int)) ∧ w = w' := by
  have hlx : bits BinOp.and IntKind.u64 (x : Int) 4294967295 = x := by rw [maskLow x (by omega)]; omega
  have hly : bits BinOp.and IntKind.u64 (y : Int) 4294967295 = y := by rw [maskLow y (by omega)]; omega
  go_enter Tryz.func122, Tryz.ntmps122
  go_wp2
  go_ret
  exact ⟨ret_int (by have hq := Nat.div_le_self x y; rw [u64_nat (x := x / y) (by simp), Nat.mod_eq_of_lt (show x / y < 2 ^ 64 by omega)]; rfl), rfl⟩

set_option maxHeartbeats 400000 in
theorem Mod32_any (x y : Nat) (hx : x < 4294967296) (hy : y < 4294967296) (h0 : y ≠ 0) (w : World) : Calls Tryz.prog 123 #[.int .u64 x, .int .u64 y] w fun e w' => e = .returned (.int .u64 ((w_mod 32 x y : Nat) : Int)) ∧ w = w' := by
  have hlx : bits BinOp.and IntKind.u64 (x : Int) 4294967295 = x := by rw [maskLow x (by omega)]; omega
  have hly : bits BinOp.and IntKind.u64 (y : Int) 4294967295 = y := by rw [maskLow y (by omega)]; omega
  go_enter Tryz.func123, Tryz.ntmps123
  go_wp2
  go_ret
  exact ⟨ret_int (by simp [w_mod]), rfl⟩

set_option maxHeartbeats 400000 in
theorem Sdiv32_any (x y : Nat) (hx : x < 4294967296) (hy : y < 4294967296) (h0 : y ≠ 0) (w : World) : Calls Tryz.prog 124 #[.int .u64 x, .int .u64 y] w fun e w' => e = .returned (.int .u64 ((w_sdiv 32 x y : Nat) : Int)) ∧ w = w' := by
  have hs : ¬ wrap32 (y : Int) = 0 := by unfold wrap32; omega
  go_enter Tryz.func124, Tryz.ntmps124
  go_wp2
  go_ret
  exact ⟨ret_int (by rw [wrap32_mod, low_toNat]; unfold w_sdiv; rw [sgn32 hx, sgn32 hy]), rfl⟩

set_option maxHeartbeats 400000 in
theorem Smod32_any (x y : Nat) (hx : x < 4294967296) (hy : y < 4294967296) (h0 : y ≠ 0) (w : World) : Calls Tryz.prog 125 #[.int .u64 x, .int .u64 y] w fun e w' => e = .returned (.int .u64 ((w_smod 32 x y : Nat) : Int)) ∧ w = w' := by
  have hs : ¬ wrap32 (y : Int) = 0 := by unfold wrap32; omega
  go_enter Tryz.func125, Tryz.ntmps125
  go_wp2
  go_ret
  exact ⟨ret_int (by rw [low_toNat]; unfold w_smod; rw [sgn32 hx, sgn32 hy]), rfl⟩

set_option maxHeartbeats 400000 in
theorem Lsh32_any (x y : Nat) (hx : x < 4294967296) (hy : y < 4294967296) (w : World) : Calls Tryz.prog 126 #[.int .u64 x, .int .u64 y] w fun e w' => e = .returned (.int .u64 ((x * 2 ^ (y % 32) % 2 ^ 64 : Nat) : Int)) ∧ w = w' := by
  have hm := mask31 y (by omega)
  have hk : y % 32 < 32 := Nat.mod_lt _ (by decide)
  obtain ⟨k, hke⟩ : ∃ k, k = y % 32 := ⟨_, rfl⟩
  rw [← hke] at hm hk
  have HK := Lib.hid hke
  clear hke
  go_enter Tryz.func126, Tryz.ntmps126
  go_wp2
  go_ret
  exact ⟨ret_int (by rw [← HK.out]; exact u64_nat (by simp)), rfl⟩

set_option maxHeartbeats 400000 in
theorem Rsh32_any (x y : Nat) (hx : x < 4294967296) (hy : y < 4294967296) (w : World) : Calls Tryz.prog 127 #[.int .u64 x, .int .u64 y] w fun e w' => e = .returned (.int .u64 ((w_rsh 32 x y : Nat) : Int)) ∧ w = w' := by
  have hm := mask31 y (by omega)
  have hk : y % 32 < 32 := Nat.mod_lt _ (by decide)
  obtain ⟨k, hke⟩ : ∃ k, k = y % 32 := ⟨_, rfl⟩
  rw [← hke] at hm hk
  have HK := Lib.hid hke
  clear hke
  have hlx : bits BinOp.and IntKind.u64 (x : Int) 4294967295 = x := by rw [maskLow x (by omega)]; omega
  go_enter Tryz.func127, Tryz.ntmps127
  go_wp2
  go_ret
  exact ⟨ret_int (by unfold w_rsh; rw [← HK.out]; simp), rfl⟩

set_option maxHeartbeats 400000 in
theorem Arsh32_any (x y : Nat) (hx : x < 4294967296) (hy : y < 4294967296) (w : World) : Calls Tryz.prog 128 #[.int .u64 x, .int .u64 y] w fun e w' => e = .returned (.int .u64 ((w_arsh 32 x y : Nat) : Int)) ∧ w = w' := by
  have hm := mask31 y (by omega)
  have hk : y % 32 < 32 := Nat.mod_lt _ (by decide)
  obtain ⟨k, hke⟩ : ∃ k, k = y % 32 := ⟨_, rfl⟩
  rw [← hke] at hm hk
  have HK := Lib.hid hke
  clear hke
  go_enter Tryz.func128, Tryz.ntmps128
  go_wp2
  go_ret
  exact ⟨ret_int (by unfold w_arsh; rw [← HK.out, low_toNat, sgn32 hx]), rfl⟩
end Go.Proofs.YtbkcpepalicbjaaGreat
