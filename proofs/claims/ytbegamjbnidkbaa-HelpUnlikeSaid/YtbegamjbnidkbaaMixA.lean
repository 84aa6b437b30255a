/-
  Mix: the reference's, and that unlike numbers give unlike ones.
-/
import Derived.Test.YtbegamjbnidkbaaHelpC
namespace Go.Proofs.Ytbegamjbnidkbaa
open Go.RowKit
set_option linter.unusedVariables false

/-! ### The document's Mix -/
set_option maxHeartbeats 800000 in
theorem right_of (z n : Nat) (hz : z < 18446744073709551616) (hn : n ≤ 1000) (k : Int) (hk : k = n) (w : World) :
    Calls Try.prog 43 #[.int .u64 z, .int .i64 k] w fun e w' => e = .returned (.int .u64 ((z / 2 ^ n : Nat) : Int)) ∧ w = w' := by
  subst hk
  go_enter Try.func43, Try.ntmps43
  go_wp2
  go_loop [0, 5] (fun v s => ∃ i : Nat, i ≤ n ∧ s = .int .i64 i ∧ v = .int .u64 ((z / 2 ^ i : Nat) : Int)) (fun _ s => n - (intOf s).toNat)
  case atStart => exact ⟨0, Nat.zero_le _, rfl, by simp⟩
  case round =>
    obtain ⟨i, hi, rfl, rfl⟩ := hrel
    have hs : z / 2 ^ (i + 1) = z / 2 ^ i / 2 := by rw [Nat.pow_succ, Nat.div_div_eq_div_mul]
    have hle := Nat.div_le_self z (2 ^ i)
    obtain ⟨y, hy⟩ : ∃ y, y = z / 2 ^ i := ⟨_, rfl⟩
    rw [← hy] at hs hle ⊢
    have HS := Lib.hid hs
    have HY := Lib.hid hy
    have hu : IntKind.u64.wrap ((y : Int) / 2) = ((y / 2 : Nat) : Int) := by rw [IntKind.wrap_u64]; omega
    clear hs hy
    by_cases hlt : i < n
    · go_wp2
      go_round
      case rel => exact ⟨i + 1, hlt, by go_num, by rw [HS.out]; first | rfl | go_num | (rw [hu])⟩
      case measure => simp [intOf]; omega
    · obtain rfl : i = n := by omega
      go_wp2
      go_ret
      exact ⟨ret_int (by rw [HY.out]; first | rfl | simp), rfl⟩
theorem u64_un' (z : Int) : IntKind.u64.wrap z = ((un z : Nat) : Int) := by rw [IntKind.wrap_u64, un_cast]
theorem u64_mul (z k : Nat) : IntKind.u64.wrap ((z : Int) * (k : Int)) = ((z * k % 18446744073709551616 : Nat) : Int) := by rw [IntKind.wrap_u64, ← Int.natCast_mul, Int.natCast_emod]; rfl
theorem mix1_lt (x y : Nat) (hx : x < 2 ^ 64) : mix1 x y < 2 ^ 64 := Nat.xor_lt_two_pow hx (Nat.mod_lt _ (by decide))
theorem mix2_lt (z : Nat) (h : z < 2 ^ 64) : mix2 z < 2 ^ 64 := Nat.xor_lt_two_pow h (Nat.lt_of_le_of_lt (Nat.div_le_self _ _) h)
theorem mix3_lt (z : Nat) : mix3 z < 2 ^ 64 := Nat.mod_lt _ (by decide)
theorem mix4_lt (z : Nat) (h : z < 2 ^ 64) : mix4 z < 2 ^ 64 := Nat.xor_lt_two_pow h (Nat.lt_of_le_of_lt (Nat.div_le_self _ _) h)
set_option maxHeartbeats 1600000 in
theorem refmix_of (x y : Int) (w : World) : Calls Try.prog 32 #[.int .i64 x, .int .i64 y] w fun e w' => e = .returned (.int .i64 (wrap64 ((mixv (un x) (un y) : Nat) : Int))) ∧ w = w' := by
  have e1 : bits BinOp.xor IntKind.u64 (IntKind.u64.wrap x) (IntKind.u64.wrap (IntKind.u64.wrap y * 14437167314951722571)) = ((mix1 (un x) (un y) : Nat) : Int) := by
    have hk := u64_mul (un y) 14437167314951722571
    have hk2 : ((14437167314951722571 : Nat) : Int) = 14437167314951722571 := rfl
    rw [hk2] at hk
    rw [u64_un' x, u64_un' y, hk, bits_xor_u64_nat _ _ (un_lt x) (Nat.mod_lt _ (by decide))]
    rfl
  obtain ⟨z1, hz1⟩ : ∃ z, z = mix1 (un x) (un y) := ⟨_, rfl⟩
  rw [← hz1] at e1
  have l1 : z1 < 18446744073709551616 := by rw [hz1]; exact mix1_lt _ _ (un_lt x)
  obtain ⟨z2, hz2⟩ : ∃ z, z = mix2 z1 := ⟨_, rfl⟩
  have l2 : z2 < 18446744073709551616 := by rw [hz2]; exact mix2_lt _ l1
  have e2 : bits BinOp.xor IntKind.u64 (z1 : Int) ((z1 / 2 ^ 29 : Nat) : Int) = (z2 : Int) := by
    rw [bits_xor_u64_nat _ _ l1 (Nat.lt_of_le_of_lt (Nat.div_le_self _ _) l1), hz2]; rfl
  obtain ⟨z3, hz3⟩ : ∃ z, z = mix3 z2 := ⟨_, rfl⟩
  have l3 : z3 < 18446744073709551616 := by rw [hz3]; exact mix3_lt _
  have e3 : IntKind.u64.wrap ((z2 : Int) * 10320681969465668653) = (z3 : Int) := by
    have hk := u64_mul z2 10320681969465668653
    have hk2 : ((10320681969465668653 : Nat) : Int) = 10320681969465668653 := rfl
    rw [hk2] at hk
    rw [hk, hz3]; rfl
  obtain ⟨z4, hz4⟩ : ∃ z, z = mix4 z3 := ⟨_, rfl⟩
  have e4 : bits BinOp.xor IntKind.u64 (z3 : Int) ((z3 / 2 ^ 32 : Nat) : Int) = (z4 : Int) := by
    rw [bits_xor_u64_nat _ _ l3 (Nat.lt_of_le_of_lt (Nat.div_le_self _ _) l3), hz4]; rfl
  have hv : mixv (un x) (un y) = z4 := by rw [hz4, hz3, hz2, hz1]; rfl
  have HV := Lib.hid hv
  obtain ⟨d1, hd1⟩ : ∃ d, d = z1 / 2 ^ 29 := ⟨_, rfl⟩
  obtain ⟨d3, hd3⟩ : ∃ d, d = z3 / 2 ^ 32 := ⟨_, rfl⟩
  rw [← hd1] at e2
  rw [← hd3] at e4
  have HD1 := Lib.hid hd1
  have HD3 := Lib.hid hd3
  have E2 := Lib.hid e2
  have E4 := Lib.hid e4
  clear hz1 hz2 hz3 hz4 hv hd1 hd3 e2 e4
  go_enter Try.func32, Try.ntmps32
  go_wp2_with fail
  refine (right_of z1 29 l1 (by decide) 29 rfl _).mono ?_
  rintro e w1 ⟨rfl, rfl⟩
  rw [← HD1.out]
  have e2 := E2.out
  go_wp2_with fail
  clear e2
  refine (right_of z3 32 l3 (by decide) 32 rfl _).mono ?_
  rintro e w1 ⟨rfl, rfl⟩
  rw [← HD3.out]
  have e4 := E4.out
  go_wp2
  go_ret
  exact ⟨ret_int (by rw [HV.out]), rfl⟩

/-! ### Unlike numbers -/
theorem shift_inj (k : Nat) (hk : 0 < k) (z u : Nat) (hz : z < 2 ^ 64) (hu : u < 2 ^ 64) (h : z ^^^ (z / 2 ^ k) = u ^^^ (u / 2 ^ k)) : z = u := by
  have hb : ∀ (m i : Nat), 64 - i ≤ m → z.testBit i = u.testBit i := by
    intro m
    induction m with
    | zero =>
      intro i hi
      have h64 : 2 ^ 64 ≤ 2 ^ i := Nat.pow_le_pow_right (by decide) (by omega)
      rw [Nat.testBit_lt_two_pow (Nat.lt_of_lt_of_le hz h64), Nat.testBit_lt_two_pow (Nat.lt_of_lt_of_le hu h64)]
    | succ m ih =>
      intro i hi
      have h2 := ih (i + k) (by omega)
      have h3 := congrArg (fun n => n.testBit i) h
      simp only [Nat.testBit_xor, Nat.testBit_div_two_pow] at h3
      rw [Nat.add_comm] at h2
      have e : k + i = i + k := Nat.add_comm _ _
      simp only [e] at h2
      rw [h2] at h3
      revert h3
      cases z.testBit i <;> cases u.testBit i <;> cases u.testBit (i + k) <;> simp
  exact Nat.eq_of_testBit_eq fun i => hb 64 i (by omega)
theorem mul_inj (k j : Nat) (hkj : k * j % 18446744073709551616 = 1) (z u : Nat) (hz : z < 18446744073709551616) (hu : u < 18446744073709551616) (h : z * k % 18446744073709551616 = u * k % 18446744073709551616) : z = u := by
  have e : ∀ x : Nat, x < 18446744073709551616 → (x * k % 18446744073709551616) * j % 18446744073709551616 = x := by
    intro x hx
    rw [Nat.mod_mul_mod, Nat.mul_assoc, ← Nat.mul_mod_mod, hkj, Nat.mul_one, Nat.mod_eq_of_lt hx]
  rw [← e z hz, ← e u hu, h]
theorem mix1_inj_l (x z y : Nat) (h : mix1 x y = mix1 z y) : x = z := by
  unfold mix1 at h
  have := congrArg (fun n => n ^^^ (y * 14437167314951722571 % 18446744073709551616)) h
  simpa [Nat.xor_assoc] using this
theorem mix1_inj_r (x y z : Nat) (hy : y < 18446744073709551616) (hz : z < 18446744073709551616) (h : mix1 x y = mix1 x z) : y = z := by
  unfold mix1 at h
  have h2 : y * 14437167314951722571 % 18446744073709551616 = z * 14437167314951722571 % 18446744073709551616 := by
    have := congrArg (fun n => x ^^^ n) h
    simpa [← Nat.xor_assoc] using this
  exact mul_inj 14437167314951722571 6199848179663094627 (by decide) y z hy hz h2
theorem rest_inj (z u : Nat) (hz : z < 2 ^ 64) (hu : u < 2 ^ 64) (h : mix4 (mix3 (mix2 z)) = mix4 (mix3 (mix2 u))) : z = u := by
  have h3 := shift_inj 32 (by decide) _ _ (mix3_lt _) (mix3_lt _) h
  have h2 := mul_inj 10320681969465668653 13300268030440029093 (by decide) _ _ (mix2_lt z hz) (mix2_lt u hu) h3
  exact shift_inj 29 (by decide) _ _ hz hu h2
theorem mixv_lt (x y : Nat) (hx : x < 2 ^ 64) : mixv x y < 18446744073709551616 := mix4_lt _ (mix3_lt _)
theorem wrap_inj (x y : Nat) (hx : x < 18446744073709551616) (hy : y < 18446744073709551616) (h : wrap64 (x : Int) = wrap64 (y : Int)) : x = y := by
  unfold wrap64 at h; omega
theorem un_inj (x y : Int) (hx : -9223372036854775808 ≤ x ∧ x ≤ 9223372036854775807) (hy : -9223372036854775808 ≤ y ∧ y ≤ 9223372036854775807) (h : un x = un y) : x = y := by
  unfold un at h; omega
theorem mix_unlike (x y z : Int) (hy : -9223372036854775808 ≤ y ∧ y ≤ 9223372036854775807) (hz : -9223372036854775808 ≤ z ∧ z ≤ 9223372036854775807) (hne : y ≠ z) :
    wrap64 ((mixv (un x) (un y) : Nat) : Int) ≠ wrap64 ((mixv (un x) (un z) : Nat) : Int) ∧ wrap64 ((mixv (un y) (un x) : Nat) : Int) ≠ wrap64 ((mixv (un z) (un x) : Nat) : Int) := by
  constructor
  · intro h
    have h1 := wrap_inj _ _ (mixv_lt _ _ (un_lt _)) (mixv_lt _ _ (un_lt _)) h
    have h2 := rest_inj _ _ (mix1_lt _ _ (un_lt _)) (mix1_lt _ _ (un_lt _)) h1
    exact hne (un_inj y z hy hz (mix1_inj_r _ _ _ (un_lt _) (un_lt _) h2))
  · intro h
    have h1 := wrap_inj _ _ (mixv_lt _ _ (un_lt _)) (mixv_lt _ _ (un_lt _)) h
    have h2 := rest_inj _ _ (mix1_lt _ _ (un_lt _)) (mix1_lt _ _ (un_lt _)) h1
    exact hne (un_inj y z hy hz (mix1_inj_l _ _ _ h2))
end Go.Proofs.Ytbegamjbnidkbaa
