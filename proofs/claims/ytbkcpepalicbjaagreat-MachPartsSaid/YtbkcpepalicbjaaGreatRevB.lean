/-
  Bytes back to front: the three functions of math/bits.
-/
import Derived.Test.YtbkcpepalicbjaaGreatRevA
namespace Go.Proofs.YtbkcpepalicbjaaGreat
open Go.RowKit
set_option linter.unusedVariables false

/-- The eight bytes, as math/bits turns them. -/
theorem rev8 (x P R : Nat) (hx : x < 18446744073709551616) (hP : P = (x / 256 &&& 71777214294589695) ||| (x &&& 71777214294589695) * 256)
    (hR : R = (P / 65536 &&& 281470681808895) ||| (P &&& 281470681808895) * 65536) : R / 4294967296 ||| R * 4294967296 % 18446744073709551616 = rev 8 x := by
  obtain ⟨p, q, hp, hq, h⟩ := bytes8 x hx
  rw [pairs4 x p q hp hq h] at hP
  rw [rev8_of x p q hp hq h]
  have r1 := rev4 p hp
  have r2 := rev4 q hq
  have l1 := rev_lt 4 p
  have l2 := rev_lt 4 q
  simp only [Nat.reducePow] at l1 l2
  obtain ⟨a, b, c, d, ha, hb, hc, hd, hpb⟩ := bytes4 p hp
  obtain ⟨a', b', c', d', ha', hb', hc', hd', hqb⟩ := bytes4 q hq
  have s1 : (p / 256 &&& 16711935) ||| (p &&& 16711935) * 256 < 4294967296 := by rw [pairs2 p a b c d ha hb hc hd hpb]; omega
  have s2 : (q / 256 &&& 16711935) ||| (q &&& 16711935) * 256 < 4294967296 := by rw [pairs2 q a' b' c' d' ha' hb' hc' hd' hqb]; omega
  generalize (p / 256 &&& 16711935) ||| (p &&& 16711935) * 256 = Pp at hP r1 s1
  generalize (q / 256 &&& 16711935) ||| (q &&& 16711935) * 256 = Pq at hP r2 s2
  generalize rev 4 p = rp at r1 l1 ⊢
  generalize rev 4 q = rq at r2 l2 ⊢
  clear hpb hqb ha hb hc hd ha' hb' hc' hd' hp hq h hx
  have m1 : P / 65536 &&& 281470681808895 = 4294967296 * (Pq / 65536) + Pp / 65536 := by
    rw [mask42]
    have e1 : P / 65536 = 65536 * Pq + Pp / 65536 := by omega
    rw [e1]; omega
  have m2 : (P &&& 281470681808895) * 65536 = 4294967296 * (Pq * 65536 % 4294967296) + Pp * 65536 % 4294967296 := by
    rw [mask42]
    have e1 : P / 4294967296 = Pq := by omega
    have e2 : P % 65536 = Pp % 65536 := by omega
    rw [e1, e2]; omega
  rw [m1, m2, or_split32 _ _ _ _ (by omega) (by omega), r1, r2] at hR
  have e1 : R / 4294967296 = rq := by omega
  have e2 : R * 4294967296 % 18446744073709551616 = rp * 4294967296 := by omega
  rw [e1, e2, or_word _ _ (by omega)]

theorem o16 (x y : Nat) (hx : x < 65536) (hy : y < 65536) : bits .or .u16 (x : Int) (y : Int) = ((x ||| y : Nat) : Int) := by
  show IntKind.u16.wrap ((BitVec.ofInt 16 x ||| BitVec.ofInt 16 y).toNat : Int) = _
  have e1 : (BitVec.ofInt 16 (x : Int)).toNat = x := by rw [BitVec.toNat_ofInt]; simp only [Nat.reducePow]; omega
  have e2 : (BitVec.ofInt 16 (y : Int)).toNat = y := by rw [BitVec.toNat_ofInt]; simp only [Nat.reducePow]; omega
  rw [BitVec.toNat_or, e1, e2]
  have h : x ||| y < 2 ^ 16 := Nat.or_lt_two_pow hx hy
  simp only [Nat.reducePow] at h
  exact IntWalk.u16_in _ (by omega)
theorem o32 (x y : Nat) (hx : x < 4294967296) (hy : y < 4294967296) : bits .or .u32 (x : Int) (y : Int) = ((x ||| y : Nat) : Int) := by
  show IntKind.u32.wrap ((BitVec.ofInt 32 x ||| BitVec.ofInt 32 y).toNat : Int) = _
  have e1 : (BitVec.ofInt 32 (x : Int)).toNat = x := by rw [BitVec.toNat_ofInt]; simp only [Nat.reducePow]; omega
  have e2 : (BitVec.ofInt 32 (y : Int)).toNat = y := by rw [BitVec.toNat_ofInt]; simp only [Nat.reducePow]; omega
  rw [BitVec.toNat_or, e1, e2]
  have h : x ||| y < 2 ^ 32 := Nat.or_lt_two_pow hx hy
  simp only [Nat.reducePow] at h
  exact IntWalk.u32_in _ (by omega)
theorem d8 (x : Nat) : (x : Int) / 256 = ((x / 256 : Nat) : Int) := by omega
theorem d16 (x : Nat) : (x : Int) / 65536 = ((x / 65536 : Nat) : Int) := by omega
theorem d32 (x : Nat) : (x : Int) / 4294967296 = ((x / 4294967296 : Nat) : Int) := by omega

theorem rev16_run (x : Nat) (hx : x < 65536) (w : World) : Calls Tryz.prog 72 #[.int .u16 x] w fun e w' => e = .returned (.int .u16 ((rev 2 x : Nat) : Int)) ∧ w = w' := by
  have H := Lib.hid hx
  obtain ⟨R, hR⟩ : ∃ R, R = rev 2 x := ⟨_, rfl⟩
  rw [← hR]
  have HR := Lib.hid hR
  clear hR
  go_enter Tryz.func72, Tryz.ntmps72
  go_wp2
  go_ret
  refine ⟨ret_int ?_, rfl⟩
  rw [HR.out, ← rev2 x H.out]
  have hx := H.out
  have e : IntKind.u16.wrap ((x : Int) * 256) = ((x * 256 % 65536 : Nat) : Int) := by
    rw [IntKind.wrap_u16]; omega
  rw [e, d8, o16 _ _ (by omega) (by omega)]
theorem rev32_run (x : Nat) (hx : x < 4294967296) (w : World) : Calls Tryz.prog 73 #[.int .u32 x] w fun e w' => e = .returned (.int .u32 ((rev 4 x : Nat) : Int)) ∧ w = w' := by
  have H := Lib.hid hx
  obtain ⟨R, hR⟩ : ∃ R, R = rev 4 x := ⟨_, rfl⟩
  rw [← hR]
  have HR := Lib.hid hR
  clear hR
  go_enter Tryz.func73, Tryz.ntmps73
  go_wp2
  go_ret
  refine ⟨ret_int ?_, rfl⟩
  rw [HR.out, ← rev4 x H.out]
  have hx := H.out
  have c : (16711935 : Int) = ((16711935 : Nat) : Int) := rfl
  have hm : ∀ y : Nat, y &&& 16711935 ≤ 16711935 := fun y => Nat.and_le_right
  have h1 := hm x
  have h2 := hm (x / 256)
  have h3 : (x / 256 &&& 16711935) ||| (x &&& 16711935) * 256 < 2 ^ 32 := Nat.or_lt_two_pow (by omega) (by omega)
  simp only [Nat.reducePow] at h3
  rw [d8, c, bits_and_u32_nat _ _ (by omega) (by omega), bits_and_u32_nat _ _ (by omega) (by omega)]
  have e : ((x &&& 16711935 : Nat) : Int) * 256 % 4294967296 = (((x &&& 16711935) * 256 : Nat) : Int) := by omega
  rw [e, o32 _ _ (by omega) (by omega)]
  generalize (x / 256 &&& 16711935) ||| (x &&& 16711935) * 256 = P at h3 ⊢
  have e2 : ((P : Nat) : Int) * 65536 % 4294967296 = ((P * 65536 % 4294967296 : Nat) : Int) := by omega
  rw [e2, d16, o32 _ _ (by omega) (by omega)]
theorem rev64_run (x : Nat) (hx : x < 18446744073709551616) (w : World) : Calls Tryz.prog 74 #[.int .u64 x] w fun e w' => e = .returned (.int .u64 ((rev 8 x : Nat) : Int)) ∧ w = w' := by
  have H := Lib.hid hx
  obtain ⟨R, hR⟩ : ∃ R, R = rev 8 x := ⟨_, rfl⟩
  rw [← hR]
  have HR := Lib.hid hR
  clear hR
  go_enter Tryz.func74, Tryz.ntmps74
  go_wp2
  go_ret
  refine ⟨ret_int ?_, rfl⟩
  rw [HR.out, ← rev8 x _ _ H.out rfl rfl]
  have hx := H.out
  have c : (71777214294589695 : Int) = ((71777214294589695 : Nat) : Int) := rfl
  have c2 : (281470681808895 : Int) = ((281470681808895 : Nat) : Int) := rfl
  have hm : ∀ y : Nat, y &&& 71777214294589695 ≤ 71777214294589695 := fun y => Nat.and_le_right
  have hm2 : ∀ y : Nat, y &&& 281470681808895 ≤ 281470681808895 := fun y => Nat.and_le_right
  have h1 := hm x
  have h2 := hm (x / 256)
  have h3 : (x / 256 &&& 71777214294589695) ||| (x &&& 71777214294589695) * 256 < 2 ^ 64 := Nat.or_lt_two_pow (by omega) (by omega)
  simp only [Nat.reducePow] at h3
  rw [d8, c, c2, bits_and_u64_nat _ _ (by omega) (by omega), bits_and_u64_nat _ _ (by omega) (by omega)]
  have e : IntKind.u64.wrap (((x &&& 71777214294589695 : Nat) : Int) * 256) = (((x &&& 71777214294589695) * 256 : Nat) : Int) := by rw [IntKind.wrap_u64]; omega
  rw [e, bits_or_u64_nat _ _ (by omega) (by omega)]
  generalize (x / 256 &&& 71777214294589695) ||| (x &&& 71777214294589695) * 256 = P at h3 ⊢
  clear e h1 h2
  have h1 := hm2 P
  have h2 := hm2 (P / 65536)
  have h4 : (P / 65536 &&& 281470681808895) ||| (P &&& 281470681808895) * 65536 < 2 ^ 64 := Nat.or_lt_two_pow (by omega) (by omega)
  simp only [Nat.reducePow] at h4
  rw [d16, bits_and_u64_nat _ _ (by omega) (by omega), bits_and_u64_nat _ _ (by omega) (by omega)]
  have e : IntKind.u64.wrap (((P &&& 281470681808895 : Nat) : Int) * 65536) = (((P &&& 281470681808895) * 65536 : Nat) : Int) := by rw [IntKind.wrap_u64]; omega
  rw [e, bits_or_u64_nat _ _ (by omega) (by omega)]
  generalize (P / 65536 &&& 281470681808895) ||| (P &&& 281470681808895) * 65536 = S at h4 ⊢
  clear e h1 h2 h3
  have e : IntKind.u64.wrap ((S : Int) * 4294967296) = ((S * 4294967296 % 18446744073709551616 : Nat) : Int) := by rw [IntKind.wrap_u64]; omega
  rw [e, d32, bits_or_u64_nat _ _ (by omega) (by omega)]
end Go.Proofs.YtbkcpepalicbjaaGreat
