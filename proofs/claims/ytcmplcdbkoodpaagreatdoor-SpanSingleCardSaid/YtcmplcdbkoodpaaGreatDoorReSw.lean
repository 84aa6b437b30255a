import Derived.Test.YtcmplcdbkoodpaaGreatDoorRfAl
import Derived.Test.YtcmplcdbkoodpaaGreatDoorHoldsA
import Derived.Shelf.Spec.TrailingZeros
set_option maxHeartbeats 800000
namespace Go.Proofs.YtcmplcdbkoodpaaGreatDoor
open Go.RowKit
set_option linter.unusedVariables false
def rev : Nat -> Nat -> Nat
 | 0, _ => 0
 | k + 1, x => x % 256 * 256 ^ k + rev k (x / 256)
theorem rev_lt (k x : Nat) : rev k x < 256 ^ k := by
 induction k generalizing x with
 | zero => simp [rev]
 | succ k ih =>
   have h := ih (x / 256)
   have h2 : x % 256 * 256 ^ k <= 255 * 256 ^ k := Nat.mul_le_mul_right _ (by omega)
   have e : 256 ^ (k + 1) = 256 * 256 ^ k := Nat.pow_succ'
   show x % 256 * 256 ^ k + rev k (x / 256) < _
   omega
theorem or_split (i a b c d : Nat) (hb : b < 2 ^ i) (hd : d < 2 ^ i) : (2 ^ i * a + b) ||| (2 ^ i * c + d) = 2 ^ i * (a ||| c) + (b ||| d) := by
 refine Nat.eq_of_testBit_eq fun j => ?_
 rw [Nat.testBit_or, Nat.testBit_two_pow_mul_add _ hb, Nat.testBit_two_pow_mul_add _ hd, Nat.testBit_two_pow_mul_add _ (Nat.or_lt_two_pow hb hd)]
 split <;> rw [Nat.testBit_or]
theorem and_split (i a b c d : Nat) (hb : b < 2 ^ i) (hd : d < 2 ^ i) : (2 ^ i * a + b) &&& (2 ^ i * c + d) = 2 ^ i * (a &&& c) + (b &&& d) := by
 refine Nat.eq_of_testBit_eq fun j => ?_
 rw [Nat.testBit_and, Nat.testBit_two_pow_mul_add _ hb, Nat.testBit_two_pow_mul_add _ hd, Nat.testBit_two_pow_mul_add _ (Nat.lt_of_le_of_lt Nat.and_le_left hb)]
 split <;> rw [Nat.testBit_and]
theorem and_255 (x : Nat) : x &&& 255 = x % 256 := Nat.and_two_pow_sub_one_eq_mod x 8
theorem or_byte (p q : Nat) (hp : p < 256) : p ||| q * 256 = q * 256 + p := by
 have h := or_split 8 0 p q 0 hp (by decide)
 simp only [Nat.reducePow, Nat.mul_zero, Nat.zero_add, Nat.add_zero, Nat.zero_or, Nat.or_zero] at h
 rw [Nat.mul_comm q, h]
theorem or_half (p q : Nat) (hp : p < 65536) : p ||| q * 65536 = q * 65536 + p := by
 have h := or_split 16 0 p q 0 hp (by decide)
 simp only [Nat.reducePow, Nat.mul_zero, Nat.zero_add, Nat.add_zero, Nat.zero_or, Nat.or_zero] at h
 rw [Nat.mul_comm q, h]
theorem or_word (p q : Nat) (hp : p < 4294967296) : p ||| q * 4294967296 = q * 4294967296 + p := by
 have h := or_split 32 0 p q 0 hp (by decide)
 simp only [Nat.reducePow, Nat.mul_zero, Nat.zero_add, Nat.add_zero, Nat.zero_or, Nat.or_zero] at h
 rw [Nat.mul_comm q, h]
theorem mask2 (x : Nat) : x &&& 16711935 = x / 65536 % 256 * 65536 + x % 256 := by
 have h := and_split 16 (x / 65536) (x % 65536) 255 255 (by omega) (by decide)
 have e1 : 2 ^ 16 * (x / 65536) + x % 65536 = x := by omega
 have e2 : 2 ^ 16 * 255 + 255 = 16711935 := by decide
 rw [e1, e2, and_255, and_255] at h
 rw [h]; omega
theorem mask4 (x : Nat) : x &&& 71777214294589695 = (x / 4294967296 &&& 16711935) * 4294967296 + (x % 4294967296 &&& 16711935) := by
 have h := and_split 32 (x / 4294967296) (x % 4294967296) 16711935 16711935 (by omega) (by decide)
 have e1 : 2 ^ 32 * (x / 4294967296) + x % 4294967296 = x := by omega
 have e2 : 2 ^ 32 * 16711935 + 16711935 = 71777214294589695 := by decide
 rw [e1, e2] at h
 rw [h]; omega
theorem and_65535 (x : Nat) : x &&& 65535 = x % 65536 := Nat.and_two_pow_sub_one_eq_mod x 16
theorem mask42 (x : Nat) : x &&& 281470681808895 = x / 4294967296 % 65536 * 4294967296 + x % 65536 := by
 have h := and_split 32 (x / 4294967296) (x % 4294967296) 65535 65535 (by omega) (by decide)
 have e1 : 2 ^ 32 * (x / 4294967296) + x % 4294967296 = x := by omega
 have e2 : 2 ^ 32 * 65535 + 65535 = 281470681808895 := by decide
 rw [e1, e2, and_65535, and_65535] at h
 rw [h]; omega
theorem or_split16 (a b c d : Nat) (hb : b < 65536) (hd : d < 65536) : (65536 * a + b) ||| (65536 * c + d) = 65536 * (a ||| c) + (b ||| d) := or_split 16 a b c d hb hd
theorem or_split32 (a b c d : Nat) (hb : b < 4294967296) (hd : d < 4294967296) : (4294967296 * a + b) ||| (4294967296 * c + d) = 4294967296 * (a ||| c) + (b ||| d) := or_split 32 a b c d hb hd
theorem pairs2 (x a b c d : Nat) (ha : a < 256) (hb : b < 256) (hc : c < 256) (hd : d < 256) (hx : x = a + 256 * b + 65536 * c + 16777216 * d) :
 (x / 256 &&& 16711935) ||| (x &&& 16711935) * 256 = c * 16777216 + d * 65536 + a * 256 + b := by
 have m1 : x / 256 &&& 16711935 = 65536 * d + b := by rw [mask2]; omega
 have m2 : (x &&& 16711935) * 256 = 65536 * (c * 256) + a * 256 := by rw [mask2]; omega
 rw [m1, m2, or_split16 d b (c * 256) (a * 256) (by omega) (by omega), or_byte _ _ hd, or_byte _ _ hb]
 omega
theorem bytes2 (x : Nat) (hx : x < 65536) : ∃ a b, a < 256 /\ b < 256 /\ x = a + 256 * b := ⟨x % 256, x / 256, by omega, by omega, by omega⟩
theorem bytes4 (x : Nat) (hx : x < 4294967296) : ∃ a b c d, a < 256 /\ b < 256 /\ c < 256 /\ d < 256 /\ x = a + 256 * b + 65536 * c + 16777216 * d := by
 obtain ⟨p, q, hp, hq, h⟩ : ∃ p q, p < 65536 /\ q < 65536 /\ x = p + 65536 * q := ⟨x % 65536, x / 65536, by omega, by omega, by omega⟩
 obtain ⟨a, b, ha, hb, h1⟩ := bytes2 p hp
 obtain ⟨c, d, hc, hd, h2⟩ := bytes2 q hq
 exact ⟨a, b, c, d, ha, hb, hc, hd, by omega⟩
theorem bytes8 (x : Nat) (hx : x < 18446744073709551616) : ∃ p q, p < 4294967296 /\ q < 4294967296 /\ x = p + 4294967296 * q := ⟨x % 4294967296, x / 4294967296, by omega, by omega, by omega⟩
theorem rev_step (k x a y : Nat) (ha : a < 256) (hx : x = a + 256 * y) : rev (k + 1) x = a * 256 ^ k + rev k y := by
 have e1 : x % 256 = a := by omega
 have e2 : x / 256 = y := by omega
 show x % 256 * 256 ^ k + rev k (x / 256) = _
 rw [e1, e2]
theorem rev2_of (x a b : Nat) (ha : a < 256) (hb : b < 256) (hx : x = a + 256 * b) : rev 2 x = a * 256 + b := by
 rw [rev_step 1 x a b ha hx, rev_step 0 b b 0 hb (by omega)]
 simp [rev]
theorem rev4_of (x a b c d : Nat) (ha : a < 256) (hb : b < 256) (hc : c < 256) (hd : d < 256) (hx : x = a + 256 * b + 65536 * c + 16777216 * d) : rev 4 x = a * 16777216 + b * 65536 + c * 256 + d := by
 rw [rev_step 3 x a (b + 256 * c + 65536 * d) ha (by omega), rev_step 2 _ b (c + 256 * d) hb (by omega), rev_step 1 _ c d hc (by omega), rev_step 0 d d 0 hd (by omega)]
 simp only [rev, Nat.reducePow]; omega
theorem rev2 (x : Nat) (hx : x < 65536) : x / 256 ||| x * 256 % 65536 = rev 2 x := by
 obtain ⟨a, b, ha, hb, h⟩ := bytes2 x hx
 rw [rev2_of x a b ha hb h]
 have e1 : x * 256 % 65536 = a * 256 := by omega
 have e2 : x / 256 = b := by omega
 rw [e1, e2, or_byte _ _ hb]
theorem rev4 (x : Nat) (hx : x < 4294967296) : ((x / 256 &&& 16711935) ||| (x &&& 16711935) * 256) / 65536 ||| ((x / 256 &&& 16711935) ||| (x &&& 16711935) * 256) * 65536 % 4294967296 = rev 4 x := by
 obtain ⟨a, b, c, d, ha, hb, hc, hd, h⟩ := bytes4 x hx
 rw [pairs2 x a b c d ha hb hc hd h, rev4_of x a b c d ha hb hc hd h]
 have e1 : (c * 16777216 + d * 65536 + a * 256 + b) / 65536 = c * 256 + d := by omega
 have e2 : (c * 16777216 + d * 65536 + a * 256 + b) * 65536 % 4294967296 = (a * 256 + b) * 65536 := by omega
 rw [e1, e2, or_half _ _ (by omega)]
 omega
theorem rev8_of (x p q : Nat) (hp : p < 4294967296) (hq : q < 4294967296) (hx : x = p + 4294967296 * q) : rev 8 x = rev 4 p * 4294967296 + rev 4 q := by
 obtain ⟨a, b, c, d, ha, hb, hc, hd, h⟩ := bytes4 p hp
 rw [rev4_of p a b c d ha hb hc hd h]
 rw [rev_step 7 x a (b + 256 * c + 65536 * d + 16777216 * q) ha (by omega), rev_step 6 _ b (c + 256 * d + 65536 * q) hb (by omega), rev_step 5 _ c (d + 256 * q) hc (by omega), rev_step 4 _ d q hd (by omega)]
 simp only [Nat.reducePow]; omega
theorem pairs4 (x p q : Nat) (hp : p < 4294967296) (hq : q < 4294967296) (hx : x = p + 4294967296 * q) :
 (x / 256 &&& 71777214294589695) ||| (x &&& 71777214294589695) * 256 = 4294967296 * ((q / 256 &&& 16711935) ||| (q &&& 16711935) * 256) + ((p / 256 &&& 16711935) ||| (p &&& 16711935) * 256) := by
 have hm : ∀ y : Nat, y &&& 16711935 <= 16711935 := fun y => Nat.and_le_right
 have m1 : x / 256 &&& 71777214294589695 = 4294967296 * (q / 256 &&& 16711935) + (p / 256 &&& 16711935) := by
  rw [mask4]
  have e1 : x / 256 / 4294967296 = q / 256 := by omega
  have e2 : (x / 256 % 4294967296) &&& 16711935 = p / 256 &&& 16711935 := by
   rw [mask2, mask2]
   have e : x / 256 % 4294967296 = p / 256 + 16777216 * (q % 256) := by omega
   rw [e]; omega
  rw [e1, e2, Nat.mul_comm]
 have m2 : (x &&& 71777214294589695) * 256 = 4294967296 * ((q &&& 16711935) * 256) + (p &&& 16711935) * 256 := by
  rw [mask4]
  have e1 : x / 4294967296 = q := by omega
  have e2 : x % 4294967296 = p := by omega
  rw [e1, e2]; omega
 have h1 := hm (p / 256)
 have h2 := hm p
 rw [m1, m2, or_split32 _ _ _ _ (by omega) (by omega)]
theorem rev8 (x P R : Nat) (hx : x < 18446744073709551616) (hP : P = (x / 256 &&& 71777214294589695) ||| (x &&& 71777214294589695) * 256)
 (hR : R = (P / 65536 &&& 281470681808895) ||| (P &&& 281470681808895) * 65536) : R / 4294967296 ||| R * 4294967296 % 18446744073709551616 = rev 8 x := by
 obtain ⟨p, q, hp, hq, h⟩ := bytes8 x hx
 rw [pairs4 x p q hp hq h] at hP
 rw [rev8_of x p q hp hq h]
 have r1 := rev4 p hp
 have r2 := rev4 q hq
 have l1 := rev_lt 4 p
 have l2 := rev_lt 4 q
 simp only [Nat.reducePow] at l1 l2
 obtain ⟨a, b, c, d, ha, hb, hc, hd, hpb⟩ := bytes4 p hp
 obtain ⟨a', b', c', d', ha', hb', hc', hd', hqb⟩ := bytes4 q hq
 have s1 : (p / 256 &&& 16711935) ||| (p &&& 16711935) * 256 < 4294967296 := by rw [pairs2 p a b c d ha hb hc hd hpb]; omega
 have s2 : (q / 256 &&& 16711935) ||| (q &&& 16711935) * 256 < 4294967296 := by rw [pairs2 q a' b' c' d' ha' hb' hc' hd' hqb]; omega
 generalize (p / 256 &&& 16711935) ||| (p &&& 16711935) * 256 = Pp at hP r1 s1
 generalize (q / 256 &&& 16711935) ||| (q &&& 16711935) * 256 = Pq at hP r2 s2
 generalize rev 4 p = rp at r1 l1 ⊢
 generalize rev 4 q = rq at r2 l2 ⊢
 clear hpb hqb ha hb hc hd ha' hb' hc' hd' hp hq h hx
 have m1 : P / 65536 &&& 281470681808895 = 4294967296 * (Pq / 65536) + Pp / 65536 := by
  rw [mask42]
  have e1 : P / 65536 = 65536 * Pq + Pp / 65536 := by omega
  rw [e1]; omega
 have m2 : (P &&& 281470681808895) * 65536 = 4294967296 * (Pq * 65536 % 4294967296) + Pp * 65536 % 4294967296 := by
  rw [mask42]
  have e1 : P / 4294967296 = Pq := by omega
  have e2 : P % 65536 = Pp % 65536 := by omega
  rw [e1, e2]; omega
 rw [m1, m2, or_split32 _ _ _ _ (by omega) (by omega), r1, r2] at hR
 have e1 : R / 4294967296 = rq := by omega
 have e2 : R * 4294967296 % 18446744073709551616 = rp * 4294967296 := by omega
 rw [e1, e2, or_word _ _ (by omega)]
theorem o16 (x y : Nat) (hx : x < 65536) (hy : y < 65536) : bits .or .u16 (x : Int) (y : Int) = ((x ||| y : Nat) : Int) := by
 show IntKind.u16.wrap ((BitVec.ofInt 16 x ||| BitVec.ofInt 16 y).toNat : Int) = _
 have e1 : (BitVec.ofInt 16 (x : Int)).toNat = x := by rw [BitVec.toNat_ofInt]; simp only [Nat.reducePow]; omega
 have e2 : (BitVec.ofInt 16 (y : Int)).toNat = y := by rw [BitVec.toNat_ofInt]; simp only [Nat.reducePow]; omega
 rw [BitVec.toNat_or, e1, e2]
 have h : x ||| y < 2 ^ 16 := Nat.or_lt_two_pow hx hy
 simp only [Nat.reducePow] at h
 exact IntWalk.u16_in _ (by omega)
theorem o32 (x y : Nat) (hx : x < 4294967296) (hy : y < 4294967296) : bits .or .u32 (x : Int) (y : Int) = ((x ||| y : Nat) : Int) := by
 show IntKind.u32.wrap ((BitVec.ofInt 32 x ||| BitVec.ofInt 32 y).toNat : Int) = _
 have e1 : (BitVec.ofInt 32 (x : Int)).toNat = x := by rw [BitVec.toNat_ofInt]; simp only [Nat.reducePow]; omega
 have e2 : (BitVec.ofInt 32 (y : Int)).toNat = y := by rw [BitVec.toNat_ofInt]; simp only [Nat.reducePow]; omega
 rw [BitVec.toNat_or, e1, e2]
 have h : x ||| y < 2 ^ 32 := Nat.or_lt_two_pow hx hy
 simp only [Nat.reducePow] at h
 exact IntWalk.u32_in _ (by omega)
theorem d8 (x : Nat) : (x : Int) / 256 = ((x / 256 : Nat) : Int) := by omega
theorem d16 (x : Nat) : (x : Int) / 65536 = ((x / 65536 : Nat) : Int) := by omega
theorem d32 (x : Nat) : (x : Int) / 4294967296 = ((x / 4294967296 : Nat) : Int) := by omega
theorem rev16_run (x : Nat) (hx : x < 65536) (w : World) : Calls Tryz.prog 101 #[.int .u16 x] w fun e w' => e = .returned (.int .u16 ((rev 2 x : Nat) : Int)) /\ w = w' := by
 have H := Lib.hid hx
 obtain ⟨R, hR⟩ : ∃ R, R = rev 2 x := ⟨_, rfl⟩
 rw [<- hR]
 have HR := Lib.hid hR
 clear hR
 go_enter Tryz.func101, Tryz.ntmps101
 go_wp2
 go_ret
 refine ⟨ret_int ?_, rfl⟩
 rw [HR.out, <- rev2 x H.out]
 have hx := H.out
 have e : IntKind.u16.wrap ((x : Int) * 256) = ((x * 256 % 65536 : Nat) : Int) := by
  rw [IntKind.wrap_u16]; omega
 rw [e, d8, o16 _ _ (by omega) (by omega)]
theorem rev32_run (x : Nat) (hx : x < 4294967296) (w : World) : Calls Tryz.prog 102 #[.int .u32 x] w fun e w' => e = .returned (.int .u32 ((rev 4 x : Nat) : Int)) /\ w = w' := by
 have H := Lib.hid hx
 obtain ⟨R, hR⟩ : ∃ R, R = rev 4 x := ⟨_, rfl⟩
 rw [<- hR]
 have HR := Lib.hid hR
 clear hR
 go_enter Tryz.func102, Tryz.ntmps102
 go_wp2
 go_ret
 refine ⟨ret_int ?_, rfl⟩
 rw [HR.out, <- rev4 x H.out]
 have hx := H.out
 have c : (16711935 : Int) = ((16711935 : Nat) : Int) := rfl
 have hm : ∀ y : Nat, y &&& 16711935 <= 16711935 := fun y => Nat.and_le_right
 have h1 := hm x
 have h2 := hm (x / 256)
 have h3 : (x / 256 &&& 16711935) ||| (x &&& 16711935) * 256 < 2 ^ 32 := Nat.or_lt_two_pow (by omega) (by omega)
 simp only [Nat.reducePow] at h3
 rw [d8, c, bits_and_u32_nat _ _ (by omega) (by omega), bits_and_u32_nat _ _ (by omega) (by omega)]
 have e : ((x &&& 16711935 : Nat) : Int) * 256 % 4294967296 = (((x &&& 16711935) * 256 : Nat) : Int) := by omega
 rw [e, o32 _ _ (by omega) (by omega)]
 generalize (x / 256 &&& 16711935) ||| (x &&& 16711935) * 256 = P at h3 ⊢
 have e2 : ((P : Nat) : Int) * 65536 % 4294967296 = ((P * 65536 % 4294967296 : Nat) : Int) := by omega
 rw [e2, d16, o32 _ _ (by omega) (by omega)]
theorem rev64_run (x : Nat) (hx : x < 18446744073709551616) (w : World) : Calls Tryz.prog 103 #[.int .u64 x] w fun e w' => e = .returned (.int .u64 ((rev 8 x : Nat) : Int)) /\ w = w' := by
 have H := Lib.hid hx
 obtain ⟨R, hR⟩ : ∃ R, R = rev 8 x := ⟨_, rfl⟩
 rw [<- hR]
 have HR := Lib.hid hR
 clear hR
 go_enter Tryz.func103, Tryz.ntmps103
 go_wp2
 go_ret
 refine ⟨ret_int ?_, rfl⟩
 rw [HR.out, <- rev8 x _ _ H.out rfl rfl]
 have hx := H.out
 have c : (71777214294589695 : Int) = ((71777214294589695 : Nat) : Int) := rfl
 have c2 : (281470681808895 : Int) = ((281470681808895 : Nat) : Int) := rfl
 have hm : ∀ y : Nat, y &&& 71777214294589695 <= 71777214294589695 := fun y => Nat.and_le_right
 have hm2 : ∀ y : Nat, y &&& 281470681808895 <= 281470681808895 := fun y => Nat.and_le_right
 have h1 := hm x
 have h2 := hm (x / 256)
 have h3 : (x / 256 &&& 71777214294589695) ||| (x &&& 71777214294589695) * 256 < 2 ^ 64 := Nat.or_lt_two_pow (by omega) (by omega)
 simp only [Nat.reducePow] at h3
 rw [d8, c, c2, bits_and_u64_nat _ _ (by omega) (by omega), bits_and_u64_nat _ _ (by omega) (by omega)]
 have e : IntKind.u64.wrap (((x &&& 71777214294589695 : Nat) : Int) * 256) = (((x &&& 71777214294589695) * 256 : Nat) : Int) := by rw [IntKind.wrap_u64]; omega
 rw [e, bits_or_u64_nat _ _ (by omega) (by omega)]
 generalize (x / 256 &&& 71777214294589695) ||| (x &&& 71777214294589695) * 256 = P at h3 ⊢
 clear e h1 h2
 have h1 := hm2 P
 have h2 := hm2 (P / 65536)
 have h4 : (P / 65536 &&& 281470681808895) ||| (P &&& 281470681808895) * 65536 < 2 ^ 64 := Nat.or_lt_two_pow (by omega) (by omega)
 simp only [Nat.reducePow] at h4
 rw [d16, bits_and_u64_nat _ _ (by omega) (by omega), bits_and_u64_nat _ _ (by omega) (by omega)]
 have e : IntKind.u64.wrap (((P &&& 281470681808895 : Nat) : Int) * 65536) = (((P &&& 281470681808895) * 65536 : Nat) : Int) := by rw [IntKind.wrap_u64]; omega
 rw [e, bits_or_u64_nat _ _ (by omega) (by omega)]
 generalize (P / 65536 &&& 281470681808895) ||| (P &&& 281470681808895) * 65536 = S at h4 ⊢
 clear e h1 h2 h3
 have e : IntKind.u64.wrap ((S : Int) * 4294967296) = ((S * 4294967296 % 18446744073709551616 : Nat) : Int) := by rw [IntKind.wrap_u64]; omega
 rw [e, d32, bits_or_u64_nat _ _ (by omega) (by omega)]
def swp (k : Nat) (t : Bool) (a : Int) : Nat := if t then rev k (lowN (8 * k) a) else lowN (8 * k) a
theorem swp_lt (k : Nat) (t : Bool) (a : Int) : swp k t a < 256 ^ k := by
 unfold swp
 have e : (256 : Nat) ^ k = 2 ^ (8 * k) := by rw [Nat.pow_mul]
 cases t
 ·rw [if_neg (by decide), e]; exact lowN_lt _ _
 ·rw [if_pos rfl]; exact rev_lt _ _
theorem low16_cast (a : Int) (U : Nat) (h : U = un a) : (U : Int) % 65536 = ((lowN 16 a : Nat) : Int) := by
 unfold lowN; rw [<- h, Int.natCast_emod]; rfl
theorem low32_cast (a : Int) (U : Nat) (h : U = un a) : (U : Int) % 4294967296 = ((lowN 32 a : Nat) : Int) := by
 unfold lowN; rw [<- h, Int.natCast_emod]; rfl
theorem swap16_false (a : Int) (ra : -9223372036854775808 <= a /\ a <= 9223372036854775807) (w : World) :
 Calls Tryz.prog 48 #[.int .i64 16, .bool false, .int .i64 a] w fun e w' => e = .returned (.int .i64 (wrap64 ((swp 2 false a : Nat) : Int))) /\ w = w' := by
 obtain ⟨R, hR⟩ : ∃ R, R = swp 2 false a := ⟨_, rfl⟩
 rw [<- hR]
 have hRl : R < 65536 := by rw [hR]; exact swp_lt 2 false a
 have hua := u64_un' a
 obtain ⟨U, hU⟩ : ∃ U, U = un a := ⟨_, rfl⟩
 have hUl : U < 18446744073709551616 := by rw [hU]; exact un_lt a
 rw [<- hU] at hua
 have hl := low16_cast a U hU
 have hl2 : IntKind.u16.wrap (U : Int) = ((lowN 16 a : Nat) : Int) := by rw [IntKind.wrap_u16]; exact hl
 obtain ⟨X, hX⟩ : ∃ X, X = lowN 16 a := ⟨_, rfl⟩
 rw [<- hX] at hl hl2
 have hXl : X < 65536 := by rw [hX]; exact lowN_lt 16 a
 have hRX : R = X := by rw [hR, hX]; rfl
 have HRX := Lib.hid hRX
 have HXL := Lib.hid hXl
 clear hRX hX hU hR
 go_enter Tryz.func48, Tryz.ntmps48
 go_wp2
 go_ret
 refine ⟨ret_int ?_, rfl⟩
 rw [HRX.out]
 all_goals (first | rfl | (have := HXL.out; (symm; unfold wrap64; omega)))
theorem swap16_true (a : Int) (ra : -9223372036854775808 <= a /\ a <= 9223372036854775807) (w : World) :
 Calls Tryz.prog 48 #[.int .i64 16, .bool true, .int .i64 a] w fun e w' => e = .returned (.int .i64 (wrap64 ((swp 2 true a : Nat) : Int))) /\ w = w' := by
 obtain ⟨R, hR⟩ : ∃ R, R = swp 2 true a := ⟨_, rfl⟩
 rw [<- hR]
 have hRl : R < 65536 := by rw [hR]; exact swp_lt 2 true a
 have hua := u64_un' a
 obtain ⟨U, hU⟩ : ∃ U, U = un a := ⟨_, rfl⟩
 have hUl : U < 18446744073709551616 := by rw [hU]; exact un_lt a
 rw [<- hU] at hua
 have hl := low16_cast a U hU
 have hl2 : IntKind.u16.wrap (U : Int) = ((lowN 16 a : Nat) : Int) := by rw [IntKind.wrap_u16]; exact hl
 obtain ⟨X, hX⟩ : ∃ X, X = lowN 16 a := ⟨_, rfl⟩
 rw [<- hX] at hl hl2
 have hXl : X < 65536 := by rw [hX]; exact lowN_lt 16 a
 have hRX : R = rev 2 X := by rw [hR, hX]; rfl
 have HRX := Lib.hid hRX
 have HXL := Lib.hid hXl
 clear hRX hX hU hR
 go_enter Tryz.func48, Tryz.ntmps48
 go_wp2_with fail
 refine (rev16_run X HXL.out _).mono ?_
 rintro e w1 ⟨rfl, rfl⟩
 rw [<- HRX.out]
 go_wp2
 go_ret
 refine ⟨ret_int ?_, rfl⟩
 all_goals (first | rfl | (symm; unfold wrap64; omega))
theorem swap32_false (a : Int) (ra : -9223372036854775808 <= a /\ a <= 9223372036854775807) (w : World) :
 Calls Tryz.prog 48 #[.int .i64 32, .bool false, .int .i64 a] w fun e w' => e = .returned (.int .i64 (wrap64 ((swp 4 false a : Nat) : Int))) /\ w = w' := by
 obtain ⟨R, hR⟩ : ∃ R, R = swp 4 false a := ⟨_, rfl⟩
 rw [<- hR]
 have hRl : R < 4294967296 := by rw [hR]; exact swp_lt 4 false a
 have hua := u64_un' a
 obtain ⟨U, hU⟩ : ∃ U, U = un a := ⟨_, rfl⟩
 have hUl : U < 18446744073709551616 := by rw [hU]; exact un_lt a
 rw [<- hU] at hua
 have hl := low32_cast a U hU
 have hl2 : IntKind.u32.wrap (U : Int) = ((lowN 32 a : Nat) : Int) := by rw [IntKind.wrap_u32]; exact hl
 obtain ⟨X, hX⟩ : ∃ X, X = lowN 32 a := ⟨_, rfl⟩
 rw [<- hX] at hl hl2
 have hXl : X < 4294967296 := by rw [hX]; exact lowN_lt 32 a
 have hRX : R = X := by rw [hR, hX]; rfl
 have HRX := Lib.hid hRX
 have HXL := Lib.hid hXl
 clear hRX hX hU hR
 go_enter Tryz.func48, Tryz.ntmps48
 go_wp2
 go_ret
 refine ⟨ret_int ?_, rfl⟩
 rw [HRX.out]
 all_goals (first | rfl | (have := HXL.out; (symm; unfold wrap64; omega)))
theorem swap32_true (a : Int) (ra : -9223372036854775808 <= a /\ a <= 9223372036854775807) (w : World) :
 Calls Tryz.prog 48 #[.int .i64 32, .bool true, .int .i64 a] w fun e w' => e = .returned (.int .i64 (wrap64 ((swp 4 true a : Nat) : Int))) /\ w = w' := by
 obtain ⟨R, hR⟩ : ∃ R, R = swp 4 true a := ⟨_, rfl⟩
 rw [<- hR]
 have hRl : R < 4294967296 := by rw [hR]; exact swp_lt 4 true a
 have hua := u64_un' a
 obtain ⟨U, hU⟩ : ∃ U, U = un a := ⟨_, rfl⟩
 have hUl : U < 18446744073709551616 := by rw [hU]; exact un_lt a
 rw [<- hU] at hua
 have hl := low32_cast a U hU
 have hl2 : IntKind.u32.wrap (U : Int) = ((lowN 32 a : Nat) : Int) := by rw [IntKind.wrap_u32]; exact hl
 obtain ⟨X, hX⟩ : ∃ X, X = lowN 32 a := ⟨_, rfl⟩
 rw [<- hX] at hl hl2
 have hXl : X < 4294967296 := by rw [hX]; exact lowN_lt 32 a
 have hRX : R = rev 4 X := by rw [hR, hX]; rfl
 have HRX := Lib.hid hRX
 have HXL := Lib.hid hXl
 clear hRX hX hU hR
 go_enter Tryz.func48, Tryz.ntmps48
 go_wp2_with fail
 refine (rev32_run X HXL.out _).mono ?_
 rintro e w1 ⟨rfl, rfl⟩
 rw [<- HRX.out]
 go_wp2
 go_ret
 refine ⟨ret_int ?_, rfl⟩
 all_goals (first | rfl | (symm; unfold wrap64; omega))
theorem swap64_false (a : Int) (ra : -9223372036854775808 <= a /\ a <= 9223372036854775807) (w : World) :
 Calls Tryz.prog 48 #[.int .i64 64, .bool false, .int .i64 a] w fun e w' => e = .returned (.int .i64 (wrap64 ((swp 8 false a : Nat) : Int))) /\ w = w' := by
 obtain ⟨R, hR⟩ : ∃ R, R = swp 8 false a := ⟨_, rfl⟩
 rw [<- hR]
 have hRl : R < 18446744073709551616 := by rw [hR]; exact swp_lt 8 false a
 have hua := u64_un' a
 obtain ⟨U, hU⟩ : ∃ U, U = un a := ⟨_, rfl⟩
 have hUl : U < 18446744073709551616 := by rw [hU]; exact un_lt a
 rw [<- hU] at hua
 have hw : wrap64 (R : Int) = a := by rw [hR]; show wrap64 ((lowN 64 a : Nat) : Int) = a; rw [lowN_64]; exact wrap64_un ra.1 ra.2
 rw [hw]
 clear hw hR hU
 go_enter Tryz.func48, Tryz.ntmps48
 go_wp2
 go_ret
 exact ⟨rfl, rfl⟩
theorem swap64_true (a : Int) (ra : -9223372036854775808 <= a /\ a <= 9223372036854775807) (w : World) :
 Calls Tryz.prog 48 #[.int .i64 64, .bool true, .int .i64 a] w fun e w' => e = .returned (.int .i64 (wrap64 ((swp 8 true a : Nat) : Int))) /\ w = w' := by
 obtain ⟨R, hR⟩ : ∃ R, R = swp 8 true a := ⟨_, rfl⟩
 rw [<- hR]
 have hRl : R < 18446744073709551616 := by rw [hR]; exact swp_lt 8 true a
 have hua := u64_un' a
 obtain ⟨U, hU⟩ : ∃ U, U = un a := ⟨_, rfl⟩
 have hUl : U < 18446744073709551616 := by rw [hU]; exact un_lt a
 rw [<- hU] at hua
 have hRX : R = rev 8 U := by rw [hR, hU]; show rev 8 (lowN 64 a) = _; rw [lowN_64]
 have HRX := Lib.hid hRX
 have HXL := Lib.hid hUl
 clear hRX hR hU
 go_enter Tryz.func48, Tryz.ntmps48
 go_wp2_with fail
 refine (rev64_run U HXL.out _).mono ?_
 rintro e w1 ⟨rfl, rfl⟩
 rw [<- HRX.out]
 go_wp2
 go_ret
 refine ⟨ret_int ?_, rfl⟩
 all_goals (first | rfl | (symm; unfold wrap64; omega))
theorem swap_other (size : Int) (t : Bool) (a : Int) (h : size ≠ 16 /\ size ≠ 32 /\ size ≠ 64) (w : World) :
 Calls Tryz.prog 48 #[.int .i64 size, .bool t, .int .i64 a] w fun e w' => e = .returned (.int .i64 0) /\ w = w' := by
 have h1 : (size == 16) = false := by rw [beq_eq_false_iff_ne]; omega
 have h2 : (size == 32) = false := by rw [beq_eq_false_iff_ne]; omega
 have h3 : (size == 64) = false := by rw [beq_eq_false_iff_ne]; omega
 clear h
 cases t
 all_goals
  go_enter Tryz.func48, Tryz.ntmps48
  go_wp2
  go_ret
  exact ⟨rfl, rfl⟩
end Go.Proofs.YtcmplcdbkoodpaaGreatDoor
