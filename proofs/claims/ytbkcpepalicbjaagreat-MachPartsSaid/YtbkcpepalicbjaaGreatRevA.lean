/-
  Bytes back to front: plain arithmetic, and the three functions of math/bits.
-/
import Derived.Test.YtbkcpepalicbjaaGreatRefAluB
import Derived.Test.YtbkcpepalicbjaaGreatHoldsA
import Derived.Shelf.Spec.TrailingZeros
namespace Go.Proofs.YtbkcpepalicbjaaGreat
open Go.RowKit
set_option linter.unusedVariables false

/-- The lowest k bytes of x, back to front. -/
def rev : Nat → Nat → Nat
  | 0, _ => 0
  | k + 1, x => x % 256 * 256 ^ k + rev k (x / 256)
theorem rev_lt (k x : Nat) : rev k x < 256 ^ k := by
  induction k generalizing x with
  | zero => simp [rev]
  | succ k ih =>
    have h := ih (x / 256)
    have h2 : x % 256 * 256 ^ k ≤ 255 * 256 ^ k := Nat.mul_le_mul_right _ (by omega)
    have e : 256 ^ (k + 1) = 256 * 256 ^ k := Nat.pow_succ'
    show x % 256 * 256 ^ k + rev k (x / 256) < _
    omega
theorem or_split (i a b c d : Nat) (hb : b < 2 ^ i) (hd : d < 2 ^ i) : (2 ^ i * a + b) ||| (2 ^ i * c + d) = 2 ^ i * (a ||| c) + (b ||| d) := by
  refine Nat.eq_of_testBit_eq fun j => ?_
  rw [Nat.testBit_or, Nat.testBit_two_pow_mul_add _ hb, Nat.testBit_two_pow_mul_add _ hd, Nat.testBit_two_pow_mul_add _ (Nat.or_lt_two_pow hb hd)]
  split <;> rw [Nat.testBit_or]
theorem and_split (i a b c d : Nat) (hb : b < 2 ^ i) (hd : d < 2 ^ i) : (2 ^ i * a + b) &&& (2 ^ i * c + d) = 2 ^ i * (a &&& c) + (b &&& d) := by
  refine Nat.eq_of_testBit_eq fun j => ?_
  rw [Nat.testBit_and, Nat.testBit_two_pow_mul_add _ hb, Nat.testBit_two_pow_mul_add _ hd, Nat.testBit_two_pow_mul_add _ (Nat.lt_of_le_of_lt Nat.and_le_left hb)]
  split <;> rw [Nat.testBit_and]
theorem and_255 (x : Nat) : x &&& 255 = x % 256 := Nat.and_two_pow_sub_one_eq_mod x 8
theorem or_byte (p q : Nat) (hp : p < 256) : p ||| q * 256 = q * 256 + p := by
  have h := or_split 8 0 p q 0 hp (by decide)
  simp only [Nat.reducePow, Nat.mul_zero, Nat.zero_add, Nat.add_zero, Nat.zero_or, Nat.or_zero] at h
  rw [Nat.mul_comm q, h]
theorem or_half (p q : Nat) (hp : p < 65536) : p ||| q * 65536 = q * 65536 + p := by
  have h := or_split 16 0 p q 0 hp (by decide)
  simp only [Nat.reducePow, Nat.mul_zero, Nat.zero_add, Nat.add_zero, Nat.zero_or, Nat.or_zero] at h
  rw [Nat.mul_comm q, h]
theorem or_word (p q : Nat) (hp : p < 4294967296) : p ||| q * 4294967296 = q * 4294967296 + p := by
  have h := or_split 32 0 p q 0 hp (by decide)
  simp only [Nat.reducePow, Nat.mul_zero, Nat.zero_add, Nat.add_zero, Nat.zero_or, Nat.or_zero] at h
  rw [Nat.mul_comm q, h]
/-- Each second byte, of four. -/
theorem mask2 (x : Nat) : x &&& 16711935 = x / 65536 % 256 * 65536 + x % 256 := by
  have h := and_split 16 (x / 65536) (x % 65536) 255 255 (by omega) (by decide)
  have e1 : 2 ^ 16 * (x / 65536) + x % 65536 = x := by omega
  have e2 : 2 ^ 16 * 255 + 255 = 16711935 := by decide
  rw [e1, e2, and_255, and_255] at h
  rw [h]; omega
/-- Each second byte, of eight. -/
theorem mask4 (x : Nat) : x &&& 71777214294589695 = (x / 4294967296 &&& 16711935) * 4294967296 + (x % 4294967296 &&& 16711935) := by
  have h := and_split 32 (x / 4294967296) (x % 4294967296) 16711935 16711935 (by omega) (by decide)
  have e1 : 2 ^ 32 * (x / 4294967296) + x % 4294967296 = x := by omega
  have e2 : 2 ^ 32 * 16711935 + 16711935 = 71777214294589695 := by decide
  rw [e1, e2] at h
  rw [h]; omega
theorem and_65535 (x : Nat) : x &&& 65535 = x % 65536 := Nat.and_two_pow_sub_one_eq_mod x 16
/-- Each second half, of four. -/
theorem mask42 (x : Nat) : x &&& 281470681808895 = x / 4294967296 % 65536 * 4294967296 + x % 65536 := by
  have h := and_split 32 (x / 4294967296) (x % 4294967296) 65535 65535 (by omega) (by decide)
  have e1 : 2 ^ 32 * (x / 4294967296) + x % 4294967296 = x := by omega
  have e2 : 2 ^ 32 * 65535 + 65535 = 281470681808895 := by decide
  rw [e1, e2, and_65535, and_65535] at h
  rw [h]; omega
theorem or_split16 (a b c d : Nat) (hb : b < 65536) (hd : d < 65536) : (65536 * a + b) ||| (65536 * c + d) = 65536 * (a ||| c) + (b ||| d) := or_split 16 a b c d hb hd
theorem or_split32 (a b c d : Nat) (hb : b < 4294967296) (hd : d < 4294967296) : (4294967296 * a + b) ||| (4294967296 * c + d) = 4294967296 * (a ||| c) + (b ||| d) := or_split 32 a b c d hb hd
/-- Neighbouring bytes change places, of four. -/
theorem pairs2 (x a b c d : Nat) (ha : a < 256) (hb : b < 256) (hc : c < 256) (hd : d < 256) (hx : x = a + 256 * b + 65536 * c + 16777216 * d) :
    (x / 256 &&& 16711935) ||| (x &&& 16711935) * 256 = c * 16777216 + d * 65536 + a * 256 + b := by
  have m1 : x / 256 &&& 16711935 = 65536 * d + b := by rw [mask2]; omega
  have m2 : (x &&& 16711935) * 256 = 65536 * (c * 256) + a * 256 := by rw [mask2]; omega
  rw [m1, m2, or_split16 d b (c * 256) (a * 256) (by omega) (by omega), or_byte _ _ hd, or_byte _ _ hb]
  omega
theorem bytes2 (x : Nat) (hx : x < 65536) : ∃ a b, a < 256 ∧ b < 256 ∧ x = a + 256 * b := ⟨x % 256, x / 256, by omega, by omega, by omega⟩
theorem bytes4 (x : Nat) (hx : x < 4294967296) : ∃ a b c d, a < 256 ∧ b < 256 ∧ c < 256 ∧ d < 256 ∧ x = a + 256 * b + 65536 * c + 16777216 * d := by
  obtain ⟨p, q, hp, hq, h⟩ : ∃ p q, p < 65536 ∧ q < 65536 ∧ x = p + 65536 * q := ⟨x % 65536, x / 65536, by omega, by omega, by omega⟩
  obtain ⟨a, b, ha, hb, h1⟩ := bytes2 p hp
  obtain ⟨c, d, hc, hd, h2⟩ := bytes2 q hq
  exact ⟨a, b, c, d, ha, hb, hc, hd, by omega⟩
theorem bytes8 (x : Nat) (hx : x < 18446744073709551616) : ∃ p q, p < 4294967296 ∧ q < 4294967296 ∧ x = p + 4294967296 * q := ⟨x % 4294967296, x / 4294967296, by omega, by omega, by omega⟩
theorem rev_step (k x a y : Nat) (ha : a < 256) (hx : x = a + 256 * y) : rev (k + 1) x = a * 256 ^ k + rev k y := by
  have e1 : x % 256 = a := by omega
  have e2 : x / 256 = y := by omega
  show x % 256 * 256 ^ k + rev k (x / 256) = _
  rw [e1, e2]
theorem rev2_of (x a b : Nat) (ha : a < 256) (hb : b < 256) (hx : x = a + 256 * b) : rev 2 x = a * 256 + b := by
  rw [rev_step 1 x a b ha hx, rev_step 0 b b 0 hb (by omega)]
  simp [rev]
theorem rev4_of (x a b c d : Nat) (ha : a < 256) (hb : b < 256) (hc : c < 256) (hd : d < 256) (hx : x = a + 256 * b + 65536 * c + 16777216 * d) : rev 4 x = a * 16777216 + b * 65536 + c * 256 + d := by
  rw [rev_step 3 x a (b + 256 * c + 65536 * d) ha (by omega), rev_step 2 _ b (c + 256 * d) hb (by omega), rev_step 1 _ c d hc (by omega), rev_step 0 d d 0 hd (by omega)]
  simp only [rev, Nat.reducePow]; omega
theorem rev2 (x : Nat) (hx : x < 65536) : x / 256 ||| x * 256 % 65536 = rev 2 x := by
  obtain ⟨a, b, ha, hb, h⟩ := bytes2 x hx
  rw [rev2_of x a b ha hb h]
  have e1 : x * 256 % 65536 = a * 256 := by omega
  have e2 : x / 256 = b := by omega
  rw [e1, e2, or_byte _ _ hb]
theorem rev4 (x : Nat) (hx : x < 4294967296) : ((x / 256 &&& 16711935) ||| (x &&& 16711935) * 256) / 65536 ||| ((x / 256 &&& 16711935) ||| (x &&& 16711935) * 256) * 65536 % 4294967296 = rev 4 x := by
  obtain ⟨a, b, c, d, ha, hb, hc, hd, h⟩ := bytes4 x hx
  rw [pairs2 x a b c d ha hb hc hd h, rev4_of x a b c d ha hb hc hd h]
  have e1 : (c * 16777216 + d * 65536 + a * 256 + b) / 65536 = c * 256 + d := by omega
  have e2 : (c * 16777216 + d * 65536 + a * 256 + b) * 65536 % 4294967296 = (a * 256 + b) * 65536 := by omega
  rw [e1, e2, or_half _ _ (by omega)]
  omega
/-- Eight bytes back to front are two times four. -/
theorem rev8_of (x p q : Nat) (hp : p < 4294967296) (hq : q < 4294967296) (hx : x = p + 4294967296 * q) : rev 8 x = rev 4 p * 4294967296 + rev 4 q := by
  obtain ⟨a, b, c, d, ha, hb, hc, hd, h⟩ := bytes4 p hp
  rw [rev4_of p a b c d ha hb hc hd h]
  rw [rev_step 7 x a (b + 256 * c + 65536 * d + 16777216 * q) ha (by omega), rev_step 6 _ b (c + 256 * d + 65536 * q) hb (by omega), rev_step 5 _ c (d + 256 * q) hc (by omega), rev_step 4 _ d q hd (by omega)]
  simp only [Nat.reducePow]; omega
/-- Neighbouring bytes change places, of eight: in each half by itself. -/
theorem pairs4 (x p q : Nat) (hp : p < 4294967296) (hq : q < 4294967296) (hx : x = p + 4294967296 * q) :
    (x / 256 &&& 71777214294589695) ||| (x &&& 71777214294589695) * 256 = 4294967296 * ((q / 256 &&& 16711935) ||| (q &&& 16711935) * 256) + ((p / 256 &&& 16711935) ||| (p &&& 16711935) * 256) := by
  have hm : ∀ y : Nat, y &&& 16711935 ≤ 16711935 := fun y => Nat.and_le_right
  have m1 : x / 256 &&& 71777214294589695 = 4294967296 * (q / 256 &&& 16711935) + (p / 256 &&& 16711935) := by
    rw [mask4]
    have e1 : x / 256 / 4294967296 = q / 256 := by omega
    have e2 : (x / 256 % 4294967296) &&& 16711935 = p / 256 &&& 16711935 := by
      rw [mask2, mask2]
      have e : x / 256 % 4294967296 = p / 256 + 16777216 * (q % 256) := by omega
      rw [e]; omega
    rw [e1, e2, Nat.mul_comm]
  have m2 : (x &&& 71777214294589695) * 256 = 4294967296 * ((q &&& 16711935) * 256) + (p &&& 16711935) * 256 := by
    rw [mask4]
    have e1 : x / 4294967296 = q := by omega
    have e2 : x % 4294967296 = p := by omega
    rw [e1, e2]; omega
  have h1 := hm (p / 256)
  have h2 := hm p
  rw [m1, m2, or_split32 _ _ _ _ (by omega) (by omega)]
end Go.Proofs.YtbkcpepalicbjaaGreat
