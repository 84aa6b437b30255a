/-
  Plain arithmetic of bits: no program in sight.
-/
import Derived.WalkKit
namespace Go.Proofs.YtaaidjphacofgaaGreatDoor
open Go.RowKit

/-- Bit i of a natural number, as an integer. -/
def bit (x i : Nat) : Int := ((x / 2 ^ i % 2 : Nat) : Int)
theorem bit_01 (x i : Nat) : bit x i = 0 ∨ bit x i = 1 := by unfold bit; omega
theorem bit_nonneg (x i : Nat) : 0 ≤ bit x i := by unfold bit; omega
theorem bit_le (x i : Nat) : bit x i ≤ 1 := by unfold bit; omega

/-- A row of n cells that hold what g says. -/
def itab (n : Nat) (g : Nat → Int) : List Value := (List.range n).map fun i => Value.int .i64 (g i)
theorem itab_length (n : Nat) (g : Nat → Int) : (itab n g).length = n := by simp [itab]
theorem itab_get {n : Nat} (g : Nat → Int) {i : Nat} (h : i < n) : (itab n g)[i]? = some (.int .i64 (g i)) := by
  simp [itab, h]
theorem itab_congr {n : Nat} {g h : Nat → Int} (e : ∀ t, t < n → g t = h t) : itab n g = itab n h := by
  unfold itab; refine List.map_congr_left fun t ht => ?_; rw [e t (List.mem_range.1 ht)]
theorem itab_set (n : Nat) (g : Nat → Int) (j : Nat) (v : Int) : (itab n g).set j (.int .i64 v) = itab n (fun t => if t = j then v else g t) := by
  apply List.ext_getElem?
  intro i
  rw [List.getElem?_set]
  by_cases hi : i < n
  · by_cases hj : j = i
    · subst hj; simp [itab, hi]
    · simp [itab, hi, hj, Ne.symm hj]
  · simp [itab, hi]
    intro h; omega
/-- Two tables of the same cells of one length. -/
theorem itab_zero (n : Nat) : (madeCells #[Value.int .i64 0] n).toList = itab n (fun _ => 0) := by
  simp [madeCells, itab]
  intro a _
  rw [Nat.mod_one]; rfl

/-- The step of a sum: its bit and its carry. -/
def carryAt (x y c i : Nat) : Nat := (x % 2 ^ i + y % 2 ^ i + c) / 2 ^ i
theorem carry_zero (x y c : Nat) : carryAt x y c 0 = c := by simp [carryAt, Nat.mod_one]
theorem carry_le (x y c i : Nat) (hc : c ≤ 1) : carryAt x y c i ≤ 1 := by
  unfold carryAt
  have h := Nat.two_pow_pos i
  have h1 := Nat.mod_lt x h
  have h2 := Nat.mod_lt y h
  have : x % 2 ^ i + y % 2 ^ i + c < 2 * 2 ^ i := by omega
  have := Nat.div_lt_of_lt_mul (m := x % 2 ^ i + y % 2 ^ i + c) (n := 2 ^ i) (k := 2) (by omega)
  omega
theorem sum_div (x y c i : Nat) : (x + y + c) / 2 ^ i = x / 2 ^ i + y / 2 ^ i + carryAt x y c i := by
  unfold carryAt
  have hx := Nat.div_add_mod x (2 ^ i)
  have hy := Nat.div_add_mod y (2 ^ i)
  have h := Nat.two_pow_pos i
  have e : x + y + c = (x % 2 ^ i + y % 2 ^ i + c) + 2 ^ i * (x / 2 ^ i + y / 2 ^ i) := by
    rw [Nat.mul_add]; omega
  rw [e, Nat.add_mul_div_left _ _ h]
  omega
theorem carry_step (x y c i : Nat) : carryAt x y c (i + 1) = (x / 2 ^ i % 2 + y / 2 ^ i % 2 + carryAt x y c i) / 2 := by
  unfold carryAt
  rw [Nat.mod_pow_succ, Nat.mod_pow_succ, Nat.pow_succ, ← Nat.div_div_eq_div_mul]
  have h := Nat.two_pow_pos i
  have e : x % 2 ^ i + 2 ^ i * (x / 2 ^ i % 2) + (y % 2 ^ i + 2 ^ i * (y / 2 ^ i % 2)) + c = (x % 2 ^ i + y % 2 ^ i + c) + 2 ^ i * (x / 2 ^ i % 2 + y / 2 ^ i % 2) := by
    rw [Nat.mul_add]; omega
  rw [e, Nat.add_mul_div_left _ _ h]
  congr 1; omega
theorem sum_bit (x y c i : Nat) : ((x / 2 ^ i % 2 + y / 2 ^ i % 2 + carryAt x y c i) % 2) = (x + y + c) / 2 ^ i % 2 := by
  rw [sum_div]; omega

/-- A number is read off its bits from the highest place on. -/
theorem top_step (x i : Nat) : x / 2 ^ i = 2 * (x / 2 ^ (i + 1)) + x / 2 ^ i % 2 := by
  rw [Nat.pow_succ, ← Nat.div_div_eq_div_mul]; omega
theorem top_zero {x n : Nat} (h : x < 2 ^ n) : x / 2 ^ n = 0 := Nat.div_eq_of_lt h
/-- Only the low bits count. -/
theorem bit_mod {x n i : Nat} (h : i < n) : bit (x % 2 ^ n) i = bit x i := by
  unfold bit
  congr 1
  have e : 2 ^ n = 2 ^ i * 2 ^ (n - i) := by rw [← Nat.pow_add]; congr 1; omega
  rw [e, Nat.mod_mul_right_div_self]
  have : 2 ^ (n - i) = 2 * 2 ^ (n - i - 1) := by rw [← Nat.pow_succ']; congr 1; omega
  rw [this, Nat.mod_mul_right_mod]
theorem bit_of_mod_eq {x y n i : Nat} (h : i < n) (e : x % 2 ^ n = y % 2 ^ n) : bit x i = bit y i := by
  rw [← bit_mod h, e, bit_mod h]

/-- The 64 bits of an int as a natural number. -/
def un (v : Int) : Nat := (v % 18446744073709551616).toNat
theorem un_lt (v : Int) : un v < 18446744073709551616 := by unfold un; omega
theorem un_cast (v : Int) : ((un v : Nat) : Int) = v % 18446744073709551616 := by unfold un; omega
theorem wrap64_un {v : Int} (h1 : -9223372036854775808 ≤ v) (h2 : v ≤ 9223372036854775807) : wrap64 (un v) = v := by
  unfold wrap64; rw [un_cast]; omega
/-- A shift down and a mask of an int: a bit of its 64. -/
theorem bit_un (v : Int) {i : Nat} (h : i < 64) : bit (un v) i = v / 2 ^ i % 2 := by
  unfold bit
  have h1 : ((un v / 2 ^ i % 2 : Nat) : Int) = ((un v : Nat) : Int) / 2 ^ i % 2 := by simp
  rw [h1, un_cast]
  have e : (18446744073709551616 : Int) = 2 ^ i * 2 ^ (64 - i) := by
    rw [← Int.pow_add]
    have : i + (64 - i) = 64 := by omega
    rw [this]; rfl
  have e2 : (2 : Int) ^ (64 - i) = 2 * 2 ^ (64 - i - 1) := by
    have : 64 - i = (64 - i - 1) + 1 := by omega
    rw [this, Int.pow_succ]
    have : (64 - i - 1 + 1 - 1) = 64 - i - 1 := by omega
    rw [this]; exact Int.mul_comm _ _
  have hd := Int.mul_ediv_add_emod v 18446744073709551616
  have hp : (0 : Int) < 2 ^ i := Int.pow_pos (by decide)
  have h2 : v / 2 ^ i = v % 18446744073709551616 / 2 ^ i + 2 * (2 ^ (64 - i - 1) * (v / 18446744073709551616)) := by
    have : v = v % 18446744073709551616 + 2 ^ i * (2 * (2 ^ (64 - i - 1) * (v / 18446744073709551616))) := by
      have e3 : (2 : Int) ^ i * (2 * (2 ^ (64 - i - 1) * (v / 18446744073709551616))) = 18446744073709551616 * (v / 18446744073709551616) := by
        rw [← Int.mul_assoc 2, ← e2, ← Int.mul_assoc, ← e]
      omega
    conv => lhs; rw [this]
    rw [Int.add_mul_ediv_left _ _ (by omega)]
  rw [h2]; omega

/-! ### Go's '&', '|', '^' on 64 bits, by natural numbers -/
theorem ofInt_un (v : Int) : (BitVec.ofInt 64 v).toNat = un v := by
  rw [BitVec.toNat_ofInt]; unfold un; rfl
theorem i64_and (x y : Int) : bits .and .i64 x y = wrap64 ((un x &&& un y : Nat) : Int) := by
  show IntKind.i64.wrap ((BitVec.ofInt 64 x &&& BitVec.ofInt 64 y).toNat : Int) = _
  rw [BitVec.toNat_and, ofInt_un, ofInt_un, IntWalk.i64_left]
theorem i64_or (x y : Int) : bits .or .i64 x y = wrap64 ((un x ||| un y : Nat) : Int) := by
  show IntKind.i64.wrap ((BitVec.ofInt 64 x ||| BitVec.ofInt 64 y).toNat : Int) = _
  rw [BitVec.toNat_or, ofInt_un, ofInt_un, IntWalk.i64_left]
theorem i64_xor (x y : Int) : bits .xor .i64 x y = wrap64 ((un x ^^^ un y : Nat) : Int) := by
  show IntKind.i64.wrap ((BitVec.ofInt 64 x ^^^ BitVec.ofInt 64 y).toNat : Int) = _
  rw [BitVec.toNat_xor, ofInt_un, ofInt_un, IntWalk.i64_left]
theorem un_nat {n : Nat} (h : n < 18446744073709551616) : un (n : Int) = n := by unfold un; omega
theorem i64_and_mask (x : Int) (k : Nat) (hk : k < 64) : bits .and .i64 x (2 ^ k - 1) = x % 2 ^ k := by
  have h2 : (2 : Nat) ^ k ≤ 2 ^ 63 := Nat.pow_le_pow_right (by decide) (by omega)
  have hp := Nat.two_pow_pos k
  have e : ((2 : Int) ^ k - 1) = ((2 ^ k - 1 : Nat) : Int) := by
    rw [Int.ofNat_sub (by omega)]; simp
  rw [i64_and, e, un_nat (by omega), Nat.and_two_pow_sub_one_eq_mod]
  have h3 := Nat.mod_lt (un x) hp
  unfold wrap64
  have h4 : (((un x % 2 ^ k : Nat) : Int) + 9223372036854775808) % 18446744073709551616 - 9223372036854775808 = ((un x % 2 ^ k : Nat) : Int) := by omega
  rw [h4]
  simp only [Int.natCast_emod, un_cast, Int.natCast_pow]
  have e2 : (18446744073709551616 : Int) = 2 ^ k * 2 ^ (64 - k) := by
    rw [← Int.pow_add]
    have : k + (64 - k) = 64 := by omega
    rw [this]; rfl
  rw [e2]
  exact Int.emod_emod_of_dvd x ⟨_, rfl⟩
theorem i64_and_1 (x : Int) : bits .and .i64 x 1 = x % 2 := by
  have := i64_and_mask x 1 (by omega); simpa using this
theorem bit_test (x i : Nat) : bit x i = if x.testBit i then 1 else 0 := by
  unfold bit
  rw [Nat.testBit_eq_decide_div_mod_eq]
  have h : x / 2 ^ i % 2 = 0 ∨ x / 2 ^ i % 2 = 1 := by omega
  rcases h with h | h <;> simp [h]
theorem bit_ext {x y n : Nat} (hx : x < 2 ^ n) (hy : y < 2 ^ n) (h : ∀ i, i < n → bit x i = bit y i) : x = y := by
  apply Nat.eq_of_testBit_eq
  intro i
  by_cases hi : i < n
  · have := h i hi
    rw [bit_test, bit_test] at this
    cases hx : x.testBit i <;> cases hy : y.testBit i <;> simp_all
  · rw [Nat.testBit_lt_two_pow (Nat.lt_of_lt_of_le hx (Nat.pow_le_pow_right (by decide) (by omega))), Nat.testBit_lt_two_pow (Nat.lt_of_lt_of_le hy (Nat.pow_le_pow_right (by decide) (by omega)))]
/-- The low n bits of an int. -/
def lowN (n : Nat) (v : Int) : Nat := un v % 2 ^ n
theorem lowN_lt (n : Nat) (v : Int) : lowN n v < 2 ^ n := Nat.mod_lt _ (Nat.two_pow_pos n)
end Go.Proofs.YtaaidjphacofgaaGreatDoor
