/-
  Plain arithmetic: what the reference's rows of bits come to is what words come to.
-/
import Derived.Test.YtcmplcdbkoodpaaGreatDoorRfAl
import Derived.Test.YtcmplcdbkoodpaaGreatDoorWoAB
namespace Go.Proofs.YtcmplcdbkoodpaaGreatDoor
open Go.RowKit
set_option linter.unusedVariables false

theorem sign_cases (n x : Nat) (hn : 0 < n) (hx : x < 2 ^ n) :
    (bit x (n - 1) = 0 ∧ sgn n x = (absN n x : Int)) ∨ (bit x (n - 1) = 1 ∧ sgn n x = -(absN n x : Int)) := by
  have hp : 2 ^ n = 2 * 2 ^ (n - 1) := by rw [← Nat.pow_succ']; congr 1; omega
  have hpi : (2 : Int) ^ n = ((2 ^ n : Nat) : Int) := by simp
  by_cases h : x < 2 ^ (n - 1)
  · have hb : bit x (n - 1) = 0 := by unfold bit; rw [Nat.div_eq_of_lt h]; rfl
    refine .inl ⟨hb, ?_⟩
    unfold sgn absN
    rw [if_pos h, if_neg (by rw [hb]; decide)]
  · have hd : x / 2 ^ (n - 1) = 1 := by
      have h1 : x / 2 ^ (n - 1) < 2 := Nat.div_lt_of_lt_mul (by omega)
      have h2 : 1 ≤ x / 2 ^ (n - 1) := (Nat.one_le_div_iff (Nat.two_pow_pos _)).2 (by omega)
      omega
    have hb : bit x (n - 1) = 1 := by unfold bit; rw [hd]; rfl
    refine .inr ⟨hb, ?_⟩
    unfold sgn absN
    rw [if_neg h, if_pos hb, hpi]
    omega

theorem nat_mod_int (n q : Nat) : ((q : Int) % 2 ^ n).toNat = q % 2 ^ n := by
  have hpi : (2 : Int) ^ n = ((2 ^ n : Nat) : Int) := by simp
  rw [hpi]; omega
theorem neg_mod_int (n q : Nat) : (-(q : Int) % 2 ^ n).toNat = (2 ^ n - q % 2 ^ n) % 2 ^ n := by
  have hpi : (2 : Int) ^ n = ((2 ^ n : Nat) : Int) := by simp
  rw [hpi]
  have hp := Nat.two_pow_pos n
  have hm := Nat.mod_lt q hp
  have hd := Nat.div_add_mod q (2 ^ n)
  generalize 2 ^ n = m at *
  have e : -(q : Int) = ((m - q % m : Nat) : Int) + (m : Int) * (-((q / m : Nat) : Int) - 1) := by
    rw [Int.mul_sub, Int.mul_neg, Int.mul_one]
    have : ((m * (q / m) : Nat) : Int) = (m : Int) * ((q / m : Nat) : Int) := by simp
    omega
  rw [e, Int.add_mul_emod_self_left]
  omega

theorem sdiv_same (n x y : Nat) (hn : 0 < n) (hx : x < 2 ^ n) (hy : y < 2 ^ n) :
    turn (bit x (n - 1) != bit y (n - 1)) n (absN n x / absN n y) % 2 ^ n = w_sdiv n x y := by
  unfold w_sdiv
  rcases sign_cases n x hn hx with ⟨b1, s1⟩ | ⟨b1, s1⟩ <;> rcases sign_cases n y hn hy with ⟨b2, s2⟩ | ⟨b2, s2⟩
  · rw [b1, b2, s1, s2, ← Int.ofNat_tdiv, nat_mod_int]; rfl
  · rw [b1, b2, s1, s2, Int.tdiv_neg, ← Int.ofNat_tdiv, neg_mod_int]; rfl
  · rw [b1, b2, s1, s2, Int.neg_tdiv, ← Int.ofNat_tdiv, neg_mod_int]; rfl
  · rw [b1, b2, s1, s2, Int.neg_tdiv, Int.tdiv_neg, Int.neg_neg, ← Int.ofNat_tdiv, nat_mod_int]; rfl
theorem smod_same (n x y : Nat) (hn : 0 < n) (hx : x < 2 ^ n) (hy : y < 2 ^ n) :
    turn (bit x (n - 1) == 1) n (absN n x % absN n y) % 2 ^ n = w_smod n x y := by
  unfold w_smod
  rcases sign_cases n x hn hx with ⟨b1, s1⟩ | ⟨b1, s1⟩ <;> rcases sign_cases n y hn hy with ⟨b2, s2⟩ | ⟨b2, s2⟩
  · rw [b1, s1, s2, ← Int.ofNat_tmod, nat_mod_int]; rfl
  · rw [b1, s1, s2, Int.tmod_neg, ← Int.ofNat_tmod, nat_mod_int]; rfl
  · rw [b1, s1, s2, Int.neg_tmod, ← Int.ofNat_tmod, neg_mod_int]; rfl
  · rw [b1, s1, s2, Int.neg_tmod, Int.tmod_neg, ← Int.ofNat_tmod, neg_mod_int]; rfl

theorem arsh_same (n x k : Nat) (hn : 0 < n) (hk : k < n) (hx : x < 2 ^ n) :
    downVal x n k (bit x (n - 1) == 1) % 2 ^ n = (sgn n x / 2 ^ k % 2 ^ n).toNat := by
  have hpk : (2 : Int) ^ k = ((2 ^ k : Nat) : Int) := by simp
  rcases sign_cases n x hn hx with ⟨b1, s1⟩ | ⟨b1, s1⟩
  · rw [b1, s1]
    have ha : absN n x = x := by unfold absN; rw [if_neg (by rw [b1]; decide)]
    rw [ha, hpk, ← Int.natCast_ediv, nat_mod_int]
    rfl
  · rw [b1, s1]
    have ha : absN n x = 2 ^ n - x := by unfold absN; rw [if_pos b1]
    rw [ha]
    have hp : 2 ^ n = 2 ^ k * 2 ^ (n - k) := by rw [← Nat.pow_add]; congr 1; omega
    have hle : 2 ^ (n - k) ≤ 2 ^ n := Nat.pow_le_pow_right (by decide) (by omega)
    have hpi : (2 : Int) ^ n = ((2 ^ n : Nat) : Int) := by simp
    have e1 : -((2 ^ n - x : Nat) : Int) = (x : Int) + ((2 ^ k : Nat) : Int) * (-((2 ^ (n - k) : Nat) : Int)) := by
      rw [Int.mul_neg, ← Int.natCast_mul, ← hp]; omega
    rw [e1, hpk, Int.add_mul_ediv_left _ _ (by have := Nat.two_pow_pos k; omega), ← Int.natCast_ediv]
    unfold downVal
    simp only [beq_self_eq_true, if_true]
    have e2 : ((x / 2 ^ k : Nat) : Int) + -((2 ^ (n - k) : Nat) : Int) = ((x / 2 ^ k + (2 ^ n - 2 ^ (n - k)) : Nat) : Int) + (2 : Int) ^ n * (-1) := by
      rw [hpi]; omega
    rw [e2, Int.add_mul_emod_self_left, nat_mod_int]
end Go.Proofs.YtcmplcdbkoodpaaGreatDoor
