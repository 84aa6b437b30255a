/-
  The reference's joined: what each operation makes of two rows of bits (what they share).
-/
import Derived.Test.YtbkcpepalicbjaaGreatRefE
namespace Go.Proofs.YtbkcpepalicbjaaGreat
open Go.RowKit
set_option linter.unusedVariables false

theorem Bits.cut {w : World} {b o n x : Nat} (h : Bits w b o n x) (m : Nat) (hm : m ≤ n) : Bits w b o m (x % 2 ^ m) :=
  ⟨h.1, fun i hi => by rw [bit_mod hi]; exact h.2 i (Nat.lt_of_lt_of_le hi hm)⟩
theorem Bits.congr {w : World} {b o n x y : Nat} (h : Bits w b o n x) (e : ∀ i, i < n → bit x i = bit y i) : Bits w b o n y :=
  ⟨h.1, fun i hi => by rw [← e i hi]; exact h.2 i hi⟩

theorem number_small (b off n cap x k : Nat) (hk : k = x) (hn : n ≤ 62) (hx : x < 2 ^ n) (w : World) (hb : Bits w b off n x) :
    Calls Tryz.prog 211 #[.slice (some ⟨b, off, none⟩) n cap] w fun e w' => e = .returned (.int .i64 (k : Nat)) ∧ w = w' := by
  refine (number_any b off n cap x (by omega) hx w hb).mono ?_
  rintro e w' ⟨rfl, rfl⟩
  refine ⟨ret_int ?_, rfl⟩
  have h2 : (2 : Nat) ^ n ≤ 2 ^ 62 := Nat.pow_le_pow_right (by decide) (by omega)
  rw [hk]
  exact IntWalk.wrap64_in _ (by omega)

/-- The value that a shift down with a fill makes. -/
def downVal (x n k : Nat) (s : Bool) : Nat := if s then x / 2 ^ k + (2 ^ n - 2 ^ (n - k)) else x / 2 ^ k
theorem down_val (x n k i : Nat) (s : Bool) (hx : x < 2 ^ n) (hi : i < n) (hk : k < n) : downTo x n k (if s then 1 else 0) i = bit (downVal x n k s) i := by
  have h1 : bit (x / 2 ^ k) i = bit x (i + k) := by
    unfold bit; rw [Nat.div_div_eq_div_mul, ← Nat.pow_add, Nat.add_comm k i]
  have hlt : x / 2 ^ k < 2 ^ (n - k) := by
    apply Nat.div_lt_of_lt_mul
    rw [← Nat.pow_add]
    have : k + (n - k) = n := by omega
    rw [this]; exact hx
  have hge : n ≤ i + k → bit x (i + k) = 0 := by
    intro h
    have : x < 2 ^ (i + k) := Nat.lt_of_lt_of_le hx (Nat.pow_le_pow_right (by decide) h)
    unfold bit; rw [Nat.div_eq_of_lt this]; rfl
  have hp : 2 ^ n = 2 ^ (n - k) * 2 ^ k := by rw [← Nat.pow_add]; congr 1; omega
  have hs : 2 ^ n - 2 ^ (n - k) = 2 ^ (n - k) * (2 ^ k - 1) := by rw [Nat.mul_sub, ← hp, Nat.mul_one]
  unfold downTo downVal
  cases s
  · simp only [Bool.false_eq_true, if_false]
    split
    · exact h1.symm
    · rename_i h; rw [h1, hge (by omega)]
  · simp only [if_true]
    rw [hs]
    split
    · rename_i h
      rw [← h1]
      refine bit_of_mod_eq (n := n - k) (by omega) ?_
      rw [Nat.add_mul_mod_self_left]
    · rename_i h
      unfold bit
      have e : 2 ^ i = 2 ^ (n - k) * 2 ^ (i - (n - k)) := by rw [← Nat.pow_add]; congr 1; omega
      rw [e, ← Nat.div_div_eq_div_mul, Nat.add_mul_div_left _ _ (Nat.two_pow_pos _), Nat.div_eq_of_lt hlt, Nat.zero_add]
      have h3 := bit_test (2 ^ k - 1) (i - (n - k))
      rw [Nat.testBit_two_pow_sub_one] at h3
      have h4 : i - (n - k) < k := by omega
      simp only [h4, decide_true, if_true] at h3
      exact h3.symm

/-- The call returned n cells, the low n bits of x; below the heap's old size nothing has turned. -/
def SomeBits (w : World) (n x : Nat) (e : Ending) (w' : World) : Prop :=
  ∃ b o c, e = .returned (.slice (some ⟨b, o, none⟩) n c) ∧ Bits w' b o n x ∧ Below w.heap.size w w'
end Go.Proofs.YtbkcpepalicbjaaGreat
