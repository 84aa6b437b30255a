/-
  What Get says of Put, and Put of Get: plain arithmetic of bytes.
-/
import Derived.Test.YtcmplcdbkoodpaaGreatDoorGetPut
namespace Go.Proofs.YtcmplcdbkoodpaaGreatDoor
open Go.RowKit
set_option linter.unusedVariables false

theorem emod_split (v a b : Int) (ha : 0 < a) (hb : 0 < b) : v % (a * b) = v % a + a * (v / a % b) := by
  have h1 := Int.mul_ediv_add_emod v a
  have h2 := Int.mul_ediv_add_emod (v / a) b
  have h3 := Int.emod_nonneg v (show a ≠ 0 by omega)
  have h4 := Int.emod_lt_of_pos v ha
  have h5 := Int.emod_nonneg (v / a) (show b ≠ 0 by omega)
  have h6 := Int.emod_lt_of_pos (v / a) hb
  have e : v = (v % a + a * (v / a % b)) + a * b * (v / a / b) := by
    have : a * (v / a) = a * (b * (v / a / b)) + a * (v / a % b) := by rw [← Int.mul_add, h2]
    have e2 : a * b * (v / a / b) = a * (b * (v / a / b)) := Int.mul_assoc _ _ _
    omega
  have h7 : a * (v / a % b) ≤ a * (b - 1) := Int.mul_le_mul_of_nonneg_left (by omega) (by omega)
  have h8 : 0 ≤ a * (v / a % b) := Int.mul_nonneg (by omega) h5
  have h9 : a * (b - 1) = a * b - a := by rw [Int.mul_sub, Int.mul_one]
  conv => lhs; rw [e]
  rw [Int.add_mul_emod_self_left]
  exact Int.emod_eq_of_lt (by omega) (by omega)
theorem pow8 (k : Nat) : (2 : Int) ^ (8 * (k + 1)) = 256 * 2 ^ (8 * k) := by
  rw [Nat.mul_add, Int.pow_add, Int.mul_comm]; rfl
theorem pow8_pos (k : Nat) : (0 : Int) < 2 ^ (8 * k) := Int.pow_pos (by decide)
theorem putl_succ (k : Nat) (v : Int) : putl (k + 1) v = (v % 256) :: putl k (v / 256) := by
  unfold putl
  rw [List.range_succ_eq_map, List.map_cons, List.map_map]
  congr 1
  · simp
  · refine List.map_congr_left fun i _ => ?_
    show v / 2 ^ (8 * (i + 1)) % 256 = v / 256 / 2 ^ (8 * i) % 256
    rw [pow8, Int.ediv_ediv_of_nonneg (by decide)]
theorem num_putl (k : Nat) : ∀ v : Int, ((num (putl k v) : Nat) : Int) = v % 2 ^ (8 * k) := by
  induction k with
  | zero => intro v; simp [putl, num, Int.emod_one]
  | succ k ih =>
    intro v
    rw [putl_succ, pow8, emod_split v 256 _ (by decide) (pow8_pos k), ← ih]
    simp only [num]
    omega
theorem putl_congr (k : Nat) : ∀ u v : Int, u % 2 ^ (8 * k) = v % 2 ^ (8 * k) → putl k u = putl k v := by
  induction k with
  | zero => intro u v _; rfl
  | succ k ih =>
    intro u v h
    rw [pow8, emod_split u 256 _ (by decide) (pow8_pos k), emod_split v 256 _ (by decide) (pow8_pos k)] at h
    rw [putl_succ, putl_succ, ih (u / 256) (v / 256) (by omega)]
    congr 1
    omega
theorem putl_num (xs : List Int) (hx : IsBytes xs) : putl xs.length ((num xs : Nat) : Int) = xs := by
  induction xs with
  | nil => rfl
  | cons x r ih =>
    have h := hx x (by simp)
    rw [List.length_cons, putl_succ]
    simp only [num]
    have e1 : ((x.toNat + 256 * num r : Nat) : Int) % 256 = x := by omega
    have e2 : ((x.toNat + 256 * num r : Nat) : Int) / 256 = ((num r : Nat) : Int) := by omega
    rw [e1, e2, ih fun z hz => hx z (by simp [hz])]
theorem sgn_mod (n x : Nat) (z : Int) (e : (2 : Int) ^ n = z) (hz : 0 < z) : sgn n x % z = (x : Int) % z := by
  unfold sgn
  rw [e]
  split
  · rfl
  · exact Int.sub_emod_right _ _
theorem pow_nat (n : Nat) : ((2 ^ n : Nat) : Int) = (2 : Int) ^ n := by simp
theorem big_split (k : Nat) (hk : k ≤ 8) : (18446744073709551616 : Int) = 2 ^ (8 * k) * 2 ^ (64 - 8 * k) := by
  rw [← Int.pow_add, show 8 * k + (64 - 8 * k) = 64 by omega]; rfl
theorem wrap64_mod8 (x : Int) (k : Nat) (hk : k ≤ 8) : wrap64 x % 2 ^ (8 * k) = x % 2 ^ (8 * k) := by
  have h : wrap64 x % 18446744073709551616 = x % 18446744073709551616 := by unfold wrap64; omega
  have e := big_split k hk
  rw [e] at h
  have h1 := Int.emod_emod_of_dvd (wrap64 x) (m := 2 ^ (8 * k)) (k := 2 ^ (8 * k) * 2 ^ (64 - 8 * k)) ⟨_, rfl⟩
  have h2 := Int.emod_emod_of_dvd x (m := 2 ^ (8 * k)) (k := 2 ^ (8 * k) * 2 ^ (64 - 8 * k)) ⟨_, rfl⟩
  rw [← h1, h, h2]
theorem getv_at {sg : Bool} {xs : List Int} (h1 : 1 ≤ xs.length) (h8 : xs.length ≤ 8) : getv sg xs = if sg = true then sgn (8 * xs.length) (num xs) else wrap64 (num xs) := by
  unfold getv
  exact if_neg (fun h => h.elim (fun h => by subst h; simp at h1) (fun h => by omega))
theorem getv_f {xs : List Int} (h1 : 1 ≤ xs.length) (h8 : xs.length ≤ 8) : getv false xs = wrap64 (num xs) := by
  rw [getv_at h1 h8, if_neg (by decide)]
theorem getv_t {xs : List Int} (h1 : 1 ≤ xs.length) (h8 : xs.length ≤ 8) : getv true xs = sgn (8 * xs.length) (num xs) := by
  rw [getv_at h1 h8, if_pos rfl]
theorem putl_get' (xs : List Int) (sg : Bool) (hx : IsBytes xs) (h1 : 1 ≤ xs.length) (h8 : xs.length ≤ 8) : putl xs.length (getv sg xs) = xs := by
  have e : putl xs.length (getv sg xs) = putl xs.length ((num xs : Nat) : Int) := by
    refine putl_congr _ _ _ ?_
    cases sg
    · rw [getv_f h1 h8]
      exact wrap64_mod8 _ _ h8
    · rw [getv_t h1 h8]
      exact sgn_mod _ _ _ rfl (pow8_pos _)
  rw [e, putl_num xs hx]
/-- What Get says of Put. -/
theorem get_put (k : Nat) (v : Int) (h1 : 1 ≤ k) (h8 : k ≤ 7) : getv false (putl k v) = v % 2 ^ (8 * k) ∧ getv true (putl k v) = sgn (8 * k) (num (putl k v)) := by
  have hl := putl_length k v
  have e := num_putl k v
  have hp := num_lt (putl_bytes k v)
  rw [hl, pow256] at hp
  have h2 : 2 ^ (8 * k) ≤ 2 ^ 56 := Nat.pow_le_pow_right (by decide) (by omega)
  have e56 : (2 : Nat) ^ 56 = 72057594037927936 := rfl
  rw [e56] at h2
  refine ⟨?_, ?_⟩
  · rw [getv_f (by omega) (by omega), ← e]
    generalize num (putl k v) = z at hp ⊢
    exact IntWalk.wrap64_in _ (by omega)
  · rw [getv_t (by omega) (by omega), hl]
theorem get_put8 (v : Int) (hv : -9223372036854775808 ≤ v ∧ v ≤ 9223372036854775807) (sg : Bool) : getv sg (putl 8 v) = v := by
  have hl := putl_length 8 v
  have e := num_putl 8 v
  have e2 : (2 : Int) ^ (8 * 8) = 18446744073709551616 := rfl
  rw [e2] at e
  have hw : wrap64 ((num (putl 8 v) : Nat) : Int) = v := by
    rw [e]; unfold wrap64; omega
  have hlt : num (putl 8 v) < 18446744073709551616 := by
    generalize num (putl 8 v) = z at e ⊢
    omega
  cases sg
  · rw [getv_f (by omega) (by omega), hw]
  · rw [getv_t (by omega) (by omega), hl, show 8 * 8 = 64 from rfl, sgn64 hlt, hw]
theorem backk (k : Nat) (h1 : 1 ≤ k) (h7 : k ≤ 7) (v : Int) : ∃ X Y : Int, getv false (putl k v) = X ∧ getv true (putl k v) = Y ∧ v % 2 ^ (8 * k) = X ∧ Y % 2 ^ (8 * k) = X ∧
    wrap64 (-2 ^ (8 * k - 1)) ≤ Y ∧ Y < wrap64 (2 ^ (8 * k - 1)) ∧ decide (Y < 0) = (X / 2 ^ (8 * k - 1) == 1) := by
  obtain ⟨e1, e2⟩ := get_put k v h1 h7
  have hn := num_putl k v
  have hp : (0 : Int) < 2 ^ (8 * k) := Int.pow_pos (by decide)
  have hq : (0 : Int) < 2 ^ (8 * k - 1) := Int.pow_pos (by decide)
  have hd : (2 : Int) ^ (8 * k) = 2 * 2 ^ (8 * k - 1) := by
    obtain ⟨m, hm⟩ : ∃ m, 8 * k = m + 1 := ⟨8 * k - 1, by omega⟩
    rw [hm, Nat.add_sub_cancel, Int.pow_succ, Int.mul_comm]
  have hu : (2 : Int) ^ (8 * k - 1) ≤ 2 ^ 55 := by
    have : (2 : Nat) ^ (8 * k - 1) ≤ 2 ^ 55 := Nat.pow_le_pow_right (by decide) (by omega)
    exact_mod_cast this
  have e55 : (2 : Int) ^ 55 = 36028797018963968 := rfl
  rw [e55] at hu
  have hN : ((2 ^ (8 * k - 1) : Nat) : Int) = 2 ^ (8 * k - 1) := by simp
  have hY := sgn_mod (8 * k) (num (putl k v)) _ rfl hp
  rw [hn, Int.emod_emod_of_dvd _ (Int.dvd_refl _)] at hY
  have hx0 := Int.emod_nonneg v (show (2 : Int) ^ (8 * k) ≠ 0 by omega)
  have hx1 := Int.emod_lt_of_pos v hp
  refine ⟨_, _, e1, e2, rfl, hY, ?_⟩
  clear hY e1 e2
  unfold sgn
  rw [IntWalk.wrap64_in _ (by omega), IntWalk.wrap64_in _ (by omega), ← hn]
  rw [← hn] at hx0 hx1
  generalize num (putl k v) = z at hx0 hx1 ⊢
  generalize (2 : Int) ^ (8 * k) = M at *
  generalize (2 : Int) ^ (8 * k - 1) = H at *
  generalize 2 ^ (8 * k - 1) = h at *
  subst hN hd
  have hz : (z : Int) / h = if (z : Int) < h then 0 else 1 := by
    split
    · exact Int.ediv_eq_zero_of_lt hx0 (by assumption)
    · have e : (z : Int) = (z - h) + h * 1 := by omega
      rw [e, Int.add_mul_ediv_left _ _ (by omega), Int.ediv_eq_zero_of_lt (by omega) (by omega)]; rfl
  rw [hz]
  by_cases hc : z < h
  · have hc2 : (z : Int) < h := by omega
    rw [if_pos hc, if_pos hc2]
    refine ⟨by omega, by omega, ?_⟩
    simp
  · have hc2 : ¬ (z : Int) < h := by omega
    rw [if_neg hc, if_neg hc2]
    refine ⟨by omega, by omega, ?_⟩
    have : (z : Int) - 2 * h < 0 := by omega
    simp [this]
end Go.Proofs.YtcmplcdbkoodpaaGreatDoor
