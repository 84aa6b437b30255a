/-
  WordShifts: a shift is so many single ones; wide and narrow; no condition.
-/
import Derived.Test.YtcmpohippbjpcaaWordMod
import Derived.OpenShut
namespace Go.Proofs.Ytcmpohippbjpcaa.wordShifts
open Go.ChangeShapes Go.WideShapes Go.ChangeAt Go.RowKit
set_option linter.unusedVariables false

theorem up_step (a : Int) (i : Nat) : wrap64 (wrap64 (a * 2 ^ i) + wrap64 (a * 2 ^ i)) = wrap64 (a * 2 ^ (i + 1)) := by
  rw [wrap_add_l, wrap_add_r, Int.pow_succ, ← Int.mul_assoc]; congr 1; omega
theorem un_two : un 2 = 2 := by decide
theorem down_step (x i : Nat) (hx : x < 18446744073709551616) : wrap64 ((un (wrap64 ((x / 2 ^ i : Nat) : Int)) / un 2 : Nat) : Int) = wrap64 ((x / 2 ^ (i + 1) : Nat) : Int) := by
  have := Nat.div_le_self x (2 ^ i)
  rw [un_wrap (by omega), un_two, Nat.pow_succ, Nat.div_div_eq_div_mul]
theorem div_div (a : Int) (i : Nat) (c : Int) : a / 2 ^ i / c = a / (2 ^ i * c) := by
  have hp : (0 : Int) < 2 ^ i := Int.pow_pos (by decide)
  rw [Int.ediv_ediv, if_neg (by omega), Int.sub_zero]
theorem un_one : un 1 % 64 = 1 := by decide
theorem div_range (a : Int) (i : Nat) (ra : -9223372036854775808 ≤ a ∧ a ≤ 9223372036854775807) : -9223372036854775808 ≤ a / 2 ^ i ∧ a / 2 ^ i ≤ 9223372036854775807 := by
  have hp : (0 : Int) < 2 ^ i := Int.pow_pos (by decide)
  constructor
  · refine (Int.le_ediv_iff_mul_le hp).2 ?_
    have h1 : (-9223372036854775808 : Int) * 2 ^ i ≤ -9223372036854775808 * 1 := Int.mul_le_mul_of_nonpos_left (by decide) (by omega)
    omega
  · refine Int.le_of_lt_add_one ((Int.ediv_lt_iff_lt_mul hp).2 ?_)
    have h1 : (9223372036854775808 : Int) * 1 ≤ 9223372036854775808 * 2 ^ i := Int.mul_le_mul_of_nonneg_left (by omega) (by decide)
    omega
theorem keep_step (a : Int) (i : Nat) (ra : -9223372036854775808 ≤ a ∧ a ≤ 9223372036854775807) : wrap64 (a / 2 ^ i / 2 ^ (un 1 % 64)) = a / 2 ^ (i + 1) := by
  rw [un_one, Int.pow_succ, Int.pow_succ, Int.pow_zero, Int.one_mul, div_div]
  have h := div_range a (i + 1) ra
  rw [Int.pow_succ] at h
  exact wrap64_id h

theorem lowN_cast (a : Int) : ((lowN 32 a : Nat) : Int) = a % 4294967296 := by
  unfold lowN; rw [Int.natCast_emod, un_cast]
  have e : ((2 ^ 32 : Nat) : Int) = 4294967296 := rfl
  rw [e]; omega
theorem lowN_nat {x : Nat} (h : x < 4294967296) : lowN 32 (x : Int) = x := by
  unfold lowN; rw [un_nat (by omega)]; exact Nat.mod_eq_of_lt h
theorem up32 (x i : Nat) : w_add 32 (lowN 32 ((x * 2 ^ i % 2 ^ 32 : Nat) : Int)) (lowN 32 ((x * 2 ^ i % 2 ^ 32 : Nat) : Int)) = x * 2 ^ (i + 1) % 2 ^ 32 := by
  rw [lowN_nat (Nat.mod_lt _ (by decide)), Nat.pow_succ, ← Nat.mul_assoc]
  unfold w_add; omega
theorem down32 (x i : Nat) (hx : x < 2 ^ 32) : w_div 32 (lowN 32 ((x / 2 ^ i : Nat) : Int)) (lowN 32 2) = x / 2 ^ (i + 1) := by
  have := Nat.div_le_self x (2 ^ i)
  rw [lowN_nat (by omega), show lowN 32 2 = 2 by decide]
  unfold w_div
  rw [Nat.div_div_eq_div_mul, ← Nat.pow_succ]
theorem sgn_range (x : Nat) (hx : x < 2 ^ 32) : -2147483648 ≤ sgn 32 x ∧ sgn 32 x ≤ 2147483647 := by
  rw [sgn32 hx]; unfold wrap32; omega
theorem sgn_of (s : Int) (h : -2147483648 ≤ s ∧ s ≤ 2147483647) : sgn 32 (s % 2 ^ 32).toNat = s := by
  have e : (2 : Int) ^ 32 = 4294967296 := rfl
  rw [sgn32 (by rw [e]; omega), e]; unfold wrap32; omega
theorem div32_range (s : Int) (i : Nat) (h : -2147483648 ≤ s ∧ s ≤ 2147483647) : -2147483648 ≤ s / 2 ^ i ∧ s / 2 ^ i ≤ 2147483647 := by
  have hp : (0 : Int) < 2 ^ i := Int.pow_pos (by decide)
  constructor
  · refine (Int.le_ediv_iff_mul_le hp).2 ?_
    have h1 : (-2147483648 : Int) * 2 ^ i ≤ -2147483648 * 1 := Int.mul_le_mul_of_nonpos_left (by decide) (by omega)
    omega
  · refine Int.le_of_lt_add_one ((Int.ediv_lt_iff_lt_mul hp).2 ?_)
    have h1 : (2147483648 : Int) * 1 ≤ 2147483648 * 2 ^ i := Int.mul_le_mul_of_nonneg_left (by omega) (by decide)
    omega
theorem toNat_lt32 (z : Int) : (z % 2 ^ 32).toNat < 4294967296 := by
  have e : (2 : Int) ^ 32 = 4294967296 := rfl
  rw [e]; omega
theorem keep32 (x i : Nat) (hx : x < 2 ^ 32) : w_arsh 32 (lowN 32 (((sgn 32 x / 2 ^ i % 2 ^ 32).toNat : Nat) : Int)) (lowN 32 1) = (sgn 32 x / 2 ^ (i + 1) % 2 ^ 32).toNat := by
  rw [lowN_nat (toNat_lt32 _), show lowN 32 1 = 1 by decide]
  unfold w_arsh
  rw [sgn_of _ (div32_range _ i (sgn_range x hx)), div_div, ← Int.pow_add]
theorem keep_start (x : Nat) (hx : x < 2 ^ 32) : (sgn 32 x / 2 ^ 0 % 2 ^ 32).toNat = x := by
  have e : (2 : Int) ^ 32 = 4294967296 := rfl
  rw [sgn32 hx, Int.pow_zero, Int.ediv_one, e]; unfold wrap32; omega
theorem low_mod (b : Int) : lowN 32 b % 32 = un b % 32 := by unfold lowN; omega

set_option maxHeartbeats 6400000 in
theorem walk_even (a : Int) (ra : -9223372036854775808 ≤ a ∧ a ≤ 9223372036854775807) (b : Int) (rb : -9223372036854775808 ≤ b ∧ b ≤ 9223372036854775807) (hp : a % 2 = 0) (w : World) :
    Calls Try.prog 12 #[.int .i64 a, .int .i64 b] w fun e w' => e = .returned (.bool true) ∧ Below w.heap.size w w' := by
  have hk64 : un b % 64 < 64 := Nat.mod_lt _ (by decide)
  have hm64 : bits .and .i64 b 63 = ((un b % 64 : Nat) : Int) := by rw [un_mod64]; exact i64_and_mask b 6 (by decide)
  obtain ⟨K, hK⟩ : ∃ k, k = un b % 64 := ⟨_, rfl⟩
  rw [← hK] at hm64 hk64
  have HK := Lib.hid hK
  clear hK
  have hm32 : bits .and .i64 b 31 = ((un b % 32 : Nat) : Int) := by rw [un_mod32]; exact i64_and_mask b 5 (by decide)
  have hk32 : un b % 32 < 32 := Nat.mod_lt _ (by decide)
  obtain ⟨M, hM⟩ : ∃ k, k = un b % 32 := ⟨_, rfl⟩
  rw [← hM] at hm32 hk32
  have HM := Lib.hid hM
  clear hM
  obtain ⟨x, hx⟩ : ∃ x, x = lowN 32 a := ⟨_, rfl⟩
  have HX := Lib.hid hx
  have HXL := Lib.hid (show x < 2 ^ 32 by rw [hx]; exact lowN_lt 32 a)
  have HXC := Lib.hid (show a % 2 ^ 32 = (x : Int) by rw [hx, lowN_cast]; rfl)
  clear hx
  obtain ⟨o, ho⟩ : ∃ o, o = a / 2 := ⟨_, rfl⟩
  have HO := Lib.hid (show wrap64 (a / 2 ^ (un 1 % 64)) = o by rw [ho, un_one]; exact wrap64_id (div_range a 1 ra))
  have ho1 : 2 * o ≤ a := by omega
  have ho2 : a ≤ 2 * o + 1 := by omega
  have hpar : ((a - o - o) == 0) = true := by simp; omega
  clear ho hp
  have hsg : (o < 0) = (a < 0) := by apply propext; omega
  go_enter Try.func12, Try.ntmps12
  go_wp2
  go_loopw [5, 6, 7, 8] (fun u d k s wr => ∃ i : Nat, i ≤ K ∧ s = .int .i64 i ∧ u = .int .i64 (wrap64 (a * 2 ^ i)) ∧ d = .int .i64 (wrap64 ((un a / 2 ^ i : Nat) : Int)) ∧ k = .int .i64 (a / 2 ^ i) ∧ Below w.heap.size w wr) (fun _ _ _ s _ => K - (intOf s).toNat)
  case atStart => exact ⟨0, Nat.zero_le _, rfl, by rw [Int.pow_zero, Int.mul_one, wrap64_id ra], by rw [Nat.pow_zero, Nat.div_one, wrap64_un ra.1 ra.2], by rw [Int.pow_zero, Int.ediv_one], Below.refl _ _⟩
  case round =>
    obtain ⟨i, hi, rfl, rfl, rfl, rfl, hB⟩ := hrel
    have hs := hB.size
    by_cases hlt : i < K
    · go_wp2_with fail
      refine (of_at 1 (wrap64 (a * 2 ^ i)) (wrap64 (a * 2 ^ i)) _ (wrap64 (a * 2 ^ (i + 1))) false (gives_add _ _) (up_step a i) _).mono ?_
      rintro e w1 ⟨rfl, h1⟩
      have hB := hB.trans (h1.mono hs)
      have hs := hB.size
      clear h1
      go_wp2_with fail
      refine (of_at 4 (wrap64 ((un a / 2 ^ i : Nat) : Int)) 2 _ (wrap64 ((un a / 2 ^ (i + 1) : Nat) : Int)) false (gives_div _ _ (by decide)) (down_step (un a) i (un_lt a)) _).mono ?_
      rintro e w2 ⟨rfl, h2⟩
      have hB := hB.trans (h2.mono hs)
      have hs := hB.size
      clear h2
      go_wp2_with fail
      refine (of_at 13 (a / 2 ^ i) 1 _ (a / 2 ^ (i + 1)) false (gives_arsh _ _ (div_range a i ra)) (keep_step a i ra) _).mono ?_
      rintro e w3 ⟨rfl, h3⟩
      have hB := hB.trans (h3.mono hs)
      have hs := hB.size
      clear h3
      go_wp2
      go_roundw
      case rel => exact ⟨i + 1, hlt, by go_num, rfl, rfl, rfl, hB⟩
      case measure => simp [intOf]; omega
    · obtain rfl : i = K := by omega
      go_wp2_with fail
      refine (is_at 11 a b _ (wrap64 (a * 2 ^ i)) false (gives_lsh a b) (by rw [HK.out]) _).mono ?_
      rintro e w1 ⟨rfl, h1⟩
      have hB := hB.trans (h1.mono hs)
      have hs := hB.size
      clear h1
      go_wp2_with fail
      refine (is_at 12 a b _ (wrap64 ((un a / 2 ^ i : Nat) : Int)) false (gives_rsh a b) (by rw [HK.out]) _).mono ?_
      rintro e w2 ⟨rfl, h2⟩
      have hB := hB.trans (h2.mono hs)
      have hs := hB.size
      clear h2
      go_wp2_with fail
      refine (is_at 13 a b _ (a / 2 ^ i) false (gives_arsh a b ra) (by rw [← HK.out]; exact wrap64_id (div_range a i ra)) _).mono ?_
      rintro e w3 ⟨rfl, h3⟩
      have hB := hB.trans (h3.mono hs)
      have hs := hB.size
      clear h3
      go_wp2_with fail
      refine (low_of a 32 32 rfl (by decide) _).mono ?_
      rintro e w4 ⟨rfl, rfl⟩
      rw [HXC.out]
      go_wp2_with fail
      refine (low_of a 32 32 rfl (by decide) _).mono ?_
      rintro e w5 ⟨rfl, rfl⟩
      rw [HXC.out]
      go_wp2_with fail
      refine (low_of a 32 32 rfl (by decide) _).mono ?_
      rintro e w6 ⟨rfl, rfl⟩
      rw [HXC.out]
      go_wp2
      go_loopw [5, 6, 7, 9] (fun u d k s wr => ∃ j U D G : Nat, j ≤ M ∧ s = .int .i64 j ∧ u = .int .i64 U ∧ d = .int .i64 D ∧ k = .int .i64 G ∧ Below w.heap.size w wr ∧ Hid (U = x * 2 ^ j % 2 ^ 32) ∧ Hid (D = x / 2 ^ j) ∧ Hid (G = (sgn 32 x / 2 ^ j % 2 ^ 32).toNat)) (fun _ _ _ s _ => M - (intOf s).toNat)
      case atStart => exact ⟨0, x, x, x, Nat.zero_le _, rfl, rfl, rfl, rfl, hB, Lib.hid (by rw [Nat.pow_zero, Nat.mul_one, Nat.mod_eq_of_lt HXL.out]), Lib.hid (by rw [Nat.pow_zero, Nat.div_one]), Lib.hid (by rw [keep_start x HXL.out])⟩
      case round =>
        clear hs hB
        obtain ⟨j, U, D, G, hj, rfl, rfl, rfl, rfl, hB, HU, HD, HG⟩ := hrel
        have hs := hB.size
        by_cases hlt2 : j < M
        · obtain ⟨U1, hU1⟩ : ∃ z, z = x * 2 ^ (j + 1) % 2 ^ 32 := ⟨_, rfl⟩
          obtain ⟨D1, hD1⟩ : ∃ z, z = x / 2 ^ (j + 1) := ⟨_, rfl⟩
          obtain ⟨G1, hG1⟩ : ∃ z, z = (sgn 32 x / 2 ^ (j + 1) % 2 ^ 32).toNat := ⟨_, rfl⟩
          have HU1 := Lib.hid hU1
          have HD1 := Lib.hid hD1
          have HG1 := Lib.hid hG1
          clear hU1 hD1 hG1
          go_wp2_with fail
          refine (of_at 1 _ _ _ (U1 : Int) true (alu32_add (U : Int) (U : Int)) (by rw [HU.out, up32, HU1.out]) _).mono ?_
          rintro e w1 ⟨rfl, h1⟩
          have hB := hB.trans (h1.mono hs)
          have hs := hB.size
          clear h1
          go_wp2_with fail
          refine (of_at 4 _ _ _ (D1 : Int) true (alu32_div (D : Int) 2 (by decide)) (by rw [HD.out, down32 x j HXL.out, HD1.out]) _).mono ?_
          rintro e w2 ⟨rfl, h2⟩
          have hB := hB.trans (h2.mono hs)
          have hs := hB.size
          clear h2
          go_wp2_with fail
          refine (of_at 13 _ _ _ (G1 : Int) true (alu32_arsh (G : Int) 1) (by rw [HG.out, keep32 x j HXL.out, HG1.out]) _).mono ?_
          rintro e w3 ⟨rfl, h3⟩
          have hB := hB.trans (h3.mono hs)
          have hs := hB.size
          clear h3
          go_wp2
          go_roundw
          case rel => exact ⟨j + 1, U1, D1, G1, hlt2, by go_num, rfl, rfl, rfl, hB, HU1, HD1, HG1⟩
          case measure => show M - (intOf (.int .i64 ((j : Int) + 1))).toNat < M - (intOf (.int .i64 (j : Int))).toNat; simp only [intOf]; omega
        · obtain rfl : j = M := by omega
          go_wp2_with fail
          refine (of_at 13 a 1 _ o false (gives_arsh a 1 ra) HO.out _).mono ?_
          rintro e w1 ⟨rfl, h1⟩
          have hB := hB.trans (h1.mono hs)
          have hs := hB.size
          clear h1
          go_wp2_with fail
          refine (is_at 11 a b _ (U : Int) true (alu32_lsh a b) (by rw [HU.out, HM.out, HX.out, ← low_mod]; rfl) _).mono ?_
          rintro e w2 ⟨rfl, h2⟩
          have hB := hB.trans (h2.mono hs)
          have hs := hB.size
          clear h2
          go_wp2_with fail
          refine (is_at 12 a b _ (D : Int) true (alu32_rsh a b) (by rw [HD.out, HM.out, HX.out, ← low_mod]; rfl) _).mono ?_
          rintro e w3 ⟨rfl, h3⟩
          have hB := hB.trans (h3.mono hs)
          have hs := hB.size
          clear h3
          go_wp2_with fail
          refine (is_at 13 a b _ (G : Int) true (alu32_arsh a b) (by rw [HG.out, HM.out, HX.out, ← low_mod]; rfl) _).mono ?_
          rintro e w4 ⟨rfl, h4⟩
          have hB := hB.trans (h4.mono hs)
          have hs := hB.size
          clear h4
          go_wp2_with fail
          refine (low_of (o + o) 1 1 rfl (by decide) _).mono ?_
          rintro e w5 ⟨rfl, rfl⟩
          rw [show (o + o) % 2 ^ 1 = 0 by rw [Int.pow_succ, Int.pow_zero]; omega]
          go_wp2_with fail
          refine (is_at 11 1 5 _ 32 false (gives_lsh 1 5) (by rw [show un 5 % 64 = 5 by decide]; exact wrap64_id (by decide)) _).mono ?_
          rintro e w6 ⟨rfl, h6⟩
          have hB := hB.trans (h6.mono hs)
          have hs := hB.size
          clear h6
          go_wp2
          go_ret
          exact ⟨rfl, hB⟩
set_option maxHeartbeats 6400000 in
theorem walk_odd (a : Int) (ra : -9223372036854775808 ≤ a ∧ a ≤ 9223372036854775807) (b : Int) (rb : -9223372036854775808 ≤ b ∧ b ≤ 9223372036854775807) (hp : a % 2 = 1) (w : World) :
    Calls Try.prog 12 #[.int .i64 a, .int .i64 b] w fun e w' => e = .returned (.bool true) ∧ Below w.heap.size w w' := by
  have hk64 : un b % 64 < 64 := Nat.mod_lt _ (by decide)
  have hm64 : bits .and .i64 b 63 = ((un b % 64 : Nat) : Int) := by rw [un_mod64]; exact i64_and_mask b 6 (by decide)
  obtain ⟨K, hK⟩ : ∃ k, k = un b % 64 := ⟨_, rfl⟩
  rw [← hK] at hm64 hk64
  have HK := Lib.hid hK
  clear hK
  have hm32 : bits .and .i64 b 31 = ((un b % 32 : Nat) : Int) := by rw [un_mod32]; exact i64_and_mask b 5 (by decide)
  have hk32 : un b % 32 < 32 := Nat.mod_lt _ (by decide)
  obtain ⟨M, hM⟩ : ∃ k, k = un b % 32 := ⟨_, rfl⟩
  rw [← hM] at hm32 hk32
  have HM := Lib.hid hM
  clear hM
  obtain ⟨x, hx⟩ : ∃ x, x = lowN 32 a := ⟨_, rfl⟩
  have HX := Lib.hid hx
  have HXL := Lib.hid (show x < 2 ^ 32 by rw [hx]; exact lowN_lt 32 a)
  have HXC := Lib.hid (show a % 2 ^ 32 = (x : Int) by rw [hx, lowN_cast]; rfl)
  clear hx
  obtain ⟨o, ho⟩ : ∃ o, o = a / 2 := ⟨_, rfl⟩
  have HO := Lib.hid (show wrap64 (a / 2 ^ (un 1 % 64)) = o by rw [ho, un_one]; exact wrap64_id (div_range a 1 ra))
  have ho1 : 2 * o ≤ a := by omega
  have ho2 : a ≤ 2 * o + 1 := by omega
  have hpar : ((a - o - o) == 0) = false := by simp; omega
  have hpar1 : ((a - o - o) == 1) = true := by simp; omega
  clear ho hp
  have hsg : (o < 0) = (a < 0) := by apply propext; omega
  go_enter Try.func12, Try.ntmps12
  go_wp2
  go_loopw [5, 6, 7, 8] (fun u d k s wr => ∃ i : Nat, i ≤ K ∧ s = .int .i64 i ∧ u = .int .i64 (wrap64 (a * 2 ^ i)) ∧ d = .int .i64 (wrap64 ((un a / 2 ^ i : Nat) : Int)) ∧ k = .int .i64 (a / 2 ^ i) ∧ Below w.heap.size w wr) (fun _ _ _ s _ => K - (intOf s).toNat)
  case atStart => exact ⟨0, Nat.zero_le _, rfl, by rw [Int.pow_zero, Int.mul_one, wrap64_id ra], by rw [Nat.pow_zero, Nat.div_one, wrap64_un ra.1 ra.2], by rw [Int.pow_zero, Int.ediv_one], Below.refl _ _⟩
  case round =>
    obtain ⟨i, hi, rfl, rfl, rfl, rfl, hB⟩ := hrel
    have hs := hB.size
    by_cases hlt : i < K
    · go_wp2_with fail
      refine (of_at 1 (wrap64 (a * 2 ^ i)) (wrap64 (a * 2 ^ i)) _ (wrap64 (a * 2 ^ (i + 1))) false (gives_add _ _) (up_step a i) _).mono ?_
      rintro e w1 ⟨rfl, h1⟩
      have hB := hB.trans (h1.mono hs)
      have hs := hB.size
      clear h1
      go_wp2_with fail
      refine (of_at 4 (wrap64 ((un a / 2 ^ i : Nat) : Int)) 2 _ (wrap64 ((un a / 2 ^ (i + 1) : Nat) : Int)) false (gives_div _ _ (by decide)) (down_step (un a) i (un_lt a)) _).mono ?_
      rintro e w2 ⟨rfl, h2⟩
      have hB := hB.trans (h2.mono hs)
      have hs := hB.size
      clear h2
      go_wp2_with fail
      refine (of_at 13 (a / 2 ^ i) 1 _ (a / 2 ^ (i + 1)) false (gives_arsh _ _ (div_range a i ra)) (keep_step a i ra) _).mono ?_
      rintro e w3 ⟨rfl, h3⟩
      have hB := hB.trans (h3.mono hs)
      have hs := hB.size
      clear h3
      go_wp2
      go_roundw
      case rel => exact ⟨i + 1, hlt, by go_num, rfl, rfl, rfl, hB⟩
      case measure => simp [intOf]; omega
    · obtain rfl : i = K := by omega
      go_wp2_with fail
      refine (is_at 11 a b _ (wrap64 (a * 2 ^ i)) false (gives_lsh a b) (by rw [HK.out]) _).mono ?_
      rintro e w1 ⟨rfl, h1⟩
      have hB := hB.trans (h1.mono hs)
      have hs := hB.size
      clear h1
      go_wp2_with fail
      refine (is_at 12 a b _ (wrap64 ((un a / 2 ^ i : Nat) : Int)) false (gives_rsh a b) (by rw [HK.out]) _).mono ?_
      rintro e w2 ⟨rfl, h2⟩
      have hB := hB.trans (h2.mono hs)
      have hs := hB.size
      clear h2
      go_wp2_with fail
      refine (is_at 13 a b _ (a / 2 ^ i) false (gives_arsh a b ra) (by rw [← HK.out]; exact wrap64_id (div_range a i ra)) _).mono ?_
      rintro e w3 ⟨rfl, h3⟩
      have hB := hB.trans (h3.mono hs)
      have hs := hB.size
      clear h3
      go_wp2_with fail
      refine (low_of a 32 32 rfl (by decide) _).mono ?_
      rintro e w4 ⟨rfl, rfl⟩
      rw [HXC.out]
      go_wp2_with fail
      refine (low_of a 32 32 rfl (by decide) _).mono ?_
      rintro e w5 ⟨rfl, rfl⟩
      rw [HXC.out]
      go_wp2_with fail
      refine (low_of a 32 32 rfl (by decide) _).mono ?_
      rintro e w6 ⟨rfl, rfl⟩
      rw [HXC.out]
      go_wp2
      go_loopw [5, 6, 7, 9] (fun u d k s wr => ∃ j U D G : Nat, j ≤ M ∧ s = .int .i64 j ∧ u = .int .i64 U ∧ d = .int .i64 D ∧ k = .int .i64 G ∧ Below w.heap.size w wr ∧ Hid (U = x * 2 ^ j % 2 ^ 32) ∧ Hid (D = x / 2 ^ j) ∧ Hid (G = (sgn 32 x / 2 ^ j % 2 ^ 32).toNat)) (fun _ _ _ s _ => M - (intOf s).toNat)
      case atStart => exact ⟨0, x, x, x, Nat.zero_le _, rfl, rfl, rfl, rfl, hB, Lib.hid (by rw [Nat.pow_zero, Nat.mul_one, Nat.mod_eq_of_lt HXL.out]), Lib.hid (by rw [Nat.pow_zero, Nat.div_one]), Lib.hid (by rw [keep_start x HXL.out])⟩
      case round =>
        clear hs hB
        obtain ⟨j, U, D, G, hj, rfl, rfl, rfl, rfl, hB, HU, HD, HG⟩ := hrel
        have hs := hB.size
        by_cases hlt2 : j < M
        · obtain ⟨U1, hU1⟩ : ∃ z, z = x * 2 ^ (j + 1) % 2 ^ 32 := ⟨_, rfl⟩
          obtain ⟨D1, hD1⟩ : ∃ z, z = x / 2 ^ (j + 1) := ⟨_, rfl⟩
          obtain ⟨G1, hG1⟩ : ∃ z, z = (sgn 32 x / 2 ^ (j + 1) % 2 ^ 32).toNat := ⟨_, rfl⟩
          have HU1 := Lib.hid hU1
          have HD1 := Lib.hid hD1
          have HG1 := Lib.hid hG1
          clear hU1 hD1 hG1
          go_wp2_with fail
          refine (of_at 1 _ _ _ (U1 : Int) true (alu32_add (U : Int) (U : Int)) (by rw [HU.out, up32, HU1.out]) _).mono ?_
          rintro e w1 ⟨rfl, h1⟩
          have hB := hB.trans (h1.mono hs)
          have hs := hB.size
          clear h1
          go_wp2_with fail
          refine (of_at 4 _ _ _ (D1 : Int) true (alu32_div (D : Int) 2 (by decide)) (by rw [HD.out, down32 x j HXL.out, HD1.out]) _).mono ?_
          rintro e w2 ⟨rfl, h2⟩
          have hB := hB.trans (h2.mono hs)
          have hs := hB.size
          clear h2
          go_wp2_with fail
          refine (of_at 13 _ _ _ (G1 : Int) true (alu32_arsh (G : Int) 1) (by rw [HG.out, keep32 x j HXL.out, HG1.out]) _).mono ?_
          rintro e w3 ⟨rfl, h3⟩
          have hB := hB.trans (h3.mono hs)
          have hs := hB.size
          clear h3
          go_wp2
          go_roundw
          case rel => exact ⟨j + 1, U1, D1, G1, hlt2, by go_num, rfl, rfl, rfl, hB, HU1, HD1, HG1⟩
          case measure => show M - (intOf (.int .i64 ((j : Int) + 1))).toNat < M - (intOf (.int .i64 (j : Int))).toNat; simp only [intOf]; omega
        · obtain rfl : j = M := by omega
          go_wp2_with fail
          refine (of_at 13 a 1 _ o false (gives_arsh a 1 ra) HO.out _).mono ?_
          rintro e w1 ⟨rfl, h1⟩
          have hB := hB.trans (h1.mono hs)
          have hs := hB.size
          clear h1
          go_wp2_with fail
          refine (is_at 11 a b _ (U : Int) true (alu32_lsh a b) (by rw [HU.out, HM.out, HX.out, ← low_mod]; rfl) _).mono ?_
          rintro e w2 ⟨rfl, h2⟩
          have hB := hB.trans (h2.mono hs)
          have hs := hB.size
          clear h2
          go_wp2_with fail
          refine (is_at 12 a b _ (D : Int) true (alu32_rsh a b) (by rw [HD.out, HM.out, HX.out, ← low_mod]; rfl) _).mono ?_
          rintro e w3 ⟨rfl, h3⟩
          have hB := hB.trans (h3.mono hs)
          have hs := hB.size
          clear h3
          go_wp2_with fail
          refine (is_at 13 a b _ (G : Int) true (alu32_arsh a b) (by rw [HG.out, HM.out, HX.out, ← low_mod]; rfl) _).mono ?_
          rintro e w4 ⟨rfl, h4⟩
          have hB := hB.trans (h4.mono hs)
          have hs := hB.size
          clear h4
          go_wp2_with fail
          refine (low_of (o + o) 1 1 rfl (by decide) _).mono ?_
          rintro e w5 ⟨rfl, rfl⟩
          rw [show (o + o) % 2 ^ 1 = 0 by rw [Int.pow_succ, Int.pow_zero]; omega]
          go_wp2_with fail
          refine (is_at 11 1 5 _ 32 false (gives_lsh 1 5) (by rw [show un 5 % 64 = 5 by decide]; exact wrap64_id (by decide)) _).mono ?_
          rintro e w6 ⟨rfl, h6⟩
          have hB := hB.trans (h6.mono hs)
          have hs := hB.size
          clear h6
          go_wp2
          go_ret
          exact ⟨rfl, hB⟩
theorem walk (a : Int) (ra : -9223372036854775808 ≤ a ∧ a ≤ 9223372036854775807) (b : Int) (rb : -9223372036854775808 ≤ b ∧ b ≤ 9223372036854775807) (w : World) :
    Calls Try.prog 12 #[.int .i64 a, .int .i64 b] w fun e w' => e = .returned (.bool true) ∧ Below w.heap.size w w' := by
  rcases (show a % 2 = 0 ∨ a % 2 = 1 by omega) with h | h
  · exact walk_even a ra b rb h w
  · exact walk_odd a ra b rb h w

theorem own : ownKnob Try.prog.godebug = none := by kernel_rfl
set_option maxRecDepth 100000 in
theorem lifted (os : Os) (started : os.Started) (H : Type) (enc : TypeId × Value → H) :
    ReturnsInHanded {} Try.checked os 12 .any (Rows.wordShiftsSpec.pre6 enc Try.prog Try.f12 Rows.wordShiftsRow.domain false) (Rows.wordShiftsSpec.post enc Try.prog Try.f12 false true false false) := by
  refine returnsInHanded_of_change (C := Try.checked) own started (by kernel_rfl) Try.func12
    (ChangeSpec.witness6 (enc := enc) (C := Try.checked) false ⟨#[], #[.int .i64 0, .int .i64 0], []⟩ 8 (by kernel_rfl) (by kernel_rfl) (by kernel_rfl) (by kernel_rfl)) ?_
  intro W base args ds gs before hval0 hW hcnd _
  have hval : ∀ (j : Nat) t v, Try.f12.params[j]? = some t → args[j]? = some v → Value.okWide Try.prog W .any base t v := hval0
  have hW' := hW
  obtain ⟨p, q, hA0, hV, rfl, hfz, hnd⟩ := hW
  have hA : DataW.TrodAll enc Try.prog W 0 (fun _ => true) true Try.f12.params.toList args.toList ds p := hA0
  rw [Try.params12] at hA hval
  obtain ⟨v0, vs0, d0, ds0, p0, q0, hargs, rfl, rfl, h0, r0⟩ := trodAll_cons hA
  obtain ⟨v1, vs1, d1, ds1, p1, q1, rfl, rfl, rfl, h1, r1⟩ := trodAll_cons r0
  obtain ⟨rfl, rfl, rfl⟩ := trodAll_nil r1
  obtain rfl : args = #[v0, v1] := by cases args; simp_all
  obtain ⟨a0, rfl, rfl, rfl, w0⟩ := open_int Try.underlying3 (hval 0 3 v0 rfl rfl) h0
  obtain ⟨a1, rfl, rfl, rfl, w1⟩ := open_int Try.underlying3 (hval 1 3 v1 rfl rfl) h1
  refine (walk a0 (range_i64 w0) a1 (range_i64 w1) W).mono fun e W' ⟨he, hb⟩ => ?_
  subst he
  exact ⟨_, rfl, law_post (tb := 4) (by kernel_rfl) (by kernel_rfl) rfl Try.underlying4 rfl (fun h => by subst h; rfl) hW' hb⟩

theorem proved : Rows.WordShiftsSaid :=
  OpenClaim.holds_of_wide 12 Try.f12 rfl rfl rfl rfl rfl rfl rfl ⟨rfl, rfl, rfl, rfl, rfl⟩ rfl rfl rfl rfl rfl (by kernel_rfl) Try.func12 (by kernel_rfl)
    (of_decide_eq_true (by kernel_rfl)) (by unfold Func.isWrapper; first | (rw [if_pos (by decide +kernel)]; kernel_rfl) | (rw [if_neg (by decide +kernel)]; exact ⟨rfl, rfl⟩))
    (fun os started H enc _ => lifted os started H enc)
#print axioms proved

end Go.Proofs.Ytcmpohippbjpcaa.wordShifts
