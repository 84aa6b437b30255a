/-
  WordDivides: quotient and rest, without signs and with; no condition.
-/
import Derived.Test.YtcmpohippbjpcaaWordMod
import Derived.OpenShut
namespace Go.Proofs.Ytcmpohippbjpcaa.wordDivides
open Go.ChangeShapes Go.WideShapes Go.ChangeAt Go.RowKit
set_option linter.unusedVariables false

/-- The high and the low half of a number. -/
theorem high_half (b : Int) : bits .and .i64 (b / 4294967296) 4294967295 = ((un b / 4294967296 : Nat) : Int) := by
  have h := i64_and_mask (b / 4294967296) 32 (by decide)
  have e : (2 : Int) ^ 32 = 4294967296 := rfl
  rw [e] at h
  have e2 : (4294967296 : Int) - 1 = 4294967295 := rfl
  rw [e2] at h
  rw [h, Int.natCast_ediv, un_cast]
  omega
theorem low_half (b : Int) : b % 2 ^ 32 = ((un b % 4294967296 : Nat) : Int) := by
  have e : (2 : Int) ^ 32 = 4294967296 := rfl
  rw [e, Int.natCast_emod, un_cast]; omega

theorem halves (B Q : Nat) : B * Q = (B % 4294967296) * (Q % 4294967296) + 4294967296 * ((B / 4294967296) * (Q % 4294967296) + (B % 4294967296) * (Q / 4294967296)) + 18446744073709551616 * ((B / 4294967296) * (Q / 4294967296)) := by
  have hb := Nat.div_add_mod B 4294967296
  have hq := Nat.div_add_mod Q 4294967296
  generalize B / 4294967296 = bh at *
  generalize B % 4294967296 = bl at *
  generalize Q / 4294967296 = qh at *
  generalize Q % 4294967296 = ql at *
  subst hb hq
  rw [Nat.add_mul, Nat.mul_add, Nat.mul_add, Nat.mul_add]
  have e1 : 4294967296 * bh * (4294967296 * qh) = 18446744073709551616 * (bh * qh) := by
    rw [Nat.mul_mul_mul_comm]
  have e2 : 4294967296 * bh * ql = 4294967296 * (bh * ql) := Nat.mul_assoc _ _ _
  have e3 : bl * (4294967296 * qh) = 4294967296 * (bl * qh) := Nat.mul_left_comm _ _ _
  rw [e1, e2, e3]
  omega

theorem rest_un (P1 P2 P3 : Nat) (h : P3 + 4294967296 * (P1 + P2) < 18446744073709551616) :
    un (wrap64 (wrap64 (P3 : Int) + wrap64 (((P1 : Int) + (P2 : Int)) * 4294967296))) = P3 + 4294967296 * (P1 + P2) := by
  rw [wrap_add_l, wrap_add_r]
  have : ((P3 : Nat) : Int) + ((P1 : Int) + (P2 : Int)) * 4294967296 = ((P3 + 4294967296 * (P1 + P2) : Nat) : Int) := by omega
  rw [this]; exact un_wrap h
theorem not_less (P3 M : Nat) : false = decide (P3 + M < P3) := by
  symm; rw [decide_eq_false_iff_not]; omega

set_option maxHeartbeats 800000 in
theorem fitted_yes (b q : Int) (hfit : un b * un q < 18446744073709551616) (w : World) :
    Calls Try.prog 39 #[.int .i64 b, .int .i64 q] w fun e w' => e = .returned (.bool true) ∧ w = w' := by
  have hh := halves (un b) (un q)
  have hbh := high_half b
  have hqh := high_half q
  have lb := low_half b
  have lq := low_half q
  have b1 := un_lt b
  have b2 := un_lt q
  obtain ⟨BH, hBH⟩ : ∃ z, z = un b / 4294967296 := ⟨_, rfl⟩
  obtain ⟨BL, hBL⟩ : ∃ z, z = un b % 4294967296 := ⟨_, rfl⟩
  obtain ⟨QH, hQH⟩ : ∃ z, z = un q / 4294967296 := ⟨_, rfl⟩
  obtain ⟨QL, hQL⟩ : ∃ z, z = un q % 4294967296 := ⟨_, rfl⟩
  rw [← hBH] at hbh hh
  rw [← hBL] at lb hh
  rw [← hQH] at hqh hh
  rw [← hQL] at lq hh
  have i1 : BH < 4294967296 := by omega
  have i2 : BL < 4294967296 := by omega
  have i3 : QH < 4294967296 := by omega
  have i4 : QL < 4294967296 := by omega
  rw [hh] at hfit
  obtain ⟨P1, hP1⟩ : ∃ z, z = BH * QL := ⟨_, rfl⟩
  obtain ⟨P2, hP2⟩ : ∃ z, z = BL * QH := ⟨_, rfl⟩
  obtain ⟨P3, hP3⟩ : ∃ z, z = BL * QL := ⟨_, rfl⟩
  obtain ⟨P4, hP4⟩ : ∃ z, z = BH * QH := ⟨_, rfl⟩
  rw [← hP1, ← hP2, ← hP3, ← hP4] at hfit
  have p1 : P1 < 4294967296 := by omega
  have p2 : P2 < 4294967296 := by omega
  have p12 : P1 + P2 < 4294967296 := by omega
  have p4 : P4 = 0 := by omega
  have p3 : P3 < 18446744073709551616 := by omega
  have p5 : P3 + 4294967296 * (P1 + P2) < 18446744073709551616 := by omega
  have p4' : BH = 0 ∨ QH = 0 := by
    rw [hP4] at p4
    exact Nat.mul_eq_zero.1 p4
  have hz : bits .and .i64 (((P1 : Int) + (P2 : Int)) / 4294967296) 4294967295 = 0 := by
    rw [high_half]
    have : un ((P1 : Int) + (P2 : Int)) = P1 + P2 := by rw [← Int.natCast_add]; exact un_nat (by omega)
    rw [this, Nat.div_eq_of_lt p12]; rfl
  have b1' : (P1 : Int) ≤ 9223372036854775807 := by omega
  have b2' : (P2 : Int) ≤ 9223372036854775807 := by omega
  have hor : (BH : Int) = 0 ∨ (QH : Int) = 0 := by omega
  have j1 : 0 ≤ (BH : Int) ∧ (BH : Int) < 4294967296 := by omega
  have j2 : 0 ≤ (BL : Int) ∧ (BL : Int) < 4294967296 := by omega
  have j3 : 0 ≤ (QH : Int) ∧ (QH : Int) < 4294967296 := by omega
  have j4 : 0 ≤ (QL : Int) ∧ (QL : Int) < 4294967296 := by omega
  have j5 : 0 ≤ (P1 : Int) ∧ 0 ≤ (P2 : Int) ∧ (P1 : Int) + (P2 : Int) < 4294967296 := by omega
  have q1 : wrap64 ((BH : Int) * (QL : Int)) = (P1 : Int) := by rw [← Int.natCast_mul, ← hP1]; exact wrap64_id ⟨Int.le_trans (by decide) (Int.natCast_nonneg P1), b1'⟩
  have q2 : wrap64 ((BL : Int) * (QH : Int)) = (P2 : Int) := by rw [← Int.natCast_mul, ← hP2]; exact wrap64_id ⟨Int.le_trans (by decide) (Int.natCast_nonneg P2), b2'⟩
  have r3 : wrap64 ((BL : Int) * (QL : Int)) = wrap64 (P3 : Int) := by rw [hP3, Int.natCast_mul]
  have hun := rest_un P1 P2 P3 p5
  have hun3 := un_wrap p3
  obtain ⟨R, hR⟩ : ∃ z, z = wrap64 (P3 : Int) := ⟨_, rfl⟩
  obtain ⟨S, hS⟩ : ∃ z, z = wrap64 (((P1 : Int) + (P2 : Int)) * 4294967296) := ⟨_, rfl⟩
  obtain ⟨T, hT⟩ : ∃ z, z = wrap64 (R + S) := ⟨_, rfl⟩
  rw [← hR, ← hS, ← hT] at hun
  rw [← hR] at hun3 r3
  have rR := wrap64_range (P3 : Int)
  rw [← hR] at rR
  have rT := wrap64_range (R + S)
  rw [← hT] at rT
  have HA := Lib.hid (show false = decide (un T < un R) by rw [hun, hun3]; exact not_less _ _)
  have HLB0 := lb
  have HLQ0 := lq
  have hS' := hS.symm
  have hT' := hT.symm
  clear hh b1 b2 b1' b2' hBH hBL hQH hQL hfit hP1 hP2 hP3 hP4 p4 hun hun3 hR hS hT lb lq p5 p3
  clear i1 i2 i3 i4 p1 p2 p12 p4'
  generalize (BH : Int) = bh at *
  generalize (BL : Int) = bl at *
  generalize (QH : Int) = qh at *
  generalize (QL : Int) = ql at *
  generalize (P1 : Int) = m1 at *
  generalize (P2 : Int) = m2 at *
  have HLB := Lib.hid HLB0
  have HLQ := Lib.hid HLQ0
  clear HLB0 HLQ0
  obtain ⟨j1a, j1b⟩ := j1
  obtain ⟨j2a, j2b⟩ := j2
  obtain ⟨j3a, j3b⟩ := j3
  obtain ⟨j4a, j4b⟩ := j4
  obtain ⟨j5a, j5b, j5c⟩ := j5
  by_cases h0 : bh = 0
  · have t1 : (bh != 0) = false := by simpa using h0
    clear h0 hor
    go_enter Try.func39, Try.ntmps39
    go_wp2_with fail
    refine (low_of b 32 32 rfl (by decide) _).mono ?_
    rintro e w1 ⟨rfl, rfl⟩
    rw [HLB.out]
    go_wp2_with fail
    refine (low_of q 32 32 rfl (by decide) _).mono ?_
    rintro e w1 ⟨rfl, rfl⟩
    rw [HLQ.out]
    go_wp2_with fail
    refine (ahead_of T R rT rR false HA.out _).mono ?_
    rintro e w1 ⟨rfl, rfl⟩
    go_wp2
    go_ret
    exact ⟨rfl, rfl⟩
  · have hq0 : qh = 0 := hor.resolve_left h0
    have t1 : (bh != 0) = true := by rw [bne_iff_ne]; exact h0
    have t2 : (qh != 0) = false := by simpa using hq0
    clear h0 hor hq0
    go_enter Try.func39, Try.ntmps39
    go_wp2_with fail
    refine (low_of b 32 32 rfl (by decide) _).mono ?_
    rintro e w1 ⟨rfl, rfl⟩
    rw [HLB.out]
    go_wp2_with fail
    refine (low_of q 32 32 rfl (by decide) _).mono ?_
    rintro e w1 ⟨rfl, rfl⟩
    rw [HLQ.out]
    go_wp2_with fail
    refine (ahead_of T R rT rR false HA.out _).mono ?_
    rintro e w1 ⟨rfl, rfl⟩
    go_wp2
    go_ret
    exact ⟨rfl, rfl⟩

theorem unsigned_back (a b : Int) (ra : -9223372036854775808 ≤ a ∧ a ≤ 9223372036854775807) (hb : un b ≠ 0) :
    wrap64 (wrap64 (wrap64 ((un a / un b : Nat) : Int) * b) + wrap64 ((un a % un b : Nat) : Int)) = a := by
  rw [wrap_add_l, wrap_add_r]
  have h : wrap64 (wrap64 ((un a / un b : Nat) : Int) * b + ((un a % un b : Nat) : Int)) = wrap64 ((un a / un b : Nat) * (un b : Nat) + ((un a % un b : Nat) : Int)) := by
    rw [← wrap_add_l, wrap_mul_l, ← wrap_add_l ((un a / un b : Nat) * (un b : Nat) : Int)]
    congr 2
    refine wrap64_congr ?_
    rw [Int.mul_emod, Int.mul_emod (((un a / un b : Nat)) : Int) ((un b : Nat) : Int), un_cast b, Int.emod_emod_of_dvd _ (Int.dvd_refl _)]
  rw [h, ← Int.natCast_mul, ← Int.natCast_add, Nat.mul_comm, Nat.div_add_mod]
  exact wrap64_un ra.1 ra.2

/-- What is known of quotient and rest with signs. -/
theorem signed_facts (a b : Int) (hb : b ≠ 0) :
    b * a.tdiv b + a.tmod b = a ∧ (0 ≤ a → 0 ≤ a.tmod b) ∧ (a ≤ 0 → a.tmod b ≤ 0) ∧ (0 < b → a.tmod b < b ∧ -b < a.tmod b) ∧ (b < 0 → a.tmod b < -b ∧ b < a.tmod b) ∧
      (0 ≤ a → 0 < b → 0 ≤ a.tdiv b) ∧ (a ≤ 0 → 0 < b → a.tdiv b ≤ 0) ∧ (0 ≤ a → b < 0 → a.tdiv b ≤ 0) ∧ (a ≤ 0 → b < 0 → 0 ≤ a.tdiv b) ∧ (a.tdiv b).natAbs ≤ a.natAbs := by
  have h1 := Int.mul_tdiv_add_tmod a b
  have hn : (a.tmod b).natAbs = a.natAbs % b.natAbs := by rw [Int.natAbs_tmod]
  have hlt := Nat.mod_lt a.natAbs (show 0 < b.natAbs by omega)
  have hq : (a.tdiv b).natAbs = a.natAbs / b.natAbs := by rw [Int.natAbs_tdiv]; rfl
  have hle := Nat.div_le_self a.natAbs b.natAbs
  rw [← hn] at hlt
  rw [← hq] at hle
  refine ⟨h1, fun h => Int.tmod_nonneg b h, fun h => ?_, fun h => ⟨by omega, by omega⟩, fun h => ⟨by omega, by omega⟩, fun h h' => Int.tdiv_nonneg h (by omega), fun h h' => ?_, fun h h' => ?_, fun h h' => ?_, hle⟩
  · have := Int.tmod_nonneg b (show 0 ≤ -a by omega)
    rw [Int.neg_tmod] at this; omega
  · have := Int.tdiv_nonneg (show 0 ≤ -a by omega) (show 0 ≤ b by omega)
    rw [Int.neg_tdiv] at this; omega
  · have := Int.tdiv_nonneg h (show 0 ≤ -b by omega)
    rw [Int.tdiv_neg] at this; omega
  · have := Int.tdiv_nonneg (show 0 ≤ -a by omega) (show 0 ≤ -b by omega)
    rw [Int.neg_tdiv, Int.tdiv_neg] at this; omega

/-- Division by the least number. -/
theorem by_least (a : Int) (ra : -9223372036854775808 ≤ a ∧ a ≤ 9223372036854775807) (h : a ≠ -9223372036854775808) : a.tdiv (-9223372036854775808) = 0 ∧ a.tmod (-9223372036854775808) = a := by
  have hq : (a.tdiv (-9223372036854775808)).natAbs = a.natAbs / 9223372036854775808 := by rw [Int.natAbs_tdiv]; rfl
  have hlt : a.natAbs < 9223372036854775808 := by omega
  rw [Nat.div_eq_of_lt hlt] at hq
  have h0 : a.tdiv (-9223372036854775808) = 0 := Int.natAbs_eq_zero.1 hq
  have h1 := Int.mul_tdiv_add_tmod a (-9223372036854775808)
  rw [h0, Int.mul_zero, Int.zero_add] at h1
  exact ⟨h0, h1⟩
theorem least_by_least : Int.tdiv (-9223372036854775808) (-9223372036854775808) = 1 ∧ Int.tmod (-9223372036854775808) (-9223372036854775808) = 0 := by decide
theorem least_by_m1 : Int.tdiv (-9223372036854775808) (-1) = 9223372036854775808 ∧ Int.tmod (-9223372036854775808) (-1) = 0 := by decide

/-- What the last rows of the law read: the rest t, the quotient s. -/
structure Signs (a b s t : Int) : Prop where
  back : wrap64 (wrap64 (s * b) + t) = a
  pos : 0 ≤ a → 0 ≤ t
  neg : a ≤ 0 → t ≤ 0
  near : 0 < b → t < b ∧ -b < t
  nearer : b < 0 → t < -b ∧ b < t
  pp : 0 ≤ a → 0 < b → 0 ≤ s
  np : a ≤ 0 → 0 < b → s ≤ 0
  pn : 0 ≤ a → b < 0 → a ≠ -9223372036854775808 ∨ b ≠ -1 → s ≤ 0
  nn : a ≤ 0 → b < 0 → a ≠ -9223372036854775808 ∨ b ≠ -1 → 0 ≤ s
  special : a = -9223372036854775808 → b = -1 → s = -9223372036854775808 ∧ t = 0
  least : b = -9223372036854775808 → a ≠ -9223372036854775808 → s = 0 ∧ t = a
theorem signs (a b : Int) (ra : -9223372036854775808 ≤ a ∧ a ≤ 9223372036854775807) (rb : -9223372036854775808 ≤ b ∧ b ≤ 9223372036854775807) (hb : b ≠ 0) :
    Signs a b (wrap64 (a.tdiv b)) (a.tmod b) := by
  obtain ⟨f1, f2, f3, f4, f5, f6, f7, f8, f9, f10⟩ := signed_facts a b hb
  have hid : a ≠ -9223372036854775808 ∨ b ≠ -1 → wrap64 (a.tdiv b) = a.tdiv b := by
    intro h
    refine wrap64_id ⟨by omega, ?_⟩
    rcases Int.lt_trichotomy (a.tdiv b) 9223372036854775808 with h1 | h1 | h1
    · omega
    · exfalso
      rcases Int.lt_trichotomy b 0 with h2 | h2 | h2
      · have h3 : a = -9223372036854775808 := by
          by_cases h4 : 0 ≤ a
          · have := f8 h4 h2; omega
          · omega
        have h4 : b ≠ -1 := by omega
        have hq : (a.tdiv b).natAbs = a.natAbs / b.natAbs := by rw [Int.natAbs_tdiv]; rfl
        have h5 : a.natAbs / b.natAbs ≤ a.natAbs / 2 := Nat.div_le_div_left (by omega) (by decide)
        omega
      · exact hb h2
      · by_cases h4 : 0 ≤ a
        · omega
        · have := f7 (by omega) h2; omega
    · omega
  refine ⟨?_, f2, f3, f4, f5, ?_, ?_, ?_, ?_, ?_, ?_⟩
  · rw [wrap_add_l, ← wrap_add_l (wrap64 (a.tdiv b) * b), wrap_mul_l, wrap_add_l, Int.mul_comm, f1]; exact wrap64_id ra
  · intro h h'; rw [hid (by omega)]; exact f6 h h'
  · intro h h'; rw [hid (by omega)]; exact f7 h h'
  · intro h h' h''; rw [hid h'']; exact f8 h h'
  · intro h h' h''; rw [hid h'']; exact f9 h h'
  · rintro rfl rfl; rw [least_by_m1.1, least_by_m1.2]; exact ⟨by unfold wrap64; omega, rfl⟩
  · rintro rfl h; rw [(by_least a ra h).1, (by_least a ra h).2]; exact ⟨wrap64_id (by decide), rfl⟩

set_option maxRecDepth 100000 in
set_option maxHeartbeats 6400000 in
theorem walk (a : Int) (ra : -9223372036854775808 ≤ a ∧ a ≤ 9223372036854775807) (b : Int) (rb : -9223372036854775808 ≤ b ∧ b ≤ 9223372036854775807) (w : World) :
    Calls Try.prog 11 #[.int .i64 a, .int .i64 b] w fun e w' => e = .returned (.bool true) ∧ Below w.heap.size w w' := by
  by_cases hb0 : b = 0
  · have tb : (b == 0) = true := by simpa using hb0
    clear hb0
    go_enter Try.func11, Try.ntmps11
    go_wp2_with fail
    refine (alu64_div0 a 0 (by decide) _).mono ?_
    rintro e w1 ⟨rfl, rfl⟩
    go_wp2_with fail
    refine (alu32_smod0 a 4294967296 (by decide) _).mono ?_
    rintro e w1 ⟨rfl, rfl⟩
    go_wp2_with fail
    refine (is_at 4 7 2 _ 3 false (gives_div 7 2 (by decide)) (wrap64_id (x := 3) (by decide)) _).mono ?_
    rintro e w1 ⟨rfl, hB⟩
    go_wp2
    go_ret
    exact ⟨rfl, hB⟩
  · have tb : (b == 0) = false := by simpa using hb0
    have ub := un_ne rb hb0
    have hsig := signs a b ra rb hb0
    obtain ⟨s, hs⟩ : ∃ z, z = wrap64 (a.tdiv b) := ⟨_, rfl⟩
    obtain ⟨t, ht⟩ : ∃ z, z = a.tmod b := ⟨_, rfl⟩
    rw [← hs, ← ht] at hsig
    have HSL : a = -9223372036854775808 → b = -9223372036854775808 → s = 1 := by
      intro h1 h2; rw [hs, h1, h2, least_by_least.1]; exact wrap64_id (by decide)
    have HTL : a = -9223372036854775808 → b = -9223372036854775808 → t = 0 := by
      intro h1 h2; rw [ht, h1, h2, least_by_least.2]
    have HS := Lib.hid hs.symm
    have rt : -9223372036854775808 ≤ t ∧ t ≤ 9223372036854775807 := by
      have h1 := hsig.near
      have h2 := hsig.nearer
      omega
    have HT := Lib.hid (show wrap64 (a.tmod b) = t by rw [← ht]; exact wrap64_id rt)
    have hback := unsigned_back a b ra ub
    have hq1 : un a / un b < 18446744073709551616 := Nat.lt_of_le_of_lt (Nat.div_le_self _ _) (un_lt a)
    have hr1 : un a % un b < 18446744073709551616 := Nat.lt_of_le_of_lt (Nat.mod_le _ _) (un_lt a)
    have hfit : un b * (un a / un b) < 18446744073709551616 := Nat.lt_of_le_of_lt (Nat.mul_div_le _ _) (un_lt a)
    have hrl : un a % un b < un b := Nat.mod_lt _ (Nat.pos_of_ne_zero ub)
    have hal : un a % un b ≤ un a := Nat.mod_le _ _
    obtain ⟨q, hq⟩ : ∃ z, z = wrap64 ((un a / un b : Nat) : Int) := ⟨_, rfl⟩
    obtain ⟨r, hr⟩ : ∃ z, z = wrap64 ((un a % un b : Nat) : Int) := ⟨_, rfl⟩
    have uq : un q = un a / un b := by rw [hq]; exact un_wrap hq1
    have ur : un r = un a % un b := by rw [hr]; exact un_wrap hr1
    have rr := wrap64_range ((un a % un b : Nat) : Int)
    rw [← hq, ← hr] at hback
    rw [← hr] at rr
    have HQ := Lib.hid hq.symm
    have HR := Lib.hid hr.symm
    have HF := Lib.hid (show un b * un q < 18446744073709551616 by rw [uq]; exact hfit)
    have HA1 := Lib.hid (show true = decide (un r < un b) by rw [ur]; exact (decide_eq_true hrl).symm)
    have HA2 := Lib.hid (show false = decide (un a < un r) by rw [ur]; exact (decide_eq_false (Nat.not_lt.2 hal)).symm)
    have HSL' := Lib.hid HSL
    have HTL' := Lib.hid HTL
    have HSIG := Lib.hid hsig
    clear HSL HTL hsig
    clear hs ht hq hr uq ur hq1 hr1 hfit hrl hal hb0
    go_enter Try.func11, Try.ntmps11
    go_wp2_with fail
    refine (alu64_div0 a 0 (by decide) _).mono ?_
    rintro e w1 ⟨rfl, rfl⟩
    go_wp2_with fail
    refine (alu32_smod0 a 4294967296 (by decide) _).mono ?_
    rintro e w1 ⟨rfl, rfl⟩
    go_wp2_with fail
    refine (is_at 4 7 2 _ 3 false (gives_div 7 2 (by decide)) (wrap64_id (x := 3) (by decide)) _).mono ?_
    rintro e w1 ⟨rfl, hB⟩
    have hz := hB.size
    go_wp2_with fail
    refine (of_at 4 a b _ q false (gives_div a b ub) HQ.out _).mono ?_
    rintro e w2 ⟨rfl, h2⟩
    have hB := hB.trans (h2.mono hz)
    have hz := hB.size
    clear h2
    go_wp2_with fail
    refine (of_at 5 a b _ r false (gives_mod a b ub) HR.out _).mono ?_
    rintro e w3 ⟨rfl, h3⟩
    have hB := hB.trans (h3.mono hz)
    have hz := hB.size
    clear h3
    go_wp2_with fail
    refine (ahead_of r b rr rb true HA1.out _).mono ?_
    rintro e w4 ⟨rfl, rfl⟩
    go_wp2_with fail
    refine (fitted_yes b q HF.out _).mono ?_
    rintro e w4 ⟨rfl, rfl⟩
    go_wp2_with fail
    refine (ahead_of a r ra rr false HA2.out _).mono ?_
    rintro e w4 ⟨rfl, rfl⟩
    go_wp2_with fail
    refine (of_at 6 a b _ s false (gives_sdiv a b ra rb (by rintro rfl; simp at tb)) HS.out _).mono ?_
    rintro e w5 ⟨rfl, h5⟩
    have hB := hB.trans (h5.mono hz)
    have hz := hB.size
    clear h5
    go_wp2_with fail
    refine (of_at 7 a b _ t false (gives_smod a b ra rb (by rintro rfl; simp at tb)) HT.out _).mono ?_
    rintro e w6 ⟨rfl, h6⟩
    have hB := hB.trans (h6.mono hz)
    clear h6 hz hback HQ HR HF HA1 HA2 HS HT
    have hsig := HSIG.out
    have HSL := HSL'.out
    have HTL := HTL'.out
    have hback := hsig.back
    have k1 := hsig.pos
    have k2 := hsig.neg
    have k3 := hsig.near
    have k4 := hsig.nearer
    have k5 := hsig.pp
    have k6 := hsig.np
    have k7 := hsig.pn
    have k8 := hsig.nn
    have k9 := hsig.special
    have k10 := hsig.least
    have hb0 : b ≠ 0 := by rintro rfl; simp at tb
    have HBK := Lib.hid hback
    clear hback
    by_cases hA : a = -9223372036854775808
    · by_cases hB1 : b = -1
      · obtain ⟨e1, e2⟩ := k9 hA hB1
        have ta : (a == -9223372036854775808) = true := by simpa using hA
        have tb1 : (b == -1) = true := by simpa using hB1
        have ts : (s == -9223372036854775808) = true := by simpa using e1
        have t0 : (t != 0) = false := by simpa using e2
        have t1 : (t == 0) = true := by simpa using e2
        have hbk := HBK.out
        clear HSL HTL hsig k1 k2 k3 k4 k5 k6 k7 k8 k9 k10 hb0 hA hB1 e1 e2
        go_wp2
        all_goals go_ret
        all_goals exact ⟨rfl, hB⟩
      · rcases (show t = 0 ∨ t < 0 by omega) with hT | hT
        · by_cases hBl : b = -9223372036854775808
          · have hS : 0 < s ∨ s ≤ 0 := by omega
            rcases hS with hS | hS
            · have ta : (a == -9223372036854775808) = true := by simpa using hA
              have tb1 : (b == -1) = false := by simpa using hB1
              have sa : a < 0 := by omega
              have sad : decide (a < 0) = true := decide_eq_true sa
              have t0 : (t != 0) = false := by simpa using hT
              have tr1 : 0 ≤ t := by omega
              have tr2 : t ≤ 0 := by omega
              have tbl : (b == -9223372036854775808) = true := by simpa using hBl
              have tbn : (b != -9223372036854775808) = false := by simpa using hBl
              have hw : wrap64 (-b) = b := by rw [hBl]; unfold wrap64; omega
              have sb : b < 0 := by omega
              have tta : (t == a) = false := by rw [beq_eq_false_iff_ne]; omega
              have s0 : (s == 0) = false := by rw [beq_eq_false_iff_ne]; omega
              have sd : decide (s < 0) = false := by simp; omega
              have hbk := HBK.out
              clear HSL HTL hsig k1 k2 k3 k4 k5 k6 k7 k8 k9 k10 hb0 hA hB1 hT hBl
              go_wp2
              all_goals go_ret
              all_goals exact ⟨rfl, hB⟩
            · exfalso
              have e := HSL hA hBl
              omega
          · rcases (show b < 0 ∨ 0 < b by omega) with hBs | hBs
            · by_cases hS : s = 0
              · have ta : (a == -9223372036854775808) = true := by simpa using hA
                have tb1 : (b == -1) = false := by simpa using hB1
                have sa : a < 0 := by omega
                have sad : decide (a < 0) = true := decide_eq_true sa
                have t0 : (t != 0) = false := by simpa using hT
                have tr1 : 0 ≤ t := by omega
                have tr2 : t ≤ 0 := by omega
                have tbn : (b != -9223372036854775808) = true := by simpa using hBl
                have nr : t < -b ∧ b < t := hsig.nearer hBs
                have sbd : decide (b < 0) = true := decide_eq_true hBs
                have rb2 : -9223372036854775807 ≤ b := by omega
                obtain ⟨nr1, nr2⟩ := nr
                have s0 : (s == 0) = true := by simpa using hS
                have hbk := HBK.out
                clear HSL HTL hsig k1 k2 k3 k4 k5 k6 k7 k8 k9 k10 hb0 hA hB1 hT hBl hS
                go_wp2
                all_goals go_ret
                all_goals exact ⟨rfl, hB⟩
              · have hS2 : 0 < s := by omega
                clear hS
                have ta : (a == -9223372036854775808) = true := by simpa using hA
                have tb1 : (b == -1) = false := by simpa using hB1
                have sa : a < 0 := by omega
                have sad : decide (a < 0) = true := decide_eq_true sa
                have t0 : (t != 0) = false := by simpa using hT
                have tr1 : 0 ≤ t := by omega
                have tr2 : t ≤ 0 := by omega
                have tbn : (b != -9223372036854775808) = true := by simpa using hBl
                have nr : t < -b ∧ b < t := hsig.nearer hBs
                have sbd : decide (b < 0) = true := decide_eq_true hBs
                have rb2 : -9223372036854775807 ≤ b := by omega
                obtain ⟨nr1, nr2⟩ := nr
                have s0 : (s == 0) = false := by rw [beq_eq_false_iff_ne]; omega
                have sd : decide (s < 0) = false := by simp; omega
                have hbk := HBK.out
                clear HSL HTL hsig k1 k2 k3 k4 k5 k6 k7 k8 k9 k10 hb0 hA hB1 hT hBl
                go_wp2
                all_goals go_ret
                all_goals exact ⟨rfl, hB⟩
            · by_cases hS : s = 0
              · have ta : (a == -9223372036854775808) = true := by simpa using hA
                have tb1 : (b == -1) = false := by simpa using hB1
                have sa : a < 0 := by omega
                have sad : decide (a < 0) = true := decide_eq_true sa
                have t0 : (t != 0) = false := by simpa using hT
                have tr1 : 0 ≤ t := by omega
                have tr2 : t ≤ 0 := by omega
                have tbn : (b != -9223372036854775808) = true := by simpa using hBl
                have nr : t < b ∧ -b < t := hsig.near hBs
                have sbd : decide (b < 0) = false := decide_eq_false (by omega)
                obtain ⟨nr1, nr2⟩ := nr
                have s0 : (s == 0) = true := by simpa using hS
                have hbk := HBK.out
                clear HSL HTL hsig k1 k2 k3 k4 k5 k6 k7 k8 k9 k10 hb0 hA hB1 hT hBl hS
                go_wp2
                all_goals go_ret
                all_goals exact ⟨rfl, hB⟩
              · have hS2 : s < 0 := by omega
                clear hS
                have ta : (a == -9223372036854775808) = true := by simpa using hA
                have tb1 : (b == -1) = false := by simpa using hB1
                have sa : a < 0 := by omega
                have sad : decide (a < 0) = true := decide_eq_true sa
                have t0 : (t != 0) = false := by simpa using hT
                have tr1 : 0 ≤ t := by omega
                have tr2 : t ≤ 0 := by omega
                have tbn : (b != -9223372036854775808) = true := by simpa using hBl
                have nr : t < b ∧ -b < t := hsig.near hBs
                have sbd : decide (b < 0) = false := decide_eq_false (by omega)
                obtain ⟨nr1, nr2⟩ := nr
                have s0 : (s == 0) = false := by rw [beq_eq_false_iff_ne]; omega
                have sd : decide (s < 0) = true := by simp; omega
                have hbk := HBK.out
                clear HSL HTL hsig k1 k2 k3 k4 k5 k6 k7 k8 k9 k10 hb0 hA hB1 hT hBl
                go_wp2
                all_goals go_ret
                all_goals exact ⟨rfl, hB⟩
        · by_cases hBl : b = -9223372036854775808
          · exfalso
            have e := HTL hA hBl
            omega
          · rcases (show b < 0 ∨ 0 < b by omega) with hBs | hBs
            · by_cases hS : s = 0
              · have ta : (a == -9223372036854775808) = true := by simpa using hA
                have tb1 : (b == -1) = false := by simpa using hB1
                have sa : a < 0 := by omega
                have sad : decide (a < 0) = true := decide_eq_true sa
                have t0 : (t != 0) = true := by rw [bne_iff_ne]; omega
                have std : decide (t < 0) = true := by simp; omega
                have tbn : (b != -9223372036854775808) = true := by simpa using hBl
                have nr : t < -b ∧ b < t := hsig.nearer hBs
                have sbd : decide (b < 0) = true := decide_eq_true hBs
                have rb2 : -9223372036854775807 ≤ b := by omega
                obtain ⟨nr1, nr2⟩ := nr
                have s0 : (s == 0) = true := by simpa using hS
                have hbk := HBK.out
                clear HSL HTL hsig k1 k2 k3 k4 k5 k6 k7 k8 k9 k10 hb0 hA hB1 hBl hS
                go_wp2
                all_goals go_ret
                all_goals exact ⟨rfl, hB⟩
              · have hS2 : 0 < s := by omega
                clear hS
                have ta : (a == -9223372036854775808) = true := by simpa using hA
                have tb1 : (b == -1) = false := by simpa using hB1
                have sa : a < 0 := by omega
                have sad : decide (a < 0) = true := decide_eq_true sa
                have t0 : (t != 0) = true := by rw [bne_iff_ne]; omega
                have std : decide (t < 0) = true := by simp; omega
                have tbn : (b != -9223372036854775808) = true := by simpa using hBl
                have nr : t < -b ∧ b < t := hsig.nearer hBs
                have sbd : decide (b < 0) = true := decide_eq_true hBs
                have rb2 : -9223372036854775807 ≤ b := by omega
                obtain ⟨nr1, nr2⟩ := nr
                have s0 : (s == 0) = false := by rw [beq_eq_false_iff_ne]; omega
                have sd : decide (s < 0) = false := by simp; omega
                have hbk := HBK.out
                clear HSL HTL hsig k1 k2 k3 k4 k5 k6 k7 k8 k9 k10 hb0 hA hB1 hBl
                go_wp2
                all_goals go_ret
                all_goals exact ⟨rfl, hB⟩
            · by_cases hS : s = 0
              · have ta : (a == -9223372036854775808) = true := by simpa using hA
                have tb1 : (b == -1) = false := by simpa using hB1
                have sa : a < 0 := by omega
                have sad : decide (a < 0) = true := decide_eq_true sa
                have t0 : (t != 0) = true := by rw [bne_iff_ne]; omega
                have std : decide (t < 0) = true := by simp; omega
                have tbn : (b != -9223372036854775808) = true := by simpa using hBl
                have nr : t < b ∧ -b < t := hsig.near hBs
                have sbd : decide (b < 0) = false := decide_eq_false (by omega)
                obtain ⟨nr1, nr2⟩ := nr
                have s0 : (s == 0) = true := by simpa using hS
                have hbk := HBK.out
                clear HSL HTL hsig k1 k2 k3 k4 k5 k6 k7 k8 k9 k10 hb0 hA hB1 hBl hS
                go_wp2
                all_goals go_ret
                all_goals exact ⟨rfl, hB⟩
              · have hS2 : s < 0 := by omega
                clear hS
                have ta : (a == -9223372036854775808) = true := by simpa using hA
                have tb1 : (b == -1) = false := by simpa using hB1
                have sa : a < 0 := by omega
                have sad : decide (a < 0) = true := decide_eq_true sa
                have t0 : (t != 0) = true := by rw [bne_iff_ne]; omega
                have std : decide (t < 0) = true := by simp; omega
                have tbn : (b != -9223372036854775808) = true := by simpa using hBl
                have nr : t < b ∧ -b < t := hsig.near hBs
                have sbd : decide (b < 0) = false := decide_eq_false (by omega)
                obtain ⟨nr1, nr2⟩ := nr
                have s0 : (s == 0) = false := by rw [beq_eq_false_iff_ne]; omega
                have sd : decide (s < 0) = true := by simp; omega
                have hbk := HBK.out
                clear HSL HTL hsig k1 k2 k3 k4 k5 k6 k7 k8 k9 k10 hb0 hA hB1 hBl
                go_wp2
                all_goals go_ret
                all_goals exact ⟨rfl, hB⟩
    · rcases (show a < 0 ∨ 0 ≤ a by omega) with hAs | hAs
      · rcases (show t = 0 ∨ t < 0 by omega) with hT | hT
        · by_cases hBl : b = -9223372036854775808
          · obtain ⟨e1, e2⟩ := k10 hBl (by omega)
            have hS : s = 0 := e1
            have ta : (a == -9223372036854775808) = false := by simpa using hA
            have sa : a < 0 := by omega
            have sad : decide (a < 0) = true := decide_eq_true sa
            have t0 : (t != 0) = false := by simpa using hT
            have tr1 : 0 ≤ t := by omega
            have tr2 : t ≤ 0 := by omega
            have tbl : (b == -9223372036854775808) = true := by simpa using hBl
            have tbn : (b != -9223372036854775808) = false := by simpa using hBl
            have hw : wrap64 (-b) = b := by rw [hBl]; unfold wrap64; omega
            have sb : b < 0 := by omega
            have tta : (t == a) = true := by simp; omega
            have s0 : (s == 0) = true := by simpa using hS
            have hbk := HBK.out
            clear e1 e2 HSL HTL hsig k1 k2 k3 k4 k5 k6 k7 k8 k9 k10 hb0 hA hAs hT hBl hS
            go_wp2
            all_goals go_ret
            all_goals exact ⟨rfl, hB⟩
          · rcases (show b < 0 ∨ 0 < b by omega) with hBs | hBs
            · by_cases hS : s = 0
              · have ta : (a == -9223372036854775808) = false := by simpa using hA
                have sa : a < 0 := by omega
                have sad : decide (a < 0) = true := decide_eq_true sa
                have t0 : (t != 0) = false := by simpa using hT
                have tr1 : 0 ≤ t := by omega
                have tr2 : t ≤ 0 := by omega
                have tbn : (b != -9223372036854775808) = true := by simpa using hBl
                have nr : t < -b ∧ b < t := hsig.nearer hBs
                have sbd : decide (b < 0) = true := decide_eq_true hBs
                have rb2 : -9223372036854775807 ≤ b := by omega
                obtain ⟨nr1, nr2⟩ := nr
                have s0 : (s == 0) = true := by simpa using hS
                have hbk := HBK.out
                clear HSL HTL hsig k1 k2 k3 k4 k5 k6 k7 k8 k9 k10 hb0 hA hAs hT hBl hS
                go_wp2
                all_goals go_ret
                all_goals exact ⟨rfl, hB⟩
              · have hS2 : 0 < s := by omega
                clear hS
                have ta : (a == -9223372036854775808) = false := by simpa using hA
                have sa : a < 0 := by omega
                have sad : decide (a < 0) = true := decide_eq_true sa
                have t0 : (t != 0) = false := by simpa using hT
                have tr1 : 0 ≤ t := by omega
                have tr2 : t ≤ 0 := by omega
                have tbn : (b != -9223372036854775808) = true := by simpa using hBl
                have nr : t < -b ∧ b < t := hsig.nearer hBs
                have sbd : decide (b < 0) = true := decide_eq_true hBs
                have rb2 : -9223372036854775807 ≤ b := by omega
                obtain ⟨nr1, nr2⟩ := nr
                have s0 : (s == 0) = false := by rw [beq_eq_false_iff_ne]; omega
                have sd : decide (s < 0) = false := by simp; omega
                have hbk := HBK.out
                clear HSL HTL hsig k1 k2 k3 k4 k5 k6 k7 k8 k9 k10 hb0 hA hAs hT hBl
                go_wp2
                all_goals go_ret
                all_goals exact ⟨rfl, hB⟩
            · by_cases hS : s = 0
              · have ta : (a == -9223372036854775808) = false := by simpa using hA
                have sa : a < 0 := by omega
                have sad : decide (a < 0) = true := decide_eq_true sa
                have t0 : (t != 0) = false := by simpa using hT
                have tr1 : 0 ≤ t := by omega
                have tr2 : t ≤ 0 := by omega
                have tbn : (b != -9223372036854775808) = true := by simpa using hBl
                have nr : t < b ∧ -b < t := hsig.near hBs
                have sbd : decide (b < 0) = false := decide_eq_false (by omega)
                obtain ⟨nr1, nr2⟩ := nr
                have s0 : (s == 0) = true := by simpa using hS
                have hbk := HBK.out
                clear HSL HTL hsig k1 k2 k3 k4 k5 k6 k7 k8 k9 k10 hb0 hA hAs hT hBl hS
                go_wp2
                all_goals go_ret
                all_goals exact ⟨rfl, hB⟩
              · have hS2 : s < 0 := by omega
                clear hS
                have ta : (a == -9223372036854775808) = false := by simpa using hA
                have sa : a < 0 := by omega
                have sad : decide (a < 0) = true := decide_eq_true sa
                have t0 : (t != 0) = false := by simpa using hT
                have tr1 : 0 ≤ t := by omega
                have tr2 : t ≤ 0 := by omega
                have tbn : (b != -9223372036854775808) = true := by simpa using hBl
                have nr : t < b ∧ -b < t := hsig.near hBs
                have sbd : decide (b < 0) = false := decide_eq_false (by omega)
                obtain ⟨nr1, nr2⟩ := nr
                have s0 : (s == 0) = false := by rw [beq_eq_false_iff_ne]; omega
                have sd : decide (s < 0) = true := by simp; omega
                have hbk := HBK.out
                clear HSL HTL hsig k1 k2 k3 k4 k5 k6 k7 k8 k9 k10 hb0 hA hAs hT hBl
                go_wp2
                all_goals go_ret
                all_goals exact ⟨rfl, hB⟩
        · by_cases hBl : b = -9223372036854775808
          · obtain ⟨e1, e2⟩ := k10 hBl (by omega)
            have hS : s = 0 := e1
            have ta : (a == -9223372036854775808) = false := by simpa using hA
            have sa : a < 0 := by omega
            have sad : decide (a < 0) = true := decide_eq_true sa
            have t0 : (t != 0) = true := by rw [bne_iff_ne]; omega
            have std : decide (t < 0) = true := by simp; omega
            have tbl : (b == -9223372036854775808) = true := by simpa using hBl
            have tbn : (b != -9223372036854775808) = false := by simpa using hBl
            have hw : wrap64 (-b) = b := by rw [hBl]; unfold wrap64; omega
            have sb : b < 0 := by omega
            have tta : (t == a) = true := by simp; omega
            have s0 : (s == 0) = true := by simpa using hS
            have hbk := HBK.out
            clear e1 e2 HSL HTL hsig k1 k2 k3 k4 k5 k6 k7 k8 k9 k10 hb0 hA hAs hBl hS
            go_wp2
            all_goals go_ret
            all_goals exact ⟨rfl, hB⟩
          · rcases (show b < 0 ∨ 0 < b by omega) with hBs | hBs
            · by_cases hS : s = 0
              · have ta : (a == -9223372036854775808) = false := by simpa using hA
                have sa : a < 0 := by omega
                have sad : decide (a < 0) = true := decide_eq_true sa
                have t0 : (t != 0) = true := by rw [bne_iff_ne]; omega
                have std : decide (t < 0) = true := by simp; omega
                have tbn : (b != -9223372036854775808) = true := by simpa using hBl
                have nr : t < -b ∧ b < t := hsig.nearer hBs
                have sbd : decide (b < 0) = true := decide_eq_true hBs
                have rb2 : -9223372036854775807 ≤ b := by omega
                obtain ⟨nr1, nr2⟩ := nr
                have s0 : (s == 0) = true := by simpa using hS
                have hbk := HBK.out
                clear HSL HTL hsig k1 k2 k3 k4 k5 k6 k7 k8 k9 k10 hb0 hA hAs hBl hS
                go_wp2
                all_goals go_ret
                all_goals exact ⟨rfl, hB⟩
              · have hS2 : 0 < s := by omega
                clear hS
                have ta : (a == -9223372036854775808) = false := by simpa using hA
                have sa : a < 0 := by omega
                have sad : decide (a < 0) = true := decide_eq_true sa
                have t0 : (t != 0) = true := by rw [bne_iff_ne]; omega
                have std : decide (t < 0) = true := by simp; omega
                have tbn : (b != -9223372036854775808) = true := by simpa using hBl
                have nr : t < -b ∧ b < t := hsig.nearer hBs
                have sbd : decide (b < 0) = true := decide_eq_true hBs
                have rb2 : -9223372036854775807 ≤ b := by omega
                obtain ⟨nr1, nr2⟩ := nr
                have s0 : (s == 0) = false := by rw [beq_eq_false_iff_ne]; omega
                have sd : decide (s < 0) = false := by simp; omega
                have hbk := HBK.out
                clear HSL HTL hsig k1 k2 k3 k4 k5 k6 k7 k8 k9 k10 hb0 hA hAs hBl
                go_wp2
                all_goals go_ret
                all_goals exact ⟨rfl, hB⟩
            · by_cases hS : s = 0
              · have ta : (a == -9223372036854775808) = false := by simpa using hA
                have sa : a < 0 := by omega
                have sad : decide (a < 0) = true := decide_eq_true sa
                have t0 : (t != 0) = true := by rw [bne_iff_ne]; omega
                have std : decide (t < 0) = true := by simp; omega
                have tbn : (b != -9223372036854775808) = true := by simpa using hBl
                have nr : t < b ∧ -b < t := hsig.near hBs
                have sbd : decide (b < 0) = false := decide_eq_false (by omega)
                obtain ⟨nr1, nr2⟩ := nr
                have s0 : (s == 0) = true := by simpa using hS
                have hbk := HBK.out
                clear HSL HTL hsig k1 k2 k3 k4 k5 k6 k7 k8 k9 k10 hb0 hA hAs hBl hS
                go_wp2
                all_goals go_ret
                all_goals exact ⟨rfl, hB⟩
              · have hS2 : s < 0 := by omega
                clear hS
                have ta : (a == -9223372036854775808) = false := by simpa using hA
                have sa : a < 0 := by omega
                have sad : decide (a < 0) = true := decide_eq_true sa
                have t0 : (t != 0) = true := by rw [bne_iff_ne]; omega
                have std : decide (t < 0) = true := by simp; omega
                have tbn : (b != -9223372036854775808) = true := by simpa using hBl
                have nr : t < b ∧ -b < t := hsig.near hBs
                have sbd : decide (b < 0) = false := decide_eq_false (by omega)
                obtain ⟨nr1, nr2⟩ := nr
                have s0 : (s == 0) = false := by rw [beq_eq_false_iff_ne]; omega
                have sd : decide (s < 0) = true := by simp; omega
                have hbk := HBK.out
                clear HSL HTL hsig k1 k2 k3 k4 k5 k6 k7 k8 k9 k10 hb0 hA hAs hBl
                go_wp2
                all_goals go_ret
                all_goals exact ⟨rfl, hB⟩
      · rcases (show t = 0 ∨ 0 < t by omega) with hT | hT
        · by_cases hBl : b = -9223372036854775808
          · obtain ⟨e1, e2⟩ := k10 hBl (by omega)
            have hS : s = 0 := e1
            have ta : (a == -9223372036854775808) = false := by simpa using hA
            have sa : 0 ≤ a := by omega
            have sad : decide (a < 0) = false := decide_eq_false (by omega)
            have t0 : (t != 0) = false := by simpa using hT
            have tr1 : 0 ≤ t := by omega
            have tr2 : t ≤ 0 := by omega
            have tbl : (b == -9223372036854775808) = true := by simpa using hBl
            have tbn : (b != -9223372036854775808) = false := by simpa using hBl
            have hw : wrap64 (-b) = b := by rw [hBl]; unfold wrap64; omega
            have sb : b < 0 := by omega
            have tta : (t == a) = true := by simp; omega
            have s0 : (s == 0) = true := by simpa using hS
            have hbk := HBK.out
            clear e1 e2 HSL HTL hsig k1 k2 k3 k4 k5 k6 k7 k8 k9 k10 hb0 hA hAs hT hBl hS
            go_wp2
            all_goals go_ret
            all_goals exact ⟨rfl, hB⟩
          · rcases (show b < 0 ∨ 0 < b by omega) with hBs | hBs
            · by_cases hS : s = 0
              · have ta : (a == -9223372036854775808) = false := by simpa using hA
                have sa : 0 ≤ a := by omega
                have sad : decide (a < 0) = false := decide_eq_false (by omega)
                have t0 : (t != 0) = false := by simpa using hT
                have tr1 : 0 ≤ t := by omega
                have tr2 : t ≤ 0 := by omega
                have tbn : (b != -9223372036854775808) = true := by simpa using hBl
                have nr : t < -b ∧ b < t := hsig.nearer hBs
                have sbd : decide (b < 0) = true := decide_eq_true hBs
                have rb2 : -9223372036854775807 ≤ b := by omega
                obtain ⟨nr1, nr2⟩ := nr
                have s0 : (s == 0) = true := by simpa using hS
                have hbk := HBK.out
                clear HSL HTL hsig k1 k2 k3 k4 k5 k6 k7 k8 k9 k10 hb0 hA hAs hT hBl hS
                go_wp2
                all_goals go_ret
                all_goals exact ⟨rfl, hB⟩
              · have hS2 : s < 0 := by omega
                clear hS
                have ta : (a == -9223372036854775808) = false := by simpa using hA
                have sa : 0 ≤ a := by omega
                have sad : decide (a < 0) = false := decide_eq_false (by omega)
                have t0 : (t != 0) = false := by simpa using hT
                have tr1 : 0 ≤ t := by omega
                have tr2 : t ≤ 0 := by omega
                have tbn : (b != -9223372036854775808) = true := by simpa using hBl
                have nr : t < -b ∧ b < t := hsig.nearer hBs
                have sbd : decide (b < 0) = true := decide_eq_true hBs
                have rb2 : -9223372036854775807 ≤ b := by omega
                obtain ⟨nr1, nr2⟩ := nr
                have s0 : (s == 0) = false := by rw [beq_eq_false_iff_ne]; omega
                have sd : decide (s < 0) = true := by simp; omega
                have hbk := HBK.out
                clear HSL HTL hsig k1 k2 k3 k4 k5 k6 k7 k8 k9 k10 hb0 hA hAs hT hBl
                go_wp2
                all_goals go_ret
                all_goals exact ⟨rfl, hB⟩
            · by_cases hS : s = 0
              · have ta : (a == -9223372036854775808) = false := by simpa using hA
                have sa : 0 ≤ a := by omega
                have sad : decide (a < 0) = false := decide_eq_false (by omega)
                have t0 : (t != 0) = false := by simpa using hT
                have tr1 : 0 ≤ t := by omega
                have tr2 : t ≤ 0 := by omega
                have tbn : (b != -9223372036854775808) = true := by simpa using hBl
                have nr : t < b ∧ -b < t := hsig.near hBs
                have sbd : decide (b < 0) = false := decide_eq_false (by omega)
                obtain ⟨nr1, nr2⟩ := nr
                have s0 : (s == 0) = true := by simpa using hS
                have hbk := HBK.out
                clear HSL HTL hsig k1 k2 k3 k4 k5 k6 k7 k8 k9 k10 hb0 hA hAs hT hBl hS
                go_wp2
                all_goals go_ret
                all_goals exact ⟨rfl, hB⟩
              · have hS2 : 0 < s := by omega
                clear hS
                have ta : (a == -9223372036854775808) = false := by simpa using hA
                have sa : 0 ≤ a := by omega
                have sad : decide (a < 0) = false := decide_eq_false (by omega)
                have t0 : (t != 0) = false := by simpa using hT
                have tr1 : 0 ≤ t := by omega
                have tr2 : t ≤ 0 := by omega
                have tbn : (b != -9223372036854775808) = true := by simpa using hBl
                have nr : t < b ∧ -b < t := hsig.near hBs
                have sbd : decide (b < 0) = false := decide_eq_false (by omega)
                obtain ⟨nr1, nr2⟩ := nr
                have s0 : (s == 0) = false := by rw [beq_eq_false_iff_ne]; omega
                have sd : decide (s < 0) = false := by simp; omega
                have hbk := HBK.out
                clear HSL HTL hsig k1 k2 k3 k4 k5 k6 k7 k8 k9 k10 hb0 hA hAs hT hBl
                go_wp2
                all_goals go_ret
                all_goals exact ⟨rfl, hB⟩
        · by_cases hBl : b = -9223372036854775808
          · obtain ⟨e1, e2⟩ := k10 hBl (by omega)
            have hS : s = 0 := e1
            have ta : (a == -9223372036854775808) = false := by simpa using hA
            have sa : 0 ≤ a := by omega
            have sad : decide (a < 0) = false := decide_eq_false (by omega)
            have t0 : (t != 0) = true := by rw [bne_iff_ne]; omega
            have std : decide (t < 0) = false := by simp; omega
            have tbl : (b == -9223372036854775808) = true := by simpa using hBl
            have tbn : (b != -9223372036854775808) = false := by simpa using hBl
            have hw : wrap64 (-b) = b := by rw [hBl]; unfold wrap64; omega
            have sb : b < 0 := by omega
            have tta : (t == a) = true := by simp; omega
            have s0 : (s == 0) = true := by simpa using hS
            have hbk := HBK.out
            clear e1 e2 HSL HTL hsig k1 k2 k3 k4 k5 k6 k7 k8 k9 k10 hb0 hA hAs hBl hS
            go_wp2
            all_goals go_ret
            all_goals exact ⟨rfl, hB⟩
          · rcases (show b < 0 ∨ 0 < b by omega) with hBs | hBs
            · by_cases hS : s = 0
              · have ta : (a == -9223372036854775808) = false := by simpa using hA
                have sa : 0 ≤ a := by omega
                have sad : decide (a < 0) = false := decide_eq_false (by omega)
                have t0 : (t != 0) = true := by rw [bne_iff_ne]; omega
                have std : decide (t < 0) = false := by simp; omega
                have tbn : (b != -9223372036854775808) = true := by simpa using hBl
                have nr : t < -b ∧ b < t := hsig.nearer hBs
                have sbd : decide (b < 0) = true := decide_eq_true hBs
                have rb2 : -9223372036854775807 ≤ b := by omega
                obtain ⟨nr1, nr2⟩ := nr
                have s0 : (s == 0) = true := by simpa using hS
                have hbk := HBK.out
                clear HSL HTL hsig k1 k2 k3 k4 k5 k6 k7 k8 k9 k10 hb0 hA hAs hBl hS
                go_wp2
                all_goals go_ret
                all_goals exact ⟨rfl, hB⟩
              · have hS2 : s < 0 := by omega
                clear hS
                have ta : (a == -9223372036854775808) = false := by simpa using hA
                have sa : 0 ≤ a := by omega
                have sad : decide (a < 0) = false := decide_eq_false (by omega)
                have t0 : (t != 0) = true := by rw [bne_iff_ne]; omega
                have std : decide (t < 0) = false := by simp; omega
                have tbn : (b != -9223372036854775808) = true := by simpa using hBl
                have nr : t < -b ∧ b < t := hsig.nearer hBs
                have sbd : decide (b < 0) = true := decide_eq_true hBs
                have rb2 : -9223372036854775807 ≤ b := by omega
                obtain ⟨nr1, nr2⟩ := nr
                have s0 : (s == 0) = false := by rw [beq_eq_false_iff_ne]; omega
                have sd : decide (s < 0) = true := by simp; omega
                have hbk := HBK.out
                clear HSL HTL hsig k1 k2 k3 k4 k5 k6 k7 k8 k9 k10 hb0 hA hAs hBl
                go_wp2
                all_goals go_ret
                all_goals exact ⟨rfl, hB⟩
            · by_cases hS : s = 0
              · have ta : (a == -9223372036854775808) = false := by simpa using hA
                have sa : 0 ≤ a := by omega
                have sad : decide (a < 0) = false := decide_eq_false (by omega)
                have t0 : (t != 0) = true := by rw [bne_iff_ne]; omega
                have std : decide (t < 0) = false := by simp; omega
                have tbn : (b != -9223372036854775808) = true := by simpa using hBl
                have nr : t < b ∧ -b < t := hsig.near hBs
                have sbd : decide (b < 0) = false := decide_eq_false (by omega)
                obtain ⟨nr1, nr2⟩ := nr
                have s0 : (s == 0) = true := by simpa using hS
                have hbk := HBK.out
                clear HSL HTL hsig k1 k2 k3 k4 k5 k6 k7 k8 k9 k10 hb0 hA hAs hBl hS
                go_wp2
                all_goals go_ret
                all_goals exact ⟨rfl, hB⟩
              · have hS2 : 0 < s := by omega
                clear hS
                have ta : (a == -9223372036854775808) = false := by simpa using hA
                have sa : 0 ≤ a := by omega
                have sad : decide (a < 0) = false := decide_eq_false (by omega)
                have t0 : (t != 0) = true := by rw [bne_iff_ne]; omega
                have std : decide (t < 0) = false := by simp; omega
                have tbn : (b != -9223372036854775808) = true := by simpa using hBl
                have nr : t < b ∧ -b < t := hsig.near hBs
                have sbd : decide (b < 0) = false := decide_eq_false (by omega)
                obtain ⟨nr1, nr2⟩ := nr
                have s0 : (s == 0) = false := by rw [beq_eq_false_iff_ne]; omega
                have sd : decide (s < 0) = false := by simp; omega
                have hbk := HBK.out
                clear HSL HTL hsig k1 k2 k3 k4 k5 k6 k7 k8 k9 k10 hb0 hA hAs hBl
                go_wp2
                all_goals go_ret
                all_goals exact ⟨rfl, hB⟩

theorem own : ownKnob Try.prog.godebug = none := by kernel_rfl
set_option maxRecDepth 100000 in
theorem lifted (os : Os) (started : os.Started) (H : Type) (enc : TypeId × Value → H) :
    ReturnsInHanded {} Try.checked os 11 .any (Rows.wordDividesSpec.pre6 enc Try.prog Try.f11 Rows.wordDividesRow.domain false) (Rows.wordDividesSpec.post enc Try.prog Try.f11 false true false false) := by
  refine returnsInHanded_of_change (C := Try.checked) own started (by kernel_rfl) Try.func11
    (ChangeSpec.witness6 (enc := enc) (C := Try.checked) false ⟨#[], #[.int .i64 0, .int .i64 0], []⟩ 8 (by kernel_rfl) (by kernel_rfl) (by kernel_rfl) (by kernel_rfl)) ?_
  intro W base args ds gs before hval0 hW hcnd _
  have hval : ∀ (j : Nat) t v, Try.f11.params[j]? = some t → args[j]? = some v → Value.okWide Try.prog W .any base t v := hval0
  have hW' := hW
  obtain ⟨p, q, hA0, hV, rfl, hfz, hnd⟩ := hW
  have hA : DataW.TrodAll enc Try.prog W 0 (fun _ => true) true Try.f11.params.toList args.toList ds p := hA0
  rw [Try.params11] at hA hval
  obtain ⟨v0, vs0, d0, ds0, p0, q0, hargs, rfl, rfl, h0, r0⟩ := trodAll_cons hA
  obtain ⟨v1, vs1, d1, ds1, p1, q1, rfl, rfl, rfl, h1, r1⟩ := trodAll_cons r0
  obtain ⟨rfl, rfl, rfl⟩ := trodAll_nil r1
  obtain rfl : args = #[v0, v1] := by cases args; simp_all
  obtain ⟨a0, rfl, rfl, rfl, w0⟩ := open_int Try.underlying3 (hval 0 3 v0 rfl rfl) h0
  obtain ⟨a1, rfl, rfl, rfl, w1⟩ := open_int Try.underlying3 (hval 1 3 v1 rfl rfl) h1
  refine (walk a0 (range_i64 w0) a1 (range_i64 w1) W).mono fun e W' ⟨he, hb⟩ => ?_
  subst he
  exact ⟨_, rfl, law_post (tb := 4) (by kernel_rfl) (by kernel_rfl) rfl Try.underlying4 rfl (fun h => by subst h; rfl) hW' hb⟩

theorem proved : Rows.WordDividesSaid :=
  OpenClaim.holds_of_wide 11 Try.f11 rfl rfl rfl rfl rfl rfl rfl ⟨rfl, rfl, rfl, rfl, rfl⟩ rfl rfl rfl rfl rfl (by kernel_rfl) Try.func11 (by kernel_rfl)
    (of_decide_eq_true (by kernel_rfl)) (by unfold Func.isWrapper; first | (rw [if_pos (by decide +kernel)]; kernel_rfl) | (rw [if_neg (by decide +kernel)]; exact ⟨rfl, rfl⟩))
    (fun os started H enc _ => lifted os started H enc)
#print axioms proved

end Go.Proofs.Ytcmpohippbjpcaa.wordDivides
