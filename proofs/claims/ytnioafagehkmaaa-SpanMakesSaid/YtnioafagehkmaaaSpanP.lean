/-
  Spans: the reference's Low, NotZero, whole.
-/
import Derived.Test.YtnioafagehkmaaaSpanO
namespace Go.Proofs.Ytnioafagehkmaaa
open Go.RowKit
set_option linter.unusedVariables false

theorem rlow_of (lo hi : Int) (p q : Bool) (w : World) : Calls Try.prog 11 #[.agg #[.int .i64 lo, .int .i64 hi, .bool p, .bool q]] w (Ret w (lowv lo hi p q)) := by
  have hrd := fun w => rends_of lo hi p q w
  unfold endv at hrd
  have hle := ends_le lo hi p q
  have hr := ends_rng lo hi p q
  unfold lowv
  by_cases h0 : 0 ≤ elo lo hi p q ∧ ehi lo hi p q ≤ 4294967295
  · have e1 : llo (elo lo hi p q) (ehi lo hi p q) = elo lo hi p q := by unfold llo; rw [if_pos h0]
    have e2 : lhi (elo lo hi p q) (ehi lo hi p q) = ehi lo hi p q := by unfold lhi; rw [if_pos h0]
    rw [e1, e2, ← read_low lo hi p q h0.1 h0.2]
    exact rlow_in lo hi p q _ _ _ _ _ _ h0.1 h0.2 hrd w (fun w => rread_of lo hi p q w)
  · obtain ⟨E, hE⟩ : ∃ E, elo lo hi p q = E := ⟨_, rfl⟩
    obtain ⟨F, hF⟩ : ∃ F, ehi lo hi p q = F := ⟨_, rfl⟩
    rw [hE, hF] at hrd hle hr h0 ⊢
    have hg : decide (0 ≤ E) = false ∨ decide (0 ≤ E) = true ∧ decide (F ≤ 4294967295) = false := by
      simp only [decide_eq_false_iff_not, decide_eq_true_eq]
      omega
    by_cases h1 : E / 4294967296 = F / 4294967296
    · have e1 : llo E F = E % 4294967296 := by unfold llo; rw [if_neg h0, if_pos h1]
      have e2 : lhi E F = F % 4294967296 := by unfold lhi; rw [if_neg h0, if_pos h1]
      rw [e1, e2]
      have hs := fun w => rspan_of (E % 4294967296) (F % 4294967296) (by omega) (by omega) (by omega) w
      obtain ⟨A, B, P, Q, ho⟩ := ofs_form (E % 4294967296) (F % 4294967296)
      rw [ho] at hs ⊢
      exact rlow_half lo hi p q E F A B P Q hg (by simpa using h1) _ _ (half_and E) (half_and F) hrd w hs
    · have e1 : llo E F = 0 := by unfold llo; rw [if_neg h0, if_neg h1]
      have e2 : lhi E F = 4294967295 := by unfold lhi; rw [if_neg h0, if_neg h1]
      rw [e1, e2]
      have hs := fun w => rspan_of 0 4294967295 (by decide) (by decide) (by decide) w
      obtain ⟨A, B, P, Q, ho⟩ := ofs_form 0 4294967295
      rw [ho] at hs ⊢
      exact rlow_wide lo hi p q E F A B P Q hg (by simpa using h1) hrd w hs

/-- The ends of the low halves. -/
theorem low_rng (E F : Int) (h : E ≤ F) : 0 ≤ llo E F ∧ llo E F ≤ lhi E F ∧ lhi E F ≤ 4294967295 := by
  unfold llo lhi
  by_cases h0 : 0 ≤ E ∧ F ≤ 4294967295
  · rw [if_pos h0, if_pos h0]; omega
  · rw [if_neg h0, if_neg h0]
    by_cases h1 : E / 4294967296 = F / 4294967296
    · rw [if_pos h1, if_pos h1]; omega
    · rw [if_neg h1, if_neg h1]; decide
theorem ofs_low (L H : Int) (h : 0 ≤ L ∧ L ≤ H ∧ H ≤ 4294967295) : ofs L H = .agg #[.int .i64 L, .int .i64 H, .bool false, .bool false] := by
  unfold ofs oflo ofhi
  rw [if_neg (by omega), if_neg (by omega), if_neg (by omega), if_neg (by omega), if_neg (by omega)]
  rw [show decide (L < -1152921504606846976) = false by simp; omega, show decide (1152921504606846976 < H) = false by simp; omega]
theorem ends_low (L H : Int) (h : 0 ≤ L ∧ L ≤ H ∧ H ≤ 4294967295) : endv L H false false = .agg #[.int .i64 L, .int .i64 H] := by
  rw [endv_ok ((snd_ff L H).2 (by omega))]
  rfl

set_option maxRecDepth 100000 in
theorem run_rfield0 (C D : Int) (w : World) : Sem.run Try.prog (Instr.field 35 (.agg #[.int .i64 C, .int .i64 D]) 0) w = .ok (.int .i64 C) w := rfl
set_option maxRecDepth 100000 in
set_option maxHeartbeats 1600000 in
theorem rnotzero_of (na : Bool) (lo hi : Int) (p q : Bool) (w : World) : Calls Try.prog 13 #[.bool na, .agg #[.int .i64 lo, .int .i64 hi, .bool p, .bool q]] w (Ret w (.bool (nzv na (elo lo hi p q) (ehi lo hi p q)))) := by
  have hrd := fun w => rends_of lo hi p q w
  have hlw := fun w => rlow_of lo hi p q w
  unfold endv at hrd
  unfold lowv at hlw
  have hg := low_rng _ _ (ends_le lo hi p q)
  obtain ⟨E, hE⟩ : ∃ E, E = elo lo hi p q := ⟨_, rfl⟩
  obtain ⟨F, hF⟩ : ∃ F, F = ehi lo hi p q := ⟨_, rfl⟩
  rw [← hE, ← hF] at hrd hlw hg ⊢
  rw [ofs_low _ _ hg] at hlw
  have hre := fun w => rends_of (llo E F) (lhi E F) false false w
  rw [ends_low _ _ hg] at hre
  have HRD := Lib.hid hrd
  have HLW := Lib.hid hlw
  have HRE := Lib.hid hre
  have hBa := (Below.refl w.heap.size w).alloc (Nat.le_refl _) (.cells #[.int .i64 lo, .int .i64 hi, .bool p, .bool q] 23)
  have HBA := Lib.hid hBa
  clear hrd hlw hre hE hF hBa hg
  cases na
  · have HV := Lib.hid (show nzv false E F = (decide (0 < E) || decide (F < 0)) from rfl)
    obtain ⟨d1, h1⟩ : ∃ d, decide (0 < E) = d := ⟨_, rfl⟩
    obtain ⟨d2, h2⟩ : ∃ d, decide (F < 0) = d := ⟨_, rfl⟩
    rw [HV.out, h1, h2]
    clear HV
    cases d1
    all_goals cases d2
    all_goals
      go_enter Try.func13, Try.ntmps13
      go_wp2_with fail
      refine (HRD.out _).mono ?_
      rintro e w1 ⟨rfl, hB⟩
      have hB1 := HBA.out.trans (hB.mono HBA.out.size)
      have HB2 := Lib.hid (hB1.alloc hB1.size (.cells #[.int .i64 E, .int .i64 F] 35))
      clear hB hB1
      go_wp2
      go_ret
      exact ⟨rfl, HB2.out⟩
  · have HV := Lib.hid (show nzv true E F = decide (0 < llo E F) from rfl)
    rw [HV.out]
    obtain ⟨C, hC⟩ : ∃ C, C = llo E F := ⟨_, rfl⟩
    obtain ⟨D, hD⟩ : ∃ D, D = lhi E F := ⟨_, rfl⟩
    rw [← hC, ← hD] at HLW HRE
    rw [← hC]
    clear HV hC hD
    go_enter Try.func13, Try.ntmps13
    go_wp2_with fail
    refine (HLW.out _).mono ?_
    rintro e w1 ⟨rfl, hB⟩
    have HB1 := Lib.hid (HBA.out.trans (hB.mono HBA.out.size))
    clear hB
    go_wp2_with fail
    refine (HRE.out _).mono ?_
    rintro e w2 ⟨rfl, hB⟩
    have HB3 := Lib.hid (HB1.out.trans (hB.mono HB1.out.size))
    clear hB
    have hfl := run_rfield0 C D w2
    go_wp2
    go_ret
    exact ⟨rfl, HB3.out⟩
end Go.Proofs.Ytnioafagehkmaaa
