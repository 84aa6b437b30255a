/-
  Spans: the reference's Low, NotZero, whole.
-/
import Derived.Test.YtcmplcdbkoodpaaGreatDoorSpanO
namespace Go.Proofs.YtcmplcdbkoodpaaGreatDoor
open Go.RowKit
set_option linter.unusedVariables false

theorem rlow_of (lo hi : Int) (p q : Bool) (w : World) : Calls Tryz.prog 55 #[.agg #[.int .i64 lo, .int .i64 hi, .bool p, .bool q]] w (Ret w (lowv lo hi p q)) := by
  have hrd := fun w => rends_of lo hi p q w
  unfold endv at hrd
  have hle := ends_le lo hi p q
  have hr := ends_rng lo hi p q
  unfold lowv
  by_cases h0 : 0 ≤ elo lo hi p q ∧ ehi lo hi p q ≤ 4294967295
  · have e1 : llo (elo lo hi p q) (ehi lo hi p q) = elo lo hi p q := by unfold llo; rw [if_pos h0]
    have e2 : lhi (elo lo hi p q) (ehi lo hi p q) = ehi lo hi p q := by unfold lhi; rw [if_pos h0]
    rw [e1, e2, ← read_low lo hi p q h0.1 h0.2]
    exact rlow_in lo hi p q _ _ _ _ _ _ h0.1 h0.2 hrd w (fun w => rread_of lo hi p q w)
  · obtain ⟨E, hE⟩ : ∃ E, elo lo hi p q = E := ⟨_, rfl⟩
    obtain ⟨F, hF⟩ : ∃ F, ehi lo hi p q = F := ⟨_, rfl⟩
    rw [hE, hF] at hrd hle hr h0 ⊢
    have hg : decide (0 ≤ E) = false ∨ decide (0 ≤ E) = true ∧ decide (F ≤ 4294967295) = false := by
      simp only [decide_eq_false_iff_not, decide_eq_true_eq]
      omega
    by_cases h1 : E / 4294967296 = F / 4294967296
    · have e1 : llo E F = E % 4294967296 := by unfold llo; rw [if_neg h0, if_pos h1]
      have e2 : lhi E F = F % 4294967296 := by unfold lhi; rw [if_neg h0, if_pos h1]
      rw [e1, e2]
      have hs := fun w => rspan_of (E % 4294967296) (F % 4294967296) (by omega) (by omega) (by omega) w
      obtain ⟨A, B, P, Q, ho⟩ := ofs_form (E % 4294967296) (F % 4294967296)
      rw [ho] at hs ⊢
      exact rlow_half lo hi p q E F A B P Q hg (by simpa using h1) _ _ (half_and E) (half_and F) hrd w hs
    · have e1 : llo E F = 0 := by unfold llo; rw [if_neg h0, if_neg h1]
      have e2 : lhi E F = 4294967295 := by unfold lhi; rw [if_neg h0, if_neg h1]
      rw [e1, e2]
      have hs := fun w => rspan_of 0 4294967295 (by decide) (by decide) (by decide) w
      obtain ⟨A, B, P, Q, ho⟩ := ofs_form 0 4294967295
      rw [ho] at hs ⊢
      exact rlow_wide lo hi p q E F A B P Q hg (by simpa using h1) hrd w hs

/-- The ends of the low halves. -/
theorem low_rng (E F : Int) (h : E ≤ F) : 0 ≤ llo E F ∧ llo E F ≤ lhi E F ∧ lhi E F ≤ 4294967295 := by
  unfold llo lhi
  by_cases h0 : 0 ≤ E ∧ F ≤ 4294967295
  · rw [if_pos h0, if_pos h0]; omega
  · rw [if_neg h0, if_neg h0]
    by_cases h1 : E / 4294967296 = F / 4294967296
    · rw [if_pos h1, if_pos h1]; omega
    · rw [if_neg h1, if_neg h1]; decide
theorem ofs_low (L H : Int) (h : 0 ≤ L ∧ L ≤ H ∧ H ≤ 4294967295) : ofs L H = .agg #[.int .i64 L, .int .i64 H, .bool false, .bool false] := by
  unfold ofs oflo ofhi
  rw [if_neg (by omega), if_neg (by omega), if_neg (by omega), if_neg (by omega), if_neg (by omega)]
  rw [show decide (L < -1152921504606846976) = false by simp; omega, show decide (1152921504606846976 < H) = false by simp; omega]
theorem ends_low (L H : Int) (h : 0 ≤ L ∧ L ≤ H ∧ H ≤ 4294967295) : endv L H false false = .agg #[.int .i64 L, .int .i64 H] := by
  rw [endv_ok ((snd_ff L H).2 (by omega))]
  rfl

set_option maxRecDepth 100000 in
theorem run_rfield0 (C D : Int) (w : World) : Sem.run Tryz.prog (Instr.field 66 (.agg #[.int .i64 C, .int .i64 D]) 0) w = .ok (.int .i64 C) w := rfl
end Go.Proofs.YtcmplcdbkoodpaaGreatDoor
