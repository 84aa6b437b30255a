/-
  Spans: a number brought into a span.
-/
import Derived.Test.YtcmplcdbkoodpaaGreatDoorSpanP
import Derived.Lib.SmallJoins
namespace Go.Proofs.YtcmplcdbkoodpaaGreatDoor
open Go.RowKit
set_option linter.unusedVariables false
set_option linter.unusedSimpArgs false

theorem lsound_of (lo hi : Int) (p q : Bool) (w : World) : Calls Tryz.prog 18 #[.agg #[.int .i64 lo, .int .i64 hi, .bool p, .bool q]] w (Ret w (.bool (decide (Snd lo hi p q)))) := by
  have hso := fun w => sound_of lo hi p q w
  generalize decide (Snd lo hi p q) = d at hso ⊢
  have HSO := Lib.hid hso
  have HB0 := Lib.hid ((Below.refl w.heap.size w).alloc (Nat.le_refl _) (.cells #[.int .i64 lo, .int .i64 hi, .bool p, .bool q] 23))
  clear hso
  go_enter Tryz.func18, Tryz.ntmps18
  go_wp2_with fail
  refine (HSO.out _).mono ?_
  rintro e w1 ⟨rfl, hB⟩
  have HB1 := Lib.hid (HB0.out.trans (hB.mono HB0.out.size))
  clear hB
  go_wp2
  go_ret
  exact ⟨rfl, HB1.out⟩
/-- A number brought into a span. -/
def insv (lo hi : Int) (p q : Bool) (x : Int) : Int :=
  if Snd lo hi p q then (if q then (if p then x else if x < lo then lo else x) else if hi < (if p then x else if x < lo then lo else x) then hi else (if p then x else if x < lo then lo else x)) else x
theorem insv_in (lo hi : Int) (p q : Bool) (x : Int) (hx : -9223372036854775808 ≤ x ∧ x ≤ 9223372036854775807) : elo lo hi p q ≤ insv lo hi p q x ∧ insv lo hi p q x ≤ ehi lo hi p q := by
  unfold elo ehi insv
  by_cases h : Snd lo hi p q
  · simp only [if_pos h]
    obtain ⟨_, _, a, b, c, d, e⟩ := h
    cases p <;> cases q <;> simp only [Bool.false_eq_true, if_false, if_true] <;> (try have e' := e rfl rfl) <;> (try split) <;> (try split) <;> omega
  · simp only [if_neg h]; omega
theorem insv_rng (lo hi : Int) (p q : Bool) (x : Int) (hx : -9223372036854775808 ≤ x ∧ x ≤ 9223372036854775807) : -9223372036854775808 ≤ insv lo hi p q x ∧ insv lo hi p q x ≤ 9223372036854775807 := by
  have h1 := insv_in lo hi p q x hx
  have h2 := ends_rng lo hi p q
  omega
set_option maxRecDepth 100000 in
set_option maxHeartbeats 1600000 in
theorem inside_of (lo hi : Int) (p q : Bool) (x : Int) (w : World) : Calls Tryz.prog 15 #[.agg #[.int .i64 lo, .int .i64 hi, .bool p, .bool q], .int .i64 x] w (Ret w (.int .i64 (insv lo hi p q x))) := by
  have hso := fun w => lsound_of lo hi p q w
  have HR0 := Lib.hid (Row.made w (spc lo hi p q) 23)
  have HB0 := Lib.hid ((Below.refl w.heap.size w).alloc (Nat.le_refl _) (.cells #[.int .i64 lo, .int .i64 hi, .bool p, .bool q] 23))
  by_cases hs : Snd lo hi p q
  · rw [show decide (Snd lo hi p q) = true by simpa using hs] at hso
    have HSO := Lib.hid hso
    obtain ⟨d1, h1⟩ : ∃ d, decide (x < lo) = d := ⟨_, rfl⟩
    obtain ⟨d2, h2⟩ : ∃ d, decide (hi < x) = d := ⟨_, rfl⟩
    obtain ⟨d3, h3⟩ : ∃ d, decide (hi < lo) = d := ⟨_, rfl⟩
    have HV := Lib.hid (show insv lo hi p q x = (if q then (if p then x else bif d1 then lo else x) else bif (bif p then d2 else bif d1 then d3 else d2) then hi else (if p then x else bif d1 then lo else x)) by
      unfold insv
      rw [if_pos hs]
      cases p <;> cases q <;> cases d1 <;> cases d2 <;> cases d3 <;> simp at h1 h2 h3 <;> simp [h1, h2, h3] <;> omega)
    rw [HV.out]
    clear hso hs HV
    cases p
    all_goals cases q
    all_goals cases d1
    all_goals cases d2
    all_goals cases d3
    all_goals
      go_enter Tryz.func15, Tryz.ntmps15
      go_wp2_with fail
      refine (HSO.out _).mono ?_
      rintro e w1 ⟨rfl, hB⟩
      have hr := HR0.out.below hB HR0.out.lt
      obtain ⟨⟨c0, c1, c2, c3⟩, _⟩ := spc_row hr
      have HB1 := Lib.hid (HB0.out.trans (hB.mono HB0.out.size))
      clear hB hr
      go_wp2
      go_ret
      exact ⟨rfl, HB1.out⟩
  · rw [show decide (Snd lo hi p q) = false by simpa using hs] at hso
    have HSO := Lib.hid hso
    have HV := Lib.hid (show insv lo hi p q x = x by unfold insv; rw [if_neg hs])
    rw [HV.out]
    clear hso hs HV
    go_enter Tryz.func15, Tryz.ntmps15
    go_wp2_with fail
    refine (HSO.out _).mono ?_
    rintro e w1 ⟨rfl, hB⟩
    have HB1 := Lib.hid (HB0.out.trans (hB.mono HB0.out.size))
    clear hB
    go_wp2
    go_ret
    exact ⟨rfl, HB1.out⟩
end Go.Proofs.YtcmplcdbkoodpaaGreatDoor
