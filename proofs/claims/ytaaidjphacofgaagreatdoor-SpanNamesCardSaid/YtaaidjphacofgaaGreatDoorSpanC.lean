/-
  Spans: the program's Has, in, low, span.
-/
import Derived.Test.YtaaidjphacofgaaGreatDoorSpanB
namespace Go.Proofs.YtaaidjphacofgaaGreatDoor
open Go.RowKit
set_option linter.unusedVariables false

def edc (lo hi : Int) : List Value := [.int .i64 lo, .int .i64 hi]
theorem row2c (w : World) (o : Obj) (cs : List Value) (e : TypeId) : Row ((w.alloc o).alloc (.cells cs.toArray e)) (w.heap.size + 1) e cs := by
  have := Row.made (w.alloc o) cs e
  simpa using this
theorem edc_row {w : World} {b : Nat} {e : TypeId} {lo hi : Int} (h : Row w b e (edc lo hi)) :
    (w.cell? ⟨b, 0, none⟩ = some (.int .i64 lo) ∧ w.cell? ⟨b, 1, none⟩ = some (.int .i64 hi)) ∧ (w.frozen? ⟨b, 0, none⟩ = false ∧ w.frozen? ⟨b, 1, none⟩ = false) :=
  ⟨⟨by rw [h.cell]; rfl, by rw [h.cell]; rfl⟩, h.free _, h.free _⟩
theorem edc_put {w : World} {b : Nat} {e : TypeId} {lo hi : Int} (h : Row w b e (edc lo hi)) (lo' hi' : Int) :
    Row ((w.setCell ⟨b, 0, none⟩ (.int .i64 lo')).setCell ⟨b, 1, none⟩ (.int .i64 hi')) b e (edc lo' hi') := (h.put 0 (.int .i64 lo')).put 1 (.int .i64 hi')

theorem in_of (E F a b : Int) (w : World) : Calls Tryz.prog 23 #[.agg #[.int .i64 E, .int .i64 F], .int .i64 a, .int .i64 b] w (Ret w (.bool (decide (a ≤ E) && decide (F ≤ b)))) := by
  obtain ⟨d1, h1⟩ : ∃ d, decide (a ≤ E) = d := ⟨_, rfl⟩
  obtain ⟨d2, h2⟩ : ∃ d, decide (F ≤ b) = d := ⟨_, rfl⟩
  rw [h1, h2]
  have hB := (Below.refl w.heap.size w).alloc (Nat.le_refl _) (.cells #[.int .i64 E, .int .i64 F] 34)
  cases d1
  · go_enter Tryz.func23, Tryz.ntmps23
    go_wp2
    go_ret
    exact ⟨rfl, hB⟩
  · cases d2
    · go_enter Tryz.func23, Tryz.ntmps23
      go_wp2
      go_ret
      exact ⟨rfl, hB⟩
    · go_enter Tryz.func23, Tryz.ntmps23
      go_wp2
      go_ret
      exact ⟨rfl, hB⟩

/-- Is v between the ends? -/
def hasv (lo hi : Int) (p q : Bool) (v : Int) : Bool := decide (elo lo hi p q ≤ v) && decide (v ≤ ehi lo hi p q)
set_option maxHeartbeats 800000 in
theorem has_of (lo hi : Int) (p q : Bool) (v : Int) (w : World) : Calls Tryz.prog 7 #[.agg #[.int .i64 lo, .int .i64 hi, .bool p, .bool q], .int .i64 v] w (Ret w (.bool (hasv lo hi p q v))) := by
  have hrd := fun w => read_of lo hi p q w
  unfold endv at hrd
  unfold hasv
  obtain ⟨E, hE⟩ : ∃ E, E = elo lo hi p q := ⟨_, rfl⟩
  obtain ⟨F, hF⟩ : ∃ F, F = ehi lo hi p q := ⟨_, rfl⟩
  rw [← hE, ← hF] at hrd ⊢
  have HRD := Lib.hid hrd
  have hBa := (Below.refl w.heap.size w).alloc (Nat.le_refl _) (.cells #[.int .i64 lo, .int .i64 hi, .bool p, .bool q] 23)
  obtain ⟨d1, h1⟩ : ∃ d, decide (E ≤ v) = d := ⟨_, rfl⟩
  obtain ⟨d2, h2⟩ : ∃ d, decide (v ≤ F) = d := ⟨_, rfl⟩
  rw [h1, h2]
  clear hrd hE hF
  cases d1
  all_goals cases d2
  all_goals
    go_enter Tryz.func7, Tryz.ntmps7
    go_wp2_with fail
    refine (HRD.out _).mono ?_
    rintro e w1 ⟨rfl, hB⟩
    have hB1 := hBa.trans (hB.mono hBa.size)
    have HB2 := Lib.hid (hB1.alloc hB1.size (.cells #[.int .i64 E, .int .i64 F] 34))
    clear hB hB1
    go_wp2
    go_ret
    exact ⟨rfl, HB2.out⟩

/-- The low halves. -/
def llo (E F : Int) : Int := if 0 ≤ E ∧ F ≤ 4294967295 then E else if E / 4294967296 = F / 4294967296 then E % 4294967296 else 0
def lhi (E F : Int) : Int := if 0 ≤ E ∧ F ≤ 4294967295 then F else if E / 4294967296 = F / 4294967296 then F % 4294967296 else 4294967295
theorem half_and (x : Int) : bits .and .i64 x 4294967295 = x % 4294967296 := by
  have h := i64_and_mask x 32 (by decide)
  have e : (2 : Int) ^ 32 = 4294967296 := rfl
  rw [e] at h
  exact h
set_option maxRecDepth 100000 in
set_option maxHeartbeats 1600000 in
theorem low_of (E F : Int) (w : World) : Calls Tryz.prog 15 #[.agg #[.int .i64 E, .int .i64 F]] w (Ret w (.agg #[.int .i64 (llo E F), .int .i64 (lhi E F)])) := by
  have hi := fun w => in_of E F 0 4294967295 w
  have hx := half_and E
  have hy := half_and F
  have hr0 : Row ((w.alloc (.cells #[.int .i64 E, .int .i64 F] 34)).alloc (.cells #[.int .i64 0, .int .i64 0] 34)) w.heap.size 34 (edc E F) := (Row.made w (edc E F) 34).alloc _
  have hr1 : Row ((w.alloc (.cells #[.int .i64 E, .int .i64 F] 34)).alloc (.cells #[.int .i64 0, .int .i64 0] 34)) (w.heap.size + 1) 34 (edc 0 0) := row2c w _ (edc 0 0) _
  have hB0 : Below w.heap.size w ((w.alloc (.cells #[.int .i64 E, .int .i64 F] 34)).alloc (.cells #[.int .i64 0, .int .i64 0] 34)) := ((Below.refl _ _).alloc (Nat.le_refl _) _).alloc (by simp) _
  have HR0 := Lib.hid hr0
  have HR1 := Lib.hid hr1
  have HB0 := Lib.hid hB0
  have HI := Lib.hid hi
  clear hr0 hr1 hB0 hi
  by_cases h1 : 0 ≤ E ∧ F ≤ 4294967295
  · have HV := Lib.hid (show llo E F = E ∧ lhi E F = F by unfold llo lhi; rw [if_pos h1, if_pos h1]; exact ⟨rfl, rfl⟩)
    have hb : (decide (0 ≤ E) && decide (F ≤ 4294967295)) = true := by simp [h1.1, h1.2]
    have HBB := Lib.hid hb
    clear h1 hb
    go_enter Tryz.func15, Tryz.ntmps15
    go_wp2_with fail
    refine (HI.out _).mono ?_
    rintro e w1 ⟨rfl, hB⟩
    rw [HBB.out]
    have hr0 := HR0.out.below hB HR0.out.lt
    have hr1 := HR1.out.below hB HR1.out.lt
    have hB1 := HB0.out.trans (hB.mono HB0.out.size)
    obtain ⟨⟨q0, q1⟩, f0, f1⟩ := edc_row hr0
    obtain ⟨⟨c0, c1⟩, g0, g1⟩ := edc_row hr1
    obtain ⟨⟨z0, z1⟩, _⟩ := edc_row (edc_put hr1 E F)
    have HB1 := Lib.hid ((hB1.setCell (p := ⟨w.heap.size + 1, 0, none⟩) (Nat.le_succ _) (.int .i64 E)).setCell (p := ⟨w.heap.size + 1, 1, none⟩) (Nat.le_succ _) (.int .i64 F))
    have Z := Lib.hid (And.intro z0 z1)
    clear hB hr0 hr1 hB1 z0 z1
    go_wp2
    obtain ⟨z0, z1⟩ := Z.out
    exact bodyPost_ret (v := .agg #[.int .i64 E, .int .i64 F]) (by simp [results, Tryz.results15, go_sem, z0, z1]) rfl ⟨by rw [HV.out.1, HV.out.2], HB1.out⟩
  · have hb : (decide (0 ≤ E) && decide (F ≤ 4294967295)) = false := by
      rw [Bool.and_eq_false_iff, decide_eq_false_iff_not, decide_eq_false_iff_not]
      omega
    have HBB := Lib.hid hb
    by_cases h2 : E / 4294967296 = F / 4294967296
    · have HV := Lib.hid (show llo E F = E % 4294967296 ∧ lhi E F = F % 4294967296 by unfold llo lhi; rw [if_neg h1, if_neg h1, if_pos h2, if_pos h2]; exact ⟨rfl, rfl⟩)
      have hq : (E / 4294967296 == F / 4294967296) = true := by simpa using h2
      clear h1 hb h2
      go_enter Tryz.func15, Tryz.ntmps15
      go_wp2_with fail
      refine (HI.out _).mono ?_
      rintro e w1 ⟨rfl, hB⟩
      rw [HBB.out]
      have hr0 := HR0.out.below hB HR0.out.lt
      have hr1 := HR1.out.below hB HR1.out.lt
      have hB1 := HB0.out.trans (hB.mono HB0.out.size)
      obtain ⟨⟨q0, q1⟩, f0, f1⟩ := edc_row hr0
      obtain ⟨⟨c0, c1⟩, g0, g1⟩ := edc_row hr1
      obtain ⟨⟨z0, z1⟩, _⟩ := edc_row (edc_put hr1 (E % 4294967296) (F % 4294967296))
      have HB1 := Lib.hid ((hB1.setCell (p := ⟨w.heap.size + 1, 0, none⟩) (Nat.le_succ _) (.int .i64 (E % 4294967296))).setCell (p := ⟨w.heap.size + 1, 1, none⟩) (Nat.le_succ _) (.int .i64 (F % 4294967296)))
      have Z := Lib.hid (And.intro z0 z1)
      clear hB hr0 hr1 hB1 z0 z1
      go_wp2
      obtain ⟨z0, z1⟩ := Z.out
      exact bodyPost_ret (v := .agg #[.int .i64 (E % 4294967296), .int .i64 (F % 4294967296)]) (by simp [results, Tryz.results15, go_sem, z0, z1]) rfl ⟨by rw [HV.out.1, HV.out.2], HB1.out⟩
    · have HV := Lib.hid (show llo E F = 0 ∧ lhi E F = 4294967295 by unfold llo lhi; rw [if_neg h1, if_neg h1, if_neg h2, if_neg h2]; exact ⟨rfl, rfl⟩)
      have hq : (E / 4294967296 == F / 4294967296) = false := by simpa using h2
      clear h1 hb h2
      go_enter Tryz.func15, Tryz.ntmps15
      go_wp2_with fail
      refine (HI.out _).mono ?_
      rintro e w1 ⟨rfl, hB⟩
      rw [HBB.out]
      have hr0 := HR0.out.below hB HR0.out.lt
      have hr1 := HR1.out.below hB HR1.out.lt
      have hB1 := HB0.out.trans (hB.mono HB0.out.size)
      obtain ⟨⟨q0, q1⟩, f0, f1⟩ := edc_row hr0
      obtain ⟨⟨c0, c1⟩, g0, g1⟩ := edc_row hr1
      obtain ⟨⟨z0, z1⟩, _⟩ := edc_row (edc_put hr1 0 4294967295)
      have HB1 := Lib.hid ((hB1.setCell (p := ⟨w.heap.size + 1, 0, none⟩) (Nat.le_succ _) (.int .i64 0)).setCell (p := ⟨w.heap.size + 1, 1, none⟩) (Nat.le_succ _) (.int .i64 4294967295))
      have Z := Lib.hid (And.intro z0 z1)
      clear hB hr0 hr1 hB1 z0 z1
      go_wp2
      obtain ⟨z0, z1⟩ := Z.out
      exact bodyPost_ret (v := .agg #[.int .i64 0, .int .i64 4294967295]) (by simp [results, Tryz.results15, go_sem, z0, z1]) rfl ⟨by rw [HV.out.1, HV.out.2], HB1.out⟩
end Go.Proofs.YtaaidjphacofgaaGreatDoor
