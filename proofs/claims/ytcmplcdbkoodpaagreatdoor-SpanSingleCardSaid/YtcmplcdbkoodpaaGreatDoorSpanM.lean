/-
  Spans: the reference's Span, Of, Low, NotZero.
-/
import Derived.Test.YtcmplcdbkoodpaaGreatDoorSpanL
import Derived.Test.YtcmplcdbkoodpaaGreatDoorSpanG
import Derived.Deep.QuietTactic
import Derived.Deep.RegionHeld3
namespace Go.Proofs.YtcmplcdbkoodpaaGreatDoor
open Go.RowKit
set_option linter.unusedVariables false

theorem lim_least (v : Int) : decide (0 ≤ cmpv v (-1152921504606846976)) = !decide (v < -1152921504606846976) := by
  unfold cmpv; (repeat' split) <;> simp <;> omega
theorem lim_most (v : Int) : decide (cmpv v 1152921504606846976 ≤ 0) = !decide (1152921504606846976 < v) := by
  unfold cmpv; (repeat' split) <;> simp <;> omega
theorem from_of (lo hi : Int) (hlo : -9223372036854775808 ≤ lo ∧ lo ≤ 9223372036854775807) (hhi : -9223372036854775808 ≤ hi ∧ hi ≤ 9223372036854775807) (h : lo ≤ hi) (w : World) :
    Calls Tryz.prog 81 #[wd lo, wd hi] w (Ret w (ofs lo hi)) := by
  have k1 := fun w => cmp_of lo (-1152921504606846976) hlo (by decide) w
  have k2 := fun w => cmp_of hi 1152921504606846976 hhi (by decide) w
  have l1 := fun w => least_of lo 1152921504606846976 hlo (by decide) w
  have l2 := fun w => most_of hi (-1152921504606846976) hhi (by decide) w
  have v1 : -9223372036854775808 ≤ leastv lo 1152921504606846976 ∧ leastv lo 1152921504606846976 ≤ 9223372036854775807 := by unfold leastv; split <;> omega
  have v2 : -9223372036854775808 ≤ mostv hi (-1152921504606846976) ∧ mostv hi (-1152921504606846976) ≤ 9223372036854775807 := by unfold mostv; split <;> omega
  have e1 : ¬ lo < -1152921504606846976 → oflo lo = leastv lo 1152921504606846976 := fun h => by unfold oflo leastv; rw [if_neg h]
  have e2 : ¬ 1152921504606846976 < hi → ofhi hi = mostv hi (-1152921504606846976) := fun h => by unfold ofhi mostv; rw [if_neg h]
  unfold ofs
  rw [if_neg (show ¬ hi < lo by omega)]
  by_cases g1 : lo < -1152921504606846976 <;> by_cases g2 : 1152921504606846976 < hi
  · have := from_00 _ _ _ _ _ _ _ _ _ _ v1 v2 (by rw [lim_least]; simp [g1]) (by rw [lim_most]; simp [g2]) k1 k2 l1 l2 w
    simp only [g1, g2, decide_true, oflo, ofhi, if_true]
    exact this
  · have := from_01 _ _ _ _ _ _ _ _ _ _ v1 v2 (by rw [lim_least]; simp [g1]) (by rw [lim_most]; simp [g2]) k1 k2 l1 l2 w
    rw [e2 g2]
    simp only [g1, g2, decide_true, decide_false, oflo, if_true]
    exact this
  · have := from_10 _ _ _ _ _ _ _ _ _ _ v1 v2 (by rw [lim_least]; simp [g1]) (by rw [lim_most]; simp [g2]) k1 k2 l1 l2 w
    rw [e1 g1]
    simp only [g1, g2, decide_true, decide_false, ofhi, if_true]
    exact this
  · have := from_11 _ _ _ _ _ _ _ _ _ _ v1 v2 (by rw [lim_least]; simp [g1]) (by rw [lim_most]; simp [g2]) k1 k2 l1 l2 w
    rw [e1 g1, e2 g2]
    simp only [g1, g2, decide_false]
    exact this

set_option maxRecDepth 100000 in
set_option maxHeartbeats 1600000 in
theorem rspan_of (lo hi : Int) (hlo : -9223372036854775808 ≤ lo ∧ lo ≤ 9223372036854775807) (hhi : -9223372036854775808 ≤ hi ∧ hi ≤ 9223372036854775807) (h : lo ≤ hi) (w : World) :
    Calls Tryz.prog 53 #[.int .i64 lo, .int .i64 hi] w (Ret w (ofs lo hi)) := by
  have hfr := fun w => from_of lo hi hlo hhi h w
  have hw1 := fun w => wide_of lo hlo w
  have hw2 := fun w => wide_of hi hhi w
  obtain ⟨A, B, P, Q, ho⟩ := ofs_form lo hi
  rw [ho] at hfr ⊢
  generalize wd lo = L at hw1 hfr
  generalize wd hi = H at hw2 hfr
  have HFR := Lib.hid hfr
  have HW1 := Lib.hid hw1
  have HW2 := Lib.hid hw2
  have hr1 : Row (w.alloc (.cells #[.int .i64 0, .int .i64 0, .bool false, .bool false] 23)) w.heap.size 23 (spc 0 0 false false) := Row.made w (spc 0 0 false false) _
  have hB0 := (Below.refl w.heap.size w).alloc (Nat.le_refl _) (.cells #[.int .i64 0, .int .i64 0, .bool false, .bool false] 23)
  have HR1 := Lib.hid hr1
  have HB0 := Lib.hid hB0
  clear hfr hw1 hw2 ho hr1 hB0 h hlo hhi
  go_enter Tryz.func53, Tryz.ntmps53
  go_wp2_with fail
  refine (HW1.out _).mono ?_
  rintro e w1 ⟨rfl, hB⟩
  have HR2 := Lib.hid (HR1.out.below hB HR1.out.lt)
  have HB1 := Lib.hid (HB0.out.trans (hB.mono HB0.out.size))
  clear hB
  go_wp2_with fail
  refine (HW2.out _).mono ?_
  rintro e w2 ⟨rfl, hB⟩
  have HR3 := Lib.hid (HR2.out.below hB HR2.out.lt)
  have HB2 := Lib.hid (HB1.out.trans (hB.mono HB1.out.size))
  clear hB
  go_wp2_with fail
  refine (HFR.out _).mono ?_
  rintro e w3 ⟨rfl, hB⟩
  have hr1 := HR3.out.below hB HR3.out.lt
  have hB1 := HB2.out.trans (hB.mono HB2.out.size)
  obtain ⟨⟨q0, q1, q2, q3⟩, f0, f1, f2, f3⟩ := spc_row hr1
  obtain ⟨⟨z0, z1, z2, z3⟩, _⟩ := spc_row (spc_put hr1 A B P Q)
  have HBZ := Lib.hid (below_set4 hB1 (Nat.le_refl w.heap.size) (.int .i64 A) (.int .i64 B) (.bool P) (.bool Q))
  have Z := Lib.hid (And.intro z0 (And.intro z1 (And.intro z2 z3)))
  clear hB hr1 hB1 z0 z1 z2 z3
  go_wp2
  obtain ⟨z0, z1, z2, z3⟩ := Z.out
  exact bodyPost_ret (v := .agg #[.int .i64 A, .int .i64 B, .bool P, .bool Q]) (by simp [results, Tryz.results53, go_sem, z0, z1, z2, z3]) rfl ⟨rfl, HBZ.out⟩

end Go.Proofs.YtcmplcdbkoodpaaGreatDoor
