/-
  math/big: Add, Sub, Cmp, IsInt64, Int64 of numbers in general.
-/
import Derived.Test.YtaaidjphacofgaaGreatDoorBigK
namespace Go.Proofs.YtaaidjphacofgaaGreatDoor
open Go.RowKit
set_option linter.unusedVariables false
set_option linter.unusedSimpArgs false

theorem mag_i64 {x : Int} (h : -9223372036854775808 ≤ x ∧ x ≤ 9223372036854775807) : mag x < 18446744073709551616 := by unfold mag; split <;> omega
/-- What Add and Sub leave. -/
def PutN (w : World) (z : Nat) (r : Int) (e : Ending) (w' : World) : Prop := e = .returned (.pointer (some ⟨z, 0, none⟩)) ∧ BN w' z r ∧ Kept [z] w w'
theorem add_any (z a b : Nat) (x y : Int) (hx : -9223372036854775808 ≤ x ∧ x ≤ 9223372036854775807) (hy : -9223372036854775808 ≤ y ∧ y ≤ 9223372036854775807) (hza : a ≠ z) (hzb : b ≠ z) (w : World) (hz : ZB w z) (ha : BN w a x) (hb : BN w b y) :
    Calls Tryz.prog 73 #[.pointer (some ⟨z, 0, none⟩), .pointer (some ⟨a, 0, none⟩), .pointer (some ⟨b, 0, none⟩)] w (PutN w z (x + y)) := by
  have mx := mag_i64 hx
  have my := mag_i64 hy
  by_cases hs : (decide (x < 0) == decide (y < 0)) = true
  · refine add_same z a b x y (x + y) _ _ rfl rfl hs mx my ?_ ?_ hza hzb w hz ha hb
    · simp at hs; unfold mag; split <;> split <;> split <;> omega
    · intro n hn
      rw [Bool.eq_iff_iff]
      simp only [Bool.and_eq_true, decide_eq_true_eq]
      simp at hs
      unfold mag at hn
      split at hn <;> split at hn <;> omega
  · have hs' : (decide (x < 0) == decide (y < 0)) = false := by simpa using hs
    by_cases hle : mag y ≤ mag x
    · refine add_ge z a b x y (x + y) _ _ rfl rfl hs' mx my hle ?_ ?_ hza hzb w hz ha hb
      · simp at hs; unfold mag at hle ⊢; split at hle <;> split at hle <;> split <;> omega
      · intro n hn
        rw [Bool.eq_iff_iff]
        simp only [Bool.and_eq_true, decide_eq_true_eq]
        simp at hs
        unfold mag at hn hle
        split at hn <;> split at hn <;> simp_all <;> omega
    · refine add_lt z a b x y (x + y) _ _ rfl rfl hs' mx my (by omega) ?_ ?_ hza hzb w hz ha hb
      · simp at hs; unfold mag at hle ⊢; split at hle <;> split at hle <;> split <;> omega
      · intro n hn
        rw [Bool.eq_iff_iff]
        simp only [Bool.and_eq_true, decide_eq_true_eq, Bool.not_eq_true', decide_eq_false_iff_not]
        simp at hs
        unfold mag at hn hle
        split at hn <;> split at hn <;> simp_all <;> omega
theorem sub_any (z a b : Nat) (x y : Int) (hx : -9223372036854775808 ≤ x ∧ x ≤ 9223372036854775807) (hy : -9223372036854775808 ≤ y ∧ y ≤ 9223372036854775807) (hza : a ≠ z) (hzb : b ≠ z) (w : World) (hz : ZB w z) (ha : BN w a x) (hb : BN w b y) :
    Calls Tryz.prog 74 #[.pointer (some ⟨z, 0, none⟩), .pointer (some ⟨a, 0, none⟩), .pointer (some ⟨b, 0, none⟩)] w (PutN w z (x - y)) := by
  have mx := mag_i64 hx
  have my := mag_i64 hy
  by_cases hs : (decide (x < 0) != decide (y < 0)) = true
  · refine sub_same z a b x y (x - y) _ _ rfl rfl hs mx my ?_ ?_ hza hzb w hz ha hb
    · simp at hs; unfold mag; split <;> split <;> split <;> omega
    · intro n hn
      rw [Bool.eq_iff_iff]
      simp only [Bool.and_eq_true, decide_eq_true_eq]
      simp at hs
      unfold mag at hn
      split at hn <;> split at hn <;> simp_all <;> omega
  · have hs' : (decide (x < 0) != decide (y < 0)) = false := by simpa using hs
    by_cases hle : mag y ≤ mag x
    · refine sub_ge z a b x y (x - y) _ _ rfl rfl hs' mx my hle ?_ ?_ hza hzb w hz ha hb
      · simp at hs; unfold mag at hle ⊢; split at hle <;> split at hle <;> split <;> omega
      · intro n hn
        rw [Bool.eq_iff_iff]
        simp only [Bool.and_eq_true, decide_eq_true_eq]
        simp at hs
        unfold mag at hn hle
        split at hn <;> split at hn <;> simp_all <;> omega
    · refine sub_lt z a b x y (x - y) _ _ rfl rfl hs' mx my (by omega) ?_ ?_ hza hzb w hz ha hb
      · simp at hs; unfold mag at hle ⊢; split at hle <;> split at hle <;> split <;> omega
      · intro n hn
        rw [Bool.eq_iff_iff]
        simp only [Bool.and_eq_true, decide_eq_true_eq, Bool.not_eq_true', decide_eq_false_iff_not]
        simp at hs
        unfold mag at hn hle
        split at hn <;> split at hn <;> simp_all <;> omega
theorem cmpb_v (x y : Int) : cmpb (decide (x < 0)) (mag x) (decide (y < 0)) (mag y) = cmpv x y := by
  unfold cmpb cmpm cmpv mag
  by_cases h1 : x < 0 <;> by_cases h2 : y < 0 <;> simp [h1, h2] <;> (repeat' split) <;> omega
set_option maxHeartbeats 1600000 in
theorem bigcmpN (a b : Nat) (x y : Int) (hne : a ≠ b) (hy : mag y < 18446744073709551616) (w : World) (ha : BN w a x) (hb : BN w b y) :
    Calls Tryz.prog 82 #[.pointer (some ⟨a, 0, none⟩), .pointer (some ⟨b, 0, none⟩)] w fun e w' => e = .returned (.int .i64 (cmpv x y)) ∧ ∃ k, w' = w.drewN k := by
  rw [← cmpb_v]
  obtain ⟨s1, n1, c1, r1, m1⟩ := ha
  obtain ⟨s2, n2, c2, r2, m2⟩ := hb
  have hpe : (binOp .eql 62 (.pointer (some ⟨a, 0, none⟩)) (.pointer (some ⟨b, 0, none⟩))).run Tryz.prog w = .ok (.bool false) w := by
    obtain ⟨i, hi, hz⟩ := Option.map_eq_some_iff.1 (show (Tryz.prog.info? 66).map (fun i => i.size) = some 2 by kernel_rfl)
    exact run_eql_ptr_other w Tryz.underlying62 hi (by omega) (by simp [hne]) r1 r2
  have a0 := (r1.cell 0).trans rfl
  have a1 := (r1.cell 1).trans rfl
  have b0 := (r2.cell 0).trans rfl
  have b1 := (r2.cell 1).trans rfl
  have hcm : ∀ w', w'.heap = w.heap → Calls Tryz.prog 96 #[.slice s1 n1 c1, .slice s2 n2 c2] w' fun e w2 => e = .returned (.int .i64 (cmpm (mag x) (mag y))) ∧ ∃ k, w2 = w'.drewN k := fun w' hw => natcmpM _ _ _ _ hy w' (mag_heap hw m1) (mag_heap hw m2)
  have HCM := Lib.hid hcm
  have hng : wrap64 (-(cmpm (mag x) (mag y))) = -(cmpm (mag x) (mag y)) := by unfold cmpm wrap64; omega
  obtain ⟨nx, hnx⟩ : ∃ n, decide (x < 0) = n := ⟨_, rfl⟩
  obtain ⟨ny, hny⟩ : ∃ n, decide (y < 0) = n := ⟨_, rfl⟩
  rw [hnx] at a0 ⊢
  rw [hny] at b0 ⊢
  generalize mag x = X at HCM hng ⊢
  generalize mag y = Y at HCM hng ⊢
  clear hcm r1 r2 m1 m2 hne hy hnx hny
  cases nx
  · cases ny
    · go_enter Tryz.func82, Tryz.ntmps82
      go_wp2
      go_quiet (fail)
      go_wp2
      go_quiet ((go_at_call 96; refine Calls.mono (HCM.out (w.drewN _) rfl) ?_; rintro e w' ⟨rfl, k, rfl⟩; exact ⟨rfl, _, by rw [World.drewN_drewN, Nat.add_assoc]⟩))
      go_wp2
      go_ret
      exact ⟨rfl, _, rfl⟩
    · go_enter Tryz.func82, Tryz.ntmps82
      go_wp2
      go_quiet (fail)
      go_wp2
      go_ret
      exact ⟨rfl, _, rfl⟩
  · cases ny
    · go_enter Tryz.func82, Tryz.ntmps82
      go_wp2
      go_quiet (fail)
      go_wp2
      go_ret
      exact ⟨rfl, _, rfl⟩
    · go_enter Tryz.func82, Tryz.ntmps82
      go_wp2
      go_quiet (fail)
      go_wp2
      go_quiet ((go_at_call 96; refine Calls.mono (HCM.out (w.drewN _) rfl) ?_; rintro e w' ⟨rfl, k, rfl⟩; exact ⟨rfl, _, by rw [World.drewN_drewN, Nat.add_assoc]⟩))
      go_wp2
      go_ret
      refine ⟨ret_int (show wrap64 (-(cmpm X Y)) = _ from hng), _, rfl⟩
/-- A number of one word, of none. -/
theorem BN.bp {w : World} {b : Nat} {x : Int} (h : BN w b x) (h0 : x ≠ 0) (hm : mag x < 18446744073709551616) : BP w b (decide (x < 0)) (mag x) := by
  obtain ⟨a, n, c, h1, h2⟩ := h
  rcases h2 with ⟨k, _⟩ | ⟨k1, k2, g, cs, k3, k4, k5⟩ | ⟨k1, _⟩
  · exfalso; unfold mag at k; split at k <;> omega
  · simp only [Value.slice.injEq] at k3
    obtain ⟨rfl, rfl, rfl⟩ := k3
    exact ⟨g, cs, h1, k5, k4, k1, k2⟩
  · omega
theorem BN.zero {w : World} {b : Nat} (h : BN w b 0) : ∃ a c, w.cell? ⟨b, 0, none⟩ = some (.bool false) ∧ w.cell? ⟨b, 1, none⟩ = some (.slice a 0 c) := by
  obtain ⟨a, n, c, h1, h2⟩ := h
  rcases h2 with ⟨_, a', c', k⟩ | ⟨k1, _⟩ | ⟨k1, _⟩
  · simp only [Value.slice.injEq] at k
    obtain ⟨rfl, rfl, rfl⟩ := k
    exact ⟨a, c, (h1.cell 0).trans rfl, (h1.cell 1).trans rfl⟩
  · exact absurd k1 (by decide)
  · exact absurd k1 (by decide)
theorem int64N (b : Nat) (x : Int) (hx : -9223372036854775807 ≤ x ∧ x ≤ 9223372036854775807) (w : World) (h : BN w b x) :
    Calls Tryz.prog 100 #[.pointer (some ⟨b, 0, none⟩)] w fun e w' => e = .returned (.int .i64 x) ∧ w = w' := by
  by_cases h0 : x = 0
  · subst h0
    obtain ⟨a, c, c0, c1⟩ := h.zero
    clear h hx
    go_enter Tryz.func100, Tryz.ntmps100
    go_wp2
    go_ret
    exact ⟨rfl, rfl⟩
  · refine (int64_1 b _ (mag x) w (h.bp h0 (by unfold mag; split <;> omega)) (by unfold mag; split <;> omega)).mono ?_
    rintro e w' ⟨rfl, hw⟩
    refine ⟨ret_int ?_, hw⟩
    unfold mag
    by_cases hn : x < 0 <;> simp [hn]
end Go.Proofs.YtaaidjphacofgaaGreatDoor
