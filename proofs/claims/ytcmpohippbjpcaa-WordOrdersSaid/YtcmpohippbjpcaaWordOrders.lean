/-
  WordOrders: one of less, equal, greater; the others are their opposites; no condition.
-/
import Derived.Test.YtcmpohippbjpcaaHoldsA
import Derived.OpenShut
import Derived.Lib.SmallJoins
namespace Go.Proofs.Ytcmpohippbjpcaa.wordOrders
open Go.ChangeShapes Go.WideShapes Go.ChangeAt Go.RowKit Go.Joins
set_option linter.unusedVariables false

set_option maxHeartbeats 1600000 in
theorem orders_any (nar : Bool) (a b lt gt le ge : Int) (l m q : Bool) (h : (l = true ∧ m = false ∧ q = false) ∨ (l = false ∧ m = true ∧ q = false) ∨ (l = false ∧ m = false ∧ q = true))
    (h1 : Says 32 #[.int .i64 lt, .bool nar, .int .i64 a, .int .i64 b] l) (h2 : Says 32 #[.int .i64 gt, .bool nar, .int .i64 a, .int .i64 b] m) (h3 : Says 32 #[.int .i64 27, .bool nar, .int .i64 a, .int .i64 b] q) (h4 : Says 32 #[.int .i64 le, .bool nar, .int .i64 a, .int .i64 b] (!m)) (h5 : Says 32 #[.int .i64 ge, .bool nar, .int .i64 a, .int .i64 b] (!l))
    (h6 : Says 32 #[.int .i64 gt, .bool nar, .int .i64 b, .int .i64 a] l) (h7 : Says 32 #[.int .i64 ge, .bool nar, .int .i64 b, .int .i64 a] (!m)) :
    Says 33 #[.bool nar, .int .i64 a, .int .i64 b, .int .i64 lt, .int .i64 gt, .int .i64 le, .int .i64 ge] true := by
  intro w
  rcases h with ⟨rfl, rfl, rfl⟩ | ⟨rfl, rfl, rfl⟩ | ⟨rfl, rfl, rfl⟩
  all_goals
    have H1 := Lib.hid h1
    have H2 := Lib.hid h2
    have H3 := Lib.hid h3
    have H4 := Lib.hid h4
    have H5 := Lib.hid h5
    have H6 := Lib.hid h6
    have H7 := Lib.hid h7
    clear h1 h2 h3 h4 h5 h6 h7
    go_enter Try.func33, Try.ntmps33
    have hB := Below.refl w.heap.size w
    have hs := hB.size
    go_wp2_with fail
    refine (H1.out _).mono ?_
    rintro e w1 ⟨rfl, h1⟩
    have hB := hB.trans (h1.mono hs)
    have hs := hB.size
    clear h1
    go_wp2_with fail
    refine (H2.out _).mono ?_
    rintro e w1 ⟨rfl, h1⟩
    have hB := hB.trans (h1.mono hs)
    have hs := hB.size
    clear h1
    go_wp2_with fail
    refine (H3.out _).mono ?_
    rintro e w1 ⟨rfl, h1⟩
    have hB := hB.trans (h1.mono hs)
    have hs := hB.size
    clear h1
    go_wp2_with fail
    refine (H4.out _).mono ?_
    rintro e w1 ⟨rfl, h1⟩
    have hB := hB.trans (h1.mono hs)
    have hs := hB.size
    clear h1
    go_wp2_with fail
    refine (H5.out _).mono ?_
    rintro e w1 ⟨rfl, h1⟩
    have hB := hB.trans (h1.mono hs)
    have hs := hB.size
    clear h1
    go_wp2_with fail
    refine (H6.out _).mono ?_
    rintro e w1 ⟨rfl, h1⟩
    have hB := hB.trans (h1.mono hs)
    have hs := hB.size
    clear h1
    go_wp2_with fail
    refine (H7.out _).mono ?_
    rintro e w1 ⟨rfl, h1⟩
    have hB := hB.trans (h1.mono hs)
    have hs := hB.size
    clear h1
    go_wp2
    go_ret
    exact ⟨rfl, hB⟩

theorem not_lt_le (x y : Int) : decide (x ≤ y) = !decide (y < x) := by rw [← decide_not, decide_eq_decide]; omega
theorem not_lt_leN (x y : Nat) : decide (x ≤ y) = !decide (y < x) := by rw [← decide_not, decide_eq_decide]; omega
theorem oneN (x y : Nat) : (decide (x < y) = true ∧ decide (y < x) = false ∧ decide (x = y) = false) ∨ (decide (x < y) = false ∧ decide (y < x) = true ∧ decide (x = y) = false) ∨ (decide (x < y) = false ∧ decide (y < x) = false ∧ decide (x = y) = true) := by
  simp only [decide_eq_true_eq, decide_eq_false_iff_not]; omega
theorem oneZ (p : Prop) [Decidable p] (x y : Int) (h : p ↔ x = y) : (decide (x < y) = true ∧ decide (y < x) = false ∧ decide p = false) ∨ (decide (x < y) = false ∧ decide (y < x) = true ∧ decide p = false) ∨ (decide (x < y) = false ∧ decide (y < x) = false ∧ decide p = true) := by
  simp only [decide_eq_true_eq, decide_eq_false_iff_not, h]; omega
theorem sgn_inj64 {x y : Nat} (hx : x < 18446744073709551616) (hy : y < 18446744073709551616) : x = y ↔ sgn 64 x = sgn 64 y := by
  rw [sgn64 hx, sgn64 hy]
  have h1 : (x : Int) < 18446744073709551616 := by omega
  have h2 : (y : Int) < 18446744073709551616 := by omega
  have h3 : (0 : Int) ≤ x := by omega
  have h4 : (0 : Int) ≤ y := by omega
  rw [← Int.ofNat_inj]
  generalize (x : Int) = X at *
  generalize (y : Int) = Y at *
  unfold wrap64
  omega
theorem sgn_inj32 {x y : Nat} (hx : x < 4294967296) (hy : y < 4294967296) : x = y ↔ sgn 32 x = sgn 32 y := by
  rw [sgn32 hx, sgn32 hy]
  have h1 : (x : Int) < 4294967296 := by omega
  have h2 : (y : Int) < 4294967296 := by omega
  have h3 : (0 : Int) ≤ x := by omega
  have h4 : (0 : Int) ≤ y := by omega
  rw [← Int.ofNat_inj]
  generalize (x : Int) = X at *
  generalize (y : Int) = Y at *
  unfold wrap32
  omega

theorem orders64_u (a b : Int) (ra : -9223372036854775808 ≤ a ∧ a ≤ 9223372036854775807) (rb : -9223372036854775808 ≤ b ∧ b ≤ 9223372036854775807) :
    Says 33 #[.bool false, .int .i64 a, .int .i64 b, .int .i64 31, .int .i64 29, .int .i64 32, .int .i64 30] true := by
  have h4 := holds64_le a b ra rb
  have h5 := holds64_ge a b ra rb
  have h7 := holds64_ge b a rb ra
  rw [show hold64_le (lowN 64 a) (lowN 64 b) = !hold64_gt (lowN 64 a) (lowN 64 b) from not_lt_leN _ _] at h4
  rw [show hold64_ge (lowN 64 a) (lowN 64 b) = !hold64_lt (lowN 64 a) (lowN 64 b) from not_lt_leN _ _] at h5
  rw [show hold64_ge (lowN 64 b) (lowN 64 a) = !hold64_gt (lowN 64 a) (lowN 64 b) from not_lt_leN _ _] at h7
  exact orders_any false a b _ _ _ _ (hold64_lt (lowN 64 a) (lowN 64 b)) (hold64_gt (lowN 64 a) (lowN 64 b)) (hold64_eq (lowN 64 a) (lowN 64 b)) (oneN _ _) (holds64_lt a b ra rb) (holds64_gt a b ra rb) (holds64_eq a b ra rb) h4 h5 (holds64_gt b a rb ra) h7

theorem orders64_s (a b : Int) (ra : -9223372036854775808 ≤ a ∧ a ≤ 9223372036854775807) (rb : -9223372036854775808 ≤ b ∧ b ≤ 9223372036854775807) :
    Says 33 #[.bool false, .int .i64 a, .int .i64 b, .int .i64 35, .int .i64 33, .int .i64 36, .int .i64 34] true := by
  have h4 := holds64_sle a b ra rb
  have h5 := holds64_sge a b ra rb
  have h7 := holds64_sge b a rb ra
  rw [show hold64_sle (lowN 64 a) (lowN 64 b) = !hold64_sgt (lowN 64 a) (lowN 64 b) from not_lt_le _ _] at h4
  rw [show hold64_sge (lowN 64 a) (lowN 64 b) = !hold64_slt (lowN 64 a) (lowN 64 b) from not_lt_le _ _] at h5
  rw [show hold64_sge (lowN 64 b) (lowN 64 a) = !hold64_sgt (lowN 64 a) (lowN 64 b) from not_lt_le _ _] at h7
  exact orders_any false a b _ _ _ _ (hold64_slt (lowN 64 a) (lowN 64 b)) (hold64_sgt (lowN 64 a) (lowN 64 b)) (hold64_eq (lowN 64 a) (lowN 64 b)) (oneZ _ _ _ (sgn_inj64 (lowN_lt 64 a) (lowN_lt 64 b))) (holds64_slt a b ra rb) (holds64_sgt a b ra rb) (holds64_eq a b ra rb) h4 h5 (holds64_sgt b a rb ra) h7

theorem orders32_u (a b : Int) (ra : -9223372036854775808 ≤ a ∧ a ≤ 9223372036854775807) (rb : -9223372036854775808 ≤ b ∧ b ≤ 9223372036854775807) :
    Says 33 #[.bool true, .int .i64 a, .int .i64 b, .int .i64 31, .int .i64 29, .int .i64 32, .int .i64 30] true := by
  have h4 := holds32_le a b ra rb
  have h5 := holds32_ge a b ra rb
  have h7 := holds32_ge b a rb ra
  rw [show hold32_le (lowN 32 a) (lowN 32 b) = !hold32_gt (lowN 32 a) (lowN 32 b) from not_lt_leN _ _] at h4
  rw [show hold32_ge (lowN 32 a) (lowN 32 b) = !hold32_lt (lowN 32 a) (lowN 32 b) from not_lt_leN _ _] at h5
  rw [show hold32_ge (lowN 32 b) (lowN 32 a) = !hold32_gt (lowN 32 a) (lowN 32 b) from not_lt_leN _ _] at h7
  exact orders_any true a b _ _ _ _ (hold32_lt (lowN 32 a) (lowN 32 b)) (hold32_gt (lowN 32 a) (lowN 32 b)) (hold32_eq (lowN 32 a) (lowN 32 b)) (oneN _ _) (holds32_lt a b ra rb) (holds32_gt a b ra rb) (holds32_eq a b ra rb) h4 h5 (holds32_gt b a rb ra) h7

theorem orders32_s (a b : Int) (ra : -9223372036854775808 ≤ a ∧ a ≤ 9223372036854775807) (rb : -9223372036854775808 ≤ b ∧ b ≤ 9223372036854775807) :
    Says 33 #[.bool true, .int .i64 a, .int .i64 b, .int .i64 35, .int .i64 33, .int .i64 36, .int .i64 34] true := by
  have h4 := holds32_sle a b ra rb
  have h5 := holds32_sge a b ra rb
  have h7 := holds32_sge b a rb ra
  rw [show hold32_sle (lowN 32 a) (lowN 32 b) = !hold32_sgt (lowN 32 a) (lowN 32 b) from not_lt_le _ _] at h4
  rw [show hold32_sge (lowN 32 a) (lowN 32 b) = !hold32_slt (lowN 32 a) (lowN 32 b) from not_lt_le _ _] at h5
  rw [show hold32_sge (lowN 32 b) (lowN 32 a) = !hold32_sgt (lowN 32 a) (lowN 32 b) from not_lt_le _ _] at h7
  exact orders_any true a b _ _ _ _ (hold32_slt (lowN 32 a) (lowN 32 b)) (hold32_sgt (lowN 32 a) (lowN 32 b)) (hold32_eq (lowN 32 a) (lowN 32 b)) (oneZ _ _ _ (sgn_inj32 (lowN_lt 32 a) (lowN_lt 32 b))) (holds32_slt a b ra rb) (holds32_sgt a b ra rb) (holds32_eq a b ra rb) h4 h5 (holds32_sgt b a rb ra) h7

theorem facts (nar : Bool) (a b : Int) (ra : -9223372036854775808 ≤ a ∧ a ≤ 9223372036854775807) (rb : -9223372036854775808 ≤ b ∧ b ≤ 9223372036854775807) : ∃ E G, Says 33 #[.bool nar, .int .i64 a, .int .i64 b, .int .i64 31, .int .i64 29, .int .i64 32, .int .i64 30] true ∧ Says 33 #[.bool nar, .int .i64 a, .int .i64 b, .int .i64 35, .int .i64 33, .int .i64 36, .int .i64 34] true ∧ Says 32 #[.int .i64 27, .bool nar, .int .i64 a, .int .i64 b] E ∧ Says 32 #[.int .i64 28, .bool nar, .int .i64 a, .int .i64 b] (!E) ∧ Says 32 #[.int .i64 27, .bool nar, .int .i64 b, .int .i64 a] E ∧ Says 32 #[.int .i64 37, .bool nar, .int .i64 a, .int .i64 b] G ∧ Says 32 #[.int .i64 37, .bool nar, .int .i64 b, .int .i64 a] G ∧ Says 32 #[.int .i64 27, .bool nar, .int .i64 a, .int .i64 a] true := by
  cases nar
  · refine ⟨hold64_eq (lowN 64 a) (lowN 64 b), hold64_set (lowN 64 a) (lowN 64 b), orders64_u a b ra rb, orders64_s a b ra rb, holds64_eq a b ra rb, holds64_ne a b ra rb, ?_, holds64_set a b ra rb, ?_, ?_⟩
    · have h := holds64_eq b a rb ra
      rwa [show hold64_eq (lowN 64 b) (lowN 64 a) = hold64_eq (lowN 64 a) (lowN 64 b) by unfold hold64_eq; rw [decide_eq_decide]; omega] at h
    · have h := holds64_set b a rb ra
      rwa [show hold64_set (lowN 64 b) (lowN 64 a) = hold64_set (lowN 64 a) (lowN 64 b) by unfold hold64_set; rw [Nat.and_comm]] at h
    · have h := holds64_eq a a ra ra
      rwa [show hold64_eq (lowN 64 a) (lowN 64 a) = true by unfold hold64_eq; simp] at h
  · refine ⟨hold32_eq (lowN 32 a) (lowN 32 b), hold32_set (lowN 32 a) (lowN 32 b), orders32_u a b ra rb, orders32_s a b ra rb, holds32_eq a b ra rb, holds32_ne a b ra rb, ?_, holds32_set a b ra rb, ?_, ?_⟩
    · have h := holds32_eq b a rb ra
      rwa [show hold32_eq (lowN 32 b) (lowN 32 a) = hold32_eq (lowN 32 a) (lowN 32 b) by unfold hold32_eq; rw [decide_eq_decide]; omega] at h
    · have h := holds32_set b a rb ra
      rwa [show hold32_set (lowN 32 b) (lowN 32 a) = hold32_set (lowN 32 a) (lowN 32 b) by unfold hold32_set; rw [Nat.and_comm]] at h
    · have h := holds32_eq a a ra ra
      rwa [show hold32_eq (lowN 32 a) (lowN 32 a) = true by unfold hold32_eq; simp] at h

theorem end_set (a : Int) (ra : -9223372036854775808 ≤ a ∧ a ≤ 9223372036854775807) : Says 32 #[.int .i64 37, .bool false, .int .i64 a, .int .i64 a] (a != 0) := by
  have h := holds64_set a a ra ra
  rwa [show hold64_set (lowN 64 a) (lowN 64 a) = (a != 0) by
    unfold hold64_set
    rw [lowN_64, Nat.and_self]
    by_cases h0 : a = 0
    · subst h0; rfl
    · have h1 : ¬ un a = 0 := by have := un_cast a; omega
      have h2 : (a != 0) = true := by simpa using h0
      rw [h2]; simp [h1]] at h
theorem end_eq (a b : Int) (ra : -9223372036854775808 ≤ a ∧ a ≤ 9223372036854775807) (rb : -9223372036854775808 ≤ b ∧ b ≤ 9223372036854775807) : Says 32 #[.int .i64 27, .bool false, .int .i64 a, .int .i64 b] (a == b) := by
  have h := holds64_eq a b ra rb
  rwa [show hold64_eq (lowN 64 a) (lowN 64 b) = (a == b) by
    unfold hold64_eq
    rw [lowN_64, lowN_64]
    by_cases h0 : a = b
    · subst h0; simp
    · have h1 : ¬ un a = un b := by have := un_cast a; have := un_cast b; omega
      rw [beq_eq_false_iff_ne.mpr h0]; simp [h1]] at h
theorem end_slt (a b : Int) (ra : -9223372036854775808 ≤ a ∧ a ≤ 9223372036854775807) (rb : -9223372036854775808 ≤ b ∧ b ≤ 9223372036854775807) : Says 32 #[.int .i64 35, .bool false, .int .i64 a, .int .i64 b] (decide (a < b)) := by
  have h := holds64_slt a b ra rb
  rwa [show hold64_slt (lowN 64 a) (lowN 64 b) = decide (a < b) by unfold hold64_slt; rw [lowN_64, lowN_64, sgn_un' ra, sgn_un' rb]] at h

set_option maxHeartbeats 1600000 in
theorem walk (a : Int) (ra : -9223372036854775808 ≤ a ∧ a ≤ 9223372036854775807) (b : Int) (rb : -9223372036854775808 ≤ b ∧ b ≤ 9223372036854775807) (w : World) :
    Calls Try.prog 9 #[.int .i64 a, .int .i64 b] w fun e w' => e = .returned (.bool true) ∧ Below w.heap.size w w' := by
  go_enter Try.func9, Try.ntmps9
  have hB := Below.refl w.heap.size w
  go_wp2
  go_loopw [5] (fun s wr => ∃ k : Int, (k = 0 ∨ k = 1 ∨ k = 2) ∧ s = .int .i64 k ∧ Below w.heap.size w wr) (fun s _ => (2 - intOf s).toNat)
  case atStart => exact ⟨0, Or.inl rfl, rfl, hB⟩
  case round =>
    clear hB
    obtain ⟨k, hk, rfl, hB⟩ := hrel
    have hs := hB.size
    rcases hk with rfl | rfl | rfl
    · obtain ⟨E, G, h1, h2, h3, h4, h5, h6, h7, h8⟩ := facts false a b ra rb
      have H1 := Lib.hid h1
      have H2 := Lib.hid h2
      have H3 := Lib.hid h3
      have H4 := Lib.hid h4
      have H5 := Lib.hid h5
      have H6 := Lib.hid h6
      have H7 := Lib.hid h7
      have H8 := Lib.hid h8
      clear h1 h2 h3 h4 h5 h6 h7 h8 ra rb
      have hG : (G != G) = false := by simp
      go_wp2_with fail
      refine (H1.out _).mono ?_
      rintro e w1 ⟨rfl, h1⟩
      have hB := hB.trans (h1.mono hs)
      have hs := hB.size
      clear h1
      go_wp2_with fail
      refine (H2.out _).mono ?_
      rintro e w1 ⟨rfl, h1⟩
      have hB := hB.trans (h1.mono hs)
      have hs := hB.size
      clear h1
      go_wp2_with fail
      refine (H3.out _).mono ?_
      rintro e w1 ⟨rfl, h1⟩
      have hB := hB.trans (h1.mono hs)
      have hs := hB.size
      clear h1
      cases E
      all_goals
        go_wp2_with fail
        refine (H4.out _).mono ?_
        rintro e w1 ⟨rfl, h1⟩
        have hB := hB.trans (h1.mono hs)
        have hs := hB.size
        clear h1
        go_wp2_with fail
        refine (H5.out _).mono ?_
        rintro e w1 ⟨rfl, h1⟩
        have hB := hB.trans (h1.mono hs)
        have hs := hB.size
        clear h1
        go_wp2_with fail
        refine (H6.out _).mono ?_
        rintro e w1 ⟨rfl, h1⟩
        have hB := hB.trans (h1.mono hs)
        have hs := hB.size
        clear h1
        go_wp2_with fail
        refine (H7.out _).mono ?_
        rintro e w1 ⟨rfl, h1⟩
        have hB := hB.trans (h1.mono hs)
        have hs := hB.size
        clear h1
        go_wp2_with fail
        refine (H8.out _).mono ?_
        rintro e w1 ⟨rfl, h1⟩
        have hB := hB.trans (h1.mono hs)
        have hs := hB.size
        clear h1
        go_wp2
        go_roundw
        case rel => exact ⟨1, by omega, rfl, hB⟩
        case measure => simp [intOf]
    · obtain ⟨E, G, h1, h2, h3, h4, h5, h6, h7, h8⟩ := facts true a b ra rb
      have H1 := Lib.hid h1
      have H2 := Lib.hid h2
      have H3 := Lib.hid h3
      have H4 := Lib.hid h4
      have H5 := Lib.hid h5
      have H6 := Lib.hid h6
      have H7 := Lib.hid h7
      have H8 := Lib.hid h8
      clear h1 h2 h3 h4 h5 h6 h7 h8 ra rb
      have hG : (G != G) = false := by simp
      go_wp2_with fail
      refine (H1.out _).mono ?_
      rintro e w1 ⟨rfl, h1⟩
      have hB := hB.trans (h1.mono hs)
      have hs := hB.size
      clear h1
      go_wp2_with fail
      refine (H2.out _).mono ?_
      rintro e w1 ⟨rfl, h1⟩
      have hB := hB.trans (h1.mono hs)
      have hs := hB.size
      clear h1
      go_wp2_with fail
      refine (H3.out _).mono ?_
      rintro e w1 ⟨rfl, h1⟩
      have hB := hB.trans (h1.mono hs)
      have hs := hB.size
      clear h1
      cases E
      all_goals
        go_wp2_with fail
        refine (H4.out _).mono ?_
        rintro e w1 ⟨rfl, h1⟩
        have hB := hB.trans (h1.mono hs)
        have hs := hB.size
        clear h1
        go_wp2_with fail
        refine (H5.out _).mono ?_
        rintro e w1 ⟨rfl, h1⟩
        have hB := hB.trans (h1.mono hs)
        have hs := hB.size
        clear h1
        go_wp2_with fail
        refine (H6.out _).mono ?_
        rintro e w1 ⟨rfl, h1⟩
        have hB := hB.trans (h1.mono hs)
        have hs := hB.size
        clear h1
        go_wp2_with fail
        refine (H7.out _).mono ?_
        rintro e w1 ⟨rfl, h1⟩
        have hB := hB.trans (h1.mono hs)
        have hs := hB.size
        clear h1
        go_wp2_with fail
        refine (H8.out _).mono ?_
        rintro e w1 ⟨rfl, h1⟩
        have hB := hB.trans (h1.mono hs)
        have hs := hB.size
        clear h1
        go_wp2
        go_roundw
        case rel => exact ⟨2, by omega, rfl, hB⟩
        case measure => simp [intOf]
    · have h1 := end_set a ra
      have h2 := end_eq a b ra rb
      have h3 := end_slt a b ra rb
      obtain ⟨z1, e1⟩ : ∃ z, (a != 0) = z := ⟨_, rfl⟩
      obtain ⟨z2, e2⟩ : ∃ z, (a == b) = z := ⟨_, rfl⟩
      obtain ⟨z3, e3⟩ : ∃ z, decide (a < b) = z := ⟨_, rfl⟩
      rw [e1] at h1
      rw [e2] at h2
      rw [e3] at h3
      have H1 := Lib.hid h1
      have H2 := Lib.hid h2
      have H3 := Lib.hid h3
      have g1 : (z1 == z1) = true := by simp
      have g2 : (z2 == z2) = true := by simp
      have g3 : (z3 == z3) = true := by simp
      clear h1 h2 h3 ra rb
      go_wp2_with fail
      refine (H1.out _).mono ?_
      rintro e w1 ⟨rfl, h1⟩
      have hB := hB.trans (h1.mono hs)
      have hs := hB.size
      clear h1
      go_wp2_with fail
      refine (H2.out _).mono ?_
      rintro e w1 ⟨rfl, h1⟩
      have hB := hB.trans (h1.mono hs)
      have hs := hB.size
      clear h1
      go_wp2_with fail
      refine (H3.out _).mono ?_
      rintro e w1 ⟨rfl, h1⟩
      have hB := hB.trans (h1.mono hs)
      have hs := hB.size
      clear h1
      go_wp2
      go_ret
      exact ⟨rfl, hB⟩

theorem own : ownKnob Try.prog.godebug = none := by kernel_rfl
set_option maxRecDepth 100000 in
theorem lifted (os : Os) (started : os.Started) (H : Type) (enc : TypeId × Value → H) :
    ReturnsInHanded {} Try.checked os 9 .any (Rows.wordOrdersSpec.pre6 enc Try.prog Try.f9 Rows.wordOrdersRow.domain false) (Rows.wordOrdersSpec.post enc Try.prog Try.f9 false true false false) := by
  refine returnsInHanded_of_change (C := Try.checked) own started (by kernel_rfl) Try.func9
    (ChangeSpec.witness6 (enc := enc) (C := Try.checked) false ⟨#[], #[.int .i64 0, .int .i64 0], []⟩ 8 (by kernel_rfl) (by kernel_rfl) (by kernel_rfl) (by kernel_rfl)) ?_
  intro W base args ds gs before hval0 hW hcnd _
  have hval : ∀ (j : Nat) t v, Try.f9.params[j]? = some t → args[j]? = some v → Value.okWide Try.prog W .any base t v := hval0
  have hW' := hW
  obtain ⟨p, q, hA0, hV, rfl, hfz, hnd⟩ := hW
  have hA : DataW.TrodAll enc Try.prog W 0 (fun _ => true) true Try.f9.params.toList args.toList ds p := hA0
  rw [Try.params9] at hA hval
  obtain ⟨v0, vs0, d0, ds0, p0, q0, hargs, rfl, rfl, h0, r0⟩ := trodAll_cons hA
  obtain ⟨v1, vs1, d1, ds1, p1, q1, rfl, rfl, rfl, h1, r1⟩ := trodAll_cons r0
  obtain ⟨rfl, rfl, rfl⟩ := trodAll_nil r1
  obtain rfl : args = #[v0, v1] := by cases args; simp_all
  obtain ⟨a0, rfl, rfl, rfl, w0⟩ := open_int Try.underlying3 (hval 0 3 v0 rfl rfl) h0
  obtain ⟨a1, rfl, rfl, rfl, w1⟩ := open_int Try.underlying3 (hval 1 3 v1 rfl rfl) h1
  refine (walk a0 (range_i64 w0) a1 (range_i64 w1) W).mono fun e W' ⟨he, hb⟩ => ?_
  subst he
  exact ⟨_, rfl, law_post (tb := 4) (by kernel_rfl) (by kernel_rfl) rfl Try.underlying4 rfl (fun h => by subst h; rfl) hW' hb⟩

theorem proved : Rows.WordOrdersSaid :=
  OpenClaim.holds_of_wide 9 Try.f9 rfl rfl rfl rfl rfl rfl rfl ⟨rfl, rfl, rfl, rfl, rfl⟩ rfl rfl rfl rfl rfl (by kernel_rfl) Try.func9 (by kernel_rfl)
    (of_decide_eq_true (by kernel_rfl)) (by unfold Func.isWrapper; first | (rw [if_pos (by decide +kernel)]; kernel_rfl) | (rw [if_neg (by decide +kernel)]; exact ⟨rfl, rfl⟩))
    (fun os started H enc _ => lifted os started H enc)
#print axioms proved

end Go.Proofs.Ytcmpohippbjpcaa.wordOrders
