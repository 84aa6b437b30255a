/-
  The reference's Holds on 32 bits.
-/
import Derived.Test.YtcmpohippbjpcaaHoldsB
namespace Go.Proofs.Ytcmpohippbjpcaa
open Go.RowKit
set_option linter.unusedVariables false

set_option maxRecDepth 100000 in
set_option maxHeartbeats 1600000 in
theorem refHolds32_eq (a b : Int) : Says 50 #[.int .i64 27, .bool true, .int .i64 a, .int .i64 b] (hold32_eq (lowN 32 a) (lowN 32 b)) := by
  intro w
  obtain ⟨x, hxe⟩ : ∃ x, x = lowN 32 a := ⟨_, rfl⟩
  obtain ⟨y, hye⟩ : ∃ y, y = lowN 32 b := ⟨_, rfl⟩
  have hx : x < 2 ^ 32 := by rw [hxe]; exact lowN_lt 32 a
  have hy : y < 2 ^ 32 := by rw [hye]; exact lowN_lt 32 b
  rw [← hxe, ← hye]
  have HXE := Lib.hid hxe
  have HYE := Lib.hid hye
  have HX := Lib.hid hx
  have HY := Lib.hid hy
  clear hxe hye hx hy
  go_enter Try.func50, Try.ntmps50
  go_wp2_with fail
  refine (width_narrow _).mono ?_
  rintro e w0 ⟨rfl, rfl⟩
  go_wp2_with fail
  refine (row_any a 32 32 rfl (by decide) _).mono ?_
  rintro e w1 ⟨b1, rfl, hb1, hR1, hB1⟩
  go_wp2_with fail
  refine (width_narrow _).mono ?_
  rintro e w1' ⟨rfl, rfl⟩
  go_wp2_with fail
  refine (row_any b 32 32 rfl (by decide) _).mono ?_
  rintro e w2 ⟨b2, rfl, hb2, hR2, hB2⟩
  have hX := row_low (hR1.below hB2 hR1.lt)
  have hY := row_low hR2
  rw [← HXE.out] at hX
  rw [← HYE.out] at hY
  have hs1 := hB1.size
  have hB02 := hB1.trans (hB2.mono hs1)
  have hs2 := hB02.size
  have hl1 := hR1.lt
  have hne : b1 ≠ b2 := by omega
  clear hR1 hR2 hB1 hB2
  clear HXE HYE
  go_wp2_with fail
  refine (same_any b1 b2 0 0 32 32 32 x y (by decide) HX.out HY.out _ (Bits.row hX) (Bits.row hY)).mono ?_
  rintro e w5 ⟨rfl, k5, rfl⟩
  obtain ⟨p, hp⟩ : ∃ p, p = decide (x = y) := ⟨_, rfl⟩
  rw [← hp]
  have HP := Lib.hid hp
  clear hp
  go_wp2
  go_ret
  refine ⟨ret_bool ?_, below_drewN hB02 _⟩
  rw [HP.out]
  all_goals (rfl)

set_option maxRecDepth 100000 in
set_option maxHeartbeats 1600000 in
theorem refHolds32_ne (a b : Int) : Says 50 #[.int .i64 28, .bool true, .int .i64 a, .int .i64 b] (hold32_ne (lowN 32 a) (lowN 32 b)) := by
  intro w
  obtain ⟨x, hxe⟩ : ∃ x, x = lowN 32 a := ⟨_, rfl⟩
  obtain ⟨y, hye⟩ : ∃ y, y = lowN 32 b := ⟨_, rfl⟩
  have hx : x < 2 ^ 32 := by rw [hxe]; exact lowN_lt 32 a
  have hy : y < 2 ^ 32 := by rw [hye]; exact lowN_lt 32 b
  rw [← hxe, ← hye]
  have HXE := Lib.hid hxe
  have HYE := Lib.hid hye
  have HX := Lib.hid hx
  have HY := Lib.hid hy
  clear hxe hye hx hy
  go_enter Try.func50, Try.ntmps50
  go_wp2_with fail
  refine (width_narrow _).mono ?_
  rintro e w0 ⟨rfl, rfl⟩
  go_wp2_with fail
  refine (row_any a 32 32 rfl (by decide) _).mono ?_
  rintro e w1 ⟨b1, rfl, hb1, hR1, hB1⟩
  go_wp2_with fail
  refine (width_narrow _).mono ?_
  rintro e w1' ⟨rfl, rfl⟩
  go_wp2_with fail
  refine (row_any b 32 32 rfl (by decide) _).mono ?_
  rintro e w2 ⟨b2, rfl, hb2, hR2, hB2⟩
  have hX := row_low (hR1.below hB2 hR1.lt)
  have hY := row_low hR2
  rw [← HXE.out] at hX
  rw [← HYE.out] at hY
  have hs1 := hB1.size
  have hB02 := hB1.trans (hB2.mono hs1)
  have hs2 := hB02.size
  have hl1 := hR1.lt
  have hne : b1 ≠ b2 := by omega
  clear hR1 hR2 hB1 hB2
  clear HXE HYE
  go_wp2_with fail
  refine (same_any b1 b2 0 0 32 32 32 x y (by decide) HX.out HY.out _ (Bits.row hX) (Bits.row hY)).mono ?_
  rintro e w5 ⟨rfl, k5, rfl⟩
  obtain ⟨p, hp⟩ : ∃ p, p = decide (x = y) := ⟨_, rfl⟩
  rw [← hp]
  have HP := Lib.hid hp
  clear hp
  go_wp2
  go_ret
  refine ⟨ret_bool ?_, below_drewN hB02 _⟩
  rw [HP.out]
  all_goals (rfl)

set_option maxRecDepth 100000 in
set_option maxHeartbeats 1600000 in
theorem refHolds32_gt (a b : Int) : Says 50 #[.int .i64 29, .bool true, .int .i64 a, .int .i64 b] (hold32_gt (lowN 32 a) (lowN 32 b)) := by
  intro w
  obtain ⟨x, hxe⟩ : ∃ x, x = lowN 32 a := ⟨_, rfl⟩
  obtain ⟨y, hye⟩ : ∃ y, y = lowN 32 b := ⟨_, rfl⟩
  have hx : x < 2 ^ 32 := by rw [hxe]; exact lowN_lt 32 a
  have hy : y < 2 ^ 32 := by rw [hye]; exact lowN_lt 32 b
  rw [← hxe, ← hye]
  have HXE := Lib.hid hxe
  have HYE := Lib.hid hye
  have HX := Lib.hid hx
  have HY := Lib.hid hy
  clear hxe hye hx hy
  go_enter Try.func50, Try.ntmps50
  go_wp2_with fail
  refine (width_narrow _).mono ?_
  rintro e w0 ⟨rfl, rfl⟩
  go_wp2_with fail
  refine (row_any a 32 32 rfl (by decide) _).mono ?_
  rintro e w1 ⟨b1, rfl, hb1, hR1, hB1⟩
  go_wp2_with fail
  refine (width_narrow _).mono ?_
  rintro e w1' ⟨rfl, rfl⟩
  go_wp2_with fail
  refine (row_any b 32 32 rfl (by decide) _).mono ?_
  rintro e w2 ⟨b2, rfl, hb2, hR2, hB2⟩
  have hX := row_low (hR1.below hB2 hR1.lt)
  have hY := row_low hR2
  rw [← HXE.out] at hX
  rw [← HYE.out] at hY
  have hs1 := hB1.size
  have hB02 := hB1.trans (hB2.mono hs1)
  have hs2 := hB02.size
  have hl1 := hR1.lt
  have hne : b1 ≠ b2 := by omega
  clear hR1 hR2 hB1 hB2
  clear HXE HYE
  go_wp2_with fail
  refine (less_any b2 b1 0 0 32 32 32 y x (by decide) HY.out HX.out _ (Bits.row hY) (Bits.row hX)).mono ?_
  rintro e w5 ⟨rfl, k5, rfl⟩
  obtain ⟨p, hp⟩ : ∃ p, p = decide (y < x) := ⟨_, rfl⟩
  rw [← hp]
  have HP := Lib.hid hp
  clear hp
  go_wp2
  go_ret
  refine ⟨ret_bool ?_, below_drewN hB02 _⟩
  rw [HP.out]
  all_goals (rfl)

set_option maxRecDepth 100000 in
set_option maxHeartbeats 1600000 in
theorem refHolds32_ge (a b : Int) : Says 50 #[.int .i64 30, .bool true, .int .i64 a, .int .i64 b] (hold32_ge (lowN 32 a) (lowN 32 b)) := by
  intro w
  obtain ⟨x, hxe⟩ : ∃ x, x = lowN 32 a := ⟨_, rfl⟩
  obtain ⟨y, hye⟩ : ∃ y, y = lowN 32 b := ⟨_, rfl⟩
  have hx : x < 2 ^ 32 := by rw [hxe]; exact lowN_lt 32 a
  have hy : y < 2 ^ 32 := by rw [hye]; exact lowN_lt 32 b
  rw [← hxe, ← hye]
  have HXE := Lib.hid hxe
  have HYE := Lib.hid hye
  have HX := Lib.hid hx
  have HY := Lib.hid hy
  clear hxe hye hx hy
  go_enter Try.func50, Try.ntmps50
  go_wp2_with fail
  refine (width_narrow _).mono ?_
  rintro e w0 ⟨rfl, rfl⟩
  go_wp2_with fail
  refine (row_any a 32 32 rfl (by decide) _).mono ?_
  rintro e w1 ⟨b1, rfl, hb1, hR1, hB1⟩
  go_wp2_with fail
  refine (width_narrow _).mono ?_
  rintro e w1' ⟨rfl, rfl⟩
  go_wp2_with fail
  refine (row_any b 32 32 rfl (by decide) _).mono ?_
  rintro e w2 ⟨b2, rfl, hb2, hR2, hB2⟩
  have hX := row_low (hR1.below hB2 hR1.lt)
  have hY := row_low hR2
  rw [← HXE.out] at hX
  rw [← HYE.out] at hY
  have hs1 := hB1.size
  have hB02 := hB1.trans (hB2.mono hs1)
  have hs2 := hB02.size
  have hl1 := hR1.lt
  have hne : b1 ≠ b2 := by omega
  clear hR1 hR2 hB1 hB2
  clear HXE HYE
  go_wp2_with fail
  refine (less_any b1 b2 0 0 32 32 32 x y (by decide) HX.out HY.out _ (Bits.row hX) (Bits.row hY)).mono ?_
  rintro e w5 ⟨rfl, k5, rfl⟩
  obtain ⟨p, hp⟩ : ∃ p, p = decide (x < y) := ⟨_, rfl⟩
  rw [← hp]
  have HP := Lib.hid hp
  clear hp
  go_wp2
  go_ret
  refine ⟨ret_bool ?_, below_drewN hB02 _⟩
  rw [HP.out]
  all_goals (unfold hold32_ge; rw [← decide_not, decide_eq_decide]; omega)

set_option maxRecDepth 100000 in
set_option maxHeartbeats 1600000 in
theorem refHolds32_lt (a b : Int) : Says 50 #[.int .i64 31, .bool true, .int .i64 a, .int .i64 b] (hold32_lt (lowN 32 a) (lowN 32 b)) := by
  intro w
  obtain ⟨x, hxe⟩ : ∃ x, x = lowN 32 a := ⟨_, rfl⟩
  obtain ⟨y, hye⟩ : ∃ y, y = lowN 32 b := ⟨_, rfl⟩
  have hx : x < 2 ^ 32 := by rw [hxe]; exact lowN_lt 32 a
  have hy : y < 2 ^ 32 := by rw [hye]; exact lowN_lt 32 b
  rw [← hxe, ← hye]
  have HXE := Lib.hid hxe
  have HYE := Lib.hid hye
  have HX := Lib.hid hx
  have HY := Lib.hid hy
  clear hxe hye hx hy
  go_enter Try.func50, Try.ntmps50
  go_wp2_with fail
  refine (width_narrow _).mono ?_
  rintro e w0 ⟨rfl, rfl⟩
  go_wp2_with fail
  refine (row_any a 32 32 rfl (by decide) _).mono ?_
  rintro e w1 ⟨b1, rfl, hb1, hR1, hB1⟩
  go_wp2_with fail
  refine (width_narrow _).mono ?_
  rintro e w1' ⟨rfl, rfl⟩
  go_wp2_with fail
  refine (row_any b 32 32 rfl (by decide) _).mono ?_
  rintro e w2 ⟨b2, rfl, hb2, hR2, hB2⟩
  have hX := row_low (hR1.below hB2 hR1.lt)
  have hY := row_low hR2
  rw [← HXE.out] at hX
  rw [← HYE.out] at hY
  have hs1 := hB1.size
  have hB02 := hB1.trans (hB2.mono hs1)
  have hs2 := hB02.size
  have hl1 := hR1.lt
  have hne : b1 ≠ b2 := by omega
  clear hR1 hR2 hB1 hB2
  clear HXE HYE
  go_wp2_with fail
  refine (less_any b1 b2 0 0 32 32 32 x y (by decide) HX.out HY.out _ (Bits.row hX) (Bits.row hY)).mono ?_
  rintro e w5 ⟨rfl, k5, rfl⟩
  obtain ⟨p, hp⟩ : ∃ p, p = decide (x < y) := ⟨_, rfl⟩
  rw [← hp]
  have HP := Lib.hid hp
  clear hp
  go_wp2
  go_ret
  refine ⟨ret_bool ?_, below_drewN hB02 _⟩
  rw [HP.out]
  all_goals (rfl)

set_option maxRecDepth 100000 in
set_option maxHeartbeats 1600000 in
theorem refHolds32_le (a b : Int) : Says 50 #[.int .i64 32, .bool true, .int .i64 a, .int .i64 b] (hold32_le (lowN 32 a) (lowN 32 b)) := by
  intro w
  obtain ⟨x, hxe⟩ : ∃ x, x = lowN 32 a := ⟨_, rfl⟩
  obtain ⟨y, hye⟩ : ∃ y, y = lowN 32 b := ⟨_, rfl⟩
  have hx : x < 2 ^ 32 := by rw [hxe]; exact lowN_lt 32 a
  have hy : y < 2 ^ 32 := by rw [hye]; exact lowN_lt 32 b
  rw [← hxe, ← hye]
  have HXE := Lib.hid hxe
  have HYE := Lib.hid hye
  have HX := Lib.hid hx
  have HY := Lib.hid hy
  clear hxe hye hx hy
  go_enter Try.func50, Try.ntmps50
  go_wp2_with fail
  refine (width_narrow _).mono ?_
  rintro e w0 ⟨rfl, rfl⟩
  go_wp2_with fail
  refine (row_any a 32 32 rfl (by decide) _).mono ?_
  rintro e w1 ⟨b1, rfl, hb1, hR1, hB1⟩
  go_wp2_with fail
  refine (width_narrow _).mono ?_
  rintro e w1' ⟨rfl, rfl⟩
  go_wp2_with fail
  refine (row_any b 32 32 rfl (by decide) _).mono ?_
  rintro e w2 ⟨b2, rfl, hb2, hR2, hB2⟩
  have hX := row_low (hR1.below hB2 hR1.lt)
  have hY := row_low hR2
  rw [← HXE.out] at hX
  rw [← HYE.out] at hY
  have hs1 := hB1.size
  have hB02 := hB1.trans (hB2.mono hs1)
  have hs2 := hB02.size
  have hl1 := hR1.lt
  have hne : b1 ≠ b2 := by omega
  clear hR1 hR2 hB1 hB2
  clear HXE HYE
  go_wp2_with fail
  refine (less_any b2 b1 0 0 32 32 32 y x (by decide) HY.out HX.out _ (Bits.row hY) (Bits.row hX)).mono ?_
  rintro e w5 ⟨rfl, k5, rfl⟩
  obtain ⟨p, hp⟩ : ∃ p, p = decide (y < x) := ⟨_, rfl⟩
  rw [← hp]
  have HP := Lib.hid hp
  clear hp
  go_wp2
  go_ret
  refine ⟨ret_bool ?_, below_drewN hB02 _⟩
  rw [HP.out]
  all_goals (unfold hold32_le; rw [← decide_not, decide_eq_decide]; omega)

set_option maxRecDepth 100000 in
set_option maxHeartbeats 1600000 in
theorem refHolds32_sgt (a b : Int) : Says 50 #[.int .i64 33, .bool true, .int .i64 a, .int .i64 b] (hold32_sgt (lowN 32 a) (lowN 32 b)) := by
  intro w
  obtain ⟨x, hxe⟩ : ∃ x, x = lowN 32 a := ⟨_, rfl⟩
  obtain ⟨y, hye⟩ : ∃ y, y = lowN 32 b := ⟨_, rfl⟩
  have hx : x < 2 ^ 32 := by rw [hxe]; exact lowN_lt 32 a
  have hy : y < 2 ^ 32 := by rw [hye]; exact lowN_lt 32 b
  rw [← hxe, ← hye]
  have HXE := Lib.hid hxe
  have HYE := Lib.hid hye
  have HX := Lib.hid hx
  have HY := Lib.hid hy
  clear hxe hye hx hy
  go_enter Try.func50, Try.ntmps50
  go_wp2_with fail
  refine (width_narrow _).mono ?_
  rintro e w0 ⟨rfl, rfl⟩
  go_wp2_with fail
  refine (row_any a 32 32 rfl (by decide) _).mono ?_
  rintro e w1 ⟨b1, rfl, hb1, hR1, hB1⟩
  go_wp2_with fail
  refine (width_narrow _).mono ?_
  rintro e w1' ⟨rfl, rfl⟩
  go_wp2_with fail
  refine (row_any b 32 32 rfl (by decide) _).mono ?_
  rintro e w2 ⟨b2, rfl, hb2, hR2, hB2⟩
  have hX := row_low (hR1.below hB2 hR1.lt)
  have hY := row_low hR2
  rw [← HXE.out] at hX
  rw [← HYE.out] at hY
  have hs1 := hB1.size
  have hB02 := hB1.trans (hB2.mono hs1)
  have hs2 := hB02.size
  have hl1 := hR1.lt
  have hne : b1 ≠ b2 := by omega
  clear hR1 hR2 hB1 hB2
  clear HXE HYE
  have e1 := (hX.cell 31).trans (itab_get _ (by decide))
  have f1 := hX.free 31
  have r1 := bit_nonneg x 31
  have r2 := bit_le x 31
  have r3 := bit_nonneg y 31
  have r4 := bit_le y 31
  have hX3 := hX.put 31 (.int .i64 (1 - bit x 31))
  rw [itab_set] at hX3
  rw [flip_row 31 x] at hX3
  have hY3 := hY.other ⟨b1, 31, none⟩ (.int .i64 (1 - bit x 31)) (by show b2 ≠ b1; omega)
  have hB3 : Below w.heap.size w (w2.setCell ⟨b1, 31, none⟩ (.int .i64 (1 - bit x 31))) := hB02.setCell (by show w.heap.size ≤ b1; omega) _
  generalize hW3 : w2.setCell ⟨b1, 31, none⟩ (.int .i64 (1 - bit x 31)) = w3 at hX3 hY3 hB3
  have e2 := (hY3.cell 31).trans (itab_get _ (by decide))
  have f2 := hY3.free 31
  have hY4 := hY3.put 31 (.int .i64 (1 - bit y 31))
  rw [itab_set] at hY4
  rw [flip_row 31 y] at hY4
  have hX4 := hX3.other ⟨b2, 31, none⟩ (.int .i64 (1 - bit y 31)) (by show b1 ≠ b2; omega)
  have hB4 : Below w.heap.size w (w3.setCell ⟨b2, 31, none⟩ (.int .i64 (1 - bit y 31))) := hB3.setCell (by show w.heap.size ≤ b2; omega) _
  generalize hW4 : w3.setCell ⟨b2, 31, none⟩ (.int .i64 (1 - bit y 31)) = w4 at hX4 hY4 hB4
  have hX5 := Lib.hid hX4
  have hY5 := Lib.hid hY4
  have hB5 := Lib.hid hB4
  clear hX hY hX3 hY3 hB3 hX4 hY4 hB4
  go_wp2_with fail
  refine (less_any b2 b1 0 0 32 32 32 (flip 31 y) (flip 31 x) (by decide) (flip_lt 31 _) (flip_lt 31 _) _ (Bits.row hY5.out) (Bits.row hX5.out)).mono ?_
  rintro e w5 ⟨rfl, k5, rfl⟩
  obtain ⟨p, hp⟩ : ∃ p, p = decide ((flip 31 y) < (flip 31 x)) := ⟨_, rfl⟩
  rw [← hp]
  have HP := Lib.hid hp
  clear hp
  go_wp2
  go_ret
  refine ⟨ret_bool ?_, below_drewN hB5.out _⟩
  rw [HP.out]
  all_goals (unfold hold32_sgt; rw [sgn_flip32 HX.out, sgn_flip32 HY.out]; rw [decide_eq_decide]; omega)

set_option maxRecDepth 100000 in
set_option maxHeartbeats 1600000 in
theorem refHolds32_sge (a b : Int) : Says 50 #[.int .i64 34, .bool true, .int .i64 a, .int .i64 b] (hold32_sge (lowN 32 a) (lowN 32 b)) := by
  intro w
  obtain ⟨x, hxe⟩ : ∃ x, x = lowN 32 a := ⟨_, rfl⟩
  obtain ⟨y, hye⟩ : ∃ y, y = lowN 32 b := ⟨_, rfl⟩
  have hx : x < 2 ^ 32 := by rw [hxe]; exact lowN_lt 32 a
  have hy : y < 2 ^ 32 := by rw [hye]; exact lowN_lt 32 b
  rw [← hxe, ← hye]
  have HXE := Lib.hid hxe
  have HYE := Lib.hid hye
  have HX := Lib.hid hx
  have HY := Lib.hid hy
  clear hxe hye hx hy
  go_enter Try.func50, Try.ntmps50
  go_wp2_with fail
  refine (width_narrow _).mono ?_
  rintro e w0 ⟨rfl, rfl⟩
  go_wp2_with fail
  refine (row_any a 32 32 rfl (by decide) _).mono ?_
  rintro e w1 ⟨b1, rfl, hb1, hR1, hB1⟩
  go_wp2_with fail
  refine (width_narrow _).mono ?_
  rintro e w1' ⟨rfl, rfl⟩
  go_wp2_with fail
  refine (row_any b 32 32 rfl (by decide) _).mono ?_
  rintro e w2 ⟨b2, rfl, hb2, hR2, hB2⟩
  have hX := row_low (hR1.below hB2 hR1.lt)
  have hY := row_low hR2
  rw [← HXE.out] at hX
  rw [← HYE.out] at hY
  have hs1 := hB1.size
  have hB02 := hB1.trans (hB2.mono hs1)
  have hs2 := hB02.size
  have hl1 := hR1.lt
  have hne : b1 ≠ b2 := by omega
  clear hR1 hR2 hB1 hB2
  clear HXE HYE
  have e1 := (hX.cell 31).trans (itab_get _ (by decide))
  have f1 := hX.free 31
  have r1 := bit_nonneg x 31
  have r2 := bit_le x 31
  have r3 := bit_nonneg y 31
  have r4 := bit_le y 31
  have hX3 := hX.put 31 (.int .i64 (1 - bit x 31))
  rw [itab_set] at hX3
  rw [flip_row 31 x] at hX3
  have hY3 := hY.other ⟨b1, 31, none⟩ (.int .i64 (1 - bit x 31)) (by show b2 ≠ b1; omega)
  have hB3 : Below w.heap.size w (w2.setCell ⟨b1, 31, none⟩ (.int .i64 (1 - bit x 31))) := hB02.setCell (by show w.heap.size ≤ b1; omega) _
  generalize hW3 : w2.setCell ⟨b1, 31, none⟩ (.int .i64 (1 - bit x 31)) = w3 at hX3 hY3 hB3
  have e2 := (hY3.cell 31).trans (itab_get _ (by decide))
  have f2 := hY3.free 31
  have hY4 := hY3.put 31 (.int .i64 (1 - bit y 31))
  rw [itab_set] at hY4
  rw [flip_row 31 y] at hY4
  have hX4 := hX3.other ⟨b2, 31, none⟩ (.int .i64 (1 - bit y 31)) (by show b1 ≠ b2; omega)
  have hB4 : Below w.heap.size w (w3.setCell ⟨b2, 31, none⟩ (.int .i64 (1 - bit y 31))) := hB3.setCell (by show w.heap.size ≤ b2; omega) _
  generalize hW4 : w3.setCell ⟨b2, 31, none⟩ (.int .i64 (1 - bit y 31)) = w4 at hX4 hY4 hB4
  have hX5 := Lib.hid hX4
  have hY5 := Lib.hid hY4
  have hB5 := Lib.hid hB4
  clear hX hY hX3 hY3 hB3 hX4 hY4 hB4
  go_wp2_with fail
  refine (less_any b1 b2 0 0 32 32 32 (flip 31 x) (flip 31 y) (by decide) (flip_lt 31 _) (flip_lt 31 _) _ (Bits.row hX5.out) (Bits.row hY5.out)).mono ?_
  rintro e w5 ⟨rfl, k5, rfl⟩
  obtain ⟨p, hp⟩ : ∃ p, p = decide ((flip 31 x) < (flip 31 y)) := ⟨_, rfl⟩
  rw [← hp]
  have HP := Lib.hid hp
  clear hp
  go_wp2
  go_ret
  refine ⟨ret_bool ?_, below_drewN hB5.out _⟩
  rw [HP.out]
  all_goals (unfold hold32_sge; rw [sgn_flip32 HX.out, sgn_flip32 HY.out]; rw [← decide_not, decide_eq_decide]; omega)

set_option maxRecDepth 100000 in
set_option maxHeartbeats 1600000 in
theorem refHolds32_slt (a b : Int) : Says 50 #[.int .i64 35, .bool true, .int .i64 a, .int .i64 b] (hold32_slt (lowN 32 a) (lowN 32 b)) := by
  intro w
  obtain ⟨x, hxe⟩ : ∃ x, x = lowN 32 a := ⟨_, rfl⟩
  obtain ⟨y, hye⟩ : ∃ y, y = lowN 32 b := ⟨_, rfl⟩
  have hx : x < 2 ^ 32 := by rw [hxe]; exact lowN_lt 32 a
  have hy : y < 2 ^ 32 := by rw [hye]; exact lowN_lt 32 b
  rw [← hxe, ← hye]
  have HXE := Lib.hid hxe
  have HYE := Lib.hid hye
  have HX := Lib.hid hx
  have HY := Lib.hid hy
  clear hxe hye hx hy
  go_enter Try.func50, Try.ntmps50
  go_wp2_with fail
  refine (width_narrow _).mono ?_
  rintro e w0 ⟨rfl, rfl⟩
  go_wp2_with fail
  refine (row_any a 32 32 rfl (by decide) _).mono ?_
  rintro e w1 ⟨b1, rfl, hb1, hR1, hB1⟩
  go_wp2_with fail
  refine (width_narrow _).mono ?_
  rintro e w1' ⟨rfl, rfl⟩
  go_wp2_with fail
  refine (row_any b 32 32 rfl (by decide) _).mono ?_
  rintro e w2 ⟨b2, rfl, hb2, hR2, hB2⟩
  have hX := row_low (hR1.below hB2 hR1.lt)
  have hY := row_low hR2
  rw [← HXE.out] at hX
  rw [← HYE.out] at hY
  have hs1 := hB1.size
  have hB02 := hB1.trans (hB2.mono hs1)
  have hs2 := hB02.size
  have hl1 := hR1.lt
  have hne : b1 ≠ b2 := by omega
  clear hR1 hR2 hB1 hB2
  clear HXE HYE
  have e1 := (hX.cell 31).trans (itab_get _ (by decide))
  have f1 := hX.free 31
  have r1 := bit_nonneg x 31
  have r2 := bit_le x 31
  have r3 := bit_nonneg y 31
  have r4 := bit_le y 31
  have hX3 := hX.put 31 (.int .i64 (1 - bit x 31))
  rw [itab_set] at hX3
  rw [flip_row 31 x] at hX3
  have hY3 := hY.other ⟨b1, 31, none⟩ (.int .i64 (1 - bit x 31)) (by show b2 ≠ b1; omega)
  have hB3 : Below w.heap.size w (w2.setCell ⟨b1, 31, none⟩ (.int .i64 (1 - bit x 31))) := hB02.setCell (by show w.heap.size ≤ b1; omega) _
  generalize hW3 : w2.setCell ⟨b1, 31, none⟩ (.int .i64 (1 - bit x 31)) = w3 at hX3 hY3 hB3
  have e2 := (hY3.cell 31).trans (itab_get _ (by decide))
  have f2 := hY3.free 31
  have hY4 := hY3.put 31 (.int .i64 (1 - bit y 31))
  rw [itab_set] at hY4
  rw [flip_row 31 y] at hY4
  have hX4 := hX3.other ⟨b2, 31, none⟩ (.int .i64 (1 - bit y 31)) (by show b1 ≠ b2; omega)
  have hB4 : Below w.heap.size w (w3.setCell ⟨b2, 31, none⟩ (.int .i64 (1 - bit y 31))) := hB3.setCell (by show w.heap.size ≤ b2; omega) _
  generalize hW4 : w3.setCell ⟨b2, 31, none⟩ (.int .i64 (1 - bit y 31)) = w4 at hX4 hY4 hB4
  have hX5 := Lib.hid hX4
  have hY5 := Lib.hid hY4
  have hB5 := Lib.hid hB4
  clear hX hY hX3 hY3 hB3 hX4 hY4 hB4
  go_wp2_with fail
  refine (less_any b1 b2 0 0 32 32 32 (flip 31 x) (flip 31 y) (by decide) (flip_lt 31 _) (flip_lt 31 _) _ (Bits.row hX5.out) (Bits.row hY5.out)).mono ?_
  rintro e w5 ⟨rfl, k5, rfl⟩
  obtain ⟨p, hp⟩ : ∃ p, p = decide ((flip 31 x) < (flip 31 y)) := ⟨_, rfl⟩
  rw [← hp]
  have HP := Lib.hid hp
  clear hp
  go_wp2
  go_ret
  refine ⟨ret_bool ?_, below_drewN hB5.out _⟩
  rw [HP.out]
  all_goals (unfold hold32_slt; rw [sgn_flip32 HX.out, sgn_flip32 HY.out]; rw [decide_eq_decide]; omega)

set_option maxRecDepth 100000 in
set_option maxHeartbeats 1600000 in
theorem refHolds32_sle (a b : Int) : Says 50 #[.int .i64 36, .bool true, .int .i64 a, .int .i64 b] (hold32_sle (lowN 32 a) (lowN 32 b)) := by
  intro w
  obtain ⟨x, hxe⟩ : ∃ x, x = lowN 32 a := ⟨_, rfl⟩
  obtain ⟨y, hye⟩ : ∃ y, y = lowN 32 b := ⟨_, rfl⟩
  have hx : x < 2 ^ 32 := by rw [hxe]; exact lowN_lt 32 a
  have hy : y < 2 ^ 32 := by rw [hye]; exact lowN_lt 32 b
  rw [← hxe, ← hye]
  have HXE := Lib.hid hxe
  have HYE := Lib.hid hye
  have HX := Lib.hid hx
  have HY := Lib.hid hy
  clear hxe hye hx hy
  go_enter Try.func50, Try.ntmps50
  go_wp2_with fail
  refine (width_narrow _).mono ?_
  rintro e w0 ⟨rfl, rfl⟩
  go_wp2_with fail
  refine (row_any a 32 32 rfl (by decide) _).mono ?_
  rintro e w1 ⟨b1, rfl, hb1, hR1, hB1⟩
  go_wp2_with fail
  refine (width_narrow _).mono ?_
  rintro e w1' ⟨rfl, rfl⟩
  go_wp2_with fail
  refine (row_any b 32 32 rfl (by decide) _).mono ?_
  rintro e w2 ⟨b2, rfl, hb2, hR2, hB2⟩
  have hX := row_low (hR1.below hB2 hR1.lt)
  have hY := row_low hR2
  rw [← HXE.out] at hX
  rw [← HYE.out] at hY
  have hs1 := hB1.size
  have hB02 := hB1.trans (hB2.mono hs1)
  have hs2 := hB02.size
  have hl1 := hR1.lt
  have hne : b1 ≠ b2 := by omega
  clear hR1 hR2 hB1 hB2
  clear HXE HYE
  have e1 := (hX.cell 31).trans (itab_get _ (by decide))
  have f1 := hX.free 31
  have r1 := bit_nonneg x 31
  have r2 := bit_le x 31
  have r3 := bit_nonneg y 31
  have r4 := bit_le y 31
  have hX3 := hX.put 31 (.int .i64 (1 - bit x 31))
  rw [itab_set] at hX3
  rw [flip_row 31 x] at hX3
  have hY3 := hY.other ⟨b1, 31, none⟩ (.int .i64 (1 - bit x 31)) (by show b2 ≠ b1; omega)
  have hB3 : Below w.heap.size w (w2.setCell ⟨b1, 31, none⟩ (.int .i64 (1 - bit x 31))) := hB02.setCell (by show w.heap.size ≤ b1; omega) _
  generalize hW3 : w2.setCell ⟨b1, 31, none⟩ (.int .i64 (1 - bit x 31)) = w3 at hX3 hY3 hB3
  have e2 := (hY3.cell 31).trans (itab_get _ (by decide))
  have f2 := hY3.free 31
  have hY4 := hY3.put 31 (.int .i64 (1 - bit y 31))
  rw [itab_set] at hY4
  rw [flip_row 31 y] at hY4
  have hX4 := hX3.other ⟨b2, 31, none⟩ (.int .i64 (1 - bit y 31)) (by show b1 ≠ b2; omega)
  have hB4 : Below w.heap.size w (w3.setCell ⟨b2, 31, none⟩ (.int .i64 (1 - bit y 31))) := hB3.setCell (by show w.heap.size ≤ b2; omega) _
  generalize hW4 : w3.setCell ⟨b2, 31, none⟩ (.int .i64 (1 - bit y 31)) = w4 at hX4 hY4 hB4
  have hX5 := Lib.hid hX4
  have hY5 := Lib.hid hY4
  have hB5 := Lib.hid hB4
  clear hX hY hX3 hY3 hB3 hX4 hY4 hB4
  go_wp2_with fail
  refine (less_any b2 b1 0 0 32 32 32 (flip 31 y) (flip 31 x) (by decide) (flip_lt 31 _) (flip_lt 31 _) _ (Bits.row hY5.out) (Bits.row hX5.out)).mono ?_
  rintro e w5 ⟨rfl, k5, rfl⟩
  obtain ⟨p, hp⟩ : ∃ p, p = decide ((flip 31 y) < (flip 31 x)) := ⟨_, rfl⟩
  rw [← hp]
  have HP := Lib.hid hp
  clear hp
  go_wp2
  go_ret
  refine ⟨ret_bool ?_, below_drewN hB5.out _⟩
  rw [HP.out]
  all_goals (unfold hold32_sle; rw [sgn_flip32 HX.out, sgn_flip32 HY.out]; rw [← decide_not, decide_eq_decide]; omega)

set_option maxRecDepth 100000 in
set_option maxHeartbeats 1600000 in
theorem refHolds32_set (a b : Int) : Says 50 #[.int .i64 37, .bool true, .int .i64 a, .int .i64 b] (hold32_set (lowN 32 a) (lowN 32 b)) := by
  intro w
  obtain ⟨x, hxe⟩ : ∃ x, x = lowN 32 a := ⟨_, rfl⟩
  obtain ⟨y, hye⟩ : ∃ y, y = lowN 32 b := ⟨_, rfl⟩
  have hx : x < 2 ^ 32 := by rw [hxe]; exact lowN_lt 32 a
  have hy : y < 2 ^ 32 := by rw [hye]; exact lowN_lt 32 b
  rw [← hxe, ← hye]
  have HXE := Lib.hid hxe
  have HYE := Lib.hid hye
  have HX := Lib.hid hx
  have HY := Lib.hid hy
  clear hxe hye hx hy
  go_enter Try.func50, Try.ntmps50
  go_wp2_with fail
  refine (width_narrow _).mono ?_
  rintro e w0 ⟨rfl, rfl⟩
  go_wp2_with fail
  refine (row_any a 32 32 rfl (by decide) _).mono ?_
  rintro e w1 ⟨b1, rfl, hb1, hR1, hB1⟩
  go_wp2_with fail
  refine (width_narrow _).mono ?_
  rintro e w1' ⟨rfl, rfl⟩
  go_wp2_with fail
  refine (row_any b 32 32 rfl (by decide) _).mono ?_
  rintro e w2 ⟨b2, rfl, hb2, hR2, hB2⟩
  have hX := row_low (hR1.below hB2 hR1.lt)
  have hY := row_low hR2
  rw [← HXE.out] at hX
  rw [← HYE.out] at hY
  have hs1 := hB1.size
  have hB02 := hB1.trans (hB2.mono hs1)
  have hs2 := hB02.size
  have hl1 := hR1.lt
  have hne : b1 ≠ b2 := by omega
  clear hR1 hR2 hB1 hB2
  clear HXE HYE
  have e1 := (Bits.row hX).2
  have e2 := (Bits.row hY).2
  have E1 := Lib.hid e1
  have E2 := Lib.hid e2
  have HB := Lib.hid hB02
  clear hX hY e1 e2 hB02
  go_wp2
  go_loopw [11] (fun s wr => ∃ i q : Nat, i ≤ 32 ∧ s = .int .i64 i ∧ (∀ t, t < i → ¬ bit x t + bit y t = 2) ∧ wr = w2.drewN q) (fun s _ => (32 - intOf s).toNat)
  case atStart => exact ⟨0, 0, by omega, rfl, fun t ht => absurd ht (Nat.not_lt_zero t), rfl⟩
  case round =>
    obtain ⟨i, q, hi, rfl, hno, rfl⟩ := hrel
    have HN := Lib.hid hno
    clear hno
    by_cases hlt : i < 32
    · have e1 := E1.out i hlt
      have e2 := E2.out i hlt
      have z0 : 0 + i = i := Nat.zero_add i
      rw [z0] at e1 e2
      clear z0
      have r1 := bit_nonneg x i
      have r2 := bit_le x i
      have r3 := bit_nonneg y i
      have r4 := bit_le y i
      by_cases hb : bit x i + bit y i = 2
      · have hbf : (bit x i + bit y i == 2) = true := by simpa using hb
        have HH := Lib.hid hb
        clear hb
        go_wp2
        go_quiet (fail)
        go_wp2
        go_ret
        refine ⟨ret_bool ?_, below_drewN (below_drewN HB.out _) _⟩
        unfold hold32_set
        simp [set_some HH.out]
      · have hbf : (bit x i + bit y i == 2) = false := by simpa using hb
        have HH := Lib.hid hb
        clear hb
        go_wp2
        go_quiet (fail)
        go_wp2
        go_roundw
        case rel => exact ⟨i + 1, _, by omega, by go_num, fun t ht => by
          by_cases h : t = i
          · subst h; exact HH.out
          · exact HN.out t (by omega), rfl⟩
        case measure => simp [intOf]; omega
    · obtain rfl : i = 32 := by omega
      go_wp2
      go_ret
      refine ⟨ret_bool ?_, below_drewN HB.out _⟩
      unfold hold32_set
      simp [set_none HX.out HN.out]
end Go.Proofs.Ytcmpohippbjpcaa
