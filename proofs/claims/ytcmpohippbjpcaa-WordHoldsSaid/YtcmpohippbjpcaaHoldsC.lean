/-
  The reference's Holds on 64 bits.
-/
import Derived.Test.YtcmpohippbjpcaaHoldsB
namespace Go.Proofs.Ytcmpohippbjpcaa
open Go.RowKit
set_option linter.unusedVariables false

set_option maxRecDepth 100000 in
set_option maxHeartbeats 1600000 in
theorem refHolds64_eq (a b : Int) : Says 50 #[.int .i64 27, .bool false, .int .i64 a, .int .i64 b] (hold64_eq (lowN 64 a) (lowN 64 b)) := by
  intro w
  obtain ⟨x, hxe⟩ : ∃ x, x = lowN 64 a := ⟨_, rfl⟩
  obtain ⟨y, hye⟩ : ∃ y, y = lowN 64 b := ⟨_, rfl⟩
  have hx : x < 2 ^ 64 := by rw [hxe]; exact lowN_lt 64 a
  have hy : y < 2 ^ 64 := by rw [hye]; exact lowN_lt 64 b
  rw [← hxe, ← hye]
  have HXE := Lib.hid hxe
  have HYE := Lib.hid hye
  have HX := Lib.hid hx
  have HY := Lib.hid hy
  clear hxe hye hx hy
  go_enter Try.func50, Try.ntmps50
  go_wp2_with fail
  refine (width_wide _).mono ?_
  rintro e w0 ⟨rfl, rfl⟩
  go_wp2_with fail
  refine (row_any a 64 64 rfl (by decide) _).mono ?_
  rintro e w1 ⟨b1, rfl, hb1, hR1, hB1⟩
  go_wp2_with fail
  refine (width_wide _).mono ?_
  rintro e w1' ⟨rfl, rfl⟩
  go_wp2_with fail
  refine (row_any b 64 64 rfl (by decide) _).mono ?_
  rintro e w2 ⟨b2, rfl, hb2, hR2, hB2⟩
  have hX := row_low (hR1.below hB2 hR1.lt)
  have hY := row_low hR2
  rw [← HXE.out] at hX
  rw [← HYE.out] at hY
  have hs1 := hB1.size
  have hB02 := hB1.trans (hB2.mono hs1)
  have hs2 := hB02.size
  have hl1 := hR1.lt
  have hne : b1 ≠ b2 := by omega
  clear hR1 hR2 hB1 hB2
  clear HXE HYE
  go_wp2_with fail
  refine (same_any b1 b2 0 0 64 64 64 x y (by decide) HX.out HY.out _ (Bits.row hX) (Bits.row hY)).mono ?_
  rintro e w5 ⟨rfl, k5, rfl⟩
  obtain ⟨p, hp⟩ : ∃ p, p = decide (x = y) := ⟨_, rfl⟩
  rw [← hp]
  have HP := Lib.hid hp
  clear hp
  go_wp2
  go_ret
  refine ⟨ret_bool ?_, below_drewN hB02 _⟩
  rw [HP.out]
  all_goals (rfl)

set_option maxRecDepth 100000 in
set_option maxHeartbeats 1600000 in
theorem refHolds64_ne (a b : Int) : Says 50 #[.int .i64 28, .bool false, .int .i64 a, .int .i64 b] (hold64_ne (lowN 64 a) (lowN 64 b)) := by
  intro w
  obtain ⟨x, hxe⟩ : ∃ x, x = lowN 64 a := ⟨_, rfl⟩
  obtain ⟨y, hye⟩ : ∃ y, y = lowN 64 b := ⟨_, rfl⟩
  have hx : x < 2 ^ 64 := by rw [hxe]; exact lowN_lt 64 a
  have hy : y < 2 ^ 64 := by rw [hye]; exact lowN_lt 64 b
  rw [← hxe, ← hye]
  have HXE := Lib.hid hxe
  have HYE := Lib.hid hye
  have HX := Lib.hid hx
  have HY := Lib.hid hy
  clear hxe hye hx hy
  go_enter Try.func50, Try.ntmps50
  go_wp2_with fail
  refine (width_wide _).mono ?_
  rintro e w0 ⟨rfl, rfl⟩
  go_wp2_with fail
  refine (row_any a 64 64 rfl (by decide) _).mono ?_
  rintro e w1 ⟨b1, rfl, hb1, hR1, hB1⟩
  go_wp2_with fail
  refine (width_wide _).mono ?_
  rintro e w1' ⟨rfl, rfl⟩
  go_wp2_with fail
  refine (row_any b 64 64 rfl (by decide) _).mono ?_
  rintro e w2 ⟨b2, rfl, hb2, hR2, hB2⟩
  have hX := row_low (hR1.below hB2 hR1.lt)
  have hY := row_low hR2
  rw [← HXE.out] at hX
  rw [← HYE.out] at hY
  have hs1 := hB1.size
  have hB02 := hB1.trans (hB2.mono hs1)
  have hs2 := hB02.size
  have hl1 := hR1.lt
  have hne : b1 ≠ b2 := by omega
  clear hR1 hR2 hB1 hB2
  clear HXE HYE
  go_wp2_with fail
  refine (same_any b1 b2 0 0 64 64 64 x y (by decide) HX.out HY.out _ (Bits.row hX) (Bits.row hY)).mono ?_
  rintro e w5 ⟨rfl, k5, rfl⟩
  obtain ⟨p, hp⟩ : ∃ p, p = decide (x = y) := ⟨_, rfl⟩
  rw [← hp]
  have HP := Lib.hid hp
  clear hp
  go_wp2
  go_ret
  refine ⟨ret_bool ?_, below_drewN hB02 _⟩
  rw [HP.out]
  all_goals (rfl)

set_option maxRecDepth 100000 in
set_option maxHeartbeats 1600000 in
theorem refHolds64_gt (a b : Int) : Says 50 #[.int .i64 29, .bool false, .int .i64 a, .int .i64 b] (hold64_gt (lowN 64 a) (lowN 64 b)) := by
  intro w
  obtain ⟨x, hxe⟩ : ∃ x, x = lowN 64 a := ⟨_, rfl⟩
  obtain ⟨y, hye⟩ : ∃ y, y = lowN 64 b := ⟨_, rfl⟩
  have hx : x < 2 ^ 64 := by rw [hxe]; exact lowN_lt 64 a
  have hy : y < 2 ^ 64 := by rw [hye]; exact lowN_lt 64 b
  rw [← hxe, ← hye]
  have HXE := Lib.hid hxe
  have HYE := Lib.hid hye
  have HX := Lib.hid hx
  have HY := Lib.hid hy
  clear hxe hye hx hy
  go_enter Try.func50, Try.ntmps50
  go_wp2_with fail
  refine (width_wide _).mono ?_
  rintro e w0 ⟨rfl, rfl⟩
  go_wp2_with fail
  refine (row_any a 64 64 rfl (by decide) _).mono ?_
  rintro e w1 ⟨b1, rfl, hb1, hR1, hB1⟩
  go_wp2_with fail
  refine (width_wide _).mono ?_
  rintro e w1' ⟨rfl, rfl⟩
  go_wp2_with fail
  refine (row_any b 64 64 rfl (by decide) _).mono ?_
  rintro e w2 ⟨b2, rfl, hb2, hR2, hB2⟩
  have hX := row_low (hR1.below hB2 hR1.lt)
  have hY := row_low hR2
  rw [← HXE.out] at hX
  rw [← HYE.out] at hY
  have hs1 := hB1.size
  have hB02 := hB1.trans (hB2.mono hs1)
  have hs2 := hB02.size
  have hl1 := hR1.lt
  have hne : b1 ≠ b2 := by omega
  clear hR1 hR2 hB1 hB2
  clear HXE HYE
  go_wp2_with fail
  refine (less_any b2 b1 0 0 64 64 64 y x (by decide) HY.out HX.out _ (Bits.row hY) (Bits.row hX)).mono ?_
  rintro e w5 ⟨rfl, k5, rfl⟩
  obtain ⟨p, hp⟩ : ∃ p, p = decide (y < x) := ⟨_, rfl⟩
  rw [← hp]
  have HP := Lib.hid hp
  clear hp
  go_wp2
  go_ret
  refine ⟨ret_bool ?_, below_drewN hB02 _⟩
  rw [HP.out]
  all_goals (rfl)

set_option maxRecDepth 100000 in
set_option maxHeartbeats 1600000 in
theorem refHolds64_ge (a b : Int) : Says 50 #[.int .i64 30, .bool false, .int .i64 a, .int .i64 b] (hold64_ge (lowN 64 a) (lowN 64 b)) := by
  intro w
  obtain ⟨x, hxe⟩ : ∃ x, x = lowN 64 a := ⟨_, rfl⟩
  obtain ⟨y, hye⟩ : ∃ y, y = lowN 64 b := ⟨_, rfl⟩
  have hx : x < 2 ^ 64 := by rw [hxe]; exact lowN_lt 64 a
  have hy : y < 2 ^ 64 := by rw [hye]; exact lowN_lt 64 b
  rw [← hxe, ← hye]
  have HXE := Lib.hid hxe
  have HYE := Lib.hid hye
  have HX := Lib.hid hx
  have HY := Lib.hid hy
  clear hxe hye hx hy
  go_enter Try.func50, Try.ntmps50
  go_wp2_with fail
  refine (width_wide _).mono ?_
  rintro e w0 ⟨rfl, rfl⟩
  go_wp2_with fail
  refine (row_any a 64 64 rfl (by decide) _).mono ?_
  rintro e w1 ⟨b1, rfl, hb1, hR1, hB1⟩
  go_wp2_with fail
  refine (width_wide _).mono ?_
  rintro e w1' ⟨rfl, rfl⟩
  go_wp2_with fail
  refine (row_any b 64 64 rfl (by decide) _).mono ?_
  rintro e w2 ⟨b2, rfl, hb2, hR2, hB2⟩
  have hX := row_low (hR1.below hB2 hR1.lt)
  have hY := row_low hR2
  rw [← HXE.out] at hX
  rw [← HYE.out] at hY
  have hs1 := hB1.size
  have hB02 := hB1.trans (hB2.mono hs1)
  have hs2 := hB02.size
  have hl1 := hR1.lt
  have hne : b1 ≠ b2 := by omega
  clear hR1 hR2 hB1 hB2
  clear HXE HYE
  go_wp2_with fail
  refine (less_any b1 b2 0 0 64 64 64 x y (by decide) HX.out HY.out _ (Bits.row hX) (Bits.row hY)).mono ?_
  rintro e w5 ⟨rfl, k5, rfl⟩
  obtain ⟨p, hp⟩ : ∃ p, p = decide (x < y) := ⟨_, rfl⟩
  rw [← hp]
  have HP := Lib.hid hp
  clear hp
  go_wp2
  go_ret
  refine ⟨ret_bool ?_, below_drewN hB02 _⟩
  rw [HP.out]
  all_goals (unfold hold64_ge; rw [← decide_not, decide_eq_decide]; omega)

set_option maxRecDepth 100000 in
set_option maxHeartbeats 1600000 in
theorem refHolds64_lt (a b : Int) : Says 50 #[.int .i64 31, .bool false, .int .i64 a, .int .i64 b] (hold64_lt (lowN 64 a) (lowN 64 b)) := by
  intro w
  obtain ⟨x, hxe⟩ : ∃ x, x = lowN 64 a := ⟨_, rfl⟩
  obtain ⟨y, hye⟩ : ∃ y, y = lowN 64 b := ⟨_, rfl⟩
  have hx : x < 2 ^ 64 := by rw [hxe]; exact lowN_lt 64 a
  have hy : y < 2 ^ 64 := by rw [hye]; exact lowN_lt 64 b
  rw [← hxe, ← hye]
  have HXE := Lib.hid hxe
  have HYE := Lib.hid hye
  have HX := Lib.hid hx
  have HY := Lib.hid hy
  clear hxe hye hx hy
  go_enter Try.func50, Try.ntmps50
  go_wp2_with fail
  refine (width_wide _).mono ?_
  rintro e w0 ⟨rfl, rfl⟩
  go_wp2_with fail
  refine (row_any a 64 64 rfl (by decide) _).mono ?_
  rintro e w1 ⟨b1, rfl, hb1, hR1, hB1⟩
  go_wp2_with fail
  refine (width_wide _).mono ?_
  rintro e w1' ⟨rfl, rfl⟩
  go_wp2_with fail
  refine (row_any b 64 64 rfl (by decide) _).mono ?_
  rintro e w2 ⟨b2, rfl, hb2, hR2, hB2⟩
  have hX := row_low (hR1.below hB2 hR1.lt)
  have hY := row_low hR2
  rw [← HXE.out] at hX
  rw [← HYE.out] at hY
  have hs1 := hB1.size
  have hB02 := hB1.trans (hB2.mono hs1)
  have hs2 := hB02.size
  have hl1 := hR1.lt
  have hne : b1 ≠ b2 := by omega
  clear hR1 hR2 hB1 hB2
  clear HXE HYE
  go_wp2_with fail
  refine (less_any b1 b2 0 0 64 64 64 x y (by decide) HX.out HY.out _ (Bits.row hX) (Bits.row hY)).mono ?_
  rintro e w5 ⟨rfl, k5, rfl⟩
  obtain ⟨p, hp⟩ : ∃ p, p = decide (x < y) := ⟨_, rfl⟩
  rw [← hp]
  have HP := Lib.hid hp
  clear hp
  go_wp2
  go_ret
  refine ⟨ret_bool ?_, below_drewN hB02 _⟩
  rw [HP.out]
  all_goals (rfl)

set_option maxRecDepth 100000 in
set_option maxHeartbeats 1600000 in
theorem refHolds64_le (a b : Int) : Says 50 #[.int .i64 32, .bool false, .int .i64 a, .int .i64 b] (hold64_le (lowN 64 a) (lowN 64 b)) := by
  intro w
  obtain ⟨x, hxe⟩ : ∃ x, x = lowN 64 a := ⟨_, rfl⟩
  obtain ⟨y, hye⟩ : ∃ y, y = lowN 64 b := ⟨_, rfl⟩
  have hx : x < 2 ^ 64 := by rw [hxe]; exact lowN_lt 64 a
  have hy : y < 2 ^ 64 := by rw [hye]; exact lowN_lt 64 b
  rw [← hxe, ← hye]
  have HXE := Lib.hid hxe
  have HYE := Lib.hid hye
  have HX := Lib.hid hx
  have HY := Lib.hid hy
  clear hxe hye hx hy
  go_enter Try.func50, Try.ntmps50
  go_wp2_with fail
  refine (width_wide _).mono ?_
  rintro e w0 ⟨rfl, rfl⟩
  go_wp2_with fail
  refine (row_any a 64 64 rfl (by decide) _).mono ?_
  rintro e w1 ⟨b1, rfl, hb1, hR1, hB1⟩
  go_wp2_with fail
  refine (width_wide _).mono ?_
  rintro e w1' ⟨rfl, rfl⟩
  go_wp2_with fail
  refine (row_any b 64 64 rfl (by decide) _).mono ?_
  rintro e w2 ⟨b2, rfl, hb2, hR2, hB2⟩
  have hX := row_low (hR1.below hB2 hR1.lt)
  have hY := row_low hR2
  rw [← HXE.out] at hX
  rw [← HYE.out] at hY
  have hs1 := hB1.size
  have hB02 := hB1.trans (hB2.mono hs1)
  have hs2 := hB02.size
  have hl1 := hR1.lt
  have hne : b1 ≠ b2 := by omega
  clear hR1 hR2 hB1 hB2
  clear HXE HYE
  go_wp2_with fail
  refine (less_any b2 b1 0 0 64 64 64 y x (by decide) HY.out HX.out _ (Bits.row hY) (Bits.row hX)).mono ?_
  rintro e w5 ⟨rfl, k5, rfl⟩
  obtain ⟨p, hp⟩ : ∃ p, p = decide (y < x) := ⟨_, rfl⟩
  rw [← hp]
  have HP := Lib.hid hp
  clear hp
  go_wp2
  go_ret
  refine ⟨ret_bool ?_, below_drewN hB02 _⟩
  rw [HP.out]
  all_goals (unfold hold64_le; rw [← decide_not, decide_eq_decide]; omega)

set_option maxRecDepth 100000 in
set_option maxHeartbeats 1600000 in
theorem refHolds64_sgt (a b : Int) : Says 50 #[.int .i64 33, .bool false, .int .i64 a, .int .i64 b] (hold64_sgt (lowN 64 a) (lowN 64 b)) := by
  intro w
  obtain ⟨x, hxe⟩ : ∃ x, x = lowN 64 a := ⟨_, rfl⟩
  obtain ⟨y, hye⟩ : ∃ y, y = lowN 64 b := ⟨_, rfl⟩
  have hx : x < 2 ^ 64 := by rw [hxe]; exact lowN_lt 64 a
  have hy : y < 2 ^ 64 := by rw [hye]; exact lowN_lt 64 b
  rw [← hxe, ← hye]
  have HXE := Lib.hid hxe
  have HYE := Lib.hid hye
  have HX := Lib.hid hx
  have HY := Lib.hid hy
  clear hxe hye hx hy
  go_enter Try.func50, Try.ntmps50
  go_wp2_with fail
  refine (width_wide _).mono ?_
  rintro e w0 ⟨rfl, rfl⟩
  go_wp2_with fail
  refine (row_any a 64 64 rfl (by decide) _).mono ?_
  rintro e w1 ⟨b1, rfl, hb1, hR1, hB1⟩
  go_wp2_with fail
  refine (width_wide _).mono ?_
  rintro e w1' ⟨rfl, rfl⟩
  go_wp2_with fail
  refine (row_any b 64 64 rfl (by decide) _).mono ?_
  rintro e w2 ⟨b2, rfl, hb2, hR2, hB2⟩
  have hX := row_low (hR1.below hB2 hR1.lt)
  have hY := row_low hR2
  rw [← HXE.out] at hX
  rw [← HYE.out] at hY
  have hs1 := hB1.size
  have hB02 := hB1.trans (hB2.mono hs1)
  have hs2 := hB02.size
  have hl1 := hR1.lt
  have hne : b1 ≠ b2 := by omega
  clear hR1 hR2 hB1 hB2
  clear HXE HYE
  have e1 := (hX.cell 63).trans (itab_get _ (by decide))
  have f1 := hX.free 63
  have r1 := bit_nonneg x 63
  have r2 := bit_le x 63
  have r3 := bit_nonneg y 63
  have r4 := bit_le y 63
  have hX3 := hX.put 63 (.int .i64 (1 - bit x 63))
  rw [itab_set] at hX3
  rw [flip_row 63 x] at hX3
  have hY3 := hY.other ⟨b1, 63, none⟩ (.int .i64 (1 - bit x 63)) (by show b2 ≠ b1; omega)
  have hB3 : Below w.heap.size w (w2.setCell ⟨b1, 63, none⟩ (.int .i64 (1 - bit x 63))) := hB02.setCell (by show w.heap.size ≤ b1; omega) _
  generalize hW3 : w2.setCell ⟨b1, 63, none⟩ (.int .i64 (1 - bit x 63)) = w3 at hX3 hY3 hB3
  have e2 := (hY3.cell 63).trans (itab_get _ (by decide))
  have f2 := hY3.free 63
  have hY4 := hY3.put 63 (.int .i64 (1 - bit y 63))
  rw [itab_set] at hY4
  rw [flip_row 63 y] at hY4
  have hX4 := hX3.other ⟨b2, 63, none⟩ (.int .i64 (1 - bit y 63)) (by show b1 ≠ b2; omega)
  have hB4 : Below w.heap.size w (w3.setCell ⟨b2, 63, none⟩ (.int .i64 (1 - bit y 63))) := hB3.setCell (by show w.heap.size ≤ b2; omega) _
  generalize hW4 : w3.setCell ⟨b2, 63, none⟩ (.int .i64 (1 - bit y 63)) = w4 at hX4 hY4 hB4
  have hX5 := Lib.hid hX4
  have hY5 := Lib.hid hY4
  have hB5 := Lib.hid hB4
  clear hX hY hX3 hY3 hB3 hX4 hY4 hB4
  go_wp2_with fail
  refine (less_any b2 b1 0 0 64 64 64 (flip 63 y) (flip 63 x) (by decide) (flip_lt 63 _) (flip_lt 63 _) _ (Bits.row hY5.out) (Bits.row hX5.out)).mono ?_
  rintro e w5 ⟨rfl, k5, rfl⟩
  obtain ⟨p, hp⟩ : ∃ p, p = decide ((flip 63 y) < (flip 63 x)) := ⟨_, rfl⟩
  rw [← hp]
  have HP := Lib.hid hp
  clear hp
  go_wp2
  go_ret
  refine ⟨ret_bool ?_, below_drewN hB5.out _⟩
  rw [HP.out]
  all_goals (unfold hold64_sgt; rw [sgn_flip64 HX.out, sgn_flip64 HY.out]; rw [decide_eq_decide]; omega)

set_option maxRecDepth 100000 in
set_option maxHeartbeats 1600000 in
theorem refHolds64_sge (a b : Int) : Says 50 #[.int .i64 34, .bool false, .int .i64 a, .int .i64 b] (hold64_sge (lowN 64 a) (lowN 64 b)) := by
  intro w
  obtain ⟨x, hxe⟩ : ∃ x, x = lowN 64 a := ⟨_, rfl⟩
  obtain ⟨y, hye⟩ : ∃ y, y = lowN 64 b := ⟨_, rfl⟩
  have hx : x < 2 ^ 64 := by rw [hxe]; exact lowN_lt 64 a
  have hy : y < 2 ^ 64 := by rw [hye]; exact lowN_lt 64 b
  rw [← hxe, ← hye]
  have HXE := Lib.hid hxe
  have HYE := Lib.hid hye
  have HX := Lib.hid hx
  have HY := Lib.hid hy
  clear hxe hye hx hy
  go_enter Try.func50, Try.ntmps50
  go_wp2_with fail
  refine (width_wide _).mono ?_
  rintro e w0 ⟨rfl, rfl⟩
  go_wp2_with fail
  refine (row_any a 64 64 rfl (by decide) _).mono ?_
  rintro e w1 ⟨b1, rfl, hb1, hR1, hB1⟩
  go_wp2_with fail
  refine (width_wide _).mono ?_
  rintro e w1' ⟨rfl, rfl⟩
  go_wp2_with fail
  refine (row_any b 64 64 rfl (by decide) _).mono ?_
  rintro e w2 ⟨b2, rfl, hb2, hR2, hB2⟩
  have hX := row_low (hR1.below hB2 hR1.lt)
  have hY := row_low hR2
  rw [← HXE.out] at hX
  rw [← HYE.out] at hY
  have hs1 := hB1.size
  have hB02 := hB1.trans (hB2.mono hs1)
  have hs2 := hB02.size
  have hl1 := hR1.lt
  have hne : b1 ≠ b2 := by omega
  clear hR1 hR2 hB1 hB2
  clear HXE HYE
  have e1 := (hX.cell 63).trans (itab_get _ (by decide))
  have f1 := hX.free 63
  have r1 := bit_nonneg x 63
  have r2 := bit_le x 63
  have r3 := bit_nonneg y 63
  have r4 := bit_le y 63
  have hX3 := hX.put 63 (.int .i64 (1 - bit x 63))
  rw [itab_set] at hX3
  rw [flip_row 63 x] at hX3
  have hY3 := hY.other ⟨b1, 63, none⟩ (.int .i64 (1 - bit x 63)) (by show b2 ≠ b1; omega)
  have hB3 : Below w.heap.size w (w2.setCell ⟨b1, 63, none⟩ (.int .i64 (1 - bit x 63))) := hB02.setCell (by show w.heap.size ≤ b1; omega) _
  generalize hW3 : w2.setCell ⟨b1, 63, none⟩ (.int .i64 (1 - bit x 63)) = w3 at hX3 hY3 hB3
  have e2 := (hY3.cell 63).trans (itab_get _ (by decide))
  have f2 := hY3.free 63
  have hY4 := hY3.put 63 (.int .i64 (1 - bit y 63))
  rw [itab_set] at hY4
  rw [flip_row 63 y] at hY4
  have hX4 := hX3.other ⟨b2, 63, none⟩ (.int .i64 (1 - bit y 63)) (by show b1 ≠ b2; omega)
  have hB4 : Below w.heap.size w (w3.setCell ⟨b2, 63, none⟩ (.int .i64 (1 - bit y 63))) := hB3.setCell (by show w.heap.size ≤ b2; omega) _
  generalize hW4 : w3.setCell ⟨b2, 63, none⟩ (.int .i64 (1 - bit y 63)) = w4 at hX4 hY4 hB4
  have hX5 := Lib.hid hX4
  have hY5 := Lib.hid hY4
  have hB5 := Lib.hid hB4
  clear hX hY hX3 hY3 hB3 hX4 hY4 hB4
  go_wp2_with fail
  refine (less_any b1 b2 0 0 64 64 64 (flip 63 x) (flip 63 y) (by decide) (flip_lt 63 _) (flip_lt 63 _) _ (Bits.row hX5.out) (Bits.row hY5.out)).mono ?_
  rintro e w5 ⟨rfl, k5, rfl⟩
  obtain ⟨p, hp⟩ : ∃ p, p = decide ((flip 63 x) < (flip 63 y)) := ⟨_, rfl⟩
  rw [← hp]
  have HP := Lib.hid hp
  clear hp
  go_wp2
  go_ret
  refine ⟨ret_bool ?_, below_drewN hB5.out _⟩
  rw [HP.out]
  all_goals (unfold hold64_sge; rw [sgn_flip64 HX.out, sgn_flip64 HY.out]; rw [← decide_not, decide_eq_decide]; omega)

set_option maxRecDepth 100000 in
set_option maxHeartbeats 1600000 in
theorem refHolds64_slt (a b : Int) : Says 50 #[.int .i64 35, .bool false, .int .i64 a, .int .i64 b] (hold64_slt (lowN 64 a) (lowN 64 b)) := by
  intro w
  obtain ⟨x, hxe⟩ : ∃ x, x = lowN 64 a := ⟨_, rfl⟩
  obtain ⟨y, hye⟩ : ∃ y, y = lowN 64 b := ⟨_, rfl⟩
  have hx : x < 2 ^ 64 := by rw [hxe]; exact lowN_lt 64 a
  have hy : y < 2 ^ 64 := by rw [hye]; exact lowN_lt 64 b
  rw [← hxe, ← hye]
  have HXE := Lib.hid hxe
  have HYE := Lib.hid hye
  have HX := Lib.hid hx
  have HY := Lib.hid hy
  clear hxe hye hx hy
  go_enter Try.func50, Try.ntmps50
  go_wp2_with fail
  refine (width_wide _).mono ?_
  rintro e w0 ⟨rfl, rfl⟩
  go_wp2_with fail
  refine (row_any a 64 64 rfl (by decide) _).mono ?_
  rintro e w1 ⟨b1, rfl, hb1, hR1, hB1⟩
  go_wp2_with fail
  refine (width_wide _).mono ?_
  rintro e w1' ⟨rfl, rfl⟩
  go_wp2_with fail
  refine (row_any b 64 64 rfl (by decide) _).mono ?_
  rintro e w2 ⟨b2, rfl, hb2, hR2, hB2⟩
  have hX := row_low (hR1.below hB2 hR1.lt)
  have hY := row_low hR2
  rw [← HXE.out] at hX
  rw [← HYE.out] at hY
  have hs1 := hB1.size
  have hB02 := hB1.trans (hB2.mono hs1)
  have hs2 := hB02.size
  have hl1 := hR1.lt
  have hne : b1 ≠ b2 := by omega
  clear hR1 hR2 hB1 hB2
  clear HXE HYE
  have e1 := (hX.cell 63).trans (itab_get _ (by decide))
  have f1 := hX.free 63
  have r1 := bit_nonneg x 63
  have r2 := bit_le x 63
  have r3 := bit_nonneg y 63
  have r4 := bit_le y 63
  have hX3 := hX.put 63 (.int .i64 (1 - bit x 63))
  rw [itab_set] at hX3
  rw [flip_row 63 x] at hX3
  have hY3 := hY.other ⟨b1, 63, none⟩ (.int .i64 (1 - bit x 63)) (by show b2 ≠ b1; omega)
  have hB3 : Below w.heap.size w (w2.setCell ⟨b1, 63, none⟩ (.int .i64 (1 - bit x 63))) := hB02.setCell (by show w.heap.size ≤ b1; omega) _
  generalize hW3 : w2.setCell ⟨b1, 63, none⟩ (.int .i64 (1 - bit x 63)) = w3 at hX3 hY3 hB3
  have e2 := (hY3.cell 63).trans (itab_get _ (by decide))
  have f2 := hY3.free 63
  have hY4 := hY3.put 63 (.int .i64 (1 - bit y 63))
  rw [itab_set] at hY4
  rw [flip_row 63 y] at hY4
  have hX4 := hX3.other ⟨b2, 63, none⟩ (.int .i64 (1 - bit y 63)) (by show b1 ≠ b2; omega)
  have hB4 : Below w.heap.size w (w3.setCell ⟨b2, 63, none⟩ (.int .i64 (1 - bit y 63))) := hB3.setCell (by show w.heap.size ≤ b2; omega) _
  generalize hW4 : w3.setCell ⟨b2, 63, none⟩ (.int .i64 (1 - bit y 63)) = w4 at hX4 hY4 hB4
  have hX5 := Lib.hid hX4
  have hY5 := Lib.hid hY4
  have hB5 := Lib.hid hB4
  clear hX hY hX3 hY3 hB3 hX4 hY4 hB4
  go_wp2_with fail
  refine (less_any b1 b2 0 0 64 64 64 (flip 63 x) (flip 63 y) (by decide) (flip_lt 63 _) (flip_lt 63 _) _ (Bits.row hX5.out) (Bits.row hY5.out)).mono ?_
  rintro e w5 ⟨rfl, k5, rfl⟩
  obtain ⟨p, hp⟩ : ∃ p, p = decide ((flip 63 x) < (flip 63 y)) := ⟨_, rfl⟩
  rw [← hp]
  have HP := Lib.hid hp
  clear hp
  go_wp2
  go_ret
  refine ⟨ret_bool ?_, below_drewN hB5.out _⟩
  rw [HP.out]
  all_goals (unfold hold64_slt; rw [sgn_flip64 HX.out, sgn_flip64 HY.out]; rw [decide_eq_decide]; omega)

set_option maxRecDepth 100000 in
set_option maxHeartbeats 1600000 in
theorem refHolds64_sle (a b : Int) : Says 50 #[.int .i64 36, .bool false, .int .i64 a, .int .i64 b] (hold64_sle (lowN 64 a) (lowN 64 b)) := by
  intro w
  obtain ⟨x, hxe⟩ : ∃ x, x = lowN 64 a := ⟨_, rfl⟩
  obtain ⟨y, hye⟩ : ∃ y, y = lowN 64 b := ⟨_, rfl⟩
  have hx : x < 2 ^ 64 := by rw [hxe]; exact lowN_lt 64 a
  have hy : y < 2 ^ 64 := by rw [hye]; exact lowN_lt 64 b
  rw [← hxe, ← hye]
  have HXE := Lib.hid hxe
  have HYE := Lib.hid hye
  have HX := Lib.hid hx
  have HY := Lib.hid hy
  clear hxe hye hx hy
  go_enter Try.func50, Try.ntmps50
  go_wp2_with fail
  refine (width_wide _).mono ?_
  rintro e w0 ⟨rfl, rfl⟩
  go_wp2_with fail
  refine (row_any a 64 64 rfl (by decide) _).mono ?_
  rintro e w1 ⟨b1, rfl, hb1, hR1, hB1⟩
  go_wp2_with fail
  refine (width_wide _).mono ?_
  rintro e w1' ⟨rfl, rfl⟩
  go_wp2_with fail
  refine (row_any b 64 64 rfl (by decide) _).mono ?_
  rintro e w2 ⟨b2, rfl, hb2, hR2, hB2⟩
  have hX := row_low (hR1.below hB2 hR1.lt)
  have hY := row_low hR2
  rw [← HXE.out] at hX
  rw [← HYE.out] at hY
  have hs1 := hB1.size
  have hB02 := hB1.trans (hB2.mono hs1)
  have hs2 := hB02.size
  have hl1 := hR1.lt
  have hne : b1 ≠ b2 := by omega
  clear hR1 hR2 hB1 hB2
  clear HXE HYE
  have e1 := (hX.cell 63).trans (itab_get _ (by decide))
  have f1 := hX.free 63
  have r1 := bit_nonneg x 63
  have r2 := bit_le x 63
  have r3 := bit_nonneg y 63
  have r4 := bit_le y 63
  have hX3 := hX.put 63 (.int .i64 (1 - bit x 63))
  rw [itab_set] at hX3
  rw [flip_row 63 x] at hX3
  have hY3 := hY.other ⟨b1, 63, none⟩ (.int .i64 (1 - bit x 63)) (by show b2 ≠ b1; omega)
  have hB3 : Below w.heap.size w (w2.setCell ⟨b1, 63, none⟩ (.int .i64 (1 - bit x 63))) := hB02.setCell (by show w.heap.size ≤ b1; omega) _
  generalize hW3 : w2.setCell ⟨b1, 63, none⟩ (.int .i64 (1 - bit x 63)) = w3 at hX3 hY3 hB3
  have e2 := (hY3.cell 63).trans (itab_get _ (by decide))
  have f2 := hY3.free 63
  have hY4 := hY3.put 63 (.int .i64 (1 - bit y 63))
  rw [itab_set] at hY4
  rw [flip_row 63 y] at hY4
  have hX4 := hX3.other ⟨b2, 63, none⟩ (.int .i64 (1 - bit y 63)) (by show b1 ≠ b2; omega)
  have hB4 : Below w.heap.size w (w3.setCell ⟨b2, 63, none⟩ (.int .i64 (1 - bit y 63))) := hB3.setCell (by show w.heap.size ≤ b2; omega) _
  generalize hW4 : w3.setCell ⟨b2, 63, none⟩ (.int .i64 (1 - bit y 63)) = w4 at hX4 hY4 hB4
  have hX5 := Lib.hid hX4
  have hY5 := Lib.hid hY4
  have hB5 := Lib.hid hB4
  clear hX hY hX3 hY3 hB3 hX4 hY4 hB4
  go_wp2_with fail
  refine (less_any b2 b1 0 0 64 64 64 (flip 63 y) (flip 63 x) (by decide) (flip_lt 63 _) (flip_lt 63 _) _ (Bits.row hY5.out) (Bits.row hX5.out)).mono ?_
  rintro e w5 ⟨rfl, k5, rfl⟩
  obtain ⟨p, hp⟩ : ∃ p, p = decide ((flip 63 y) < (flip 63 x)) := ⟨_, rfl⟩
  rw [← hp]
  have HP := Lib.hid hp
  clear hp
  go_wp2
  go_ret
  refine ⟨ret_bool ?_, below_drewN hB5.out _⟩
  rw [HP.out]
  all_goals (unfold hold64_sle; rw [sgn_flip64 HX.out, sgn_flip64 HY.out]; rw [← decide_not, decide_eq_decide]; omega)

set_option maxRecDepth 100000 in
set_option maxHeartbeats 1600000 in
theorem refHolds64_set (a b : Int) : Says 50 #[.int .i64 37, .bool false, .int .i64 a, .int .i64 b] (hold64_set (lowN 64 a) (lowN 64 b)) := by
  intro w
  obtain ⟨x, hxe⟩ : ∃ x, x = lowN 64 a := ⟨_, rfl⟩
  obtain ⟨y, hye⟩ : ∃ y, y = lowN 64 b := ⟨_, rfl⟩
  have hx : x < 2 ^ 64 := by rw [hxe]; exact lowN_lt 64 a
  have hy : y < 2 ^ 64 := by rw [hye]; exact lowN_lt 64 b
  rw [← hxe, ← hye]
  have HXE := Lib.hid hxe
  have HYE := Lib.hid hye
  have HX := Lib.hid hx
  have HY := Lib.hid hy
  clear hxe hye hx hy
  go_enter Try.func50, Try.ntmps50
  go_wp2_with fail
  refine (width_wide _).mono ?_
  rintro e w0 ⟨rfl, rfl⟩
  go_wp2_with fail
  refine (row_any a 64 64 rfl (by decide) _).mono ?_
  rintro e w1 ⟨b1, rfl, hb1, hR1, hB1⟩
  go_wp2_with fail
  refine (width_wide _).mono ?_
  rintro e w1' ⟨rfl, rfl⟩
  go_wp2_with fail
  refine (row_any b 64 64 rfl (by decide) _).mono ?_
  rintro e w2 ⟨b2, rfl, hb2, hR2, hB2⟩
  have hX := row_low (hR1.below hB2 hR1.lt)
  have hY := row_low hR2
  rw [← HXE.out] at hX
  rw [← HYE.out] at hY
  have hs1 := hB1.size
  have hB02 := hB1.trans (hB2.mono hs1)
  have hs2 := hB02.size
  have hl1 := hR1.lt
  have hne : b1 ≠ b2 := by omega
  clear hR1 hR2 hB1 hB2
  clear HXE HYE
  have e1 := (Bits.row hX).2
  have e2 := (Bits.row hY).2
  have E1 := Lib.hid e1
  have E2 := Lib.hid e2
  have HB := Lib.hid hB02
  clear hX hY e1 e2 hB02
  go_wp2
  go_loopw [11] (fun s wr => ∃ i q : Nat, i ≤ 64 ∧ s = .int .i64 i ∧ (∀ t, t < i → ¬ bit x t + bit y t = 2) ∧ wr = w2.drewN q) (fun s _ => (64 - intOf s).toNat)
  case atStart => exact ⟨0, 0, by omega, rfl, fun t ht => absurd ht (Nat.not_lt_zero t), rfl⟩
  case round =>
    obtain ⟨i, q, hi, rfl, hno, rfl⟩ := hrel
    have HN := Lib.hid hno
    clear hno
    by_cases hlt : i < 64
    · have e1 := E1.out i hlt
      have e2 := E2.out i hlt
      have z0 : 0 + i = i := Nat.zero_add i
      rw [z0] at e1 e2
      clear z0
      have r1 := bit_nonneg x i
      have r2 := bit_le x i
      have r3 := bit_nonneg y i
      have r4 := bit_le y i
      by_cases hb : bit x i + bit y i = 2
      · have hbf : (bit x i + bit y i == 2) = true := by simpa using hb
        have HH := Lib.hid hb
        clear hb
        go_wp2
        go_quiet (fail)
        go_wp2
        go_ret
        refine ⟨ret_bool ?_, below_drewN (below_drewN HB.out _) _⟩
        unfold hold64_set
        simp [set_some HH.out]
      · have hbf : (bit x i + bit y i == 2) = false := by simpa using hb
        have HH := Lib.hid hb
        clear hb
        go_wp2
        go_quiet (fail)
        go_wp2
        go_roundw
        case rel => exact ⟨i + 1, _, by omega, by go_num, fun t ht => by
          by_cases h : t = i
          · subst h; exact HH.out
          · exact HN.out t (by omega), rfl⟩
        case measure => simp [intOf]; omega
    · obtain rfl : i = 64 := by omega
      go_wp2
      go_ret
      refine ⟨ret_bool ?_, below_drewN HB.out _⟩
      unfold hold64_set
      simp [set_none HX.out HN.out]
end Go.Proofs.Ytcmpohippbjpcaa
