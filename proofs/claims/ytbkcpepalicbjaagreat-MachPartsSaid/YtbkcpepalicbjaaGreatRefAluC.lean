/-
  The reference's Alu: each operation, at 64 and 32 bits.
-/
import Derived.Test.YtbkcpepalicbjaaGreatRefAluB
namespace Go.Proofs.YtbkcpepalicbjaaGreat
open Go.RowKit
set_option linter.unusedVariables false

/-- Operation 1 on 32 bits. -/
def val32_add (x y : Nat) : Nat := x + y + 0
set_option maxHeartbeats 1600000 in
theorem refAlu32_add (a b : Int) (w : World) :
    Calls Tryz.prog 172 #[.int .i64 1, .bool true, .int .i64 a, .int .i64 b] w fun e w' =>
      e = .returned (.tuple #[.int .i64 (wrap64 ((val32_add (lowN 32 a) (lowN 32 b) % 2 ^ 32 : Nat) : Int)), .int .i64 0]) ∧ Below w.heap.size w w' := by
  obtain ⟨R, hR⟩ : ∃ R, R = val32_add (lowN 32 a) (lowN 32 b) := ⟨_, rfl⟩
  have HR := Lib.hid hR
  rw [← hR]
  clear hR
  go_enter Tryz.func172, Tryz.ntmps172
  go_wp2_with fail
  refine (width_narrow _).mono ?_
  rintro e w0 ⟨rfl, rfl⟩
  go_wp2_with fail
  refine (row_any a 32 32 rfl (by decide) _).mono ?_
  rintro e w1 ⟨b1, rfl, hb1, hR1, hB1⟩
  go_wp2_with fail
  refine (width_narrow _).mono ?_
  rintro e w1' ⟨rfl, rfl⟩
  go_wp2_with fail
  refine (row_any b 32 32 rfl (by decide) _).mono ?_
  rintro e w2 ⟨b2, rfl, hb2, hR2, hB2⟩
  have hX := Bits.row (row_low (hR1.below hB2 hR1.lt))
  have hY := Bits.row (row_low hR2)
  have hs1 := hB1.size
  have hB02 := hB1.trans (hB2.mono hs1)
  have hs2 := hB02.size
  have hx := lowN_lt 32 a
  have hy := lowN_lt 32 b
  obtain ⟨x, hxe⟩ : ∃ x, x = lowN 32 a := ⟨_, rfl⟩
  obtain ⟨y, hye⟩ : ∃ y, y = lowN 32 b := ⟨_, rfl⟩
  rw [← hxe] at hX hx
  rw [← hye] at hY hy
  have HX := Lib.hid hxe
  have HY := Lib.hid hye
  clear hxe hye
  have HX' := Lib.hid hx
  have HY' := Lib.hid hy
  clear hx hy
  go_wp2_with fail
  refine (joined32_add b1 b2 32 x y rfl HX'.out HY'.out _ hX hY).mono ?_
  rintro e w4 ⟨q, oq, cq, rfl, hq, hB4⟩
  have hb4 := hB02.trans (hB4.mono hs2)
  clear hB4
  go_wp2_with fail
  refine (number_of q oq 32 cq _ (by decide) _ hq).mono ?_
  rintro e w5 ⟨rfl, rfl⟩
  have hval : (x + y + 0) = R := by rw [HR.out, ← HX.out, ← HY.out]; rfl
  rw [hval]
  clear hval
  go_wp2
  go_ret2
  exact ⟨rfl, hb4⟩

/-- Operation 2 on 32 bits. -/
def val32_sub (x y : Nat) : Nat := x + (2 ^ 32 - 1 - y % 2 ^ 32) + 1
set_option maxHeartbeats 1600000 in
theorem refAlu32_sub (a b : Int) (w : World) :
    Calls Tryz.prog 172 #[.int .i64 2, .bool true, .int .i64 a, .int .i64 b] w fun e w' =>
      e = .returned (.tuple #[.int .i64 (wrap64 ((val32_sub (lowN 32 a) (lowN 32 b) % 2 ^ 32 : Nat) : Int)), .int .i64 0]) ∧ Below w.heap.size w w' := by
  obtain ⟨R, hR⟩ : ∃ R, R = val32_sub (lowN 32 a) (lowN 32 b) := ⟨_, rfl⟩
  have HR := Lib.hid hR
  rw [← hR]
  clear hR
  go_enter Tryz.func172, Tryz.ntmps172
  go_wp2_with fail
  refine (width_narrow _).mono ?_
  rintro e w0 ⟨rfl, rfl⟩
  go_wp2_with fail
  refine (row_any a 32 32 rfl (by decide) _).mono ?_
  rintro e w1 ⟨b1, rfl, hb1, hR1, hB1⟩
  go_wp2_with fail
  refine (width_narrow _).mono ?_
  rintro e w1' ⟨rfl, rfl⟩
  go_wp2_with fail
  refine (row_any b 32 32 rfl (by decide) _).mono ?_
  rintro e w2 ⟨b2, rfl, hb2, hR2, hB2⟩
  have hX := Bits.row (row_low (hR1.below hB2 hR1.lt))
  have hY := Bits.row (row_low hR2)
  have hs1 := hB1.size
  have hB02 := hB1.trans (hB2.mono hs1)
  have hs2 := hB02.size
  have hx := lowN_lt 32 a
  have hy := lowN_lt 32 b
  obtain ⟨x, hxe⟩ : ∃ x, x = lowN 32 a := ⟨_, rfl⟩
  obtain ⟨y, hye⟩ : ∃ y, y = lowN 32 b := ⟨_, rfl⟩
  rw [← hxe] at hX hx
  rw [← hye] at hY hy
  have HX := Lib.hid hxe
  have HY := Lib.hid hye
  clear hxe hye
  have HX' := Lib.hid hx
  have HY' := Lib.hid hy
  clear hx hy
  go_wp2_with fail
  refine (joined32_sub b1 b2 32 x y rfl HX'.out HY'.out _ hX hY).mono ?_
  rintro e w4 ⟨q, oq, cq, rfl, hq, hB4⟩
  have hb4 := hB02.trans (hB4.mono hs2)
  clear hB4
  go_wp2_with fail
  refine (number_of q oq 32 cq _ (by decide) _ hq).mono ?_
  rintro e w5 ⟨rfl, rfl⟩
  have hval : (x + (2 ^ 32 - 1 - y % 2 ^ 32) + 1) = R := by rw [HR.out, ← HX.out, ← HY.out]; rfl
  rw [hval]
  clear hval
  go_wp2
  go_ret2
  exact ⟨rfl, hb4⟩

/-- Operation 3 on 32 bits. -/
def val32_mul (x y : Nat) : Nat := x * (y % 2 ^ 32)
set_option maxHeartbeats 1600000 in
theorem refAlu32_mul (a b : Int) (w : World) :
    Calls Tryz.prog 172 #[.int .i64 3, .bool true, .int .i64 a, .int .i64 b] w fun e w' =>
      e = .returned (.tuple #[.int .i64 (wrap64 ((val32_mul (lowN 32 a) (lowN 32 b) % 2 ^ 32 : Nat) : Int)), .int .i64 0]) ∧ Below w.heap.size w w' := by
  obtain ⟨R, hR⟩ : ∃ R, R = val32_mul (lowN 32 a) (lowN 32 b) := ⟨_, rfl⟩
  have HR := Lib.hid hR
  rw [← hR]
  clear hR
  go_enter Tryz.func172, Tryz.ntmps172
  go_wp2_with fail
  refine (width_narrow _).mono ?_
  rintro e w0 ⟨rfl, rfl⟩
  go_wp2_with fail
  refine (row_any a 32 32 rfl (by decide) _).mono ?_
  rintro e w1 ⟨b1, rfl, hb1, hR1, hB1⟩
  go_wp2_with fail
  refine (width_narrow _).mono ?_
  rintro e w1' ⟨rfl, rfl⟩
  go_wp2_with fail
  refine (row_any b 32 32 rfl (by decide) _).mono ?_
  rintro e w2 ⟨b2, rfl, hb2, hR2, hB2⟩
  have hX := Bits.row (row_low (hR1.below hB2 hR1.lt))
  have hY := Bits.row (row_low hR2)
  have hs1 := hB1.size
  have hB02 := hB1.trans (hB2.mono hs1)
  have hs2 := hB02.size
  have hx := lowN_lt 32 a
  have hy := lowN_lt 32 b
  obtain ⟨x, hxe⟩ : ∃ x, x = lowN 32 a := ⟨_, rfl⟩
  obtain ⟨y, hye⟩ : ∃ y, y = lowN 32 b := ⟨_, rfl⟩
  rw [← hxe] at hX hx
  rw [← hye] at hY hy
  have HX := Lib.hid hxe
  have HY := Lib.hid hye
  clear hxe hye
  have HX' := Lib.hid hx
  have HY' := Lib.hid hy
  clear hx hy
  go_wp2_with fail
  refine (joined32_mul b1 b2 32 x y rfl HX'.out HY'.out _ hX hY).mono ?_
  rintro e w4 ⟨q, oq, cq, rfl, hq, hB4⟩
  have hb4 := hB02.trans (hB4.mono hs2)
  clear hB4
  go_wp2_with fail
  refine (number_of q oq 32 cq _ (by decide) _ hq).mono ?_
  rintro e w5 ⟨rfl, rfl⟩
  have hval : (x * (y % 2 ^ 32)) = R := by rw [HR.out, ← HX.out, ← HY.out]; rfl
  rw [hval]
  clear hval
  go_wp2
  go_ret2
  exact ⟨rfl, hb4⟩

/-- Operation 4 on 32 bits. -/
def val32_div (x y : Nat) : Nat := x / y
set_option maxHeartbeats 1600000 in
theorem refAlu32_div (a b : Int) (h0 : lowN 32 b ≠ 0) (w : World) :
    Calls Tryz.prog 172 #[.int .i64 4, .bool true, .int .i64 a, .int .i64 b] w fun e w' =>
      e = .returned (.tuple #[.int .i64 (wrap64 ((val32_div (lowN 32 a) (lowN 32 b) % 2 ^ 32 : Nat) : Int)), .int .i64 0]) ∧ Below w.heap.size w w' := by
  have H0 := Lib.hid h0
  clear h0
  obtain ⟨R, hR⟩ : ∃ R, R = val32_div (lowN 32 a) (lowN 32 b) := ⟨_, rfl⟩
  have HR := Lib.hid hR
  rw [← hR]
  clear hR
  go_enter Tryz.func172, Tryz.ntmps172
  go_wp2_with fail
  refine (width_narrow _).mono ?_
  rintro e w0 ⟨rfl, rfl⟩
  go_wp2_with fail
  refine (row_any a 32 32 rfl (by decide) _).mono ?_
  rintro e w1 ⟨b1, rfl, hb1, hR1, hB1⟩
  go_wp2_with fail
  refine (width_narrow _).mono ?_
  rintro e w1' ⟨rfl, rfl⟩
  go_wp2_with fail
  refine (row_any b 32 32 rfl (by decide) _).mono ?_
  rintro e w2 ⟨b2, rfl, hb2, hR2, hB2⟩
  have hX := Bits.row (row_low (hR1.below hB2 hR1.lt))
  have hY := Bits.row (row_low hR2)
  have hs1 := hB1.size
  have hB02 := hB1.trans (hB2.mono hs1)
  have hs2 := hB02.size
  have hx := lowN_lt 32 a
  have hy := lowN_lt 32 b
  obtain ⟨x, hxe⟩ : ∃ x, x = lowN 32 a := ⟨_, rfl⟩
  obtain ⟨y, hye⟩ : ∃ y, y = lowN 32 b := ⟨_, rfl⟩
  rw [← hxe] at hX hx
  rw [← hye] at hY hy
  have HX := Lib.hid hxe
  have HY := Lib.hid hye
  clear hxe hye
  have hmk := make_ints' 32 32 rfl (by decide)
  have hZ : Bits (w2.alloc (.cells (itab 32 fun _ => 0).toArray 3)) w2.heap.size 0 32 0 := Bits.row (zero_bits w2 32)
  have hX' : Bits (w2.alloc (.cells (itab 32 fun _ => 0).toArray 3)) b1 0 32 x := hX.below ((Below.refl _ _).alloc (Nat.le_refl _) _) hX.1
  have hY' : Bits (w2.alloc (.cells (itab 32 fun _ => 0).toArray 3)) b2 0 32 y := hY.below ((Below.refl _ _).alloc (Nat.le_refl _) _) hY.1
  have hd : decide (y = 0) = false := by have := H0.out; rw [← HY.out] at this; simpa using this
  have HD := Lib.hid hd
  have HP := Lib.hid (show 0 < 2 ^ 32 by decide)
  have HX' := Lib.hid hx
  have HY' := Lib.hid hy
  clear hd hx hy
  go_wp2_with fail
  refine (same_any b2 w2.heap.size 0 0 32 32 32 y 0 (by decide) HY'.out HP.out _ hY' hZ).mono ?_
  rintro e w3 ⟨rfl, k3, rfl⟩
  rw [HD.out]
  have hb3 : Below w.heap.size w ((w2.alloc (.cells (itab 32 fun _ => 0).toArray 3)).drewN k3) := below_drewN (hB02.alloc hs2 _) k3
  have hX3 : Bits ((w2.alloc (.cells (itab 32 fun _ => 0).toArray 3)).drewN k3) b1 0 32 x := hX'
  have hY3 : Bits ((w2.alloc (.cells (itab 32 fun _ => 0).toArray 3)).drewN k3) b2 0 32 y := hY'
  clear hmk hZ hX' hY' hX hY
  go_wp2_with fail
  refine (joined32_div b1 b2 32 x y rfl HX'.out HY'.out (by have := H0.out; rwa [← HY.out] at this) _ hX3 hY3).mono ?_
  rintro e w4 ⟨q, oq, cq, rfl, hq, hB4⟩
  have hs3 := hb3.size
  have hb4 := hb3.trans (hB4.mono hs3)
  clear hB4 hb3
  go_wp2_with fail
  refine (number_of q oq 32 cq _ (by decide) _ hq).mono ?_
  rintro e w5 ⟨rfl, rfl⟩
  have hval : (x / y) = R := by rw [HR.out, ← HX.out, ← HY.out]; rfl
  rw [hval]
  clear hval
  go_wp2
  go_ret2
  exact ⟨rfl, hb4⟩

set_option maxHeartbeats 1600000 in
theorem refAlu32_div0 (a b : Int) (h0 : lowN 32 b = 0) (w : World) :
    Calls Tryz.prog 172 #[.int .i64 4, .bool true, .int .i64 a, .int .i64 b] w fun e w' =>
      e = .returned (.tuple #[.int .i64 0, .int .i64 84]) ∧ Below w.heap.size w w' := by
  have H0 := Lib.hid h0
  clear h0
  go_enter Tryz.func172, Tryz.ntmps172
  go_wp2_with fail
  refine (width_narrow _).mono ?_
  rintro e w0 ⟨rfl, rfl⟩
  go_wp2_with fail
  refine (row_any a 32 32 rfl (by decide) _).mono ?_
  rintro e w1 ⟨b1, rfl, hb1, hR1, hB1⟩
  go_wp2_with fail
  refine (width_narrow _).mono ?_
  rintro e w1' ⟨rfl, rfl⟩
  go_wp2_with fail
  refine (row_any b 32 32 rfl (by decide) _).mono ?_
  rintro e w2 ⟨b2, rfl, hb2, hR2, hB2⟩
  have hX := Bits.row (row_low (hR1.below hB2 hR1.lt))
  have hY := Bits.row (row_low hR2)
  have hs1 := hB1.size
  have hB02 := hB1.trans (hB2.mono hs1)
  have hs2 := hB02.size
  have hx := lowN_lt 32 a
  have hy := lowN_lt 32 b
  rw [H0.out] at hY
  have hmk := make_ints' 32 32 rfl (by decide)
  have hZ : Bits (w2.alloc (.cells (itab 32 fun _ => 0).toArray 3)) w2.heap.size 0 32 0 := Bits.row (zero_bits w2 32)
  have hY' : Bits (w2.alloc (.cells (itab 32 fun _ => 0).toArray 3)) b2 0 32 0 := hY.below ((Below.refl _ _).alloc (Nat.le_refl _) _) hY.1
  have HP := Lib.hid (show 0 < 2 ^ 32 by decide)
  clear hx hy
  go_wp2_with fail
  refine (same_any b2 w2.heap.size 0 0 32 32 32 0 0 (by decide) HP.out HP.out _ hY' hZ).mono ?_
  rintro e w3 ⟨rfl, k3, rfl⟩
  have hb3 : Below w.heap.size w ((w2.alloc (.cells (itab 32 fun _ => 0).toArray 3)).drewN k3) := below_drewN (hB02.alloc hs2 _) k3
  have HB3 := Lib.hid hb3
  clear hmk hZ hY' hX hY hb3
  go_wp2
  go_ret2
  exact ⟨rfl, HB3.out⟩

/-- Operation 5 on 32 bits. -/
def val32_mod (x y : Nat) : Nat := x % y
set_option maxHeartbeats 1600000 in
theorem refAlu32_mod (a b : Int) (h0 : lowN 32 b ≠ 0) (w : World) :
    Calls Tryz.prog 172 #[.int .i64 5, .bool true, .int .i64 a, .int .i64 b] w fun e w' =>
      e = .returned (.tuple #[.int .i64 (wrap64 ((val32_mod (lowN 32 a) (lowN 32 b) % 2 ^ 32 : Nat) : Int)), .int .i64 0]) ∧ Below w.heap.size w w' := by
  have H0 := Lib.hid h0
  clear h0
  obtain ⟨R, hR⟩ : ∃ R, R = val32_mod (lowN 32 a) (lowN 32 b) := ⟨_, rfl⟩
  have HR := Lib.hid hR
  rw [← hR]
  clear hR
  go_enter Tryz.func172, Tryz.ntmps172
  go_wp2_with fail
  refine (width_narrow _).mono ?_
  rintro e w0 ⟨rfl, rfl⟩
  go_wp2_with fail
  refine (row_any a 32 32 rfl (by decide) _).mono ?_
  rintro e w1 ⟨b1, rfl, hb1, hR1, hB1⟩
  go_wp2_with fail
  refine (width_narrow _).mono ?_
  rintro e w1' ⟨rfl, rfl⟩
  go_wp2_with fail
  refine (row_any b 32 32 rfl (by decide) _).mono ?_
  rintro e w2 ⟨b2, rfl, hb2, hR2, hB2⟩
  have hX := Bits.row (row_low (hR1.below hB2 hR1.lt))
  have hY := Bits.row (row_low hR2)
  have hs1 := hB1.size
  have hB02 := hB1.trans (hB2.mono hs1)
  have hs2 := hB02.size
  have hx := lowN_lt 32 a
  have hy := lowN_lt 32 b
  obtain ⟨x, hxe⟩ : ∃ x, x = lowN 32 a := ⟨_, rfl⟩
  obtain ⟨y, hye⟩ : ∃ y, y = lowN 32 b := ⟨_, rfl⟩
  rw [← hxe] at hX hx
  rw [← hye] at hY hy
  have HX := Lib.hid hxe
  have HY := Lib.hid hye
  clear hxe hye
  have hmk := make_ints' 32 32 rfl (by decide)
  have hZ : Bits (w2.alloc (.cells (itab 32 fun _ => 0).toArray 3)) w2.heap.size 0 32 0 := Bits.row (zero_bits w2 32)
  have hX' : Bits (w2.alloc (.cells (itab 32 fun _ => 0).toArray 3)) b1 0 32 x := hX.below ((Below.refl _ _).alloc (Nat.le_refl _) _) hX.1
  have hY' : Bits (w2.alloc (.cells (itab 32 fun _ => 0).toArray 3)) b2 0 32 y := hY.below ((Below.refl _ _).alloc (Nat.le_refl _) _) hY.1
  have hd : decide (y = 0) = false := by have := H0.out; rw [← HY.out] at this; simpa using this
  have HD := Lib.hid hd
  have HP := Lib.hid (show 0 < 2 ^ 32 by decide)
  have HX' := Lib.hid hx
  have HY' := Lib.hid hy
  clear hd hx hy
  go_wp2_with fail
  refine (same_any b2 w2.heap.size 0 0 32 32 32 y 0 (by decide) HY'.out HP.out _ hY' hZ).mono ?_
  rintro e w3 ⟨rfl, k3, rfl⟩
  rw [HD.out]
  have hb3 : Below w.heap.size w ((w2.alloc (.cells (itab 32 fun _ => 0).toArray 3)).drewN k3) := below_drewN (hB02.alloc hs2 _) k3
  have hX3 : Bits ((w2.alloc (.cells (itab 32 fun _ => 0).toArray 3)).drewN k3) b1 0 32 x := hX'
  have hY3 : Bits ((w2.alloc (.cells (itab 32 fun _ => 0).toArray 3)).drewN k3) b2 0 32 y := hY'
  clear hmk hZ hX' hY' hX hY
  go_wp2_with fail
  refine (joined32_mod b1 b2 32 x y rfl HX'.out HY'.out (by have := H0.out; rwa [← HY.out] at this) _ hX3 hY3).mono ?_
  rintro e w4 ⟨q, oq, cq, rfl, hq, hB4⟩
  have hs3 := hb3.size
  have hb4 := hb3.trans (hB4.mono hs3)
  clear hB4 hb3
  go_wp2_with fail
  refine (number_of q oq 32 cq _ (by decide) _ hq).mono ?_
  rintro e w5 ⟨rfl, rfl⟩
  have hval : (x % y) = R := by rw [HR.out, ← HX.out, ← HY.out]; rfl
  rw [hval]
  clear hval
  go_wp2
  go_ret2
  exact ⟨rfl, hb4⟩

set_option maxHeartbeats 1600000 in
theorem refAlu32_mod0 (a b : Int) (h0 : lowN 32 b = 0) (w : World) :
    Calls Tryz.prog 172 #[.int .i64 5, .bool true, .int .i64 a, .int .i64 b] w fun e w' =>
      e = .returned (.tuple #[.int .i64 0, .int .i64 84]) ∧ Below w.heap.size w w' := by
  have H0 := Lib.hid h0
  clear h0
  go_enter Tryz.func172, Tryz.ntmps172
  go_wp2_with fail
  refine (width_narrow _).mono ?_
  rintro e w0 ⟨rfl, rfl⟩
  go_wp2_with fail
  refine (row_any a 32 32 rfl (by decide) _).mono ?_
  rintro e w1 ⟨b1, rfl, hb1, hR1, hB1⟩
  go_wp2_with fail
  refine (width_narrow _).mono ?_
  rintro e w1' ⟨rfl, rfl⟩
  go_wp2_with fail
  refine (row_any b 32 32 rfl (by decide) _).mono ?_
  rintro e w2 ⟨b2, rfl, hb2, hR2, hB2⟩
  have hX := Bits.row (row_low (hR1.below hB2 hR1.lt))
  have hY := Bits.row (row_low hR2)
  have hs1 := hB1.size
  have hB02 := hB1.trans (hB2.mono hs1)
  have hs2 := hB02.size
  have hx := lowN_lt 32 a
  have hy := lowN_lt 32 b
  rw [H0.out] at hY
  have hmk := make_ints' 32 32 rfl (by decide)
  have hZ : Bits (w2.alloc (.cells (itab 32 fun _ => 0).toArray 3)) w2.heap.size 0 32 0 := Bits.row (zero_bits w2 32)
  have hY' : Bits (w2.alloc (.cells (itab 32 fun _ => 0).toArray 3)) b2 0 32 0 := hY.below ((Below.refl _ _).alloc (Nat.le_refl _) _) hY.1
  have HP := Lib.hid (show 0 < 2 ^ 32 by decide)
  clear hx hy
  go_wp2_with fail
  refine (same_any b2 w2.heap.size 0 0 32 32 32 0 0 (by decide) HP.out HP.out _ hY' hZ).mono ?_
  rintro e w3 ⟨rfl, k3, rfl⟩
  have hb3 : Below w.heap.size w ((w2.alloc (.cells (itab 32 fun _ => 0).toArray 3)).drewN k3) := below_drewN (hB02.alloc hs2 _) k3
  have HB3 := Lib.hid hb3
  clear hmk hZ hY' hX hY hb3
  go_wp2
  go_ret2
  exact ⟨rfl, HB3.out⟩

/-- Operation 6 on 32 bits. -/
def val32_sdiv (x y : Nat) : Nat := turn (bit x (32 - 1) != bit y (32 - 1)) 32 (absN 32 x / absN 32 y)
set_option maxHeartbeats 1600000 in
theorem refAlu32_sdiv (a b : Int) (h0 : lowN 32 b ≠ 0) (w : World) :
    Calls Tryz.prog 172 #[.int .i64 6, .bool true, .int .i64 a, .int .i64 b] w fun e w' =>
      e = .returned (.tuple #[.int .i64 (wrap64 ((val32_sdiv (lowN 32 a) (lowN 32 b) % 2 ^ 32 : Nat) : Int)), .int .i64 0]) ∧ Below w.heap.size w w' := by
  have H0 := Lib.hid h0
  clear h0
  obtain ⟨R, hR⟩ : ∃ R, R = val32_sdiv (lowN 32 a) (lowN 32 b) := ⟨_, rfl⟩
  have HR := Lib.hid hR
  rw [← hR]
  clear hR
  go_enter Tryz.func172, Tryz.ntmps172
  go_wp2_with fail
  refine (width_narrow _).mono ?_
  rintro e w0 ⟨rfl, rfl⟩
  go_wp2_with fail
  refine (row_any a 32 32 rfl (by decide) _).mono ?_
  rintro e w1 ⟨b1, rfl, hb1, hR1, hB1⟩
  go_wp2_with fail
  refine (width_narrow _).mono ?_
  rintro e w1' ⟨rfl, rfl⟩
  go_wp2_with fail
  refine (row_any b 32 32 rfl (by decide) _).mono ?_
  rintro e w2 ⟨b2, rfl, hb2, hR2, hB2⟩
  have hX := Bits.row (row_low (hR1.below hB2 hR1.lt))
  have hY := Bits.row (row_low hR2)
  have hs1 := hB1.size
  have hB02 := hB1.trans (hB2.mono hs1)
  have hs2 := hB02.size
  have hx := lowN_lt 32 a
  have hy := lowN_lt 32 b
  obtain ⟨x, hxe⟩ : ∃ x, x = lowN 32 a := ⟨_, rfl⟩
  obtain ⟨y, hye⟩ : ∃ y, y = lowN 32 b := ⟨_, rfl⟩
  rw [← hxe] at hX hx
  rw [← hye] at hY hy
  have HX := Lib.hid hxe
  have HY := Lib.hid hye
  clear hxe hye
  have hmk := make_ints' 32 32 rfl (by decide)
  have hZ : Bits (w2.alloc (.cells (itab 32 fun _ => 0).toArray 3)) w2.heap.size 0 32 0 := Bits.row (zero_bits w2 32)
  have hX' : Bits (w2.alloc (.cells (itab 32 fun _ => 0).toArray 3)) b1 0 32 x := hX.below ((Below.refl _ _).alloc (Nat.le_refl _) _) hX.1
  have hY' : Bits (w2.alloc (.cells (itab 32 fun _ => 0).toArray 3)) b2 0 32 y := hY.below ((Below.refl _ _).alloc (Nat.le_refl _) _) hY.1
  have hd : decide (y = 0) = false := by have := H0.out; rw [← HY.out] at this; simpa using this
  have HD := Lib.hid hd
  have HP := Lib.hid (show 0 < 2 ^ 32 by decide)
  have HX' := Lib.hid hx
  have HY' := Lib.hid hy
  clear hd hx hy
  go_wp2_with fail
  refine (same_any b2 w2.heap.size 0 0 32 32 32 y 0 (by decide) HY'.out HP.out _ hY' hZ).mono ?_
  rintro e w3 ⟨rfl, k3, rfl⟩
  rw [HD.out]
  have hb3 : Below w.heap.size w ((w2.alloc (.cells (itab 32 fun _ => 0).toArray 3)).drewN k3) := below_drewN (hB02.alloc hs2 _) k3
  have hX3 : Bits ((w2.alloc (.cells (itab 32 fun _ => 0).toArray 3)).drewN k3) b1 0 32 x := hX'
  have hY3 : Bits ((w2.alloc (.cells (itab 32 fun _ => 0).toArray 3)).drewN k3) b2 0 32 y := hY'
  clear hmk hZ hX' hY' hX hY
  go_wp2_with fail
  refine (joined32_sdiv b1 b2 32 x y rfl HX'.out HY'.out (by have := H0.out; rwa [← HY.out] at this) _ hX3 hY3).mono ?_
  rintro e w4 ⟨q, oq, cq, rfl, hq, hB4⟩
  have hs3 := hb3.size
  have hb4 := hb3.trans (hB4.mono hs3)
  clear hB4 hb3
  go_wp2_with fail
  refine (number_of q oq 32 cq _ (by decide) _ hq).mono ?_
  rintro e w5 ⟨rfl, rfl⟩
  have hval : (turn (bit x (32 - 1) != bit y (32 - 1)) 32 (absN 32 x / absN 32 y)) = R := by rw [HR.out, ← HX.out, ← HY.out]; rfl
  rw [hval]
  clear hval
  go_wp2
  go_ret2
  exact ⟨rfl, hb4⟩

set_option maxHeartbeats 1600000 in
theorem refAlu32_sdiv0 (a b : Int) (h0 : lowN 32 b = 0) (w : World) :
    Calls Tryz.prog 172 #[.int .i64 6, .bool true, .int .i64 a, .int .i64 b] w fun e w' =>
      e = .returned (.tuple #[.int .i64 0, .int .i64 84]) ∧ Below w.heap.size w w' := by
  have H0 := Lib.hid h0
  clear h0
  go_enter Tryz.func172, Tryz.ntmps172
  go_wp2_with fail
  refine (width_narrow _).mono ?_
  rintro e w0 ⟨rfl, rfl⟩
  go_wp2_with fail
  refine (row_any a 32 32 rfl (by decide) _).mono ?_
  rintro e w1 ⟨b1, rfl, hb1, hR1, hB1⟩
  go_wp2_with fail
  refine (width_narrow _).mono ?_
  rintro e w1' ⟨rfl, rfl⟩
  go_wp2_with fail
  refine (row_any b 32 32 rfl (by decide) _).mono ?_
  rintro e w2 ⟨b2, rfl, hb2, hR2, hB2⟩
  have hX := Bits.row (row_low (hR1.below hB2 hR1.lt))
  have hY := Bits.row (row_low hR2)
  have hs1 := hB1.size
  have hB02 := hB1.trans (hB2.mono hs1)
  have hs2 := hB02.size
  have hx := lowN_lt 32 a
  have hy := lowN_lt 32 b
  rw [H0.out] at hY
  have hmk := make_ints' 32 32 rfl (by decide)
  have hZ : Bits (w2.alloc (.cells (itab 32 fun _ => 0).toArray 3)) w2.heap.size 0 32 0 := Bits.row (zero_bits w2 32)
  have hY' : Bits (w2.alloc (.cells (itab 32 fun _ => 0).toArray 3)) b2 0 32 0 := hY.below ((Below.refl _ _).alloc (Nat.le_refl _) _) hY.1
  have HP := Lib.hid (show 0 < 2 ^ 32 by decide)
  clear hx hy
  go_wp2_with fail
  refine (same_any b2 w2.heap.size 0 0 32 32 32 0 0 (by decide) HP.out HP.out _ hY' hZ).mono ?_
  rintro e w3 ⟨rfl, k3, rfl⟩
  have hb3 : Below w.heap.size w ((w2.alloc (.cells (itab 32 fun _ => 0).toArray 3)).drewN k3) := below_drewN (hB02.alloc hs2 _) k3
  have HB3 := Lib.hid hb3
  clear hmk hZ hY' hX hY hb3
  go_wp2
  go_ret2
  exact ⟨rfl, HB3.out⟩

/-- Operation 7 on 32 bits. -/
def val32_smod (x y : Nat) : Nat := turn (bit x (32 - 1) == 1) 32 (absN 32 x % absN 32 y)
set_option maxHeartbeats 1600000 in
theorem refAlu32_smod (a b : Int) (h0 : lowN 32 b ≠ 0) (w : World) :
    Calls Tryz.prog 172 #[.int .i64 7, .bool true, .int .i64 a, .int .i64 b] w fun e w' =>
      e = .returned (.tuple #[.int .i64 (wrap64 ((val32_smod (lowN 32 a) (lowN 32 b) % 2 ^ 32 : Nat) : Int)), .int .i64 0]) ∧ Below w.heap.size w w' := by
  have H0 := Lib.hid h0
  clear h0
  obtain ⟨R, hR⟩ : ∃ R, R = val32_smod (lowN 32 a) (lowN 32 b) := ⟨_, rfl⟩
  have HR := Lib.hid hR
  rw [← hR]
  clear hR
  go_enter Tryz.func172, Tryz.ntmps172
  go_wp2_with fail
  refine (width_narrow _).mono ?_
  rintro e w0 ⟨rfl, rfl⟩
  go_wp2_with fail
  refine (row_any a 32 32 rfl (by decide) _).mono ?_
  rintro e w1 ⟨b1, rfl, hb1, hR1, hB1⟩
  go_wp2_with fail
  refine (width_narrow _).mono ?_
  rintro e w1' ⟨rfl, rfl⟩
  go_wp2_with fail
  refine (row_any b 32 32 rfl (by decide) _).mono ?_
  rintro e w2 ⟨b2, rfl, hb2, hR2, hB2⟩
  have hX := Bits.row (row_low (hR1.below hB2 hR1.lt))
  have hY := Bits.row (row_low hR2)
  have hs1 := hB1.size
  have hB02 := hB1.trans (hB2.mono hs1)
  have hs2 := hB02.size
  have hx := lowN_lt 32 a
  have hy := lowN_lt 32 b
  obtain ⟨x, hxe⟩ : ∃ x, x = lowN 32 a := ⟨_, rfl⟩
  obtain ⟨y, hye⟩ : ∃ y, y = lowN 32 b := ⟨_, rfl⟩
  rw [← hxe] at hX hx
  rw [← hye] at hY hy
  have HX := Lib.hid hxe
  have HY := Lib.hid hye
  clear hxe hye
  have hmk := make_ints' 32 32 rfl (by decide)
  have hZ : Bits (w2.alloc (.cells (itab 32 fun _ => 0).toArray 3)) w2.heap.size 0 32 0 := Bits.row (zero_bits w2 32)
  have hX' : Bits (w2.alloc (.cells (itab 32 fun _ => 0).toArray 3)) b1 0 32 x := hX.below ((Below.refl _ _).alloc (Nat.le_refl _) _) hX.1
  have hY' : Bits (w2.alloc (.cells (itab 32 fun _ => 0).toArray 3)) b2 0 32 y := hY.below ((Below.refl _ _).alloc (Nat.le_refl _) _) hY.1
  have hd : decide (y = 0) = false := by have := H0.out; rw [← HY.out] at this; simpa using this
  have HD := Lib.hid hd
  have HP := Lib.hid (show 0 < 2 ^ 32 by decide)
  have HX' := Lib.hid hx
  have HY' := Lib.hid hy
  clear hd hx hy
  go_wp2_with fail
  refine (same_any b2 w2.heap.size 0 0 32 32 32 y 0 (by decide) HY'.out HP.out _ hY' hZ).mono ?_
  rintro e w3 ⟨rfl, k3, rfl⟩
  rw [HD.out]
  have hb3 : Below w.heap.size w ((w2.alloc (.cells (itab 32 fun _ => 0).toArray 3)).drewN k3) := below_drewN (hB02.alloc hs2 _) k3
  have hX3 : Bits ((w2.alloc (.cells (itab 32 fun _ => 0).toArray 3)).drewN k3) b1 0 32 x := hX'
  have hY3 : Bits ((w2.alloc (.cells (itab 32 fun _ => 0).toArray 3)).drewN k3) b2 0 32 y := hY'
  clear hmk hZ hX' hY' hX hY
  go_wp2_with fail
  refine (joined32_smod b1 b2 32 x y rfl HX'.out HY'.out (by have := H0.out; rwa [← HY.out] at this) _ hX3 hY3).mono ?_
  rintro e w4 ⟨q, oq, cq, rfl, hq, hB4⟩
  have hs3 := hb3.size
  have hb4 := hb3.trans (hB4.mono hs3)
  clear hB4 hb3
  go_wp2_with fail
  refine (number_of q oq 32 cq _ (by decide) _ hq).mono ?_
  rintro e w5 ⟨rfl, rfl⟩
  have hval : (turn (bit x (32 - 1) == 1) 32 (absN 32 x % absN 32 y)) = R := by rw [HR.out, ← HX.out, ← HY.out]; rfl
  rw [hval]
  clear hval
  go_wp2
  go_ret2
  exact ⟨rfl, hb4⟩

set_option maxHeartbeats 1600000 in
theorem refAlu32_smod0 (a b : Int) (h0 : lowN 32 b = 0) (w : World) :
    Calls Tryz.prog 172 #[.int .i64 7, .bool true, .int .i64 a, .int .i64 b] w fun e w' =>
      e = .returned (.tuple #[.int .i64 0, .int .i64 84]) ∧ Below w.heap.size w w' := by
  have H0 := Lib.hid h0
  clear h0
  go_enter Tryz.func172, Tryz.ntmps172
  go_wp2_with fail
  refine (width_narrow _).mono ?_
  rintro e w0 ⟨rfl, rfl⟩
  go_wp2_with fail
  refine (row_any a 32 32 rfl (by decide) _).mono ?_
  rintro e w1 ⟨b1, rfl, hb1, hR1, hB1⟩
  go_wp2_with fail
  refine (width_narrow _).mono ?_
  rintro e w1' ⟨rfl, rfl⟩
  go_wp2_with fail
  refine (row_any b 32 32 rfl (by decide) _).mono ?_
  rintro e w2 ⟨b2, rfl, hb2, hR2, hB2⟩
  have hX := Bits.row (row_low (hR1.below hB2 hR1.lt))
  have hY := Bits.row (row_low hR2)
  have hs1 := hB1.size
  have hB02 := hB1.trans (hB2.mono hs1)
  have hs2 := hB02.size
  have hx := lowN_lt 32 a
  have hy := lowN_lt 32 b
  rw [H0.out] at hY
  have hmk := make_ints' 32 32 rfl (by decide)
  have hZ : Bits (w2.alloc (.cells (itab 32 fun _ => 0).toArray 3)) w2.heap.size 0 32 0 := Bits.row (zero_bits w2 32)
  have hY' : Bits (w2.alloc (.cells (itab 32 fun _ => 0).toArray 3)) b2 0 32 0 := hY.below ((Below.refl _ _).alloc (Nat.le_refl _) _) hY.1
  have HP := Lib.hid (show 0 < 2 ^ 32 by decide)
  clear hx hy
  go_wp2_with fail
  refine (same_any b2 w2.heap.size 0 0 32 32 32 0 0 (by decide) HP.out HP.out _ hY' hZ).mono ?_
  rintro e w3 ⟨rfl, k3, rfl⟩
  have hb3 : Below w.heap.size w ((w2.alloc (.cells (itab 32 fun _ => 0).toArray 3)).drewN k3) := below_drewN (hB02.alloc hs2 _) k3
  have HB3 := Lib.hid hb3
  clear hmk hZ hY' hX hY hb3
  go_wp2
  go_ret2
  exact ⟨rfl, HB3.out⟩

/-- Operation 8 on 32 bits. -/
def val32_or (x y : Nat) : Nat := x ||| y
set_option maxHeartbeats 1600000 in
theorem refAlu32_or (a b : Int) (w : World) :
    Calls Tryz.prog 172 #[.int .i64 8, .bool true, .int .i64 a, .int .i64 b] w fun e w' =>
      e = .returned (.tuple #[.int .i64 (wrap64 ((val32_or (lowN 32 a) (lowN 32 b) % 2 ^ 32 : Nat) : Int)), .int .i64 0]) ∧ Below w.heap.size w w' := by
  obtain ⟨R, hR⟩ : ∃ R, R = val32_or (lowN 32 a) (lowN 32 b) := ⟨_, rfl⟩
  have HR := Lib.hid hR
  rw [← hR]
  clear hR
  go_enter Tryz.func172, Tryz.ntmps172
  go_wp2_with fail
  refine (width_narrow _).mono ?_
  rintro e w0 ⟨rfl, rfl⟩
  go_wp2_with fail
  refine (row_any a 32 32 rfl (by decide) _).mono ?_
  rintro e w1 ⟨b1, rfl, hb1, hR1, hB1⟩
  go_wp2_with fail
  refine (width_narrow _).mono ?_
  rintro e w1' ⟨rfl, rfl⟩
  go_wp2_with fail
  refine (row_any b 32 32 rfl (by decide) _).mono ?_
  rintro e w2 ⟨b2, rfl, hb2, hR2, hB2⟩
  have hX := Bits.row (row_low (hR1.below hB2 hR1.lt))
  have hY := Bits.row (row_low hR2)
  have hs1 := hB1.size
  have hB02 := hB1.trans (hB2.mono hs1)
  have hs2 := hB02.size
  have hx := lowN_lt 32 a
  have hy := lowN_lt 32 b
  obtain ⟨x, hxe⟩ : ∃ x, x = lowN 32 a := ⟨_, rfl⟩
  obtain ⟨y, hye⟩ : ∃ y, y = lowN 32 b := ⟨_, rfl⟩
  rw [← hxe] at hX hx
  rw [← hye] at hY hy
  have HX := Lib.hid hxe
  have HY := Lib.hid hye
  clear hxe hye
  have HX' := Lib.hid hx
  have HY' := Lib.hid hy
  clear hx hy
  go_wp2_with fail
  refine (joined32_or b1 b2 32 x y rfl HX'.out HY'.out _ hX hY).mono ?_
  rintro e w4 ⟨q, oq, cq, rfl, hq, hB4⟩
  have hb4 := hB02.trans (hB4.mono hs2)
  clear hB4
  go_wp2_with fail
  refine (number_of q oq 32 cq _ (by decide) _ hq).mono ?_
  rintro e w5 ⟨rfl, rfl⟩
  have hval : (x ||| y) = R := by rw [HR.out, ← HX.out, ← HY.out]; rfl
  rw [hval]
  clear hval
  go_wp2
  go_ret2
  exact ⟨rfl, hb4⟩

/-- Operation 9 on 32 bits. -/
def val32_and (x y : Nat) : Nat := x &&& y
set_option maxHeartbeats 1600000 in
theorem refAlu32_and (a b : Int) (w : World) :
    Calls Tryz.prog 172 #[.int .i64 9, .bool true, .int .i64 a, .int .i64 b] w fun e w' =>
      e = .returned (.tuple #[.int .i64 (wrap64 ((val32_and (lowN 32 a) (lowN 32 b) % 2 ^ 32 : Nat) : Int)), .int .i64 0]) ∧ Below w.heap.size w w' := by
  obtain ⟨R, hR⟩ : ∃ R, R = val32_and (lowN 32 a) (lowN 32 b) := ⟨_, rfl⟩
  have HR := Lib.hid hR
  rw [← hR]
  clear hR
  go_enter Tryz.func172, Tryz.ntmps172
  go_wp2_with fail
  refine (width_narrow _).mono ?_
  rintro e w0 ⟨rfl, rfl⟩
  go_wp2_with fail
  refine (row_any a 32 32 rfl (by decide) _).mono ?_
  rintro e w1 ⟨b1, rfl, hb1, hR1, hB1⟩
  go_wp2_with fail
  refine (width_narrow _).mono ?_
  rintro e w1' ⟨rfl, rfl⟩
  go_wp2_with fail
  refine (row_any b 32 32 rfl (by decide) _).mono ?_
  rintro e w2 ⟨b2, rfl, hb2, hR2, hB2⟩
  have hX := Bits.row (row_low (hR1.below hB2 hR1.lt))
  have hY := Bits.row (row_low hR2)
  have hs1 := hB1.size
  have hB02 := hB1.trans (hB2.mono hs1)
  have hs2 := hB02.size
  have hx := lowN_lt 32 a
  have hy := lowN_lt 32 b
  obtain ⟨x, hxe⟩ : ∃ x, x = lowN 32 a := ⟨_, rfl⟩
  obtain ⟨y, hye⟩ : ∃ y, y = lowN 32 b := ⟨_, rfl⟩
  rw [← hxe] at hX hx
  rw [← hye] at hY hy
  have HX := Lib.hid hxe
  have HY := Lib.hid hye
  clear hxe hye
  have HX' := Lib.hid hx
  have HY' := Lib.hid hy
  clear hx hy
  go_wp2_with fail
  refine (joined32_and b1 b2 32 x y rfl HX'.out HY'.out _ hX hY).mono ?_
  rintro e w4 ⟨q, oq, cq, rfl, hq, hB4⟩
  have hb4 := hB02.trans (hB4.mono hs2)
  clear hB4
  go_wp2_with fail
  refine (number_of q oq 32 cq _ (by decide) _ hq).mono ?_
  rintro e w5 ⟨rfl, rfl⟩
  have hval : (x &&& y) = R := by rw [HR.out, ← HX.out, ← HY.out]; rfl
  rw [hval]
  clear hval
  go_wp2
  go_ret2
  exact ⟨rfl, hb4⟩

/-- Operation 10 on 32 bits. -/
def val32_xor (x y : Nat) : Nat := x ^^^ y
set_option maxHeartbeats 1600000 in
theorem refAlu32_xor (a b : Int) (w : World) :
    Calls Tryz.prog 172 #[.int .i64 10, .bool true, .int .i64 a, .int .i64 b] w fun e w' =>
      e = .returned (.tuple #[.int .i64 (wrap64 ((val32_xor (lowN 32 a) (lowN 32 b) % 2 ^ 32 : Nat) : Int)), .int .i64 0]) ∧ Below w.heap.size w w' := by
  obtain ⟨R, hR⟩ : ∃ R, R = val32_xor (lowN 32 a) (lowN 32 b) := ⟨_, rfl⟩
  have HR := Lib.hid hR
  rw [← hR]
  clear hR
  go_enter Tryz.func172, Tryz.ntmps172
  go_wp2_with fail
  refine (width_narrow _).mono ?_
  rintro e w0 ⟨rfl, rfl⟩
  go_wp2_with fail
  refine (row_any a 32 32 rfl (by decide) _).mono ?_
  rintro e w1 ⟨b1, rfl, hb1, hR1, hB1⟩
  go_wp2_with fail
  refine (width_narrow _).mono ?_
  rintro e w1' ⟨rfl, rfl⟩
  go_wp2_with fail
  refine (row_any b 32 32 rfl (by decide) _).mono ?_
  rintro e w2 ⟨b2, rfl, hb2, hR2, hB2⟩
  have hX := Bits.row (row_low (hR1.below hB2 hR1.lt))
  have hY := Bits.row (row_low hR2)
  have hs1 := hB1.size
  have hB02 := hB1.trans (hB2.mono hs1)
  have hs2 := hB02.size
  have hx := lowN_lt 32 a
  have hy := lowN_lt 32 b
  obtain ⟨x, hxe⟩ : ∃ x, x = lowN 32 a := ⟨_, rfl⟩
  obtain ⟨y, hye⟩ : ∃ y, y = lowN 32 b := ⟨_, rfl⟩
  rw [← hxe] at hX hx
  rw [← hye] at hY hy
  have HX := Lib.hid hxe
  have HY := Lib.hid hye
  clear hxe hye
  have HX' := Lib.hid hx
  have HY' := Lib.hid hy
  clear hx hy
  go_wp2_with fail
  refine (joined32_xor b1 b2 32 x y rfl HX'.out HY'.out _ hX hY).mono ?_
  rintro e w4 ⟨q, oq, cq, rfl, hq, hB4⟩
  have hb4 := hB02.trans (hB4.mono hs2)
  clear hB4
  go_wp2_with fail
  refine (number_of q oq 32 cq _ (by decide) _ hq).mono ?_
  rintro e w5 ⟨rfl, rfl⟩
  have hval : (x ^^^ y) = R := by rw [HR.out, ← HX.out, ← HY.out]; rfl
  rw [hval]
  clear hval
  go_wp2
  go_ret2
  exact ⟨rfl, hb4⟩

/-- Operation 11 on 32 bits. -/
def val32_lsh (x y : Nat) : Nat := x * 2 ^ (y % 2 ^ 5)
set_option maxHeartbeats 1600000 in
theorem refAlu32_lsh (a b : Int) (w : World) :
    Calls Tryz.prog 172 #[.int .i64 11, .bool true, .int .i64 a, .int .i64 b] w fun e w' =>
      e = .returned (.tuple #[.int .i64 (wrap64 ((val32_lsh (lowN 32 a) (lowN 32 b) % 2 ^ 32 : Nat) : Int)), .int .i64 0]) ∧ Below w.heap.size w w' := by
  obtain ⟨R, hR⟩ : ∃ R, R = val32_lsh (lowN 32 a) (lowN 32 b) := ⟨_, rfl⟩
  have HR := Lib.hid hR
  rw [← hR]
  clear hR
  go_enter Tryz.func172, Tryz.ntmps172
  go_wp2_with fail
  refine (width_narrow _).mono ?_
  rintro e w0 ⟨rfl, rfl⟩
  go_wp2_with fail
  refine (row_any a 32 32 rfl (by decide) _).mono ?_
  rintro e w1 ⟨b1, rfl, hb1, hR1, hB1⟩
  go_wp2_with fail
  refine (width_narrow _).mono ?_
  rintro e w1' ⟨rfl, rfl⟩
  go_wp2_with fail
  refine (row_any b 32 32 rfl (by decide) _).mono ?_
  rintro e w2 ⟨b2, rfl, hb2, hR2, hB2⟩
  have hX := Bits.row (row_low (hR1.below hB2 hR1.lt))
  have hY := Bits.row (row_low hR2)
  have hs1 := hB1.size
  have hB02 := hB1.trans (hB2.mono hs1)
  have hs2 := hB02.size
  have hx := lowN_lt 32 a
  have hy := lowN_lt 32 b
  obtain ⟨x, hxe⟩ : ∃ x, x = lowN 32 a := ⟨_, rfl⟩
  obtain ⟨y, hye⟩ : ∃ y, y = lowN 32 b := ⟨_, rfl⟩
  rw [← hxe] at hX hx
  rw [← hye] at hY hy
  have HX := Lib.hid hxe
  have HY := Lib.hid hye
  clear hxe hye
  have HX' := Lib.hid hx
  have HY' := Lib.hid hy
  clear hx hy
  go_wp2_with fail
  refine (joined32_lsh b1 b2 32 x y rfl HX'.out HY'.out _ hX hY).mono ?_
  rintro e w4 ⟨q, oq, cq, rfl, hq, hB4⟩
  have hb4 := hB02.trans (hB4.mono hs2)
  clear hB4
  go_wp2_with fail
  refine (number_of q oq 32 cq _ (by decide) _ hq).mono ?_
  rintro e w5 ⟨rfl, rfl⟩
  have hval : (x * 2 ^ (y % 2 ^ 5)) = R := by rw [HR.out, ← HX.out, ← HY.out]; rfl
  rw [hval]
  clear hval
  go_wp2
  go_ret2
  exact ⟨rfl, hb4⟩

/-- Operation 12 on 32 bits. -/
def val32_rsh (x y : Nat) : Nat := downVal x 32 (y % 2 ^ 5) false
set_option maxHeartbeats 1600000 in
theorem refAlu32_rsh (a b : Int) (w : World) :
    Calls Tryz.prog 172 #[.int .i64 12, .bool true, .int .i64 a, .int .i64 b] w fun e w' =>
      e = .returned (.tuple #[.int .i64 (wrap64 ((val32_rsh (lowN 32 a) (lowN 32 b) % 2 ^ 32 : Nat) : Int)), .int .i64 0]) ∧ Below w.heap.size w w' := by
  obtain ⟨R, hR⟩ : ∃ R, R = val32_rsh (lowN 32 a) (lowN 32 b) := ⟨_, rfl⟩
  have HR := Lib.hid hR
  rw [← hR]
  clear hR
  go_enter Tryz.func172, Tryz.ntmps172
  go_wp2_with fail
  refine (width_narrow _).mono ?_
  rintro e w0 ⟨rfl, rfl⟩
  go_wp2_with fail
  refine (row_any a 32 32 rfl (by decide) _).mono ?_
  rintro e w1 ⟨b1, rfl, hb1, hR1, hB1⟩
  go_wp2_with fail
  refine (width_narrow _).mono ?_
  rintro e w1' ⟨rfl, rfl⟩
  go_wp2_with fail
  refine (row_any b 32 32 rfl (by decide) _).mono ?_
  rintro e w2 ⟨b2, rfl, hb2, hR2, hB2⟩
  have hX := Bits.row (row_low (hR1.below hB2 hR1.lt))
  have hY := Bits.row (row_low hR2)
  have hs1 := hB1.size
  have hB02 := hB1.trans (hB2.mono hs1)
  have hs2 := hB02.size
  have hx := lowN_lt 32 a
  have hy := lowN_lt 32 b
  obtain ⟨x, hxe⟩ : ∃ x, x = lowN 32 a := ⟨_, rfl⟩
  obtain ⟨y, hye⟩ : ∃ y, y = lowN 32 b := ⟨_, rfl⟩
  rw [← hxe] at hX hx
  rw [← hye] at hY hy
  have HX := Lib.hid hxe
  have HY := Lib.hid hye
  clear hxe hye
  have HX' := Lib.hid hx
  have HY' := Lib.hid hy
  clear hx hy
  go_wp2_with fail
  refine (joined32_rsh b1 b2 32 x y rfl HX'.out HY'.out _ hX hY).mono ?_
  rintro e w4 ⟨q, oq, cq, rfl, hq, hB4⟩
  have hb4 := hB02.trans (hB4.mono hs2)
  clear hB4
  go_wp2_with fail
  refine (number_of q oq 32 cq _ (by decide) _ hq).mono ?_
  rintro e w5 ⟨rfl, rfl⟩
  have hval : (downVal x 32 (y % 2 ^ 5) false) = R := by rw [HR.out, ← HX.out, ← HY.out]; rfl
  rw [hval]
  clear hval
  go_wp2
  go_ret2
  exact ⟨rfl, hb4⟩

/-- Operation 13 on 32 bits. -/
def val32_arsh (x y : Nat) : Nat := downVal x 32 (y % 2 ^ 5) (bit x (32 - 1) == 1)
set_option maxHeartbeats 1600000 in
theorem refAlu32_arsh (a b : Int) (w : World) :
    Calls Tryz.prog 172 #[.int .i64 13, .bool true, .int .i64 a, .int .i64 b] w fun e w' =>
      e = .returned (.tuple #[.int .i64 (wrap64 ((val32_arsh (lowN 32 a) (lowN 32 b) % 2 ^ 32 : Nat) : Int)), .int .i64 0]) ∧ Below w.heap.size w w' := by
  obtain ⟨R, hR⟩ : ∃ R, R = val32_arsh (lowN 32 a) (lowN 32 b) := ⟨_, rfl⟩
  have HR := Lib.hid hR
  rw [← hR]
  clear hR
  go_enter Tryz.func172, Tryz.ntmps172
  go_wp2_with fail
  refine (width_narrow _).mono ?_
  rintro e w0 ⟨rfl, rfl⟩
  go_wp2_with fail
  refine (row_any a 32 32 rfl (by decide) _).mono ?_
  rintro e w1 ⟨b1, rfl, hb1, hR1, hB1⟩
  go_wp2_with fail
  refine (width_narrow _).mono ?_
  rintro e w1' ⟨rfl, rfl⟩
  go_wp2_with fail
  refine (row_any b 32 32 rfl (by decide) _).mono ?_
  rintro e w2 ⟨b2, rfl, hb2, hR2, hB2⟩
  have hX := Bits.row (row_low (hR1.below hB2 hR1.lt))
  have hY := Bits.row (row_low hR2)
  have hs1 := hB1.size
  have hB02 := hB1.trans (hB2.mono hs1)
  have hs2 := hB02.size
  have hx := lowN_lt 32 a
  have hy := lowN_lt 32 b
  obtain ⟨x, hxe⟩ : ∃ x, x = lowN 32 a := ⟨_, rfl⟩
  obtain ⟨y, hye⟩ : ∃ y, y = lowN 32 b := ⟨_, rfl⟩
  rw [← hxe] at hX hx
  rw [← hye] at hY hy
  have HX := Lib.hid hxe
  have HY := Lib.hid hye
  clear hxe hye
  have HX' := Lib.hid hx
  have HY' := Lib.hid hy
  clear hx hy
  go_wp2_with fail
  refine (joined32_arsh b1 b2 32 x y rfl HX'.out HY'.out _ hX hY).mono ?_
  rintro e w4 ⟨q, oq, cq, rfl, hq, hB4⟩
  have hb4 := hB02.trans (hB4.mono hs2)
  clear hB4
  go_wp2_with fail
  refine (number_of q oq 32 cq _ (by decide) _ hq).mono ?_
  rintro e w5 ⟨rfl, rfl⟩
  have hval : (downVal x 32 (y % 2 ^ 5) (bit x (32 - 1) == 1)) = R := by rw [HR.out, ← HX.out, ← HY.out]; rfl
  rw [hval]
  clear hval
  go_wp2
  go_ret2
  exact ⟨rfl, hb4⟩

/-- Operation 14 on 32 bits. -/
def val32_neg (x y : Nat) : Nat := 2 ^ 32 - x % 2 ^ 32
set_option maxHeartbeats 1600000 in
theorem refAlu32_neg (a b : Int) (w : World) :
    Calls Tryz.prog 172 #[.int .i64 14, .bool true, .int .i64 a, .int .i64 b] w fun e w' =>
      e = .returned (.tuple #[.int .i64 (wrap64 ((val32_neg (lowN 32 a) (lowN 32 b) % 2 ^ 32 : Nat) : Int)), .int .i64 0]) ∧ Below w.heap.size w w' := by
  obtain ⟨R, hR⟩ : ∃ R, R = val32_neg (lowN 32 a) (lowN 32 b) := ⟨_, rfl⟩
  have HR := Lib.hid hR
  rw [← hR]
  clear hR
  go_enter Tryz.func172, Tryz.ntmps172
  go_wp2_with fail
  refine (width_narrow _).mono ?_
  rintro e w0 ⟨rfl, rfl⟩
  go_wp2_with fail
  refine (row_any a 32 32 rfl (by decide) _).mono ?_
  rintro e w1 ⟨b1, rfl, hb1, hR1, hB1⟩
  go_wp2_with fail
  refine (width_narrow _).mono ?_
  rintro e w1' ⟨rfl, rfl⟩
  go_wp2_with fail
  refine (row_any b 32 32 rfl (by decide) _).mono ?_
  rintro e w2 ⟨b2, rfl, hb2, hR2, hB2⟩
  have hX := Bits.row (row_low (hR1.below hB2 hR1.lt))
  have hY := Bits.row (row_low hR2)
  have hs1 := hB1.size
  have hB02 := hB1.trans (hB2.mono hs1)
  have hs2 := hB02.size
  have hx := lowN_lt 32 a
  have hy := lowN_lt 32 b
  obtain ⟨x, hxe⟩ : ∃ x, x = lowN 32 a := ⟨_, rfl⟩
  obtain ⟨y, hye⟩ : ∃ y, y = lowN 32 b := ⟨_, rfl⟩
  rw [← hxe] at hX hx
  rw [← hye] at hY hy
  have HX := Lib.hid hxe
  have HY := Lib.hid hye
  clear hxe hye
  have HX' := Lib.hid hx
  have HY' := Lib.hid hy
  clear hx hy
  go_wp2_with fail
  refine (joined32_neg b1 b2 32 x y rfl HX'.out HY'.out _ hX hY).mono ?_
  rintro e w4 ⟨q, oq, cq, rfl, hq, hB4⟩
  have hb4 := hB02.trans (hB4.mono hs2)
  clear hB4
  go_wp2_with fail
  refine (number_of q oq 32 cq _ (by decide) _ hq).mono ?_
  rintro e w5 ⟨rfl, rfl⟩
  have hval : (2 ^ 32 - x % 2 ^ 32) = R := by rw [HR.out, ← HX.out, ← HY.out]; rfl
  rw [hval]
  clear hval
  go_wp2
  go_ret2
  exact ⟨rfl, hb4⟩

/-- Operation 15 on 32 bits. -/
def val32_mov (x y : Nat) : Nat := y
set_option maxHeartbeats 1600000 in
theorem refAlu32_mov (a b : Int) (w : World) :
    Calls Tryz.prog 172 #[.int .i64 15, .bool true, .int .i64 a, .int .i64 b] w fun e w' =>
      e = .returned (.tuple #[.int .i64 (wrap64 ((val32_mov (lowN 32 a) (lowN 32 b) % 2 ^ 32 : Nat) : Int)), .int .i64 0]) ∧ Below w.heap.size w w' := by
  obtain ⟨R, hR⟩ : ∃ R, R = val32_mov (lowN 32 a) (lowN 32 b) := ⟨_, rfl⟩
  have HR := Lib.hid hR
  rw [← hR]
  clear hR
  go_enter Tryz.func172, Tryz.ntmps172
  go_wp2_with fail
  refine (width_narrow _).mono ?_
  rintro e w0 ⟨rfl, rfl⟩
  go_wp2_with fail
  refine (row_any a 32 32 rfl (by decide) _).mono ?_
  rintro e w1 ⟨b1, rfl, hb1, hR1, hB1⟩
  go_wp2_with fail
  refine (width_narrow _).mono ?_
  rintro e w1' ⟨rfl, rfl⟩
  go_wp2_with fail
  refine (row_any b 32 32 rfl (by decide) _).mono ?_
  rintro e w2 ⟨b2, rfl, hb2, hR2, hB2⟩
  have hX := Bits.row (row_low (hR1.below hB2 hR1.lt))
  have hY := Bits.row (row_low hR2)
  have hs1 := hB1.size
  have hB02 := hB1.trans (hB2.mono hs1)
  have hs2 := hB02.size
  have hx := lowN_lt 32 a
  have hy := lowN_lt 32 b
  obtain ⟨x, hxe⟩ : ∃ x, x = lowN 32 a := ⟨_, rfl⟩
  obtain ⟨y, hye⟩ : ∃ y, y = lowN 32 b := ⟨_, rfl⟩
  rw [← hxe] at hX hx
  rw [← hye] at hY hy
  have HX := Lib.hid hxe
  have HY := Lib.hid hye
  clear hxe hye
  have HX' := Lib.hid hx
  have HY' := Lib.hid hy
  clear hx hy
  go_wp2_with fail
  refine (joined32_mov b1 b2 32 x y rfl HX'.out HY'.out _ hX hY).mono ?_
  rintro e w4 ⟨q, oq, cq, rfl, hq, hB4⟩
  have hb4 := hB02.trans (hB4.mono hs2)
  clear hB4
  go_wp2_with fail
  refine (number_of q oq 32 cq _ (by decide) _ hq).mono ?_
  rintro e w5 ⟨rfl, rfl⟩
  have hval : (y) = R := by rw [HR.out, ← HX.out, ← HY.out]; rfl
  rw [hval]
  clear hval
  go_wp2
  go_ret2
  exact ⟨rfl, hb4⟩
end Go.Proofs.YtbkcpepalicbjaaGreat
