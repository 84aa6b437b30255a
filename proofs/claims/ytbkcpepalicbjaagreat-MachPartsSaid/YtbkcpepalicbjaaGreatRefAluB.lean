/-
  The reference's Alu: each operation, at 64 and 32 bits.
-/
import Derived.Test.YtbkcpepalicbjaaGreatJoinedB
import Derived.Test.YtbkcpepalicbjaaGreatJoinedC
namespace Go.Proofs.YtbkcpepalicbjaaGreat
open Go.RowKit
set_option linter.unusedVariables false

theorem width_narrow (w : World) : Calls Tryz.prog 209 #[.bool true] w fun e w' => e = .returned (.int .i64 32) ∧ w = w' := by
  go_enter Tryz.func209, Tryz.ntmps209
  go_wp2
  go_ret
  exact ⟨rfl, rfl⟩
theorem width_wide (w : World) : Calls Tryz.prog 209 #[.bool false] w fun e w' => e = .returned (.int .i64 64) ∧ w = w' := by
  go_enter Tryz.func209, Tryz.ntmps209
  go_wp2
  go_ret
  exact ⟨rfl, rfl⟩

theorem row_low {w : World} {b n : Nat} {e : TypeId} {v : Int} (h : Row w b e (itab n (bit (un v)))) : Row w b e (itab n (bit (lowN n v))) := by
  rwa [itab_congr (h := bit (lowN n v)) (fun t ht => (bit_mod ht).symm)] at h

/-- A row's number. -/
theorem number_of (b off n cap x : Nat) (hn : n ≤ 64) (w : World) (hb : Bits w b off n x) :
    Calls Tryz.prog 211 #[.slice (some ⟨b, off, none⟩) n cap] w fun e w' => e = .returned (.int .i64 (wrap64 ((x % 2 ^ n : Nat) : Int))) ∧ w = w' :=
  number_any b off n cap (x % 2 ^ n) hn (Nat.mod_lt _ (Nat.two_pow_pos n)) w (hb.congr fun i hi => (bit_mod hi).symm)

theorem refAlu_bad (op : Int) (nar : Bool) (a b : Int) (h : op < 1 ∨ 15 < op) (w : World) :
    Calls Tryz.prog 172 #[.int .i64 op, .bool nar, .int .i64 a, .int .i64 b] w fun e w' => e = .returned (.tuple #[.int .i64 0, .int .i64 1]) ∧ w = w' := by
  rcases h with h | h
  · go_enter Tryz.func172, Tryz.ntmps172
    go_wp2
    go_ret2
    exact ⟨rfl, rfl⟩
  · have h' : ¬ op < 1 := by omega
    go_enter Tryz.func172, Tryz.ntmps172
    go_wp2
    go_ret2
    exact ⟨rfl, rfl⟩

/-- Operation 1 on 64 bits. -/
def val64_add (x y : Nat) : Nat := x + y + 0
set_option maxHeartbeats 1600000 in
theorem refAlu64_add (a b : Int) (w : World) :
    Calls Tryz.prog 172 #[.int .i64 1, .bool false, .int .i64 a, .int .i64 b] w fun e w' =>
      e = .returned (.tuple #[.int .i64 (wrap64 ((val64_add (lowN 64 a) (lowN 64 b) % 2 ^ 64 : Nat) : Int)), .int .i64 0]) ∧ Below w.heap.size w w' := by
  obtain ⟨R, hR⟩ : ∃ R, R = val64_add (lowN 64 a) (lowN 64 b) := ⟨_, rfl⟩
  have HR := Lib.hid hR
  rw [← hR]
  clear hR
  go_enter Tryz.func172, Tryz.ntmps172
  go_wp2_with fail
  refine (width_wide _).mono ?_
  rintro e w0 ⟨rfl, rfl⟩
  go_wp2_with fail
  refine (row_any a 64 64 rfl (by decide) _).mono ?_
  rintro e w1 ⟨b1, rfl, hb1, hR1, hB1⟩
  go_wp2_with fail
  refine (width_wide _).mono ?_
  rintro e w1' ⟨rfl, rfl⟩
  go_wp2_with fail
  refine (row_any b 64 64 rfl (by decide) _).mono ?_
  rintro e w2 ⟨b2, rfl, hb2, hR2, hB2⟩
  have hX := Bits.row (row_low (hR1.below hB2 hR1.lt))
  have hY := Bits.row (row_low hR2)
  have hs1 := hB1.size
  have hB02 := hB1.trans (hB2.mono hs1)
  have hs2 := hB02.size
  have hx := lowN_lt 64 a
  have hy := lowN_lt 64 b
  obtain ⟨x, hxe⟩ : ∃ x, x = lowN 64 a := ⟨_, rfl⟩
  obtain ⟨y, hye⟩ : ∃ y, y = lowN 64 b := ⟨_, rfl⟩
  rw [← hxe] at hX hx
  rw [← hye] at hY hy
  have HX := Lib.hid hxe
  have HY := Lib.hid hye
  clear hxe hye
  have HX' := Lib.hid hx
  have HY' := Lib.hid hy
  clear hx hy
  go_wp2_with fail
  refine (joined64_add b1 b2 64 x y rfl HX'.out HY'.out _ hX hY).mono ?_
  rintro e w4 ⟨q, oq, cq, rfl, hq, hB4⟩
  have hb4 := hB02.trans (hB4.mono hs2)
  clear hB4
  go_wp2_with fail
  refine (number_of q oq 64 cq _ (by decide) _ hq).mono ?_
  rintro e w5 ⟨rfl, rfl⟩
  have hval : (x + y + 0) = R := by rw [HR.out, ← HX.out, ← HY.out]; rfl
  rw [hval]
  clear hval
  go_wp2
  go_ret2
  exact ⟨rfl, hb4⟩

/-- Operation 2 on 64 bits. -/
def val64_sub (x y : Nat) : Nat := x + (2 ^ 64 - 1 - y % 2 ^ 64) + 1
set_option maxHeartbeats 1600000 in
theorem refAlu64_sub (a b : Int) (w : World) :
    Calls Tryz.prog 172 #[.int .i64 2, .bool false, .int .i64 a, .int .i64 b] w fun e w' =>
      e = .returned (.tuple #[.int .i64 (wrap64 ((val64_sub (lowN 64 a) (lowN 64 b) % 2 ^ 64 : Nat) : Int)), .int .i64 0]) ∧ Below w.heap.size w w' := by
  obtain ⟨R, hR⟩ : ∃ R, R = val64_sub (lowN 64 a) (lowN 64 b) := ⟨_, rfl⟩
  have HR := Lib.hid hR
  rw [← hR]
  clear hR
  go_enter Tryz.func172, Tryz.ntmps172
  go_wp2_with fail
  refine (width_wide _).mono ?_
  rintro e w0 ⟨rfl, rfl⟩
  go_wp2_with fail
  refine (row_any a 64 64 rfl (by decide) _).mono ?_
  rintro e w1 ⟨b1, rfl, hb1, hR1, hB1⟩
  go_wp2_with fail
  refine (width_wide _).mono ?_
  rintro e w1' ⟨rfl, rfl⟩
  go_wp2_with fail
  refine (row_any b 64 64 rfl (by decide) _).mono ?_
  rintro e w2 ⟨b2, rfl, hb2, hR2, hB2⟩
  have hX := Bits.row (row_low (hR1.below hB2 hR1.lt))
  have hY := Bits.row (row_low hR2)
  have hs1 := hB1.size
  have hB02 := hB1.trans (hB2.mono hs1)
  have hs2 := hB02.size
  have hx := lowN_lt 64 a
  have hy := lowN_lt 64 b
  obtain ⟨x, hxe⟩ : ∃ x, x = lowN 64 a := ⟨_, rfl⟩
  obtain ⟨y, hye⟩ : ∃ y, y = lowN 64 b := ⟨_, rfl⟩
  rw [← hxe] at hX hx
  rw [← hye] at hY hy
  have HX := Lib.hid hxe
  have HY := Lib.hid hye
  clear hxe hye
  have HX' := Lib.hid hx
  have HY' := Lib.hid hy
  clear hx hy
  go_wp2_with fail
  refine (joined64_sub b1 b2 64 x y rfl HX'.out HY'.out _ hX hY).mono ?_
  rintro e w4 ⟨q, oq, cq, rfl, hq, hB4⟩
  have hb4 := hB02.trans (hB4.mono hs2)
  clear hB4
  go_wp2_with fail
  refine (number_of q oq 64 cq _ (by decide) _ hq).mono ?_
  rintro e w5 ⟨rfl, rfl⟩
  have hval : (x + (2 ^ 64 - 1 - y % 2 ^ 64) + 1) = R := by rw [HR.out, ← HX.out, ← HY.out]; rfl
  rw [hval]
  clear hval
  go_wp2
  go_ret2
  exact ⟨rfl, hb4⟩

/-- Operation 3 on 64 bits. -/
def val64_mul (x y : Nat) : Nat := x * (y % 2 ^ 64)
set_option maxHeartbeats 1600000 in
theorem refAlu64_mul (a b : Int) (w : World) :
    Calls Tryz.prog 172 #[.int .i64 3, .bool false, .int .i64 a, .int .i64 b] w fun e w' =>
      e = .returned (.tuple #[.int .i64 (wrap64 ((val64_mul (lowN 64 a) (lowN 64 b) % 2 ^ 64 : Nat) : Int)), .int .i64 0]) ∧ Below w.heap.size w w' := by
  obtain ⟨R, hR⟩ : ∃ R, R = val64_mul (lowN 64 a) (lowN 64 b) := ⟨_, rfl⟩
  have HR := Lib.hid hR
  rw [← hR]
  clear hR
  go_enter Tryz.func172, Tryz.ntmps172
  go_wp2_with fail
  refine (width_wide _).mono ?_
  rintro e w0 ⟨rfl, rfl⟩
  go_wp2_with fail
  refine (row_any a 64 64 rfl (by decide) _).mono ?_
  rintro e w1 ⟨b1, rfl, hb1, hR1, hB1⟩
  go_wp2_with fail
  refine (width_wide _).mono ?_
  rintro e w1' ⟨rfl, rfl⟩
  go_wp2_with fail
  refine (row_any b 64 64 rfl (by decide) _).mono ?_
  rintro e w2 ⟨b2, rfl, hb2, hR2, hB2⟩
  have hX := Bits.row (row_low (hR1.below hB2 hR1.lt))
  have hY := Bits.row (row_low hR2)
  have hs1 := hB1.size
  have hB02 := hB1.trans (hB2.mono hs1)
  have hs2 := hB02.size
  have hx := lowN_lt 64 a
  have hy := lowN_lt 64 b
  obtain ⟨x, hxe⟩ : ∃ x, x = lowN 64 a := ⟨_, rfl⟩
  obtain ⟨y, hye⟩ : ∃ y, y = lowN 64 b := ⟨_, rfl⟩
  rw [← hxe] at hX hx
  rw [← hye] at hY hy
  have HX := Lib.hid hxe
  have HY := Lib.hid hye
  clear hxe hye
  have HX' := Lib.hid hx
  have HY' := Lib.hid hy
  clear hx hy
  go_wp2_with fail
  refine (joined64_mul b1 b2 64 x y rfl HX'.out HY'.out _ hX hY).mono ?_
  rintro e w4 ⟨q, oq, cq, rfl, hq, hB4⟩
  have hb4 := hB02.trans (hB4.mono hs2)
  clear hB4
  go_wp2_with fail
  refine (number_of q oq 64 cq _ (by decide) _ hq).mono ?_
  rintro e w5 ⟨rfl, rfl⟩
  have hval : (x * (y % 2 ^ 64)) = R := by rw [HR.out, ← HX.out, ← HY.out]; rfl
  rw [hval]
  clear hval
  go_wp2
  go_ret2
  exact ⟨rfl, hb4⟩

/-- Operation 4 on 64 bits. -/
def val64_div (x y : Nat) : Nat := x / y
set_option maxHeartbeats 1600000 in
theorem refAlu64_div (a b : Int) (h0 : lowN 64 b ≠ 0) (w : World) :
    Calls Tryz.prog 172 #[.int .i64 4, .bool false, .int .i64 a, .int .i64 b] w fun e w' =>
      e = .returned (.tuple #[.int .i64 (wrap64 ((val64_div (lowN 64 a) (lowN 64 b) % 2 ^ 64 : Nat) : Int)), .int .i64 0]) ∧ Below w.heap.size w w' := by
  have H0 := Lib.hid h0
  clear h0
  obtain ⟨R, hR⟩ : ∃ R, R = val64_div (lowN 64 a) (lowN 64 b) := ⟨_, rfl⟩
  have HR := Lib.hid hR
  rw [← hR]
  clear hR
  go_enter Tryz.func172, Tryz.ntmps172
  go_wp2_with fail
  refine (width_wide _).mono ?_
  rintro e w0 ⟨rfl, rfl⟩
  go_wp2_with fail
  refine (row_any a 64 64 rfl (by decide) _).mono ?_
  rintro e w1 ⟨b1, rfl, hb1, hR1, hB1⟩
  go_wp2_with fail
  refine (width_wide _).mono ?_
  rintro e w1' ⟨rfl, rfl⟩
  go_wp2_with fail
  refine (row_any b 64 64 rfl (by decide) _).mono ?_
  rintro e w2 ⟨b2, rfl, hb2, hR2, hB2⟩
  have hX := Bits.row (row_low (hR1.below hB2 hR1.lt))
  have hY := Bits.row (row_low hR2)
  have hs1 := hB1.size
  have hB02 := hB1.trans (hB2.mono hs1)
  have hs2 := hB02.size
  have hx := lowN_lt 64 a
  have hy := lowN_lt 64 b
  obtain ⟨x, hxe⟩ : ∃ x, x = lowN 64 a := ⟨_, rfl⟩
  obtain ⟨y, hye⟩ : ∃ y, y = lowN 64 b := ⟨_, rfl⟩
  rw [← hxe] at hX hx
  rw [← hye] at hY hy
  have HX := Lib.hid hxe
  have HY := Lib.hid hye
  clear hxe hye
  have hmk := make_ints' 64 64 rfl (by decide)
  have hZ : Bits (w2.alloc (.cells (itab 64 fun _ => 0).toArray 3)) w2.heap.size 0 64 0 := Bits.row (zero_bits w2 64)
  have hX' : Bits (w2.alloc (.cells (itab 64 fun _ => 0).toArray 3)) b1 0 64 x := hX.below ((Below.refl _ _).alloc (Nat.le_refl _) _) hX.1
  have hY' : Bits (w2.alloc (.cells (itab 64 fun _ => 0).toArray 3)) b2 0 64 y := hY.below ((Below.refl _ _).alloc (Nat.le_refl _) _) hY.1
  have hd : decide (y = 0) = false := by have := H0.out; rw [← HY.out] at this; simpa using this
  have HD := Lib.hid hd
  have HP := Lib.hid (show 0 < 2 ^ 64 by decide)
  have HX' := Lib.hid hx
  have HY' := Lib.hid hy
  clear hd hx hy
  go_wp2_with fail
  refine (same_any b2 w2.heap.size 0 0 64 64 64 y 0 (by decide) HY'.out HP.out _ hY' hZ).mono ?_
  rintro e w3 ⟨rfl, k3, rfl⟩
  rw [HD.out]
  have hb3 : Below w.heap.size w ((w2.alloc (.cells (itab 64 fun _ => 0).toArray 3)).drewN k3) := below_drewN (hB02.alloc hs2 _) k3
  have hX3 : Bits ((w2.alloc (.cells (itab 64 fun _ => 0).toArray 3)).drewN k3) b1 0 64 x := hX'
  have hY3 : Bits ((w2.alloc (.cells (itab 64 fun _ => 0).toArray 3)).drewN k3) b2 0 64 y := hY'
  clear hmk hZ hX' hY' hX hY
  go_wp2_with fail
  refine (joined64_div b1 b2 64 x y rfl HX'.out HY'.out (by have := H0.out; rwa [← HY.out] at this) _ hX3 hY3).mono ?_
  rintro e w4 ⟨q, oq, cq, rfl, hq, hB4⟩
  have hs3 := hb3.size
  have hb4 := hb3.trans (hB4.mono hs3)
  clear hB4 hb3
  go_wp2_with fail
  refine (number_of q oq 64 cq _ (by decide) _ hq).mono ?_
  rintro e w5 ⟨rfl, rfl⟩
  have hval : (x / y) = R := by rw [HR.out, ← HX.out, ← HY.out]; rfl
  rw [hval]
  clear hval
  go_wp2
  go_ret2
  exact ⟨rfl, hb4⟩

set_option maxHeartbeats 1600000 in
theorem refAlu64_div0 (a b : Int) (h0 : lowN 64 b = 0) (w : World) :
    Calls Tryz.prog 172 #[.int .i64 4, .bool false, .int .i64 a, .int .i64 b] w fun e w' =>
      e = .returned (.tuple #[.int .i64 0, .int .i64 84]) ∧ Below w.heap.size w w' := by
  have H0 := Lib.hid h0
  clear h0
  go_enter Tryz.func172, Tryz.ntmps172
  go_wp2_with fail
  refine (width_wide _).mono ?_
  rintro e w0 ⟨rfl, rfl⟩
  go_wp2_with fail
  refine (row_any a 64 64 rfl (by decide) _).mono ?_
  rintro e w1 ⟨b1, rfl, hb1, hR1, hB1⟩
  go_wp2_with fail
  refine (width_wide _).mono ?_
  rintro e w1' ⟨rfl, rfl⟩
  go_wp2_with fail
  refine (row_any b 64 64 rfl (by decide) _).mono ?_
  rintro e w2 ⟨b2, rfl, hb2, hR2, hB2⟩
  have hX := Bits.row (row_low (hR1.below hB2 hR1.lt))
  have hY := Bits.row (row_low hR2)
  have hs1 := hB1.size
  have hB02 := hB1.trans (hB2.mono hs1)
  have hs2 := hB02.size
  have hx := lowN_lt 64 a
  have hy := lowN_lt 64 b
  rw [H0.out] at hY
  have hmk := make_ints' 64 64 rfl (by decide)
  have hZ : Bits (w2.alloc (.cells (itab 64 fun _ => 0).toArray 3)) w2.heap.size 0 64 0 := Bits.row (zero_bits w2 64)
  have hY' : Bits (w2.alloc (.cells (itab 64 fun _ => 0).toArray 3)) b2 0 64 0 := hY.below ((Below.refl _ _).alloc (Nat.le_refl _) _) hY.1
  have HP := Lib.hid (show 0 < 2 ^ 64 by decide)
  clear hx hy
  go_wp2_with fail
  refine (same_any b2 w2.heap.size 0 0 64 64 64 0 0 (by decide) HP.out HP.out _ hY' hZ).mono ?_
  rintro e w3 ⟨rfl, k3, rfl⟩
  have hb3 : Below w.heap.size w ((w2.alloc (.cells (itab 64 fun _ => 0).toArray 3)).drewN k3) := below_drewN (hB02.alloc hs2 _) k3
  have HB3 := Lib.hid hb3
  clear hmk hZ hY' hX hY hb3
  go_wp2
  go_ret2
  exact ⟨rfl, HB3.out⟩

/-- Operation 5 on 64 bits. -/
def val64_mod (x y : Nat) : Nat := x % y
set_option maxHeartbeats 1600000 in
theorem refAlu64_mod (a b : Int) (h0 : lowN 64 b ≠ 0) (w : World) :
    Calls Tryz.prog 172 #[.int .i64 5, .bool false, .int .i64 a, .int .i64 b] w fun e w' =>
      e = .returned (.tuple #[.int .i64 (wrap64 ((val64_mod (lowN 64 a) (lowN 64 b) % 2 ^ 64 : Nat) : Int)), .int .i64 0]) ∧ Below w.heap.size w w' := by
  have H0 := Lib.hid h0
  clear h0
  obtain ⟨R, hR⟩ : ∃ R, R = val64_mod (lowN 64 a) (lowN 64 b) := ⟨_, rfl⟩
  have HR := Lib.hid hR
  rw [← hR]
  clear hR
  go_enter Tryz.func172, Tryz.ntmps172
  go_wp2_with fail
  refine (width_wide _).mono ?_
  rintro e w0 ⟨rfl, rfl⟩
  go_wp2_with fail
  refine (row_any a 64 64 rfl (by decide) _).mono ?_
  rintro e w1 ⟨b1, rfl, hb1, hR1, hB1⟩
  go_wp2_with fail
  refine (width_wide _).mono ?_
  rintro e w1' ⟨rfl, rfl⟩
  go_wp2_with fail
  refine (row_any b 64 64 rfl (by decide) _).mono ?_
  rintro e w2 ⟨b2, rfl, hb2, hR2, hB2⟩
  have hX := Bits.row (row_low (hR1.below hB2 hR1.lt))
  have hY := Bits.row (row_low hR2)
  have hs1 := hB1.size
  have hB02 := hB1.trans (hB2.mono hs1)
  have hs2 := hB02.size
  have hx := lowN_lt 64 a
  have hy := lowN_lt 64 b
  obtain ⟨x, hxe⟩ : ∃ x, x = lowN 64 a := ⟨_, rfl⟩
  obtain ⟨y, hye⟩ : ∃ y, y = lowN 64 b := ⟨_, rfl⟩
  rw [← hxe] at hX hx
  rw [← hye] at hY hy
  have HX := Lib.hid hxe
  have HY := Lib.hid hye
  clear hxe hye
  have hmk := make_ints' 64 64 rfl (by decide)
  have hZ : Bits (w2.alloc (.cells (itab 64 fun _ => 0).toArray 3)) w2.heap.size 0 64 0 := Bits.row (zero_bits w2 64)
  have hX' : Bits (w2.alloc (.cells (itab 64 fun _ => 0).toArray 3)) b1 0 64 x := hX.below ((Below.refl _ _).alloc (Nat.le_refl _) _) hX.1
  have hY' : Bits (w2.alloc (.cells (itab 64 fun _ => 0).toArray 3)) b2 0 64 y := hY.below ((Below.refl _ _).alloc (Nat.le_refl _) _) hY.1
  have hd : decide (y = 0) = false := by have := H0.out; rw [← HY.out] at this; simpa using this
  have HD := Lib.hid hd
  have HP := Lib.hid (show 0 < 2 ^ 64 by decide)
  have HX' := Lib.hid hx
  have HY' := Lib.hid hy
  clear hd hx hy
  go_wp2_with fail
  refine (same_any b2 w2.heap.size 0 0 64 64 64 y 0 (by decide) HY'.out HP.out _ hY' hZ).mono ?_
  rintro e w3 ⟨rfl, k3, rfl⟩
  rw [HD.out]
  have hb3 : Below w.heap.size w ((w2.alloc (.cells (itab 64 fun _ => 0).toArray 3)).drewN k3) := below_drewN (hB02.alloc hs2 _) k3
  have hX3 : Bits ((w2.alloc (.cells (itab 64 fun _ => 0).toArray 3)).drewN k3) b1 0 64 x := hX'
  have hY3 : Bits ((w2.alloc (.cells (itab 64 fun _ => 0).toArray 3)).drewN k3) b2 0 64 y := hY'
  clear hmk hZ hX' hY' hX hY
  go_wp2_with fail
  refine (joined64_mod b1 b2 64 x y rfl HX'.out HY'.out (by have := H0.out; rwa [← HY.out] at this) _ hX3 hY3).mono ?_
  rintro e w4 ⟨q, oq, cq, rfl, hq, hB4⟩
  have hs3 := hb3.size
  have hb4 := hb3.trans (hB4.mono hs3)
  clear hB4 hb3
  go_wp2_with fail
  refine (number_of q oq 64 cq _ (by decide) _ hq).mono ?_
  rintro e w5 ⟨rfl, rfl⟩
  have hval : (x % y) = R := by rw [HR.out, ← HX.out, ← HY.out]; rfl
  rw [hval]
  clear hval
  go_wp2
  go_ret2
  exact ⟨rfl, hb4⟩

set_option maxHeartbeats 1600000 in
theorem refAlu64_mod0 (a b : Int) (h0 : lowN 64 b = 0) (w : World) :
    Calls Tryz.prog 172 #[.int .i64 5, .bool false, .int .i64 a, .int .i64 b] w fun e w' =>
      e = .returned (.tuple #[.int .i64 0, .int .i64 84]) ∧ Below w.heap.size w w' := by
  have H0 := Lib.hid h0
  clear h0
  go_enter Tryz.func172, Tryz.ntmps172
  go_wp2_with fail
  refine (width_wide _).mono ?_
  rintro e w0 ⟨rfl, rfl⟩
  go_wp2_with fail
  refine (row_any a 64 64 rfl (by decide) _).mono ?_
  rintro e w1 ⟨b1, rfl, hb1, hR1, hB1⟩
  go_wp2_with fail
  refine (width_wide _).mono ?_
  rintro e w1' ⟨rfl, rfl⟩
  go_wp2_with fail
  refine (row_any b 64 64 rfl (by decide) _).mono ?_
  rintro e w2 ⟨b2, rfl, hb2, hR2, hB2⟩
  have hX := Bits.row (row_low (hR1.below hB2 hR1.lt))
  have hY := Bits.row (row_low hR2)
  have hs1 := hB1.size
  have hB02 := hB1.trans (hB2.mono hs1)
  have hs2 := hB02.size
  have hx := lowN_lt 64 a
  have hy := lowN_lt 64 b
  rw [H0.out] at hY
  have hmk := make_ints' 64 64 rfl (by decide)
  have hZ : Bits (w2.alloc (.cells (itab 64 fun _ => 0).toArray 3)) w2.heap.size 0 64 0 := Bits.row (zero_bits w2 64)
  have hY' : Bits (w2.alloc (.cells (itab 64 fun _ => 0).toArray 3)) b2 0 64 0 := hY.below ((Below.refl _ _).alloc (Nat.le_refl _) _) hY.1
  have HP := Lib.hid (show 0 < 2 ^ 64 by decide)
  clear hx hy
  go_wp2_with fail
  refine (same_any b2 w2.heap.size 0 0 64 64 64 0 0 (by decide) HP.out HP.out _ hY' hZ).mono ?_
  rintro e w3 ⟨rfl, k3, rfl⟩
  have hb3 : Below w.heap.size w ((w2.alloc (.cells (itab 64 fun _ => 0).toArray 3)).drewN k3) := below_drewN (hB02.alloc hs2 _) k3
  have HB3 := Lib.hid hb3
  clear hmk hZ hY' hX hY hb3
  go_wp2
  go_ret2
  exact ⟨rfl, HB3.out⟩

/-- Operation 6 on 64 bits. -/
def val64_sdiv (x y : Nat) : Nat := turn (bit x (64 - 1) != bit y (64 - 1)) 64 (absN 64 x / absN 64 y)
set_option maxHeartbeats 1600000 in
theorem refAlu64_sdiv (a b : Int) (h0 : lowN 64 b ≠ 0) (w : World) :
    Calls Tryz.prog 172 #[.int .i64 6, .bool false, .int .i64 a, .int .i64 b] w fun e w' =>
      e = .returned (.tuple #[.int .i64 (wrap64 ((val64_sdiv (lowN 64 a) (lowN 64 b) % 2 ^ 64 : Nat) : Int)), .int .i64 0]) ∧ Below w.heap.size w w' := by
  have H0 := Lib.hid h0
  clear h0
  obtain ⟨R, hR⟩ : ∃ R, R = val64_sdiv (lowN 64 a) (lowN 64 b) := ⟨_, rfl⟩
  have HR := Lib.hid hR
  rw [← hR]
  clear hR
  go_enter Tryz.func172, Tryz.ntmps172
  go_wp2_with fail
  refine (width_wide _).mono ?_
  rintro e w0 ⟨rfl, rfl⟩
  go_wp2_with fail
  refine (row_any a 64 64 rfl (by decide) _).mono ?_
  rintro e w1 ⟨b1, rfl, hb1, hR1, hB1⟩
  go_wp2_with fail
  refine (width_wide _).mono ?_
  rintro e w1' ⟨rfl, rfl⟩
  go_wp2_with fail
  refine (row_any b 64 64 rfl (by decide) _).mono ?_
  rintro e w2 ⟨b2, rfl, hb2, hR2, hB2⟩
  have hX := Bits.row (row_low (hR1.below hB2 hR1.lt))
  have hY := Bits.row (row_low hR2)
  have hs1 := hB1.size
  have hB02 := hB1.trans (hB2.mono hs1)
  have hs2 := hB02.size
  have hx := lowN_lt 64 a
  have hy := lowN_lt 64 b
  obtain ⟨x, hxe⟩ : ∃ x, x = lowN 64 a := ⟨_, rfl⟩
  obtain ⟨y, hye⟩ : ∃ y, y = lowN 64 b := ⟨_, rfl⟩
  rw [← hxe] at hX hx
  rw [← hye] at hY hy
  have HX := Lib.hid hxe
  have HY := Lib.hid hye
  clear hxe hye
  have hmk := make_ints' 64 64 rfl (by decide)
  have hZ : Bits (w2.alloc (.cells (itab 64 fun _ => 0).toArray 3)) w2.heap.size 0 64 0 := Bits.row (zero_bits w2 64)
  have hX' : Bits (w2.alloc (.cells (itab 64 fun _ => 0).toArray 3)) b1 0 64 x := hX.below ((Below.refl _ _).alloc (Nat.le_refl _) _) hX.1
  have hY' : Bits (w2.alloc (.cells (itab 64 fun _ => 0).toArray 3)) b2 0 64 y := hY.below ((Below.refl _ _).alloc (Nat.le_refl _) _) hY.1
  have hd : decide (y = 0) = false := by have := H0.out; rw [← HY.out] at this; simpa using this
  have HD := Lib.hid hd
  have HP := Lib.hid (show 0 < 2 ^ 64 by decide)
  have HX' := Lib.hid hx
  have HY' := Lib.hid hy
  clear hd hx hy
  go_wp2_with fail
  refine (same_any b2 w2.heap.size 0 0 64 64 64 y 0 (by decide) HY'.out HP.out _ hY' hZ).mono ?_
  rintro e w3 ⟨rfl, k3, rfl⟩
  rw [HD.out]
  have hb3 : Below w.heap.size w ((w2.alloc (.cells (itab 64 fun _ => 0).toArray 3)).drewN k3) := below_drewN (hB02.alloc hs2 _) k3
  have hX3 : Bits ((w2.alloc (.cells (itab 64 fun _ => 0).toArray 3)).drewN k3) b1 0 64 x := hX'
  have hY3 : Bits ((w2.alloc (.cells (itab 64 fun _ => 0).toArray 3)).drewN k3) b2 0 64 y := hY'
  clear hmk hZ hX' hY' hX hY
  go_wp2_with fail
  refine (joined64_sdiv b1 b2 64 x y rfl HX'.out HY'.out (by have := H0.out; rwa [← HY.out] at this) _ hX3 hY3).mono ?_
  rintro e w4 ⟨q, oq, cq, rfl, hq, hB4⟩
  have hs3 := hb3.size
  have hb4 := hb3.trans (hB4.mono hs3)
  clear hB4 hb3
  go_wp2_with fail
  refine (number_of q oq 64 cq _ (by decide) _ hq).mono ?_
  rintro e w5 ⟨rfl, rfl⟩
  have hval : (turn (bit x (64 - 1) != bit y (64 - 1)) 64 (absN 64 x / absN 64 y)) = R := by rw [HR.out, ← HX.out, ← HY.out]; rfl
  rw [hval]
  clear hval
  go_wp2
  go_ret2
  exact ⟨rfl, hb4⟩

set_option maxHeartbeats 1600000 in
theorem refAlu64_sdiv0 (a b : Int) (h0 : lowN 64 b = 0) (w : World) :
    Calls Tryz.prog 172 #[.int .i64 6, .bool false, .int .i64 a, .int .i64 b] w fun e w' =>
      e = .returned (.tuple #[.int .i64 0, .int .i64 84]) ∧ Below w.heap.size w w' := by
  have H0 := Lib.hid h0
  clear h0
  go_enter Tryz.func172, Tryz.ntmps172
  go_wp2_with fail
  refine (width_wide _).mono ?_
  rintro e w0 ⟨rfl, rfl⟩
  go_wp2_with fail
  refine (row_any a 64 64 rfl (by decide) _).mono ?_
  rintro e w1 ⟨b1, rfl, hb1, hR1, hB1⟩
  go_wp2_with fail
  refine (width_wide _).mono ?_
  rintro e w1' ⟨rfl, rfl⟩
  go_wp2_with fail
  refine (row_any b 64 64 rfl (by decide) _).mono ?_
  rintro e w2 ⟨b2, rfl, hb2, hR2, hB2⟩
  have hX := Bits.row (row_low (hR1.below hB2 hR1.lt))
  have hY := Bits.row (row_low hR2)
  have hs1 := hB1.size
  have hB02 := hB1.trans (hB2.mono hs1)
  have hs2 := hB02.size
  have hx := lowN_lt 64 a
  have hy := lowN_lt 64 b
  rw [H0.out] at hY
  have hmk := make_ints' 64 64 rfl (by decide)
  have hZ : Bits (w2.alloc (.cells (itab 64 fun _ => 0).toArray 3)) w2.heap.size 0 64 0 := Bits.row (zero_bits w2 64)
  have hY' : Bits (w2.alloc (.cells (itab 64 fun _ => 0).toArray 3)) b2 0 64 0 := hY.below ((Below.refl _ _).alloc (Nat.le_refl _) _) hY.1
  have HP := Lib.hid (show 0 < 2 ^ 64 by decide)
  clear hx hy
  go_wp2_with fail
  refine (same_any b2 w2.heap.size 0 0 64 64 64 0 0 (by decide) HP.out HP.out _ hY' hZ).mono ?_
  rintro e w3 ⟨rfl, k3, rfl⟩
  have hb3 : Below w.heap.size w ((w2.alloc (.cells (itab 64 fun _ => 0).toArray 3)).drewN k3) := below_drewN (hB02.alloc hs2 _) k3
  have HB3 := Lib.hid hb3
  clear hmk hZ hY' hX hY hb3
  go_wp2
  go_ret2
  exact ⟨rfl, HB3.out⟩

/-- Operation 7 on 64 bits. -/
def val64_smod (x y : Nat) : Nat := turn (bit x (64 - 1) == 1) 64 (absN 64 x % absN 64 y)
set_option maxHeartbeats 1600000 in
theorem refAlu64_smod (a b : Int) (h0 : lowN 64 b ≠ 0) (w : World) :
    Calls Tryz.prog 172 #[.int .i64 7, .bool false, .int .i64 a, .int .i64 b] w fun e w' =>
      e = .returned (.tuple #[.int .i64 (wrap64 ((val64_smod (lowN 64 a) (lowN 64 b) % 2 ^ 64 : Nat) : Int)), .int .i64 0]) ∧ Below w.heap.size w w' := by
  have H0 := Lib.hid h0
  clear h0
  obtain ⟨R, hR⟩ : ∃ R, R = val64_smod (lowN 64 a) (lowN 64 b) := ⟨_, rfl⟩
  have HR := Lib.hid hR
  rw [← hR]
  clear hR
  go_enter Tryz.func172, Tryz.ntmps172
  go_wp2_with fail
  refine (width_wide _).mono ?_
  rintro e w0 ⟨rfl, rfl⟩
  go_wp2_with fail
  refine (row_any a 64 64 rfl (by decide) _).mono ?_
  rintro e w1 ⟨b1, rfl, hb1, hR1, hB1⟩
  go_wp2_with fail
  refine (width_wide _).mono ?_
  rintro e w1' ⟨rfl, rfl⟩
  go_wp2_with fail
  refine (row_any b 64 64 rfl (by decide) _).mono ?_
  rintro e w2 ⟨b2, rfl, hb2, hR2, hB2⟩
  have hX := Bits.row (row_low (hR1.below hB2 hR1.lt))
  have hY := Bits.row (row_low hR2)
  have hs1 := hB1.size
  have hB02 := hB1.trans (hB2.mono hs1)
  have hs2 := hB02.size
  have hx := lowN_lt 64 a
  have hy := lowN_lt 64 b
  obtain ⟨x, hxe⟩ : ∃ x, x = lowN 64 a := ⟨_, rfl⟩
  obtain ⟨y, hye⟩ : ∃ y, y = lowN 64 b := ⟨_, rfl⟩
  rw [← hxe] at hX hx
  rw [← hye] at hY hy
  have HX := Lib.hid hxe
  have HY := Lib.hid hye
  clear hxe hye
  have hmk := make_ints' 64 64 rfl (by decide)
  have hZ : Bits (w2.alloc (.cells (itab 64 fun _ => 0).toArray 3)) w2.heap.size 0 64 0 := Bits.row (zero_bits w2 64)
  have hX' : Bits (w2.alloc (.cells (itab 64 fun _ => 0).toArray 3)) b1 0 64 x := hX.below ((Below.refl _ _).alloc (Nat.le_refl _) _) hX.1
  have hY' : Bits (w2.alloc (.cells (itab 64 fun _ => 0).toArray 3)) b2 0 64 y := hY.below ((Below.refl _ _).alloc (Nat.le_refl _) _) hY.1
  have hd : decide (y = 0) = false := by have := H0.out; rw [← HY.out] at this; simpa using this
  have HD := Lib.hid hd
  have HP := Lib.hid (show 0 < 2 ^ 64 by decide)
  have HX' := Lib.hid hx
  have HY' := Lib.hid hy
  clear hd hx hy
  go_wp2_with fail
  refine (same_any b2 w2.heap.size 0 0 64 64 64 y 0 (by decide) HY'.out HP.out _ hY' hZ).mono ?_
  rintro e w3 ⟨rfl, k3, rfl⟩
  rw [HD.out]
  have hb3 : Below w.heap.size w ((w2.alloc (.cells (itab 64 fun _ => 0).toArray 3)).drewN k3) := below_drewN (hB02.alloc hs2 _) k3
  have hX3 : Bits ((w2.alloc (.cells (itab 64 fun _ => 0).toArray 3)).drewN k3) b1 0 64 x := hX'
  have hY3 : Bits ((w2.alloc (.cells (itab 64 fun _ => 0).toArray 3)).drewN k3) b2 0 64 y := hY'
  clear hmk hZ hX' hY' hX hY
  go_wp2_with fail
  refine (joined64_smod b1 b2 64 x y rfl HX'.out HY'.out (by have := H0.out; rwa [← HY.out] at this) _ hX3 hY3).mono ?_
  rintro e w4 ⟨q, oq, cq, rfl, hq, hB4⟩
  have hs3 := hb3.size
  have hb4 := hb3.trans (hB4.mono hs3)
  clear hB4 hb3
  go_wp2_with fail
  refine (number_of q oq 64 cq _ (by decide) _ hq).mono ?_
  rintro e w5 ⟨rfl, rfl⟩
  have hval : (turn (bit x (64 - 1) == 1) 64 (absN 64 x % absN 64 y)) = R := by rw [HR.out, ← HX.out, ← HY.out]; rfl
  rw [hval]
  clear hval
  go_wp2
  go_ret2
  exact ⟨rfl, hb4⟩

set_option maxHeartbeats 1600000 in
theorem refAlu64_smod0 (a b : Int) (h0 : lowN 64 b = 0) (w : World) :
    Calls Tryz.prog 172 #[.int .i64 7, .bool false, .int .i64 a, .int .i64 b] w fun e w' =>
      e = .returned (.tuple #[.int .i64 0, .int .i64 84]) ∧ Below w.heap.size w w' := by
  have H0 := Lib.hid h0
  clear h0
  go_enter Tryz.func172, Tryz.ntmps172
  go_wp2_with fail
  refine (width_wide _).mono ?_
  rintro e w0 ⟨rfl, rfl⟩
  go_wp2_with fail
  refine (row_any a 64 64 rfl (by decide) _).mono ?_
  rintro e w1 ⟨b1, rfl, hb1, hR1, hB1⟩
  go_wp2_with fail
  refine (width_wide _).mono ?_
  rintro e w1' ⟨rfl, rfl⟩
  go_wp2_with fail
  refine (row_any b 64 64 rfl (by decide) _).mono ?_
  rintro e w2 ⟨b2, rfl, hb2, hR2, hB2⟩
  have hX := Bits.row (row_low (hR1.below hB2 hR1.lt))
  have hY := Bits.row (row_low hR2)
  have hs1 := hB1.size
  have hB02 := hB1.trans (hB2.mono hs1)
  have hs2 := hB02.size
  have hx := lowN_lt 64 a
  have hy := lowN_lt 64 b
  rw [H0.out] at hY
  have hmk := make_ints' 64 64 rfl (by decide)
  have hZ : Bits (w2.alloc (.cells (itab 64 fun _ => 0).toArray 3)) w2.heap.size 0 64 0 := Bits.row (zero_bits w2 64)
  have hY' : Bits (w2.alloc (.cells (itab 64 fun _ => 0).toArray 3)) b2 0 64 0 := hY.below ((Below.refl _ _).alloc (Nat.le_refl _) _) hY.1
  have HP := Lib.hid (show 0 < 2 ^ 64 by decide)
  clear hx hy
  go_wp2_with fail
  refine (same_any b2 w2.heap.size 0 0 64 64 64 0 0 (by decide) HP.out HP.out _ hY' hZ).mono ?_
  rintro e w3 ⟨rfl, k3, rfl⟩
  have hb3 : Below w.heap.size w ((w2.alloc (.cells (itab 64 fun _ => 0).toArray 3)).drewN k3) := below_drewN (hB02.alloc hs2 _) k3
  have HB3 := Lib.hid hb3
  clear hmk hZ hY' hX hY hb3
  go_wp2
  go_ret2
  exact ⟨rfl, HB3.out⟩

/-- Operation 8 on 64 bits. -/
def val64_or (x y : Nat) : Nat := x ||| y
set_option maxHeartbeats 1600000 in
theorem refAlu64_or (a b : Int) (w : World) :
    Calls Tryz.prog 172 #[.int .i64 8, .bool false, .int .i64 a, .int .i64 b] w fun e w' =>
      e = .returned (.tuple #[.int .i64 (wrap64 ((val64_or (lowN 64 a) (lowN 64 b) % 2 ^ 64 : Nat) : Int)), .int .i64 0]) ∧ Below w.heap.size w w' := by
  obtain ⟨R, hR⟩ : ∃ R, R = val64_or (lowN 64 a) (lowN 64 b) := ⟨_, rfl⟩
  have HR := Lib.hid hR
  rw [← hR]
  clear hR
  go_enter Tryz.func172, Tryz.ntmps172
  go_wp2_with fail
  refine (width_wide _).mono ?_
  rintro e w0 ⟨rfl, rfl⟩
  go_wp2_with fail
  refine (row_any a 64 64 rfl (by decide) _).mono ?_
  rintro e w1 ⟨b1, rfl, hb1, hR1, hB1⟩
  go_wp2_with fail
  refine (width_wide _).mono ?_
  rintro e w1' ⟨rfl, rfl⟩
  go_wp2_with fail
  refine (row_any b 64 64 rfl (by decide) _).mono ?_
  rintro e w2 ⟨b2, rfl, hb2, hR2, hB2⟩
  have hX := Bits.row (row_low (hR1.below hB2 hR1.lt))
  have hY := Bits.row (row_low hR2)
  have hs1 := hB1.size
  have hB02 := hB1.trans (hB2.mono hs1)
  have hs2 := hB02.size
  have hx := lowN_lt 64 a
  have hy := lowN_lt 64 b
  obtain ⟨x, hxe⟩ : ∃ x, x = lowN 64 a := ⟨_, rfl⟩
  obtain ⟨y, hye⟩ : ∃ y, y = lowN 64 b := ⟨_, rfl⟩
  rw [← hxe] at hX hx
  rw [← hye] at hY hy
  have HX := Lib.hid hxe
  have HY := Lib.hid hye
  clear hxe hye
  have HX' := Lib.hid hx
  have HY' := Lib.hid hy
  clear hx hy
  go_wp2_with fail
  refine (joined64_or b1 b2 64 x y rfl HX'.out HY'.out _ hX hY).mono ?_
  rintro e w4 ⟨q, oq, cq, rfl, hq, hB4⟩
  have hb4 := hB02.trans (hB4.mono hs2)
  clear hB4
  go_wp2_with fail
  refine (number_of q oq 64 cq _ (by decide) _ hq).mono ?_
  rintro e w5 ⟨rfl, rfl⟩
  have hval : (x ||| y) = R := by rw [HR.out, ← HX.out, ← HY.out]; rfl
  rw [hval]
  clear hval
  go_wp2
  go_ret2
  exact ⟨rfl, hb4⟩

/-- Operation 9 on 64 bits. -/
def val64_and (x y : Nat) : Nat := x &&& y
set_option maxHeartbeats 1600000 in
theorem refAlu64_and (a b : Int) (w : World) :
    Calls Tryz.prog 172 #[.int .i64 9, .bool false, .int .i64 a, .int .i64 b] w fun e w' =>
      e = .returned (.tuple #[.int .i64 (wrap64 ((val64_and (lowN 64 a) (lowN 64 b) % 2 ^ 64 : Nat) : Int)), .int .i64 0]) ∧ Below w.heap.size w w' := by
  obtain ⟨R, hR⟩ : ∃ R, R = val64_and (lowN 64 a) (lowN 64 b) := ⟨_, rfl⟩
  have HR := Lib.hid hR
  rw [← hR]
  clear hR
  go_enter Tryz.func172, Tryz.ntmps172
  go_wp2_with fail
  refine (width_wide _).mono ?_
  rintro e w0 ⟨rfl, rfl⟩
  go_wp2_with fail
  refine (row_any a 64 64 rfl (by decide) _).mono ?_
  rintro e w1 ⟨b1, rfl, hb1, hR1, hB1⟩
  go_wp2_with fail
  refine (width_wide _).mono ?_
  rintro e w1' ⟨rfl, rfl⟩
  go_wp2_with fail
  refine (row_any b 64 64 rfl (by decide) _).mono ?_
  rintro e w2 ⟨b2, rfl, hb2, hR2, hB2⟩
  have hX := Bits.row (row_low (hR1.below hB2 hR1.lt))
  have hY := Bits.row (row_low hR2)
  have hs1 := hB1.size
  have hB02 := hB1.trans (hB2.mono hs1)
  have hs2 := hB02.size
  have hx := lowN_lt 64 a
  have hy := lowN_lt 64 b
  obtain ⟨x, hxe⟩ : ∃ x, x = lowN 64 a := ⟨_, rfl⟩
  obtain ⟨y, hye⟩ : ∃ y, y = lowN 64 b := ⟨_, rfl⟩
  rw [← hxe] at hX hx
  rw [← hye] at hY hy
  have HX := Lib.hid hxe
  have HY := Lib.hid hye
  clear hxe hye
  have HX' := Lib.hid hx
  have HY' := Lib.hid hy
  clear hx hy
  go_wp2_with fail
  refine (joined64_and b1 b2 64 x y rfl HX'.out HY'.out _ hX hY).mono ?_
  rintro e w4 ⟨q, oq, cq, rfl, hq, hB4⟩
  have hb4 := hB02.trans (hB4.mono hs2)
  clear hB4
  go_wp2_with fail
  refine (number_of q oq 64 cq _ (by decide) _ hq).mono ?_
  rintro e w5 ⟨rfl, rfl⟩
  have hval : (x &&& y) = R := by rw [HR.out, ← HX.out, ← HY.out]; rfl
  rw [hval]
  clear hval
  go_wp2
  go_ret2
  exact ⟨rfl, hb4⟩

/-- Operation 10 on 64 bits. -/
def val64_xor (x y : Nat) : Nat := x ^^^ y
set_option maxHeartbeats 1600000 in
theorem refAlu64_xor (a b : Int) (w : World) :
    Calls Tryz.prog 172 #[.int .i64 10, .bool false, .int .i64 a, .int .i64 b] w fun e w' =>
      e = .returned (.tuple #[.int .i64 (wrap64 ((val64_xor (lowN 64 a) (lowN 64 b) % 2 ^ 64 : Nat) : Int)), .int .i64 0]) ∧ Below w.heap.size w w' := by
  obtain ⟨R, hR⟩ : ∃ R, R = val64_xor (lowN 64 a) (lowN 64 b) := ⟨_, rfl⟩
  have HR := Lib.hid hR
  rw [← hR]
  clear hR
  go_enter Tryz.func172, Tryz.ntmps172
  go_wp2_with fail
  refine (width_wide _).mono ?_
  rintro e w0 ⟨rfl, rfl⟩
  go_wp2_with fail
  refine (row_any a 64 64 rfl (by decide) _).mono ?_
  rintro e w1 ⟨b1, rfl, hb1, hR1, hB1⟩
  go_wp2_with fail
  refine (width_wide _).mono ?_
  rintro e w1' ⟨rfl, rfl⟩
  go_wp2_with fail
  refine (row_any b 64 64 rfl (by decide) _).mono ?_
  rintro e w2 ⟨b2, rfl, hb2, hR2, hB2⟩
  have hX := Bits.row (row_low (hR1.below hB2 hR1.lt))
  have hY := Bits.row (row_low hR2)
  have hs1 := hB1.size
  have hB02 := hB1.trans (hB2.mono hs1)
  have hs2 := hB02.size
  have hx := lowN_lt 64 a
  have hy := lowN_lt 64 b
  obtain ⟨x, hxe⟩ : ∃ x, x = lowN 64 a := ⟨_, rfl⟩
  obtain ⟨y, hye⟩ : ∃ y, y = lowN 64 b := ⟨_, rfl⟩
  rw [← hxe] at hX hx
  rw [← hye] at hY hy
  have HX := Lib.hid hxe
  have HY := Lib.hid hye
  clear hxe hye
  have HX' := Lib.hid hx
  have HY' := Lib.hid hy
  clear hx hy
  go_wp2_with fail
  refine (joined64_xor b1 b2 64 x y rfl HX'.out HY'.out _ hX hY).mono ?_
  rintro e w4 ⟨q, oq, cq, rfl, hq, hB4⟩
  have hb4 := hB02.trans (hB4.mono hs2)
  clear hB4
  go_wp2_with fail
  refine (number_of q oq 64 cq _ (by decide) _ hq).mono ?_
  rintro e w5 ⟨rfl, rfl⟩
  have hval : (x ^^^ y) = R := by rw [HR.out, ← HX.out, ← HY.out]; rfl
  rw [hval]
  clear hval
  go_wp2
  go_ret2
  exact ⟨rfl, hb4⟩

/-- Operation 11 on 64 bits. -/
def val64_lsh (x y : Nat) : Nat := x * 2 ^ (y % 2 ^ 6)
set_option maxHeartbeats 1600000 in
theorem refAlu64_lsh (a b : Int) (w : World) :
    Calls Tryz.prog 172 #[.int .i64 11, .bool false, .int .i64 a, .int .i64 b] w fun e w' =>
      e = .returned (.tuple #[.int .i64 (wrap64 ((val64_lsh (lowN 64 a) (lowN 64 b) % 2 ^ 64 : Nat) : Int)), .int .i64 0]) ∧ Below w.heap.size w w' := by
  obtain ⟨R, hR⟩ : ∃ R, R = val64_lsh (lowN 64 a) (lowN 64 b) := ⟨_, rfl⟩
  have HR := Lib.hid hR
  rw [← hR]
  clear hR
  go_enter Tryz.func172, Tryz.ntmps172
  go_wp2_with fail
  refine (width_wide _).mono ?_
  rintro e w0 ⟨rfl, rfl⟩
  go_wp2_with fail
  refine (row_any a 64 64 rfl (by decide) _).mono ?_
  rintro e w1 ⟨b1, rfl, hb1, hR1, hB1⟩
  go_wp2_with fail
  refine (width_wide _).mono ?_
  rintro e w1' ⟨rfl, rfl⟩
  go_wp2_with fail
  refine (row_any b 64 64 rfl (by decide) _).mono ?_
  rintro e w2 ⟨b2, rfl, hb2, hR2, hB2⟩
  have hX := Bits.row (row_low (hR1.below hB2 hR1.lt))
  have hY := Bits.row (row_low hR2)
  have hs1 := hB1.size
  have hB02 := hB1.trans (hB2.mono hs1)
  have hs2 := hB02.size
  have hx := lowN_lt 64 a
  have hy := lowN_lt 64 b
  obtain ⟨x, hxe⟩ : ∃ x, x = lowN 64 a := ⟨_, rfl⟩
  obtain ⟨y, hye⟩ : ∃ y, y = lowN 64 b := ⟨_, rfl⟩
  rw [← hxe] at hX hx
  rw [← hye] at hY hy
  have HX := Lib.hid hxe
  have HY := Lib.hid hye
  clear hxe hye
  have HX' := Lib.hid hx
  have HY' := Lib.hid hy
  clear hx hy
  go_wp2_with fail
  refine (joined64_lsh b1 b2 64 x y rfl HX'.out HY'.out _ hX hY).mono ?_
  rintro e w4 ⟨q, oq, cq, rfl, hq, hB4⟩
  have hb4 := hB02.trans (hB4.mono hs2)
  clear hB4
  go_wp2_with fail
  refine (number_of q oq 64 cq _ (by decide) _ hq).mono ?_
  rintro e w5 ⟨rfl, rfl⟩
  have hval : (x * 2 ^ (y % 2 ^ 6)) = R := by rw [HR.out, ← HX.out, ← HY.out]; rfl
  rw [hval]
  clear hval
  go_wp2
  go_ret2
  exact ⟨rfl, hb4⟩

/-- Operation 12 on 64 bits. -/
def val64_rsh (x y : Nat) : Nat := downVal x 64 (y % 2 ^ 6) false
set_option maxHeartbeats 1600000 in
theorem refAlu64_rsh (a b : Int) (w : World) :
    Calls Tryz.prog 172 #[.int .i64 12, .bool false, .int .i64 a, .int .i64 b] w fun e w' =>
      e = .returned (.tuple #[.int .i64 (wrap64 ((val64_rsh (lowN 64 a) (lowN 64 b) % 2 ^ 64 : Nat) : Int)), .int .i64 0]) ∧ Below w.heap.size w w' := by
  obtain ⟨R, hR⟩ : ∃ R, R = val64_rsh (lowN 64 a) (lowN 64 b) := ⟨_, rfl⟩
  have HR := Lib.hid hR
  rw [← hR]
  clear hR
  go_enter Tryz.func172, Tryz.ntmps172
  go_wp2_with fail
  refine (width_wide _).mono ?_
  rintro e w0 ⟨rfl, rfl⟩
  go_wp2_with fail
  refine (row_any a 64 64 rfl (by decide) _).mono ?_
  rintro e w1 ⟨b1, rfl, hb1, hR1, hB1⟩
  go_wp2_with fail
  refine (width_wide _).mono ?_
  rintro e w1' ⟨rfl, rfl⟩
  go_wp2_with fail
  refine (row_any b 64 64 rfl (by decide) _).mono ?_
  rintro e w2 ⟨b2, rfl, hb2, hR2, hB2⟩
  have hX := Bits.row (row_low (hR1.below hB2 hR1.lt))
  have hY := Bits.row (row_low hR2)
  have hs1 := hB1.size
  have hB02 := hB1.trans (hB2.mono hs1)
  have hs2 := hB02.size
  have hx := lowN_lt 64 a
  have hy := lowN_lt 64 b
  obtain ⟨x, hxe⟩ : ∃ x, x = lowN 64 a := ⟨_, rfl⟩
  obtain ⟨y, hye⟩ : ∃ y, y = lowN 64 b := ⟨_, rfl⟩
  rw [← hxe] at hX hx
  rw [← hye] at hY hy
  have HX := Lib.hid hxe
  have HY := Lib.hid hye
  clear hxe hye
  have HX' := Lib.hid hx
  have HY' := Lib.hid hy
  clear hx hy
  go_wp2_with fail
  refine (joined64_rsh b1 b2 64 x y rfl HX'.out HY'.out _ hX hY).mono ?_
  rintro e w4 ⟨q, oq, cq, rfl, hq, hB4⟩
  have hb4 := hB02.trans (hB4.mono hs2)
  clear hB4
  go_wp2_with fail
  refine (number_of q oq 64 cq _ (by decide) _ hq).mono ?_
  rintro e w5 ⟨rfl, rfl⟩
  have hval : (downVal x 64 (y % 2 ^ 6) false) = R := by rw [HR.out, ← HX.out, ← HY.out]; rfl
  rw [hval]
  clear hval
  go_wp2
  go_ret2
  exact ⟨rfl, hb4⟩

/-- Operation 13 on 64 bits. -/
def val64_arsh (x y : Nat) : Nat := downVal x 64 (y % 2 ^ 6) (bit x (64 - 1) == 1)
set_option maxHeartbeats 1600000 in
theorem refAlu64_arsh (a b : Int) (w : World) :
    Calls Tryz.prog 172 #[.int .i64 13, .bool false, .int .i64 a, .int .i64 b] w fun e w' =>
      e = .returned (.tuple #[.int .i64 (wrap64 ((val64_arsh (lowN 64 a) (lowN 64 b) % 2 ^ 64 : Nat) : Int)), .int .i64 0]) ∧ Below w.heap.size w w' := by
  obtain ⟨R, hR⟩ : ∃ R, R = val64_arsh (lowN 64 a) (lowN 64 b) := ⟨_, rfl⟩
  have HR := Lib.hid hR
  rw [← hR]
  clear hR
  go_enter Tryz.func172, Tryz.ntmps172
  go_wp2_with fail
  refine (width_wide _).mono ?_
  rintro e w0 ⟨rfl, rfl⟩
  go_wp2_with fail
  refine (row_any a 64 64 rfl (by decide) _).mono ?_
  rintro e w1 ⟨b1, rfl, hb1, hR1, hB1⟩
  go_wp2_with fail
  refine (width_wide _).mono ?_
  rintro e w1' ⟨rfl, rfl⟩
  go_wp2_with fail
  refine (row_any b 64 64 rfl (by decide) _).mono ?_
  rintro e w2 ⟨b2, rfl, hb2, hR2, hB2⟩
  have hX := Bits.row (row_low (hR1.below hB2 hR1.lt))
  have hY := Bits.row (row_low hR2)
  have hs1 := hB1.size
  have hB02 := hB1.trans (hB2.mono hs1)
  have hs2 := hB02.size
  have hx := lowN_lt 64 a
  have hy := lowN_lt 64 b
  obtain ⟨x, hxe⟩ : ∃ x, x = lowN 64 a := ⟨_, rfl⟩
  obtain ⟨y, hye⟩ : ∃ y, y = lowN 64 b := ⟨_, rfl⟩
  rw [← hxe] at hX hx
  rw [← hye] at hY hy
  have HX := Lib.hid hxe
  have HY := Lib.hid hye
  clear hxe hye
  have HX' := Lib.hid hx
  have HY' := Lib.hid hy
  clear hx hy
  go_wp2_with fail
  refine (joined64_arsh b1 b2 64 x y rfl HX'.out HY'.out _ hX hY).mono ?_
  rintro e w4 ⟨q, oq, cq, rfl, hq, hB4⟩
  have hb4 := hB02.trans (hB4.mono hs2)
  clear hB4
  go_wp2_with fail
  refine (number_of q oq 64 cq _ (by decide) _ hq).mono ?_
  rintro e w5 ⟨rfl, rfl⟩
  have hval : (downVal x 64 (y % 2 ^ 6) (bit x (64 - 1) == 1)) = R := by rw [HR.out, ← HX.out, ← HY.out]; rfl
  rw [hval]
  clear hval
  go_wp2
  go_ret2
  exact ⟨rfl, hb4⟩

/-- Operation 14 on 64 bits. -/
def val64_neg (x y : Nat) : Nat := 2 ^ 64 - x % 2 ^ 64
set_option maxHeartbeats 1600000 in
theorem refAlu64_neg (a b : Int) (w : World) :
    Calls Tryz.prog 172 #[.int .i64 14, .bool false, .int .i64 a, .int .i64 b] w fun e w' =>
      e = .returned (.tuple #[.int .i64 (wrap64 ((val64_neg (lowN 64 a) (lowN 64 b) % 2 ^ 64 : Nat) : Int)), .int .i64 0]) ∧ Below w.heap.size w w' := by
  obtain ⟨R, hR⟩ : ∃ R, R = val64_neg (lowN 64 a) (lowN 64 b) := ⟨_, rfl⟩
  have HR := Lib.hid hR
  rw [← hR]
  clear hR
  go_enter Tryz.func172, Tryz.ntmps172
  go_wp2_with fail
  refine (width_wide _).mono ?_
  rintro e w0 ⟨rfl, rfl⟩
  go_wp2_with fail
  refine (row_any a 64 64 rfl (by decide) _).mono ?_
  rintro e w1 ⟨b1, rfl, hb1, hR1, hB1⟩
  go_wp2_with fail
  refine (width_wide _).mono ?_
  rintro e w1' ⟨rfl, rfl⟩
  go_wp2_with fail
  refine (row_any b 64 64 rfl (by decide) _).mono ?_
  rintro e w2 ⟨b2, rfl, hb2, hR2, hB2⟩
  have hX := Bits.row (row_low (hR1.below hB2 hR1.lt))
  have hY := Bits.row (row_low hR2)
  have hs1 := hB1.size
  have hB02 := hB1.trans (hB2.mono hs1)
  have hs2 := hB02.size
  have hx := lowN_lt 64 a
  have hy := lowN_lt 64 b
  obtain ⟨x, hxe⟩ : ∃ x, x = lowN 64 a := ⟨_, rfl⟩
  obtain ⟨y, hye⟩ : ∃ y, y = lowN 64 b := ⟨_, rfl⟩
  rw [← hxe] at hX hx
  rw [← hye] at hY hy
  have HX := Lib.hid hxe
  have HY := Lib.hid hye
  clear hxe hye
  have HX' := Lib.hid hx
  have HY' := Lib.hid hy
  clear hx hy
  go_wp2_with fail
  refine (joined64_neg b1 b2 64 x y rfl HX'.out HY'.out _ hX hY).mono ?_
  rintro e w4 ⟨q, oq, cq, rfl, hq, hB4⟩
  have hb4 := hB02.trans (hB4.mono hs2)
  clear hB4
  go_wp2_with fail
  refine (number_of q oq 64 cq _ (by decide) _ hq).mono ?_
  rintro e w5 ⟨rfl, rfl⟩
  have hval : (2 ^ 64 - x % 2 ^ 64) = R := by rw [HR.out, ← HX.out, ← HY.out]; rfl
  rw [hval]
  clear hval
  go_wp2
  go_ret2
  exact ⟨rfl, hb4⟩

/-- Operation 15 on 64 bits. -/
def val64_mov (x y : Nat) : Nat := y
set_option maxHeartbeats 1600000 in
theorem refAlu64_mov (a b : Int) (w : World) :
    Calls Tryz.prog 172 #[.int .i64 15, .bool false, .int .i64 a, .int .i64 b] w fun e w' =>
      e = .returned (.tuple #[.int .i64 (wrap64 ((val64_mov (lowN 64 a) (lowN 64 b) % 2 ^ 64 : Nat) : Int)), .int .i64 0]) ∧ Below w.heap.size w w' := by
  obtain ⟨R, hR⟩ : ∃ R, R = val64_mov (lowN 64 a) (lowN 64 b) := ⟨_, rfl⟩
  have HR := Lib.hid hR
  rw [← hR]
  clear hR
  go_enter Tryz.func172, Tryz.ntmps172
  go_wp2_with fail
  refine (width_wide _).mono ?_
  rintro e w0 ⟨rfl, rfl⟩
  go_wp2_with fail
  refine (row_any a 64 64 rfl (by decide) _).mono ?_
  rintro e w1 ⟨b1, rfl, hb1, hR1, hB1⟩
  go_wp2_with fail
  refine (width_wide _).mono ?_
  rintro e w1' ⟨rfl, rfl⟩
  go_wp2_with fail
  refine (row_any b 64 64 rfl (by decide) _).mono ?_
  rintro e w2 ⟨b2, rfl, hb2, hR2, hB2⟩
  have hX := Bits.row (row_low (hR1.below hB2 hR1.lt))
  have hY := Bits.row (row_low hR2)
  have hs1 := hB1.size
  have hB02 := hB1.trans (hB2.mono hs1)
  have hs2 := hB02.size
  have hx := lowN_lt 64 a
  have hy := lowN_lt 64 b
  obtain ⟨x, hxe⟩ : ∃ x, x = lowN 64 a := ⟨_, rfl⟩
  obtain ⟨y, hye⟩ : ∃ y, y = lowN 64 b := ⟨_, rfl⟩
  rw [← hxe] at hX hx
  rw [← hye] at hY hy
  have HX := Lib.hid hxe
  have HY := Lib.hid hye
  clear hxe hye
  have HX' := Lib.hid hx
  have HY' := Lib.hid hy
  clear hx hy
  go_wp2_with fail
  refine (joined64_mov b1 b2 64 x y rfl HX'.out HY'.out _ hX hY).mono ?_
  rintro e w4 ⟨q, oq, cq, rfl, hq, hB4⟩
  have hb4 := hB02.trans (hB4.mono hs2)
  clear hB4
  go_wp2_with fail
  refine (number_of q oq 64 cq _ (by decide) _ hq).mono ?_
  rintro e w5 ⟨rfl, rfl⟩
  have hval : (y) = R := by rw [HR.out, ← HX.out, ← HY.out]; rfl
  rw [hval]
  clear hval
  go_wp2
  go_ret2
  exact ⟨rfl, hb4⟩

end Go.Proofs.YtbkcpepalicbjaaGreat
