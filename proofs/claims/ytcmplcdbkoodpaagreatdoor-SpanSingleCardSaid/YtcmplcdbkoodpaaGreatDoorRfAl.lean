import Derived.Test.YtcmplcdbkoodpaaGreatDoorJoAC
set_option maxHeartbeats 1600000
namespace Go.Proofs.YtcmplcdbkoodpaaGreatDoor
open Go.RowKit
set_option linter.unusedVariables false
theorem width_narrow (w : World) : Calls Tryz.prog 41 #[.bool true] w fun e w' => e = .returned (.int .i64 32) /\ w = w' := by
 go_enter Tryz.func41, Tryz.ntmps41
 go_wp2
 go_ret
 exact ⟨rfl, rfl⟩
theorem width_wide (w : World) : Calls Tryz.prog 41 #[.bool false] w fun e w' => e = .returned (.int .i64 64) /\ w = w' := by
 go_enter Tryz.func41, Tryz.ntmps41
 go_wp2
 go_ret
 exact ⟨rfl, rfl⟩
theorem row_low {w : World} {b n : Nat} {e : TypeId} {v : Int} (h : Row w b e (itab n (bit (un v)))) : Row w b e (itab n (bit (lowN n v))) := by
 rwa [itab_congr (h := bit (lowN n v)) (fun t ht => (bit_mod ht).symm)] at h
theorem rnumber_of (b off n cap x : Nat) (hn : n <= 64) (w : World) (hb : Bits w b off n x) :
 Calls Tryz.prog 43 #[.slice (some ⟨b, off, none⟩) n cap] w fun e w' => e = .returned (.int .i64 (wrap64 ((x % 2 ^ n : Nat) : Int))) /\ w = w' :=
 number_any b off n cap (x % 2 ^ n) hn (Nat.mod_lt _ (Nat.two_pow_pos n)) w (hb.congr fun i hi => (bit_mod hi).symm)
theorem refAlu_bad (op : Int) (nar : Bool) (a b : Int) (h : op < 1 \/ 15 < op) (w : World) :
 Calls Tryz.prog 13 #[.int .i64 op, .bool nar, .int .i64 a, .int .i64 b] w fun e w' => e = .returned (.tuple #[.int .i64 0, .int .i64 1]) /\ w = w' := by
 rcases h with h | h
 ·go_enter Tryz.func13, Tryz.ntmps13
  go_wp2
  go_ret2
  exact ⟨rfl, rfl⟩
 ·have h' : ¬ op < 1 := by omega
  go_enter Tryz.func13, Tryz.ntmps13
  go_wp2
  go_ret2
  exact ⟨rfl, rfl⟩
def val64_add (x y : Nat) : Nat := x + y + 0
theorem refAlu64_add (a b : Int) (w : World) :
 Calls Tryz.prog 13 #[.int .i64 1, .bool false, .int .i64 a, .int .i64 b] w fun e w' =>
  e = .returned (.tuple #[.int .i64 (wrap64 ((val64_add (lowN 64 a) (lowN 64 b) % 2 ^ 64 : Nat) : Int)), .int .i64 0]) /\ Below w.heap.size w w' := by
 obtain ⟨R, hR⟩ : ∃ R, R = val64_add (lowN 64 a) (lowN 64 b) := ⟨_, rfl⟩
 have HR := Lib.hid hR
 rw [<- hR]
 clear hR
 go_enter Tryz.func13, Tryz.ntmps13
 go_wp2_with fail
 refine (width_wide _).mono ?_
 rintro e w0 ⟨rfl, rfl⟩
 go_wp2_with fail
 refine (row_any a 64 64 rfl (by decide) _).mono ?_
 rintro e w1 ⟨b1, rfl, hb1, hR1, hB1⟩
 go_wp2_with fail
 refine (width_wide _).mono ?_
 rintro e w1' ⟨rfl, rfl⟩
 go_wp2_with fail
 refine (row_any b 64 64 rfl (by decide) _).mono ?_
 rintro e w2 ⟨b2, rfl, hb2, hR2, hB2⟩
 have hX := Bits.row (row_low (hR1.below hB2 hR1.lt))
 have hY := Bits.row (row_low hR2)
 have hs1 := hB1.size
 have hB02 := hB1.trans (hB2.mono hs1)
 have hs2 := hB02.size
 have hx := lowN_lt 64 a
 have hy := lowN_lt 64 b
 obtain ⟨x, hxe⟩ : ∃ x, x = lowN 64 a := ⟨_, rfl⟩
 obtain ⟨y, hye⟩ : ∃ y, y = lowN 64 b := ⟨_, rfl⟩
 rw [<- hxe] at hX hx
 rw [<- hye] at hY hy
 have HX := Lib.hid hxe
 have HY := Lib.hid hye
 clear hxe hye
 have HX' := Lib.hid hx
 have HY' := Lib.hid hy
 clear hx hy
 go_wp2_with fail
 refine (joined64_add b1 b2 64 x y rfl HX'.out HY'.out _ hX hY).mono ?_
 rintro e w4 ⟨q, oq, cq, rfl, hq, hB4⟩
 have hb4 := hB02.trans (hB4.mono hs2)
 clear hB4
 go_wp2_with fail
 refine (rnumber_of q oq 64 cq _ (by decide) _ hq).mono ?_
 rintro e w5 ⟨rfl, rfl⟩
 have hval : (x + y + 0) = R := by rw [HR.out, <- HX.out, <- HY.out]; rfl
 rw [hval]
 clear hval
 go_wp2
 go_ret2
 exact ⟨rfl, hb4⟩
def val64_sub (x y : Nat) : Nat := x + (2 ^ 64 - 1 - y % 2 ^ 64) + 1
theorem refAlu64_sub (a b : Int) (w : World) :
 Calls Tryz.prog 13 #[.int .i64 2, .bool false, .int .i64 a, .int .i64 b] w fun e w' =>
  e = .returned (.tuple #[.int .i64 (wrap64 ((val64_sub (lowN 64 a) (lowN 64 b) % 2 ^ 64 : Nat) : Int)), .int .i64 0]) /\ Below w.heap.size w w' := by
 obtain ⟨R, hR⟩ : ∃ R, R = val64_sub (lowN 64 a) (lowN 64 b) := ⟨_, rfl⟩
 have HR := Lib.hid hR
 rw [<- hR]
 clear hR
 go_enter Tryz.func13, Tryz.ntmps13
 go_wp2_with fail
 refine (width_wide _).mono ?_
 rintro e w0 ⟨rfl, rfl⟩
 go_wp2_with fail
 refine (row_any a 64 64 rfl (by decide) _).mono ?_
 rintro e w1 ⟨b1, rfl, hb1, hR1, hB1⟩
 go_wp2_with fail
 refine (width_wide _).mono ?_
 rintro e w1' ⟨rfl, rfl⟩
 go_wp2_with fail
 refine (row_any b 64 64 rfl (by decide) _).mono ?_
 rintro e w2 ⟨b2, rfl, hb2, hR2, hB2⟩
 have hX := Bits.row (row_low (hR1.below hB2 hR1.lt))
 have hY := Bits.row (row_low hR2)
 have hs1 := hB1.size
 have hB02 := hB1.trans (hB2.mono hs1)
 have hs2 := hB02.size
 have hx := lowN_lt 64 a
 have hy := lowN_lt 64 b
 obtain ⟨x, hxe⟩ : ∃ x, x = lowN 64 a := ⟨_, rfl⟩
 obtain ⟨y, hye⟩ : ∃ y, y = lowN 64 b := ⟨_, rfl⟩
 rw [<- hxe] at hX hx
 rw [<- hye] at hY hy
 have HX := Lib.hid hxe
 have HY := Lib.hid hye
 clear hxe hye
 have HX' := Lib.hid hx
 have HY' := Lib.hid hy
 clear hx hy
 go_wp2_with fail
 refine (joined64_sub b1 b2 64 x y rfl HX'.out HY'.out _ hX hY).mono ?_
 rintro e w4 ⟨q, oq, cq, rfl, hq, hB4⟩
 have hb4 := hB02.trans (hB4.mono hs2)
 clear hB4
 go_wp2_with fail
 refine (rnumber_of q oq 64 cq _ (by decide) _ hq).mono ?_
 rintro e w5 ⟨rfl, rfl⟩
 have hval : (x + (2 ^ 64 - 1 - y % 2 ^ 64) + 1) = R := by rw [HR.out, <- HX.out, <- HY.out]; rfl
 rw [hval]
 clear hval
 go_wp2
 go_ret2
 exact ⟨rfl, hb4⟩
def val64_mul (x y : Nat) : Nat := x * (y % 2 ^ 64)
theorem refAlu64_mul (a b : Int) (w : World) :
 Calls Tryz.prog 13 #[.int .i64 3, .bool false, .int .i64 a, .int .i64 b] w fun e w' =>
  e = .returned (.tuple #[.int .i64 (wrap64 ((val64_mul (lowN 64 a) (lowN 64 b) % 2 ^ 64 : Nat) : Int)), .int .i64 0]) /\ Below w.heap.size w w' := by
 obtain ⟨R, hR⟩ : ∃ R, R = val64_mul (lowN 64 a) (lowN 64 b) := ⟨_, rfl⟩
 have HR := Lib.hid hR
 rw [<- hR]
 clear hR
 go_enter Tryz.func13, Tryz.ntmps13
 go_wp2_with fail
 refine (width_wide _).mono ?_
 rintro e w0 ⟨rfl, rfl⟩
 go_wp2_with fail
 refine (row_any a 64 64 rfl (by decide) _).mono ?_
 rintro e w1 ⟨b1, rfl, hb1, hR1, hB1⟩
 go_wp2_with fail
 refine (width_wide _).mono ?_
 rintro e w1' ⟨rfl, rfl⟩
 go_wp2_with fail
 refine (row_any b 64 64 rfl (by decide) _).mono ?_
 rintro e w2 ⟨b2, rfl, hb2, hR2, hB2⟩
 have hX := Bits.row (row_low (hR1.below hB2 hR1.lt))
 have hY := Bits.row (row_low hR2)
 have hs1 := hB1.size
 have hB02 := hB1.trans (hB2.mono hs1)
 have hs2 := hB02.size
 have hx := lowN_lt 64 a
 have hy := lowN_lt 64 b
 obtain ⟨x, hxe⟩ : ∃ x, x = lowN 64 a := ⟨_, rfl⟩
 obtain ⟨y, hye⟩ : ∃ y, y = lowN 64 b := ⟨_, rfl⟩
 rw [<- hxe] at hX hx
 rw [<- hye] at hY hy
 have HX := Lib.hid hxe
 have HY := Lib.hid hye
 clear hxe hye
 have HX' := Lib.hid hx
 have HY' := Lib.hid hy
 clear hx hy
 go_wp2_with fail
 refine (joined64_mul b1 b2 64 x y rfl HX'.out HY'.out _ hX hY).mono ?_
 rintro e w4 ⟨q, oq, cq, rfl, hq, hB4⟩
 have hb4 := hB02.trans (hB4.mono hs2)
 clear hB4
 go_wp2_with fail
 refine (rnumber_of q oq 64 cq _ (by decide) _ hq).mono ?_
 rintro e w5 ⟨rfl, rfl⟩
 have hval : (x * (y % 2 ^ 64)) = R := by rw [HR.out, <- HX.out, <- HY.out]; rfl
 rw [hval]
 clear hval
 go_wp2
 go_ret2
 exact ⟨rfl, hb4⟩
def val64_div (x y : Nat) : Nat := x / y
theorem refAlu64_div (a b : Int) (h0 : lowN 64 b ≠ 0) (w : World) :
 Calls Tryz.prog 13 #[.int .i64 4, .bool false, .int .i64 a, .int .i64 b] w fun e w' =>
  e = .returned (.tuple #[.int .i64 (wrap64 ((val64_div (lowN 64 a) (lowN 64 b) % 2 ^ 64 : Nat) : Int)), .int .i64 0]) /\ Below w.heap.size w w' := by
 have H0 := Lib.hid h0
 clear h0
 obtain ⟨R, hR⟩ : ∃ R, R = val64_div (lowN 64 a) (lowN 64 b) := ⟨_, rfl⟩
 have HR := Lib.hid hR
 rw [<- hR]
 clear hR
 go_enter Tryz.func13, Tryz.ntmps13
 go_wp2_with fail
 refine (width_wide _).mono ?_
 rintro e w0 ⟨rfl, rfl⟩
 go_wp2_with fail
 refine (row_any a 64 64 rfl (by decide) _).mono ?_
 rintro e w1 ⟨b1, rfl, hb1, hR1, hB1⟩
 go_wp2_with fail
 refine (width_wide _).mono ?_
 rintro e w1' ⟨rfl, rfl⟩
 go_wp2_with fail
 refine (row_any b 64 64 rfl (by decide) _).mono ?_
 rintro e w2 ⟨b2, rfl, hb2, hR2, hB2⟩
 have hX := Bits.row (row_low (hR1.below hB2 hR1.lt))
 have hY := Bits.row (row_low hR2)
 have hs1 := hB1.size
 have hB02 := hB1.trans (hB2.mono hs1)
 have hs2 := hB02.size
 have hx := lowN_lt 64 a
 have hy := lowN_lt 64 b
 obtain ⟨x, hxe⟩ : ∃ x, x = lowN 64 a := ⟨_, rfl⟩
 obtain ⟨y, hye⟩ : ∃ y, y = lowN 64 b := ⟨_, rfl⟩
 rw [<- hxe] at hX hx
 rw [<- hye] at hY hy
 have HX := Lib.hid hxe
 have HY := Lib.hid hye
 clear hxe hye
 have hmk := make_ints' 64 64 rfl (by decide)
 have hZ : Bits (w2.alloc (.cells (itab 64 fun _ => 0).toArray 3)) w2.heap.size 0 64 0 := Bits.row (zero_bits w2 64)
 have hX' : Bits (w2.alloc (.cells (itab 64 fun _ => 0).toArray 3)) b1 0 64 x := hX.below ((Below.refl _ _).alloc (Nat.le_refl _) _) hX.1
 have hY' : Bits (w2.alloc (.cells (itab 64 fun _ => 0).toArray 3)) b2 0 64 y := hY.below ((Below.refl _ _).alloc (Nat.le_refl _) _) hY.1
 have hd : decide (y = 0) = false := by have := H0.out; rw [<- HY.out] at this; simpa using this
 have HD := Lib.hid hd
 have HP := Lib.hid (show 0 < 2 ^ 64 by decide)
 have HX' := Lib.hid hx
 have HY' := Lib.hid hy
 clear hd hx hy
 go_wp2_with fail
 refine (same_any b2 w2.heap.size 0 0 64 64 64 y 0 (by decide) HY'.out HP.out _ hY' hZ).mono ?_
 rintro e w3 ⟨rfl, k3, rfl⟩
 rw [HD.out]
 have hb3 : Below w.heap.size w ((w2.alloc (.cells (itab 64 fun _ => 0).toArray 3)).drewN k3) := below_drewN (hB02.alloc hs2 _) k3
 have hX3 : Bits ((w2.alloc (.cells (itab 64 fun _ => 0).toArray 3)).drewN k3) b1 0 64 x := hX'
 have hY3 : Bits ((w2.alloc (.cells (itab 64 fun _ => 0).toArray 3)).drewN k3) b2 0 64 y := hY'
 clear hmk hZ hX' hY' hX hY
 go_wp2_with fail
 refine (joined64_div b1 b2 64 x y rfl HX'.out HY'.out (by have := H0.out; rwa [<- HY.out] at this) _ hX3 hY3).mono ?_
 rintro e w4 ⟨q, oq, cq, rfl, hq, hB4⟩
 have hs3 := hb3.size
 have hb4 := hb3.trans (hB4.mono hs3)
 clear hB4 hb3
 go_wp2_with fail
 refine (rnumber_of q oq 64 cq _ (by decide) _ hq).mono ?_
 rintro e w5 ⟨rfl, rfl⟩
 have hval : (x / y) = R := by rw [HR.out, <- HX.out, <- HY.out]; rfl
 rw [hval]
 clear hval
 go_wp2
 go_ret2
 exact ⟨rfl, hb4⟩
theorem refAlu64_div0 (a b : Int) (h0 : lowN 64 b = 0) (w : World) :
 Calls Tryz.prog 13 #[.int .i64 4, .bool false, .int .i64 a, .int .i64 b] w fun e w' =>
  e = .returned (.tuple #[.int .i64 0, .int .i64 84]) /\ Below w.heap.size w w' := by
 have H0 := Lib.hid h0
 clear h0
 go_enter Tryz.func13, Tryz.ntmps13
 go_wp2_with fail
 refine (width_wide _).mono ?_
 rintro e w0 ⟨rfl, rfl⟩
 go_wp2_with fail
 refine (row_any a 64 64 rfl (by decide) _).mono ?_
 rintro e w1 ⟨b1, rfl, hb1, hR1, hB1⟩
 go_wp2_with fail
 refine (width_wide _).mono ?_
 rintro e w1' ⟨rfl, rfl⟩
 go_wp2_with fail
 refine (row_any b 64 64 rfl (by decide) _).mono ?_
 rintro e w2 ⟨b2, rfl, hb2, hR2, hB2⟩
 have hX := Bits.row (row_low (hR1.below hB2 hR1.lt))
 have hY := Bits.row (row_low hR2)
 have hs1 := hB1.size
 have hB02 := hB1.trans (hB2.mono hs1)
 have hs2 := hB02.size
 have hx := lowN_lt 64 a
 have hy := lowN_lt 64 b
 rw [H0.out] at hY
 have hmk := make_ints' 64 64 rfl (by decide)
 have hZ : Bits (w2.alloc (.cells (itab 64 fun _ => 0).toArray 3)) w2.heap.size 0 64 0 := Bits.row (zero_bits w2 64)
 have hY' : Bits (w2.alloc (.cells (itab 64 fun _ => 0).toArray 3)) b2 0 64 0 := hY.below ((Below.refl _ _).alloc (Nat.le_refl _) _) hY.1
 have HP := Lib.hid (show 0 < 2 ^ 64 by decide)
 clear hx hy
 go_wp2_with fail
 refine (same_any b2 w2.heap.size 0 0 64 64 64 0 0 (by decide) HP.out HP.out _ hY' hZ).mono ?_
 rintro e w3 ⟨rfl, k3, rfl⟩
 have hb3 : Below w.heap.size w ((w2.alloc (.cells (itab 64 fun _ => 0).toArray 3)).drewN k3) := below_drewN (hB02.alloc hs2 _) k3
 have HB3 := Lib.hid hb3
 clear hmk hZ hY' hX hY hb3
 go_wp2
 go_ret2
 exact ⟨rfl, HB3.out⟩
def val64_mod (x y : Nat) : Nat := x % y
theorem refAlu64_mod (a b : Int) (h0 : lowN 64 b ≠ 0) (w : World) :
 Calls Tryz.prog 13 #[.int .i64 5, .bool false, .int .i64 a, .int .i64 b] w fun e w' =>
  e = .returned (.tuple #[.int .i64 (wrap64 ((val64_mod (lowN 64 a) (lowN 64 b) % 2 ^ 64 : Nat) : Int)), .int .i64 0]) /\ Below w.heap.size w w' := by
 have H0 := Lib.hid h0
 clear h0
 obtain ⟨R, hR⟩ : ∃ R, R = val64_mod (lowN 64 a) (lowN 64 b) := ⟨_, rfl⟩
 have HR := Lib.hid hR
 rw [<- hR]
 clear hR
 go_enter Tryz.func13, Tryz.ntmps13
 go_wp2_with fail
 refine (width_wide _).mono ?_
 rintro e w0 ⟨rfl, rfl⟩
 go_wp2_with fail
 refine (row_any a 64 64 rfl (by decide) _).mono ?_
 rintro e w1 ⟨b1, rfl, hb1, hR1, hB1⟩
 go_wp2_with fail
 refine (width_wide _).mono ?_
 rintro e w1' ⟨rfl, rfl⟩
 go_wp2_with fail
 refine (row_any b 64 64 rfl (by decide) _).mono ?_
 rintro e w2 ⟨b2, rfl, hb2, hR2, hB2⟩
 have hX := Bits.row (row_low (hR1.below hB2 hR1.lt))
 have hY := Bits.row (row_low hR2)
 have hs1 := hB1.size
 have hB02 := hB1.trans (hB2.mono hs1)
 have hs2 := hB02.size
 have hx := lowN_lt 64 a
 have hy := lowN_lt 64 b
 obtain ⟨x, hxe⟩ : ∃ x, x = lowN 64 a := ⟨_, rfl⟩
 obtain ⟨y, hye⟩ : ∃ y, y = lowN 64 b := ⟨_, rfl⟩
 rw [<- hxe] at hX hx
 rw [<- hye] at hY hy
 have HX := Lib.hid hxe
 have HY := Lib.hid hye
 clear hxe hye
 have hmk := make_ints' 64 64 rfl (by decide)
 have hZ : Bits (w2.alloc (.cells (itab 64 fun _ => 0).toArray 3)) w2.heap.size 0 64 0 := Bits.row (zero_bits w2 64)
 have hX' : Bits (w2.alloc (.cells (itab 64 fun _ => 0).toArray 3)) b1 0 64 x := hX.below ((Below.refl _ _).alloc (Nat.le_refl _) _) hX.1
 have hY' : Bits (w2.alloc (.cells (itab 64 fun _ => 0).toArray 3)) b2 0 64 y := hY.below ((Below.refl _ _).alloc (Nat.le_refl _) _) hY.1
 have hd : decide (y = 0) = false := by have := H0.out; rw [<- HY.out] at this; simpa using this
 have HD := Lib.hid hd
 have HP := Lib.hid (show 0 < 2 ^ 64 by decide)
 have HX' := Lib.hid hx
 have HY' := Lib.hid hy
 clear hd hx hy
 go_wp2_with fail
 refine (same_any b2 w2.heap.size 0 0 64 64 64 y 0 (by decide) HY'.out HP.out _ hY' hZ).mono ?_
 rintro e w3 ⟨rfl, k3, rfl⟩
 rw [HD.out]
 have hb3 : Below w.heap.size w ((w2.alloc (.cells (itab 64 fun _ => 0).toArray 3)).drewN k3) := below_drewN (hB02.alloc hs2 _) k3
 have hX3 : Bits ((w2.alloc (.cells (itab 64 fun _ => 0).toArray 3)).drewN k3) b1 0 64 x := hX'
 have hY3 : Bits ((w2.alloc (.cells (itab 64 fun _ => 0).toArray 3)).drewN k3) b2 0 64 y := hY'
 clear hmk hZ hX' hY' hX hY
 go_wp2_with fail
 refine (joined64_mod b1 b2 64 x y rfl HX'.out HY'.out (by have := H0.out; rwa [<- HY.out] at this) _ hX3 hY3).mono ?_
 rintro e w4 ⟨q, oq, cq, rfl, hq, hB4⟩
 have hs3 := hb3.size
 have hb4 := hb3.trans (hB4.mono hs3)
 clear hB4 hb3
 go_wp2_with fail
 refine (rnumber_of q oq 64 cq _ (by decide) _ hq).mono ?_
 rintro e w5 ⟨rfl, rfl⟩
 have hval : (x % y) = R := by rw [HR.out, <- HX.out, <- HY.out]; rfl
 rw [hval]
 clear hval
 go_wp2
 go_ret2
 exact ⟨rfl, hb4⟩
theorem refAlu64_mod0 (a b : Int) (h0 : lowN 64 b = 0) (w : World) :
 Calls Tryz.prog 13 #[.int .i64 5, .bool false, .int .i64 a, .int .i64 b] w fun e w' =>
  e = .returned (.tuple #[.int .i64 0, .int .i64 84]) /\ Below w.heap.size w w' := by
 have H0 := Lib.hid h0
 clear h0
 go_enter Tryz.func13, Tryz.ntmps13
 go_wp2_with fail
 refine (width_wide _).mono ?_
 rintro e w0 ⟨rfl, rfl⟩
 go_wp2_with fail
 refine (row_any a 64 64 rfl (by decide) _).mono ?_
 rintro e w1 ⟨b1, rfl, hb1, hR1, hB1⟩
 go_wp2_with fail
 refine (width_wide _).mono ?_
 rintro e w1' ⟨rfl, rfl⟩
 go_wp2_with fail
 refine (row_any b 64 64 rfl (by decide) _).mono ?_
 rintro e w2 ⟨b2, rfl, hb2, hR2, hB2⟩
 have hX := Bits.row (row_low (hR1.below hB2 hR1.lt))
 have hY := Bits.row (row_low hR2)
 have hs1 := hB1.size
 have hB02 := hB1.trans (hB2.mono hs1)
 have hs2 := hB02.size
 have hx := lowN_lt 64 a
 have hy := lowN_lt 64 b
 rw [H0.out] at hY
 have hmk := make_ints' 64 64 rfl (by decide)
 have hZ : Bits (w2.alloc (.cells (itab 64 fun _ => 0).toArray 3)) w2.heap.size 0 64 0 := Bits.row (zero_bits w2 64)
 have hY' : Bits (w2.alloc (.cells (itab 64 fun _ => 0).toArray 3)) b2 0 64 0 := hY.below ((Below.refl _ _).alloc (Nat.le_refl _) _) hY.1
 have HP := Lib.hid (show 0 < 2 ^ 64 by decide)
 clear hx hy
 go_wp2_with fail
 refine (same_any b2 w2.heap.size 0 0 64 64 64 0 0 (by decide) HP.out HP.out _ hY' hZ).mono ?_
 rintro e w3 ⟨rfl, k3, rfl⟩
 have hb3 : Below w.heap.size w ((w2.alloc (.cells (itab 64 fun _ => 0).toArray 3)).drewN k3) := below_drewN (hB02.alloc hs2 _) k3
 have HB3 := Lib.hid hb3
 clear hmk hZ hY' hX hY hb3
 go_wp2
 go_ret2
 exact ⟨rfl, HB3.out⟩
def val64_sdiv (x y : Nat) : Nat := turn (bit x (64 - 1) != bit y (64 - 1)) 64 (absN 64 x / absN 64 y)
theorem refAlu64_sdiv (a b : Int) (h0 : lowN 64 b ≠ 0) (w : World) :
 Calls Tryz.prog 13 #[.int .i64 6, .bool false, .int .i64 a, .int .i64 b] w fun e w' =>
  e = .returned (.tuple #[.int .i64 (wrap64 ((val64_sdiv (lowN 64 a) (lowN 64 b) % 2 ^ 64 : Nat) : Int)), .int .i64 0]) /\ Below w.heap.size w w' := by
 have H0 := Lib.hid h0
 clear h0
 obtain ⟨R, hR⟩ : ∃ R, R = val64_sdiv (lowN 64 a) (lowN 64 b) := ⟨_, rfl⟩
 have HR := Lib.hid hR
 rw [<- hR]
 clear hR
 go_enter Tryz.func13, Tryz.ntmps13
 go_wp2_with fail
 refine (width_wide _).mono ?_
 rintro e w0 ⟨rfl, rfl⟩
 go_wp2_with fail
 refine (row_any a 64 64 rfl (by decide) _).mono ?_
 rintro e w1 ⟨b1, rfl, hb1, hR1, hB1⟩
 go_wp2_with fail
 refine (width_wide _).mono ?_
 rintro e w1' ⟨rfl, rfl⟩
 go_wp2_with fail
 refine (row_any b 64 64 rfl (by decide) _).mono ?_
 rintro e w2 ⟨b2, rfl, hb2, hR2, hB2⟩
 have hX := Bits.row (row_low (hR1.below hB2 hR1.lt))
 have hY := Bits.row (row_low hR2)
 have hs1 := hB1.size
 have hB02 := hB1.trans (hB2.mono hs1)
 have hs2 := hB02.size
 have hx := lowN_lt 64 a
 have hy := lowN_lt 64 b
 obtain ⟨x, hxe⟩ : ∃ x, x = lowN 64 a := ⟨_, rfl⟩
 obtain ⟨y, hye⟩ : ∃ y, y = lowN 64 b := ⟨_, rfl⟩
 rw [<- hxe] at hX hx
 rw [<- hye] at hY hy
 have HX := Lib.hid hxe
 have HY := Lib.hid hye
 clear hxe hye
 have hmk := make_ints' 64 64 rfl (by decide)
 have hZ : Bits (w2.alloc (.cells (itab 64 fun _ => 0).toArray 3)) w2.heap.size 0 64 0 := Bits.row (zero_bits w2 64)
 have hX' : Bits (w2.alloc (.cells (itab 64 fun _ => 0).toArray 3)) b1 0 64 x := hX.below ((Below.refl _ _).alloc (Nat.le_refl _) _) hX.1
 have hY' : Bits (w2.alloc (.cells (itab 64 fun _ => 0).toArray 3)) b2 0 64 y := hY.below ((Below.refl _ _).alloc (Nat.le_refl _) _) hY.1
 have hd : decide (y = 0) = false := by have := H0.out; rw [<- HY.out] at this; simpa using this
 have HD := Lib.hid hd
 have HP := Lib.hid (show 0 < 2 ^ 64 by decide)
 have HX' := Lib.hid hx
 have HY' := Lib.hid hy
 clear hd hx hy
 go_wp2_with fail
 refine (same_any b2 w2.heap.size 0 0 64 64 64 y 0 (by decide) HY'.out HP.out _ hY' hZ).mono ?_
 rintro e w3 ⟨rfl, k3, rfl⟩
 rw [HD.out]
 have hb3 : Below w.heap.size w ((w2.alloc (.cells (itab 64 fun _ => 0).toArray 3)).drewN k3) := below_drewN (hB02.alloc hs2 _) k3
 have hX3 : Bits ((w2.alloc (.cells (itab 64 fun _ => 0).toArray 3)).drewN k3) b1 0 64 x := hX'
 have hY3 : Bits ((w2.alloc (.cells (itab 64 fun _ => 0).toArray 3)).drewN k3) b2 0 64 y := hY'
 clear hmk hZ hX' hY' hX hY
 go_wp2_with fail
 refine (joined64_sdiv b1 b2 64 x y rfl HX'.out HY'.out (by have := H0.out; rwa [<- HY.out] at this) _ hX3 hY3).mono ?_
 rintro e w4 ⟨q, oq, cq, rfl, hq, hB4⟩
 have hs3 := hb3.size
 have hb4 := hb3.trans (hB4.mono hs3)
 clear hB4 hb3
 go_wp2_with fail
 refine (rnumber_of q oq 64 cq _ (by decide) _ hq).mono ?_
 rintro e w5 ⟨rfl, rfl⟩
 have hval : (turn (bit x (64 - 1) != bit y (64 - 1)) 64 (absN 64 x / absN 64 y)) = R := by rw [HR.out, <- HX.out, <- HY.out]; rfl
 rw [hval]
 clear hval
 go_wp2
 go_ret2
 exact ⟨rfl, hb4⟩
theorem refAlu64_sdiv0 (a b : Int) (h0 : lowN 64 b = 0) (w : World) :
 Calls Tryz.prog 13 #[.int .i64 6, .bool false, .int .i64 a, .int .i64 b] w fun e w' =>
  e = .returned (.tuple #[.int .i64 0, .int .i64 84]) /\ Below w.heap.size w w' := by
 have H0 := Lib.hid h0
 clear h0
 go_enter Tryz.func13, Tryz.ntmps13
 go_wp2_with fail
 refine (width_wide _).mono ?_
 rintro e w0 ⟨rfl, rfl⟩
 go_wp2_with fail
 refine (row_any a 64 64 rfl (by decide) _).mono ?_
 rintro e w1 ⟨b1, rfl, hb1, hR1, hB1⟩
 go_wp2_with fail
 refine (width_wide _).mono ?_
 rintro e w1' ⟨rfl, rfl⟩
 go_wp2_with fail
 refine (row_any b 64 64 rfl (by decide) _).mono ?_
 rintro e w2 ⟨b2, rfl, hb2, hR2, hB2⟩
 have hX := Bits.row (row_low (hR1.below hB2 hR1.lt))
 have hY := Bits.row (row_low hR2)
 have hs1 := hB1.size
 have hB02 := hB1.trans (hB2.mono hs1)
 have hs2 := hB02.size
 have hx := lowN_lt 64 a
 have hy := lowN_lt 64 b
 rw [H0.out] at hY
 have hmk := make_ints' 64 64 rfl (by decide)
 have hZ : Bits (w2.alloc (.cells (itab 64 fun _ => 0).toArray 3)) w2.heap.size 0 64 0 := Bits.row (zero_bits w2 64)
 have hY' : Bits (w2.alloc (.cells (itab 64 fun _ => 0).toArray 3)) b2 0 64 0 := hY.below ((Below.refl _ _).alloc (Nat.le_refl _) _) hY.1
 have HP := Lib.hid (show 0 < 2 ^ 64 by decide)
 clear hx hy
 go_wp2_with fail
 refine (same_any b2 w2.heap.size 0 0 64 64 64 0 0 (by decide) HP.out HP.out _ hY' hZ).mono ?_
 rintro e w3 ⟨rfl, k3, rfl⟩
 have hb3 : Below w.heap.size w ((w2.alloc (.cells (itab 64 fun _ => 0).toArray 3)).drewN k3) := below_drewN (hB02.alloc hs2 _) k3
 have HB3 := Lib.hid hb3
 clear hmk hZ hY' hX hY hb3
 go_wp2
 go_ret2
 exact ⟨rfl, HB3.out⟩
def val64_smod (x y : Nat) : Nat := turn (bit x (64 - 1) == 1) 64 (absN 64 x % absN 64 y)
theorem refAlu64_smod (a b : Int) (h0 : lowN 64 b ≠ 0) (w : World) :
 Calls Tryz.prog 13 #[.int .i64 7, .bool false, .int .i64 a, .int .i64 b] w fun e w' =>
  e = .returned (.tuple #[.int .i64 (wrap64 ((val64_smod (lowN 64 a) (lowN 64 b) % 2 ^ 64 : Nat) : Int)), .int .i64 0]) /\ Below w.heap.size w w' := by
 have H0 := Lib.hid h0
 clear h0
 obtain ⟨R, hR⟩ : ∃ R, R = val64_smod (lowN 64 a) (lowN 64 b) := ⟨_, rfl⟩
 have HR := Lib.hid hR
 rw [<- hR]
 clear hR
 go_enter Tryz.func13, Tryz.ntmps13
 go_wp2_with fail
 refine (width_wide _).mono ?_
 rintro e w0 ⟨rfl, rfl⟩
 go_wp2_with fail
 refine (row_any a 64 64 rfl (by decide) _).mono ?_
 rintro e w1 ⟨b1, rfl, hb1, hR1, hB1⟩
 go_wp2_with fail
 refine (width_wide _).mono ?_
 rintro e w1' ⟨rfl, rfl⟩
 go_wp2_with fail
 refine (row_any b 64 64 rfl (by decide) _).mono ?_
 rintro e w2 ⟨b2, rfl, hb2, hR2, hB2⟩
 have hX := Bits.row (row_low (hR1.below hB2 hR1.lt))
 have hY := Bits.row (row_low hR2)
 have hs1 := hB1.size
 have hB02 := hB1.trans (hB2.mono hs1)
 have hs2 := hB02.size
 have hx := lowN_lt 64 a
 have hy := lowN_lt 64 b
 obtain ⟨x, hxe⟩ : ∃ x, x = lowN 64 a := ⟨_, rfl⟩
 obtain ⟨y, hye⟩ : ∃ y, y = lowN 64 b := ⟨_, rfl⟩
 rw [<- hxe] at hX hx
 rw [<- hye] at hY hy
 have HX := Lib.hid hxe
 have HY := Lib.hid hye
 clear hxe hye
 have hmk := make_ints' 64 64 rfl (by decide)
 have hZ : Bits (w2.alloc (.cells (itab 64 fun _ => 0).toArray 3)) w2.heap.size 0 64 0 := Bits.row (zero_bits w2 64)
 have hX' : Bits (w2.alloc (.cells (itab 64 fun _ => 0).toArray 3)) b1 0 64 x := hX.below ((Below.refl _ _).alloc (Nat.le_refl _) _) hX.1
 have hY' : Bits (w2.alloc (.cells (itab 64 fun _ => 0).toArray 3)) b2 0 64 y := hY.below ((Below.refl _ _).alloc (Nat.le_refl _) _) hY.1
 have hd : decide (y = 0) = false := by have := H0.out; rw [<- HY.out] at this; simpa using this
 have HD := Lib.hid hd
 have HP := Lib.hid (show 0 < 2 ^ 64 by decide)
 have HX' := Lib.hid hx
 have HY' := Lib.hid hy
 clear hd hx hy
 go_wp2_with fail
 refine (same_any b2 w2.heap.size 0 0 64 64 64 y 0 (by decide) HY'.out HP.out _ hY' hZ).mono ?_
 rintro e w3 ⟨rfl, k3, rfl⟩
 rw [HD.out]
 have hb3 : Below w.heap.size w ((w2.alloc (.cells (itab 64 fun _ => 0).toArray 3)).drewN k3) := below_drewN (hB02.alloc hs2 _) k3
 have hX3 : Bits ((w2.alloc (.cells (itab 64 fun _ => 0).toArray 3)).drewN k3) b1 0 64 x := hX'
 have hY3 : Bits ((w2.alloc (.cells (itab 64 fun _ => 0).toArray 3)).drewN k3) b2 0 64 y := hY'
 clear hmk hZ hX' hY' hX hY
 go_wp2_with fail
 refine (joined64_smod b1 b2 64 x y rfl HX'.out HY'.out (by have := H0.out; rwa [<- HY.out] at this) _ hX3 hY3).mono ?_
 rintro e w4 ⟨q, oq, cq, rfl, hq, hB4⟩
 have hs3 := hb3.size
 have hb4 := hb3.trans (hB4.mono hs3)
 clear hB4 hb3
 go_wp2_with fail
 refine (rnumber_of q oq 64 cq _ (by decide) _ hq).mono ?_
 rintro e w5 ⟨rfl, rfl⟩
 have hval : (turn (bit x (64 - 1) == 1) 64 (absN 64 x % absN 64 y)) = R := by rw [HR.out, <- HX.out, <- HY.out]; rfl
 rw [hval]
 clear hval
 go_wp2
 go_ret2
 exact ⟨rfl, hb4⟩
theorem refAlu64_smod0 (a b : Int) (h0 : lowN 64 b = 0) (w : World) :
 Calls Tryz.prog 13 #[.int .i64 7, .bool false, .int .i64 a, .int .i64 b] w fun e w' =>
  e = .returned (.tuple #[.int .i64 0, .int .i64 84]) /\ Below w.heap.size w w' := by
 have H0 := Lib.hid h0
 clear h0
 go_enter Tryz.func13, Tryz.ntmps13
 go_wp2_with fail
 refine (width_wide _).mono ?_
 rintro e w0 ⟨rfl, rfl⟩
 go_wp2_with fail
 refine (row_any a 64 64 rfl (by decide) _).mono ?_
 rintro e w1 ⟨b1, rfl, hb1, hR1, hB1⟩
 go_wp2_with fail
 refine (width_wide _).mono ?_
 rintro e w1' ⟨rfl, rfl⟩
 go_wp2_with fail
 refine (row_any b 64 64 rfl (by decide) _).mono ?_
 rintro e w2 ⟨b2, rfl, hb2, hR2, hB2⟩
 have hX := Bits.row (row_low (hR1.below hB2 hR1.lt))
 have hY := Bits.row (row_low hR2)
 have hs1 := hB1.size
 have hB02 := hB1.trans (hB2.mono hs1)
 have hs2 := hB02.size
 have hx := lowN_lt 64 a
 have hy := lowN_lt 64 b
 rw [H0.out] at hY
 have hmk := make_ints' 64 64 rfl (by decide)
 have hZ : Bits (w2.alloc (.cells (itab 64 fun _ => 0).toArray 3)) w2.heap.size 0 64 0 := Bits.row (zero_bits w2 64)
 have hY' : Bits (w2.alloc (.cells (itab 64 fun _ => 0).toArray 3)) b2 0 64 0 := hY.below ((Below.refl _ _).alloc (Nat.le_refl _) _) hY.1
 have HP := Lib.hid (show 0 < 2 ^ 64 by decide)
 clear hx hy
 go_wp2_with fail
 refine (same_any b2 w2.heap.size 0 0 64 64 64 0 0 (by decide) HP.out HP.out _ hY' hZ).mono ?_
 rintro e w3 ⟨rfl, k3, rfl⟩
 have hb3 : Below w.heap.size w ((w2.alloc (.cells (itab 64 fun _ => 0).toArray 3)).drewN k3) := below_drewN (hB02.alloc hs2 _) k3
 have HB3 := Lib.hid hb3
 clear hmk hZ hY' hX hY hb3
 go_wp2
 go_ret2
 exact ⟨rfl, HB3.out⟩
def val64_or (x y : Nat) : Nat := x ||| y
theorem refAlu64_or (a b : Int) (w : World) :
 Calls Tryz.prog 13 #[.int .i64 8, .bool false, .int .i64 a, .int .i64 b] w fun e w' =>
  e = .returned (.tuple #[.int .i64 (wrap64 ((val64_or (lowN 64 a) (lowN 64 b) % 2 ^ 64 : Nat) : Int)), .int .i64 0]) /\ Below w.heap.size w w' := by
 obtain ⟨R, hR⟩ : ∃ R, R = val64_or (lowN 64 a) (lowN 64 b) := ⟨_, rfl⟩
 have HR := Lib.hid hR
 rw [<- hR]
 clear hR
 go_enter Tryz.func13, Tryz.ntmps13
 go_wp2_with fail
 refine (width_wide _).mono ?_
 rintro e w0 ⟨rfl, rfl⟩
 go_wp2_with fail
 refine (row_any a 64 64 rfl (by decide) _).mono ?_
 rintro e w1 ⟨b1, rfl, hb1, hR1, hB1⟩
 go_wp2_with fail
 refine (width_wide _).mono ?_
 rintro e w1' ⟨rfl, rfl⟩
 go_wp2_with fail
 refine (row_any b 64 64 rfl (by decide) _).mono ?_
 rintro e w2 ⟨b2, rfl, hb2, hR2, hB2⟩
 have hX := Bits.row (row_low (hR1.below hB2 hR1.lt))
 have hY := Bits.row (row_low hR2)
 have hs1 := hB1.size
 have hB02 := hB1.trans (hB2.mono hs1)
 have hs2 := hB02.size
 have hx := lowN_lt 64 a
 have hy := lowN_lt 64 b
 obtain ⟨x, hxe⟩ : ∃ x, x = lowN 64 a := ⟨_, rfl⟩
 obtain ⟨y, hye⟩ : ∃ y, y = lowN 64 b := ⟨_, rfl⟩
 rw [<- hxe] at hX hx
 rw [<- hye] at hY hy
 have HX := Lib.hid hxe
 have HY := Lib.hid hye
 clear hxe hye
 have HX' := Lib.hid hx
 have HY' := Lib.hid hy
 clear hx hy
 go_wp2_with fail
 refine (joined64_or b1 b2 64 x y rfl HX'.out HY'.out _ hX hY).mono ?_
 rintro e w4 ⟨q, oq, cq, rfl, hq, hB4⟩
 have hb4 := hB02.trans (hB4.mono hs2)
 clear hB4
 go_wp2_with fail
 refine (rnumber_of q oq 64 cq _ (by decide) _ hq).mono ?_
 rintro e w5 ⟨rfl, rfl⟩
 have hval : (x ||| y) = R := by rw [HR.out, <- HX.out, <- HY.out]; rfl
 rw [hval]
 clear hval
 go_wp2
 go_ret2
 exact ⟨rfl, hb4⟩
def val64_and (x y : Nat) : Nat := x &&& y
theorem refAlu64_and (a b : Int) (w : World) :
 Calls Tryz.prog 13 #[.int .i64 9, .bool false, .int .i64 a, .int .i64 b] w fun e w' =>
  e = .returned (.tuple #[.int .i64 (wrap64 ((val64_and (lowN 64 a) (lowN 64 b) % 2 ^ 64 : Nat) : Int)), .int .i64 0]) /\ Below w.heap.size w w' := by
 obtain ⟨R, hR⟩ : ∃ R, R = val64_and (lowN 64 a) (lowN 64 b) := ⟨_, rfl⟩
 have HR := Lib.hid hR
 rw [<- hR]
 clear hR
 go_enter Tryz.func13, Tryz.ntmps13
 go_wp2_with fail
 refine (width_wide _).mono ?_
 rintro e w0 ⟨rfl, rfl⟩
 go_wp2_with fail
 refine (row_any a 64 64 rfl (by decide) _).mono ?_
 rintro e w1 ⟨b1, rfl, hb1, hR1, hB1⟩
 go_wp2_with fail
 refine (width_wide _).mono ?_
 rintro e w1' ⟨rfl, rfl⟩
 go_wp2_with fail
 refine (row_any b 64 64 rfl (by decide) _).mono ?_
 rintro e w2 ⟨b2, rfl, hb2, hR2, hB2⟩
 have hX := Bits.row (row_low (hR1.below hB2 hR1.lt))
 have hY := Bits.row (row_low hR2)
 have hs1 := hB1.size
 have hB02 := hB1.trans (hB2.mono hs1)
 have hs2 := hB02.size
 have hx := lowN_lt 64 a
 have hy := lowN_lt 64 b
 obtain ⟨x, hxe⟩ : ∃ x, x = lowN 64 a := ⟨_, rfl⟩
 obtain ⟨y, hye⟩ : ∃ y, y = lowN 64 b := ⟨_, rfl⟩
 rw [<- hxe] at hX hx
 rw [<- hye] at hY hy
 have HX := Lib.hid hxe
 have HY := Lib.hid hye
 clear hxe hye
 have HX' := Lib.hid hx
 have HY' := Lib.hid hy
 clear hx hy
 go_wp2_with fail
 refine (joined64_and b1 b2 64 x y rfl HX'.out HY'.out _ hX hY).mono ?_
 rintro e w4 ⟨q, oq, cq, rfl, hq, hB4⟩
 have hb4 := hB02.trans (hB4.mono hs2)
 clear hB4
 go_wp2_with fail
 refine (rnumber_of q oq 64 cq _ (by decide) _ hq).mono ?_
 rintro e w5 ⟨rfl, rfl⟩
 have hval : (x &&& y) = R := by rw [HR.out, <- HX.out, <- HY.out]; rfl
 rw [hval]
 clear hval
 go_wp2
 go_ret2
 exact ⟨rfl, hb4⟩
def val64_xor (x y : Nat) : Nat := x ^^^ y
theorem refAlu64_xor (a b : Int) (w : World) :
 Calls Tryz.prog 13 #[.int .i64 10, .bool false, .int .i64 a, .int .i64 b] w fun e w' =>
  e = .returned (.tuple #[.int .i64 (wrap64 ((val64_xor (lowN 64 a) (lowN 64 b) % 2 ^ 64 : Nat) : Int)), .int .i64 0]) /\ Below w.heap.size w w' := by
 obtain ⟨R, hR⟩ : ∃ R, R = val64_xor (lowN 64 a) (lowN 64 b) := ⟨_, rfl⟩
 have HR := Lib.hid hR
 rw [<- hR]
 clear hR
 go_enter Tryz.func13, Tryz.ntmps13
 go_wp2_with fail
 refine (width_wide _).mono ?_
 rintro e w0 ⟨rfl, rfl⟩
 go_wp2_with fail
 refine (row_any a 64 64 rfl (by decide) _).mono ?_
 rintro e w1 ⟨b1, rfl, hb1, hR1, hB1⟩
 go_wp2_with fail
 refine (width_wide _).mono ?_
 rintro e w1' ⟨rfl, rfl⟩
 go_wp2_with fail
 refine (row_any b 64 64 rfl (by decide) _).mono ?_
 rintro e w2 ⟨b2, rfl, hb2, hR2, hB2⟩
 have hX := Bits.row (row_low (hR1.below hB2 hR1.lt))
 have hY := Bits.row (row_low hR2)
 have hs1 := hB1.size
 have hB02 := hB1.trans (hB2.mono hs1)
 have hs2 := hB02.size
 have hx := lowN_lt 64 a
 have hy := lowN_lt 64 b
 obtain ⟨x, hxe⟩ : ∃ x, x = lowN 64 a := ⟨_, rfl⟩
 obtain ⟨y, hye⟩ : ∃ y, y = lowN 64 b := ⟨_, rfl⟩
 rw [<- hxe] at hX hx
 rw [<- hye] at hY hy
 have HX := Lib.hid hxe
 have HY := Lib.hid hye
 clear hxe hye
 have HX' := Lib.hid hx
 have HY' := Lib.hid hy
 clear hx hy
 go_wp2_with fail
 refine (joined64_xor b1 b2 64 x y rfl HX'.out HY'.out _ hX hY).mono ?_
 rintro e w4 ⟨q, oq, cq, rfl, hq, hB4⟩
 have hb4 := hB02.trans (hB4.mono hs2)
 clear hB4
 go_wp2_with fail
 refine (rnumber_of q oq 64 cq _ (by decide) _ hq).mono ?_
 rintro e w5 ⟨rfl, rfl⟩
 have hval : (x ^^^ y) = R := by rw [HR.out, <- HX.out, <- HY.out]; rfl
 rw [hval]
 clear hval
 go_wp2
 go_ret2
 exact ⟨rfl, hb4⟩
def val64_lsh (x y : Nat) : Nat := x * 2 ^ (y % 2 ^ 6)
theorem refAlu64_lsh (a b : Int) (w : World) :
 Calls Tryz.prog 13 #[.int .i64 11, .bool false, .int .i64 a, .int .i64 b] w fun e w' =>
  e = .returned (.tuple #[.int .i64 (wrap64 ((val64_lsh (lowN 64 a) (lowN 64 b) % 2 ^ 64 : Nat) : Int)), .int .i64 0]) /\ Below w.heap.size w w' := by
 obtain ⟨R, hR⟩ : ∃ R, R = val64_lsh (lowN 64 a) (lowN 64 b) := ⟨_, rfl⟩
 have HR := Lib.hid hR
 rw [<- hR]
 clear hR
 go_enter Tryz.func13, Tryz.ntmps13
 go_wp2_with fail
 refine (width_wide _).mono ?_
 rintro e w0 ⟨rfl, rfl⟩
 go_wp2_with fail
 refine (row_any a 64 64 rfl (by decide) _).mono ?_
 rintro e w1 ⟨b1, rfl, hb1, hR1, hB1⟩
 go_wp2_with fail
 refine (width_wide _).mono ?_
 rintro e w1' ⟨rfl, rfl⟩
 go_wp2_with fail
 refine (row_any b 64 64 rfl (by decide) _).mono ?_
 rintro e w2 ⟨b2, rfl, hb2, hR2, hB2⟩
 have hX := Bits.row (row_low (hR1.below hB2 hR1.lt))
 have hY := Bits.row (row_low hR2)
 have hs1 := hB1.size
 have hB02 := hB1.trans (hB2.mono hs1)
 have hs2 := hB02.size
 have hx := lowN_lt 64 a
 have hy := lowN_lt 64 b
 obtain ⟨x, hxe⟩ : ∃ x, x = lowN 64 a := ⟨_, rfl⟩
 obtain ⟨y, hye⟩ : ∃ y, y = lowN 64 b := ⟨_, rfl⟩
 rw [<- hxe] at hX hx
 rw [<- hye] at hY hy
 have HX := Lib.hid hxe
 have HY := Lib.hid hye
 clear hxe hye
 have HX' := Lib.hid hx
 have HY' := Lib.hid hy
 clear hx hy
 go_wp2_with fail
 refine (joined64_lsh b1 b2 64 x y rfl HX'.out HY'.out _ hX hY).mono ?_
 rintro e w4 ⟨q, oq, cq, rfl, hq, hB4⟩
 have hb4 := hB02.trans (hB4.mono hs2)
 clear hB4
 go_wp2_with fail
 refine (rnumber_of q oq 64 cq _ (by decide) _ hq).mono ?_
 rintro e w5 ⟨rfl, rfl⟩
 have hval : (x * 2 ^ (y % 2 ^ 6)) = R := by rw [HR.out, <- HX.out, <- HY.out]; rfl
 rw [hval]
 clear hval
 go_wp2
 go_ret2
 exact ⟨rfl, hb4⟩
def val64_rsh (x y : Nat) : Nat := downVal x 64 (y % 2 ^ 6) false
theorem refAlu64_rsh (a b : Int) (w : World) :
 Calls Tryz.prog 13 #[.int .i64 12, .bool false, .int .i64 a, .int .i64 b] w fun e w' =>
  e = .returned (.tuple #[.int .i64 (wrap64 ((val64_rsh (lowN 64 a) (lowN 64 b) % 2 ^ 64 : Nat) : Int)), .int .i64 0]) /\ Below w.heap.size w w' := by
 obtain ⟨R, hR⟩ : ∃ R, R = val64_rsh (lowN 64 a) (lowN 64 b) := ⟨_, rfl⟩
 have HR := Lib.hid hR
 rw [<- hR]
 clear hR
 go_enter Tryz.func13, Tryz.ntmps13
 go_wp2_with fail
 refine (width_wide _).mono ?_
 rintro e w0 ⟨rfl, rfl⟩
 go_wp2_with fail
 refine (row_any a 64 64 rfl (by decide) _).mono ?_
 rintro e w1 ⟨b1, rfl, hb1, hR1, hB1⟩
 go_wp2_with fail
 refine (width_wide _).mono ?_
 rintro e w1' ⟨rfl, rfl⟩
 go_wp2_with fail
 refine (row_any b 64 64 rfl (by decide) _).mono ?_
 rintro e w2 ⟨b2, rfl, hb2, hR2, hB2⟩
 have hX := Bits.row (row_low (hR1.below hB2 hR1.lt))
 have hY := Bits.row (row_low hR2)
 have hs1 := hB1.size
 have hB02 := hB1.trans (hB2.mono hs1)
 have hs2 := hB02.size
 have hx := lowN_lt 64 a
 have hy := lowN_lt 64 b
 obtain ⟨x, hxe⟩ : ∃ x, x = lowN 64 a := ⟨_, rfl⟩
 obtain ⟨y, hye⟩ : ∃ y, y = lowN 64 b := ⟨_, rfl⟩
 rw [<- hxe] at hX hx
 rw [<- hye] at hY hy
 have HX := Lib.hid hxe
 have HY := Lib.hid hye
 clear hxe hye
 have HX' := Lib.hid hx
 have HY' := Lib.hid hy
 clear hx hy
 go_wp2_with fail
 refine (joined64_rsh b1 b2 64 x y rfl HX'.out HY'.out _ hX hY).mono ?_
 rintro e w4 ⟨q, oq, cq, rfl, hq, hB4⟩
 have hb4 := hB02.trans (hB4.mono hs2)
 clear hB4
 go_wp2_with fail
 refine (rnumber_of q oq 64 cq _ (by decide) _ hq).mono ?_
 rintro e w5 ⟨rfl, rfl⟩
 have hval : (downVal x 64 (y % 2 ^ 6) false) = R := by rw [HR.out, <- HX.out, <- HY.out]; rfl
 rw [hval]
 clear hval
 go_wp2
 go_ret2
 exact ⟨rfl, hb4⟩
def val64_arsh (x y : Nat) : Nat := downVal x 64 (y % 2 ^ 6) (bit x (64 - 1) == 1)
theorem refAlu64_arsh (a b : Int) (w : World) :
 Calls Tryz.prog 13 #[.int .i64 13, .bool false, .int .i64 a, .int .i64 b] w fun e w' =>
  e = .returned (.tuple #[.int .i64 (wrap64 ((val64_arsh (lowN 64 a) (lowN 64 b) % 2 ^ 64 : Nat) : Int)), .int .i64 0]) /\ Below w.heap.size w w' := by
 obtain ⟨R, hR⟩ : ∃ R, R = val64_arsh (lowN 64 a) (lowN 64 b) := ⟨_, rfl⟩
 have HR := Lib.hid hR
 rw [<- hR]
 clear hR
 go_enter Tryz.func13, Tryz.ntmps13
 go_wp2_with fail
 refine (width_wide _).mono ?_
 rintro e w0 ⟨rfl, rfl⟩
 go_wp2_with fail
 refine (row_any a 64 64 rfl (by decide) _).mono ?_
 rintro e w1 ⟨b1, rfl, hb1, hR1, hB1⟩
 go_wp2_with fail
 refine (width_wide _).mono ?_
 rintro e w1' ⟨rfl, rfl⟩
 go_wp2_with fail
 refine (row_any b 64 64 rfl (by decide) _).mono ?_
 rintro e w2 ⟨b2, rfl, hb2, hR2, hB2⟩
 have hX := Bits.row (row_low (hR1.below hB2 hR1.lt))
 have hY := Bits.row (row_low hR2)
 have hs1 := hB1.size
 have hB02 := hB1.trans (hB2.mono hs1)
 have hs2 := hB02.size
 have hx := lowN_lt 64 a
 have hy := lowN_lt 64 b
 obtain ⟨x, hxe⟩ : ∃ x, x = lowN 64 a := ⟨_, rfl⟩
 obtain ⟨y, hye⟩ : ∃ y, y = lowN 64 b := ⟨_, rfl⟩
 rw [<- hxe] at hX hx
 rw [<- hye] at hY hy
 have HX := Lib.hid hxe
 have HY := Lib.hid hye
 clear hxe hye
 have HX' := Lib.hid hx
 have HY' := Lib.hid hy
 clear hx hy
 go_wp2_with fail
 refine (joined64_arsh b1 b2 64 x y rfl HX'.out HY'.out _ hX hY).mono ?_
 rintro e w4 ⟨q, oq, cq, rfl, hq, hB4⟩
 have hb4 := hB02.trans (hB4.mono hs2)
 clear hB4
 go_wp2_with fail
 refine (rnumber_of q oq 64 cq _ (by decide) _ hq).mono ?_
 rintro e w5 ⟨rfl, rfl⟩
 have hval : (downVal x 64 (y % 2 ^ 6) (bit x (64 - 1) == 1)) = R := by rw [HR.out, <- HX.out, <- HY.out]; rfl
 rw [hval]
 clear hval
 go_wp2
 go_ret2
 exact ⟨rfl, hb4⟩
def val64_neg (x y : Nat) : Nat := 2 ^ 64 - x % 2 ^ 64
theorem refAlu64_neg (a b : Int) (w : World) :
 Calls Tryz.prog 13 #[.int .i64 14, .bool false, .int .i64 a, .int .i64 b] w fun e w' =>
  e = .returned (.tuple #[.int .i64 (wrap64 ((val64_neg (lowN 64 a) (lowN 64 b) % 2 ^ 64 : Nat) : Int)), .int .i64 0]) /\ Below w.heap.size w w' := by
 obtain ⟨R, hR⟩ : ∃ R, R = val64_neg (lowN 64 a) (lowN 64 b) := ⟨_, rfl⟩
 have HR := Lib.hid hR
 rw [<- hR]
 clear hR
 go_enter Tryz.func13, Tryz.ntmps13
 go_wp2_with fail
 refine (width_wide _).mono ?_
 rintro e w0 ⟨rfl, rfl⟩
 go_wp2_with fail
 refine (row_any a 64 64 rfl (by decide) _).mono ?_
 rintro e w1 ⟨b1, rfl, hb1, hR1, hB1⟩
 go_wp2_with fail
 refine (width_wide _).mono ?_
 rintro e w1' ⟨rfl, rfl⟩
 go_wp2_with fail
 refine (row_any b 64 64 rfl (by decide) _).mono ?_
 rintro e w2 ⟨b2, rfl, hb2, hR2, hB2⟩
 have hX := Bits.row (row_low (hR1.below hB2 hR1.lt))
 have hY := Bits.row (row_low hR2)
 have hs1 := hB1.size
 have hB02 := hB1.trans (hB2.mono hs1)
 have hs2 := hB02.size
 have hx := lowN_lt 64 a
 have hy := lowN_lt 64 b
 obtain ⟨x, hxe⟩ : ∃ x, x = lowN 64 a := ⟨_, rfl⟩
 obtain ⟨y, hye⟩ : ∃ y, y = lowN 64 b := ⟨_, rfl⟩
 rw [<- hxe] at hX hx
 rw [<- hye] at hY hy
 have HX := Lib.hid hxe
 have HY := Lib.hid hye
 clear hxe hye
 have HX' := Lib.hid hx
 have HY' := Lib.hid hy
 clear hx hy
 go_wp2_with fail
 refine (joined64_neg b1 b2 64 x y rfl HX'.out HY'.out _ hX hY).mono ?_
 rintro e w4 ⟨q, oq, cq, rfl, hq, hB4⟩
 have hb4 := hB02.trans (hB4.mono hs2)
 clear hB4
 go_wp2_with fail
 refine (rnumber_of q oq 64 cq _ (by decide) _ hq).mono ?_
 rintro e w5 ⟨rfl, rfl⟩
 have hval : (2 ^ 64 - x % 2 ^ 64) = R := by rw [HR.out, <- HX.out, <- HY.out]; rfl
 rw [hval]
 clear hval
 go_wp2
 go_ret2
 exact ⟨rfl, hb4⟩
def val64_mov (x y : Nat) : Nat := y
theorem refAlu64_mov (a b : Int) (w : World) :
 Calls Tryz.prog 13 #[.int .i64 15, .bool false, .int .i64 a, .int .i64 b] w fun e w' =>
  e = .returned (.tuple #[.int .i64 (wrap64 ((val64_mov (lowN 64 a) (lowN 64 b) % 2 ^ 64 : Nat) : Int)), .int .i64 0]) /\ Below w.heap.size w w' := by
 obtain ⟨R, hR⟩ : ∃ R, R = val64_mov (lowN 64 a) (lowN 64 b) := ⟨_, rfl⟩
 have HR := Lib.hid hR
 rw [<- hR]
 clear hR
 go_enter Tryz.func13, Tryz.ntmps13
 go_wp2_with fail
 refine (width_wide _).mono ?_
 rintro e w0 ⟨rfl, rfl⟩
 go_wp2_with fail
 refine (row_any a 64 64 rfl (by decide) _).mono ?_
 rintro e w1 ⟨b1, rfl, hb1, hR1, hB1⟩
 go_wp2_with fail
 refine (width_wide _).mono ?_
 rintro e w1' ⟨rfl, rfl⟩
 go_wp2_with fail
 refine (row_any b 64 64 rfl (by decide) _).mono ?_
 rintro e w2 ⟨b2, rfl, hb2, hR2, hB2⟩
 have hX := Bits.row (row_low (hR1.below hB2 hR1.lt))
 have hY := Bits.row (row_low hR2)
 have hs1 := hB1.size
 have hB02 := hB1.trans (hB2.mono hs1)
 have hs2 := hB02.size
 have hx := lowN_lt 64 a
 have hy := lowN_lt 64 b
 obtain ⟨x, hxe⟩ : ∃ x, x = lowN 64 a := ⟨_, rfl⟩
 obtain ⟨y, hye⟩ : ∃ y, y = lowN 64 b := ⟨_, rfl⟩
 rw [<- hxe] at hX hx
 rw [<- hye] at hY hy
 have HX := Lib.hid hxe
 have HY := Lib.hid hye
 clear hxe hye
 have HX' := Lib.hid hx
 have HY' := Lib.hid hy
 clear hx hy
 go_wp2_with fail
 refine (joined64_mov b1 b2 64 x y rfl HX'.out HY'.out _ hX hY).mono ?_
 rintro e w4 ⟨q, oq, cq, rfl, hq, hB4⟩
 have hb4 := hB02.trans (hB4.mono hs2)
 clear hB4
 go_wp2_with fail
 refine (rnumber_of q oq 64 cq _ (by decide) _ hq).mono ?_
 rintro e w5 ⟨rfl, rfl⟩
 have hval : (y) = R := by rw [HR.out, <- HX.out, <- HY.out]; rfl
 rw [hval]
 clear hval
 go_wp2
 go_ret2
 exact ⟨rfl, hb4⟩
def val32_add (x y : Nat) : Nat := x + y + 0
theorem refAlu32_add (a b : Int) (w : World) :
 Calls Tryz.prog 13 #[.int .i64 1, .bool true, .int .i64 a, .int .i64 b] w fun e w' =>
  e = .returned (.tuple #[.int .i64 (wrap64 ((val32_add (lowN 32 a) (lowN 32 b) % 2 ^ 32 : Nat) : Int)), .int .i64 0]) /\ Below w.heap.size w w' := by
 obtain ⟨R, hR⟩ : ∃ R, R = val32_add (lowN 32 a) (lowN 32 b) := ⟨_, rfl⟩
 have HR := Lib.hid hR
 rw [<- hR]
 clear hR
 go_enter Tryz.func13, Tryz.ntmps13
 go_wp2_with fail
 refine (width_narrow _).mono ?_
 rintro e w0 ⟨rfl, rfl⟩
 go_wp2_with fail
 refine (row_any a 32 32 rfl (by decide) _).mono ?_
 rintro e w1 ⟨b1, rfl, hb1, hR1, hB1⟩
 go_wp2_with fail
 refine (width_narrow _).mono ?_
 rintro e w1' ⟨rfl, rfl⟩
 go_wp2_with fail
 refine (row_any b 32 32 rfl (by decide) _).mono ?_
 rintro e w2 ⟨b2, rfl, hb2, hR2, hB2⟩
 have hX := Bits.row (row_low (hR1.below hB2 hR1.lt))
 have hY := Bits.row (row_low hR2)
 have hs1 := hB1.size
 have hB02 := hB1.trans (hB2.mono hs1)
 have hs2 := hB02.size
 have hx := lowN_lt 32 a
 have hy := lowN_lt 32 b
 obtain ⟨x, hxe⟩ : ∃ x, x = lowN 32 a := ⟨_, rfl⟩
 obtain ⟨y, hye⟩ : ∃ y, y = lowN 32 b := ⟨_, rfl⟩
 rw [<- hxe] at hX hx
 rw [<- hye] at hY hy
 have HX := Lib.hid hxe
 have HY := Lib.hid hye
 clear hxe hye
 have HX' := Lib.hid hx
 have HY' := Lib.hid hy
 clear hx hy
 go_wp2_with fail
 refine (joined32_add b1 b2 32 x y rfl HX'.out HY'.out _ hX hY).mono ?_
 rintro e w4 ⟨q, oq, cq, rfl, hq, hB4⟩
 have hb4 := hB02.trans (hB4.mono hs2)
 clear hB4
 go_wp2_with fail
 refine (rnumber_of q oq 32 cq _ (by decide) _ hq).mono ?_
 rintro e w5 ⟨rfl, rfl⟩
 have hval : (x + y + 0) = R := by rw [HR.out, <- HX.out, <- HY.out]; rfl
 rw [hval]
 clear hval
 go_wp2
 go_ret2
 exact ⟨rfl, hb4⟩
def val32_sub (x y : Nat) : Nat := x + (2 ^ 32 - 1 - y % 2 ^ 32) + 1
theorem refAlu32_sub (a b : Int) (w : World) :
 Calls Tryz.prog 13 #[.int .i64 2, .bool true, .int .i64 a, .int .i64 b] w fun e w' =>
  e = .returned (.tuple #[.int .i64 (wrap64 ((val32_sub (lowN 32 a) (lowN 32 b) % 2 ^ 32 : Nat) : Int)), .int .i64 0]) /\ Below w.heap.size w w' := by
 obtain ⟨R, hR⟩ : ∃ R, R = val32_sub (lowN 32 a) (lowN 32 b) := ⟨_, rfl⟩
 have HR := Lib.hid hR
 rw [<- hR]
 clear hR
 go_enter Tryz.func13, Tryz.ntmps13
 go_wp2_with fail
 refine (width_narrow _).mono ?_
 rintro e w0 ⟨rfl, rfl⟩
 go_wp2_with fail
 refine (row_any a 32 32 rfl (by decide) _).mono ?_
 rintro e w1 ⟨b1, rfl, hb1, hR1, hB1⟩
 go_wp2_with fail
 refine (width_narrow _).mono ?_
 rintro e w1' ⟨rfl, rfl⟩
 go_wp2_with fail
 refine (row_any b 32 32 rfl (by decide) _).mono ?_
 rintro e w2 ⟨b2, rfl, hb2, hR2, hB2⟩
 have hX := Bits.row (row_low (hR1.below hB2 hR1.lt))
 have hY := Bits.row (row_low hR2)
 have hs1 := hB1.size
 have hB02 := hB1.trans (hB2.mono hs1)
 have hs2 := hB02.size
 have hx := lowN_lt 32 a
 have hy := lowN_lt 32 b
 obtain ⟨x, hxe⟩ : ∃ x, x = lowN 32 a := ⟨_, rfl⟩
 obtain ⟨y, hye⟩ : ∃ y, y = lowN 32 b := ⟨_, rfl⟩
 rw [<- hxe] at hX hx
 rw [<- hye] at hY hy
 have HX := Lib.hid hxe
 have HY := Lib.hid hye
 clear hxe hye
 have HX' := Lib.hid hx
 have HY' := Lib.hid hy
 clear hx hy
 go_wp2_with fail
 refine (joined32_sub b1 b2 32 x y rfl HX'.out HY'.out _ hX hY).mono ?_
 rintro e w4 ⟨q, oq, cq, rfl, hq, hB4⟩
 have hb4 := hB02.trans (hB4.mono hs2)
 clear hB4
 go_wp2_with fail
 refine (rnumber_of q oq 32 cq _ (by decide) _ hq).mono ?_
 rintro e w5 ⟨rfl, rfl⟩
 have hval : (x + (2 ^ 32 - 1 - y % 2 ^ 32) + 1) = R := by rw [HR.out, <- HX.out, <- HY.out]; rfl
 rw [hval]
 clear hval
 go_wp2
 go_ret2
 exact ⟨rfl, hb4⟩
def val32_mul (x y : Nat) : Nat := x * (y % 2 ^ 32)
theorem refAlu32_mul (a b : Int) (w : World) :
 Calls Tryz.prog 13 #[.int .i64 3, .bool true, .int .i64 a, .int .i64 b] w fun e w' =>
  e = .returned (.tuple #[.int .i64 (wrap64 ((val32_mul (lowN 32 a) (lowN 32 b) % 2 ^ 32 : Nat) : Int)), .int .i64 0]) /\ Below w.heap.size w w' := by
 obtain ⟨R, hR⟩ : ∃ R, R = val32_mul (lowN 32 a) (lowN 32 b) := ⟨_, rfl⟩
 have HR := Lib.hid hR
 rw [<- hR]
 clear hR
 go_enter Tryz.func13, Tryz.ntmps13
 go_wp2_with fail
 refine (width_narrow _).mono ?_
 rintro e w0 ⟨rfl, rfl⟩
 go_wp2_with fail
 refine (row_any a 32 32 rfl (by decide) _).mono ?_
 rintro e w1 ⟨b1, rfl, hb1, hR1, hB1⟩
 go_wp2_with fail
 refine (width_narrow _).mono ?_
 rintro e w1' ⟨rfl, rfl⟩
 go_wp2_with fail
 refine (row_any b 32 32 rfl (by decide) _).mono ?_
 rintro e w2 ⟨b2, rfl, hb2, hR2, hB2⟩
 have hX := Bits.row (row_low (hR1.below hB2 hR1.lt))
 have hY := Bits.row (row_low hR2)
 have hs1 := hB1.size
 have hB02 := hB1.trans (hB2.mono hs1)
 have hs2 := hB02.size
 have hx := lowN_lt 32 a
 have hy := lowN_lt 32 b
 obtain ⟨x, hxe⟩ : ∃ x, x = lowN 32 a := ⟨_, rfl⟩
 obtain ⟨y, hye⟩ : ∃ y, y = lowN 32 b := ⟨_, rfl⟩
 rw [<- hxe] at hX hx
 rw [<- hye] at hY hy
 have HX := Lib.hid hxe
 have HY := Lib.hid hye
 clear hxe hye
 have HX' := Lib.hid hx
 have HY' := Lib.hid hy
 clear hx hy
 go_wp2_with fail
 refine (joined32_mul b1 b2 32 x y rfl HX'.out HY'.out _ hX hY).mono ?_
 rintro e w4 ⟨q, oq, cq, rfl, hq, hB4⟩
 have hb4 := hB02.trans (hB4.mono hs2)
 clear hB4
 go_wp2_with fail
 refine (rnumber_of q oq 32 cq _ (by decide) _ hq).mono ?_
 rintro e w5 ⟨rfl, rfl⟩
 have hval : (x * (y % 2 ^ 32)) = R := by rw [HR.out, <- HX.out, <- HY.out]; rfl
 rw [hval]
 clear hval
 go_wp2
 go_ret2
 exact ⟨rfl, hb4⟩
def val32_div (x y : Nat) : Nat := x / y
theorem refAlu32_div (a b : Int) (h0 : lowN 32 b ≠ 0) (w : World) :
 Calls Tryz.prog 13 #[.int .i64 4, .bool true, .int .i64 a, .int .i64 b] w fun e w' =>
  e = .returned (.tuple #[.int .i64 (wrap64 ((val32_div (lowN 32 a) (lowN 32 b) % 2 ^ 32 : Nat) : Int)), .int .i64 0]) /\ Below w.heap.size w w' := by
 have H0 := Lib.hid h0
 clear h0
 obtain ⟨R, hR⟩ : ∃ R, R = val32_div (lowN 32 a) (lowN 32 b) := ⟨_, rfl⟩
 have HR := Lib.hid hR
 rw [<- hR]
 clear hR
 go_enter Tryz.func13, Tryz.ntmps13
 go_wp2_with fail
 refine (width_narrow _).mono ?_
 rintro e w0 ⟨rfl, rfl⟩
 go_wp2_with fail
 refine (row_any a 32 32 rfl (by decide) _).mono ?_
 rintro e w1 ⟨b1, rfl, hb1, hR1, hB1⟩
 go_wp2_with fail
 refine (width_narrow _).mono ?_
 rintro e w1' ⟨rfl, rfl⟩
 go_wp2_with fail
 refine (row_any b 32 32 rfl (by decide) _).mono ?_
 rintro e w2 ⟨b2, rfl, hb2, hR2, hB2⟩
 have hX := Bits.row (row_low (hR1.below hB2 hR1.lt))
 have hY := Bits.row (row_low hR2)
 have hs1 := hB1.size
 have hB02 := hB1.trans (hB2.mono hs1)
 have hs2 := hB02.size
 have hx := lowN_lt 32 a
 have hy := lowN_lt 32 b
 obtain ⟨x, hxe⟩ : ∃ x, x = lowN 32 a := ⟨_, rfl⟩
 obtain ⟨y, hye⟩ : ∃ y, y = lowN 32 b := ⟨_, rfl⟩
 rw [<- hxe] at hX hx
 rw [<- hye] at hY hy
 have HX := Lib.hid hxe
 have HY := Lib.hid hye
 clear hxe hye
 have hmk := make_ints' 32 32 rfl (by decide)
 have hZ : Bits (w2.alloc (.cells (itab 32 fun _ => 0).toArray 3)) w2.heap.size 0 32 0 := Bits.row (zero_bits w2 32)
 have hX' : Bits (w2.alloc (.cells (itab 32 fun _ => 0).toArray 3)) b1 0 32 x := hX.below ((Below.refl _ _).alloc (Nat.le_refl _) _) hX.1
 have hY' : Bits (w2.alloc (.cells (itab 32 fun _ => 0).toArray 3)) b2 0 32 y := hY.below ((Below.refl _ _).alloc (Nat.le_refl _) _) hY.1
 have hd : decide (y = 0) = false := by have := H0.out; rw [<- HY.out] at this; simpa using this
 have HD := Lib.hid hd
 have HP := Lib.hid (show 0 < 2 ^ 32 by decide)
 have HX' := Lib.hid hx
 have HY' := Lib.hid hy
 clear hd hx hy
 go_wp2_with fail
 refine (same_any b2 w2.heap.size 0 0 32 32 32 y 0 (by decide) HY'.out HP.out _ hY' hZ).mono ?_
 rintro e w3 ⟨rfl, k3, rfl⟩
 rw [HD.out]
 have hb3 : Below w.heap.size w ((w2.alloc (.cells (itab 32 fun _ => 0).toArray 3)).drewN k3) := below_drewN (hB02.alloc hs2 _) k3
 have hX3 : Bits ((w2.alloc (.cells (itab 32 fun _ => 0).toArray 3)).drewN k3) b1 0 32 x := hX'
 have hY3 : Bits ((w2.alloc (.cells (itab 32 fun _ => 0).toArray 3)).drewN k3) b2 0 32 y := hY'
 clear hmk hZ hX' hY' hX hY
 go_wp2_with fail
 refine (joined32_div b1 b2 32 x y rfl HX'.out HY'.out (by have := H0.out; rwa [<- HY.out] at this) _ hX3 hY3).mono ?_
 rintro e w4 ⟨q, oq, cq, rfl, hq, hB4⟩
 have hs3 := hb3.size
 have hb4 := hb3.trans (hB4.mono hs3)
 clear hB4 hb3
 go_wp2_with fail
 refine (rnumber_of q oq 32 cq _ (by decide) _ hq).mono ?_
 rintro e w5 ⟨rfl, rfl⟩
 have hval : (x / y) = R := by rw [HR.out, <- HX.out, <- HY.out]; rfl
 rw [hval]
 clear hval
 go_wp2
 go_ret2
 exact ⟨rfl, hb4⟩
theorem refAlu32_div0 (a b : Int) (h0 : lowN 32 b = 0) (w : World) :
 Calls Tryz.prog 13 #[.int .i64 4, .bool true, .int .i64 a, .int .i64 b] w fun e w' =>
  e = .returned (.tuple #[.int .i64 0, .int .i64 84]) /\ Below w.heap.size w w' := by
 have H0 := Lib.hid h0
 clear h0
 go_enter Tryz.func13, Tryz.ntmps13
 go_wp2_with fail
 refine (width_narrow _).mono ?_
 rintro e w0 ⟨rfl, rfl⟩
 go_wp2_with fail
 refine (row_any a 32 32 rfl (by decide) _).mono ?_
 rintro e w1 ⟨b1, rfl, hb1, hR1, hB1⟩
 go_wp2_with fail
 refine (width_narrow _).mono ?_
 rintro e w1' ⟨rfl, rfl⟩
 go_wp2_with fail
 refine (row_any b 32 32 rfl (by decide) _).mono ?_
 rintro e w2 ⟨b2, rfl, hb2, hR2, hB2⟩
 have hX := Bits.row (row_low (hR1.below hB2 hR1.lt))
 have hY := Bits.row (row_low hR2)
 have hs1 := hB1.size
 have hB02 := hB1.trans (hB2.mono hs1)
 have hs2 := hB02.size
 have hx := lowN_lt 32 a
 have hy := lowN_lt 32 b
 rw [H0.out] at hY
 have hmk := make_ints' 32 32 rfl (by decide)
 have hZ : Bits (w2.alloc (.cells (itab 32 fun _ => 0).toArray 3)) w2.heap.size 0 32 0 := Bits.row (zero_bits w2 32)
 have hY' : Bits (w2.alloc (.cells (itab 32 fun _ => 0).toArray 3)) b2 0 32 0 := hY.below ((Below.refl _ _).alloc (Nat.le_refl _) _) hY.1
 have HP := Lib.hid (show 0 < 2 ^ 32 by decide)
 clear hx hy
 go_wp2_with fail
 refine (same_any b2 w2.heap.size 0 0 32 32 32 0 0 (by decide) HP.out HP.out _ hY' hZ).mono ?_
 rintro e w3 ⟨rfl, k3, rfl⟩
 have hb3 : Below w.heap.size w ((w2.alloc (.cells (itab 32 fun _ => 0).toArray 3)).drewN k3) := below_drewN (hB02.alloc hs2 _) k3
 have HB3 := Lib.hid hb3
 clear hmk hZ hY' hX hY hb3
 go_wp2
 go_ret2
 exact ⟨rfl, HB3.out⟩
def val32_mod (x y : Nat) : Nat := x % y
theorem refAlu32_mod (a b : Int) (h0 : lowN 32 b ≠ 0) (w : World) :
 Calls Tryz.prog 13 #[.int .i64 5, .bool true, .int .i64 a, .int .i64 b] w fun e w' =>
  e = .returned (.tuple #[.int .i64 (wrap64 ((val32_mod (lowN 32 a) (lowN 32 b) % 2 ^ 32 : Nat) : Int)), .int .i64 0]) /\ Below w.heap.size w w' := by
 have H0 := Lib.hid h0
 clear h0
 obtain ⟨R, hR⟩ : ∃ R, R = val32_mod (lowN 32 a) (lowN 32 b) := ⟨_, rfl⟩
 have HR := Lib.hid hR
 rw [<- hR]
 clear hR
 go_enter Tryz.func13, Tryz.ntmps13
 go_wp2_with fail
 refine (width_narrow _).mono ?_
 rintro e w0 ⟨rfl, rfl⟩
 go_wp2_with fail
 refine (row_any a 32 32 rfl (by decide) _).mono ?_
 rintro e w1 ⟨b1, rfl, hb1, hR1, hB1⟩
 go_wp2_with fail
 refine (width_narrow _).mono ?_
 rintro e w1' ⟨rfl, rfl⟩
 go_wp2_with fail
 refine (row_any b 32 32 rfl (by decide) _).mono ?_
 rintro e w2 ⟨b2, rfl, hb2, hR2, hB2⟩
 have hX := Bits.row (row_low (hR1.below hB2 hR1.lt))
 have hY := Bits.row (row_low hR2)
 have hs1 := hB1.size
 have hB02 := hB1.trans (hB2.mono hs1)
 have hs2 := hB02.size
 have hx := lowN_lt 32 a
 have hy := lowN_lt 32 b
 obtain ⟨x, hxe⟩ : ∃ x, x = lowN 32 a := ⟨_, rfl⟩
 obtain ⟨y, hye⟩ : ∃ y, y = lowN 32 b := ⟨_, rfl⟩
 rw [<- hxe] at hX hx
 rw [<- hye] at hY hy
 have HX := Lib.hid hxe
 have HY := Lib.hid hye
 clear hxe hye
 have hmk := make_ints' 32 32 rfl (by decide)
 have hZ : Bits (w2.alloc (.cells (itab 32 fun _ => 0).toArray 3)) w2.heap.size 0 32 0 := Bits.row (zero_bits w2 32)
 have hX' : Bits (w2.alloc (.cells (itab 32 fun _ => 0).toArray 3)) b1 0 32 x := hX.below ((Below.refl _ _).alloc (Nat.le_refl _) _) hX.1
 have hY' : Bits (w2.alloc (.cells (itab 32 fun _ => 0).toArray 3)) b2 0 32 y := hY.below ((Below.refl _ _).alloc (Nat.le_refl _) _) hY.1
 have hd : decide (y = 0) = false := by have := H0.out; rw [<- HY.out] at this; simpa using this
 have HD := Lib.hid hd
 have HP := Lib.hid (show 0 < 2 ^ 32 by decide)
 have HX' := Lib.hid hx
 have HY' := Lib.hid hy
 clear hd hx hy
 go_wp2_with fail
 refine (same_any b2 w2.heap.size 0 0 32 32 32 y 0 (by decide) HY'.out HP.out _ hY' hZ).mono ?_
 rintro e w3 ⟨rfl, k3, rfl⟩
 rw [HD.out]
 have hb3 : Below w.heap.size w ((w2.alloc (.cells (itab 32 fun _ => 0).toArray 3)).drewN k3) := below_drewN (hB02.alloc hs2 _) k3
 have hX3 : Bits ((w2.alloc (.cells (itab 32 fun _ => 0).toArray 3)).drewN k3) b1 0 32 x := hX'
 have hY3 : Bits ((w2.alloc (.cells (itab 32 fun _ => 0).toArray 3)).drewN k3) b2 0 32 y := hY'
 clear hmk hZ hX' hY' hX hY
 go_wp2_with fail
 refine (joined32_mod b1 b2 32 x y rfl HX'.out HY'.out (by have := H0.out; rwa [<- HY.out] at this) _ hX3 hY3).mono ?_
 rintro e w4 ⟨q, oq, cq, rfl, hq, hB4⟩
 have hs3 := hb3.size
 have hb4 := hb3.trans (hB4.mono hs3)
 clear hB4 hb3
 go_wp2_with fail
 refine (rnumber_of q oq 32 cq _ (by decide) _ hq).mono ?_
 rintro e w5 ⟨rfl, rfl⟩
 have hval : (x % y) = R := by rw [HR.out, <- HX.out, <- HY.out]; rfl
 rw [hval]
 clear hval
 go_wp2
 go_ret2
 exact ⟨rfl, hb4⟩
theorem refAlu32_mod0 (a b : Int) (h0 : lowN 32 b = 0) (w : World) :
 Calls Tryz.prog 13 #[.int .i64 5, .bool true, .int .i64 a, .int .i64 b] w fun e w' =>
  e = .returned (.tuple #[.int .i64 0, .int .i64 84]) /\ Below w.heap.size w w' := by
 have H0 := Lib.hid h0
 clear h0
 go_enter Tryz.func13, Tryz.ntmps13
 go_wp2_with fail
 refine (width_narrow _).mono ?_
 rintro e w0 ⟨rfl, rfl⟩
 go_wp2_with fail
 refine (row_any a 32 32 rfl (by decide) _).mono ?_
 rintro e w1 ⟨b1, rfl, hb1, hR1, hB1⟩
 go_wp2_with fail
 refine (width_narrow _).mono ?_
 rintro e w1' ⟨rfl, rfl⟩
 go_wp2_with fail
 refine (row_any b 32 32 rfl (by decide) _).mono ?_
 rintro e w2 ⟨b2, rfl, hb2, hR2, hB2⟩
 have hX := Bits.row (row_low (hR1.below hB2 hR1.lt))
 have hY := Bits.row (row_low hR2)
 have hs1 := hB1.size
 have hB02 := hB1.trans (hB2.mono hs1)
 have hs2 := hB02.size
 have hx := lowN_lt 32 a
 have hy := lowN_lt 32 b
 rw [H0.out] at hY
 have hmk := make_ints' 32 32 rfl (by decide)
 have hZ : Bits (w2.alloc (.cells (itab 32 fun _ => 0).toArray 3)) w2.heap.size 0 32 0 := Bits.row (zero_bits w2 32)
 have hY' : Bits (w2.alloc (.cells (itab 32 fun _ => 0).toArray 3)) b2 0 32 0 := hY.below ((Below.refl _ _).alloc (Nat.le_refl _) _) hY.1
 have HP := Lib.hid (show 0 < 2 ^ 32 by decide)
 clear hx hy
 go_wp2_with fail
 refine (same_any b2 w2.heap.size 0 0 32 32 32 0 0 (by decide) HP.out HP.out _ hY' hZ).mono ?_
 rintro e w3 ⟨rfl, k3, rfl⟩
 have hb3 : Below w.heap.size w ((w2.alloc (.cells (itab 32 fun _ => 0).toArray 3)).drewN k3) := below_drewN (hB02.alloc hs2 _) k3
 have HB3 := Lib.hid hb3
 clear hmk hZ hY' hX hY hb3
 go_wp2
 go_ret2
 exact ⟨rfl, HB3.out⟩
def val32_sdiv (x y : Nat) : Nat := turn (bit x (32 - 1) != bit y (32 - 1)) 32 (absN 32 x / absN 32 y)
theorem refAlu32_sdiv (a b : Int) (h0 : lowN 32 b ≠ 0) (w : World) :
 Calls Tryz.prog 13 #[.int .i64 6, .bool true, .int .i64 a, .int .i64 b] w fun e w' =>
  e = .returned (.tuple #[.int .i64 (wrap64 ((val32_sdiv (lowN 32 a) (lowN 32 b) % 2 ^ 32 : Nat) : Int)), .int .i64 0]) /\ Below w.heap.size w w' := by
 have H0 := Lib.hid h0
 clear h0
 obtain ⟨R, hR⟩ : ∃ R, R = val32_sdiv (lowN 32 a) (lowN 32 b) := ⟨_, rfl⟩
 have HR := Lib.hid hR
 rw [<- hR]
 clear hR
 go_enter Tryz.func13, Tryz.ntmps13
 go_wp2_with fail
 refine (width_narrow _).mono ?_
 rintro e w0 ⟨rfl, rfl⟩
 go_wp2_with fail
 refine (row_any a 32 32 rfl (by decide) _).mono ?_
 rintro e w1 ⟨b1, rfl, hb1, hR1, hB1⟩
 go_wp2_with fail
 refine (width_narrow _).mono ?_
 rintro e w1' ⟨rfl, rfl⟩
 go_wp2_with fail
 refine (row_any b 32 32 rfl (by decide) _).mono ?_
 rintro e w2 ⟨b2, rfl, hb2, hR2, hB2⟩
 have hX := Bits.row (row_low (hR1.below hB2 hR1.lt))
 have hY := Bits.row (row_low hR2)
 have hs1 := hB1.size
 have hB02 := hB1.trans (hB2.mono hs1)
 have hs2 := hB02.size
 have hx := lowN_lt 32 a
 have hy := lowN_lt 32 b
 obtain ⟨x, hxe⟩ : ∃ x, x = lowN 32 a := ⟨_, rfl⟩
 obtain ⟨y, hye⟩ : ∃ y, y = lowN 32 b := ⟨_, rfl⟩
 rw [<- hxe] at hX hx
 rw [<- hye] at hY hy
 have HX := Lib.hid hxe
 have HY := Lib.hid hye
 clear hxe hye
 have hmk := make_ints' 32 32 rfl (by decide)
 have hZ : Bits (w2.alloc (.cells (itab 32 fun _ => 0).toArray 3)) w2.heap.size 0 32 0 := Bits.row (zero_bits w2 32)
 have hX' : Bits (w2.alloc (.cells (itab 32 fun _ => 0).toArray 3)) b1 0 32 x := hX.below ((Below.refl _ _).alloc (Nat.le_refl _) _) hX.1
 have hY' : Bits (w2.alloc (.cells (itab 32 fun _ => 0).toArray 3)) b2 0 32 y := hY.below ((Below.refl _ _).alloc (Nat.le_refl _) _) hY.1
 have hd : decide (y = 0) = false := by have := H0.out; rw [<- HY.out] at this; simpa using this
 have HD := Lib.hid hd
 have HP := Lib.hid (show 0 < 2 ^ 32 by decide)
 have HX' := Lib.hid hx
 have HY' := Lib.hid hy
 clear hd hx hy
 go_wp2_with fail
 refine (same_any b2 w2.heap.size 0 0 32 32 32 y 0 (by decide) HY'.out HP.out _ hY' hZ).mono ?_
 rintro e w3 ⟨rfl, k3, rfl⟩
 rw [HD.out]
 have hb3 : Below w.heap.size w ((w2.alloc (.cells (itab 32 fun _ => 0).toArray 3)).drewN k3) := below_drewN (hB02.alloc hs2 _) k3
 have hX3 : Bits ((w2.alloc (.cells (itab 32 fun _ => 0).toArray 3)).drewN k3) b1 0 32 x := hX'
 have hY3 : Bits ((w2.alloc (.cells (itab 32 fun _ => 0).toArray 3)).drewN k3) b2 0 32 y := hY'
 clear hmk hZ hX' hY' hX hY
 go_wp2_with fail
 refine (joined32_sdiv b1 b2 32 x y rfl HX'.out HY'.out (by have := H0.out; rwa [<- HY.out] at this) _ hX3 hY3).mono ?_
 rintro e w4 ⟨q, oq, cq, rfl, hq, hB4⟩
 have hs3 := hb3.size
 have hb4 := hb3.trans (hB4.mono hs3)
 clear hB4 hb3
 go_wp2_with fail
 refine (rnumber_of q oq 32 cq _ (by decide) _ hq).mono ?_
 rintro e w5 ⟨rfl, rfl⟩
 have hval : (turn (bit x (32 - 1) != bit y (32 - 1)) 32 (absN 32 x / absN 32 y)) = R := by rw [HR.out, <- HX.out, <- HY.out]; rfl
 rw [hval]
 clear hval
 go_wp2
 go_ret2
 exact ⟨rfl, hb4⟩
theorem refAlu32_sdiv0 (a b : Int) (h0 : lowN 32 b = 0) (w : World) :
 Calls Tryz.prog 13 #[.int .i64 6, .bool true, .int .i64 a, .int .i64 b] w fun e w' =>
  e = .returned (.tuple #[.int .i64 0, .int .i64 84]) /\ Below w.heap.size w w' := by
 have H0 := Lib.hid h0
 clear h0
 go_enter Tryz.func13, Tryz.ntmps13
 go_wp2_with fail
 refine (width_narrow _).mono ?_
 rintro e w0 ⟨rfl, rfl⟩
 go_wp2_with fail
 refine (row_any a 32 32 rfl (by decide) _).mono ?_
 rintro e w1 ⟨b1, rfl, hb1, hR1, hB1⟩
 go_wp2_with fail
 refine (width_narrow _).mono ?_
 rintro e w1' ⟨rfl, rfl⟩
 go_wp2_with fail
 refine (row_any b 32 32 rfl (by decide) _).mono ?_
 rintro e w2 ⟨b2, rfl, hb2, hR2, hB2⟩
 have hX := Bits.row (row_low (hR1.below hB2 hR1.lt))
 have hY := Bits.row (row_low hR2)
 have hs1 := hB1.size
 have hB02 := hB1.trans (hB2.mono hs1)
 have hs2 := hB02.size
 have hx := lowN_lt 32 a
 have hy := lowN_lt 32 b
 rw [H0.out] at hY
 have hmk := make_ints' 32 32 rfl (by decide)
 have hZ : Bits (w2.alloc (.cells (itab 32 fun _ => 0).toArray 3)) w2.heap.size 0 32 0 := Bits.row (zero_bits w2 32)
 have hY' : Bits (w2.alloc (.cells (itab 32 fun _ => 0).toArray 3)) b2 0 32 0 := hY.below ((Below.refl _ _).alloc (Nat.le_refl _) _) hY.1
 have HP := Lib.hid (show 0 < 2 ^ 32 by decide)
 clear hx hy
 go_wp2_with fail
 refine (same_any b2 w2.heap.size 0 0 32 32 32 0 0 (by decide) HP.out HP.out _ hY' hZ).mono ?_
 rintro e w3 ⟨rfl, k3, rfl⟩
 have hb3 : Below w.heap.size w ((w2.alloc (.cells (itab 32 fun _ => 0).toArray 3)).drewN k3) := below_drewN (hB02.alloc hs2 _) k3
 have HB3 := Lib.hid hb3
 clear hmk hZ hY' hX hY hb3
 go_wp2
 go_ret2
 exact ⟨rfl, HB3.out⟩
def val32_smod (x y : Nat) : Nat := turn (bit x (32 - 1) == 1) 32 (absN 32 x % absN 32 y)
theorem refAlu32_smod (a b : Int) (h0 : lowN 32 b ≠ 0) (w : World) :
 Calls Tryz.prog 13 #[.int .i64 7, .bool true, .int .i64 a, .int .i64 b] w fun e w' =>
  e = .returned (.tuple #[.int .i64 (wrap64 ((val32_smod (lowN 32 a) (lowN 32 b) % 2 ^ 32 : Nat) : Int)), .int .i64 0]) /\ Below w.heap.size w w' := by
 have H0 := Lib.hid h0
 clear h0
 obtain ⟨R, hR⟩ : ∃ R, R = val32_smod (lowN 32 a) (lowN 32 b) := ⟨_, rfl⟩
 have HR := Lib.hid hR
 rw [<- hR]
 clear hR
 go_enter Tryz.func13, Tryz.ntmps13
 go_wp2_with fail
 refine (width_narrow _).mono ?_
 rintro e w0 ⟨rfl, rfl⟩
 go_wp2_with fail
 refine (row_any a 32 32 rfl (by decide) _).mono ?_
 rintro e w1 ⟨b1, rfl, hb1, hR1, hB1⟩
 go_wp2_with fail
 refine (width_narrow _).mono ?_
 rintro e w1' ⟨rfl, rfl⟩
 go_wp2_with fail
 refine (row_any b 32 32 rfl (by decide) _).mono ?_
 rintro e w2 ⟨b2, rfl, hb2, hR2, hB2⟩
 have hX := Bits.row (row_low (hR1.below hB2 hR1.lt))
 have hY := Bits.row (row_low hR2)
 have hs1 := hB1.size
 have hB02 := hB1.trans (hB2.mono hs1)
 have hs2 := hB02.size
 have hx := lowN_lt 32 a
 have hy := lowN_lt 32 b
 obtain ⟨x, hxe⟩ : ∃ x, x = lowN 32 a := ⟨_, rfl⟩
 obtain ⟨y, hye⟩ : ∃ y, y = lowN 32 b := ⟨_, rfl⟩
 rw [<- hxe] at hX hx
 rw [<- hye] at hY hy
 have HX := Lib.hid hxe
 have HY := Lib.hid hye
 clear hxe hye
 have hmk := make_ints' 32 32 rfl (by decide)
 have hZ : Bits (w2.alloc (.cells (itab 32 fun _ => 0).toArray 3)) w2.heap.size 0 32 0 := Bits.row (zero_bits w2 32)
 have hX' : Bits (w2.alloc (.cells (itab 32 fun _ => 0).toArray 3)) b1 0 32 x := hX.below ((Below.refl _ _).alloc (Nat.le_refl _) _) hX.1
 have hY' : Bits (w2.alloc (.cells (itab 32 fun _ => 0).toArray 3)) b2 0 32 y := hY.below ((Below.refl _ _).alloc (Nat.le_refl _) _) hY.1
 have hd : decide (y = 0) = false := by have := H0.out; rw [<- HY.out] at this; simpa using this
 have HD := Lib.hid hd
 have HP := Lib.hid (show 0 < 2 ^ 32 by decide)
 have HX' := Lib.hid hx
 have HY' := Lib.hid hy
 clear hd hx hy
 go_wp2_with fail
 refine (same_any b2 w2.heap.size 0 0 32 32 32 y 0 (by decide) HY'.out HP.out _ hY' hZ).mono ?_
 rintro e w3 ⟨rfl, k3, rfl⟩
 rw [HD.out]
 have hb3 : Below w.heap.size w ((w2.alloc (.cells (itab 32 fun _ => 0).toArray 3)).drewN k3) := below_drewN (hB02.alloc hs2 _) k3
 have hX3 : Bits ((w2.alloc (.cells (itab 32 fun _ => 0).toArray 3)).drewN k3) b1 0 32 x := hX'
 have hY3 : Bits ((w2.alloc (.cells (itab 32 fun _ => 0).toArray 3)).drewN k3) b2 0 32 y := hY'
 clear hmk hZ hX' hY' hX hY
 go_wp2_with fail
 refine (joined32_smod b1 b2 32 x y rfl HX'.out HY'.out (by have := H0.out; rwa [<- HY.out] at this) _ hX3 hY3).mono ?_
 rintro e w4 ⟨q, oq, cq, rfl, hq, hB4⟩
 have hs3 := hb3.size
 have hb4 := hb3.trans (hB4.mono hs3)
 clear hB4 hb3
 go_wp2_with fail
 refine (rnumber_of q oq 32 cq _ (by decide) _ hq).mono ?_
 rintro e w5 ⟨rfl, rfl⟩
 have hval : (turn (bit x (32 - 1) == 1) 32 (absN 32 x % absN 32 y)) = R := by rw [HR.out, <- HX.out, <- HY.out]; rfl
 rw [hval]
 clear hval
 go_wp2
 go_ret2
 exact ⟨rfl, hb4⟩
theorem refAlu32_smod0 (a b : Int) (h0 : lowN 32 b = 0) (w : World) :
 Calls Tryz.prog 13 #[.int .i64 7, .bool true, .int .i64 a, .int .i64 b] w fun e w' =>
  e = .returned (.tuple #[.int .i64 0, .int .i64 84]) /\ Below w.heap.size w w' := by
 have H0 := Lib.hid h0
 clear h0
 go_enter Tryz.func13, Tryz.ntmps13
 go_wp2_with fail
 refine (width_narrow _).mono ?_
 rintro e w0 ⟨rfl, rfl⟩
 go_wp2_with fail
 refine (row_any a 32 32 rfl (by decide) _).mono ?_
 rintro e w1 ⟨b1, rfl, hb1, hR1, hB1⟩
 go_wp2_with fail
 refine (width_narrow _).mono ?_
 rintro e w1' ⟨rfl, rfl⟩
 go_wp2_with fail
 refine (row_any b 32 32 rfl (by decide) _).mono ?_
 rintro e w2 ⟨b2, rfl, hb2, hR2, hB2⟩
 have hX := Bits.row (row_low (hR1.below hB2 hR1.lt))
 have hY := Bits.row (row_low hR2)
 have hs1 := hB1.size
 have hB02 := hB1.trans (hB2.mono hs1)
 have hs2 := hB02.size
 have hx := lowN_lt 32 a
 have hy := lowN_lt 32 b
 rw [H0.out] at hY
 have hmk := make_ints' 32 32 rfl (by decide)
 have hZ : Bits (w2.alloc (.cells (itab 32 fun _ => 0).toArray 3)) w2.heap.size 0 32 0 := Bits.row (zero_bits w2 32)
 have hY' : Bits (w2.alloc (.cells (itab 32 fun _ => 0).toArray 3)) b2 0 32 0 := hY.below ((Below.refl _ _).alloc (Nat.le_refl _) _) hY.1
 have HP := Lib.hid (show 0 < 2 ^ 32 by decide)
 clear hx hy
 go_wp2_with fail
 refine (same_any b2 w2.heap.size 0 0 32 32 32 0 0 (by decide) HP.out HP.out _ hY' hZ).mono ?_
 rintro e w3 ⟨rfl, k3, rfl⟩
 have hb3 : Below w.heap.size w ((w2.alloc (.cells (itab 32 fun _ => 0).toArray 3)).drewN k3) := below_drewN (hB02.alloc hs2 _) k3
 have HB3 := Lib.hid hb3
 clear hmk hZ hY' hX hY hb3
 go_wp2
 go_ret2
 exact ⟨rfl, HB3.out⟩
def val32_or (x y : Nat) : Nat := x ||| y
theorem refAlu32_or (a b : Int) (w : World) :
 Calls Tryz.prog 13 #[.int .i64 8, .bool true, .int .i64 a, .int .i64 b] w fun e w' =>
  e = .returned (.tuple #[.int .i64 (wrap64 ((val32_or (lowN 32 a) (lowN 32 b) % 2 ^ 32 : Nat) : Int)), .int .i64 0]) /\ Below w.heap.size w w' := by
 obtain ⟨R, hR⟩ : ∃ R, R = val32_or (lowN 32 a) (lowN 32 b) := ⟨_, rfl⟩
 have HR := Lib.hid hR
 rw [<- hR]
 clear hR
 go_enter Tryz.func13, Tryz.ntmps13
 go_wp2_with fail
 refine (width_narrow _).mono ?_
 rintro e w0 ⟨rfl, rfl⟩
 go_wp2_with fail
 refine (row_any a 32 32 rfl (by decide) _).mono ?_
 rintro e w1 ⟨b1, rfl, hb1, hR1, hB1⟩
 go_wp2_with fail
 refine (width_narrow _).mono ?_
 rintro e w1' ⟨rfl, rfl⟩
 go_wp2_with fail
 refine (row_any b 32 32 rfl (by decide) _).mono ?_
 rintro e w2 ⟨b2, rfl, hb2, hR2, hB2⟩
 have hX := Bits.row (row_low (hR1.below hB2 hR1.lt))
 have hY := Bits.row (row_low hR2)
 have hs1 := hB1.size
 have hB02 := hB1.trans (hB2.mono hs1)
 have hs2 := hB02.size
 have hx := lowN_lt 32 a
 have hy := lowN_lt 32 b
 obtain ⟨x, hxe⟩ : ∃ x, x = lowN 32 a := ⟨_, rfl⟩
 obtain ⟨y, hye⟩ : ∃ y, y = lowN 32 b := ⟨_, rfl⟩
 rw [<- hxe] at hX hx
 rw [<- hye] at hY hy
 have HX := Lib.hid hxe
 have HY := Lib.hid hye
 clear hxe hye
 have HX' := Lib.hid hx
 have HY' := Lib.hid hy
 clear hx hy
 go_wp2_with fail
 refine (joined32_or b1 b2 32 x y rfl HX'.out HY'.out _ hX hY).mono ?_
 rintro e w4 ⟨q, oq, cq, rfl, hq, hB4⟩
 have hb4 := hB02.trans (hB4.mono hs2)
 clear hB4
 go_wp2_with fail
 refine (rnumber_of q oq 32 cq _ (by decide) _ hq).mono ?_
 rintro e w5 ⟨rfl, rfl⟩
 have hval : (x ||| y) = R := by rw [HR.out, <- HX.out, <- HY.out]; rfl
 rw [hval]
 clear hval
 go_wp2
 go_ret2
 exact ⟨rfl, hb4⟩
def val32_and (x y : Nat) : Nat := x &&& y
theorem refAlu32_and (a b : Int) (w : World) :
 Calls Tryz.prog 13 #[.int .i64 9, .bool true, .int .i64 a, .int .i64 b] w fun e w' =>
  e = .returned (.tuple #[.int .i64 (wrap64 ((val32_and (lowN 32 a) (lowN 32 b) % 2 ^ 32 : Nat) : Int)), .int .i64 0]) /\ Below w.heap.size w w' := by
 obtain ⟨R, hR⟩ : ∃ R, R = val32_and (lowN 32 a) (lowN 32 b) := ⟨_, rfl⟩
 have HR := Lib.hid hR
 rw [<- hR]
 clear hR
 go_enter Tryz.func13, Tryz.ntmps13
 go_wp2_with fail
 refine (width_narrow _).mono ?_
 rintro e w0 ⟨rfl, rfl⟩
 go_wp2_with fail
 refine (row_any a 32 32 rfl (by decide) _).mono ?_
 rintro e w1 ⟨b1, rfl, hb1, hR1, hB1⟩
 go_wp2_with fail
 refine (width_narrow _).mono ?_
 rintro e w1' ⟨rfl, rfl⟩
 go_wp2_with fail
 refine (row_any b 32 32 rfl (by decide) _).mono ?_
 rintro e w2 ⟨b2, rfl, hb2, hR2, hB2⟩
 have hX := Bits.row (row_low (hR1.below hB2 hR1.lt))
 have hY := Bits.row (row_low hR2)
 have hs1 := hB1.size
 have hB02 := hB1.trans (hB2.mono hs1)
 have hs2 := hB02.size
 have hx := lowN_lt 32 a
 have hy := lowN_lt 32 b
 obtain ⟨x, hxe⟩ : ∃ x, x = lowN 32 a := ⟨_, rfl⟩
 obtain ⟨y, hye⟩ : ∃ y, y = lowN 32 b := ⟨_, rfl⟩
 rw [<- hxe] at hX hx
 rw [<- hye] at hY hy
 have HX := Lib.hid hxe
 have HY := Lib.hid hye
 clear hxe hye
 have HX' := Lib.hid hx
 have HY' := Lib.hid hy
 clear hx hy
 go_wp2_with fail
 refine (joined32_and b1 b2 32 x y rfl HX'.out HY'.out _ hX hY).mono ?_
 rintro e w4 ⟨q, oq, cq, rfl, hq, hB4⟩
 have hb4 := hB02.trans (hB4.mono hs2)
 clear hB4
 go_wp2_with fail
 refine (rnumber_of q oq 32 cq _ (by decide) _ hq).mono ?_
 rintro e w5 ⟨rfl, rfl⟩
 have hval : (x &&& y) = R := by rw [HR.out, <- HX.out, <- HY.out]; rfl
 rw [hval]
 clear hval
 go_wp2
 go_ret2
 exact ⟨rfl, hb4⟩
def val32_xor (x y : Nat) : Nat := x ^^^ y
theorem refAlu32_xor (a b : Int) (w : World) :
 Calls Tryz.prog 13 #[.int .i64 10, .bool true, .int .i64 a, .int .i64 b] w fun e w' =>
  e = .returned (.tuple #[.int .i64 (wrap64 ((val32_xor (lowN 32 a) (lowN 32 b) % 2 ^ 32 : Nat) : Int)), .int .i64 0]) /\ Below w.heap.size w w' := by
 obtain ⟨R, hR⟩ : ∃ R, R = val32_xor (lowN 32 a) (lowN 32 b) := ⟨_, rfl⟩
 have HR := Lib.hid hR
 rw [<- hR]
 clear hR
 go_enter Tryz.func13, Tryz.ntmps13
 go_wp2_with fail
 refine (width_narrow _).mono ?_
 rintro e w0 ⟨rfl, rfl⟩
 go_wp2_with fail
 refine (row_any a 32 32 rfl (by decide) _).mono ?_
 rintro e w1 ⟨b1, rfl, hb1, hR1, hB1⟩
 go_wp2_with fail
 refine (width_narrow _).mono ?_
 rintro e w1' ⟨rfl, rfl⟩
 go_wp2_with fail
 refine (row_any b 32 32 rfl (by decide) _).mono ?_
 rintro e w2 ⟨b2, rfl, hb2, hR2, hB2⟩
 have hX := Bits.row (row_low (hR1.below hB2 hR1.lt))
 have hY := Bits.row (row_low hR2)
 have hs1 := hB1.size
 have hB02 := hB1.trans (hB2.mono hs1)
 have hs2 := hB02.size
 have hx := lowN_lt 32 a
 have hy := lowN_lt 32 b
 obtain ⟨x, hxe⟩ : ∃ x, x = lowN 32 a := ⟨_, rfl⟩
 obtain ⟨y, hye⟩ : ∃ y, y = lowN 32 b := ⟨_, rfl⟩
 rw [<- hxe] at hX hx
 rw [<- hye] at hY hy
 have HX := Lib.hid hxe
 have HY := Lib.hid hye
 clear hxe hye
 have HX' := Lib.hid hx
 have HY' := Lib.hid hy
 clear hx hy
 go_wp2_with fail
 refine (joined32_xor b1 b2 32 x y rfl HX'.out HY'.out _ hX hY).mono ?_
 rintro e w4 ⟨q, oq, cq, rfl, hq, hB4⟩
 have hb4 := hB02.trans (hB4.mono hs2)
 clear hB4
 go_wp2_with fail
 refine (rnumber_of q oq 32 cq _ (by decide) _ hq).mono ?_
 rintro e w5 ⟨rfl, rfl⟩
 have hval : (x ^^^ y) = R := by rw [HR.out, <- HX.out, <- HY.out]; rfl
 rw [hval]
 clear hval
 go_wp2
 go_ret2
 exact ⟨rfl, hb4⟩
def val32_lsh (x y : Nat) : Nat := x * 2 ^ (y % 2 ^ 5)
theorem refAlu32_lsh (a b : Int) (w : World) :
 Calls Tryz.prog 13 #[.int .i64 11, .bool true, .int .i64 a, .int .i64 b] w fun e w' =>
  e = .returned (.tuple #[.int .i64 (wrap64 ((val32_lsh (lowN 32 a) (lowN 32 b) % 2 ^ 32 : Nat) : Int)), .int .i64 0]) /\ Below w.heap.size w w' := by
 obtain ⟨R, hR⟩ : ∃ R, R = val32_lsh (lowN 32 a) (lowN 32 b) := ⟨_, rfl⟩
 have HR := Lib.hid hR
 rw [<- hR]
 clear hR
 go_enter Tryz.func13, Tryz.ntmps13
 go_wp2_with fail
 refine (width_narrow _).mono ?_
 rintro e w0 ⟨rfl, rfl⟩
 go_wp2_with fail
 refine (row_any a 32 32 rfl (by decide) _).mono ?_
 rintro e w1 ⟨b1, rfl, hb1, hR1, hB1⟩
 go_wp2_with fail
 refine (width_narrow _).mono ?_
 rintro e w1' ⟨rfl, rfl⟩
 go_wp2_with fail
 refine (row_any b 32 32 rfl (by decide) _).mono ?_
 rintro e w2 ⟨b2, rfl, hb2, hR2, hB2⟩
 have hX := Bits.row (row_low (hR1.below hB2 hR1.lt))
 have hY := Bits.row (row_low hR2)
 have hs1 := hB1.size
 have hB02 := hB1.trans (hB2.mono hs1)
 have hs2 := hB02.size
 have hx := lowN_lt 32 a
 have hy := lowN_lt 32 b
 obtain ⟨x, hxe⟩ : ∃ x, x = lowN 32 a := ⟨_, rfl⟩
 obtain ⟨y, hye⟩ : ∃ y, y = lowN 32 b := ⟨_, rfl⟩
 rw [<- hxe] at hX hx
 rw [<- hye] at hY hy
 have HX := Lib.hid hxe
 have HY := Lib.hid hye
 clear hxe hye
 have HX' := Lib.hid hx
 have HY' := Lib.hid hy
 clear hx hy
 go_wp2_with fail
 refine (joined32_lsh b1 b2 32 x y rfl HX'.out HY'.out _ hX hY).mono ?_
 rintro e w4 ⟨q, oq, cq, rfl, hq, hB4⟩
 have hb4 := hB02.trans (hB4.mono hs2)
 clear hB4
 go_wp2_with fail
 refine (rnumber_of q oq 32 cq _ (by decide) _ hq).mono ?_
 rintro e w5 ⟨rfl, rfl⟩
 have hval : (x * 2 ^ (y % 2 ^ 5)) = R := by rw [HR.out, <- HX.out, <- HY.out]; rfl
 rw [hval]
 clear hval
 go_wp2
 go_ret2
 exact ⟨rfl, hb4⟩
def val32_rsh (x y : Nat) : Nat := downVal x 32 (y % 2 ^ 5) false
theorem refAlu32_rsh (a b : Int) (w : World) :
 Calls Tryz.prog 13 #[.int .i64 12, .bool true, .int .i64 a, .int .i64 b] w fun e w' =>
  e = .returned (.tuple #[.int .i64 (wrap64 ((val32_rsh (lowN 32 a) (lowN 32 b) % 2 ^ 32 : Nat) : Int)), .int .i64 0]) /\ Below w.heap.size w w' := by
 obtain ⟨R, hR⟩ : ∃ R, R = val32_rsh (lowN 32 a) (lowN 32 b) := ⟨_, rfl⟩
 have HR := Lib.hid hR
 rw [<- hR]
 clear hR
 go_enter Tryz.func13, Tryz.ntmps13
 go_wp2_with fail
 refine (width_narrow _).mono ?_
 rintro e w0 ⟨rfl, rfl⟩
 go_wp2_with fail
 refine (row_any a 32 32 rfl (by decide) _).mono ?_
 rintro e w1 ⟨b1, rfl, hb1, hR1, hB1⟩
 go_wp2_with fail
 refine (width_narrow _).mono ?_
 rintro e w1' ⟨rfl, rfl⟩
 go_wp2_with fail
 refine (row_any b 32 32 rfl (by decide) _).mono ?_
 rintro e w2 ⟨b2, rfl, hb2, hR2, hB2⟩
 have hX := Bits.row (row_low (hR1.below hB2 hR1.lt))
 have hY := Bits.row (row_low hR2)
 have hs1 := hB1.size
 have hB02 := hB1.trans (hB2.mono hs1)
 have hs2 := hB02.size
 have hx := lowN_lt 32 a
 have hy := lowN_lt 32 b
 obtain ⟨x, hxe⟩ : ∃ x, x = lowN 32 a := ⟨_, rfl⟩
 obtain ⟨y, hye⟩ : ∃ y, y = lowN 32 b := ⟨_, rfl⟩
 rw [<- hxe] at hX hx
 rw [<- hye] at hY hy
 have HX := Lib.hid hxe
 have HY := Lib.hid hye
 clear hxe hye
 have HX' := Lib.hid hx
 have HY' := Lib.hid hy
 clear hx hy
 go_wp2_with fail
 refine (joined32_rsh b1 b2 32 x y rfl HX'.out HY'.out _ hX hY).mono ?_
 rintro e w4 ⟨q, oq, cq, rfl, hq, hB4⟩
 have hb4 := hB02.trans (hB4.mono hs2)
 clear hB4
 go_wp2_with fail
 refine (rnumber_of q oq 32 cq _ (by decide) _ hq).mono ?_
 rintro e w5 ⟨rfl, rfl⟩
 have hval : (downVal x 32 (y % 2 ^ 5) false) = R := by rw [HR.out, <- HX.out, <- HY.out]; rfl
 rw [hval]
 clear hval
 go_wp2
 go_ret2
 exact ⟨rfl, hb4⟩
def val32_arsh (x y : Nat) : Nat := downVal x 32 (y % 2 ^ 5) (bit x (32 - 1) == 1)
theorem refAlu32_arsh (a b : Int) (w : World) :
 Calls Tryz.prog 13 #[.int .i64 13, .bool true, .int .i64 a, .int .i64 b] w fun e w' =>
  e = .returned (.tuple #[.int .i64 (wrap64 ((val32_arsh (lowN 32 a) (lowN 32 b) % 2 ^ 32 : Nat) : Int)), .int .i64 0]) /\ Below w.heap.size w w' := by
 obtain ⟨R, hR⟩ : ∃ R, R = val32_arsh (lowN 32 a) (lowN 32 b) := ⟨_, rfl⟩
 have HR := Lib.hid hR
 rw [<- hR]
 clear hR
 go_enter Tryz.func13, Tryz.ntmps13
 go_wp2_with fail
 refine (width_narrow _).mono ?_
 rintro e w0 ⟨rfl, rfl⟩
 go_wp2_with fail
 refine (row_any a 32 32 rfl (by decide) _).mono ?_
 rintro e w1 ⟨b1, rfl, hb1, hR1, hB1⟩
 go_wp2_with fail
 refine (width_narrow _).mono ?_
 rintro e w1' ⟨rfl, rfl⟩
 go_wp2_with fail
 refine (row_any b 32 32 rfl (by decide) _).mono ?_
 rintro e w2 ⟨b2, rfl, hb2, hR2, hB2⟩
 have hX := Bits.row (row_low (hR1.below hB2 hR1.lt))
 have hY := Bits.row (row_low hR2)
 have hs1 := hB1.size
 have hB02 := hB1.trans (hB2.mono hs1)
 have hs2 := hB02.size
 have hx := lowN_lt 32 a
 have hy := lowN_lt 32 b
 obtain ⟨x, hxe⟩ : ∃ x, x = lowN 32 a := ⟨_, rfl⟩
 obtain ⟨y, hye⟩ : ∃ y, y = lowN 32 b := ⟨_, rfl⟩
 rw [<- hxe] at hX hx
 rw [<- hye] at hY hy
 have HX := Lib.hid hxe
 have HY := Lib.hid hye
 clear hxe hye
 have HX' := Lib.hid hx
 have HY' := Lib.hid hy
 clear hx hy
 go_wp2_with fail
 refine (joined32_arsh b1 b2 32 x y rfl HX'.out HY'.out _ hX hY).mono ?_
 rintro e w4 ⟨q, oq, cq, rfl, hq, hB4⟩
 have hb4 := hB02.trans (hB4.mono hs2)
 clear hB4
 go_wp2_with fail
 refine (rnumber_of q oq 32 cq _ (by decide) _ hq).mono ?_
 rintro e w5 ⟨rfl, rfl⟩
 have hval : (downVal x 32 (y % 2 ^ 5) (bit x (32 - 1) == 1)) = R := by rw [HR.out, <- HX.out, <- HY.out]; rfl
 rw [hval]
 clear hval
 go_wp2
 go_ret2
 exact ⟨rfl, hb4⟩
def val32_neg (x y : Nat) : Nat := 2 ^ 32 - x % 2 ^ 32
theorem refAlu32_neg (a b : Int) (w : World) :
 Calls Tryz.prog 13 #[.int .i64 14, .bool true, .int .i64 a, .int .i64 b] w fun e w' =>
  e = .returned (.tuple #[.int .i64 (wrap64 ((val32_neg (lowN 32 a) (lowN 32 b) % 2 ^ 32 : Nat) : Int)), .int .i64 0]) /\ Below w.heap.size w w' := by
 obtain ⟨R, hR⟩ : ∃ R, R = val32_neg (lowN 32 a) (lowN 32 b) := ⟨_, rfl⟩
 have HR := Lib.hid hR
 rw [<- hR]
 clear hR
 go_enter Tryz.func13, Tryz.ntmps13
 go_wp2_with fail
 refine (width_narrow _).mono ?_
 rintro e w0 ⟨rfl, rfl⟩
 go_wp2_with fail
 refine (row_any a 32 32 rfl (by decide) _).mono ?_
 rintro e w1 ⟨b1, rfl, hb1, hR1, hB1⟩
 go_wp2_with fail
 refine (width_narrow _).mono ?_
 rintro e w1' ⟨rfl, rfl⟩
 go_wp2_with fail
 refine (row_any b 32 32 rfl (by decide) _).mono ?_
 rintro e w2 ⟨b2, rfl, hb2, hR2, hB2⟩
 have hX := Bits.row (row_low (hR1.below hB2 hR1.lt))
 have hY := Bits.row (row_low hR2)
 have hs1 := hB1.size
 have hB02 := hB1.trans (hB2.mono hs1)
 have hs2 := hB02.size
 have hx := lowN_lt 32 a
 have hy := lowN_lt 32 b
 obtain ⟨x, hxe⟩ : ∃ x, x = lowN 32 a := ⟨_, rfl⟩
 obtain ⟨y, hye⟩ : ∃ y, y = lowN 32 b := ⟨_, rfl⟩
 rw [<- hxe] at hX hx
 rw [<- hye] at hY hy
 have HX := Lib.hid hxe
 have HY := Lib.hid hye
 clear hxe hye
 have HX' := Lib.hid hx
 have HY' := Lib.hid hy
 clear hx hy
 go_wp2_with fail
 refine (joined32_neg b1 b2 32 x y rfl HX'.out HY'.out _ hX hY).mono ?_
 rintro e w4 ⟨q, oq, cq, rfl, hq, hB4⟩
 have hb4 := hB02.trans (hB4.mono hs2)
 clear hB4
 go_wp2_with fail
 refine (rnumber_of q oq 32 cq _ (by decide) _ hq).mono ?_
 rintro e w5 ⟨rfl, rfl⟩
 have hval : (2 ^ 32 - x % 2 ^ 32) = R := by rw [HR.out, <- HX.out, <- HY.out]; rfl
 rw [hval]
 clear hval
 go_wp2
 go_ret2
 exact ⟨rfl, hb4⟩
def val32_mov (x y : Nat) : Nat := y
theorem refAlu32_mov (a b : Int) (w : World) :
 Calls Tryz.prog 13 #[.int .i64 15, .bool true, .int .i64 a, .int .i64 b] w fun e w' =>
  e = .returned (.tuple #[.int .i64 (wrap64 ((val32_mov (lowN 32 a) (lowN 32 b) % 2 ^ 32 : Nat) : Int)), .int .i64 0]) /\ Below w.heap.size w w' := by
 obtain ⟨R, hR⟩ : ∃ R, R = val32_mov (lowN 32 a) (lowN 32 b) := ⟨_, rfl⟩
 have HR := Lib.hid hR
 rw [<- hR]
 clear hR
 go_enter Tryz.func13, Tryz.ntmps13
 go_wp2_with fail
 refine (width_narrow _).mono ?_
 rintro e w0 ⟨rfl, rfl⟩
 go_wp2_with fail
 refine (row_any a 32 32 rfl (by decide) _).mono ?_
 rintro e w1 ⟨b1, rfl, hb1, hR1, hB1⟩
 go_wp2_with fail
 refine (width_narrow _).mono ?_
 rintro e w1' ⟨rfl, rfl⟩
 go_wp2_with fail
 refine (row_any b 32 32 rfl (by decide) _).mono ?_
 rintro e w2 ⟨b2, rfl, hb2, hR2, hB2⟩
 have hX := Bits.row (row_low (hR1.below hB2 hR1.lt))
 have hY := Bits.row (row_low hR2)
 have hs1 := hB1.size
 have hB02 := hB1.trans (hB2.mono hs1)
 have hs2 := hB02.size
 have hx := lowN_lt 32 a
 have hy := lowN_lt 32 b
 obtain ⟨x, hxe⟩ : ∃ x, x = lowN 32 a := ⟨_, rfl⟩
 obtain ⟨y, hye⟩ : ∃ y, y = lowN 32 b := ⟨_, rfl⟩
 rw [<- hxe] at hX hx
 rw [<- hye] at hY hy
 have HX := Lib.hid hxe
 have HY := Lib.hid hye
 clear hxe hye
 have HX' := Lib.hid hx
 have HY' := Lib.hid hy
 clear hx hy
 go_wp2_with fail
 refine (joined32_mov b1 b2 32 x y rfl HX'.out HY'.out _ hX hY).mono ?_
 rintro e w4 ⟨q, oq, cq, rfl, hq, hB4⟩
 have hb4 := hB02.trans (hB4.mono hs2)
 clear hB4
 go_wp2_with fail
 refine (rnumber_of q oq 32 cq _ (by decide) _ hq).mono ?_
 rintro e w5 ⟨rfl, rfl⟩
 have hval : (y) = R := by rw [HR.out, <- HX.out, <- HY.out]; rfl
 rw [hval]
 clear hval
 go_wp2
 go_ret2
 exact ⟨rfl, hb4⟩
end Go.Proofs.YtcmplcdbkoodpaaGreatDoor
