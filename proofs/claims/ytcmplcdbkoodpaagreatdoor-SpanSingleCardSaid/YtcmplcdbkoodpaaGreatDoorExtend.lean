/-
  Extend: the program's and the reference's.
-/
import Derived.Test.YtcmplcdbkoodpaaGreatDoorRfAl
import Derived.Test.YtcmplcdbkoodpaaGreatDoorWoAB
namespace Go.Proofs.YtcmplcdbkoodpaaGreatDoor
open Go.RowKit
set_option linter.unusedVariables false

/-- A call of one number's answer; below the heap's old size nothing has turned. -/
def Tells (f : FuncId) (args : Array Value) (v : Int) : Prop :=
  ∀ w : World, Calls Tryz.prog f args w fun e w' => e = .returned (.int .i64 v) ∧ Below w.heap.size w w'
theorem Tells.same {f : FuncId} {args : Array Value} {v : Int} (h : ∀ w : World, Calls Tryz.prog f args w fun e w' => e = .returned (.int .i64 v) ∧ w = w') : Tells f args v :=
  fun w => (h w).mono fun e w' ⟨he, hw⟩ => ⟨he, by rw [← hw]; exact Below.refl _ _⟩

/-- The low k bits of a, the highest of them as their sign. -/
def ext (k : Nat) (a : Int) : Int := sgn k (lowN k a)

theorem ext8 (a : Int) : wrap64 (IntKind.i8.wrap a) = ext 8 a := by
  have h := un_cast a
  have hl := un_lt a
  have e : ((lowN 8 a : Nat) : Int) = a % 256 := by unfold lowN; omega
  unfold ext sgn
  have e1 : (2 : Nat) ^ (8 - 1) = 128 := rfl
  have e2 : (2 : Int) ^ 8 = 256 := rfl
  rw [e1, e2]
  have hw : IntKind.i8.wrap a = if a % 256 ≥ 128 then a % 256 - 256 else a % 256 := by
    simp [IntKind.wrap, IntKind.bits, IntKind.signed]
  rw [hw, IntWalk.wrap64_in _ (by split <;> omega)]
  split <;> split <;> omega
theorem ext16 (a : Int) : wrap64 (IntKind.i16.wrap a) = ext 16 a := by
  have h := un_cast a
  have hl := un_lt a
  have e : ((lowN 16 a : Nat) : Int) = a % 65536 := by unfold lowN; omega
  unfold ext sgn
  have e1 : (2 : Nat) ^ (16 - 1) = 32768 := rfl
  have e2 : (2 : Int) ^ 16 = 65536 := rfl
  rw [e1, e2]
  have hw : IntKind.i16.wrap a = if a % 65536 ≥ 32768 then a % 65536 - 65536 else a % 65536 := by
    simp [IntKind.wrap, IntKind.bits, IntKind.signed]
  rw [hw, IntWalk.wrap64_in _ (by split <;> omega)]
  split <;> split <;> omega
theorem ext32 (a : Int) : wrap64 (wrap32 a) = ext 32 a := by
  have h := un_cast a
  have hl := un_lt a
  have e : ((lowN 32 a : Nat) : Int) = a % 4294967296 := by unfold lowN; omega
  unfold ext sgn
  have e1 : (2 : Nat) ^ (32 - 1) = 2147483648 := rfl
  have e2 : (2 : Int) ^ 32 = 4294967296 := rfl
  rw [e1, e2]
  have hr : -2147483648 ≤ wrap32 a ∧ wrap32 a ≤ 2147483647 := by unfold wrap32; omega
  rw [IntWalk.wrap64_in _ (by omega)]
  unfold wrap32
  split <;> omega
theorem ext_range (k : Nat) (a : Int) (hk : 0 < k ∧ k ≤ 32) : -2147483648 ≤ ext k a ∧ ext k a ≤ 2147483647 := by
  have hl := lowN_lt k a
  have hp : 2 ^ k = 2 * 2 ^ (k - 1) := by rw [← Nat.pow_succ']; congr 1; omega
  have hle : 2 ^ (k - 1) ≤ 2 ^ 31 := Nat.pow_le_pow_right (by decide) (by omega)
  have hpi : (2 : Int) ^ k = ((2 ^ k : Nat) : Int) := by simp
  unfold ext sgn
  rw [hpi]
  split <;> omega

/-! ### The program's -/
theorem extend_none (k : Int) (nar : Bool) (a : Int) (h8 : k ≠ 8) (h16 : k ≠ 16) (h32 : k ≠ 32) (w : World) :
    Calls Tryz.prog 56 #[.int .i64 k, .bool nar, .int .i64 a] w fun e w' => e = .returned (.int .i64 0) ∧ w = w' := by
  have t8 : (k == 8) = false := by simpa using h8
  have t16 : (k == 16) = false := by simpa using h16
  have t32 : (k == 32) = false := by simpa using h32
  clear h8 h16 h32
  cases nar
  all_goals
    go_enter Tryz.func56, Tryz.ntmps56
    go_wp2
    go_ret
    exact ⟨rfl, rfl⟩
theorem extend_wide8 (a : Int) (w : World) : Calls Tryz.prog 56 #[.int .i64 8, .bool false, .int .i64 a] w fun e w' => e = .returned (.int .i64 (ext 8 a)) ∧ w = w' := by
  go_enter Tryz.func56, Tryz.ntmps56
  go_wp2
  go_ret
  exact ⟨ret_int (ext8 a), rfl⟩
theorem extend_wide16 (a : Int) (w : World) : Calls Tryz.prog 56 #[.int .i64 16, .bool false, .int .i64 a] w fun e w' => e = .returned (.int .i64 (ext 16 a)) ∧ w = w' := by
  go_enter Tryz.func56, Tryz.ntmps56
  go_wp2
  go_ret
  exact ⟨ret_int (ext16 a), rfl⟩
theorem extend_wide32 (a : Int) (w : World) : Calls Tryz.prog 56 #[.int .i64 32, .bool false, .int .i64 a] w fun e w' => e = .returned (.int .i64 (ext 32 a)) ∧ w = w' := by
  go_enter Tryz.func56, Tryz.ntmps56
  go_wp2
  go_ret
  exact ⟨ret_int (ext32 a), rfl⟩
theorem extend_nar8 (a : Int) (w : World) : Calls Tryz.prog 56 #[.int .i64 8, .bool true, .int .i64 a] w fun e w' => e = .returned (.int .i64 (ext 8 a % 4294967296)) ∧ w = w' := by
  go_enter Tryz.func56, Tryz.ntmps56
  go_wp2
  go_ret
  exact ⟨ret_int (by rw [ext8]), rfl⟩
theorem extend_nar16 (a : Int) (w : World) : Calls Tryz.prog 56 #[.int .i64 16, .bool true, .int .i64 a] w fun e w' => e = .returned (.int .i64 (ext 16 a % 4294967296)) ∧ w = w' := by
  go_enter Tryz.func56, Tryz.ntmps56
  go_wp2
  go_ret
  exact ⟨ret_int (by rw [ext16]), rfl⟩
theorem extend_nar32 (a : Int) (w : World) : Calls Tryz.prog 56 #[.int .i64 32, .bool true, .int .i64 a] w fun e w' => e = .returned (.int .i64 0) ∧ w = w' := by
  go_enter Tryz.func56, Tryz.ntmps56
  go_wp2
  go_ret
  exact ⟨rfl, rfl⟩

/-! ### The reference's -/
theorem number_nat (b off n cap x : Nat) (hn : n ≤ 62) (w : World) (hb : Bits w b off n x) (hx : x < 2 ^ n) :
    Calls Tryz.prog 43 #[.slice (some ⟨b, off, none⟩) n cap] w fun e w' => e = .returned (.int .i64 (x : Int)) ∧ w = w' :=
  number_small b off n cap x x rfl hn hx w hb

set_option maxHeartbeats 800000 in
theorem signed_any (b off n cap x : Nat) (hn : 8 ≤ n ∧ n ≤ 32) (hx : x < 2 ^ n) (w : World) (hb : Bits w b off n x) :
    Calls Tryz.prog 47 #[.slice (some ⟨b, off, none⟩) n cap] w fun e w' => e = .returned (.int .i64 (sgn n x)) ∧ ∃ k, w' = w.drewN k := by
  have h64 : ((n : Int) == 64) = false := by rw [beq_eq_false_iff_ne]; omega
  have h0 : ((n : Int) == 0) = false := by rw [beq_eq_false_iff_ne]; omega
  have e1 := hb.2 (n - 1) (by omega)
  have ei : ((n : Int) - 1).toNat = n - 1 := by omega
  have hp : 2 ^ n = 2 * 2 ^ (n - 1) := by rw [← Nat.pow_succ']; congr 1; omega
  have hp1 : (2 : Int) ^ n = ((2 ^ n : Nat) : Int) := by simp
  have hpl : 2 ^ n ≤ 2 ^ 32 := Nat.pow_le_pow_right (by decide) hn.2
  have hn1 : 8 ≤ n := hn.1
  have hn2 : n ≤ 32 := hn.2
  clear hn
  by_cases hs : x < 2 ^ (n - 1)
  · have hbit : bit x (n - 1) = 0 := by unfold bit; rw [Nat.div_eq_of_lt hs]; rfl
    rw [hbit] at e1
    have HS := Lib.hid (show sgn n x = (x : Int) by unfold sgn; rw [if_pos hs])
    have HX := Lib.hid hx
    clear hbit hs hp hp1 hpl hx
    go_enter Tryz.func47, Tryz.ntmps47
    go_wp2_with fail
    refine (number_nat b off n cap x (by omega) _ hb HX.out).mono ?_
    rintro e w1 ⟨rfl, rfl⟩
    go_wp2
    go_ret
    exact ⟨ret_int HS.out.symm, 0, rfl⟩
  · have hbit : bit x (n - 1) = 1 := by
      have hd : x / 2 ^ (n - 1) = 1 := by
        have h1 : x / 2 ^ (n - 1) < 2 := Nat.div_lt_of_lt_mul (by omega)
        have h2 : 1 ≤ x / 2 ^ (n - 1) := (Nat.one_le_div_iff (Nat.two_pow_pos _)).2 (by omega)
        omega
      unfold bit; rw [hd]; rfl
    rw [hbit] at e1
    have HS := Lib.hid (show sgn n x = (x : Int) - 2 ^ n by unfold sgn; rw [if_neg hs])
    have HX := Lib.hid hx
    have hx2 : x < 4294967296 := by omega
    have hpi : (2 : Int) ^ n ≤ 4294967296 := by rw [hp1]; omega
    have hpi0 : (0 : Int) < 2 ^ n := Int.pow_pos (by decide)
    have hbq : ∀ k, Bits (w.drewN k) b off n x := fun k => hb
    clear hbit hs hp hp1 hpl hx
    go_enter Tryz.func47, Tryz.ntmps47
    go_wp2
    go_quiet ((go_at_call 43; exact Calls.quiet_of_same ((number_nat b off n cap x (by omega) _ (hbq _) HX.out).mono fun e w' ⟨he, hw⟩ => ⟨he, hw.symm⟩)))
    go_wp2
    go_ret
    exact ⟨ret_int HS.out.symm, nq, rfl⟩

theorem refExtend_none (k : Int) (nar : Bool) (a : Int) (h8 : k ≠ 8) (h16 : k ≠ 16) (h32 : k ≠ 32 ∨ nar = true) (w : World) :
    Calls Tryz.prog 28 #[.int .i64 k, .bool nar, .int .i64 a] w fun e w' => e = .returned (.int .i64 0) ∧ w = w' := by
  have t8 : (k != 8) = true := by rw [bne_iff_ne]; exact h8
  have t16 : (k != 16) = true := by rw [bne_iff_ne]; exact h16
  by_cases hk : k = 32
  · have hn : nar = true := h32.resolve_left (fun h => h hk)
    subst hn hk
    clear h8 h16 h32
    go_enter Tryz.func28, Tryz.ntmps28
    go_wp2
    go_ret
    exact ⟨rfl, rfl⟩
  · have t32 : (k != 32) = true := by rw [bne_iff_ne]; exact hk
    clear h8 h16 h32 hk
    cases nar
    all_goals
      go_enter Tryz.func28, Tryz.ntmps28
      go_wp2
      go_ret
      exact ⟨rfl, rfl⟩

set_option maxHeartbeats 800000 in
theorem refExtend_wide8 (a : Int) (w : World) : Calls Tryz.prog 28 #[.int .i64 8, .bool false, .int .i64 a] w fun e w' => e = .returned (.int .i64 (ext 8 a)) ∧ Below w.heap.size w w' := by
  have hr := ext_range 8 a (by decide)
  obtain ⟨v, hv⟩ : ∃ v, v = ext 8 a := ⟨_, rfl⟩
  have HV := Lib.hid (show sgn 8 (lowN 8 a) = v from hv.symm)
  rw [← hv] at hr ⊢
  clear hv
  have HL := Lib.hid (lowN_lt 8 a)
  have HN := Lib.hid (show wrap64 ((un v % 2 ^ 64 : Nat) : Int) = v by rw [Nat.mod_eq_of_lt (un_lt v)]; exact wrap64_un (by omega) (by omega))
  go_enter Tryz.func28, Tryz.ntmps28
  go_wp2_with fail
  refine (row_any a 8 8 rfl (by decide) _).mono ?_
  rintro e w1 ⟨b1, rfl, hb1, hR1, hB1⟩
  go_wp2_with fail
  refine (signed_any b1 0 8 8 (lowN 8 a) (by decide) HL.out _ (Bits.row (row_low hR1))).mono ?_
  rintro e w2 ⟨rfl, k2, rfl⟩
  rw [HV.out]
  have hs := hB1.size
  go_wp2_with fail
  refine (width_wide _).mono ?_
  rintro e w3 ⟨rfl, rfl⟩
  go_wp2_with fail
  refine (row_any v 64 64 rfl (by decide) _).mono ?_
  rintro e w4 ⟨b4, rfl, hb4, hR4, hB4⟩
  have hB04 := (below_drewN hB1 k2).trans (hB4.mono hs)
  go_wp2_with fail
  refine (rnumber_of b4 0 64 64 (un v) (by decide) _ (Bits.row hR4)).mono ?_
  rintro e w5 ⟨rfl, rfl⟩
  rw [HN.out]
  clear hB1 hB4 hR1 hR4
  go_wp2
  go_ret
  exact ⟨rfl, hB04⟩

set_option maxHeartbeats 800000 in
theorem refExtend_wide16 (a : Int) (w : World) : Calls Tryz.prog 28 #[.int .i64 16, .bool false, .int .i64 a] w fun e w' => e = .returned (.int .i64 (ext 16 a)) ∧ Below w.heap.size w w' := by
  have hr := ext_range 16 a (by decide)
  obtain ⟨v, hv⟩ : ∃ v, v = ext 16 a := ⟨_, rfl⟩
  have HV := Lib.hid (show sgn 16 (lowN 16 a) = v from hv.symm)
  rw [← hv] at hr ⊢
  clear hv
  have HL := Lib.hid (lowN_lt 16 a)
  have HN := Lib.hid (show wrap64 ((un v % 2 ^ 64 : Nat) : Int) = v by rw [Nat.mod_eq_of_lt (un_lt v)]; exact wrap64_un (by omega) (by omega))
  go_enter Tryz.func28, Tryz.ntmps28
  go_wp2_with fail
  refine (row_any a 16 16 rfl (by decide) _).mono ?_
  rintro e w1 ⟨b1, rfl, hb1, hR1, hB1⟩
  go_wp2_with fail
  refine (signed_any b1 0 16 16 (lowN 16 a) (by decide) HL.out _ (Bits.row (row_low hR1))).mono ?_
  rintro e w2 ⟨rfl, k2, rfl⟩
  rw [HV.out]
  have hs := hB1.size
  go_wp2_with fail
  refine (width_wide _).mono ?_
  rintro e w3 ⟨rfl, rfl⟩
  go_wp2_with fail
  refine (row_any v 64 64 rfl (by decide) _).mono ?_
  rintro e w4 ⟨b4, rfl, hb4, hR4, hB4⟩
  have hB04 := (below_drewN hB1 k2).trans (hB4.mono hs)
  go_wp2_with fail
  refine (rnumber_of b4 0 64 64 (un v) (by decide) _ (Bits.row hR4)).mono ?_
  rintro e w5 ⟨rfl, rfl⟩
  rw [HN.out]
  clear hB1 hB4 hR1 hR4
  go_wp2
  go_ret
  exact ⟨rfl, hB04⟩

set_option maxHeartbeats 800000 in
theorem refExtend_wide32 (a : Int) (w : World) : Calls Tryz.prog 28 #[.int .i64 32, .bool false, .int .i64 a] w fun e w' => e = .returned (.int .i64 (ext 32 a)) ∧ Below w.heap.size w w' := by
  have hr := ext_range 32 a (by decide)
  obtain ⟨v, hv⟩ : ∃ v, v = ext 32 a := ⟨_, rfl⟩
  have HV := Lib.hid (show sgn 32 (lowN 32 a) = v from hv.symm)
  rw [← hv] at hr ⊢
  clear hv
  have HL := Lib.hid (lowN_lt 32 a)
  have HN := Lib.hid (show wrap64 ((un v % 2 ^ 64 : Nat) : Int) = v by rw [Nat.mod_eq_of_lt (un_lt v)]; exact wrap64_un (by omega) (by omega))
  go_enter Tryz.func28, Tryz.ntmps28
  go_wp2_with fail
  refine (row_any a 32 32 rfl (by decide) _).mono ?_
  rintro e w1 ⟨b1, rfl, hb1, hR1, hB1⟩
  go_wp2_with fail
  refine (signed_any b1 0 32 32 (lowN 32 a) (by decide) HL.out _ (Bits.row (row_low hR1))).mono ?_
  rintro e w2 ⟨rfl, k2, rfl⟩
  rw [HV.out]
  have hs := hB1.size
  go_wp2_with fail
  refine (width_wide _).mono ?_
  rintro e w3 ⟨rfl, rfl⟩
  go_wp2_with fail
  refine (row_any v 64 64 rfl (by decide) _).mono ?_
  rintro e w4 ⟨b4, rfl, hb4, hR4, hB4⟩
  have hB04 := (below_drewN hB1 k2).trans (hB4.mono hs)
  go_wp2_with fail
  refine (rnumber_of b4 0 64 64 (un v) (by decide) _ (Bits.row hR4)).mono ?_
  rintro e w5 ⟨rfl, rfl⟩
  rw [HN.out]
  clear hB1 hB4 hR1 hR4
  go_wp2
  go_ret
  exact ⟨rfl, hB04⟩

set_option maxHeartbeats 800000 in
theorem refExtend_nar8 (a : Int) (w : World) : Calls Tryz.prog 28 #[.int .i64 8, .bool true, .int .i64 a] w fun e w' => e = .returned (.int .i64 (ext 8 a % 4294967296)) ∧ Below w.heap.size w w' := by
  obtain ⟨v, hv⟩ : ∃ v, v = ext 8 a := ⟨_, rfl⟩
  have HV := Lib.hid (show sgn 8 (lowN 8 a) = v from hv.symm)
  rw [← hv]
  clear hv
  have HL := Lib.hid (lowN_lt 8 a)
  have HN := Lib.hid (show wrap64 ((un v % 2 ^ 32 : Nat) : Int) = v % 4294967296 by
    have hu := un_cast v
    have hl := un_lt v
    rw [IntWalk.wrap64_in _ (by omega)]; omega)
  go_enter Tryz.func28, Tryz.ntmps28
  go_wp2_with fail
  refine (row_any a 8 8 rfl (by decide) _).mono ?_
  rintro e w1 ⟨b1, rfl, hb1, hR1, hB1⟩
  go_wp2_with fail
  refine (signed_any b1 0 8 8 (lowN 8 a) (by decide) HL.out _ (Bits.row (row_low hR1))).mono ?_
  rintro e w2 ⟨rfl, k2, rfl⟩
  rw [HV.out]
  have hs := hB1.size
  go_wp2_with fail
  refine (width_narrow _).mono ?_
  rintro e w3 ⟨rfl, rfl⟩
  go_wp2_with fail
  refine (row_any v 32 32 rfl (by decide) _).mono ?_
  rintro e w4 ⟨b4, rfl, hb4, hR4, hB4⟩
  have hB04 := (below_drewN hB1 k2).trans (hB4.mono hs)
  go_wp2_with fail
  refine (rnumber_of b4 0 32 32 (un v) (by decide) _ (Bits.row hR4)).mono ?_
  rintro e w5 ⟨rfl, rfl⟩
  rw [HN.out]
  clear hB1 hB4 hR1 hR4
  go_wp2
  go_ret
  exact ⟨rfl, hB04⟩

set_option maxHeartbeats 800000 in
theorem refExtend_nar16 (a : Int) (w : World) : Calls Tryz.prog 28 #[.int .i64 16, .bool true, .int .i64 a] w fun e w' => e = .returned (.int .i64 (ext 16 a % 4294967296)) ∧ Below w.heap.size w w' := by
  obtain ⟨v, hv⟩ : ∃ v, v = ext 16 a := ⟨_, rfl⟩
  have HV := Lib.hid (show sgn 16 (lowN 16 a) = v from hv.symm)
  rw [← hv]
  clear hv
  have HL := Lib.hid (lowN_lt 16 a)
  have HN := Lib.hid (show wrap64 ((un v % 2 ^ 32 : Nat) : Int) = v % 4294967296 by
    have hu := un_cast v
    have hl := un_lt v
    rw [IntWalk.wrap64_in _ (by omega)]; omega)
  go_enter Tryz.func28, Tryz.ntmps28
  go_wp2_with fail
  refine (row_any a 16 16 rfl (by decide) _).mono ?_
  rintro e w1 ⟨b1, rfl, hb1, hR1, hB1⟩
  go_wp2_with fail
  refine (signed_any b1 0 16 16 (lowN 16 a) (by decide) HL.out _ (Bits.row (row_low hR1))).mono ?_
  rintro e w2 ⟨rfl, k2, rfl⟩
  rw [HV.out]
  have hs := hB1.size
  go_wp2_with fail
  refine (width_narrow _).mono ?_
  rintro e w3 ⟨rfl, rfl⟩
  go_wp2_with fail
  refine (row_any v 32 32 rfl (by decide) _).mono ?_
  rintro e w4 ⟨b4, rfl, hb4, hR4, hB4⟩
  have hB04 := (below_drewN hB1 k2).trans (hB4.mono hs)
  go_wp2_with fail
  refine (rnumber_of b4 0 32 32 (un v) (by decide) _ (Bits.row hR4)).mono ?_
  rintro e w5 ⟨rfl, rfl⟩
  rw [HN.out]
  clear hB1 hB4 hR1 hR4
  go_wp2
  go_ret
  exact ⟨rfl, hB04⟩

/-- Both answer the same. -/
theorem extend_both (k : Int) (nar : Bool) (a : Int) : ∃ v, Tells 56 #[.int .i64 k, .bool nar, .int .i64 a] v ∧ Tells 28 #[.int .i64 k, .bool nar, .int .i64 a] v := by
  by_cases h8 : k = 8
  · subst h8
    cases nar
    · exact ⟨_, Tells.same (extend_wide8 a), refExtend_wide8 a⟩
    · exact ⟨_, Tells.same (extend_nar8 a), refExtend_nar8 a⟩
  by_cases h16 : k = 16
  · subst h16
    cases nar
    · exact ⟨_, Tells.same (extend_wide16 a), refExtend_wide16 a⟩
    · exact ⟨_, Tells.same (extend_nar16 a), refExtend_nar16 a⟩
  by_cases h32 : k = 32
  · subst h32
    cases nar
    · exact ⟨_, Tells.same (extend_wide32 a), refExtend_wide32 a⟩
    · exact ⟨_, Tells.same (extend_nar32 a), Tells.same (refExtend_none 32 true a (by decide) (by decide) (.inr rfl))⟩
  · exact ⟨_, Tells.same (extend_none k nar a h8 h16 h32), Tells.same (refExtend_none k nar a h8 h16 (.inl h32))⟩
end Go.Proofs.YtcmplcdbkoodpaaGreatDoor
