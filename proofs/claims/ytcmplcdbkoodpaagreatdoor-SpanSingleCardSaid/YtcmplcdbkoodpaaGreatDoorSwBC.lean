import Derived.Test.YtcmplcdbkoodpaaGreatDoorReSw
import Derived.Test.YtcmplcdbkoodpaaGreatDoorRefAE
import Derived.Test.YtcmplcdbkoodpaaGreatDoorExtend
set_option maxHeartbeats 1600000
namespace Go.Proofs.YtcmplcdbkoodpaaGreatDoor
open Go.RowKit
set_option linter.unusedVariables false
set_option maxRecDepth 100000
theorem rev_bit (k : Nat) : ∀ x t, t < 8 * k -> bit (rev k x) t = bit x (8 * (k - 1 - t / 8) + t % 8) := by
 induction k with
 | zero => intro x t h; omega
 | succ k ih =>
   intro x t h
   have hl := rev_lt k (x / 256)
   have e : (256 : Nat) ^ k = 2 ^ (8 * k) := by rw [Nat.pow_mul]
   rw [e] at hl
   show bit (x % 256 * 256 ^ k + rev k (x / 256)) t = _
   rw [e]
   by_cases ht : t < 8 * k
   ·have e2 : (x % 256 * 2 ^ (8 * k) + rev k (x / 256)) % 2 ^ (8 * k) = rev k (x / 256) := by
     rw [Nat.mul_comm, Nat.mul_add_mod, Nat.mod_eq_of_lt hl]
    rw [<- bit_mod ht, e2, ih _ _ ht]
    have e3 : 8 * (k + 1 - 1 - t / 8) + t % 8 = 8 + (8 * (k - 1 - t / 8) + t % 8) := by omega
    rw [e3]
    unfold bit
    rw [Nat.pow_add 2 8, <- Nat.div_div_eq_div_mul x (2 ^ 8)]
   ·have e3 : 8 * (k + 1 - 1 - t / 8) + t % 8 = t - 8 * k := by omega
    rw [e3]
    obtain ⟨r, rfl⟩ : ∃ r, t = 8 * k + r := ⟨t - 8 * k, by omega⟩
    have e4 : 8 * k + r - 8 * k = r := by omega
    rw [e4]
    unfold bit
    rw [Nat.pow_add, <- Nat.div_div_eq_div_mul]
    have e5 : (x % 256 * 2 ^ (8 * k) + rev k (x / 256)) / 2 ^ (8 * k) = x % 256 := by
     rw [Nat.mul_comm, Nat.mul_add_div (Nat.two_pow_pos _), Nat.div_eq_of_lt hl, Nat.add_zero]
    rw [e5]
    have h8 := bit_mod (x := x) (n := 8) (i := r) (by omega)
    unfold bit at h8
    exact h8
theorem itab_app (n m : Nat) (g : Nat -> Int) (h : Nat -> Int) (e : ∀ r, r < m -> h r = g (n + r)) : itab n g ++ itab m h = itab (n + m) g := by
 unfold itab
 rw [List.range_add, List.map_append, List.map_map]
 congr 1
 refine List.map_congr_left fun r hr => ?_
 rw [List.mem_range] at hr
 show Value.int .i64 (h r) = Value.int .i64 (g (n + r))
 rw [e r hr]
theorem refSwap16_false (a : Int) (w : World) :
 Calls Tryz.prog 27 #[.int .i64 16, .bool false, .int .i64 a] w fun e w' => e = .returned (.int .i64 (wrap64 ((swp 2 false a : Nat) : Int))) /\ Below w.heap.size w w' := by
 obtain ⟨R, hR⟩ : ∃ R, R = swp 2 false a := ⟨_, rfl⟩
 rw [<- hR]
 have hRl : R < 2 ^ 16 := by rw [hR]; exact swp_lt 2 false a
 obtain ⟨x, hx⟩ : ∃ x, x = lowN 16 a := ⟨_, rfl⟩
 have HX := Lib.hid hx
 have hRx : R = x := by rw [hR, hx]; rfl
 have HRX := Lib.hid hRx
 have hm : R % 2 ^ 16 = R := Nat.mod_eq_of_lt hRl
 have HM := Lib.hid hm
 clear hR hx hRx hm hRl
 go_enter Tryz.func27, Tryz.ntmps27
 go_wp2_with fail
 refine (row_any a 16 16 rfl (by decide) _).mono ?_
 rintro e w2 ⟨b1, rfl, hb1, hR1, hB⟩
 have hX := row_low hR1
 rw [<- HX.out] at hX
 have hs := hB.size
 have hl1 := hX.lt
 clear hR1
 rw [<- HRX.out] at hX
 go_wp2_with fail
 refine (rnumber_of b1 0 16 16 R (by decide) _ (Bits.row hX)).mono ?_
 rintro e w5 ⟨rfl, rfl⟩
 rw [HM.out]
 go_wp2
 go_ret
 exact ⟨rfl, hB⟩
theorem refSwap16_true (a : Int) (w : World) :
 Calls Tryz.prog 27 #[.int .i64 16, .bool true, .int .i64 a] w fun e w' => e = .returned (.int .i64 (wrap64 ((swp 2 true a : Nat) : Int))) /\ Below w.heap.size w w' := by
 obtain ⟨R, hR⟩ : ∃ R, R = swp 2 true a := ⟨_, rfl⟩
 rw [<- hR]
 have hRl : R < 2 ^ 16 := by rw [hR]; exact swp_lt 2 true a
 obtain ⟨x, hx⟩ : ∃ x, x = lowN 16 a := ⟨_, rfl⟩
 have HX := Lib.hid hx
 have hRx : R = rev 2 x := by rw [hR, hx]; rfl
 have HRX := Lib.hid hRx
 have hm : R % 2 ^ 16 = R := Nat.mod_eq_of_lt hRl
 have HM := Lib.hid hm
 clear hR hx hRx hm hRl
 obtain ⟨i0, hi, hz0, hz1, hz2⟩ := info_parts info_int
 go_enter Tryz.func27, Tryz.ntmps27
 go_wp2_with fail
 refine (row_any a 16 16 rfl (by decide) _).mono ?_
 rintro e w2 ⟨b1, rfl, hb1, hR1, hB⟩
 have hX := row_low hR1
 rw [<- HX.out] at hX
 have hs := hB.size
 have hl1 := hX.lt
 clear hR1
 go_wp2
 go_loopw [8, 9] (fun c s wr => ∃ m : Nat, m <= 2 /\ s = .int .i64 (((8 * m : Nat) : Int) - 8) /\ wr.ownsRow w2.heap.size 3 1 c (8 * (2 - m)) (itab (8 * (2 - m)) (bit R)) /\ Below w2.heap.size w2 wr) (fun _ s _ => (intOf s + 8).toNat)
 case atStart => exact ⟨2, Nat.le_refl _, by go_num, World.ownsRow_nil _ _ _ _, Below.refl _ _⟩
 case round =>
  obtain ⟨m, hm, rfl, hown, hB2⟩ := hrel
  by_cases hlt : 0 < m
  ·obtain ⟨q, rfl⟩ : ∃ q, m = q + 1 := ⟨m - 1, by omega⟩
   obtain ⟨I, hI⟩ : ∃ I, I = 8 * q := ⟨_, rfl⟩
   have e0 : ((8 * (q + 1) : Nat) : Int) - 8 = (I : Int) := by omega
   rw [e0]
   clear e0
   have hIl : I <= 8 := by omega
   have hXw := hX.below hB2 hl1
   have hs2 := hB2.size
   have hnews : ∀ r, r < 8 -> bit x (I + r) = bit R (8 * (2 - (q + 1)) + r) := by
    intro r hr
    rw [HRX.out, rev_bit 2 x _ (by omega)]
    congr 1
    omega
   have HN := Lib.hid hnews
   have HQ := Lib.hid hm
   have HI := Lib.hid hI
   have HO := Lib.hid hown
   obtain ⟨xs, hxs⟩ : ∃ xs, xs = itab (8 * (2 - (q + 1))) (bit R) := ⟨_, rfl⟩
   obtain ⟨L, hL⟩ : ∃ L, L = 8 * (2 - (q + 1)) := ⟨_, rfl⟩
   have hLl : L <= 16 := by omega
   have HL := Lib.hid hL
   have HXS := Lib.hid hxs
   clear hnews hm hI hlt hown hxs hL
   go_wp2_with (at_builtin; refine wpList_append_own _ rfl (.tmp 33) (.tmp 38) 68 rfl w2.heap.size 3 i0 (.int .i64 0) 1 8 Tryz.underlying68 hi hz0 hz1 hz2 rfl (by decide) _ L xs rfl (by rw [HL.out, HXS.out]; exact HO.out) ⟨b1, I, none⟩ (I + 8 - I) _ (itab 8 fun r => bit x (I + r)) rfl (by rw [itab_length]; omega) (by
    intro j u hu
    obtain ⟨hj, rfl⟩ := ints_get _ hu
    rw [addr_add]
    exact (hXw.cell (I + j)).trans (itab_get _ (by omega))) (ints_one _) (by unfold maxLen; omega) (by omega) hs2 ?_; intro v1 w1 hown1 hgrow1 _)
   have hB3 : Below w2.heap.size w2 w1 := Below.grown hB2 hgrow1 hs2 (fun k hk => (HO.out.lt k hk).1)
   have e8 : I + 8 - I = 8 := by omega
   rw [e8, HXS.out, HL.out, itab_app _ 8 (bit R) _ HN.out] at hown1
   go_wp2
   go_roundw
   case rel =>
    refine ⟨q, by have := HQ.out; omega, by have := HI.out; go_num, ?_, hB3⟩
    have e : 8 * (2 - q) = 8 * (2 - (q + 1)) + 8 := by have := HQ.out; omega
    rw [e]
    exact hown1
   case measure => simp [intOf]; omega
  ·obtain rfl : m = 0 := by omega
   have hB3 := hB.trans (hB2.mono hs)
   obtain ⟨g, cap, rfl, hg, hG⟩ := own_bits (x := R) hown (by decide) rfl
   go_wp2_with fail
   refine (rnumber_of g 0 16 cap R (by decide) _ hG).mono ?_
   rintro e w5 ⟨rfl, rfl⟩
   rw [HM.out]
   go_wp2
   go_ret
   exact ⟨rfl, hB3⟩
theorem refSwap32_false (a : Int) (w : World) :
 Calls Tryz.prog 27 #[.int .i64 32, .bool false, .int .i64 a] w fun e w' => e = .returned (.int .i64 (wrap64 ((swp 4 false a : Nat) : Int))) /\ Below w.heap.size w w' := by
 obtain ⟨R, hR⟩ : ∃ R, R = swp 4 false a := ⟨_, rfl⟩
 rw [<- hR]
 have hRl : R < 2 ^ 32 := by rw [hR]; exact swp_lt 4 false a
 obtain ⟨x, hx⟩ : ∃ x, x = lowN 32 a := ⟨_, rfl⟩
 have HX := Lib.hid hx
 have hRx : R = x := by rw [hR, hx]; rfl
 have HRX := Lib.hid hRx
 have hm : R % 2 ^ 32 = R := Nat.mod_eq_of_lt hRl
 have HM := Lib.hid hm
 clear hR hx hRx hm hRl
 go_enter Tryz.func27, Tryz.ntmps27
 go_wp2_with fail
 refine (row_any a 32 32 rfl (by decide) _).mono ?_
 rintro e w2 ⟨b1, rfl, hb1, hR1, hB⟩
 have hX := row_low hR1
 rw [<- HX.out] at hX
 have hs := hB.size
 have hl1 := hX.lt
 clear hR1
 rw [<- HRX.out] at hX
 go_wp2_with fail
 refine (rnumber_of b1 0 32 32 R (by decide) _ (Bits.row hX)).mono ?_
 rintro e w5 ⟨rfl, rfl⟩
 rw [HM.out]
 go_wp2
 go_ret
 exact ⟨rfl, hB⟩
theorem refSwap32_true (a : Int) (w : World) :
 Calls Tryz.prog 27 #[.int .i64 32, .bool true, .int .i64 a] w fun e w' => e = .returned (.int .i64 (wrap64 ((swp 4 true a : Nat) : Int))) /\ Below w.heap.size w w' := by
 obtain ⟨R, hR⟩ : ∃ R, R = swp 4 true a := ⟨_, rfl⟩
 rw [<- hR]
 have hRl : R < 2 ^ 32 := by rw [hR]; exact swp_lt 4 true a
 obtain ⟨x, hx⟩ : ∃ x, x = lowN 32 a := ⟨_, rfl⟩
 have HX := Lib.hid hx
 have hRx : R = rev 4 x := by rw [hR, hx]; rfl
 have HRX := Lib.hid hRx
 have hm : R % 2 ^ 32 = R := Nat.mod_eq_of_lt hRl
 have HM := Lib.hid hm
 clear hR hx hRx hm hRl
 obtain ⟨i0, hi, hz0, hz1, hz2⟩ := info_parts info_int
 go_enter Tryz.func27, Tryz.ntmps27
 go_wp2_with fail
 refine (row_any a 32 32 rfl (by decide) _).mono ?_
 rintro e w2 ⟨b1, rfl, hb1, hR1, hB⟩
 have hX := row_low hR1
 rw [<- HX.out] at hX
 have hs := hB.size
 have hl1 := hX.lt
 clear hR1
 go_wp2
 go_loopw [8, 9] (fun c s wr => ∃ m : Nat, m <= 4 /\ s = .int .i64 (((8 * m : Nat) : Int) - 8) /\ wr.ownsRow w2.heap.size 3 1 c (8 * (4 - m)) (itab (8 * (4 - m)) (bit R)) /\ Below w2.heap.size w2 wr) (fun _ s _ => (intOf s + 8).toNat)
 case atStart => exact ⟨4, Nat.le_refl _, by go_num, World.ownsRow_nil _ _ _ _, Below.refl _ _⟩
 case round =>
  obtain ⟨m, hm, rfl, hown, hB2⟩ := hrel
  by_cases hlt : 0 < m
  ·obtain ⟨q, rfl⟩ : ∃ q, m = q + 1 := ⟨m - 1, by omega⟩
   obtain ⟨I, hI⟩ : ∃ I, I = 8 * q := ⟨_, rfl⟩
   have e0 : ((8 * (q + 1) : Nat) : Int) - 8 = (I : Int) := by omega
   rw [e0]
   clear e0
   have hIl : I <= 24 := by omega
   have hXw := hX.below hB2 hl1
   have hs2 := hB2.size
   have hnews : ∀ r, r < 8 -> bit x (I + r) = bit R (8 * (4 - (q + 1)) + r) := by
    intro r hr
    rw [HRX.out, rev_bit 4 x _ (by omega)]
    congr 1
    omega
   have HN := Lib.hid hnews
   have HQ := Lib.hid hm
   have HI := Lib.hid hI
   have HO := Lib.hid hown
   obtain ⟨xs, hxs⟩ : ∃ xs, xs = itab (8 * (4 - (q + 1))) (bit R) := ⟨_, rfl⟩
   obtain ⟨L, hL⟩ : ∃ L, L = 8 * (4 - (q + 1)) := ⟨_, rfl⟩
   have hLl : L <= 32 := by omega
   have HL := Lib.hid hL
   have HXS := Lib.hid hxs
   clear hnews hm hI hlt hown hxs hL
   go_wp2_with (at_builtin; refine wpList_append_own _ rfl (.tmp 33) (.tmp 38) 68 rfl w2.heap.size 3 i0 (.int .i64 0) 1 8 Tryz.underlying68 hi hz0 hz1 hz2 rfl (by decide) _ L xs rfl (by rw [HL.out, HXS.out]; exact HO.out) ⟨b1, I, none⟩ (I + 8 - I) _ (itab 8 fun r => bit x (I + r)) rfl (by rw [itab_length]; omega) (by
    intro j u hu
    obtain ⟨hj, rfl⟩ := ints_get _ hu
    rw [addr_add]
    exact (hXw.cell (I + j)).trans (itab_get _ (by omega))) (ints_one _) (by unfold maxLen; omega) (by omega) hs2 ?_; intro v1 w1 hown1 hgrow1 _)
   have hB3 : Below w2.heap.size w2 w1 := Below.grown hB2 hgrow1 hs2 (fun k hk => (HO.out.lt k hk).1)
   have e8 : I + 8 - I = 8 := by omega
   rw [e8, HXS.out, HL.out, itab_app _ 8 (bit R) _ HN.out] at hown1
   go_wp2
   go_roundw
   case rel =>
    refine ⟨q, by have := HQ.out; omega, by have := HI.out; go_num, ?_, hB3⟩
    have e : 8 * (4 - q) = 8 * (4 - (q + 1)) + 8 := by have := HQ.out; omega
    rw [e]
    exact hown1
   case measure => simp [intOf]; omega
  ·obtain rfl : m = 0 := by omega
   have hB3 := hB.trans (hB2.mono hs)
   obtain ⟨g, cap, rfl, hg, hG⟩ := own_bits (x := R) hown (by decide) rfl
   go_wp2_with fail
   refine (rnumber_of g 0 32 cap R (by decide) _ hG).mono ?_
   rintro e w5 ⟨rfl, rfl⟩
   rw [HM.out]
   go_wp2
   go_ret
   exact ⟨rfl, hB3⟩
theorem refSwap64_false (a : Int) (w : World) :
 Calls Tryz.prog 27 #[.int .i64 64, .bool false, .int .i64 a] w fun e w' => e = .returned (.int .i64 (wrap64 ((swp 8 false a : Nat) : Int))) /\ Below w.heap.size w w' := by
 obtain ⟨R, hR⟩ : ∃ R, R = swp 8 false a := ⟨_, rfl⟩
 rw [<- hR]
 have hRl : R < 2 ^ 64 := by rw [hR]; exact swp_lt 8 false a
 obtain ⟨x, hx⟩ : ∃ x, x = lowN 64 a := ⟨_, rfl⟩
 have HX := Lib.hid hx
 have hRx : R = x := by rw [hR, hx]; rfl
 have HRX := Lib.hid hRx
 have hm : R % 2 ^ 64 = R := Nat.mod_eq_of_lt hRl
 have HM := Lib.hid hm
 clear hR hx hRx hm hRl
 go_enter Tryz.func27, Tryz.ntmps27
 go_wp2_with fail
 refine (row_any a 64 64 rfl (by decide) _).mono ?_
 rintro e w2 ⟨b1, rfl, hb1, hR1, hB⟩
 have hX := row_low hR1
 rw [<- HX.out] at hX
 have hs := hB.size
 have hl1 := hX.lt
 clear hR1
 rw [<- HRX.out] at hX
 go_wp2_with fail
 refine (rnumber_of b1 0 64 64 R (by decide) _ (Bits.row hX)).mono ?_
 rintro e w5 ⟨rfl, rfl⟩
 rw [HM.out]
 go_wp2
 go_ret
 exact ⟨rfl, hB⟩
theorem refSwap64_true (a : Int) (w : World) :
 Calls Tryz.prog 27 #[.int .i64 64, .bool true, .int .i64 a] w fun e w' => e = .returned (.int .i64 (wrap64 ((swp 8 true a : Nat) : Int))) /\ Below w.heap.size w w' := by
 obtain ⟨R, hR⟩ : ∃ R, R = swp 8 true a := ⟨_, rfl⟩
 rw [<- hR]
 have hRl : R < 2 ^ 64 := by rw [hR]; exact swp_lt 8 true a
 obtain ⟨x, hx⟩ : ∃ x, x = lowN 64 a := ⟨_, rfl⟩
 have HX := Lib.hid hx
 have hRx : R = rev 8 x := by rw [hR, hx]; rfl
 have HRX := Lib.hid hRx
 have hm : R % 2 ^ 64 = R := Nat.mod_eq_of_lt hRl
 have HM := Lib.hid hm
 clear hR hx hRx hm hRl
 obtain ⟨i0, hi, hz0, hz1, hz2⟩ := info_parts info_int
 go_enter Tryz.func27, Tryz.ntmps27
 go_wp2_with fail
 refine (row_any a 64 64 rfl (by decide) _).mono ?_
 rintro e w2 ⟨b1, rfl, hb1, hR1, hB⟩
 have hX := row_low hR1
 rw [<- HX.out] at hX
 have hs := hB.size
 have hl1 := hX.lt
 clear hR1
 go_wp2
 go_loopw [8, 9] (fun c s wr => ∃ m : Nat, m <= 8 /\ s = .int .i64 (((8 * m : Nat) : Int) - 8) /\ wr.ownsRow w2.heap.size 3 1 c (8 * (8 - m)) (itab (8 * (8 - m)) (bit R)) /\ Below w2.heap.size w2 wr) (fun _ s _ => (intOf s + 8).toNat)
 case atStart => exact ⟨8, Nat.le_refl _, by go_num, World.ownsRow_nil _ _ _ _, Below.refl _ _⟩
 case round =>
  obtain ⟨m, hm, rfl, hown, hB2⟩ := hrel
  by_cases hlt : 0 < m
  ·obtain ⟨q, rfl⟩ : ∃ q, m = q + 1 := ⟨m - 1, by omega⟩
   obtain ⟨I, hI⟩ : ∃ I, I = 8 * q := ⟨_, rfl⟩
   have e0 : ((8 * (q + 1) : Nat) : Int) - 8 = (I : Int) := by omega
   rw [e0]
   clear e0
   have hIl : I <= 56 := by omega
   have hXw := hX.below hB2 hl1
   have hs2 := hB2.size
   have hnews : ∀ r, r < 8 -> bit x (I + r) = bit R (8 * (8 - (q + 1)) + r) := by
    intro r hr
    rw [HRX.out, rev_bit 8 x _ (by omega)]
    congr 1
    omega
   have HN := Lib.hid hnews
   have HQ := Lib.hid hm
   have HI := Lib.hid hI
   have HO := Lib.hid hown
   obtain ⟨xs, hxs⟩ : ∃ xs, xs = itab (8 * (8 - (q + 1))) (bit R) := ⟨_, rfl⟩
   obtain ⟨L, hL⟩ : ∃ L, L = 8 * (8 - (q + 1)) := ⟨_, rfl⟩
   have hLl : L <= 64 := by omega
   have HL := Lib.hid hL
   have HXS := Lib.hid hxs
   clear hnews hm hI hlt hown hxs hL
   go_wp2_with (at_builtin; refine wpList_append_own _ rfl (.tmp 33) (.tmp 38) 68 rfl w2.heap.size 3 i0 (.int .i64 0) 1 8 Tryz.underlying68 hi hz0 hz1 hz2 rfl (by decide) _ L xs rfl (by rw [HL.out, HXS.out]; exact HO.out) ⟨b1, I, none⟩ (I + 8 - I) _ (itab 8 fun r => bit x (I + r)) rfl (by rw [itab_length]; omega) (by
    intro j u hu
    obtain ⟨hj, rfl⟩ := ints_get _ hu
    rw [addr_add]
    exact (hXw.cell (I + j)).trans (itab_get _ (by omega))) (ints_one _) (by unfold maxLen; omega) (by omega) hs2 ?_; intro v1 w1 hown1 hgrow1 _)
   have hB3 : Below w2.heap.size w2 w1 := Below.grown hB2 hgrow1 hs2 (fun k hk => (HO.out.lt k hk).1)
   have e8 : I + 8 - I = 8 := by omega
   rw [e8, HXS.out, HL.out, itab_app _ 8 (bit R) _ HN.out] at hown1
   go_wp2
   go_roundw
   case rel =>
    refine ⟨q, by have := HQ.out; omega, by have := HI.out; go_num, ?_, hB3⟩
    have e : 8 * (8 - q) = 8 * (8 - (q + 1)) + 8 := by have := HQ.out; omega
    rw [e]
    exact hown1
   case measure => simp [intOf]; omega
  ·obtain rfl : m = 0 := by omega
   have hB3 := hB.trans (hB2.mono hs)
   obtain ⟨g, cap, rfl, hg, hG⟩ := own_bits (x := R) hown (by decide) rfl
   go_wp2_with fail
   refine (rnumber_of g 0 64 cap R (by decide) _ hG).mono ?_
   rintro e w5 ⟨rfl, rfl⟩
   rw [HM.out]
   go_wp2
   go_ret
   exact ⟨rfl, hB3⟩
theorem refSwap_other (size : Int) (t : Bool) (a : Int) (h : size ≠ 16 /\ size ≠ 32 /\ size ≠ 64) (w : World) :
 Calls Tryz.prog 27 #[.int .i64 size, .bool t, .int .i64 a] w fun e w' => e = .returned (.int .i64 0) /\ w = w' := by
 have h1 : (size != 16) = true := by rw [bne_iff_ne]; omega
 have h2 : (size != 32) = true := by rw [bne_iff_ne]; omega
 have h3 : (size != 64) = true := by rw [bne_iff_ne]; omega
 clear h
 cases t
 all_goals
  go_enter Tryz.func27, Tryz.ntmps27
  go_wp2
  go_ret
  exact ⟨rfl, rfl⟩
theorem swap_tells {k : Nat} {size : Int} {t : Bool} {a : Int} {v : Int} (h : ∀ w, Calls Tryz.prog 48 #[.int .i64 size, .bool t, .int .i64 a] w fun e w' => e = .returned (.int .i64 v) /\ w = w') :
 Tells 48 #[.int .i64 size, .bool t, .int .i64 a] v := fun w => (h w).mono fun e w' ⟨he, hw⟩ => ⟨he, hw ▸ Below.refl _ _⟩
theorem swap_both (size : Int) (t : Bool) (a : Int) (ra : -9223372036854775808 <= a /\ a <= 9223372036854775807) :
 ∃ v, Tells 48 #[.int .i64 size, .bool t, .int .i64 a] v /\ Tells 27 #[.int .i64 size, .bool t, .int .i64 a] v := by
 by_cases h : size ≠ 16 /\ size ≠ 32 /\ size ≠ 64
 ·exact ⟨0, swap_tells (k := 0) (fun w => swap_other size t a h w), fun w => (refSwap_other size t a h w).mono fun e w' ⟨he, hw⟩ => ⟨he, hw ▸ Below.refl _ _⟩⟩
 ·have h' : size = 16 \/ size = 32 \/ size = 64 := by omega
  clear h
  cases t
  ·rcases h' with rfl | rfl | rfl
   ·exact ⟨_, swap_tells (k := 0) (fun w => swap16_false a ra w), fun w => refSwap16_false a w⟩
   ·exact ⟨_, swap_tells (k := 0) (fun w => swap32_false a ra w), fun w => refSwap32_false a w⟩
   ·exact ⟨_, swap_tells (k := 0) (fun w => swap64_false a ra w), fun w => refSwap64_false a w⟩
  ·rcases h' with rfl | rfl | rfl
   ·exact ⟨_, swap_tells (k := 0) (fun w => swap16_true a ra w), fun w => refSwap16_true a w⟩
   ·exact ⟨_, swap_tells (k := 0) (fun w => swap32_true a ra w), fun w => refSwap32_true a w⟩
   ·exact ⟨_, swap_tells (k := 0) (fun w => swap64_true a ra w), fun w => refSwap64_true a w⟩
end Go.Proofs.YtcmplcdbkoodpaaGreatDoor
