/-
  The reference's Put.
-/
import Derived.Test.YtcjomhmpebhhlaaRefGet
import Derived.BigQuiet
namespace Go.Proofs.Ytcjomhmpebhhlaa
open Go.RowKit
set_option linter.unusedVariables false

theorem refput_none (k v : Int) (h : k < 1 ∨ 8 < k) (w : World) :
    Calls Try.prog 11 #[.int .i64 k, .int .i64 v] w fun e w' => e = .returned (.slice none 0 0) ∧ w = w' := by
  by_cases h1 : k < 1
  · go_enter Try.func11, Try.ntmps11
    go_wp2
    go_ret
    exact ⟨rfl, rfl⟩
  · have h2 : 8 < k := by omega
    clear h
    go_enter Try.func11, Try.ntmps11
    go_wp2
    go_ret
    exact ⟨rfl, rfl⟩
theorem mod_rng (x : Int) : 0 ≤ x % 256 ∧ x % 256 ≤ 255 := by omega
theorem u8_small (z : Int) (h : 0 ≤ z ∧ z ≤ 255) : IntKind.u8.wrap z = z := by rw [u8_wrap]; omega
theorem w64_small (z : Int) (h : 0 ≤ z ∧ z ≤ 255) : wrap64 z = z := by unfold wrap64; omega
theorem byte_of (x i : Nat) : x / 2 ^ (8 * i) % 2 ^ 8 < 2 ^ 8 := Nat.mod_lt _ (by decide)
theorem un_byte (v : Int) (i : Nat) (hi : i < 8) : ((un v / 2 ^ (8 * i) % 2 ^ 8 : Nat) : Int) = v / 2 ^ (8 * i) % 256 := by
  unfold un
  have h := (show i = 0 ∨ i = 1 ∨ i = 2 ∨ i = 3 ∨ i = 4 ∨ i = 5 ∨ i = 6 ∨ i = 7 by omega)
  rcases h with rfl | rfl | rfl | rfl | rfl | rfl | rfl | rfl
  all_goals
    simp only [Nat.reduceMul, Nat.reducePow, Int.reducePow, Int.pow_zero, Nat.pow_zero]
    omega
theorem bits_shift (x i n : Nat) : ∀ t, bit x (8 * i + t) = bit (x / 2 ^ (8 * i)) t := fun t => by
  unfold bit
  rw [Nat.pow_add, ← Nat.div_div_eq_div_mul]

set_option maxRecDepth 100000 in
set_option maxHeartbeats 1600000 in
theorem refput_of (k : Nat) (v : Int) (h1 : 1 ≤ k) (h8 : k ≤ 8) (w : World) :
    Calls Try.prog 11 #[.int .i64 k, .int .i64 v] w fun e w' => ∃ v', e = .returned v' ∧ Held w' v' (putl k v) ∧ Below w.heap.size w w' := by
  have i1 : ¬ ((k : Int) < 1) := by omega
  have i2 : ¬ ((8 : Int) < k) := by omega
  have i3 : (1 : Int) ≤ k := by omega
  have i4 : (k : Int) ≤ 8 := by omega
  obtain ⟨i0, hi0, hz0, hz1, hz2⟩ := info_parts info_u8
  go_enter Try.func11, Try.ntmps11
  go_wp2_with fail
  refine (row_any v 64 64 rfl (by decide) _).mono ?_
  rintro e w1 ⟨g, rfl, hg, hR, hB1⟩
  have HR := Lib.hid hR
  have HB1 := Lib.hid hB1
  have hgl := hR.lt
  clear hR hB1
  go_wp2
  go_loopw [5, 7] (fun b s wr => ∃ (i : Nat) (v0 : Value), v0 = b ∧ i ≤ k ∧ s = .int .i64 i ∧ wr.ownsRow w1.heap.size 5 1 v0 i ((putl i v).map (Value.int .u8)) ∧ Below w1.heap.size w1 wr) (fun _ s _ => k - (intOf s).toNat)
  case atStart => exact ⟨0, _, rfl, Nat.zero_le _, rfl, World.ownsRow_nil _ _ _ _, Below.refl _ _⟩
  case round =>
    obtain ⟨i, v0, hv0, hi, rfl, hO, hB⟩ := hrel
    subst hv0
    by_cases hlt : i < k
    · have j1 : (i : Int) < k := by omega
      have e1 : (8 * (i : Int)).toNat = 8 * i := by omega
      have e2 : (8 * (i : Int) + 8).toNat = 8 * i + 8 := by omega
      have j2 : (0 : Int) ≤ 8 * (i : Int) := by omega
      have j3 : 8 * (i : Int) ≤ 8 * (i : Int) + 8 := by omega
      have j4 : 8 * (i : Int) + 8 ≤ 64 := by omega
      have j5 : (0 : Int) ≤ 8 * (i : Int) + 8 := by omega
      have j6 : ¬ (64 = 8 * i) := by omega
      have hbits : Bits wr g (8 * i) 8 (un v / 2 ^ (8 * i) % 2 ^ 8) := ⟨Nat.lt_of_lt_of_le hgl hB.size, fun t ht => by
        have hR2 := HR.out.below hB hgl
        rw [hR2.cell, itab_get _ (by omega), bits_shift (un v) i 8 t, bit_mod ht]⟩
      have HBT := Lib.hid hbits
      have HO := Lib.hid hO
      have HB := Lib.hid hB
      have hbz : w1.heap.size ≤ wr.heap.size := hB.size
      clear hbits hO hB
      obtain ⟨z, hz⟩ : ∃ z, z = v / 2 ^ (8 * i) % 256 := ⟨_, rfl⟩
      have hzr : 0 ≤ z ∧ z ≤ 255 := by rw [hz]; exact mod_rng _
      have hwz : wrap64 ((un v / 2 ^ (8 * i) % 2 ^ 8 : Nat) : Int) = z := by
        rw [un_byte v i (Nat.lt_of_lt_of_le hlt h8), ← hz]
        exact w64_small z hzr
      have hu : IntKind.u8.wrap z = z := u8_small z hzr
      have hps : (putl i v).map (Value.int .u8) ++ [Value.int .u8 z] = (putl (i + 1) v).map (Value.int .u8) := by
        rw [hz]; simp [putl, List.range_succ]
      have HPS := Lib.hid hps
      have HWZ := Lib.hid hwz
      clear hz hwz hps
      have hnw := cell_one_new wr (.int .u8 z) 5
      have hon : ∀ u ∈ [Value.int .u8 z], u.oneCell' = true := fun u hu => by simp at hu; subst hu; rfl
      have hm3 : i + 1 ≤ maxLen := by unfold maxLen; omega
      have hm4 : (i + 1) * 1 ≤ 140737488355328 := by omega
      have hm5 : w1.heap.size ≤ (wr.alloc (.cells #[.int .u8 z] 5)).heap.size := by simp; omega
      go_wp2_with fail
      refine (number_any g (8 * i) 8 (64 - 8 * i) (un v / 2 ^ (8 * i) % 2 ^ 8) (by decide) (byte_of _ _) _ HBT.out).mono ?_
      rintro e w2 ⟨rfl, rfl⟩
      rw [HWZ.out]
      go_wp2_with
        (at_builtin
         refine wpList_append_own _ rfl (.tmp 22) (.tmp 32) 27 rfl w1.heap.size 5 i0 (.int .u8 0) 1 1 Try.underlying27 hi0 hz0 hz1 hz2 rfl (by decide) v0 i _ rfl (HO.out.alloc _) ⟨wr.heap.size, 0, none⟩ 1 1 [.int .u8 z] rfl rfl hnw hon hm3 hm4 hm5 ?_
         intro v1 w3 hown hgrow _
         have hB3 : Below w1.heap.size w1 w3 := Below.grown (HB.out.alloc hbz _) hgrow hm5 (fun b hb2 => (HO.out.lt b hb2).1)
         have hO3 : w3.ownsRow w1.heap.size 5 1 v1 (i + 1) ((putl (i + 1) v).map (Value.int .u8)) := by rw [← HPS.out]; exact hown
         have HO3 := Lib.hid hO3
         have HB3 := Lib.hid hB3
         clear hown hgrow hO3 hB3)
      go_wp2
      go_roundw
      case rel => exact ⟨i + 1, _, rfl, hlt, by go_num, HO3.out, HB3.out⟩
      case measure => simp [intOf]; omega
    · obtain rfl : i = k := by omega
      go_wp2
      go_ret
      exact ⟨_, rfl, held_of_own hO (putl_bytes _ _) (by rw [putl_length]), HB1.out.trans (hB.mono HB1.out.size)⟩
end Go.Proofs.Ytcjomhmpebhhlaa
