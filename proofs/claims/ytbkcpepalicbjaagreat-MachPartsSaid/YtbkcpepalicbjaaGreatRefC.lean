/-
  The reference's rows of bits: signs, bitwise operations.
-/
import Derived.Test.YtbkcpepalicbjaaGreatRefB
namespace Go.Proofs.YtbkcpepalicbjaaGreat
open Go.RowKit
set_option linter.unusedVariables false

set_option maxHeartbeats 800000 in
theorem far_minus (b o n c x : Nat) (hn0 : 0 < n) (hn : n ≤ 64) (w : World) (h1 : Bits w b o n x) (hs : bit x (n - 1) = 1) :
    Calls Tryz.prog 236 #[.slice (some ⟨b, o, none⟩) n c] w fun e w' =>
      ∃ q, e = .returned (.tuple #[.slice (some ⟨q, 0, none⟩) n n, .int .i64 1]) ∧ Bits w' q 0 n (2 ^ n - x % 2 ^ n) ∧ Below w.heap.size w w' ∧ w.heap.size ≤ q := by
  have e1 := h1.2 (n - 1) (by omega)
  rw [hs] at e1
  have ei : ((n : Int) - 1).toNat = n - 1 := by omega
  go_enter Tryz.func236, Tryz.ntmps236
  go_wp2_with fail
  refine (negative_any b o n c x (by omega) _ h1).mono ?_
  rintro e w1 ⟨q, rfl, hq, hR, hB⟩
  go_wp2
  go_ret2
  exact ⟨q, rfl, Bits.row hR, hB, hq⟩
set_option maxHeartbeats 800000 in
theorem far_plus (b o n c x : Nat) (hn0 : 0 < n) (hn : n ≤ 64) (w : World) (h1 : Bits w b o n x) (hs : bit x (n - 1) = 0) :
    Calls Tryz.prog 236 #[.slice (some ⟨b, o, none⟩) n c] w fun e w' =>
      e = .returned (.tuple #[.slice (some ⟨b, o, none⟩) n c, .int .i64 0]) ∧ w = w' := by
  have e1 := h1.2 (n - 1) (by omega)
  rw [hs] at e1
  have ei : ((n : Int) - 1).toNat = n - 1 := by omega
  go_enter Tryz.func236, Tryz.ntmps236
  go_wp2
  go_ret2
  exact ⟨rfl, rfl⟩


theorem bit_or (x y i : Nat) : bit (x ||| y) i = if 0 < bit x i + bit y i then 1 else 0 := by
  rw [bit_test, bit_test, bit_test, Nat.testBit_or]
  cases x.testBit i <;> cases y.testBit i <;> simp
theorem bit_and (x y i : Nat) : bit (x &&& y) i = if bit x i + bit y i = 2 then 1 else 0 := by
  rw [bit_test, bit_test, bit_test, Nat.testBit_and]
  cases x.testBit i <;> cases y.testBit i <;> simp
theorem bit_xor (x y i : Nat) : bit (x ^^^ y) i = if bit x i + bit y i = 1 then 1 else 0 := by
  rw [bit_test, bit_test, bit_test, Nat.testBit_xor]
  cases x.testBit i <;> cases y.testBit i <;> simp

theorem fill_skip {wr : World} {n i b : Nat} {e : TypeId} {g : Nat → Int} (hR : Row wr b e (itab n fun t => if t < i then g t else 0)) (hv : 0 = g i) :
    Row wr b e (itab n fun t => if t < i + 1 then g t else 0) := by
  rwa [itab_congr (h := fun t => if t < i + 1 then g t else 0)] at hR
  intro t _
  by_cases ht : t = i
  · subst ht; simp [hv]
  · have e2 : (t < i) ↔ (t < i + 1) := by omega
    simp [e2]

set_option maxHeartbeats 1600000 in
theorem or_any (b1 b2 o1 o2 n c1 m2 c2 x y : Nat) (hn : n ≤ 64) (hm : n ≤ m2) (w : World) (h1 : Bits w b1 o1 n x) (h2 : Bits w b2 o2 n y) :
    Calls Tryz.prog 233 #[.int .i64 8, .slice (some ⟨b1, o1, none⟩) n c1, .slice (some ⟨b2, o2, none⟩) m2 c2] w (NewBits w n (x ||| y)) := by
  have hmk := make_ints n (by omega)
  go_enter Tryz.func233, Tryz.ntmps233
  go_wp2
  go_loopw [8] (fun s wr => ∃ i : Nat, i ≤ n ∧ s = .int .i64 i ∧ Row wr w.heap.size 3 (itab n fun t => if t < i then bit (x ||| y) t else 0) ∧ Below w.heap.size w wr) (fun s _ => n - (intOf s).toNat)
  case atStart => exact ⟨0, Nat.zero_le _, rfl, fill_start _ _ _ _, (Below.refl _ _).alloc (Nat.le_refl _) _⟩
  case round =>
    obtain ⟨i, hi, rfl, hR, hB⟩ := hrel
    by_cases hlt : i < n
    · have hc0 := (hR.cell i).trans (itab_get _ hlt)
      have hf := hR.free i
      have e1 := (hB.cell (p := ⟨b1, o1 + i, none⟩) h1.1).trans (h1.2 i hlt)
      have e2 := (hB.cell (p := ⟨b2, o2 + i, none⟩) h2.1).trans (h2.2 i hlt)
      have k1 := bit_nonneg x i
      have k2 := bit_nonneg y i
      have k3 := bit_le x i
      have k4 := bit_le y i
      have hm' : (i : Int) < m2 := by omega
      have hb := bit_or x y i
      by_cases ht : 0 < bit x i + bit y i
      · rw [if_pos ht] at hb
        have HB := Lib.hid hb
        have hd : decide (0 < bit x i + bit y i) = true := by simpa using ht
        have HT := Lib.hid ht
        clear hb ht
        go_wp2
        go_quiet (fail)
        go_wp2
        go_roundw
        case rel => exact ⟨i + 1, hlt, by go_num, fill_step (hR.drewN nq) HB.out.symm, (below_drewN hB nq).setCell (Nat.le_refl _) _⟩
        case measure => simp [intOf]; omega
      · rw [if_neg ht] at hb
        have HB := Lib.hid hb
        have hd : decide (0 < bit x i + bit y i) = false := by simpa using ht
        have HT := Lib.hid ht
        clear hb ht
        go_wp2
        go_quiet (fail)
        go_wp2
        go_roundw
        case rel => exact ⟨i + 1, hlt, by go_num, fill_skip (hR.drewN nq) HB.out.symm, below_drewN hB nq⟩
        case measure => simp [intOf]; omega
    · obtain rfl : i = n := by omega
      go_wp2
      go_ret
      exact ⟨_, rfl, Nat.le_refl _, fill_end hR, hB⟩

set_option maxHeartbeats 1600000 in
theorem and_any (b1 b2 o1 o2 n c1 m2 c2 x y : Nat) (hn : n ≤ 64) (hm : n ≤ m2) (w : World) (h1 : Bits w b1 o1 n x) (h2 : Bits w b2 o2 n y) :
    Calls Tryz.prog 233 #[.int .i64 9, .slice (some ⟨b1, o1, none⟩) n c1, .slice (some ⟨b2, o2, none⟩) m2 c2] w (NewBits w n (x &&& y)) := by
  have hmk := make_ints n (by omega)
  go_enter Tryz.func233, Tryz.ntmps233
  go_wp2
  go_loopw [8] (fun s wr => ∃ i : Nat, i ≤ n ∧ s = .int .i64 i ∧ Row wr w.heap.size 3 (itab n fun t => if t < i then bit (x &&& y) t else 0) ∧ Below w.heap.size w wr) (fun s _ => n - (intOf s).toNat)
  case atStart => exact ⟨0, Nat.zero_le _, rfl, fill_start _ _ _ _, (Below.refl _ _).alloc (Nat.le_refl _) _⟩
  case round =>
    obtain ⟨i, hi, rfl, hR, hB⟩ := hrel
    by_cases hlt : i < n
    · have hc0 := (hR.cell i).trans (itab_get _ hlt)
      have hf := hR.free i
      have e1 := (hB.cell (p := ⟨b1, o1 + i, none⟩) h1.1).trans (h1.2 i hlt)
      have e2 := (hB.cell (p := ⟨b2, o2 + i, none⟩) h2.1).trans (h2.2 i hlt)
      have k1 := bit_nonneg x i
      have k2 := bit_nonneg y i
      have k3 := bit_le x i
      have k4 := bit_le y i
      have hm' : (i : Int) < m2 := by omega
      have hb := bit_and x y i
      by_cases ht : bit x i + bit y i = 2
      · rw [if_pos ht] at hb
        have HB := Lib.hid hb
        have hd : ((bit x i + bit y i) == 2) = true := by simpa using ht
        have HT := Lib.hid ht
        clear hb ht
        go_wp2
        go_quiet (fail)
        go_wp2
        go_roundw
        case rel => exact ⟨i + 1, hlt, by go_num, fill_step (hR.drewN nq) HB.out.symm, (below_drewN hB nq).setCell (Nat.le_refl _) _⟩
        case measure => simp [intOf]; omega
      · rw [if_neg ht] at hb
        have HB := Lib.hid hb
        have hd : ((bit x i + bit y i) == 2) = false := by simpa using ht
        have HT := Lib.hid ht
        clear hb ht
        go_wp2
        go_quiet (fail)
        go_wp2
        go_roundw
        case rel => exact ⟨i + 1, hlt, by go_num, fill_skip (hR.drewN nq) HB.out.symm, below_drewN hB nq⟩
        case measure => simp [intOf]; omega
    · obtain rfl : i = n := by omega
      go_wp2
      go_ret
      exact ⟨_, rfl, Nat.le_refl _, fill_end hR, hB⟩

set_option maxHeartbeats 1600000 in
theorem xor_any (b1 b2 o1 o2 n c1 m2 c2 x y : Nat) (hn : n ≤ 64) (hm : n ≤ m2) (w : World) (h1 : Bits w b1 o1 n x) (h2 : Bits w b2 o2 n y) :
    Calls Tryz.prog 233 #[.int .i64 10, .slice (some ⟨b1, o1, none⟩) n c1, .slice (some ⟨b2, o2, none⟩) m2 c2] w (NewBits w n (x ^^^ y)) := by
  have hmk := make_ints n (by omega)
  go_enter Tryz.func233, Tryz.ntmps233
  go_wp2
  go_loopw [8] (fun s wr => ∃ i : Nat, i ≤ n ∧ s = .int .i64 i ∧ Row wr w.heap.size 3 (itab n fun t => if t < i then bit (x ^^^ y) t else 0) ∧ Below w.heap.size w wr) (fun s _ => n - (intOf s).toNat)
  case atStart => exact ⟨0, Nat.zero_le _, rfl, fill_start _ _ _ _, (Below.refl _ _).alloc (Nat.le_refl _) _⟩
  case round =>
    obtain ⟨i, hi, rfl, hR, hB⟩ := hrel
    by_cases hlt : i < n
    · have hc0 := (hR.cell i).trans (itab_get _ hlt)
      have hf := hR.free i
      have e1 := (hB.cell (p := ⟨b1, o1 + i, none⟩) h1.1).trans (h1.2 i hlt)
      have e2 := (hB.cell (p := ⟨b2, o2 + i, none⟩) h2.1).trans (h2.2 i hlt)
      have k1 := bit_nonneg x i
      have k2 := bit_nonneg y i
      have k3 := bit_le x i
      have k4 := bit_le y i
      have hm' : (i : Int) < m2 := by omega
      have hb := bit_xor x y i
      by_cases ht : bit x i + bit y i = 1
      · rw [if_pos ht] at hb
        have HB := Lib.hid hb
        have hd : ((bit x i + bit y i) == 1) = true := by simpa using ht
        have HT := Lib.hid ht
        clear hb ht
        go_wp2
        go_quiet (fail)
        go_wp2
        go_roundw
        case rel => exact ⟨i + 1, hlt, by go_num, fill_step (hR.drewN nq) HB.out.symm, (below_drewN hB nq).setCell (Nat.le_refl _) _⟩
        case measure => simp [intOf]; omega
      · rw [if_neg ht] at hb
        have HB := Lib.hid hb
        have hd : ((bit x i + bit y i) == 1) = false := by simpa using ht
        have HT := Lib.hid ht
        clear hb ht
        go_wp2
        go_quiet (fail)
        go_wp2
        go_roundw
        case rel => exact ⟨i + 1, hlt, by go_num, fill_skip (hR.drewN nq) HB.out.symm, below_drewN hB nq⟩
        case measure => simp [intOf]; omega
    · obtain rfl : i = n := by omega
      go_wp2
      go_ret
      exact ⟨_, rfl, Nat.le_refl _, fill_end hR, hB⟩
end Go.Proofs.YtbkcpepalicbjaaGreat
