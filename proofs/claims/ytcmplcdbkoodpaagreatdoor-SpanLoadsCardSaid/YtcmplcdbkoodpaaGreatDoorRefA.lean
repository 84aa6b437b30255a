/-
  The reference's rows of bits: what each function computes, said of natural numbers.
-/
import Derived.Test.YtcmplcdbkoodpaaGreatDoorRows
import Derived.Test.YtcmplcdbkoodpaaGreatDoorBase
import Derived.Test.YtcmplcdbkoodpaaGreatDoorBits
import Derived.WalkSpells
import Derived.WalkLawsBesides
import Derived.Deep.QuietTactic
import Derived.BigQuiet
import Derived.Lib.Hide
namespace Go.Proofs.YtcmplcdbkoodpaaGreatDoor
open Go.RowKit
set_option linter.unusedVariables false

/-- The n cells from the offset off of block b on are the low n bits of x. -/
def Bits (w : World) (b off n x : Nat) : Prop := b < w.heap.size ∧ ∀ i, i < n → w.cell? ⟨b, off + i, none⟩ = some (.int .i64 (bit x i))

/-- The call returned a new slice of n cells: the low n bits of x; below the heap's old size nothing has turned. -/
def NewBits (w : World) (n x : Nat) (e : Ending) (w' : World) : Prop :=
  ∃ b, e = .returned (.slice (some ⟨b, 0, none⟩) n n) ∧ w.heap.size ≤ b ∧ Row w' b 3 (itab n (bit x)) ∧ Below w.heap.size w w'

theorem Bits.below {w w' : World} {b off n x B : Nat} (h : Bits w b off n x) (hb : Below B w w') (hlt : b < B) : Bits w' b off n x :=
  ⟨Nat.lt_of_lt_of_le h.1 hb.size, fun i hi => (hb.cell (p := ⟨b, off + i, none⟩) hlt).trans (h.2 i hi)⟩
theorem Bits.row {w : World} {b n x : Nat} {e : TypeId} (h : Row w b e (itab n (bit x))) : Bits w b 0 n x :=
  ⟨h.lt, fun i hi => by rw [h.cell, Nat.zero_add, itab_get _ hi]⟩

theorem Bits.other {w : World} {b off n x : Nat} (h : Bits w b off n x) (a : Addr) (v : Value) (hne : b ≠ a.block) : Bits (w.setCell a v) b off n x :=
  ⟨by have := h.1; simpa [World.setCell] using this, fun i hi => (World.cell?_of_block (Below.heap_setCell _ _ _ _ hne)).trans (h.2 i hi)⟩

theorem make_ints (n : Nat) (hn : n ≤ 1048576) (w : World) : (Instr.makeSlice 68 (.int .i64 n) (.int .i64 n)).run Tryz.prog w =
    .ok (.slice (some ⟨w.heap.size, 0, none⟩) n n) (w.alloc (.cells (itab n (fun _ => 0)).toArray 3)) := by
  obtain ⟨i, hi, hz, hs, hb⟩ := info_parts (show (Tryz.prog.info? 3).map (fun i => (i.zero, i.size, i.bytes)) = some (some (.int .i64 0), 1, 8) by kernel_rfl)
  have h := run_make (P := Tryz.prog) w 68 3 i (.int .i64 0) Tryz.underlying68 hi hz .i64 .i64 n n (by omega) (by omega) (by rw [hb]; omega) (by omega)
  rw [h]
  simp only [Int.toNat_natCast, hs, Nat.mul_one, Value.cells]
  rw [← itab_zero]

theorem make_ints' (n : Nat) (z : Int) (hz : z = n) (hn : n ≤ 1048576) (w : World) : (Instr.makeSlice 68 (.int .i64 z) (.int .i64 z)).run Tryz.prog w =
    .ok (.slice (some ⟨w.heap.size, 0, none⟩) n n) (w.alloc (.cells (itab n (fun _ => 0)).toArray 3)) := by
  subst hz; exact make_ints n hn w

/-- A round that fills the place i. -/
theorem fill_step {wr : World} {n i b : Nat} {e : TypeId} {g : Nat → Int} {v : Int} (hR : Row wr b e (itab n fun t => if t < i then g t else 0)) (hv : v = g i) :
    Row (wr.setCell ⟨b, i, none⟩ (.int .i64 v)) b e (itab n fun t => if t < i + 1 then g t else 0) := by
  have h := hR.put i (.int .i64 v)
  rw [itab_set] at h
  rwa [itab_congr (h := fun t => if t < i + 1 then g t else 0)] at h
  intro t _
  by_cases ht : t = i
  · subst ht; simp [hv]
  · have e2 : (t < i) ↔ (t < i + 1) := by omega
    simp [ht, e2]
theorem fill_step2 {wr : World} {n i b : Nat} {e : TypeId} {g : Nat → Int} {u v : Int} (hR : Row wr b e (itab n fun t => if t < i then g t else 0)) (hv : v = g i) :
    Row ((wr.setCell ⟨b, i, none⟩ (.int .i64 u)).setCell ⟨b, i, none⟩ (.int .i64 v)) b e (itab n fun t => if t < i + 1 then g t else 0) := by
  have h := (hR.put i (.int .i64 u)).put i (.int .i64 v)
  rw [List.set_set] at h
  rw [itab_set] at h
  rwa [itab_congr (h := fun t => if t < i + 1 then g t else 0)] at h
  intro t _
  by_cases ht : t = i
  · subst ht; simp [hv]
  · have e2 : (t < i) ↔ (t < i + 1) := by omega
    simp [ht, e2]
theorem fill_end {wr : World} {n b : Nat} {e : TypeId} {g : Nat → Int} (hR : Row wr b e (itab n fun t => if t < n then g t else 0)) : Row wr b e (itab n g) := by
  rwa [itab_congr (h := g) (fun t ht => if_pos ht)] at hR
theorem fill_start (w : World) (n : Nat) (e : TypeId) (g : Nat → Int) : Row (w.alloc (.cells (itab n fun _ => 0).toArray e)) w.heap.size e (itab n fun t => if t < 0 then g t else 0) := by
  rw [itab_congr (h := fun _ => 0) (fun t _ => if_neg (by omega))]; exact Row.made _ _ _

set_option maxHeartbeats 400000 in
theorem row_any (v : Int) (k : Nat) (kk : Int) (hkk : kk = k) (hk : k ≤ 64) (w : World) :
    Calls Tryz.prog 40 #[.int .i64 v, .int .i64 kk] w (NewBits w k (un v)) := by
  subst hkk
  have hmk := make_ints k (by omega)
  go_enter Tryz.func40, Tryz.ntmps40
  go_wp2
  go_loopw [6] (fun s wr => ∃ i : Nat, i ≤ k ∧ s = .int .i64 i ∧ Row wr w.heap.size 3 (itab k fun t => if t < i then bit (un v) t else 0) ∧ Below w.heap.size w wr) (fun s _ => k - (intOf s).toNat)
  case atStart => exact ⟨0, Nat.zero_le _, rfl, fill_start _ _ _ _, (Below.refl _ _).alloc (Nat.le_refl _) _⟩
  case round =>
    obtain ⟨i, hi, rfl, hR, hB⟩ := hrel
    by_cases hlt : i < k
    · have hc := (hR.cell i).trans (itab_get _ hlt)
      have hf := hR.free i
      go_wp2
      go_roundw
      case rel =>
        exact ⟨i + 1, hlt, by go_num, fill_step hR (by rw [i64_and_1, ← bit_un v (by omega)]), hB.setCell (Nat.le_refl _) _⟩
      case measure => simp [intOf]; omega
    · obtain rfl : i = k := by omega
      go_wp2
      go_ret
      exact ⟨_, rfl, Nat.le_refl _, fill_end hR, hB⟩

theorem wrap64_zero : wrap64 ((0 : Nat) : Int) = 0 := by unfold wrap64; omega
theorem wrap_twice (x b : Int) : wrap64 (wrap64 (2 * wrap64 x) + b) = wrap64 (2 * x + b) := by unfold wrap64; omega

theorem num_step (x j : Nat) : wrap64 (wrap64 (2 * wrap64 ((x : Int) / 2 ^ (j + 1))) + bit x j) = wrap64 ((x / 2 ^ j : Nat) : Int) := by
  have h : (x : Int) / 2 ^ (j + 1) = ((x / 2 ^ (j + 1) : Nat) : Int) := by simp
  rw [wrap_twice, h]
  congr 1
  unfold bit
  have := top_step x j
  omega

set_option maxHeartbeats 400000 in
theorem number_any (b off n cap x : Nat) (hn : n ≤ 64) (hx : x < 2 ^ n) (w : World) (hb : Bits w b off n x) :
    Calls Tryz.prog 43 #[.slice (some ⟨b, off, none⟩) n cap] w fun e w' => e = .returned (.int .i64 (wrap64 x)) ∧ w = w' := by
  go_enter Tryz.func43, Tryz.ntmps43
  go_wp2
  go_loop [3, 4] (fun v s => ∃ j : Nat, j ≤ n ∧ s = .int .i64 ((j : Int) - 1) ∧ v = .int .i64 (wrap64 ((x / 2 ^ j : Nat) : Int))) (fun _ s => (intOf s + 1).toNat)
  case atStart => exact ⟨n, Nat.le_refl _, by go_num, by rw [top_zero hx, wrap64_zero]⟩
  case round =>
    obtain ⟨j, hj, rfl, rfl⟩ := hrel
    by_cases hlt : 0 < j
    · obtain ⟨j, rfl⟩ : ∃ m, j = m + 1 := ⟨j - 1, by omega⟩
      have e1 : ((j + 1 : Nat) : Int) - 1 = j := by omega
      rw [e1]
      have hc := hb.2 j (by omega)
      have hst := top_step x j
      have HS := Lib.hid hst
      clear hst e1
      go_wp2
      go_round
      case rel =>
        refine ⟨j, by omega, rfl, ?_⟩
        rw [num_step]
      case measure => simp [intOf]
    · obtain rfl : j = 0 := by omega
      go_wp2
      go_ret
      exact ⟨rfl, rfl⟩


theorem plus_bit (x y c i : Nat) (hc : c ≤ 1) : (bit x i + bit y i + (carryAt x y c i : Nat)) % 2 = bit (x + y + c) i := by
  unfold bit; have := sum_bit x y c i; omega
theorem plus_carry (x y c i : Nat) : (bit x i + bit y i + (carryAt x y c i : Nat)) / 2 = (carryAt x y c (i + 1) : Nat) := by
  unfold bit; have := carry_step x y c i; omega

set_option maxHeartbeats 800000 in
theorem plus_any (b1 b2 o1 o2 n c1 m2 c2 x y c : Nat) (cc : Int) (hcc : cc = c) (hn : n ≤ 1048576) (hm : n ≤ m2) (hc : c ≤ 1) (w : World) (h1 : Bits w b1 o1 n x) (h2 : Bits w b2 o2 n y) :
    Calls Tryz.prog 92 #[.slice (some ⟨b1, o1, none⟩) n c1, .slice (some ⟨b2, o2, none⟩) m2 c2, .int .i64 cc] w (NewBits w n (x + y + c)) := by
  subst hcc
  have hmk := make_ints n hn
  go_enter Tryz.func92, Tryz.ntmps92
  go_wp2
  go_loopw [2, 8] (fun cr s wr => ∃ i : Nat, i ≤ n ∧ s = .int .i64 i ∧ cr = .int .i64 (carryAt x y c i : Nat) ∧ Row wr w.heap.size 3 (itab n fun t => if t < i then bit (x + y + c) t else 0) ∧ Below w.heap.size w wr) (fun _ s _ => n - (intOf s).toNat)
  case atStart => exact ⟨0, Nat.zero_le _, rfl, by rw [carry_zero], fill_start _ _ _ _, (Below.refl _ _).alloc (Nat.le_refl _) _⟩
  case round =>
    obtain ⟨i, hi, rfl, rfl, hR, hB⟩ := hrel
    by_cases hlt : i < n
    · have hc0 := (hR.cell i).trans (itab_get _ hlt)
      have hf := hR.free i
      have e1 := (hB.cell (p := ⟨b1, o1 + i, none⟩) h1.1).trans (h1.2 i hlt)
      have e2 := (hB.cell (p := ⟨b2, o2 + i, none⟩) h2.1).trans (h2.2 i hlt)
      have k1 := bit_nonneg x i
      have k2 := bit_nonneg y i
      have k3 := bit_le x i
      have k4 := bit_le y i
      have k5 := carry_le x y c i hc
      have hm' : (i : Int) < m2 := by omega
      go_wp2
      go_quiet (fail)
      go_wp2
      go_roundw
      case rel => exact ⟨i + 1, hlt, by go_num, by rw [plus_carry], fill_step (hR.drewN nq) (plus_bit x y c i hc), (below_drewN hB nq).setCell (Nat.le_refl _) _⟩
      case measure => simp [intOf]; omega
    · obtain rfl : i = n := by omega
      go_wp2
      go_ret
      exact ⟨_, rfl, Nat.le_refl _, fill_end hR, hB⟩

theorem not_bit (x n i : Nat) (h : i < n) : 1 - bit x i = bit (2 ^ n - 1 - x % 2 ^ n) i := by
  rw [← bit_mod h (x := x)]
  have hy := Nat.mod_lt x (Nat.two_pow_pos n)
  generalize x % 2 ^ n = y at hy ⊢
  have e : 2 ^ n - 1 - y = 2 ^ n - (y + 1) := by omega
  rw [bit_test, bit_test, e, Nat.testBit_two_pow_sub_succ hy]
  cases y.testBit i <;> simp [h]

set_option maxHeartbeats 800000 in
theorem not_any (b o n c x : Nat) (hn : n ≤ 1048576) (w : World) (h1 : Bits w b o n x) :
    Calls Tryz.prog 93 #[.slice (some ⟨b, o, none⟩) n c] w (NewBits w n (2 ^ n - 1 - x % 2 ^ n)) := by
  have hmk := make_ints n hn
  go_enter Tryz.func93, Tryz.ntmps93
  go_wp2
  go_loopw [4] (fun s wr => ∃ i : Nat, i ≤ n ∧ s = .int .i64 i ∧ Row wr w.heap.size 3 (itab n fun t => if t < i then bit (2 ^ n - 1 - x % 2 ^ n) t else 0) ∧ Below w.heap.size w wr) (fun s _ => n - (intOf s).toNat)
  case atStart => exact ⟨0, Nat.zero_le _, rfl, fill_start _ _ _ _, (Below.refl _ _).alloc (Nat.le_refl _) _⟩
  case round =>
    obtain ⟨i, hi, rfl, hR, hB⟩ := hrel
    by_cases hlt : i < n
    · have hc0 := (hR.cell i).trans (itab_get _ hlt)
      have hf := hR.free i
      have e1 := (hB.cell (p := ⟨b, o + i, none⟩) h1.1).trans (h1.2 i hlt)
      have k1 := bit_nonneg x i
      have k3 := bit_le x i
      go_wp2
      go_roundw
      case rel => exact ⟨i + 1, hlt, by go_num, fill_step hR (not_bit x n i hlt), hB.setCell (Nat.le_refl _) _⟩
      case measure => simp [intOf]; omega
    · obtain rfl : i = n := by omega
      go_wp2
      go_ret
      exact ⟨_, rfl, Nat.le_refl _, fill_end hR, hB⟩

/-- A shift up by k places. -/
theorem up_bit (x k i : Nat) (h : k ≤ i) : bit x (i - k) = bit (x * 2 ^ k) i := by
  unfold bit
  have e : 2 ^ i = 2 ^ k * 2 ^ (i - k) := by rw [← Nat.pow_add]; congr 1; omega
  rw [e, ← Nat.div_div_eq_div_mul, Nat.mul_div_cancel _ (Nat.two_pow_pos k)]
theorem up_bit0 (x k i : Nat) (h : i < k) : bit (x * 2 ^ k) i = 0 := by
  unfold bit
  have e : 2 ^ k = 2 ^ i * (2 * 2 ^ (k - i - 1)) := by rw [← Nat.pow_succ', ← Nat.pow_add]; congr 1; omega
  rw [e, Nat.mul_left_comm, Nat.mul_div_cancel_left _ (Nat.two_pow_pos i), Nat.mul_left_comm, Nat.mul_mod_right]
  rfl

set_option maxHeartbeats 800000 in
theorem up_any (b o n c x k : Nat) (kk : Int) (hkk : kk = k) (hn : n ≤ 1048576) (hk : k ≤ 1048576) (w : World) (h1 : Bits w b o n x) :
    Calls Tryz.prog 97 #[.slice (some ⟨b, o, none⟩) n c, .int .i64 kk] w (NewBits w n (x * 2 ^ k)) := by
  subst hkk
  have hmk := make_ints n hn
  go_enter Tryz.func97, Tryz.ntmps97
  go_wp2
  go_loopw [6] (fun s wr => ∃ i : Nat, k ≤ i ∧ i ≤ n + k ∧ s = .int .i64 i ∧ Row wr w.heap.size 3 (itab n fun t => if t < i then bit (x * 2 ^ k) t else 0) ∧ Below w.heap.size w wr) (fun s _ => n - (intOf s).toNat)
  case atStart =>
    refine ⟨k, Nat.le_refl _, by omega, rfl, ?_, (Below.refl _ _).alloc (Nat.le_refl _) _⟩
    have e : itab n (fun t => if t < k then bit (x * 2 ^ k) t else 0) = itab n fun _ => 0 := by
      refine itab_congr fun t _ => ?_
      split
      · rename_i h; exact up_bit0 x k t h
      · rfl
    rw [e]
    exact Row.made _ _ _
  case round =>
    obtain ⟨i, hki, hi, rfl, hR, hB⟩ := hrel
    by_cases hlt : i < n
    · have hc0 := (hR.cell i).trans (itab_get _ hlt)
      have hf := hR.free i
      obtain ⟨j, rfl⟩ : ∃ j, i = k + j := ⟨i - k, by omega⟩
      have e1 := (hB.cell (p := ⟨b, o + j, none⟩) h1.1).trans (h1.2 j (by omega))
      have hu := up_bit x k (k + j) hki
      rw [Nat.add_sub_cancel_left] at hu
      have HU := Lib.hid hu
      clear hu
      go_wp2
      go_roundw
      case rel => exact ⟨k + j + 1, by omega, by omega, by go_num, fill_step hR HU.out, hB.setCell (Nat.le_refl _) _⟩
      case measure => simp [intOf]; omega
    · go_wp2
      go_ret
      refine ⟨_, rfl, Nat.le_refl _, ?_, hB⟩
      rwa [itab_congr (h := bit (x * 2 ^ k)) (fun t ht => if_pos (by omega))] at hR

/-- A shift down by k places, the places above it filled. -/
def downTo (x n k : Nat) (f : Int) (i : Nat) : Int := if i + k < n then bit x (i + k) else f

set_option maxHeartbeats 1600000 in
theorem down_any (b o n c x k : Nat) (f : Int) (kk : Int) (hkk : kk = k) (hn : n ≤ 1048576) (hk : k ≤ 1048576) (w : World) (h1 : Bits w b o n x) :
    Calls Tryz.prog 98 #[.slice (some ⟨b, o, none⟩) n c, .int .i64 kk, .int .i64 f] w fun e w' =>
      ∃ b', e = .returned (.slice (some ⟨b', 0, none⟩) n n) ∧ w.heap.size ≤ b' ∧ Row w' b' 3 (itab n (downTo x n k f)) ∧ Below w.heap.size w w' := by
  subst hkk
  have hmk := make_ints n hn
  go_enter Tryz.func98, Tryz.ntmps98
  go_wp2
  go_loopw [8] (fun s wr => ∃ i : Nat, i ≤ n ∧ s = .int .i64 i ∧ Row wr w.heap.size 3 (itab n fun t => if t < i then downTo x n k f t else 0) ∧ Below w.heap.size w wr) (fun s _ => n - (intOf s).toNat)
  case atStart => exact ⟨0, Nat.zero_le _, rfl, fill_start _ _ _ _, (Below.refl _ _).alloc (Nat.le_refl _) _⟩
  case round =>
    obtain ⟨i, hi, rfl, hR, hB⟩ := hrel
    by_cases hlt : i < n
    · have hc0 := (hR.cell i).trans (itab_get _ hlt)
      have hf := hR.free i
      have hR1 := hR.put i (.int .i64 f)
      have hf1 := hR1.free i
      have hc1 : (wr.setCell ⟨w.heap.size, i, none⟩ (.int .i64 f)).cell? ⟨w.heap.size, i, none⟩ = some (.int .i64 f) := by
        rw [hR1.cell i, itab_set, itab_get _ hlt]; simp
      by_cases hin : i + k < n
      · have e0 := (hB.cell (p := ⟨b, o + (i + k), none⟩) h1.1).trans (h1.2 (i + k) hin)
        have hne : b ≠ w.heap.size := by have := h1.1; omega
        have e1 : (wr.setCell ⟨w.heap.size, i, none⟩ (.int .i64 f)).cell? ⟨b, o + (i + k), none⟩ = some (.int .i64 (bit x (i + k))) := by
          rw [← e0]; exact World.cell?_of_block (Below.heap_setCell _ _ _ _ hne)
        clear hne
        go_wp2
        go_roundw
        case rel => exact ⟨i + 1, hlt, by go_num, fill_step2 hR (by unfold downTo; rw [if_pos hin]), (hB.setCell (Nat.le_refl _) _).setCell (Nat.le_refl _) _⟩
        case measure => simp [intOf]; omega
      · go_wp2
        go_roundw
        case rel => exact ⟨i + 1, hlt, by go_num, fill_step hR (by unfold downTo; rw [if_neg hin]), hB.setCell (Nat.le_refl _) _⟩
        case measure => simp [intOf]; omega
    · obtain rfl : i = n := by omega
      go_wp2
      go_ret
      exact ⟨_, rfl, Nat.le_refl _, fill_end hR, hB⟩
end Go.Proofs.YtcmplcdbkoodpaaGreatDoor
