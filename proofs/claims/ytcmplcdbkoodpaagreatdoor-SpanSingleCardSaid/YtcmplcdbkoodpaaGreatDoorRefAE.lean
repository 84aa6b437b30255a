import Derived.Test.YtcmplcdbkoodpaaGreatDoorRows
import Derived.Test.YtcmplcdbkoodpaaGreatDoorBase
import Derived.Test.YtcmplcdbkoodpaaGreatDoorBits
import Derived.WalkSpells
import Derived.WalkLawsBesides
import Derived.Deep.QuietTactic
import Derived.BigQuiet
import Derived.Lib.Hide
import Derived.Deep.RegionWith
import Derived.Deep.RegionHeld3
set_option maxHeartbeats 1600000
namespace Go.Proofs.YtcmplcdbkoodpaaGreatDoor
open Go.RowKit
set_option linter.unusedVariables false
def Bits (w : World) (b off n x : Nat) : Prop := b < w.heap.size /\ ∀ i, i < n -> w.cell? ⟨b, off + i, none⟩ = some (.int .i64 (bit x i))
def NewBits (w : World) (n x : Nat) (e : Ending) (w' : World) : Prop :=
 ∃ b, e = .returned (.slice (some ⟨b, 0, none⟩) n n) /\ w.heap.size <= b /\ Row w' b 3 (itab n (bit x)) /\ Below w.heap.size w w'
theorem Bits.below {w w' : World} {b off n x B : Nat} (h : Bits w b off n x) (hb : Below B w w') (hlt : b < B) : Bits w' b off n x :=
 ⟨Nat.lt_of_lt_of_le h.1 hb.size, fun i hi => (hb.cell (p := ⟨b, off + i, none⟩) hlt).trans (h.2 i hi)⟩
theorem Bits.row {w : World} {b n x : Nat} {e : TypeId} (h : Row w b e (itab n (bit x))) : Bits w b 0 n x :=
 ⟨h.lt, fun i hi => by rw [h.cell, Nat.zero_add, itab_get _ hi]⟩
theorem Bits.other {w : World} {b off n x : Nat} (h : Bits w b off n x) (a : Addr) (v : Value) (hne : b ≠ a.block) : Bits (w.setCell a v) b off n x :=
 ⟨by have := h.1; simpa [World.setCell] using this, fun i hi => (World.cell?_of_block (Below.heap_setCell _ _ _ _ hne)).trans (h.2 i hi)⟩
theorem make_ints (n : Nat) (hn : n <= 1048576) (w : World) : (Instr.makeSlice 68 (.int .i64 n) (.int .i64 n)).run Tryz.prog w =
 .ok (.slice (some ⟨w.heap.size, 0, none⟩) n n) (w.alloc (.cells (itab n (fun _ => 0)).toArray 3)) := by
 obtain ⟨i, hi, hz, hs, hb⟩ := info_parts (show (Tryz.prog.info? 3).map (fun i => (i.zero, i.size, i.bytes)) = some (some (.int .i64 0), 1, 8) by kernel_rfl)
 have h := run_make (P := Tryz.prog) w 68 3 i (.int .i64 0) Tryz.underlying68 hi hz .i64 .i64 n n (by omega) (by omega) (by rw [hb]; omega) (by omega)
 rw [h]
 simp only [Int.toNat_natCast, hs, Nat.mul_one, Value.cells]
 rw [<- itab_zero]
theorem make_ints' (n : Nat) (z : Int) (hz : z = n) (hn : n <= 1048576) (w : World) : (Instr.makeSlice 68 (.int .i64 z) (.int .i64 z)).run Tryz.prog w =
 .ok (.slice (some ⟨w.heap.size, 0, none⟩) n n) (w.alloc (.cells (itab n (fun _ => 0)).toArray 3)) := by
 subst hz; exact make_ints n hn w
theorem fill_step {wr : World} {n i b : Nat} {e : TypeId} {g : Nat -> Int} {v : Int} (hR : Row wr b e (itab n fun t => if t < i then g t else 0)) (hv : v = g i) :
 Row (wr.setCell ⟨b, i, none⟩ (.int .i64 v)) b e (itab n fun t => if t < i + 1 then g t else 0) := by
 have h := hR.put i (.int .i64 v)
 rw [itab_set] at h
 rwa [itab_congr (h := fun t => if t < i + 1 then g t else 0)] at h
 intro t _
 by_cases ht : t = i
 ·subst ht; simp [hv]
 ·have e2 : (t < i) ↔ (t < i + 1) := by omega
  simp [ht, e2]
theorem fill_step2 {wr : World} {n i b : Nat} {e : TypeId} {g : Nat -> Int} {u v : Int} (hR : Row wr b e (itab n fun t => if t < i then g t else 0)) (hv : v = g i) :
 Row ((wr.setCell ⟨b, i, none⟩ (.int .i64 u)).setCell ⟨b, i, none⟩ (.int .i64 v)) b e (itab n fun t => if t < i + 1 then g t else 0) := by
 have h := (hR.put i (.int .i64 u)).put i (.int .i64 v)
 rw [List.set_set] at h
 rw [itab_set] at h
 rwa [itab_congr (h := fun t => if t < i + 1 then g t else 0)] at h
 intro t _
 by_cases ht : t = i
 ·subst ht; simp [hv]
 ·have e2 : (t < i) ↔ (t < i + 1) := by omega
  simp [ht, e2]
theorem fill_end {wr : World} {n b : Nat} {e : TypeId} {g : Nat -> Int} (hR : Row wr b e (itab n fun t => if t < n then g t else 0)) : Row wr b e (itab n g) := by
 rwa [itab_congr (h := g) (fun t ht => if_pos ht)] at hR
theorem fill_start (w : World) (n : Nat) (e : TypeId) (g : Nat -> Int) : Row (w.alloc (.cells (itab n fun _ => 0).toArray e)) w.heap.size e (itab n fun t => if t < 0 then g t else 0) := by
 rw [itab_congr (h := fun _ => 0) (fun t _ => if_neg (by omega))]; exact Row.made _ _ _
theorem row_any (v : Int) (k : Nat) (kk : Int) (hkk : kk = k) (hk : k <= 64) (w : World) :
 Calls Tryz.prog 40 #[.int .i64 v, .int .i64 kk] w (NewBits w k (un v)) := by
 subst hkk
 have hmk := make_ints k (by omega)
 go_enter Tryz.func40, Tryz.ntmps40
 go_wp2
 go_loopw [6] (fun s wr => ∃ i : Nat, i <= k /\ s = .int .i64 i /\ Row wr w.heap.size 3 (itab k fun t => if t < i then bit (un v) t else 0) /\ Below w.heap.size w wr) (fun s _ => k - (intOf s).toNat)
 case atStart => exact ⟨0, Nat.zero_le _, rfl, fill_start _ _ _ _, (Below.refl _ _).alloc (Nat.le_refl _) _⟩
 case round =>
  obtain ⟨i, hi, rfl, hR, hB⟩ := hrel
  by_cases hlt : i < k
  ·have hc := (hR.cell i).trans (itab_get _ hlt)
   have hf := hR.free i
   go_wp2
   go_roundw
   case rel =>
    exact ⟨i + 1, hlt, by go_num, fill_step hR (by rw [i64_and_1, <- bit_un v (by omega)]), hB.setCell (Nat.le_refl _) _⟩
   case measure => simp [intOf]; omega
  ·obtain rfl : i = k := by omega
   go_wp2
   go_ret
   exact ⟨_, rfl, Nat.le_refl _, fill_end hR, hB⟩
theorem wrap64_zero : wrap64 ((0 : Nat) : Int) = 0 := by unfold wrap64; omega
theorem wrap_twice (x b : Int) : wrap64 (wrap64 (2 * wrap64 x) + b) = wrap64 (2 * x + b) := by unfold wrap64; omega
theorem num_step (x j : Nat) : wrap64 (wrap64 (2 * wrap64 ((x : Int) / 2 ^ (j + 1))) + bit x j) = wrap64 ((x / 2 ^ j : Nat) : Int) := by
 have h : (x : Int) / 2 ^ (j + 1) = ((x / 2 ^ (j + 1) : Nat) : Int) := by simp
 rw [wrap_twice, h]
 congr 1
 unfold bit
 have := top_step x j
 omega
theorem number_any (b off n cap x : Nat) (hn : n <= 64) (hx : x < 2 ^ n) (w : World) (hb : Bits w b off n x) :
 Calls Tryz.prog 43 #[.slice (some ⟨b, off, none⟩) n cap] w fun e w' => e = .returned (.int .i64 (wrap64 x)) /\ w = w' := by
 go_enter Tryz.func43, Tryz.ntmps43
 go_wp2
 go_loop [3, 4] (fun v s => ∃ j : Nat, j <= n /\ s = .int .i64 ((j : Int) - 1) /\ v = .int .i64 (wrap64 ((x / 2 ^ j : Nat) : Int))) (fun _ s => (intOf s + 1).toNat)
 case atStart => exact ⟨n, Nat.le_refl _, by go_num, by rw [top_zero hx, wrap64_zero]⟩
 case round =>
  obtain ⟨j, hj, rfl, rfl⟩ := hrel
  by_cases hlt : 0 < j
  ·obtain ⟨j, rfl⟩ : ∃ m, j = m + 1 := ⟨j - 1, by omega⟩
   have e1 : ((j + 1 : Nat) : Int) - 1 = j := by omega
   rw [e1]
   have hc := hb.2 j (by omega)
   have hst := top_step x j
   have HS := Lib.hid hst
   clear hst e1
   go_wp2
   go_round
   case rel =>
    refine ⟨j, by omega, rfl, ?_⟩
    rw [num_step]
   case measure => simp [intOf]
  ·obtain rfl : j = 0 := by omega
   go_wp2
   go_ret
   exact ⟨rfl, rfl⟩
theorem plus_bit (x y c i : Nat) (hc : c <= 1) : (bit x i + bit y i + (carryAt x y c i : Nat)) % 2 = bit (x + y + c) i := by
 unfold bit; have := sum_bit x y c i; omega
theorem plus_carry (x y c i : Nat) : (bit x i + bit y i + (carryAt x y c i : Nat)) / 2 = (carryAt x y c (i + 1) : Nat) := by
 unfold bit; have := carry_step x y c i; omega
theorem plus_any (b1 b2 o1 o2 n c1 m2 c2 x y c : Nat) (cc : Int) (hcc : cc = c) (hn : n <= 1048576) (hm : n <= m2) (hc : c <= 1) (w : World) (h1 : Bits w b1 o1 n x) (h2 : Bits w b2 o2 n y) :
 Calls Tryz.prog 92 #[.slice (some ⟨b1, o1, none⟩) n c1, .slice (some ⟨b2, o2, none⟩) m2 c2, .int .i64 cc] w (NewBits w n (x + y + c)) := by
 subst hcc
 have hmk := make_ints n hn
 go_enter Tryz.func92, Tryz.ntmps92
 go_wp2
 go_loopw [2, 8] (fun cr s wr => ∃ i : Nat, i <= n /\ s = .int .i64 i /\ cr = .int .i64 (carryAt x y c i : Nat) /\ Row wr w.heap.size 3 (itab n fun t => if t < i then bit (x + y + c) t else 0) /\ Below w.heap.size w wr) (fun _ s _ => n - (intOf s).toNat)
 case atStart => exact ⟨0, Nat.zero_le _, rfl, by rw [carry_zero], fill_start _ _ _ _, (Below.refl _ _).alloc (Nat.le_refl _) _⟩
 case round =>
  obtain ⟨i, hi, rfl, rfl, hR, hB⟩ := hrel
  by_cases hlt : i < n
  ·have hc0 := (hR.cell i).trans (itab_get _ hlt)
   have hf := hR.free i
   have e1 := (hB.cell (p := ⟨b1, o1 + i, none⟩) h1.1).trans (h1.2 i hlt)
   have e2 := (hB.cell (p := ⟨b2, o2 + i, none⟩) h2.1).trans (h2.2 i hlt)
   have k1 := bit_nonneg x i
   have k2 := bit_nonneg y i
   have k3 := bit_le x i
   have k4 := bit_le y i
   have k5 := carry_le x y c i hc
   have hm' : (i : Int) < m2 := by omega
   go_wp2
   go_quiet (fail)
   go_wp2
   go_roundw
   case rel => exact ⟨i + 1, hlt, by go_num, by rw [plus_carry], fill_step (hR.drewN nq) (plus_bit x y c i hc), (below_drewN hB nq).setCell (Nat.le_refl _) _⟩
   case measure => simp [intOf]; omega
  ·obtain rfl : i = n := by omega
   go_wp2
   go_ret
   exact ⟨_, rfl, Nat.le_refl _, fill_end hR, hB⟩
theorem not_bit (x n i : Nat) (h : i < n) : 1 - bit x i = bit (2 ^ n - 1 - x % 2 ^ n) i := by
 rw [<- bit_mod h (x := x)]
 have hy := Nat.mod_lt x (Nat.two_pow_pos n)
 generalize x % 2 ^ n = y at hy ⊢
 have e : 2 ^ n - 1 - y = 2 ^ n - (y + 1) := by omega
 rw [bit_test, bit_test, e, Nat.testBit_two_pow_sub_succ hy]
 cases y.testBit i <;> simp [h]
theorem not_any (b o n c x : Nat) (hn : n <= 1048576) (w : World) (h1 : Bits w b o n x) :
 Calls Tryz.prog 93 #[.slice (some ⟨b, o, none⟩) n c] w (NewBits w n (2 ^ n - 1 - x % 2 ^ n)) := by
 have hmk := make_ints n hn
 go_enter Tryz.func93, Tryz.ntmps93
 go_wp2
 go_loopw [4] (fun s wr => ∃ i : Nat, i <= n /\ s = .int .i64 i /\ Row wr w.heap.size 3 (itab n fun t => if t < i then bit (2 ^ n - 1 - x % 2 ^ n) t else 0) /\ Below w.heap.size w wr) (fun s _ => n - (intOf s).toNat)
 case atStart => exact ⟨0, Nat.zero_le _, rfl, fill_start _ _ _ _, (Below.refl _ _).alloc (Nat.le_refl _) _⟩
 case round =>
  obtain ⟨i, hi, rfl, hR, hB⟩ := hrel
  by_cases hlt : i < n
  ·have hc0 := (hR.cell i).trans (itab_get _ hlt)
   have hf := hR.free i
   have e1 := (hB.cell (p := ⟨b, o + i, none⟩) h1.1).trans (h1.2 i hlt)
   have k1 := bit_nonneg x i
   have k3 := bit_le x i
   go_wp2
   go_roundw
   case rel => exact ⟨i + 1, hlt, by go_num, fill_step hR (not_bit x n i hlt), hB.setCell (Nat.le_refl _) _⟩
   case measure => simp [intOf]; omega
  ·obtain rfl : i = n := by omega
   go_wp2
   go_ret
   exact ⟨_, rfl, Nat.le_refl _, fill_end hR, hB⟩
theorem up_bit (x k i : Nat) (h : k <= i) : bit x (i - k) = bit (x * 2 ^ k) i := by
 unfold bit
 have e : 2 ^ i = 2 ^ k * 2 ^ (i - k) := by rw [<- Nat.pow_add]; congr 1; omega
 rw [e, <- Nat.div_div_eq_div_mul, Nat.mul_div_cancel _ (Nat.two_pow_pos k)]
theorem up_bit0 (x k i : Nat) (h : i < k) : bit (x * 2 ^ k) i = 0 := by
 unfold bit
 have e : 2 ^ k = 2 ^ i * (2 * 2 ^ (k - i - 1)) := by rw [<- Nat.pow_succ', <- Nat.pow_add]; congr 1; omega
 rw [e, Nat.mul_left_comm, Nat.mul_div_cancel_left _ (Nat.two_pow_pos i), Nat.mul_left_comm, Nat.mul_mod_right]
 rfl
theorem up_any (b o n c x k : Nat) (kk : Int) (hkk : kk = k) (hn : n <= 1048576) (hk : k <= 1048576) (w : World) (h1 : Bits w b o n x) :
 Calls Tryz.prog 97 #[.slice (some ⟨b, o, none⟩) n c, .int .i64 kk] w (NewBits w n (x * 2 ^ k)) := by
 subst hkk
 have hmk := make_ints n hn
 go_enter Tryz.func97, Tryz.ntmps97
 go_wp2
 go_loopw [6] (fun s wr => ∃ i : Nat, k <= i /\ i <= n + k /\ s = .int .i64 i /\ Row wr w.heap.size 3 (itab n fun t => if t < i then bit (x * 2 ^ k) t else 0) /\ Below w.heap.size w wr) (fun s _ => n - (intOf s).toNat)
 case atStart =>
  refine ⟨k, Nat.le_refl _, by omega, rfl, ?_, (Below.refl _ _).alloc (Nat.le_refl _) _⟩
  have e : itab n (fun t => if t < k then bit (x * 2 ^ k) t else 0) = itab n fun _ => 0 := by
   refine itab_congr fun t _ => ?_
   split
   ·rename_i h; exact up_bit0 x k t h
   ·rfl
  rw [e]
  exact Row.made _ _ _
 case round =>
  obtain ⟨i, hki, hi, rfl, hR, hB⟩ := hrel
  by_cases hlt : i < n
  ·have hc0 := (hR.cell i).trans (itab_get _ hlt)
   have hf := hR.free i
   obtain ⟨j, rfl⟩ : ∃ j, i = k + j := ⟨i - k, by omega⟩
   have e1 := (hB.cell (p := ⟨b, o + j, none⟩) h1.1).trans (h1.2 j (by omega))
   have hu := up_bit x k (k + j) hki
   rw [Nat.add_sub_cancel_left] at hu
   have HU := Lib.hid hu
   clear hu
   go_wp2
   go_roundw
   case rel => exact ⟨k + j + 1, by omega, by omega, by go_num, fill_step hR HU.out, hB.setCell (Nat.le_refl _) _⟩
   case measure => simp [intOf]; omega
  ·go_wp2
   go_ret
   refine ⟨_, rfl, Nat.le_refl _, ?_, hB⟩
   rwa [itab_congr (h := bit (x * 2 ^ k)) (fun t ht => if_pos (by omega))] at hR
def downTo (x n k : Nat) (f : Int) (i : Nat) : Int := if i + k < n then bit x (i + k) else f
theorem down_any (b o n c x k : Nat) (f : Int) (kk : Int) (hkk : kk = k) (hn : n <= 1048576) (hk : k <= 1048576) (w : World) (h1 : Bits w b o n x) :
 Calls Tryz.prog 98 #[.slice (some ⟨b, o, none⟩) n c, .int .i64 kk, .int .i64 f] w fun e w' =>
  ∃ b', e = .returned (.slice (some ⟨b', 0, none⟩) n n) /\ w.heap.size <= b' /\ Row w' b' 3 (itab n (downTo x n k f)) /\ Below w.heap.size w w' := by
 subst hkk
 have hmk := make_ints n hn
 go_enter Tryz.func98, Tryz.ntmps98
 go_wp2
 go_loopw [8] (fun s wr => ∃ i : Nat, i <= n /\ s = .int .i64 i /\ Row wr w.heap.size 3 (itab n fun t => if t < i then downTo x n k f t else 0) /\ Below w.heap.size w wr) (fun s _ => n - (intOf s).toNat)
 case atStart => exact ⟨0, Nat.zero_le _, rfl, fill_start _ _ _ _, (Below.refl _ _).alloc (Nat.le_refl _) _⟩
 case round =>
  obtain ⟨i, hi, rfl, hR, hB⟩ := hrel
  by_cases hlt : i < n
  ·have hc0 := (hR.cell i).trans (itab_get _ hlt)
   have hf := hR.free i
   have hR1 := hR.put i (.int .i64 f)
   have hf1 := hR1.free i
   have hc1 : (wr.setCell ⟨w.heap.size, i, none⟩ (.int .i64 f)).cell? ⟨w.heap.size, i, none⟩ = some (.int .i64 f) := by
    rw [hR1.cell i, itab_set, itab_get _ hlt]; simp
   by_cases hin : i + k < n
   ·have e0 := (hB.cell (p := ⟨b, o + (i + k), none⟩) h1.1).trans (h1.2 (i + k) hin)
    have hne : b ≠ w.heap.size := by have := h1.1; omega
    have e1 : (wr.setCell ⟨w.heap.size, i, none⟩ (.int .i64 f)).cell? ⟨b, o + (i + k), none⟩ = some (.int .i64 (bit x (i + k))) := by
     rw [<- e0]; exact World.cell?_of_block (Below.heap_setCell _ _ _ _ hne)
    clear hne
    go_wp2
    go_roundw
    case rel => exact ⟨i + 1, hlt, by go_num, fill_step2 hR (by unfold downTo; rw [if_pos hin]), (hB.setCell (Nat.le_refl _) _).setCell (Nat.le_refl _) _⟩
    case measure => simp [intOf]; omega
   ·go_wp2
    go_roundw
    case rel => exact ⟨i + 1, hlt, by go_num, fill_step hR (by unfold downTo; rw [if_neg hin]), hB.setCell (Nat.le_refl _) _⟩
    case measure => simp [intOf]; omega
  ·obtain rfl : i = n := by omega
   go_wp2
   go_ret
   exact ⟨_, rfl, Nat.le_refl _, fill_end hR, hB⟩
theorem itab_below {w w' : World} {b n B : Nat} {e : TypeId} {g : Nat -> Int} (h : Row w b e (itab n g)) (hb : Below B w w') (hlt : b < B) : Row w' b e (itab n g) := h.below hb hlt
theorem times_step (x y i : Nat) (h : bit y i = 1) : x * (y % 2 ^ i) + x * 2 ^ i + 0 = x * (y % 2 ^ (i + 1)) := by
 have h' : y / 2 ^ i % 2 = 1 := by unfold bit at h; omega
 rw [Nat.mod_pow_succ, h', Nat.mul_one, Nat.mul_add]; omega
theorem times_skip (x y i : Nat) (h : ¬ bit y i = 1) : x * (y % 2 ^ i) = x * (y % 2 ^ (i + 1)) := by
 have h' : y / 2 ^ i % 2 = 0 := by unfold bit at h; omega
 rw [Nat.mod_pow_succ, h', Nat.mul_zero, Nat.add_zero]
theorem times_any (b1 b2 o1 o2 n c1 c2 x y : Nat) (hn : n <= 1048576) (w : World) (h1 : Bits w b1 o1 n x) (h2 : Bits w b2 o2 n y) :
 Calls Tryz.prog 94 #[.slice (some ⟨b1, o1, none⟩) n c1, .slice (some ⟨b2, o2, none⟩) n c2] w (NewBits w n (x * (y % 2 ^ n))) := by
 have hmk := make_ints n hn
 go_enter Tryz.func94, Tryz.ntmps94
 go_wp2
 go_loopw [5, 6] (fun c s wr => ∃ i bc : Nat, i <= n /\ s = .int .i64 i /\ c = .slice (some ⟨bc, 0, none⟩) n n /\ w.heap.size <= bc /\ Row wr bc 3 (itab n (bit (x * (y % 2 ^ i)))) /\ Below w.heap.size w wr) (fun _ s _ => n - (intOf s).toNat)
 case atStart =>
  refine ⟨0, w.heap.size, Nat.zero_le _, rfl, rfl, Nat.le_refl _, ?_, (Below.refl _ _).alloc (Nat.le_refl _) _⟩
  have e : itab n (bit (x * (y % 2 ^ 0))) = itab n fun _ => 0 := itab_congr fun t _ => by simp [Nat.mod_one, bit]
  rw [e]
  exact Row.made _ _ _
 case round =>
  obtain ⟨i, bc, hi, rfl, rfl, hbc, hR, hB⟩ := hrel
  by_cases hlt : i < n
  ·have e2 := (hB.cell (p := ⟨b2, o2 + i, none⟩) h2.1).trans (h2.2 i hlt)
   by_cases hbit : bit y i = 1
   ·rw [hbit] at e2
    go_wp2_with fail
    refine (up_any b1 o1 n c1 x i _ rfl hn (by omega) _ (h1.below hB h1.1)).mono ?_
    rintro e w1 ⟨bu, rfl, hbu, hRu, hBu⟩
    go_wp2_with fail
    refine (plus_any bc bu 0 0 n n n n (x * (y % 2 ^ i)) (x * 2 ^ i) 0 _ rfl hn (Nat.le_refl _) (by omega) _ (Bits.row (hR.below hBu hR.lt)) (Bits.row hRu)).mono ?_
    rintro e w2 ⟨bp, rfl, hbp, hRp, hBp⟩
    rw [times_step x y i hbit] at hRp
    have hs1 := hB.size
    have hs2 := hBu.size
    have hs3 := hR.lt
    go_wp2
    go_roundw
    case rel => exact ⟨i + 1, bp, hlt, by go_num, rfl, by omega, hRp, hB.trans ((hBu.mono hs1).trans (hBp.mono (by omega)))⟩
    case measure => simp [intOf]; omega
   ·have hbf : (bit y i == 1) = false := by simpa using hbit
    have HB := Lib.hid hbit
    clear hbit
    go_wp2
    go_roundw
    case rel => exact ⟨i + 1, bc, hlt, by go_num, rfl, hbc, by rw [<- times_skip x y i HB.out]; exact hR, hB⟩
    case measure => simp [intOf]; omega
  ·obtain rfl : i = n := by omega
   go_wp2
   go_ret
   exact ⟨bc, rfl, hbc, hR, hB⟩
theorem less_yes (x y j : Nat) (h : x / 2 ^ (j + 1) = y / 2 ^ (j + 1)) (hlt : bit x j < bit y j) : x < y := by
 have h1 := top_step x j
 have h2 := top_step y j
 unfold bit at hlt
 have h3 : x / 2 ^ j < y / 2 ^ j := by omega
 rcases Nat.lt_or_ge x y with h4 | h4
 ·exact h4
 ·have := Nat.div_le_div_right (c := 2 ^ j) h4; omega
theorem less_eqs (x y j : Nat) (h : x / 2 ^ (j + 1) = y / 2 ^ (j + 1)) (he : bit x j = bit y j) : x / 2 ^ j = y / 2 ^ j := by
 have h1 := top_step x j
 have h2 := top_step y j
 unfold bit at he
 omega
theorem less_any (b1 b2 o1 o2 n c1 c2 x y : Nat) (hn : n <= 1048576) (hx : x < 2 ^ n) (hy : y < 2 ^ n) (w : World) (h1 : Bits w b1 o1 n x) (h2 : Bits w b2 o2 n y) :
 Calls Tryz.prog 91 #[.slice (some ⟨b1, o1, none⟩) n c1, .slice (some ⟨b2, o2, none⟩) n c2] w fun e w' => e = .returned (.bool (decide (x < y))) /\ ∃ k, w' = w.drewN k := by
 go_enter Tryz.func91, Tryz.ntmps91
 go_wp2
 go_loopw [5] (fun s wr => ∃ j q : Nat, j <= n /\ s = .int .i64 ((j : Int) - 1) /\ x / 2 ^ j = y / 2 ^ j /\ wr = w.drewN q) (fun s _ => (intOf s + 1).toNat)
 case atStart => exact ⟨n, 0, Nat.le_refl _, by go_num, by rw [top_zero hx, top_zero hy], rfl⟩
 case round =>
  obtain ⟨j, q, hj, rfl, heq, rfl⟩ := hrel
  have HE := Lib.hid heq
  clear heq
  by_cases hlt : 0 < j
  ·obtain ⟨j, rfl⟩ : ∃ m, j = m + 1 := ⟨j - 1, by omega⟩
   have e0 : ((j + 1 : Nat) : Int) - 1 = j := by omega
   rw [e0]
   clear e0
   have e1 := h1.2 j (by omega)
   have e2 := h2.2 j (by omega)
   by_cases hb : bit x j = bit y j
   ·have hbf : (bit x j != bit y j) = false := by simpa using hb
    have HB := Lib.hid hb
    clear hb
    go_wp2
    go_quiet (fail)
    go_wp2
    go_roundw
    case rel => exact ⟨j, q + nq, by omega, by go_num, less_eqs x y j HE.out HB.out, rfl⟩
    case measure => simp [intOf]
   ·have hbf : (bit x j != bit y j) = true := by simpa using hb
    have HB := Lib.hid hb
    clear hb
    go_wp2
    go_quiet (fail)
    go_wp2
    go_quiet (fail)
    go_wp2
    go_ret
    refine ⟨ret_bool ?_, _, by rw [drewN_drewN, drewN_drewN]⟩
    rw [decide_eq_decide]
    constructor
    ·intro h; exact less_yes x y j HE.out h
    ·intro h
     rcases Int.lt_trichotomy (bit x j) (bit y j) with h' | h' | h'
     ·exact h'
     ·exact absurd h' HB.out
     ·have := less_yes y x j HE.out.symm h'; omega
  ·obtain rfl : j = 0 := by omega
   have HE' : x = y := by have := HE.out; simpa using this
   subst HE'
   clear HE
   go_wp2
   go_ret
   exact ⟨ret_bool (by simp), _, rfl⟩
theorem same_any (b1 b2 o1 o2 n c1 c2 x y : Nat) (hn : n <= 1048576) (hx : x < 2 ^ n) (hy : y < 2 ^ n) (w : World) (h1 : Bits w b1 o1 n x) (h2 : Bits w b2 o2 n y) :
 Calls Tryz.prog 42 #[.slice (some ⟨b1, o1, none⟩) n c1, .slice (some ⟨b2, o2, none⟩) n c2] w fun e w' => e = .returned (.bool (decide (x = y))) /\ ∃ k, w' = w.drewN k := by
 have h1' : ∀ k, Bits (w.drewN k) b1 o1 n x := fun k => h1
 have h2' : ∀ k, Bits (w.drewN k) b2 o2 n y := fun k => h2
 by_cases h : x < y
 ·have hd : decide (x < y) = true := by simpa using h
  have hne : ¬ x = y := by omega
  go_enter Tryz.func42, Tryz.ntmps42
  go_wp2_with fail
  refine (less_any b1 b2 o1 o2 n c1 c2 x y hn hx hy _ h1 h2).mono ?_
  rintro e w1 ⟨rfl, k, rfl⟩
  rw [hd]
  go_wp2
  go_ret
  exact ⟨ret_bool (by simp [hne]), _, rfl⟩
 ·have hd : decide (x < y) = false := by simpa using h
  go_enter Tryz.func42, Tryz.ntmps42
  go_wp2_with fail
  refine (less_any b1 b2 o1 o2 n c1 c2 x y hn hx hy _ h1 h2).mono ?_
  rintro e w1 ⟨rfl, k, rfl⟩
  rw [hd]
  go_wp2_with fail
  refine (less_any b2 b1 o2 o1 n c2 c1 y x hn hy hx _ (h2' k) (h1' k)).mono ?_
  rintro e w2 ⟨rfl, k2, rfl⟩
  go_wp2
  go_ret
  exact ⟨ret_bool (by rw [<- decide_not, decide_eq_decide]; omega), _, rfl⟩
theorem neg_same (x n : Nat) : 2 ^ n - 1 - x % 2 ^ n + 0 + 1 = 2 ^ n - x % 2 ^ n := by
 have := Nat.mod_lt x (Nat.two_pow_pos n)
 omega
theorem zero_bits (w : World) (n : Nat) : Row (w.alloc (.cells (itab n fun _ => 0).toArray 3)) w.heap.size 3 (itab n (bit 0)) := by
 have e : itab n (bit 0) = itab n fun _ => 0 := itab_congr fun t _ => by simp [bit]
 rw [e]; exact Row.made _ _ _
theorem negative_any (b o n c x : Nat) (hn : n <= 1048576) (w : World) (h1 : Bits w b o n x) :
 Calls Tryz.prog 99 #[.slice (some ⟨b, o, none⟩) n c] w (NewBits w n (2 ^ n - x % 2 ^ n)) := by
 have hmk := make_ints n hn
 go_enter Tryz.func99, Tryz.ntmps99
 go_wp2_with fail
 go_region_with (first
  | (go_at_call 93; refine (not_any b o n c x hn _ (by first | exact h1 | exact h1.below ((Below.refl w.heap.size w).alloc (Nat.le_refl _) _).drew h1.1)).mono ?_; rintro e w1 ⟨bn, rfl, hbn, hRn, hBn⟩)
  | (go_at_call 92; refine (plus_any _ _ 0 0 n n n n (2 ^ n - 1 - x % 2 ^ n) 0 1 _ rfl hn (Nat.le_refl _) (by omega) _ (by first | exact Bits.row (hRn.alloc _) | exact Bits.row hRn) (by first | exact Bits.row (zero_bits _ _) | exact Bits.row ((zero_bits w n).drew.below hBn (by simp)))).mono ?_; rintro e w2 ⟨bp, rfl, hbp, hRp, hBp⟩))
 all_goals rw [neg_same x n] at hRp
 ·have hs := hBn.size
  go_wp2
  go_ret
  refine ⟨bp, rfl, ?_, hRp, (((Below.refl w.heap.size w).drew.trans hBn).alloc hs _).trans (hBp.mono (by simp; exact Nat.le_succ_of_le hs))⟩
  simp at hbp; exact Nat.le_trans hs (by omega)
 ·have hs := hBn.size
  simp at hs
  go_wp2
  go_ret
  exact ⟨bp, rfl, by omega, hRp, (((Below.refl w.heap.size w).alloc (Nat.le_refl _) _).drew.trans (hBn.mono (by simp))).trans (hBp.mono (by omega))⟩
theorem far_minus (b o n c x : Nat) (hn0 : 0 < n) (hn : n <= 64) (w : World) (h1 : Bits w b o n x) (hs : bit x (n - 1) = 1) :
 Calls Tryz.prog 157 #[.slice (some ⟨b, o, none⟩) n c] w fun e w' =>
  ∃ q, e = .returned (.tuple #[.slice (some ⟨q, 0, none⟩) n n, .int .i64 1]) /\ Bits w' q 0 n (2 ^ n - x % 2 ^ n) /\ Below w.heap.size w w' /\ w.heap.size <= q := by
 have e1 := h1.2 (n - 1) (by omega)
 rw [hs] at e1
 have ei : ((n : Int) - 1).toNat = n - 1 := by omega
 go_enter Tryz.func157, Tryz.ntmps157
 go_wp2_with fail
 refine (negative_any b o n c x (by omega) _ h1).mono ?_
 rintro e w1 ⟨q, rfl, hq, hR, hB⟩
 go_wp2
 go_ret2
 exact ⟨q, rfl, Bits.row hR, hB, hq⟩
theorem far_plus (b o n c x : Nat) (hn0 : 0 < n) (hn : n <= 64) (w : World) (h1 : Bits w b o n x) (hs : bit x (n - 1) = 0) :
 Calls Tryz.prog 157 #[.slice (some ⟨b, o, none⟩) n c] w fun e w' =>
  e = .returned (.tuple #[.slice (some ⟨b, o, none⟩) n c, .int .i64 0]) /\ w = w' := by
 have e1 := h1.2 (n - 1) (by omega)
 rw [hs] at e1
 have ei : ((n : Int) - 1).toNat = n - 1 := by omega
 go_enter Tryz.func157, Tryz.ntmps157
 go_wp2
 go_ret2
 exact ⟨rfl, rfl⟩
theorem bit_or (x y i : Nat) : bit (x ||| y) i = if 0 < bit x i + bit y i then 1 else 0 := by
 rw [bit_test, bit_test, bit_test, Nat.testBit_or]
 cases x.testBit i <;> cases y.testBit i <;> simp
theorem bit_and (x y i : Nat) : bit (x &&& y) i = if bit x i + bit y i = 2 then 1 else 0 := by
 rw [bit_test, bit_test, bit_test, Nat.testBit_and]
 cases x.testBit i <;> cases y.testBit i <;> simp
theorem bit_xor (x y i : Nat) : bit (x ^^^ y) i = if bit x i + bit y i = 1 then 1 else 0 := by
 rw [bit_test, bit_test, bit_test, Nat.testBit_xor]
 cases x.testBit i <;> cases y.testBit i <;> simp
theorem fill_skip {wr : World} {n i b : Nat} {e : TypeId} {g : Nat -> Int} (hR : Row wr b e (itab n fun t => if t < i then g t else 0)) (hv : 0 = g i) :
 Row wr b e (itab n fun t => if t < i + 1 then g t else 0) := by
 rwa [itab_congr (h := fun t => if t < i + 1 then g t else 0)] at hR
 intro t _
 by_cases ht : t = i
 ·subst ht; simp [hv]
 ·have e2 : (t < i) ↔ (t < i + 1) := by omega
  simp [e2]
theorem or_any (b1 b2 o1 o2 n c1 m2 c2 x y : Nat) (hn : n <= 64) (hm : n <= m2) (w : World) (h1 : Bits w b1 o1 n x) (h2 : Bits w b2 o2 n y) :
 Calls Tryz.prog 100 #[.int .i64 8, .slice (some ⟨b1, o1, none⟩) n c1, .slice (some ⟨b2, o2, none⟩) m2 c2] w (NewBits w n (x ||| y)) := by
 have hmk := make_ints n (by omega)
 go_enter Tryz.func100, Tryz.ntmps100
 go_wp2
 go_loopw [8] (fun s wr => ∃ i : Nat, i <= n /\ s = .int .i64 i /\ Row wr w.heap.size 3 (itab n fun t => if t < i then bit (x ||| y) t else 0) /\ Below w.heap.size w wr) (fun s _ => n - (intOf s).toNat)
 case atStart => exact ⟨0, Nat.zero_le _, rfl, fill_start _ _ _ _, (Below.refl _ _).alloc (Nat.le_refl _) _⟩
 case round =>
  obtain ⟨i, hi, rfl, hR, hB⟩ := hrel
  by_cases hlt : i < n
  ·have hc0 := (hR.cell i).trans (itab_get _ hlt)
   have hf := hR.free i
   have e1 := (hB.cell (p := ⟨b1, o1 + i, none⟩) h1.1).trans (h1.2 i hlt)
   have e2 := (hB.cell (p := ⟨b2, o2 + i, none⟩) h2.1).trans (h2.2 i hlt)
   have k1 := bit_nonneg x i
   have k2 := bit_nonneg y i
   have k3 := bit_le x i
   have k4 := bit_le y i
   have hm' : (i : Int) < m2 := by omega
   have hb := bit_or x y i
   by_cases ht : 0 < bit x i + bit y i
   ·rw [if_pos ht] at hb
    have HB := Lib.hid hb
    have hd : decide (0 < bit x i + bit y i) = true := by simpa using ht
    have HT := Lib.hid ht
    clear hb ht
    go_wp2
    go_quiet (fail)
    go_wp2
    go_roundw
    case rel => exact ⟨i + 1, hlt, by go_num, fill_step (hR.drewN nq) HB.out.symm, (below_drewN hB nq).setCell (Nat.le_refl _) _⟩
    case measure => simp [intOf]; omega
   ·rw [if_neg ht] at hb
    have HB := Lib.hid hb
    have hd : decide (0 < bit x i + bit y i) = false := by simpa using ht
    have HT := Lib.hid ht
    clear hb ht
    go_wp2
    go_quiet (fail)
    go_wp2
    go_roundw
    case rel => exact ⟨i + 1, hlt, by go_num, fill_skip (hR.drewN nq) HB.out.symm, below_drewN hB nq⟩
    case measure => simp [intOf]; omega
  ·obtain rfl : i = n := by omega
   go_wp2
   go_ret
   exact ⟨_, rfl, Nat.le_refl _, fill_end hR, hB⟩
theorem and_any (b1 b2 o1 o2 n c1 m2 c2 x y : Nat) (hn : n <= 64) (hm : n <= m2) (w : World) (h1 : Bits w b1 o1 n x) (h2 : Bits w b2 o2 n y) :
 Calls Tryz.prog 100 #[.int .i64 9, .slice (some ⟨b1, o1, none⟩) n c1, .slice (some ⟨b2, o2, none⟩) m2 c2] w (NewBits w n (x &&& y)) := by
 have hmk := make_ints n (by omega)
 go_enter Tryz.func100, Tryz.ntmps100
 go_wp2
 go_loopw [8] (fun s wr => ∃ i : Nat, i <= n /\ s = .int .i64 i /\ Row wr w.heap.size 3 (itab n fun t => if t < i then bit (x &&& y) t else 0) /\ Below w.heap.size w wr) (fun s _ => n - (intOf s).toNat)
 case atStart => exact ⟨0, Nat.zero_le _, rfl, fill_start _ _ _ _, (Below.refl _ _).alloc (Nat.le_refl _) _⟩
 case round =>
  obtain ⟨i, hi, rfl, hR, hB⟩ := hrel
  by_cases hlt : i < n
  ·have hc0 := (hR.cell i).trans (itab_get _ hlt)
   have hf := hR.free i
   have e1 := (hB.cell (p := ⟨b1, o1 + i, none⟩) h1.1).trans (h1.2 i hlt)
   have e2 := (hB.cell (p := ⟨b2, o2 + i, none⟩) h2.1).trans (h2.2 i hlt)
   have k1 := bit_nonneg x i
   have k2 := bit_nonneg y i
   have k3 := bit_le x i
   have k4 := bit_le y i
   have hm' : (i : Int) < m2 := by omega
   have hb := bit_and x y i
   by_cases ht : bit x i + bit y i = 2
   ·rw [if_pos ht] at hb
    have HB := Lib.hid hb
    have hd : ((bit x i + bit y i) == 2) = true := by simpa using ht
    have HT := Lib.hid ht
    clear hb ht
    go_wp2
    go_quiet (fail)
    go_wp2
    go_roundw
    case rel => exact ⟨i + 1, hlt, by go_num, fill_step (hR.drewN nq) HB.out.symm, (below_drewN hB nq).setCell (Nat.le_refl _) _⟩
    case measure => simp [intOf]; omega
   ·rw [if_neg ht] at hb
    have HB := Lib.hid hb
    have hd : ((bit x i + bit y i) == 2) = false := by simpa using ht
    have HT := Lib.hid ht
    clear hb ht
    go_wp2
    go_quiet (fail)
    go_wp2
    go_roundw
    case rel => exact ⟨i + 1, hlt, by go_num, fill_skip (hR.drewN nq) HB.out.symm, below_drewN hB nq⟩
    case measure => simp [intOf]; omega
  ·obtain rfl : i = n := by omega
   go_wp2
   go_ret
   exact ⟨_, rfl, Nat.le_refl _, fill_end hR, hB⟩
theorem xor_any (b1 b2 o1 o2 n c1 m2 c2 x y : Nat) (hn : n <= 64) (hm : n <= m2) (w : World) (h1 : Bits w b1 o1 n x) (h2 : Bits w b2 o2 n y) :
 Calls Tryz.prog 100 #[.int .i64 10, .slice (some ⟨b1, o1, none⟩) n c1, .slice (some ⟨b2, o2, none⟩) m2 c2] w (NewBits w n (x ^^^ y)) := by
 have hmk := make_ints n (by omega)
 go_enter Tryz.func100, Tryz.ntmps100
 go_wp2
 go_loopw [8] (fun s wr => ∃ i : Nat, i <= n /\ s = .int .i64 i /\ Row wr w.heap.size 3 (itab n fun t => if t < i then bit (x ^^^ y) t else 0) /\ Below w.heap.size w wr) (fun s _ => n - (intOf s).toNat)
 case atStart => exact ⟨0, Nat.zero_le _, rfl, fill_start _ _ _ _, (Below.refl _ _).alloc (Nat.le_refl _) _⟩
 case round =>
  obtain ⟨i, hi, rfl, hR, hB⟩ := hrel
  by_cases hlt : i < n
  ·have hc0 := (hR.cell i).trans (itab_get _ hlt)
   have hf := hR.free i
   have e1 := (hB.cell (p := ⟨b1, o1 + i, none⟩) h1.1).trans (h1.2 i hlt)
   have e2 := (hB.cell (p := ⟨b2, o2 + i, none⟩) h2.1).trans (h2.2 i hlt)
   have k1 := bit_nonneg x i
   have k2 := bit_nonneg y i
   have k3 := bit_le x i
   have k4 := bit_le y i
   have hm' : (i : Int) < m2 := by omega
   have hb := bit_xor x y i
   by_cases ht : bit x i + bit y i = 1
   ·rw [if_pos ht] at hb
    have HB := Lib.hid hb
    have hd : ((bit x i + bit y i) == 1) = true := by simpa using ht
    have HT := Lib.hid ht
    clear hb ht
    go_wp2
    go_quiet (fail)
    go_wp2
    go_roundw
    case rel => exact ⟨i + 1, hlt, by go_num, fill_step (hR.drewN nq) HB.out.symm, (below_drewN hB nq).setCell (Nat.le_refl _) _⟩
    case measure => simp [intOf]; omega
   ·rw [if_neg ht] at hb
    have HB := Lib.hid hb
    have hd : ((bit x i + bit y i) == 1) = false := by simpa using ht
    have HT := Lib.hid ht
    clear hb ht
    go_wp2
    go_quiet (fail)
    go_wp2
    go_roundw
    case rel => exact ⟨i + 1, hlt, by go_num, fill_skip (hR.drewN nq) HB.out.symm, below_drewN hB nq⟩
    case measure => simp [intOf]; omega
  ·obtain rfl : i = n := by omega
   go_wp2
   go_ret
   exact ⟨_, rfl, Nat.le_refl _, fill_end hR, hB⟩
theorem ints_get {n : Nat} (g : Nat -> Int) {j : Nat} {u : Value} (h : (itab n g)[j]? = some u) : j < n /\ u = .int .i64 (g j) := by
 by_cases hj : j < n
 ·rw [itab_get g hj] at h
  exact ⟨hj, (Option.some.inj h).symm⟩
 ·rw [List.getElem?_eq_none (by rw [itab_length]; omega)] at h
  cases h
theorem addr_add (b o j : Nat) : (⟨b, o, none⟩ : Addr).add j = ⟨b, o + j, none⟩ := by
 unfold Addr.add; split
 ·subst_vars; rfl
 ·rfl
theorem Bits.news {w : World} {b o n x : Nat} (h : Bits w b o n x) : ∀ j u, (itab n (bit x))[j]? = some u -> w.cell? ((⟨b, o, none⟩ : Addr).add j) = some u := by
 intro j u hu
 obtain ⟨hj, rfl⟩ := ints_get _ hu
 rw [addr_add]; exact h.2 j hj
theorem ints_one {n : Nat} (g : Nat -> Int) : ∀ u ∈ itab n g, u.oneCell' = true := by
 intro u hu
 simp only [itab, List.mem_map] at hu
 obtain ⟨i, _, rfl⟩ := hu
 rfl
theorem own_bits {w : World} {base n x : Nat} {v : Value} {xs : List Value} (h : w.ownsRow base 3 1 v n xs) (hn : 0 < n) (hx : xs = itab n (bit x)) :
 ∃ g cap, v = .slice (some ⟨g, 0, none⟩) n cap /\ base <= g /\ Bits w g 0 n x := by
 obtain ⟨hlen, h⟩ := h
 rcases h with ⟨_, h0⟩ | ⟨g, cap, cur, rfl, hb, hg, h1, h2, h3, h4⟩
 ·omega
 ·refine ⟨g, cap, rfl, hb, lt_of_block hg, fun i hi => ?_⟩
  rw [Nat.zero_add, cell_of_row w g i cur 3 (0, 0) hg]
  have : (cur.toList.take (n * 1))[i]? = xs[i]? := by rw [h4]
  rw [hx, itab_get _ hi, List.getElem?_take, if_pos (by omega)] at this
  simpa using this
theorem info_int : (Tryz.prog.info? 3).map (fun i => (i.zero, i.size, i.bytes)) = some (some (.int .i64 0), 1, 8) := by kernel_rfl
theorem wide_bits (n y : Nat) (hy : y < 2 ^ n) : itab n (bit y) ++ [Value.int .i64 0] = itab (n + 1) (bit y) := by
 unfold itab
 rw [List.range_succ, List.map_append]
 simp only [List.map_cons, List.map_nil, bit, top_zero hy]; rfl
theorem div_less (x y j : Nat) (hy0 : y ≠ 0) (h : x / 2 ^ (j + 1) % y * 2 + x / 2 ^ j % 2 < y) :
 x / 2 ^ j % y = x / 2 ^ (j + 1) % y * 2 + x / 2 ^ j % 2 /\ bit (x / y) j = 0 := by
 have e := top_step x j
 have d := Nat.div_add_mod (x / 2 ^ (j + 1)) y
 have e2 : x / 2 ^ j = (x / 2 ^ (j + 1) % y * 2 + x / 2 ^ j % 2) + y * (2 * (x / 2 ^ (j + 1) / y)) := by
  rw [Nat.mul_left_comm]; omega
 constructor
 ·conv => lhs; rw [e2]
  rw [Nat.add_mul_mod_self_left, Nat.mod_eq_of_lt h]
 ·unfold bit
  rw [Nat.div_div_eq_div_mul, Nat.mul_comm y, <- Nat.div_div_eq_div_mul]
  conv => lhs; rw [e2]
  rw [Nat.add_mul_div_left _ _ (by omega), Nat.div_eq_of_lt h]
  omega
theorem div_more (x y j : Nat) (hy0 : y ≠ 0) (h : ¬ x / 2 ^ (j + 1) % y * 2 + x / 2 ^ j % 2 < y) :
 x / 2 ^ j % y = x / 2 ^ (j + 1) % y * 2 + x / 2 ^ j % 2 - y /\ bit (x / y) j = 1 := by
 have e := top_step x j
 have d := Nat.div_add_mod (x / 2 ^ (j + 1)) y
 have l := Nat.mod_lt (x / 2 ^ (j + 1)) (show 0 < y by omega)
 have e2 : x / 2 ^ j = (x / 2 ^ (j + 1) % y * 2 + x / 2 ^ j % 2 - y) + y * (2 * (x / 2 ^ (j + 1) / y) + 1) := by
  rw [Nat.mul_add, Nat.mul_left_comm]; omega
 have h2 : x / 2 ^ (j + 1) % y * 2 + x / 2 ^ j % 2 - y < y := by omega
 constructor
 ·conv => lhs; rw [e2]
  rw [Nat.add_mul_mod_self_left, Nat.mod_eq_of_lt h2]
 ·unfold bit
  rw [Nat.div_div_eq_div_mul, Nat.mul_comm y, <- Nat.div_div_eq_div_mul]
  conv => lhs; rw [e2]
  rw [Nat.add_mul_div_left _ _ (by omega), Nat.div_eq_of_lt h2]
  omega
theorem low_in (r x j n : Nat) : (itab n (bit (r * 2 ^ 1))).set 0 (.int .i64 (bit x j)) = itab n (bit (r * 2 + x / 2 ^ j % 2)) := by
 rw [itab_set]
 refine itab_congr fun t _ => ?_
 cases t with
 | zero => simp [bit]
 | succ t =>
   simp only [Nat.succ_ne_zero, if_false]
   unfold bit
   have e : 2 ^ (t + 1) = 2 * 2 ^ t := by rw [Nat.pow_succ']
   rw [e, <- Nat.div_div_eq_div_mul, <- Nat.div_div_eq_div_mul]
   congr 3
   omega
theorem sub_bits (a y n i : Nat) (h : i < n) (hle : y <= a) (hy : y < 2 ^ n) : bit (a + (2 ^ n - 1 - y % 2 ^ n) + 1) i = bit (a - y) i := by
 have e : a + (2 ^ n - 1 - y % 2 ^ n) + 1 = (a - y) + 2 ^ n * 1 := by
  rw [Nat.mod_eq_of_lt hy]; omega
 refine bit_of_mod_eq h ?_
 rw [e, Nat.add_mul_mod_self_left]
theorem divided_any (b1 b2 o1 o2 n c1 c2 x y : Nat) (hn0 : 0 < n) (hn : n <= 64) (hx : x < 2 ^ n) (hy : y < 2 ^ n) (hy0 : y ≠ 0) (w : World) (h1 : Bits w b1 o1 n x) (h2 : Bits w b2 o2 n y) :
 Calls Tryz.prog 95 #[.slice (some ⟨b1, o1, none⟩) n c1, .slice (some ⟨b2, o2, none⟩) n c2] w fun e w' =>
  ∃ q r cr, e = .returned (.tuple #[.slice (some ⟨q, 0, none⟩) n n, .slice (some ⟨r, 0, none⟩) n cr]) /\ Bits w' q 0 n (x / y) /\ Bits w' r 0 n (x % y) /\ Below w.heap.size w w' /\ w.heap.size <= q /\ w.heap.size <= r := by
 have hmk := make_ints n (by omega)
 have hmk1 := make_ints' (n + 1) ((n : Int) + 1) (by omega) (by omega)
 obtain ⟨i0, hi, hz0, hz1, hz2⟩ := info_parts info_int
 go_enter Tryz.func95, Tryz.ntmps95
 go_wp2_with (first
  | (at_builtin; refine wpList_append_own _ rfl (.tmp 10) (.tmp 11) 68 rfl w.heap.size 3 i0 (.int .i64 0) 1 8 Tryz.underlying68 hi hz0 hz1 hz2 rfl (by decide) (.slice (some ⟨w.heap.size, 0, none⟩) 0 0) 0 [] rfl (World.ownsRow_made w #[] 0 (Nat.le_refl _) (by decide) rfl) ⟨b2, o2, none⟩ n c2 (itab n (bit y)) rfl (by rw [itab_length]; omega) (h2.below ((Below.refl _ _).alloc (Nat.le_refl _) _) h2.1).news (ints_one _) (by unfold maxLen; omega) (by omega) (by simp) ?_; intro v1 w1 hown1 hgrow1 _; have hB1 : Below w.heap.size w w1 := Below.grown ((Below.refl _ _).alloc (Nat.le_refl _) _) hgrow1 (by simp) (by intro k hk; simp [Value.ownBlock] at hk; omega); clear hgrow1)
  | (at_builtin; refine wpList_append_own _ rfl (.tmp 12) (.tmp 13) 68 rfl w.heap.size 3 i0 (.int .i64 0) 1 8 Tryz.underlying68 hi hz0 hz1 hz2 rfl (by decide) v1 (0 + n) ([] ++ itab n (bit y)) rfl (hown1.alloc _) ⟨w1.heap.size, 0, none⟩ 1 1 [.int .i64 0] rfl rfl (cell_one_new _ _ _) (by simp; rfl) (by unfold maxLen; omega) (by omega) (by have := hB1.size; simp; omega) ?_; intro v2 w2 hown2 hgrow2 _; have hB2 : Below w.heap.size w w2 := Below.grown (hB1.alloc hB1.size _) hgrow2 (by have := hB1.size; simp; omega) (fun k hk => (hown1.lt k hk).1); clear hgrow2; obtain ⟨g, cap, hv2, hg, hb2⟩ := own_bits hown2 (Nat.succ_pos _) (by rw [List.nil_append, wide_bits n y hy, Nat.zero_add]); clear hown2 hown1; rw [Nat.zero_add] at hv2 hb2; subst hv2))
 have hs2 := hB2.size
 have hgl := hb2.1
 obtain ⟨bq, hbq⟩ : ∃ k, k = w2.heap.size + 1 := ⟨_, rfl⟩
 have HQ := Lib.hid hbq
 rw [<- hbq]
 go_loopw [7, 9] (fun r s wr => ∃ j br : Nat, j <= n /\ s = .int .i64 ((j : Int) - 1) /\ r = .slice (some ⟨br, 0, none⟩) (n + 1) (n + 1) /\
  w.heap.size <= br /\ br ≠ bq /\ Row wr br 3 (itab (n + 1) (bit (x / 2 ^ j % y))) /\ Row wr bq 3 (itab n fun t => if j <= t then bit (x / y) t else 0) /\ Bits wr g 0 (n + 1) y /\ Below w.heap.size w wr)
  (fun _ s _ => (intOf s + 1).toNat)
 case atStart =>
  refine ⟨n, w2.heap.size, Nat.le_refl _, by go_num, rfl, hs2, by omega, ?_, ?_, ?_, ?_⟩
  ·have e : itab (n + 1) (bit (x / 2 ^ n % y)) = itab (n + 1) fun _ => 0 := by rw [top_zero hx]; exact itab_congr fun t _ => by simp [bit]
   rw [e]; exact (Row.made w2 _ _).alloc _
  ·have e : itab n (fun t => if n <= t then bit (x / y) t else 0) = itab n fun _ => 0 := itab_congr fun t ht => by rw [if_neg (by omega)]
   rw [e, hbq]
   have := Row.made (w2.alloc (.cells (itab (n + 1) fun _ => 0).toArray 3)) (itab n fun _ => 0) 3
   simpa using this
  ·exact hb2.below (((Below.refl _ _).alloc (Nat.le_refl _) _).alloc (by simp) _) hgl
  ·exact (hB2.alloc hs2 _).alloc (by simp; omega) _
 case round =>
  obtain ⟨j, br, hj, rfl, rfl, hbr, hne, hR, hQ, hG, hB⟩ := hrel
  clear hbq
  by_cases hlt : 0 < j
  ·obtain ⟨j, rfl⟩ : ∃ m, j = m + 1 := ⟨j - 1, by omega⟩
   have e0 : ((j + 1 : Nat) : Int) - 1 = j := by omega
   rw [e0]
   clear e0
   have hql := hQ.lt
   have hrl := hR.lt
   have hs := hB.size
   go_wp2_with fail
   refine (up_any br 0 (n + 1) (n + 1) (x / 2 ^ (j + 1) % y) 1 _ rfl (by omega) (by omega) _ (Bits.row hR)).mono ?_
   rintro e w3 ⟨bu, rfl, hbu, hRu, hBu⟩
   have e1 := ((hB.trans (hBu.mono hs)).cell (p := ⟨b1, o1 + j, none⟩) h1.1).trans (h1.2 j (by omega))
   have e2 := (hRu.cell 0).trans (itab_get _ (Nat.succ_pos n))
   have hf := hRu.free 0
   have hR3 := hRu.put 0 (.int .i64 (bit x j))
   rw [low_in] at hR3
   have hG3 := hG.below hBu hG.1
   have hQ3 := (hQ.below hBu hql).other ⟨bu, 0, none⟩ (.int .i64 (bit x j)) (by show bq ≠ bu; omega)
   have hG4 : Bits (w3.setCell ⟨bu, 0, none⟩ (.int .i64 (bit x j))) g 0 (n + 1) y := hG3.other ⟨bu, 0, none⟩ _ (by have := hG.1; show g ≠ bu; omega)
   have hrm := Nat.mod_lt (x / 2 ^ (j + 1)) (show 0 < y by omega)
   have hb1 := Nat.mod_lt (x / 2 ^ j) (show 0 < 2 by omega)
   have h2n : 2 ^ (n + 1) = 2 * 2 ^ n := Nat.pow_succ'
   have HL := Lib.hid (show x / 2 ^ (j + 1) % y * 2 + x / 2 ^ j % 2 < 2 ^ (n + 1) by omega)
   have HY := Lib.hid (show y < 2 ^ (n + 1) by omega)
   have hs3 := hBu.size
   have hB3 : Below w.heap.size w (w3.setCell ⟨bu, 0, none⟩ (.int .i64 (bit x j))) := (hB.trans (hBu.mono hs)).setCell (by show w.heap.size <= bu; omega) _
   have hul := hR3.lt
   generalize hW4 : w3.setCell ⟨bu, 0, none⟩ (.int .i64 (bit x j)) = w4 at hR3 hQ3 hG4 hB3 hul
   clear h2n hrm hb1
   go_wp2_with fail
   clear hW4 hR hQ hG hB e1 e2 hf hRu hG3
   refine (less_any bu g 0 0 (n + 1) (n + 1) cap (x / 2 ^ (j + 1) % y * 2 + x / 2 ^ j % 2) y (by omega) HL.out HY.out _ (Bits.row hR3) hG4).mono ?_
   rintro e w5 ⟨rfl, k5, rfl⟩
   by_cases hless : x / 2 ^ (j + 1) % y * 2 + x / 2 ^ j % 2 < y
   ·have hd : decide (x / 2 ^ (j + 1) % y * 2 + x / 2 ^ j % 2 < y) = true := by simpa using hless
    rw [hd]
    clear hd
    obtain ⟨d1, d2⟩ := div_less x y j hy0 hless
    have D1 := Lib.hid d1
    have D2 := Lib.hid d2
    clear d1 d2 hless
    go_wp2
    go_roundw
    case rel =>
     refine ⟨j, bu, by omega, by go_num, rfl, by omega, by omega, ?_, ?_, hG4, below_drewN hB3 _⟩
     ·rw [D1.out]; exact hR3
     ·have e : itab n (fun t => if j ≤ t then bit (x / y) t else 0) = itab n fun t => if j + 1 ≤ t then bit (x / y) t else 0 := by
       refine itab_congr fun t _ => ?_
       by_cases ht : t = j
       ·subst ht; simp [D2.out]
       ·have e2 : (j <= t) ↔ (j + 1 <= t) := by omega
        simp only [e2]
      rw [e]; exact hQ3
    case measure => simp [intOf]
   ·have hd : decide (x / 2 ^ (j + 1) % y * 2 + x / 2 ^ j % 2 < y) = false := by simpa using hless
    rw [hd]
    clear hd
    obtain ⟨d1, d2⟩ := div_more x y j hy0 hless
    have D1 := Lib.hid d1
    have D2 := Lib.hid d2
    have HN := Lib.hid hless
    clear d1 d2 hless
    have hgl4 := hG4.1
    have hql4 := hQ3.lt
    go_wp2_with fail
    refine (not_any g 0 (n + 1) cap y (by omega) _ (show Bits (w4.drewN k5) g 0 (n + 1) y from hG4)).mono ?_
    rintro e w6 ⟨bn, rfl, hbn, hRn, hBn⟩
    go_wp2_with fail
    refine (plus_any bu bn 0 0 (n + 1) (n + 1) (n + 1) (n + 1) (x / 2 ^ (j + 1) % y * 2 + x / 2 ^ j % 2) (2 ^ (n + 1) - 1 - y % 2 ^ (n + 1)) 1 1 rfl (by omega) (Nat.le_refl _) (by omega) _ (Bits.row ((hR3.drewN k5).below hBn hul)) (Bits.row hRn)).mono ?_
    rintro e w7 ⟨bp, rfl, hbp, hRp, hBp⟩
    have hn1 := hBn.size
    have hn2 := hBp.size
    have h4s := hB3.size
    have hbn' : w4.heap.size <= bn := hbn
    have hn1' : w4.heap.size <= w6.heap.size := hn1
    have hQ7 : Row w7 bq 3 (itab n fun t => if j + 1 <= t then bit (x / y) t else 0) := ((hQ3.drewN k5).below hBn hql4).below hBp (by omega)
    have hG7 : Bits w7 g 0 (n + 1) y := (Bits.below (show Bits (w4.drewN k5) g 0 (n + 1) y from hG4) hBn hgl4).below hBp (by omega)
    have hc7 := (hQ7.cell j).trans (itab_get _ (by omega))
    have hf7 := hQ7.free j
    have hB7 : Below w.heap.size w w7 := (below_drewN hB3 k5).trans ((hBn.mono h4s).trans (hBp.mono (by omega)))
    clear hRn hR3 hQ3 hG4 hB3 hBn hBp
    go_wp2
    go_roundw
    case rel =>
     refine ⟨j, bp, by omega, by go_num, rfl, by omega, by omega, ?_, ?_, ?_, hB7.setCell (by have := HQ.out; show w.heap.size <= bq; omega) _⟩
     ·have e : itab (n + 1) (bit (x / 2 ^ j % y)) = itab (n + 1) (bit (x / 2 ^ (j + 1) % y * 2 + x / 2 ^ j % 2 + (2 ^ (n + 1) - 1 - y % 2 ^ (n + 1)) + 1)) := by
       rw [D1.out]
       refine itab_congr fun t ht => ?_
       rw [sub_bits _ y (n + 1) t ht (by have := HN.out; omega) HY.out]
      rw [e]
      exact hRp.other ⟨bq, j, none⟩ _ (by show bp ≠ bq; omega)
     ·have h := hQ7.put j (.int .i64 1)
      rw [itab_set] at h
      have e : itab n (fun t => if j <= t then bit (x / y) t else 0) = itab n fun t => if t = j then 1 else if j + 1 <= t then bit (x / y) t else 0 := by
       refine itab_congr fun t _ => ?_
       by_cases ht : t = j
       ·subst ht; simp [D2.out]
       ·have e2 : (j <= t) ↔ (j + 1 <= t) := by omega
        simp only [e2, ht, if_false]
      rw [e]; exact h
     ·exact hG7.other ⟨bq, j, none⟩ _ (by have := HQ.out; show g ≠ bq; omega)
    case measure => simp [intOf]
  ·obtain rfl : j = 0 := by omega
   have HB := Lib.hid hB
   go_wp2
   go_quiet (fail)
   go_wp2
   go_ret2
   refine ⟨bq, br, n + 1, rfl, ?_, ?_, below_drewN HB.out _, by have := HQ.out; omega, hbr⟩
   ·have e : itab n (fun t => if 0 <= t then bit (x / y) t else 0) = itab n (bit (x / y)) := itab_congr fun t _ => if_pos (Nat.zero_le _)
    rw [e] at hQ
    exact Bits.row (e := 3) hQ
   ·have h := Bits.row hR
    have e : x / 2 ^ 0 % y = x % y := by rw [Nat.pow_zero, Nat.div_one]
    rw [e] at h
    exact ⟨h.1, fun i hi => h.2 i (Nat.lt_succ_of_lt hi)⟩
def absN (n x : Nat) : Nat := if bit x (n - 1) = 1 then 2 ^ n - x else x
theorem absN_lt (n x : Nat) (hn : 0 < n) (hx : x < 2 ^ n) : absN n x < 2 ^ n := by
 unfold absN; split
 ·rename_i h
  have : x ≠ 0 := by rintro rfl; simp [bit] at h
  omega
 ·exact hx
theorem absN_ne (n x : Nat) (hn : 0 < n) (hx : x < 2 ^ n) (h0 : x ≠ 0) : absN n x ≠ 0 := by
 unfold absN; split <;> omega
theorem far_any (b o n c x : Nat) (hn0 : 0 < n) (hn : n <= 64) (hx : x < 2 ^ n) (w : World) (h1 : Bits w b o n x) :
 Calls Tryz.prog 157 #[.slice (some ⟨b, o, none⟩) n c] w fun e w' =>
  ∃ q oq cq, e = .returned (.tuple #[.slice (some ⟨q, oq, none⟩) n cq, .int .i64 (bit x (n - 1))]) /\ Bits w' q oq n (absN n x) /\ Below w.heap.size w w' := by
 by_cases h : bit x (n - 1) = 1
 ·refine (far_minus b o n c x hn0 hn w h1 h).mono ?_
  rintro e w' ⟨q, rfl, hq, hB, _⟩
  exact ⟨q, 0, n, by rw [h], by unfold absN; rw [if_pos h]; rwa [Nat.mod_eq_of_lt hx] at hq, hB⟩
 ·have h0 : bit x (n - 1) = 0 := by have := bit_01 x (n - 1); omega
  refine (far_plus b o n c x hn0 hn w h1 h0).mono ?_
  rintro e w' ⟨rfl, rfl⟩
  exact ⟨b, o, c, by rw [h0], by unfold absN; rwa [if_neg h], Below.refl _ _⟩
def turn (s : Bool) (n x : Nat) : Nat := if s then 2 ^ n - x % 2 ^ n else x
theorem Bits.frame {w w' : World} {b off n x B : Nat} (h : Bits w b off n x) (hs : B <= w.heap.size) (hb : Below w.heap.size w w') : Bits w' b off n x := h.below hb h.1
theorem over_nm (b1 b2 o1 o2 n c1 c2 x y : Nat) (s t : Int) (hs : bit x (n - 1) = s) (ht : bit y (n - 1) = t) (d1 : (s != t) = true) (d2 : (s == 1) = true) (hn0 : 0 < n) (hn : n <= 64) (hx : x < 2 ^ n) (hy : y < 2 ^ n) (hy0 : y ≠ 0) (w : World) (h1 : Bits w b1 o1 n x) (h2 : Bits w b2 o2 n y) :
 Calls Tryz.prog 96 #[.slice (some ⟨b1, o1, none⟩) n c1, .slice (some ⟨b2, o2, none⟩) n c2] w fun e w' =>
  ∃ q r cq cr, e = .returned (.tuple #[.slice (some ⟨q, 0, none⟩) n cq, .slice (some ⟨r, 0, none⟩) n cr]) ∧
    Bits w' q 0 n (turn true n (absN n x / absN n y)) /\ Bits w' r 0 n (turn true n (absN n x % absN n y)) /\ Below w.heap.size w w' := by
 have ax := absN_lt n x hn0 hx
 have ay := absN_lt n y hn0 hy
 have ay0 := absN_ne n y hn0 hy hy0
 have HS := Lib.hid hs
 have HT := Lib.hid ht
 clear hs ht
 go_enter Tryz.func96, Tryz.ntmps96
 go_wp2_with fail
 refine (far_any b1 o1 n c1 x hn0 hn hx _ h1).mono ?_
 rintro e w1 ⟨q1, oq1, cq1, rfl, hx1, hB1⟩
 rw [HS.out]
 have h2a := h2.below hB1 h2.1
 go_wp2_with fail
 refine (far_any b2 o2 n c2 y hn0 hn hy _ h2a).mono ?_
 rintro e w2 ⟨q2, oq2, cq2, rfl, hy2, hB2⟩
 rw [HT.out]
 have hx2 := hx1.below hB2 hx1.1
 have hB02 := hB1.trans (hB2.mono hB1.size)
 go_wp2_with fail
 refine (divided_any q1 q2 oq1 oq2 n cq1 cq2 (absN n x) (absN n y) hn0 hn ax ay ay0 _ hx2 hy2).mono ?_
 rintro e w3 ⟨q, r, cr, rfl, hq, hr, hB3, _, _⟩
 have hB03 := hB02.trans (hB3.mono hB02.size)
 clear hx1 hx2 hy2 h2a hB1 hB2 hB3 hB02
 go_wp2_with fail
 refine (negative_any q 0 n n _ (by omega) _ hq).mono ?_
 rintro e w4 ⟨qn, rfl, _, hRq, hB4⟩
 have hq4 := Bits.row hRq
 have hr4 := hr.below hB4 hr.1
 have hB04 := hB03.trans (hB4.mono hB03.size)
 clear hRq hB4 hB03 hq hr
 go_wp2_with fail
 refine (negative_any r 0 n cr _ (by omega) _ hr4).mono ?_
 rintro e w5 ⟨rn, rfl, _, hRr, hB5⟩
 have hr5 := Bits.row hRr
 have hq5 := hq4.below hB5 hq4.1
 have hB05 := hB04.trans (hB5.mono hB04.size)
 clear hRr hB5 hB04 hq4 hr4
 go_wp2
 go_ret2
 exact ⟨qn, rn, n, n, rfl, hq5, hr5, hB05⟩
theorem over_np (b1 b2 o1 o2 n c1 c2 x y : Nat) (s t : Int) (hs : bit x (n - 1) = s) (ht : bit y (n - 1) = t) (d1 : (s != t) = true) (d2 : (s == 1) = false) (hn0 : 0 < n) (hn : n <= 64) (hx : x < 2 ^ n) (hy : y < 2 ^ n) (hy0 : y ≠ 0) (w : World) (h1 : Bits w b1 o1 n x) (h2 : Bits w b2 o2 n y) :
 Calls Tryz.prog 96 #[.slice (some ⟨b1, o1, none⟩) n c1, .slice (some ⟨b2, o2, none⟩) n c2] w fun e w' =>
  ∃ q r cq cr, e = .returned (.tuple #[.slice (some ⟨q, 0, none⟩) n cq, .slice (some ⟨r, 0, none⟩) n cr]) ∧
    Bits w' q 0 n (turn true n (absN n x / absN n y)) /\ Bits w' r 0 n (turn false n (absN n x % absN n y)) /\ Below w.heap.size w w' := by
 have ax := absN_lt n x hn0 hx
 have ay := absN_lt n y hn0 hy
 have ay0 := absN_ne n y hn0 hy hy0
 have HS := Lib.hid hs
 have HT := Lib.hid ht
 clear hs ht
 go_enter Tryz.func96, Tryz.ntmps96
 go_wp2_with fail
 refine (far_any b1 o1 n c1 x hn0 hn hx _ h1).mono ?_
 rintro e w1 ⟨q1, oq1, cq1, rfl, hx1, hB1⟩
 rw [HS.out]
 have h2a := h2.below hB1 h2.1
 go_wp2_with fail
 refine (far_any b2 o2 n c2 y hn0 hn hy _ h2a).mono ?_
 rintro e w2 ⟨q2, oq2, cq2, rfl, hy2, hB2⟩
 rw [HT.out]
 have hx2 := hx1.below hB2 hx1.1
 have hB02 := hB1.trans (hB2.mono hB1.size)
 go_wp2_with fail
 refine (divided_any q1 q2 oq1 oq2 n cq1 cq2 (absN n x) (absN n y) hn0 hn ax ay ay0 _ hx2 hy2).mono ?_
 rintro e w3 ⟨q, r, cr, rfl, hq, hr, hB3, _, _⟩
 have hB03 := hB02.trans (hB3.mono hB02.size)
 clear hx1 hx2 hy2 h2a hB1 hB2 hB3 hB02
 go_wp2_with fail
 refine (negative_any q 0 n n _ (by omega) _ hq).mono ?_
 rintro e w4 ⟨qn, rfl, _, hRq, hB4⟩
 have hq4 := Bits.row hRq
 have hr4 := hr.below hB4 hr.1
 have hB04 := hB03.trans (hB4.mono hB03.size)
 clear hRq hB4 hB03 hq hr
 go_wp2
 go_ret2
 exact ⟨qn, r, n, cr, rfl, hq4, hr4, hB04⟩
theorem over_sm (b1 b2 o1 o2 n c1 c2 x y : Nat) (s t : Int) (hs : bit x (n - 1) = s) (ht : bit y (n - 1) = t) (d1 : (s != t) = false) (d2 : (s == 1) = true) (hn0 : 0 < n) (hn : n <= 64) (hx : x < 2 ^ n) (hy : y < 2 ^ n) (hy0 : y ≠ 0) (w : World) (h1 : Bits w b1 o1 n x) (h2 : Bits w b2 o2 n y) :
 Calls Tryz.prog 96 #[.slice (some ⟨b1, o1, none⟩) n c1, .slice (some ⟨b2, o2, none⟩) n c2] w fun e w' =>
  ∃ q r cq cr, e = .returned (.tuple #[.slice (some ⟨q, 0, none⟩) n cq, .slice (some ⟨r, 0, none⟩) n cr]) ∧
    Bits w' q 0 n (turn false n (absN n x / absN n y)) /\ Bits w' r 0 n (turn true n (absN n x % absN n y)) /\ Below w.heap.size w w' := by
 have ax := absN_lt n x hn0 hx
 have ay := absN_lt n y hn0 hy
 have ay0 := absN_ne n y hn0 hy hy0
 have HS := Lib.hid hs
 have HT := Lib.hid ht
 clear hs ht
 go_enter Tryz.func96, Tryz.ntmps96
 go_wp2_with fail
 refine (far_any b1 o1 n c1 x hn0 hn hx _ h1).mono ?_
 rintro e w1 ⟨q1, oq1, cq1, rfl, hx1, hB1⟩
 rw [HS.out]
 have h2a := h2.below hB1 h2.1
 go_wp2_with fail
 refine (far_any b2 o2 n c2 y hn0 hn hy _ h2a).mono ?_
 rintro e w2 ⟨q2, oq2, cq2, rfl, hy2, hB2⟩
 rw [HT.out]
 have hx2 := hx1.below hB2 hx1.1
 have hB02 := hB1.trans (hB2.mono hB1.size)
 go_wp2_with fail
 refine (divided_any q1 q2 oq1 oq2 n cq1 cq2 (absN n x) (absN n y) hn0 hn ax ay ay0 _ hx2 hy2).mono ?_
 rintro e w3 ⟨q, r, cr, rfl, hq, hr, hB3, _, _⟩
 have hB03 := hB02.trans (hB3.mono hB02.size)
 clear hx1 hx2 hy2 h2a hB1 hB2 hB3 hB02
 go_wp2_with fail
 refine (negative_any r 0 n cr _ (by omega) _ hr).mono ?_
 rintro e w5 ⟨rn, rfl, _, hRr, hB5⟩
 have hr5 := Bits.row hRr
 have hq5 := hq.below hB5 hq.1
 have hB05 := hB03.trans (hB5.mono hB03.size)
 clear hRr hB5 hB03 hq hr
 go_wp2
 go_ret2
 exact ⟨q, rn, n, n, rfl, hq5, hr5, hB05⟩
theorem over_sp (b1 b2 o1 o2 n c1 c2 x y : Nat) (s t : Int) (hs : bit x (n - 1) = s) (ht : bit y (n - 1) = t) (d1 : (s != t) = false) (d2 : (s == 1) = false) (hn0 : 0 < n) (hn : n <= 64) (hx : x < 2 ^ n) (hy : y < 2 ^ n) (hy0 : y ≠ 0) (w : World) (h1 : Bits w b1 o1 n x) (h2 : Bits w b2 o2 n y) :
 Calls Tryz.prog 96 #[.slice (some ⟨b1, o1, none⟩) n c1, .slice (some ⟨b2, o2, none⟩) n c2] w fun e w' =>
  ∃ q r cq cr, e = .returned (.tuple #[.slice (some ⟨q, 0, none⟩) n cq, .slice (some ⟨r, 0, none⟩) n cr]) ∧
    Bits w' q 0 n (turn false n (absN n x / absN n y)) /\ Bits w' r 0 n (turn false n (absN n x % absN n y)) /\ Below w.heap.size w w' := by
 have ax := absN_lt n x hn0 hx
 have ay := absN_lt n y hn0 hy
 have ay0 := absN_ne n y hn0 hy hy0
 have HS := Lib.hid hs
 have HT := Lib.hid ht
 clear hs ht
 go_enter Tryz.func96, Tryz.ntmps96
 go_wp2_with fail
 refine (far_any b1 o1 n c1 x hn0 hn hx _ h1).mono ?_
 rintro e w1 ⟨q1, oq1, cq1, rfl, hx1, hB1⟩
 rw [HS.out]
 have h2a := h2.below hB1 h2.1
 go_wp2_with fail
 refine (far_any b2 o2 n c2 y hn0 hn hy _ h2a).mono ?_
 rintro e w2 ⟨q2, oq2, cq2, rfl, hy2, hB2⟩
 rw [HT.out]
 have hx2 := hx1.below hB2 hx1.1
 have hB02 := hB1.trans (hB2.mono hB1.size)
 go_wp2_with fail
 refine (divided_any q1 q2 oq1 oq2 n cq1 cq2 (absN n x) (absN n y) hn0 hn ax ay ay0 _ hx2 hy2).mono ?_
 rintro e w3 ⟨q, r, cr, rfl, hq, hr, hB3, _, _⟩
 have hB03 := hB02.trans (hB3.mono hB02.size)
 clear hx1 hx2 hy2 h2a hB1 hB2 hB3 hB02
 go_wp2
 go_ret2
 exact ⟨q, r, n, cr, rfl, hq, hr, hB03⟩
theorem over_any (b1 b2 o1 o2 n c1 c2 x y : Nat) (hn0 : 0 < n) (hn : n <= 64) (hx : x < 2 ^ n) (hy : y < 2 ^ n) (hy0 : y ≠ 0) (w : World) (h1 : Bits w b1 o1 n x) (h2 : Bits w b2 o2 n y) :
 Calls Tryz.prog 96 #[.slice (some ⟨b1, o1, none⟩) n c1, .slice (some ⟨b2, o2, none⟩) n c2] w fun e w' =>
  ∃ q r cq cr, e = .returned (.tuple #[.slice (some ⟨q, 0, none⟩) n cq, .slice (some ⟨r, 0, none⟩) n cr]) ∧
    Bits w' q 0 n (turn (bit x (n - 1) != bit y (n - 1)) n (absN n x / absN n y)) /\ Bits w' r 0 n (turn (bit x (n - 1) == 1) n (absN n x % absN n y)) /\ Below w.heap.size w w' := by
 cases d1 : (bit x (n - 1) != bit y (n - 1)) <;> cases d2 : (bit x (n - 1) == 1)
 ·exact over_sp b1 b2 o1 o2 n c1 c2 x y _ _ rfl rfl d1 d2 hn0 hn hx hy hy0 w h1 h2
 ·exact over_sm b1 b2 o1 o2 n c1 c2 x y _ _ rfl rfl d1 d2 hn0 hn hx hy hy0 w h1 h2
 ·exact over_np b1 b2 o1 o2 n c1 c2 x y _ _ rfl rfl d1 d2 hn0 hn hx hy hy0 w h1 h2
 ·exact over_nm b1 b2 o1 o2 n c1 c2 x y _ _ rfl rfl d1 d2 hn0 hn hx hy hy0 w h1 h2
end Go.Proofs.YtcmplcdbkoodpaaGreatDoor
