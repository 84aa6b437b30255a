/-
  The program's Get and Put.
-/
import Derived.Test.YtbkcpepalicbjaaGreatBytes
import Derived.Test.YtbkcpepalicbjaaGreatUtab
import Derived.Test.YtbkcpepalicbjaaGreatSgn
namespace Go.Proofs.YtbkcpepalicbjaaGreat
open Go.RowKit
set_option linter.unusedVariables false

/-- The number that bytes are, the lowest first. -/
def num : List Int → Nat
  | [] => 0
  | x :: r => x.toNat + 256 * num r
theorem num_lt {xs : List Int} (h : IsBytes xs) : num xs < 256 ^ xs.length := by
  induction xs with
  | nil => simp [num]
  | cons x r ih =>
    have h1 := h x (by simp)
    have h2 := ih fun z hz => h z (by simp [hz])
    simp only [num, List.length_cons, Nat.pow_succ]
    omega
theorem num_append (xs ys : List Int) : num (xs ++ ys) = num xs + 256 ^ xs.length * num ys := by
  induction xs with
  | nil => simp [num]
  | cons x r ih =>
    simp only [List.cons_append, num, ih, List.length_cons, Nat.pow_succ, Nat.mul_add]
    have : 256 * (256 ^ r.length * num ys) = 256 ^ r.length * 256 * num ys := by rw [Nat.mul_comm (256 ^ r.length) 256, Nat.mul_assoc]
    omega
theorem take_snoc (xs : List Int) (k : Nat) (h : k < xs.length) : xs.take (k + 1) = xs.take k ++ [xs.getD k 0] := by
  rw [List.take_succ_eq_append_getElem h]; simp [List.getD, h]
theorem num_snoc (xs : List Int) (k : Nat) (h : k < xs.length) : num (xs.take (k + 1)) = num (xs.take k) + 256 ^ k * (xs.getD k 0).toNat := by
  rw [take_snoc xs k h, num_append, List.length_take, Nat.min_eq_left (by omega)]
  simp [num]
theorem pow256 (k : Nat) : 256 ^ k = 2 ^ (8 * k) := by rw [Nat.pow_mul]
theorem num_take_lt {xs : List Int} (h : IsBytes xs) (k : Nat) (hk : k ≤ xs.length) : num (xs.take k) < 2 ^ (8 * k) := by
  have := num_lt (h.take k)
  rwa [List.length_take, Nat.min_eq_left hk, pow256] at this
theorem num_or {xs : List Int} (h : IsBytes xs) (k : Nat) (hk : k < xs.length) : num (xs.take k) ||| (xs.getD k 0).toNat * 2 ^ (8 * k) = num (xs.take (k + 1)) := by
  rw [num_snoc xs k hk, pow256, Nat.mul_comm (xs.getD k 0).toNat, Nat.or_comm, ← Nat.two_pow_add_eq_or_of_lt (num_take_lt h k (by omega))]
  omega

/-- What Get says. -/
def getv (sg : Bool) (xs : List Int) : Int :=
  if xs = [] ∨ 8 < xs.length then 0 else if sg then sgn (8 * xs.length) (num xs) else wrap64 (num xs)

theorem shl_u64 (c : Int) (h : 0 ≤ c ∧ c ≤ 255) (k : Nat) (hk : k < 8) : IntKind.u64.wrap (c * 2 ^ (8 * k)) = ((c.toNat * 2 ^ (8 * k) : Nat) : Int) := by
  have e : c * 2 ^ (8 * k) = ((c.toNat * 2 ^ (8 * k) : Nat) : Int) := by
    rw [Int.natCast_mul, Int.toNat_of_nonneg h.1]; simp
  rw [e, IntKind.wrap_u64]
  have h2 : 2 ^ (8 * k) ≤ 2 ^ 56 := Nat.pow_le_pow_right (by decide) (by omega)
  have h3 : c.toNat * 2 ^ (8 * k) ≤ 255 * 2 ^ 56 := Nat.mul_le_mul (by omega) h2
  omega

theorem free_sgn (n x : Nat) (hn : 1 ≤ n) (hn8 : n ≤ 8) (hx : x < 2 ^ (8 * n)) : wrap64 (IntKind.u64.wrap ((x : Int) * 2 ^ (64 - 8 * n))) / 2 ^ (64 - 8 * n) = sgn (8 * n) x := by
  rw [IntKind.wrap_u64]
  unfold wrap64 sgn
  have hh : n = 1 ∨ n = 2 ∨ n = 3 ∨ n = 4 ∨ n = 5 ∨ n = 6 ∨ n = 7 ∨ n = 8 := by omega
  rcases hh with rfl | rfl | rfl | rfl | rfl | rfl | rfl | rfl
  all_goals
    simp only [Nat.reduceMul, Nat.reduceSub, Nat.reducePow, Int.reducePow, Int.pow_zero] at hx ⊢
    split <;> omega

theorem get_step {xs : List Int} (hx : IsBytes xs) (k : Nat) (hk : k < xs.length) (hk8 : k < 8) (z : Nat) (hz : z = num (xs.take k)) (c : Int) (hc : c = xs.getD k 0) :
    bits .or .u64 (z : Int) (IntKind.u64.wrap (c * 2 ^ (8 * k))) = ((num (xs.take (k + 1)) : Nat) : Int) := by
  have hb := hx.at' k
  rw [← hc] at hb
  have hz1 : z < 2 ^ 64 := by
    rw [hz]
    exact Nat.lt_of_lt_of_le (num_take_lt hx k (by omega)) (Nat.pow_le_pow_right (by decide) (by omega))
  have h2 : 2 ^ (8 * k) ≤ 2 ^ 56 := Nat.pow_le_pow_right (by decide) (by omega)
  have h3 : c.toNat * 2 ^ (8 * k) ≤ 255 * 2 ^ 56 := Nat.mul_le_mul (by omega) h2
  rw [shl_u64 c hb k hk8, bits_or_u64_nat z _ (by omega) (by omega), hz, hc, num_or hx k hk]

set_option maxHeartbeats 1600000 in
theorem get_of (v : Value) (sg : Bool) (xs : List Int) (w : World) (h : Held w v xs) :
    Calls Tryz.prog 26 #[v, .bool sg] w fun e w' => e = .returned (.int .i64 (getv sg xs)) ∧ w = w' := by
  have hx := h.bytes
  obtain ⟨_, ⟨rfl, hv⟩ | ⟨hp, b, off, cap, rfl, hc, hm, hlt, hcell⟩⟩ := h
  · have hv' : ∃ a cap, v = .slice a 0 cap := by
      rcases hv with rfl | ⟨a, cap, rfl, _⟩
      · exact ⟨_, _, rfl⟩
      · exact ⟨_, _, rfl⟩
    obtain ⟨a, cap, rfl⟩ := hv'
    go_enter Tryz.func26, Tryz.ntmps26
    go_wp2
    go_ret
    exact ⟨rfl, rfl⟩
  · unfold maxLen at hm
    by_cases h8 : 8 < xs.length
    · have e : getv sg xs = 0 := by unfold getv; rw [if_pos (Or.inr h8)]
      have HE := Lib.hid e
      clear e
      go_enter Tryz.func26, Tryz.ntmps26
      go_wp2
      go_ret
      exact ⟨ret_int HE.out.symm, rfl⟩
    · have hlen : xs.length ≤ 8 := by omega
      have e : getv sg xs = if sg then sgn (8 * xs.length) (num xs) else wrap64 (num xs) := by
        unfold getv; rw [if_neg (fun h => h.elim (fun h => by subst h; simp at hp) (fun h => by omega))]
      have HE := Lib.hid e
      have HB := Lib.hid hx
      clear e h8 hx
      obtain ⟨n, hn⟩ : ∃ n, n = xs.length := ⟨_, rfl⟩
      rw [← hn] at hp hc hcell hlen ⊢
      have HN := Lib.hid hn
      clear hn
      go_enter Tryz.func26, Tryz.ntmps26
      go_wp2
      go_loop [5, 19] (fun z s => ∃ k : Nat, k ≤ n ∧ s = .int .i64 k ∧ z = .int .u64 (num (xs.take k) : Nat)) (fun _ s => n - (intOf s).toNat)
      case atStart => exact ⟨0, Nat.zero_le _, rfl, rfl⟩
      case round =>
        obtain ⟨k, hk, rfl, rfl⟩ := hrel
        by_cases hk2 : k < n
        · have hcx := hcell k hk2
          have hby := HB.out.at' k
          obtain ⟨c, hc2⟩ : ∃ c, c = xs.getD k 0 := ⟨_, rfl⟩
          rw [← hc2] at hcx hby
          have HC := Lib.hid hc2
          clear hc2
          obtain ⟨z, hz⟩ : ∃ z, z = num (xs.take k) := ⟨_, rfl⟩
          rw [← hz]
          have HZ := Lib.hid hz
          clear hz hcell
          go_wp2
          go_round
          case rel => exact ⟨k + 1, by omega, by go_num, by rw [get_step HB.out k (by have := HN.out; omega) (by omega) z HZ.out c HC.out]⟩
          case measure => simp [intOf]; omega
        · obtain rfl : k = n := by omega
          have ht : xs.take k = xs := List.take_of_length_le (by have := HN.out; omega)
          have hnl : num xs < 2 ^ (8 * k) := by
            have := num_take_lt HB.out k (by have := HN.out; omega)
            rwa [ht] at this
          have HT := Lib.hid ht
          have HNL := Lib.hid hnl
          clear ht hnl
          cases sg
          · go_wp2
            go_ret
            exact ⟨ret_int (by rw [HE.out, HT.out, if_neg (by simp)]), rfl⟩
          · go_wp2
            go_ret
            exact ⟨ret_int (by rw [HE.out, HT.out, ← HN.out, if_pos trivial]; exact free_sgn k _ hp hlen (HNL.out)), rfl⟩

/-- The bytes that Put lays. -/
def putl (k : Nat) (v : Int) : List Int := (List.range k).map fun i => v / 2 ^ (8 * i) % 256
theorem putl_length (k : Nat) (v : Int) : (putl k v).length = k := by simp [putl]
theorem putl_bytes (k : Nat) (v : Int) : IsBytes (putl k v) := by
  intro x hx
  obtain ⟨i, _, rfl⟩ := List.mem_map.1 hx
  omega
theorem putl_get {k i : Nat} (v : Int) (h : i < k) : (putl k v).getD i 0 = v / 2 ^ (8 * i) % 256 := by
  simp [putl, List.getD, h]
theorem held_utab {w : World} {k b : Nat} {v : Int} {e : TypeId} (hR : Row w b e (utab k fun i => v / 2 ^ (8 * i) % 256)) (hk : k ≤ 8) : Held w (.slice (some ⟨b, 0, none⟩) k k) (putl k v) := by
  have := held_row (xs := putl k v) (cap := k) hR (putl_bytes k v) (by rw [putl_length]; exact Nat.le_refl _) (by unfold maxLen; omega) (fun i hi => by
    rw [putl_length] at hi
    rw [utab_get _ hi, putl_get v hi])
  rwa [putl_length] at this

/-- The call returned new bytes. -/
def NewBytes (w : World) (k : Nat) (v : Int) (e : Ending) (w' : World) : Prop :=
  ∃ b, e = .returned (.slice (some ⟨b, 0, none⟩) k k) ∧ w.heap.size ≤ b ∧ Row w' b 5 (utab k fun i => v / 2 ^ (8 * i) % 256) ∧ Below w.heap.size w w'

theorem u8_wrap (x : Int) : IntKind.u8.wrap x = x % 256 := by simp [IntKind.wrap, IntKind.bits, IntKind.signed]

set_option maxHeartbeats 800000 in
theorem put_of (k : Nat) (kk v : Int) (hkk : kk = k) (h1 : 1 ≤ k) (h8 : k ≤ 8) (w : World) :
    Calls Tryz.prog 25 #[.int .i64 kk, .int .i64 v] w (NewBytes w k v) := by
  subst hkk
  have hmk := make_bytes k (by omega)
  go_enter Tryz.func25, Tryz.ntmps25
  go_wp2
  go_loopw [17] (fun s wr => ∃ i : Nat, i ≤ k ∧ s = .int .i64 i ∧ Row wr w.heap.size 5 (utab k fun t => if t < i then v / 2 ^ (8 * t) % 256 else 0) ∧ Below w.heap.size w wr) (fun s _ => k - (intOf s).toNat)
  case atStart => exact ⟨0, Nat.zero_le _, rfl, ufill_start _ _ _ _, (Below.refl _ _).alloc (Nat.le_refl _) _⟩
  case round =>
    obtain ⟨i, hi, rfl, hR, hB⟩ := hrel
    by_cases hlt : i < k
    · have hc := (hR.cell i).trans (utab_get _ hlt)
      have hf := hR.free i
      go_wp2
      go_roundw
      case rel =>
        exact ⟨i + 1, hlt, by go_num, ufill hR (u8_wrap _), hB.setCell (Nat.le_refl _) _⟩
      case measure => simp [intOf]; omega
    · obtain rfl : i = k := by omega
      go_wp2
      go_ret
      exact ⟨_, rfl, Nat.le_refl _, ufill_end hR, hB⟩

theorem put_none (k v : Int) (h : k < 1 ∨ 8 < k) (w : World) :
    Calls Tryz.prog 25 #[.int .i64 k, .int .i64 v] w fun e w' => e = .returned (.slice none 0 0) ∧ w = w' := by
  rcases h with h | h
  · go_enter Tryz.func25, Tryz.ntmps25
    go_wp2
    go_ret
    exact ⟨rfl, rfl⟩
  · go_enter Tryz.func25, Tryz.ntmps25
    go_wp2
    go_ret
    exact ⟨rfl, rfl⟩
end Go.Proofs.YtbkcpepalicbjaaGreat
