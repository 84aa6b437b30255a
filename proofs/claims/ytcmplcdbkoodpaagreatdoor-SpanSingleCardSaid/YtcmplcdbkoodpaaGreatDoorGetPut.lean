/-
  The program's Get and Put.
-/
import Derived.Test.YtcmplcdbkoodpaaGreatDoorBytes
import Derived.Test.YtcmplcdbkoodpaaGreatDoorUtab
import Derived.Test.YtcmplcdbkoodpaaGreatDoorSgn
namespace Go.Proofs.YtcmplcdbkoodpaaGreatDoor
open Go.RowKit
set_option linter.unusedVariables false

/-- The number that bytes are, the lowest first. -/
def num : List Int → Nat
  | [] => 0
  | x :: r => x.toNat + 256 * num r
theorem num_lt {xs : List Int} (h : IsBytes xs) : num xs < 256 ^ xs.length := by
  induction xs with
  | nil => simp [num]
  | cons x r ih =>
    have h1 := h x (by simp)
    have h2 := ih fun z hz => h z (by simp [hz])
    simp only [num, List.length_cons, Nat.pow_succ]
    omega
theorem num_append (xs ys : List Int) : num (xs ++ ys) = num xs + 256 ^ xs.length * num ys := by
  induction xs with
  | nil => simp [num]
  | cons x r ih =>
    simp only [List.cons_append, num, ih, List.length_cons, Nat.pow_succ, Nat.mul_add]
    have : 256 * (256 ^ r.length * num ys) = 256 ^ r.length * 256 * num ys := by rw [Nat.mul_comm (256 ^ r.length) 256, Nat.mul_assoc]
    omega
theorem take_snoc (xs : List Int) (k : Nat) (h : k < xs.length) : xs.take (k + 1) = xs.take k ++ [xs.getD k 0] := by
  rw [List.take_succ_eq_append_getElem h]; simp [List.getD, h]
theorem num_snoc (xs : List Int) (k : Nat) (h : k < xs.length) : num (xs.take (k + 1)) = num (xs.take k) + 256 ^ k * (xs.getD k 0).toNat := by
  rw [take_snoc xs k h, num_append, List.length_take, Nat.min_eq_left (by omega)]
  simp [num]
theorem pow256 (k : Nat) : 256 ^ k = 2 ^ (8 * k) := by rw [Nat.pow_mul]
theorem num_take_lt {xs : List Int} (h : IsBytes xs) (k : Nat) (hk : k ≤ xs.length) : num (xs.take k) < 2 ^ (8 * k) := by
  have := num_lt (h.take k)
  rwa [List.length_take, Nat.min_eq_left hk, pow256] at this
theorem num_or {xs : List Int} (h : IsBytes xs) (k : Nat) (hk : k < xs.length) : num (xs.take k) ||| (xs.getD k 0).toNat * 2 ^ (8 * k) = num (xs.take (k + 1)) := by
  rw [num_snoc xs k hk, pow256, Nat.mul_comm (xs.getD k 0).toNat, Nat.or_comm, ← Nat.two_pow_add_eq_or_of_lt (num_take_lt h k (by omega))]
  omega

/-- What Get says. -/
def getv (sg : Bool) (xs : List Int) : Int :=
  if xs = [] ∨ 8 < xs.length then 0 else if sg then sgn (8 * xs.length) (num xs) else wrap64 (num xs)

theorem shl_u64 (c : Int) (h : 0 ≤ c ∧ c ≤ 255) (k : Nat) (hk : k < 8) : IntKind.u64.wrap (c * 2 ^ (8 * k)) = ((c.toNat * 2 ^ (8 * k) : Nat) : Int) := by
  have e : c * 2 ^ (8 * k) = ((c.toNat * 2 ^ (8 * k) : Nat) : Int) := by
    rw [Int.natCast_mul, Int.toNat_of_nonneg h.1]; simp
  rw [e, IntKind.wrap_u64]
  have h2 : 2 ^ (8 * k) ≤ 2 ^ 56 := Nat.pow_le_pow_right (by decide) (by omega)
  have h3 : c.toNat * 2 ^ (8 * k) ≤ 255 * 2 ^ 56 := Nat.mul_le_mul (by omega) h2
  omega

theorem free_sgn (n x : Nat) (hn : 1 ≤ n) (hn8 : n ≤ 8) (hx : x < 2 ^ (8 * n)) : wrap64 (IntKind.u64.wrap ((x : Int) * 2 ^ (64 - 8 * n))) / 2 ^ (64 - 8 * n) = sgn (8 * n) x := by
  rw [IntKind.wrap_u64]
  unfold wrap64 sgn
  have hh : n = 1 ∨ n = 2 ∨ n = 3 ∨ n = 4 ∨ n = 5 ∨ n = 6 ∨ n = 7 ∨ n = 8 := by omega
  rcases hh with rfl | rfl | rfl | rfl | rfl | rfl | rfl | rfl
  all_goals
    simp only [Nat.reduceMul, Nat.reduceSub, Nat.reducePow, Int.reducePow, Int.pow_zero] at hx ⊢
    split <;> omega

theorem get_step {xs : List Int} (hx : IsBytes xs) (k : Nat) (hk : k < xs.length) (hk8 : k < 8) (z : Nat) (hz : z = num (xs.take k)) (c : Int) (hc : c = xs.getD k 0) :
    bits .or .u64 (z : Int) (IntKind.u64.wrap (c * 2 ^ (8 * k))) = ((num (xs.take (k + 1)) : Nat) : Int) := by
  have hb := hx.at' k
  rw [← hc] at hb
  have hz1 : z < 2 ^ 64 := by
    rw [hz]
    exact Nat.lt_of_lt_of_le (num_take_lt hx k (by omega)) (Nat.pow_le_pow_right (by decide) (by omega))
  have h2 : 2 ^ (8 * k) ≤ 2 ^ 56 := Nat.pow_le_pow_right (by decide) (by omega)
  have h3 : c.toNat * 2 ^ (8 * k) ≤ 255 * 2 ^ 56 := Nat.mul_le_mul (by omega) h2
  rw [shl_u64 c hb k hk8, bits_or_u64_nat z _ (by omega) (by omega), hz, hc, num_or hx k hk]

/-- The bytes that Put lays. -/
def putl (k : Nat) (v : Int) : List Int := (List.range k).map fun i => v / 2 ^ (8 * i) % 256
theorem putl_length (k : Nat) (v : Int) : (putl k v).length = k := by simp [putl]
theorem putl_bytes (k : Nat) (v : Int) : IsBytes (putl k v) := by
  intro x hx
  obtain ⟨i, _, rfl⟩ := List.mem_map.1 hx
  omega
theorem putl_get {k i : Nat} (v : Int) (h : i < k) : (putl k v).getD i 0 = v / 2 ^ (8 * i) % 256 := by
  simp [putl, List.getD, h]
theorem held_utab {w : World} {k b : Nat} {v : Int} {e : TypeId} (hR : Row w b e (utab k fun i => v / 2 ^ (8 * i) % 256)) (hk : k ≤ 8) : Held w (.slice (some ⟨b, 0, none⟩) k k) (putl k v) := by
  have := held_row (xs := putl k v) (cap := k) hR (putl_bytes k v) (by rw [putl_length]; exact Nat.le_refl _) (by unfold maxLen; omega) (fun i hi => by
    rw [putl_length] at hi
    rw [utab_get _ hi, putl_get v hi])
  rwa [putl_length] at this

/-- The call returned new bytes. -/
def NewBytes (w : World) (k : Nat) (v : Int) (e : Ending) (w' : World) : Prop :=
  ∃ b, e = .returned (.slice (some ⟨b, 0, none⟩) k k) ∧ w.heap.size ≤ b ∧ Row w' b 5 (utab k fun i => v / 2 ^ (8 * i) % 256) ∧ Below w.heap.size w w'

theorem u8_wrap (x : Int) : IntKind.u8.wrap x = x % 256 := by simp [IntKind.wrap, IntKind.bits, IntKind.signed]

end Go.Proofs.YtcmplcdbkoodpaaGreatDoor
