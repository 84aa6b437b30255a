/-
  The helpers that compute: Sum, Diff, Find, Mix, by what they say.
-/
import Derived.Test.YtbkcpepalicbjaaGreatBytes
import Derived.Lib.BytesEntry
namespace Go.Proofs.YtbkcpepalicbjaaGreat
open Go.RowKit
set_option linter.unusedVariables false

/-! ### Sum -/
def stp (s w : Int) : Int := if 65535 < s + w then s + w - 65535 else s + w
def wordAt (xs : List Int) (k : Nat) : Int := 256 * xs.getD (2 * k) 0 + xs.getD (2 * k + 1) 0
def sumN (xs : List Int) (s : Int) : Nat → Int
  | 0 => s
  | k + 1 => stp (sumN xs s k) (wordAt xs k)
/-- The sum of all words and a seed. -/
def sumv (xs : List Int) (seed : Int) : Int := sumN xs (seed % 65536) ((xs.length + 1) / 2)
theorem word_range {xs : List Int} (h : IsBytes xs) (k : Nat) : 0 ≤ wordAt xs k ∧ wordAt xs k ≤ 65535 := by
  have h1 := h.at' (2 * k)
  have h2 := h.at' (2 * k + 1)
  unfold wordAt; omega
theorem sumN_range {xs : List Int} (h : IsBytes xs) {s : Int} (hs : 0 ≤ s ∧ s ≤ 65535) (k : Nat) : 0 ≤ sumN xs s k ∧ sumN xs s k ≤ 65535 := by
  induction k with
  | zero => exact hs
  | succ k ih =>
    have hw := word_range h k
    simp only [sumN, stp]
    split <;> omega
theorem or_byte_i64 (x y : Int) (hx : 0 ≤ x ∧ x ≤ 255) (hy : 0 ≤ y ∧ y ≤ 255) : bits .or .i64 (x * 256) y = x * 256 + y := by
  have ux : un (x * 256) = x.toNat * 256 := by unfold un; omega
  have uy : un y = y.toNat := by unfold un; omega
  rw [i64_or, ux, uy, Nat.mul_comm, show 256 = 2 ^ 8 from rfl, ← Nat.two_pow_add_eq_or_of_lt (show y.toNat < 2 ^ 8 by omega)]
  unfold wrap64; omega
theorem seed_low (seed : Int) : bits .and .i64 seed 65535 = seed % 65536 := by
  have h := i64_and_mask seed 16 (by decide)
  have e : (2 : Int) ^ 16 = 65536 := rfl
  rw [e] at h
  exact h

set_option maxHeartbeats 1600000 in
theorem sum_of (v : Value) (xs : List Int) (hl : xs.length ≤ 281474976710656) (seed : Int) (w : World) (h : Held w v xs) :
    Calls Tryz.prog 35 #[v, .int .i64 seed] w fun e w' => e = .returned (.int .i64 (sumv xs seed)) ∧ w = w' := by
  have hx := h.bytes
  have hsd := seed_low seed
  have hsl : ∃ a cap, v = .slice a xs.length cap ∧ ∀ i, i < xs.length → ∃ b off, a = some ⟨b, off, none⟩ ∧ w.cell? ⟨b, off + i, none⟩ = some (.int .u8 (xs.getD i 0)) := by
    obtain ⟨_, ⟨rfl, rfl | ⟨a, cap, rfl, _⟩⟩ | ⟨_, b, off, cap, rfl, _, _, _, hcell⟩⟩ := h
    · exact ⟨_, _, rfl, fun i hi => by simp at hi⟩
    · exact ⟨_, _, rfl, fun i hi => by simp at hi⟩
    · exact ⟨_, _, rfl, fun i hi => ⟨b, off, rfl, hcell i hi⟩⟩
  obtain ⟨a, cap, rfl, hc⟩ := hsl
  obtain ⟨n, hn⟩ : ∃ n, n = xs.length := ⟨_, rfl⟩
  rw [← hn] at hc hl ⊢
  have HN := Lib.hid hn
  have HC := Lib.hid hc
  have HX := Lib.hid hx
  clear hn hc hx h
  obtain ⟨s0, hs0⟩ : ∃ s0, s0 = seed % 65536 := ⟨_, rfl⟩
  have hs0r : 0 ≤ s0 ∧ s0 ≤ 65535 := by omega
  rw [← hs0] at hsd
  have HS0 := Lib.hid hs0
  have HS0R := Lib.hid hs0r
  clear hs0 hs0r
  go_enter Tryz.func35, Tryz.ntmps35
  go_wp2
  go_loop [5, 6] (fun z s => ∃ k : Nat, 2 * k ≤ n + 1 ∧ s = .int .i64 ((2 * k : Nat) : Int) ∧ z = .int .i64 (sumN xs s0 k)) (fun _ s => n + 2 - (intOf s).toNat)
  case atStart => exact ⟨0, Nat.zero_le _, rfl, rfl⟩
  case round =>
    obtain ⟨k, hk, rfl, rfl⟩ := hrel
    obtain ⟨i, hi⟩ : ∃ i, i = 2 * k := ⟨_, rfl⟩
    rw [← hi]
    have HI := Lib.hid hi
    clear hi
    by_cases hlt : i < n
    · obtain ⟨b, off, rfl, e1⟩ := HC.out i hlt
      have hsr := sumN_range HX.out HS0R.out k
      obtain ⟨z, hz⟩ : ∃ z, z = sumN xs s0 k := ⟨_, rfl⟩
      rw [← hz] at hsr ⊢
      have hx1 := HX.out.at' i
      have hx2 := HX.out.at' (i + 1)
      obtain ⟨x, hx⟩ : ∃ x, x = xs.getD i 0 := ⟨_, rfl⟩
      obtain ⟨y, hy⟩ : ∃ y, y = xs.getD (i + 1) 0 := ⟨_, rfl⟩
      rw [← hx] at hx1 e1
      rw [← hy] at hx2
      have hnx : sumN xs s0 (k + 1) = if 65535 < z + (x * 256 + y) then z + (x * 256 + y) - 65535 else z + (x * 256 + y) := by
        show stp (sumN xs s0 k) (wordAt xs k) = _
        unfold stp wordAt
        rw [← hz, ← HI.out, ← hx, ← hy, Int.mul_comm 256 x]
      have HNX := Lib.hid hnx
      have HXX := Lib.hid hx
      have HY := Lib.hid hy
      have HZ := Lib.hid hz
      have heq := or_byte_i64 x y hx1 hx2
      clear hnx hx hy hz
      by_cases hlt2 : i + 1 < n
      · obtain ⟨b', off', hbb, e2⟩ := HC.out (i + 1) hlt2
        cases hbb
        rw [← HY.out] at e2
        by_cases hbig : 65535 < z + (x * 256 + y)
        · have HBG := Lib.hid hbig
          go_wp2
          go_round
          case rel => exact ⟨k + 1, by have := HI.out; omega, by have := HI.out; go_num, by rw [HNX.out, if_pos HBG.out]⟩
          case measure => simp [intOf]; omega
        · have HBG := Lib.hid hbig
          go_wp2
          go_round
          case rel => exact ⟨k + 1, by have := HI.out; omega, by have := HI.out; go_num, by rw [HNX.out, if_neg HBG.out]⟩
          case measure => simp [intOf]; omega
      · have hy0 : y = 0 := by
          rw [HY.out]; simp [List.getD, List.getElem?_eq_none (show xs.length ≤ i + 1 by have := HN.out; omega)]
        have hnx2 := HNX.out
        rw [hy0, Int.add_zero] at hnx2
        have HNX2 := Lib.hid hnx2
        clear hnx2 heq hy0 hx2
        by_cases hbig : 65535 < z + x * 256
        · have HBG := Lib.hid hbig
          go_wp2
          go_round
          case rel => exact ⟨k + 1, by have := HI.out; omega, by have := HI.out; go_num, by rw [HNX2.out, if_pos HBG.out]⟩
          case measure => simp [intOf]; omega
        · have HBG := Lib.hid hbig
          go_wp2
          go_round
          case rel => exact ⟨k + 1, by have := HI.out; omega, by have := HI.out; go_num, by rw [HNX2.out, if_neg HBG.out]⟩
          case measure => simp [intOf]; omega
    · go_wp2
      go_ret
      refine ⟨ret_int ?_, rfl⟩
      unfold sumv
      rw [← HN.out, ← HS0.out]
      congr 1
      have := HI.out
      omega

/-! ### Diff and Find -/
theorem Held.load {w : World} {v : Value} {xs : List Int} (h : Held w v xs) : (Extern.Bytes.bytesOf v).run Tryz.prog w = .ok ⟨(Lib.bytesOf xs).toArray⟩ w := by
  obtain ⟨_, ⟨rfl, rfl | ⟨a, cap, rfl, _⟩⟩ | ⟨_, b, off, cap, rfl, _, _, _, hcell⟩⟩ := h
  · rfl
  · rfl
  · have hl := Lib.run_loadBytesX (P := Tryz.prog) w xs ⟨b, off, none⟩ .empty (fun j x hj => by
      have hjl : j < xs.length := (List.getElem?_eq_some_iff.1 hj).1
      have e : (⟨b, off, none⟩ : Addr).add j = ⟨b, off + j, none⟩ := by unfold Addr.add; split <;> simp_all
      rw [e, hcell j (by omega), List.getD_eq_getElem?_getD, hj]
      rfl)
    have he : (⟨ByteArray.empty.data ++ (Lib.bytesOf xs).toArray⟩ : ByteArray) = ⟨(Lib.bytesOf xs).toArray⟩ := by
      apply ByteArray.ext
      show (#[] : Array UInt8) ++ (Lib.bytesOf xs).toArray = (Lib.bytesOf xs).toArray
      simp
    rw [he] at hl
    exact hl
/-- Byte by byte, the shorter one first. -/
def cmpv : List Int → List Int → Int
  | [], [] => 0
  | [], _ :: _ => -1
  | _ :: _, [] => 1
  | a :: ar, b :: br => if a < b then -1 else if b < a then 1 else cmpv ar br
theorem u8_lt {x y : Int} (hx : 0 ≤ x ∧ x ≤ 255) (hy : 0 ≤ y ∧ y ≤ 255) : (x.toNat.toUInt8 < y.toNat.toUInt8) ↔ x < y := by
  rw [UInt8.lt_iff_toNat_lt]
  have e1 : x.toNat.toUInt8.toNat = x.toNat := by simp; omega
  have e2 : y.toNat.toUInt8.toNat = y.toNat := by simp; omega
  rw [e1, e2]; omega
theorem cmpv_eq : ∀ (xs ys : List Int), IsBytes xs → IsBytes ys → Lib.compareBytes (Lib.bytesOf xs) (Lib.bytesOf ys) = cmpv xs ys
  | [], [], _, _ => rfl
  | [], _ :: _, _, _ => rfl
  | _ :: _, [], _, _ => rfl
  | x :: xs, y :: ys, hx, hy => by
    have ih := cmpv_eq xs ys (fun z hz => hx z (by simp [hz])) (fun z hz => hy z (by simp [hz]))
    have h1 := u8_lt (hx x (by simp)) (hy y (by simp))
    have h2 := u8_lt (hy y (by simp)) (hx x (by simp))
    show (if x.toNat.toUInt8 < y.toNat.toUInt8 then (-1 : Int) else if y.toNat.toUInt8 < x.toNat.toUInt8 then 1 else Lib.compareBytes (Lib.bytesOf xs) (Lib.bytesOf ys)) = _
    rw [ih, show cmpv (x :: xs) (y :: ys) = if x < y then -1 else if y < x then 1 else cmpv xs ys from rfl]
    by_cases h : x < y
    · rw [if_pos (h1.2 h), if_pos h]
    · rw [if_neg (fun h' => h (h1.1 h')), if_neg h]
      by_cases h' : y < x
      · rw [if_pos (h2.2 h'), if_pos h']
      · rw [if_neg (fun h'' => h' (h2.1 h'')), if_neg h']
theorem run_compare {v1 v2 : Value} {xs ys : List Int} {w : World} (h1 : Held w v1 xs) (h2 : Held w v2 ys) : (callFunc 130 #[v1, v2]).run Tryz.prog w = .ok (.value (.int .i64 (cmpv xs ys))) w := by
  rw [run_callFunc_extern Tryz.func130 (by kernel_rfl) (by kernel_rfl) (by kernel_rfl) (e := Extern.BytealgCompare.compare) (by kernel_rfl)]
  have e : (Extern.BytealgCompare.compare #[v1, v2]).run Tryz.prog w = .ok (.int .i64 (cmpv xs ys)) w := by
    change Sem.run Tryz.prog (do pure (goInt (Extern.BytealgCompare.cmp (← Extern.Bytes.bytesOf v1) (← Extern.Bytes.bytesOf v2)))) w = _
    simp only [Sem.run_bind, Sem.run_pure, h1.load, h2.load, Result.andThen]
    rw [Lib.cmp_eq]
    show Result.ok (Value.int .i64 (Lib.compareBytes (Lib.bytesOf xs) (Lib.bytesOf ys))) w = _
    rw [cmpv_eq xs ys h1.bytes h2.bytes]
  rw [e]; rfl
set_option maxHeartbeats 400000 in
theorem diff_of (v1 v2 : Value) (xs ys : List Int) (w : World) (h1 : Held w v1 xs) (h2 : Held w v2 ys) :
    Calls Tryz.prog 37 #[v1, v2] w fun e w' => e = .returned (.int .i64 (cmpv xs ys)) ∧ w = w' := by
  have hr := run_compare h1 h2
  clear h1 h2
  go_enter Tryz.func37, Tryz.ntmps37
  go_wp2
  go_ret
  exact ⟨rfl, rfl⟩
/-- The place of the first c, or -1. -/
def findv : List Int → Int → Int
  | [], _ => -1
  | b :: l, c => if b = c then 0 else if findv l c = -1 then -1 else findv l c + 1
theorem findv_eq (xs : List Int) (hx : IsBytes xs) (c : Int) (hc : 0 ≤ c ∧ c ≤ 255) : Lib.indexByte (Lib.bytesOf xs) c.toNat.toUInt8 = findv xs c := by
  induction xs with
  | nil => rfl
  | cons x xs ih =>
    have hb := hx x (by simp)
    have ih := ih fun z hz => hx z (by simp [hz])
    show (if x.toNat.toUInt8 == c.toNat.toUInt8 then (0 : Int) else if Lib.indexByte (Lib.bytesOf xs) c.toNat.toUInt8 == -1 then -1 else Lib.indexByte (Lib.bytesOf xs) c.toNat.toUInt8 + 1) = _
    rw [ih, show findv (x :: xs) c = if x = c then 0 else if findv xs c = -1 then -1 else findv xs c + 1 from rfl]
    have he : (x.toNat.toUInt8 == c.toNat.toUInt8) = decide (x = c) := by
      rw [Bool.eq_iff_iff]
      simp only [beq_iff_eq, decide_eq_true_eq]
      exact ⟨fun h => u8_inj hb hc h, fun h => by rw [h]⟩
    rw [he]
    by_cases h : x = c <;> simp [h]
theorem run_index {v : Value} {xs : List Int} {w : World} (h : Held w v xs) (c : Int) (hc : 0 ≤ c ∧ c ≤ 255) : (callFunc 129 #[v, .int .u8 c]).run Tryz.prog w = .ok (.value (.int .i64 (findv xs c))) w := by
  rw [run_callFunc_extern Tryz.func129 (by kernel_rfl) (by kernel_rfl) (by kernel_rfl) (e := Extern.BytealgIndexByte.indexByte) (by kernel_rfl)]
  have hs := Lib.run_indexByteString (P := Tryz.prog) ⟨(Lib.bytesOf xs).toArray⟩ c w
  have e : (Extern.BytealgIndexByte.indexByte #[v, .int .u8 c]).run Tryz.prog w = .ok (.int .i64 (findv xs c)) w := by
    rw [← findv_eq xs h.bytes c hc]
    have hl := h.load
    change Sem.run Tryz.prog (do
      let b ← Extern.Bytes.bytesOf v
      let c ← Extern.Bytes.asByte (.int .u8 c)
      match (List.range b.size).find? fun i => b[i]! == c with
      | some i => pure (goInt i)
      | none => pure (goInt (-1))) w = _
    change Sem.run Tryz.prog (do
      let b ← Extern.Bytes.bytesOf (.string ⟨(Lib.bytesOf xs).toArray⟩)
      let c ← Extern.Bytes.asByte (.int .u8 c)
      match (List.range b.size).find? fun i => b[i]! == c with
      | some i => pure (goInt i)
      | none => pure (goInt (-1))) w = _ at hs
    simp only [Sem.run_bind, hl, Result.andThen]
    simp only [Extern.Bytes.bytesOf, Sem.run_bind, Sem.run_pure, Result.andThen] at hs
    exact hs
  rw [e]; rfl
theorem u8_low (c : Int) : IntKind.u8.wrap c = c % 256 := by simp [IntKind.wrap, IntKind.bits, IntKind.signed]
set_option maxHeartbeats 400000 in
theorem find_of (v : Value) (xs : List Int) (c : Int) (w : World) (h : Held w v xs) :
    Calls Tryz.prog 36 #[v, .int .i64 c] w fun e w' => e = .returned (.int .i64 (findv xs (c % 256))) ∧ w = w' := by
  have hr := run_index h (c % 256) (by omega)
  have hu := u8_low c
  clear h
  go_enter Tryz.func36, Tryz.ntmps36
  go_wp2
  go_ret
  exact ⟨rfl, rfl⟩

/-! ### Mix -/
def mix1 (x y : Nat) : Nat := x ^^^ (y * 14437167314951722571 % 18446744073709551616)
def mix2 (z : Nat) : Nat := z ^^^ (z / 536870912)
def mix3 (z : Nat) : Nat := z * 10320681969465668653 % 18446744073709551616
def mix4 (z : Nat) : Nat := z ^^^ (z / 4294967296)
def mixv (x y : Nat) : Nat := mix4 (mix3 (mix2 (mix1 x y)))
set_option maxHeartbeats 800000 in
theorem mix_of (x y : Int) (w : World) : Calls Tryz.prog 34 #[.int .i64 x, .int .i64 y] w fun e w' => e = .returned (.int .i64 (wrap64 ((mixv (un x) (un y) : Nat) : Int))) ∧ w = w' := by
  go_enter Tryz.func34, Tryz.ntmps34
  go_wp2
  go_ret
  refine ⟨ret_int ?_, rfl⟩
  have ux : ∀ z : Int, IntKind.u64.wrap z = ((un z : Nat) : Int) := fun z => by rw [IntKind.wrap_u64, un_cast]
  have um : ∀ z k : Nat, IntKind.u64.wrap ((z : Int) * (k : Int)) = ((z * k % 18446744073709551616 : Nat) : Int) := fun z k => by rw [IntKind.wrap_u64, ← Int.natCast_mul, Int.natCast_emod]; rfl
  have h1 : mix1 (un x) (un y) < 2 ^ 64 := Nat.xor_lt_two_pow (un_lt x) (by omega)
  have h2 : mix2 (mix1 (un x) (un y)) < 2 ^ 64 := Nat.xor_lt_two_pow h1 (Nat.lt_of_le_of_lt (Nat.div_le_self _ _) h1)
  have h3 : mix3 (mix2 (mix1 (un x) (un y))) < 2 ^ 64 := Nat.mod_lt _ (by decide)
  have e1 : bits BinOp.xor IntKind.u64 (IntKind.u64.wrap x) (IntKind.u64.wrap (IntKind.u64.wrap y * 14437167314951722571)) = ((mix1 (un x) (un y) : Nat) : Int) := by
    have hk := um (un y) 14437167314951722571
    have hk2 : ((14437167314951722571 : Nat) : Int) = 14437167314951722571 := rfl
    rw [hk2] at hk
    rw [ux x, ux y, hk, bits_xor_u64_nat _ _ (un_lt x) (Nat.mod_lt _ (by decide))]
    rfl
  rw [e1]
  show wrap64 _ = wrap64 ((mix4 (mix3 (mix2 (mix1 (un x) (un y)))) : Nat) : Int)
  generalize mix1 (un x) (un y) = z1 at h1 h2 h3 ⊢
  have d1 : (z1 : Int) / 536870912 = ((z1 / 536870912 : Nat) : Int) := by omega
  rw [d1, bits_xor_u64_nat _ _ h1 (Nat.lt_of_le_of_lt (Nat.div_le_self _ _) h1)]
  show wrap64 (bits BinOp.xor IntKind.u64 (IntKind.u64.wrap (((mix2 z1 : Nat) : Int) * 10320681969465668653)) (IntKind.u64.wrap (((mix2 z1 : Nat) : Int) * 10320681969465668653) / 4294967296)) = _
  generalize mix2 z1 = z2 at h2 h3 ⊢
  have hk := um z2 10320681969465668653
  have hk2 : ((10320681969465668653 : Nat) : Int) = 10320681969465668653 := rfl
  rw [hk2] at hk
  rw [hk]
  show wrap64 (bits BinOp.xor IntKind.u64 ((mix3 z2 : Nat) : Int) (((mix3 z2 : Nat) : Int) / 4294967296)) = _
  generalize mix3 z2 = z3 at h3 ⊢
  have d2 : (z3 : Int) / 4294967296 = ((z3 / 4294967296 : Nat) : Int) := by omega
  rw [d2, bits_xor_u64_nat _ _ h3 (Nat.lt_of_le_of_lt (Nat.div_le_self _ _) h3)]
  rfl
end Go.Proofs.YtbkcpepalicbjaaGreat
