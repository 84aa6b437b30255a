/-
  The reference's Find and Sum.
-/
import Derived.Test.YtbegamjbnidkbaaHelpC
namespace Go.Proofs.Ytbegamjbnidkbaa
open Go.RowKit
set_option linter.unusedVariables false

theorem findv_ge (c : Int) : ∀ xs : List Int, -1 ≤ findv xs c ∧ findv xs c ≤ xs.length
  | [] => by show -1 ≤ (-1 : Int) ∧ (-1 : Int) ≤ _; simp
  | x :: xs => by
    have ih := findv_ge c xs
    have e : findv (x :: xs) c = if x = c then 0 else if findv xs c = -1 then -1 else findv xs c + 1 := rfl
    rw [e, List.length_cons]
    split
    · omega
    · split <;> omega
/-- The place of the first c at m or behind it. -/
def findF (xs : List Int) (c : Int) (m : Nat) : Int := if findv (xs.drop m) c = -1 then -1 else m + findv (xs.drop m) c
theorem findF_end (xs : List Int) (c : Int) : findF xs c xs.length = -1 := by
  unfold findF
  rw [List.drop_length]
  rfl
theorem findF_zero (xs : List Int) (c : Int) : findF xs c 0 = findv xs c := by
  unfold findF
  rw [List.drop_zero]
  split
  · omega
  · omega
theorem findF_step (xs : List Int) (c : Int) (i : Nat) (hi : i < xs.length) : findF xs c i = if xs.getD i 0 = c then (i : Int) else findF xs c (i + 1) := by
  unfold findF
  have e : findv (xs[i] :: xs.drop (i + 1)) c = if xs[i] = c then 0 else if findv (xs.drop (i + 1)) c = -1 then -1 else findv (xs.drop (i + 1)) c + 1 := rfl
  have hd : xs.drop i = xs[i] :: xs.drop (i + 1) := List.drop_eq_getElem_cons hi
  have hg : xs.getD i 0 = xs[i] := by simp [List.getD, hi]
  rw [hd, e, hg]
  have hge := findv_ge c (xs.drop (i + 1))
  generalize findv (xs.drop (i + 1)) c = f at hge ⊢
  by_cases hx : xs[i] = c
  · simp only [if_pos hx]
    rw [if_neg (by omega)]
    omega
  · rw [if_neg hx, if_neg hx]
    by_cases hf : f = -1
    · rw [if_pos hf, if_pos rfl, if_pos hf]
    · rw [if_neg hf, if_neg (by omega), if_neg hf]
      omega
theorem low8a (c : Int) : bits .and .i64 c 255 = c % 256 := by
  have h := i64_and_mask c 8 (by decide)
  have e : (2 : Int) ^ 8 = 256 := rfl
  rw [e] at h
  exact h

set_option maxHeartbeats 1600000 in
theorem reffind_of (v : Value) (xs : List Int) (hl : xs.length ≤ 281474976710656) (c : Int) (w : World) (h : Held w v xs) :
    Calls Try.prog 30 #[v, .int .i64 c] w fun e w' => e = .returned (.int .i64 (findv xs (c % 256))) ∧ w = w' := by
  have hx := h.bytes
  obtain ⟨C, hC⟩ : ∃ C, C = c % 256 := ⟨_, rfl⟩
  have hlow := low8a c
  rw [← hC] at hlow ⊢
  clear hC
  have hsl : ∃ a cap, v = .slice a xs.length cap ∧ ∀ i, i < xs.length → ∃ b off, a = some ⟨b, off, none⟩ ∧ w.cell? ⟨b, off + i, none⟩ = some (.int .u8 (xs.getD i 0)) := by
    obtain ⟨_, ⟨rfl, rfl | ⟨a, cap, rfl, _⟩⟩ | ⟨_, b, off, cap, rfl, _, _, _, hcell⟩⟩ := h
    · exact ⟨_, _, rfl, fun i hi => by simp at hi⟩
    · exact ⟨_, _, rfl, fun i hi => by simp at hi⟩
    · exact ⟨_, _, rfl, fun i hi => ⟨b, off, rfl, hcell i hi⟩⟩
  obtain ⟨a, cap, rfl, hc⟩ := hsl
  have hz := findF_zero xs C
  have he := findF_end xs C
  have hst := findF_step xs C
  obtain ⟨n, hn⟩ : ∃ n, n = xs.length := ⟨_, rfl⟩
  rw [← hn] at hc hl he hst ⊢
  rw [← hz]
  have HC := Lib.hid hc
  have HX := Lib.hid hx
  have HE := Lib.hid he
  have HST := Lib.hid hst
  clear hc hx he hst hz h
  go_enter Try.func30, Try.ntmps30
  go_wp2
  go_loop [5, 6] (fun z s => ∃ (m : Nat) (j : Int), m ≤ n ∧ j = m - 1 ∧ s = .int .i64 j ∧ z = .int .i64 (findF xs C m)) (fun _ s => (intOf s + 1).toNat)
  case atStart => exact ⟨n, _, Nat.le_refl _, rfl, by go_num, by rw [HE.out]⟩
  case round =>
    obtain ⟨m, j, hm, hj, rfl, rfl⟩ := hrel
    by_cases hj0 : 0 ≤ j
    · obtain ⟨i, rfl⟩ : ∃ i : Nat, j = i := ⟨j.toNat, by omega⟩
      obtain rfl : m = i + 1 := by omega
      have hlt : i < n := by omega
      obtain ⟨b, off, rfl, e1⟩ := HC.out i hlt
      have hr := HX.out.at' i
      have hs := HST.out i hlt
      obtain ⟨x, hxx⟩ : ∃ x, x = xs.getD i 0 := ⟨_, rfl⟩
      rw [← hxx] at hr hs e1
      obtain ⟨F, hF⟩ : ∃ F, F = findF xs C (i + 1) := ⟨_, rfl⟩
      rw [← hF] at hs ⊢
      clear hxx hF hj
      by_cases hq : x = C
      · have hqb : (x == C) = true := by simpa using hq
        rw [if_pos hq] at hs
        have HS := Lib.hid hs
        clear hs hq
        go_wp2
        go_round
        case rel => exact ⟨i, _, by omega, rfl, rfl, by rw [HS.out]⟩
        case measure => (simp [intOf] <;> omega)
      · have hqb : (x == C) = false := by simpa using hq
        rw [if_neg hq] at hs
        have HS := Lib.hid hs
        clear hs hq
        go_wp2
        go_round
        case rel => exact ⟨i, _, by omega, rfl, rfl, by rw [HS.out]⟩
        case measure => (simp [intOf] <;> omega)
    · obtain rfl : m = 0 := by omega
      go_wp2
      go_ret
      exact ⟨rfl, rfl⟩

/-! ### Sum -/
def red (t : Int) : Int := if t = 0 then 0 else (t - 1) % 65535 + 1
def sumT (xs : List Int) (s : Int) : Nat → Int
  | 0 => s
  | i + 1 => sumT xs s i + (if i % 2 = 0 then 256 * xs.getD i 0 else xs.getD i 0)
theorem sumT_range {xs : List Int} (h : IsBytes xs) {s : Int} (hs : 0 ≤ s ∧ s ≤ 65535) (i : Nat) : 0 ≤ sumT xs s i ∧ sumT xs s i ≤ 65535 + 65280 * i := by
  induction i with
  | zero => simpa [sumT] using hs
  | succ i ih =>
    have := h.at' i
    simp only [sumT]
    split <;> omega
theorem red_step (t w : Int) (ht : 0 ≤ t) (hw : 0 ≤ w ∧ w ≤ 65535) : red (t + w) = stp (red t) w := by
  unfold red stp
  by_cases h0 : t = 0
  · subst h0
    rw [Int.zero_add, if_pos rfl, Int.zero_add]
    split <;> split <;> omega
  · rw [if_neg h0, if_neg (by omega)]
    split <;> omega
theorem sumT_even {xs : List Int} (h : IsBytes xs) {s : Int} (hs : 0 ≤ s ∧ s ≤ 65535) (k : Nat) : red (sumT xs s (2 * k)) = sumN xs s k := by
  induction k with
  | zero =>
    show red s = s
    unfold red
    split <;> omega
  | succ k ih =>
    have e : sumT xs s (2 * (k + 1)) = sumT xs s (2 * k) + wordAt xs k := by
      show sumT xs s (2 * k) + (if 2 * k % 2 = 0 then 256 * xs.getD (2 * k) 0 else xs.getD (2 * k) 0) + (if (2 * k + 1) % 2 = 0 then 256 * xs.getD (2 * k + 1) 0 else xs.getD (2 * k + 1) 0) = _
      rw [if_pos (by omega), if_neg (by omega)]
      unfold wordAt
      omega
    rw [e, red_step _ _ (sumT_range h hs _).1 (word_range h k), ih]
    rfl
theorem sumT_all {xs : List Int} (h : IsBytes xs) (seed : Int) : red (sumT xs (seed % 65536) xs.length) = sumv xs seed := by
  unfold sumv
  have hs : 0 ≤ seed % 65536 ∧ seed % 65536 ≤ 65535 := by omega
  rw [← sumT_even h hs]
  congr 1
  by_cases hp : xs.length % 2 = 0
  · rw [show 2 * ((xs.length + 1) / 2) = xs.length by omega]
  · rw [show 2 * ((xs.length + 1) / 2) = xs.length + 1 by omega]
    have h0 : xs.getD xs.length 0 = 0 := by simp [List.getD]
    show _ = sumT xs (seed % 65536) xs.length + (if xs.length % 2 = 0 then 256 * xs.getD xs.length 0 else xs.getD xs.length 0)
    rw [h0, if_neg hp]
    omega

set_option maxHeartbeats 1600000 in
theorem refsum_of (v : Value) (xs : List Int) (hl : xs.length ≤ 1048576) (seed : Int) (w : World) (h : Held w v xs) :
    Calls Try.prog 24 #[v, .int .i64 seed] w fun e w' => e = .returned (.int .i64 (sumv xs seed)) ∧ w = w' := by
  have hx := h.bytes
  have hsd := seed_low seed
  have hall := sumT_all hx seed
  have hrg := fun i => sumT_range (s := seed % 65536) hx (by omega) i
  obtain ⟨s0, hs0⟩ : ∃ s0, s0 = seed % 65536 := ⟨_, rfl⟩
  rw [← hs0] at hsd hall hrg
  clear hs0
  have hsl : ∃ a cap, v = .slice a xs.length cap ∧ ∀ i, i < xs.length → ∃ b off, a = some ⟨b, off, none⟩ ∧ w.cell? ⟨b, off + i, none⟩ = some (.int .u8 (xs.getD i 0)) := by
    obtain ⟨_, ⟨rfl, rfl | ⟨a, cap, rfl, _⟩⟩ | ⟨_, b, off, cap, rfl, _, _, _, hcell⟩⟩ := h
    · exact ⟨_, _, rfl, fun i hi => by simp at hi⟩
    · exact ⟨_, _, rfl, fun i hi => by simp at hi⟩
    · exact ⟨_, _, rfl, fun i hi => ⟨b, off, rfl, hcell i hi⟩⟩
  obtain ⟨a, cap, rfl, hc⟩ := hsl
  obtain ⟨n, hn⟩ : ∃ n, n = xs.length := ⟨_, rfl⟩
  obtain ⟨V, hV⟩ : ∃ V, V = sumv xs seed := ⟨_, rfl⟩
  rw [← hn] at hc hl hall ⊢
  rw [← hV] at hall ⊢
  have HC := Lib.hid hc
  have HX := Lib.hid hx
  have HA := Lib.hid hall
  have HR := Lib.hid hrg
  clear hc hx hall hrg h hn hV
  go_enter Try.func24, Try.ntmps24
  go_wp2
  go_loop [5, 6, 7] (fun z s _ => ∃ (i : Nat), i ≤ n ∧ s = .int .i64 i ∧ z = .int .i64 (sumT xs s0 i)) (fun _ s _ => n - (intOf s).toNat)
  case atStart => exact ⟨0, Nat.zero_le _, rfl, rfl⟩
  case round =>
    obtain ⟨i, hi, rfl, rfl⟩ := hrel
    have hT := HR.out i
    by_cases hlt : i < n
    · obtain ⟨b, off, rfl, e1⟩ := HC.out i hlt
      have hr := HX.out.at' i
      have hs : sumT xs s0 (i + 1) = sumT xs s0 i + (if i % 2 = 0 then 256 * xs.getD i 0 else xs.getD i 0) := rfl
      obtain ⟨x, hxx⟩ : ∃ x, x = xs.getD i 0 := ⟨_, rfl⟩
      obtain ⟨T, hTT⟩ : ∃ T, T = sumT xs s0 i := ⟨_, rfl⟩
      rw [← hxx] at hr hs e1
      rw [← hTT] at hs hT ⊢
      clear hxx hTT
      by_cases hp : i % 2 = 0
      · have hq : ((i : Int) % 2 == 0) = true := by simp; omega
        have hq2 : ((i : Int).tmod 2 == 0) = true := by rw [Int.tmod_eq_emod_of_nonneg (by omega)]; exact hq
        rw [if_pos hp] at hs
        have HS := Lib.hid hs
        clear hs hp
        go_wp2
        go_round
        case rel => exact ⟨i + 1, by omega, by go_num, by rw [HS.out]⟩
        case measure => (simp [intOf] <;> omega)
      · have hq : ((i : Int) % 2 == 0) = false := by simp; omega
        have hq2 : ((i : Int).tmod 2 == 0) = false := by rw [Int.tmod_eq_emod_of_nonneg (by omega)]; exact hq
        rw [if_neg hp] at hs
        have HS := Lib.hid hs
        clear hs hp
        go_wp2
        go_round
        case rel => exact ⟨i + 1, by omega, by go_num, by rw [HS.out]⟩
        case measure => (simp [intOf] <;> omega)
    · obtain rfl : i = n := by omega
      obtain ⟨T, hTT⟩ : ∃ T, T = sumT xs s0 i := ⟨_, rfl⟩
      rw [← hTT] at hT ⊢
      have hred := HA.out
      rw [← hTT] at hred
      clear hTT
      unfold red at hred
      have HRD := Lib.hid hred
      clear hred
      by_cases h0 : T = 0
      · subst h0
        go_wp2
        go_ret
        exact ⟨ret_int (by rw [← HRD.out]; rfl), rfl⟩
      · have h0b : (T == 0) = false := by simpa using h0
        have H0 := Lib.hid h0
        have htm : (T - 1).tmod 65535 = (T - 1) % 65535 := Int.tmod_eq_emod_of_nonneg (by omega)
        go_wp2
        go_ret
        refine ⟨ret_int ?_, rfl⟩
        rw [← HRD.out, if_neg H0.out]
end Go.Proofs.Ytbegamjbnidkbaa
