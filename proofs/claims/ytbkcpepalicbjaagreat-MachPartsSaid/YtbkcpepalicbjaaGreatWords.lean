/-
  Sums of words, in plain arithmetic: words that change places, a sum of 0, a byte of 0 behind; owned rows that are written.
-/
import Derived.Test.YtbkcpepalicbjaaGreatHelpC
import Derived.Laws.OwnMore
namespace Go.Proofs.YtbkcpepalicbjaaGreat
open Go.RowKit
set_option linter.unusedVariables false

def redw (t : Int) : Int := if t = 0 then 0 else (t - 1) % 65535 + 1
theorem redw_step (t w : Int) (ht : 0 ≤ t) (hw : 0 ≤ w ∧ w ≤ 65535) : stp (redw t) w = redw (t + w) := by
  unfold stp redw
  by_cases h : t = 0
  · subst h
    simp only [if_true, Int.zero_add]
    by_cases h2 : w = 0
    · subst h2; rfl
    · rw [if_neg (show ¬ 65535 < w by omega), if_neg h2]; omega
  · rw [if_neg h, if_neg (show ¬ t + w = 0 by omega)]
    split <;> omega
def tot (f : Nat → Int) : Nat → Int
  | 0 => 0
  | k + 1 => tot f k + f k
theorem tot_congr {f g : Nat → Int} {n : Nat} (h : ∀ j, j < n → f j = g j) : tot f n = tot g n := by
  induction n with
  | zero => rfl
  | succ k ih =>
    simp only [tot]
    rw [ih fun j hj => h j (by omega), h k (by omega)]
theorem tot_upd (f : Nat → Int) (i : Nat) (a : Int) (n : Nat) : tot (fun j => if j = i then a else f j) n = tot f n + if i < n then a - f i else 0 := by
  induction n with
  | zero => simp [tot]
  | succ k ih =>
    simp only [tot, ih]
    by_cases h1 : k = i
    · subst h1
      rw [if_pos rfl, if_neg (by omega), if_pos (by omega)]; omega
    · rw [if_neg h1]
      by_cases h2 : i < k
      · rw [if_pos h2, if_pos (by omega)]; omega
      · rw [if_neg h2, if_neg (by omega)]; omega
theorem tot_swap (f g : Nat → Int) (i k n : Nat) (hi : i < n) (hk : k < n) (h1 : g i = f k) (h2 : g k = f i) (h3 : ∀ j, j ≠ i → j ≠ k → g j = f j) : tot g n = tot f n := by
  by_cases e : i = k
  · subst e
    exact tot_congr fun j _ => by
      by_cases hj : j = i
      · subst hj; exact h1
      · exact h3 j hj hj
  · have hg : tot g n = tot (fun j => if j = k then f i else (if j = i then f k else f j)) n := tot_congr fun j _ => by
      by_cases hj : j = k
      · subst hj; simp [h2]
      · by_cases hj2 : j = i
        · subst hj2; simp [hj, h1]
        · simp [hj, hj2, h3 j hj2 hj]
    rw [hg, tot_upd (fun j => if j = i then f k else f j) k (f i) n, tot_upd f i (f k) n, if_pos hi, if_pos hk, if_neg (fun h => e h.symm)]
    omega
theorem tot_nonneg {f : Nat → Int} (h : ∀ j, 0 ≤ f j) (n : Nat) : 0 ≤ tot f n := by
  induction n with
  | zero => simp [tot]
  | succ k ih => simp only [tot]; have := h k; omega
theorem tot_zero {f : Nat → Int} (h : ∀ j, 0 ≤ f j) (n : Nat) : tot f n = 0 ↔ ∀ j, j < n → f j = 0 := by
  induction n with
  | zero => simp [tot]
  | succ k ih =>
    simp only [tot]
    have h1 := tot_nonneg h k
    have h2 := h k
    constructor
    · intro h3 j hj
      have h4 : tot f k = 0 := by omega
      by_cases hjk : j = k
      · subst hjk; omega
      · exact ih.1 h4 j (by omega)
    · intro h3
      have h4 := ih.2 fun j hj => h3 j (by omega)
      have h5 := h3 k (by omega)
      omega
theorem sumN_red {xs : List Int} (h : IsBytes xs) (s : Int) (hs : 0 ≤ s ∧ s ≤ 65535) (n : Nat) : sumN xs s n = redw (s + tot (wordAt xs) n) := by
  induction n with
  | zero =>
    show s = redw (s + 0)
    unfold redw
    split <;> omega
  | succ k ih =>
    show stp (sumN xs s k) (wordAt xs k) = redw (s + (tot (wordAt xs) k + wordAt xs k))
    have := tot_nonneg (f := wordAt xs) (fun j => (word_range h j).1) k
    rw [ih, redw_step _ _ (by omega) (word_range h k), Int.add_assoc]
theorem sumv_red {xs : List Int} (h : IsBytes xs) (seed : Int) : sumv xs seed = redw (seed % 65536 + tot (wordAt xs) ((xs.length + 1) / 2)) := sumN_red h _ (by omega) _

/-- Words i and k change places. -/
def swapw (xs : List Int) (i k : Nat) : List Int := (((xs.set (2 * i) (xs.getD (2 * k) 0)).set (2 * k) (xs.getD (2 * i) 0)).set (2 * i + 1) (xs.getD (2 * k + 1) 0)).set (2 * k + 1) (xs.getD (2 * i + 1) 0)
theorem swapw_length (xs : List Int) (i k : Nat) : (swapw xs i k).length = xs.length := by simp [swapw]
theorem getD_set (xs : List Int) (i j : Nat) (v : Int) (hi : i < xs.length) : (xs.set i v).getD j 0 = if j = i then v else xs.getD j 0 := by
  unfold List.getD
  rw [List.getElem?_set]
  by_cases h : i = j
  · subst h; simp [hi]
  · rw [if_neg h, if_neg (fun e => h e.symm)]
theorem swapw_at (xs : List Int) (i k : Nat) (hi : 2 * i + 1 < xs.length) (hk : 2 * k + 1 < xs.length) (j : Nat) : (swapw xs i k).getD j 0 = if j = 2 * k + 1 then xs.getD (2 * i + 1) 0 else if j = 2 * i + 1 then xs.getD (2 * k + 1) 0 else if j = 2 * k then xs.getD (2 * i) 0 else if j = 2 * i then xs.getD (2 * k) 0 else xs.getD j 0 := by
  unfold swapw
  rw [getD_set _ _ _ _ (by simp; omega), getD_set _ _ _ _ (by simp; omega), getD_set _ _ _ _ (by simp; omega), getD_set _ _ _ _ (by omega)]
theorem swapw_word (xs : List Int) (i k : Nat) (hi : 2 * i + 1 < xs.length) (hk : 2 * k + 1 < xs.length) (j : Nat) : wordAt (swapw xs i k) j = if j = k then wordAt xs i else if j = i then wordAt xs k else wordAt xs j := by
  unfold wordAt
  rw [swapw_at xs i k hi hk, swapw_at xs i k hi hk]
  by_cases h1 : j = k
  · subst h1
    rw [if_neg (by omega), if_neg (by omega), if_pos rfl, if_pos rfl, if_pos rfl]
  · rw [if_neg h1]
    by_cases h2 : j = i
    · subst h2
      rw [if_neg (by omega), if_neg (by omega), if_neg (by omega), if_pos rfl, if_neg (by omega), if_pos rfl, if_pos rfl]
    · rw [if_neg h2, if_neg (by omega), if_neg (by omega), if_neg (by omega), if_neg (by omega), if_neg (by omega), if_neg (by omega), if_neg (by omega), if_neg (by omega)]
theorem isBytes_set {xs : List Int} (h : IsBytes xs) (i : Nat) {v : Int} (hv : 0 ≤ v ∧ v ≤ 255) : IsBytes (xs.set i v) := fun x hx => by
  rcases List.mem_or_eq_of_mem_set hx with h1 | h1
  · exact h x h1
  · rw [h1]; exact hv
theorem swapw_bytes {xs : List Int} (h : IsBytes xs) (i k : Nat) : IsBytes (swapw xs i k) :=
  isBytes_set (isBytes_set (isBytes_set (isBytes_set h _ (h.at' _)) _ (h.at' _)) _ (h.at' _)) _ (h.at' _)
theorem sum_swap {xs : List Int} (h : IsBytes xs) (i k : Nat) (hi : 2 * i + 1 < xs.length) (hk : 2 * k + 1 < xs.length) (seed : Int) : sumv (swapw xs i k) seed = sumv xs seed := by
  rw [sumv_red (swapw_bytes h i k), sumv_red h, swapw_length, tot_swap (wordAt xs) (wordAt (swapw xs i k)) i k ((xs.length + 1) / 2) (by omega) (by omega)]
  · rw [swapw_word xs i k hi hk]
    by_cases e : i = k
    · subst e; rw [if_pos rfl]
    · rw [if_neg e, if_pos rfl]
  · rw [swapw_word xs i k hi hk, if_pos rfl]
  · intro j h1 h2
    rw [swapw_word xs i k hi hk, if_neg h2, if_neg h1]
theorem sum_zero_behind {xs : List Int} (h : IsBytes xs) (ho : xs.length % 2 = 1) (seed : Int) : sumv (xs ++ [0]) seed = sumv xs seed := by
  have h2 : IsBytes (xs ++ [0]) := h.append fun x hx => by simp at hx; subst hx; omega
  rw [sumv_red h2, sumv_red h, List.length_append, show (xs.length + [(0 : Int)].length + 1) / 2 = (xs.length + 1) / 2 by simp; omega]
  congr 2
  refine tot_congr fun j hj => ?_
  have e : ∀ t, (xs ++ [0]).getD t 0 = xs.getD t 0 := fun t => by
    unfold List.getD
    by_cases ht : t < xs.length
    · rw [List.getElem?_append_left ht]
    · rw [List.getElem?_append_right (by omega), List.getElem?_eq_none (show xs.length ≤ t by omega)]
      cases hc : t - xs.length with
      | zero => rfl
      | succ m => simp
  unfold wordAt
  rw [e, e]
/-- Is all 0 so far? -/
def zN (xs : List Int) (s0 : Int) : Nat → Bool
  | 0 => s0 == 0
  | k + 1 => zN xs s0 k && xs.getD k 0 == 0
theorem zN_spec (xs : List Int) (s0 : Int) (n : Nat) : zN xs s0 n = true ↔ s0 = 0 ∧ ∀ j, j < n → xs.getD j 0 = 0 := by
  induction n with
  | zero => simp [zN]
  | succ k ih =>
    simp only [zN, Bool.and_eq_true, ih, beq_iff_eq]
    constructor
    · rintro ⟨⟨h1, h2⟩, h3⟩
      refine ⟨h1, fun j hj => ?_⟩
      by_cases e : j = k
      · subst e; exact h3
      · exact h2 j (by omega)
    · rintro ⟨h1, h2⟩
      exact ⟨⟨h1, fun j hj => h2 j (by omega)⟩, h2 k (by omega)⟩
theorem sum_is_zero {xs : List Int} (h : IsBytes xs) (seed : Int) : (sumv xs seed == 0) = zN xs (seed % 65536) xs.length := by
  rw [Bool.eq_iff_iff, beq_iff_eq, zN_spec, sumv_red h]
  have hn := tot_nonneg (f := wordAt xs) (fun j => (word_range h j).1) ((xs.length + 1) / 2)
  have hz := tot_zero (f := wordAt xs) (fun j => (word_range h j).1) ((xs.length + 1) / 2)
  have hr : redw (seed % 65536 + tot (wordAt xs) ((xs.length + 1) / 2)) = 0 ↔ seed % 65536 + tot (wordAt xs) ((xs.length + 1) / 2) = 0 := by
    unfold redw
    split <;> omega
  rw [hr]
  constructor
  · intro h1
    refine ⟨by omega, fun j hj => ?_⟩
    have h2 := hz.1 (by omega) (j / 2) (by omega)
    have a1 := h.at' (2 * (j / 2))
    have a2 := h.at' (2 * (j / 2) + 1)
    unfold wordAt at h2
    rcases Nat.mod_two_eq_zero_or_one j with e | e
    · rw [show j = 2 * (j / 2) by omega]; omega
    · rw [show j = 2 * (j / 2) + 1 by omega]; omega
  · rintro ⟨h1, h2⟩
    have h3 := hz.2 fun j hj => by
      have a0 : ∀ t, xs.getD t 0 = 0 := fun t => by
        by_cases ht : t < xs.length
        · exact h2 t ht
        · unfold List.getD
          rw [List.getElem?_eq_none (by omega)]
          rfl
      unfold wordAt
      rw [a0, a0]
      rfl
    omega

/-! ### owned bytes that are written -/
theorem own_set {w : World} {base g n cap : Nat} {e : TypeId} {xs : List Int} (h : w.ownsRow base e 1 (.slice (some ⟨g, 0, none⟩) n cap) n (xs.map (Value.int .u8))) (i : Nat) (x : Int) (hi : i < n) :
    (w.setCell ⟨g, i, none⟩ (.int .u8 x)).ownsRow base e 1 (.slice (some ⟨g, 0, none⟩) n cap) n ((xs.set i x).map (Value.int .u8)) := by
  obtain ⟨hl, ⟨h0, _⟩ | ⟨g', cap', cur, hv, hb, hg, h1, h2, h3, h4⟩⟩ := h
  · cases h0
  · cases hv
    refine ⟨by simpa using hl, Or.inr ⟨g, cap, cur.setIfInBounds i (.int .u8 x), rfl, hb, ?_, h1, h2, by simpa using h3, ?_⟩⟩
    · have hlt : g < w.heap.size := (Array.getElem?_eq_some_iff.1 hg).1
      have h' : w.heap[g] = .cells cur e (0, 0) := by simpa [Array.getElem?_eq_getElem hlt] using hg
      show (w.heap.modify g _)[g]? = _
      rw [Array.getElem?_eq_getElem (by simpa using hlt), Array.getElem_modify_self, h']
      rfl
    · rw [Array.toList_setIfInBounds, List.take_set, h4, List.map_set]
theorem own_free {w : World} {base g n cap : Nat} {e : TypeId} {xs : List Value} (h : w.ownsRow base e 1 (.slice (some ⟨g, 0, none⟩) n cap) n xs) (i : Nat) : w.frozen? ⟨g, i, none⟩ = false := by
  obtain ⟨hl, ⟨h0, _⟩ | ⟨g', cap', cur, hv, hb, hg, _⟩⟩ := h
  · cases h0
  · cases hv
    simp [World.frozen?, hg]
theorem own_byte {w : World} {base g n cap : Nat} {e : TypeId} {xs : List Int} (h : w.ownsRow base e 1 (.slice (some ⟨g, 0, none⟩) n cap) n (xs.map (Value.int .u8))) (i : Nat) (hi : i < n) : w.cell? ⟨g, i, none⟩ = some (.int .u8 (xs.getD i 0)) := by
  have hl := h.1
  rw [h.cellAt i (by omega)]
  simp only [List.length_map, Nat.mul_one] at hl
  simp [List.getD, show i < xs.length by omega]
end Go.Proofs.YtbkcpepalicbjaaGreat
