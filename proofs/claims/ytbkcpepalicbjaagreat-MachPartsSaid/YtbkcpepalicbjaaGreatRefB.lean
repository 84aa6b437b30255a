/-
  The reference's rows of bits, further: products, orders, quotients.
-/
import Derived.Test.YtbkcpepalicbjaaGreatRefA
import Derived.Deep.RegionWith
import Derived.Deep.RegionHeld3
namespace Go.Proofs.YtbkcpepalicbjaaGreat
open Go.RowKit
set_option linter.unusedVariables false

theorem itab_below {w w' : World} {b n B : Nat} {e : TypeId} {g : Nat → Int} (h : Row w b e (itab n g)) (hb : Below B w w') (hlt : b < B) : Row w' b e (itab n g) := h.below hb hlt

theorem times_step (x y i : Nat) (h : bit y i = 1) : x * (y % 2 ^ i) + x * 2 ^ i + 0 = x * (y % 2 ^ (i + 1)) := by
  have h' : y / 2 ^ i % 2 = 1 := by unfold bit at h; omega
  rw [Nat.mod_pow_succ, h', Nat.mul_one, Nat.mul_add]; omega
theorem times_skip (x y i : Nat) (h : ¬ bit y i = 1) : x * (y % 2 ^ i) = x * (y % 2 ^ (i + 1)) := by
  have h' : y / 2 ^ i % 2 = 0 := by unfold bit at h; omega
  rw [Nat.mod_pow_succ, h', Nat.mul_zero, Nat.add_zero]

set_option maxHeartbeats 800000 in
theorem times_any (b1 b2 o1 o2 n c1 c2 x y : Nat) (hn : n ≤ 1048576) (w : World) (h1 : Bits w b1 o1 n x) (h2 : Bits w b2 o2 n y) :
    Calls Tryz.prog 227 #[.slice (some ⟨b1, o1, none⟩) n c1, .slice (some ⟨b2, o2, none⟩) n c2] w (NewBits w n (x * (y % 2 ^ n))) := by
  have hmk := make_ints n hn
  go_enter Tryz.func227, Tryz.ntmps227
  go_wp2
  go_loopw [5, 6] (fun c s wr => ∃ i bc : Nat, i ≤ n ∧ s = .int .i64 i ∧ c = .slice (some ⟨bc, 0, none⟩) n n ∧ w.heap.size ≤ bc ∧ Row wr bc 3 (itab n (bit (x * (y % 2 ^ i)))) ∧ Below w.heap.size w wr) (fun _ s _ => n - (intOf s).toNat)
  case atStart =>
    refine ⟨0, w.heap.size, Nat.zero_le _, rfl, rfl, Nat.le_refl _, ?_, (Below.refl _ _).alloc (Nat.le_refl _) _⟩
    have e : itab n (bit (x * (y % 2 ^ 0))) = itab n fun _ => 0 := itab_congr fun t _ => by simp [Nat.mod_one, bit]
    rw [e]
    exact Row.made _ _ _
  case round =>
    obtain ⟨i, bc, hi, rfl, rfl, hbc, hR, hB⟩ := hrel
    by_cases hlt : i < n
    · have e2 := (hB.cell (p := ⟨b2, o2 + i, none⟩) h2.1).trans (h2.2 i hlt)
      by_cases hbit : bit y i = 1
      · rw [hbit] at e2
        go_wp2_with fail
        refine (up_any b1 o1 n c1 x i _ rfl hn (by omega) _ (h1.below hB h1.1)).mono ?_
        rintro e w1 ⟨bu, rfl, hbu, hRu, hBu⟩
        go_wp2_with fail
        refine (plus_any bc bu 0 0 n n n n (x * (y % 2 ^ i)) (x * 2 ^ i) 0 _ rfl hn (Nat.le_refl _) (by omega) _ (Bits.row (hR.below hBu hR.lt)) (Bits.row hRu)).mono ?_
        rintro e w2 ⟨bp, rfl, hbp, hRp, hBp⟩
        rw [times_step x y i hbit] at hRp
        have hs1 := hB.size
        have hs2 := hBu.size
        have hs3 := hR.lt
        go_wp2
        go_roundw
        case rel => exact ⟨i + 1, bp, hlt, by go_num, rfl, by omega, hRp, hB.trans ((hBu.mono hs1).trans (hBp.mono (by omega)))⟩
        case measure => simp [intOf]; omega
      · have hbf : (bit y i == 1) = false := by simpa using hbit
        have HB := Lib.hid hbit
        clear hbit
        go_wp2
        go_roundw
        case rel => exact ⟨i + 1, bc, hlt, by go_num, rfl, hbc, by rw [← times_skip x y i HB.out]; exact hR, hB⟩
        case measure => simp [intOf]; omega
    · obtain rfl : i = n := by omega
      go_wp2
      go_ret
      exact ⟨bc, rfl, hbc, hR, hB⟩

theorem less_yes (x y j : Nat) (h : x / 2 ^ (j + 1) = y / 2 ^ (j + 1)) (hlt : bit x j < bit y j) : x < y := by
  have h1 := top_step x j
  have h2 := top_step y j
  unfold bit at hlt
  have h3 : x / 2 ^ j < y / 2 ^ j := by omega
  rcases Nat.lt_or_ge x y with h4 | h4
  · exact h4
  · have := Nat.div_le_div_right (c := 2 ^ j) h4; omega
theorem less_eqs (x y j : Nat) (h : x / 2 ^ (j + 1) = y / 2 ^ (j + 1)) (he : bit x j = bit y j) : x / 2 ^ j = y / 2 ^ j := by
  have h1 := top_step x j
  have h2 := top_step y j
  unfold bit at he
  omega

set_option maxHeartbeats 800000 in
theorem less_any (b1 b2 o1 o2 n c1 c2 x y : Nat) (hn : n ≤ 1048576) (hx : x < 2 ^ n) (hy : y < 2 ^ n) (w : World) (h1 : Bits w b1 o1 n x) (h2 : Bits w b2 o2 n y) :
    Calls Tryz.prog 216 #[.slice (some ⟨b1, o1, none⟩) n c1, .slice (some ⟨b2, o2, none⟩) n c2] w fun e w' => e = .returned (.bool (decide (x < y))) ∧ ∃ k, w' = w.drewN k := by
  go_enter Tryz.func216, Tryz.ntmps216
  go_wp2
  go_loopw [5] (fun s wr => ∃ j q : Nat, j ≤ n ∧ s = .int .i64 ((j : Int) - 1) ∧ x / 2 ^ j = y / 2 ^ j ∧ wr = w.drewN q) (fun s _ => (intOf s + 1).toNat)
  case atStart => exact ⟨n, 0, Nat.le_refl _, by go_num, by rw [top_zero hx, top_zero hy], rfl⟩
  case round =>
    obtain ⟨j, q, hj, rfl, heq, rfl⟩ := hrel
    have HE := Lib.hid heq
    clear heq
    by_cases hlt : 0 < j
    · obtain ⟨j, rfl⟩ : ∃ m, j = m + 1 := ⟨j - 1, by omega⟩
      have e0 : ((j + 1 : Nat) : Int) - 1 = j := by omega
      rw [e0]
      clear e0
      have e1 := h1.2 j (by omega)
      have e2 := h2.2 j (by omega)
      by_cases hb : bit x j = bit y j
      · have hbf : (bit x j != bit y j) = false := by simpa using hb
        have HB := Lib.hid hb
        clear hb
        go_wp2
        go_quiet (fail)
        go_wp2
        go_roundw
        case rel => exact ⟨j, q + nq, by omega, by go_num, less_eqs x y j HE.out HB.out, rfl⟩
        case measure => simp [intOf]
      · have hbf : (bit x j != bit y j) = true := by simpa using hb
        have HB := Lib.hid hb
        clear hb
        go_wp2
        go_quiet (fail)
        go_wp2
        go_quiet (fail)
        go_wp2
        go_ret
        refine ⟨ret_bool ?_, _, by rw [drewN_drewN, drewN_drewN]⟩
        rw [decide_eq_decide]
        constructor
        · intro h; exact less_yes x y j HE.out h
        · intro h
          rcases Int.lt_trichotomy (bit x j) (bit y j) with h' | h' | h'
          · exact h'
          · exact absurd h' HB.out
          · have := less_yes y x j HE.out.symm h'; omega
    · obtain rfl : j = 0 := by omega
      have HE' : x = y := by have := HE.out; simpa using this
      subst HE'
      clear HE
      go_wp2
      go_ret
      exact ⟨ret_bool (by simp), _, rfl⟩

set_option maxHeartbeats 800000 in
theorem same_any (b1 b2 o1 o2 n c1 c2 x y : Nat) (hn : n ≤ 1048576) (hx : x < 2 ^ n) (hy : y < 2 ^ n) (w : World) (h1 : Bits w b1 o1 n x) (h2 : Bits w b2 o2 n y) :
    Calls Tryz.prog 210 #[.slice (some ⟨b1, o1, none⟩) n c1, .slice (some ⟨b2, o2, none⟩) n c2] w fun e w' => e = .returned (.bool (decide (x = y))) ∧ ∃ k, w' = w.drewN k := by
  have h1' : ∀ k, Bits (w.drewN k) b1 o1 n x := fun k => h1
  have h2' : ∀ k, Bits (w.drewN k) b2 o2 n y := fun k => h2
  by_cases h : x < y
  · have hd : decide (x < y) = true := by simpa using h
    have hne : ¬ x = y := by omega
    go_enter Tryz.func210, Tryz.ntmps210
    go_wp2_with fail
    refine (less_any b1 b2 o1 o2 n c1 c2 x y hn hx hy _ h1 h2).mono ?_
    rintro e w1 ⟨rfl, k, rfl⟩
    rw [hd]
    go_wp2
    go_ret
    exact ⟨ret_bool (by simp [hne]), _, rfl⟩
  · have hd : decide (x < y) = false := by simpa using h
    go_enter Tryz.func210, Tryz.ntmps210
    go_wp2_with fail
    refine (less_any b1 b2 o1 o2 n c1 c2 x y hn hx hy _ h1 h2).mono ?_
    rintro e w1 ⟨rfl, k, rfl⟩
    rw [hd]
    go_wp2_with fail
    refine (less_any b2 b1 o2 o1 n c2 c1 y x hn hy hx _ (h2' k) (h1' k)).mono ?_
    rintro e w2 ⟨rfl, k2, rfl⟩
    go_wp2
    go_ret
    exact ⟨ret_bool (by rw [← decide_not, decide_eq_decide]; omega), _, rfl⟩

theorem neg_same (x n : Nat) : 2 ^ n - 1 - x % 2 ^ n + 0 + 1 = 2 ^ n - x % 2 ^ n := by
  have := Nat.mod_lt x (Nat.two_pow_pos n)
  omega
theorem zero_bits (w : World) (n : Nat) : Row (w.alloc (.cells (itab n fun _ => 0).toArray 3)) w.heap.size 3 (itab n (bit 0)) := by
  have e : itab n (bit 0) = itab n fun _ => 0 := itab_congr fun t _ => by simp [bit]
  rw [e]; exact Row.made _ _ _

set_option maxHeartbeats 800000 in
theorem negative_any (b o n c x : Nat) (hn : n ≤ 1048576) (w : World) (h1 : Bits w b o n x) :
    Calls Tryz.prog 232 #[.slice (some ⟨b, o, none⟩) n c] w (NewBits w n (2 ^ n - x % 2 ^ n)) := by
  have hmk := make_ints n hn
  go_enter Tryz.func232, Tryz.ntmps232
  go_wp2_with fail
  go_region_with (first
    | (go_at_call 226; refine (not_any b o n c x hn _ (by first | exact h1 | exact h1.below ((Below.refl w.heap.size w).alloc (Nat.le_refl _) _).drew h1.1)).mono ?_; rintro e w1 ⟨bn, rfl, hbn, hRn, hBn⟩)
    | (go_at_call 225; refine (plus_any _ _ 0 0 n n n n (2 ^ n - 1 - x % 2 ^ n) 0 1 _ rfl hn (Nat.le_refl _) (by omega) _ (by first | exact Bits.row (hRn.alloc _) | exact Bits.row hRn) (by first | exact Bits.row (zero_bits _ _) | exact Bits.row ((zero_bits w n).drew.below hBn (by simp)))).mono ?_; rintro e w2 ⟨bp, rfl, hbp, hRp, hBp⟩))
  all_goals rw [neg_same x n] at hRp
  · have hs := hBn.size
    go_wp2
    go_ret
    refine ⟨bp, rfl, ?_, hRp, (((Below.refl w.heap.size w).drew.trans hBn).alloc hs _).trans (hBp.mono (by simp; exact Nat.le_succ_of_le hs))⟩
    simp at hbp; exact Nat.le_trans hs (by omega)
  · have hs := hBn.size
    simp at hs
    go_wp2
    go_ret
    exact ⟨bp, rfl, by omega, hRp, (((Below.refl w.heap.size w).alloc (Nat.le_refl _) _).drew.trans (hBn.mono (by simp))).trans (hBp.mono (by omega))⟩
end Go.Proofs.YtbkcpepalicbjaaGreat
