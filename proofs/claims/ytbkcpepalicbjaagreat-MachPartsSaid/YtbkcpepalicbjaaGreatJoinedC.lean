/-
  The reference's joined: what each operation makes of two rows of bits, 32 bits.
-/
import Derived.Test.YtbkcpepalicbjaaGreatJoinedA
namespace Go.Proofs.YtbkcpepalicbjaaGreat
open Go.RowKit
set_option linter.unusedVariables false

set_option maxHeartbeats 1600000 in
theorem joined32_add (b1 b2 n x y : Nat) (hn : 32 = n) (hx : x < 2 ^ n) (hy : y < 2 ^ n) (w : World) (h1 : Bits w b1 0 n x) (h2 : Bits w b2 0 n y) :
    Calls Tryz.prog 212 #[.int .i64 1, .slice (some ⟨b1, 0, none⟩) n n, .slice (some ⟨b2, 0, none⟩) n n] w (SomeBits w n (x + y + 0)) := by
  have hd : ((n : Int) == 64) = false := by rw [← hn]; rfl
  have hlo : 32 ≤ n := by omega
  have hhi : n ≤ 64 := by omega
  have hlo' : (32 : Int) ≤ n := by omega
  obtain ⟨k5, hk5⟩ : ∃ k, k = y % 2 ^ 5 := ⟨_, rfl⟩
  have H5 := Lib.hid hk5
  have hk5b : k5 < 32 := by rw [hk5]; exact Nat.mod_lt _ (by decide)
  clear hk5
  have hkn : k5 < n := by omega
  clear hn
  go_enter Tryz.func212, Tryz.ntmps212
  go_wp2_with fail
  refine (number_small b2 0 5 n (y % 2 ^ 5) k5 H5.out (by decide) (Nat.mod_lt _ (by decide)) _ (h2.cut 5 (by omega))).mono ?_
  rintro e w1 ⟨rfl, rfl⟩
  go_wp2_with fail
  refine (plus_any b1 b2 0 0 n n n n x y 0 0 rfl (by omega) (Nat.le_refl _) (by omega) _ h1 h2).mono ?_
  rintro e w2 ⟨q, rfl, hq, hR, hB⟩
  go_wp2
  go_ret
  exact ⟨q, 0, n, rfl, Bits.row hR, hB⟩

set_option maxHeartbeats 1600000 in
theorem joined32_sub (b1 b2 n x y : Nat) (hn : 32 = n) (hx : x < 2 ^ n) (hy : y < 2 ^ n) (w : World) (h1 : Bits w b1 0 n x) (h2 : Bits w b2 0 n y) :
    Calls Tryz.prog 212 #[.int .i64 2, .slice (some ⟨b1, 0, none⟩) n n, .slice (some ⟨b2, 0, none⟩) n n] w (SomeBits w n (x + (2 ^ n - 1 - y % 2 ^ n) + 1)) := by
  have hd : ((n : Int) == 64) = false := by rw [← hn]; rfl
  have hlo : 32 ≤ n := by omega
  have hhi : n ≤ 64 := by omega
  have hlo' : (32 : Int) ≤ n := by omega
  obtain ⟨k5, hk5⟩ : ∃ k, k = y % 2 ^ 5 := ⟨_, rfl⟩
  have H5 := Lib.hid hk5
  have hk5b : k5 < 32 := by rw [hk5]; exact Nat.mod_lt _ (by decide)
  clear hk5
  have hkn : k5 < n := by omega
  clear hn
  go_enter Tryz.func212, Tryz.ntmps212
  go_wp2_with fail
  refine (number_small b2 0 5 n (y % 2 ^ 5) k5 H5.out (by decide) (Nat.mod_lt _ (by decide)) _ (h2.cut 5 (by omega))).mono ?_
  rintro e w1 ⟨rfl, rfl⟩
  go_wp2_with fail
  refine (not_any b2 0 n n y (by omega) _ h2).mono ?_
  rintro e w2 ⟨bn, rfl, hbn, hRn, hBn⟩
  go_wp2_with fail
  refine (plus_any b1 bn 0 0 n n n n x (2 ^ n - 1 - y % 2 ^ n) 1 1 rfl (by omega) (Nat.le_refl _) (by omega) _ (h1.below hBn h1.1) (Bits.row hRn)).mono ?_
  rintro e w3 ⟨q, rfl, hq, hR, hB⟩
  have hs := hBn.size
  go_wp2
  go_ret
  exact ⟨q, 0, n, rfl, Bits.row hR, hBn.trans (hB.mono hs)⟩

set_option maxHeartbeats 1600000 in
theorem joined32_mul (b1 b2 n x y : Nat) (hn : 32 = n) (hx : x < 2 ^ n) (hy : y < 2 ^ n) (w : World) (h1 : Bits w b1 0 n x) (h2 : Bits w b2 0 n y) :
    Calls Tryz.prog 212 #[.int .i64 3, .slice (some ⟨b1, 0, none⟩) n n, .slice (some ⟨b2, 0, none⟩) n n] w (SomeBits w n (x * (y % 2 ^ n))) := by
  have hd : ((n : Int) == 64) = false := by rw [← hn]; rfl
  have hlo : 32 ≤ n := by omega
  have hhi : n ≤ 64 := by omega
  have hlo' : (32 : Int) ≤ n := by omega
  obtain ⟨k5, hk5⟩ : ∃ k, k = y % 2 ^ 5 := ⟨_, rfl⟩
  have H5 := Lib.hid hk5
  have hk5b : k5 < 32 := by rw [hk5]; exact Nat.mod_lt _ (by decide)
  clear hk5
  have hkn : k5 < n := by omega
  clear hn
  go_enter Tryz.func212, Tryz.ntmps212
  go_wp2_with fail
  refine (number_small b2 0 5 n (y % 2 ^ 5) k5 H5.out (by decide) (Nat.mod_lt _ (by decide)) _ (h2.cut 5 (by omega))).mono ?_
  rintro e w1 ⟨rfl, rfl⟩
  go_wp2_with fail
  refine (times_any b1 b2 0 0 n n n x y (by omega) _ h1 h2).mono ?_
  rintro e w2 ⟨q, rfl, hq, hR, hB⟩
  go_wp2
  go_ret
  exact ⟨q, 0, n, rfl, Bits.row hR, hB⟩

set_option maxHeartbeats 1600000 in
theorem joined32_div (b1 b2 n x y : Nat) (hn : 32 = n) (hx : x < 2 ^ n) (hy : y < 2 ^ n) (hy0 : y ≠ 0) (w : World) (h1 : Bits w b1 0 n x) (h2 : Bits w b2 0 n y) :
    Calls Tryz.prog 212 #[.int .i64 4, .slice (some ⟨b1, 0, none⟩) n n, .slice (some ⟨b2, 0, none⟩) n n] w (SomeBits w n (x / y)) := by
  have hd : ((n : Int) == 64) = false := by rw [← hn]; rfl
  have hlo : 32 ≤ n := by omega
  have hhi : n ≤ 64 := by omega
  have hlo' : (32 : Int) ≤ n := by omega
  obtain ⟨k5, hk5⟩ : ∃ k, k = y % 2 ^ 5 := ⟨_, rfl⟩
  have H5 := Lib.hid hk5
  have hk5b : k5 < 32 := by rw [hk5]; exact Nat.mod_lt _ (by decide)
  clear hk5
  have hkn : k5 < n := by omega
  clear hn
  go_enter Tryz.func212, Tryz.ntmps212
  go_wp2_with fail
  refine (number_small b2 0 5 n (y % 2 ^ 5) k5 H5.out (by decide) (Nat.mod_lt _ (by decide)) _ (h2.cut 5 (by omega))).mono ?_
  rintro e w1 ⟨rfl, rfl⟩
  go_wp2_with fail
  refine (divided_any b1 b2 0 0 n n n x y (by omega) hhi hx hy hy0 _ h1 h2).mono ?_
  rintro e w2 ⟨q, r, cr, rfl, hq, hr, hB, _, _⟩
  go_wp2
  go_ret
  exact ⟨q, 0, n, rfl, hq, hB⟩

set_option maxHeartbeats 1600000 in
theorem joined32_mod (b1 b2 n x y : Nat) (hn : 32 = n) (hx : x < 2 ^ n) (hy : y < 2 ^ n) (hy0 : y ≠ 0) (w : World) (h1 : Bits w b1 0 n x) (h2 : Bits w b2 0 n y) :
    Calls Tryz.prog 212 #[.int .i64 5, .slice (some ⟨b1, 0, none⟩) n n, .slice (some ⟨b2, 0, none⟩) n n] w (SomeBits w n (x % y)) := by
  have hd : ((n : Int) == 64) = false := by rw [← hn]; rfl
  have hlo : 32 ≤ n := by omega
  have hhi : n ≤ 64 := by omega
  have hlo' : (32 : Int) ≤ n := by omega
  obtain ⟨k5, hk5⟩ : ∃ k, k = y % 2 ^ 5 := ⟨_, rfl⟩
  have H5 := Lib.hid hk5
  have hk5b : k5 < 32 := by rw [hk5]; exact Nat.mod_lt _ (by decide)
  clear hk5
  have hkn : k5 < n := by omega
  clear hn
  go_enter Tryz.func212, Tryz.ntmps212
  go_wp2_with fail
  refine (number_small b2 0 5 n (y % 2 ^ 5) k5 H5.out (by decide) (Nat.mod_lt _ (by decide)) _ (h2.cut 5 (by omega))).mono ?_
  rintro e w1 ⟨rfl, rfl⟩
  go_wp2_with fail
  refine (divided_any b1 b2 0 0 n n n x y (by omega) hhi hx hy hy0 _ h1 h2).mono ?_
  rintro e w2 ⟨q, r, cr, rfl, hq, hr, hB, _, _⟩
  go_wp2
  go_ret
  exact ⟨r, 0, cr, rfl, hr, hB⟩

set_option maxHeartbeats 1600000 in
theorem joined32_sdiv (b1 b2 n x y : Nat) (hn : 32 = n) (hx : x < 2 ^ n) (hy : y < 2 ^ n) (hy0 : y ≠ 0) (w : World) (h1 : Bits w b1 0 n x) (h2 : Bits w b2 0 n y) :
    Calls Tryz.prog 212 #[.int .i64 6, .slice (some ⟨b1, 0, none⟩) n n, .slice (some ⟨b2, 0, none⟩) n n] w (SomeBits w n (turn (bit x (n - 1) != bit y (n - 1)) n (absN n x / absN n y))) := by
  have hd : ((n : Int) == 64) = false := by rw [← hn]; rfl
  have hlo : 32 ≤ n := by omega
  have hhi : n ≤ 64 := by omega
  have hlo' : (32 : Int) ≤ n := by omega
  obtain ⟨k5, hk5⟩ : ∃ k, k = y % 2 ^ 5 := ⟨_, rfl⟩
  have H5 := Lib.hid hk5
  have hk5b : k5 < 32 := by rw [hk5]; exact Nat.mod_lt _ (by decide)
  clear hk5
  have hkn : k5 < n := by omega
  clear hn
  go_enter Tryz.func212, Tryz.ntmps212
  go_wp2_with fail
  refine (number_small b2 0 5 n (y % 2 ^ 5) k5 H5.out (by decide) (Nat.mod_lt _ (by decide)) _ (h2.cut 5 (by omega))).mono ?_
  rintro e w1 ⟨rfl, rfl⟩
  go_wp2_with fail
  refine (over_any b1 b2 0 0 n n n x y (by omega) hhi hx hy hy0 _ h1 h2).mono ?_
  rintro e w2 ⟨q, r, cq, cr, rfl, hq, hr, hB⟩
  go_wp2
  go_ret
  exact ⟨q, 0, cq, rfl, hq, hB⟩

set_option maxHeartbeats 1600000 in
theorem joined32_smod (b1 b2 n x y : Nat) (hn : 32 = n) (hx : x < 2 ^ n) (hy : y < 2 ^ n) (hy0 : y ≠ 0) (w : World) (h1 : Bits w b1 0 n x) (h2 : Bits w b2 0 n y) :
    Calls Tryz.prog 212 #[.int .i64 7, .slice (some ⟨b1, 0, none⟩) n n, .slice (some ⟨b2, 0, none⟩) n n] w (SomeBits w n (turn (bit x (n - 1) == 1) n (absN n x % absN n y))) := by
  have hd : ((n : Int) == 64) = false := by rw [← hn]; rfl
  have hlo : 32 ≤ n := by omega
  have hhi : n ≤ 64 := by omega
  have hlo' : (32 : Int) ≤ n := by omega
  obtain ⟨k5, hk5⟩ : ∃ k, k = y % 2 ^ 5 := ⟨_, rfl⟩
  have H5 := Lib.hid hk5
  have hk5b : k5 < 32 := by rw [hk5]; exact Nat.mod_lt _ (by decide)
  clear hk5
  have hkn : k5 < n := by omega
  clear hn
  go_enter Tryz.func212, Tryz.ntmps212
  go_wp2_with fail
  refine (number_small b2 0 5 n (y % 2 ^ 5) k5 H5.out (by decide) (Nat.mod_lt _ (by decide)) _ (h2.cut 5 (by omega))).mono ?_
  rintro e w1 ⟨rfl, rfl⟩
  go_wp2_with fail
  refine (over_any b1 b2 0 0 n n n x y (by omega) hhi hx hy hy0 _ h1 h2).mono ?_
  rintro e w2 ⟨q, r, cq, cr, rfl, hq, hr, hB⟩
  go_wp2
  go_ret
  exact ⟨r, 0, cr, rfl, hr, hB⟩

set_option maxHeartbeats 1600000 in
theorem joined32_or (b1 b2 n x y : Nat) (hn : 32 = n) (hx : x < 2 ^ n) (hy : y < 2 ^ n) (w : World) (h1 : Bits w b1 0 n x) (h2 : Bits w b2 0 n y) :
    Calls Tryz.prog 212 #[.int .i64 8, .slice (some ⟨b1, 0, none⟩) n n, .slice (some ⟨b2, 0, none⟩) n n] w (SomeBits w n (x ||| y)) := by
  have hd : ((n : Int) == 64) = false := by rw [← hn]; rfl
  have hlo : 32 ≤ n := by omega
  have hhi : n ≤ 64 := by omega
  have hlo' : (32 : Int) ≤ n := by omega
  obtain ⟨k5, hk5⟩ : ∃ k, k = y % 2 ^ 5 := ⟨_, rfl⟩
  have H5 := Lib.hid hk5
  have hk5b : k5 < 32 := by rw [hk5]; exact Nat.mod_lt _ (by decide)
  clear hk5
  have hkn : k5 < n := by omega
  clear hn
  go_enter Tryz.func212, Tryz.ntmps212
  go_wp2_with fail
  refine (number_small b2 0 5 n (y % 2 ^ 5) k5 H5.out (by decide) (Nat.mod_lt _ (by decide)) _ (h2.cut 5 (by omega))).mono ?_
  rintro e w1 ⟨rfl, rfl⟩
  go_wp2_with fail
  refine (or_any b1 b2 0 0 n n n n x y hhi (Nat.le_refl _) _ h1 h2).mono ?_
  rintro e w2 ⟨q, rfl, hq, hR, hB⟩
  go_wp2
  go_ret
  exact ⟨q, 0, n, rfl, Bits.row hR, hB⟩

set_option maxHeartbeats 1600000 in
theorem joined32_and (b1 b2 n x y : Nat) (hn : 32 = n) (hx : x < 2 ^ n) (hy : y < 2 ^ n) (w : World) (h1 : Bits w b1 0 n x) (h2 : Bits w b2 0 n y) :
    Calls Tryz.prog 212 #[.int .i64 9, .slice (some ⟨b1, 0, none⟩) n n, .slice (some ⟨b2, 0, none⟩) n n] w (SomeBits w n (x &&& y)) := by
  have hd : ((n : Int) == 64) = false := by rw [← hn]; rfl
  have hlo : 32 ≤ n := by omega
  have hhi : n ≤ 64 := by omega
  have hlo' : (32 : Int) ≤ n := by omega
  obtain ⟨k5, hk5⟩ : ∃ k, k = y % 2 ^ 5 := ⟨_, rfl⟩
  have H5 := Lib.hid hk5
  have hk5b : k5 < 32 := by rw [hk5]; exact Nat.mod_lt _ (by decide)
  clear hk5
  have hkn : k5 < n := by omega
  clear hn
  go_enter Tryz.func212, Tryz.ntmps212
  go_wp2_with fail
  refine (number_small b2 0 5 n (y % 2 ^ 5) k5 H5.out (by decide) (Nat.mod_lt _ (by decide)) _ (h2.cut 5 (by omega))).mono ?_
  rintro e w1 ⟨rfl, rfl⟩
  go_wp2_with fail
  refine (and_any b1 b2 0 0 n n n n x y hhi (Nat.le_refl _) _ h1 h2).mono ?_
  rintro e w2 ⟨q, rfl, hq, hR, hB⟩
  go_wp2
  go_ret
  exact ⟨q, 0, n, rfl, Bits.row hR, hB⟩

set_option maxHeartbeats 1600000 in
theorem joined32_xor (b1 b2 n x y : Nat) (hn : 32 = n) (hx : x < 2 ^ n) (hy : y < 2 ^ n) (w : World) (h1 : Bits w b1 0 n x) (h2 : Bits w b2 0 n y) :
    Calls Tryz.prog 212 #[.int .i64 10, .slice (some ⟨b1, 0, none⟩) n n, .slice (some ⟨b2, 0, none⟩) n n] w (SomeBits w n (x ^^^ y)) := by
  have hd : ((n : Int) == 64) = false := by rw [← hn]; rfl
  have hlo : 32 ≤ n := by omega
  have hhi : n ≤ 64 := by omega
  have hlo' : (32 : Int) ≤ n := by omega
  obtain ⟨k5, hk5⟩ : ∃ k, k = y % 2 ^ 5 := ⟨_, rfl⟩
  have H5 := Lib.hid hk5
  have hk5b : k5 < 32 := by rw [hk5]; exact Nat.mod_lt _ (by decide)
  clear hk5
  have hkn : k5 < n := by omega
  clear hn
  go_enter Tryz.func212, Tryz.ntmps212
  go_wp2_with fail
  refine (number_small b2 0 5 n (y % 2 ^ 5) k5 H5.out (by decide) (Nat.mod_lt _ (by decide)) _ (h2.cut 5 (by omega))).mono ?_
  rintro e w1 ⟨rfl, rfl⟩
  go_wp2_with fail
  refine (xor_any b1 b2 0 0 n n n n x y hhi (Nat.le_refl _) _ h1 h2).mono ?_
  rintro e w2 ⟨q, rfl, hq, hR, hB⟩
  go_wp2
  go_ret
  exact ⟨q, 0, n, rfl, Bits.row hR, hB⟩

set_option maxHeartbeats 1600000 in
theorem joined32_lsh (b1 b2 n x y : Nat) (hn : 32 = n) (hx : x < 2 ^ n) (hy : y < 2 ^ n) (w : World) (h1 : Bits w b1 0 n x) (h2 : Bits w b2 0 n y) :
    Calls Tryz.prog 212 #[.int .i64 11, .slice (some ⟨b1, 0, none⟩) n n, .slice (some ⟨b2, 0, none⟩) n n] w (SomeBits w n (x * 2 ^ (y % 2 ^ 5))) := by
  have hd : ((n : Int) == 64) = false := by rw [← hn]; rfl
  have hlo : 32 ≤ n := by omega
  have hhi : n ≤ 64 := by omega
  have hlo' : (32 : Int) ≤ n := by omega
  obtain ⟨k5, hk5⟩ : ∃ k, k = y % 2 ^ 5 := ⟨_, rfl⟩
  have H5 := Lib.hid hk5
  have hk5b : k5 < 32 := by rw [hk5]; exact Nat.mod_lt _ (by decide)
  clear hk5
  have hkn : k5 < n := by omega
  clear hn
  go_enter Tryz.func212, Tryz.ntmps212
  go_wp2_with fail
  refine (number_small b2 0 5 n (y % 2 ^ 5) k5 H5.out (by decide) (Nat.mod_lt _ (by decide)) _ (h2.cut 5 (by omega))).mono ?_
  rintro e w1 ⟨rfl, rfl⟩
  go_wp2_with fail
  refine (up_any b1 0 n n x k5 _ rfl (by omega) (by omega) _ h1).mono ?_
  rintro e w2 ⟨q, rfl, hq, hR, hB⟩
  go_wp2
  go_ret
  exact ⟨q, 0, n, rfl, by rw [← H5.out]; exact Bits.row hR, hB⟩

set_option maxHeartbeats 1600000 in
theorem joined32_rsh (b1 b2 n x y : Nat) (hn : 32 = n) (hx : x < 2 ^ n) (hy : y < 2 ^ n) (w : World) (h1 : Bits w b1 0 n x) (h2 : Bits w b2 0 n y) :
    Calls Tryz.prog 212 #[.int .i64 12, .slice (some ⟨b1, 0, none⟩) n n, .slice (some ⟨b2, 0, none⟩) n n] w (SomeBits w n (downVal x n (y % 2 ^ 5) false)) := by
  have hd : ((n : Int) == 64) = false := by rw [← hn]; rfl
  have hlo : 32 ≤ n := by omega
  have hhi : n ≤ 64 := by omega
  have hlo' : (32 : Int) ≤ n := by omega
  obtain ⟨k5, hk5⟩ : ∃ k, k = y % 2 ^ 5 := ⟨_, rfl⟩
  have H5 := Lib.hid hk5
  have hk5b : k5 < 32 := by rw [hk5]; exact Nat.mod_lt _ (by decide)
  clear hk5
  have hkn : k5 < n := by omega
  clear hn
  go_enter Tryz.func212, Tryz.ntmps212
  go_wp2_with fail
  refine (number_small b2 0 5 n (y % 2 ^ 5) k5 H5.out (by decide) (Nat.mod_lt _ (by decide)) _ (h2.cut 5 (by omega))).mono ?_
  rintro e w1 ⟨rfl, rfl⟩
  go_wp2_with fail
  refine (down_any b1 0 n n x k5 0 _ rfl (by omega) (by omega) _ h1).mono ?_
  rintro e w2 ⟨q, rfl, hq, hR, hB⟩
  go_wp2
  go_ret
  exact ⟨q, 0, n, rfl, by
    rw [← H5.out]
    have e : itab n (downTo x n k5 0) = itab n (bit (downVal x n k5 false)) := itab_congr fun i hi => down_val x n k5 i false hx hi hkn
    rw [e] at hR; exact Bits.row hR, hB⟩

set_option maxHeartbeats 1600000 in
theorem joined32_arsh (b1 b2 n x y : Nat) (hn : 32 = n) (hx : x < 2 ^ n) (hy : y < 2 ^ n) (w : World) (h1 : Bits w b1 0 n x) (h2 : Bits w b2 0 n y) :
    Calls Tryz.prog 212 #[.int .i64 13, .slice (some ⟨b1, 0, none⟩) n n, .slice (some ⟨b2, 0, none⟩) n n] w (SomeBits w n (downVal x n (y % 2 ^ 5) (bit x (n - 1) == 1))) := by
  have hd : ((n : Int) == 64) = false := by rw [← hn]; rfl
  have hlo : 32 ≤ n := by omega
  have hhi : n ≤ 64 := by omega
  have hlo' : (32 : Int) ≤ n := by omega
  obtain ⟨k5, hk5⟩ : ∃ k, k = y % 2 ^ 5 := ⟨_, rfl⟩
  have H5 := Lib.hid hk5
  have hk5b : k5 < 32 := by rw [hk5]; exact Nat.mod_lt _ (by decide)
  clear hk5
  have hkn : k5 < n := by omega
  clear hn
  go_enter Tryz.func212, Tryz.ntmps212
  go_wp2_with fail
  refine (number_small b2 0 5 n (y % 2 ^ 5) k5 H5.out (by decide) (Nat.mod_lt _ (by decide)) _ (h2.cut 5 (by omega))).mono ?_
  rintro e w1 ⟨rfl, rfl⟩
  have e1 := h1.2 (n - 1) (by omega)
  rw [Nat.zero_add] at e1
  have ei : ((n : Int) - 1).toNat = n - 1 := by omega
  go_wp2_with fail
  refine (down_any b1 0 n n x k5 (bit x (n - 1)) _ rfl (by omega) (by omega) _ h1).mono ?_
  rintro e w2 ⟨q, rfl, hq, hR, hB⟩
  go_wp2
  go_ret
  refine ⟨q, 0, n, rfl, ?_, hB⟩
  rw [← H5.out]
  have e : itab n (downTo x n k5 (bit x (n - 1))) = itab n (bit (downVal x n k5 (bit x (n - 1) == 1))) := by
    refine itab_congr fun i hi => ?_
    rw [← down_val x n k5 i _ hx hi hkn]
    congr 1
    rcases bit_01 x (n - 1) with h | h <;> rw [h] <;> rfl
  rw [e] at hR; exact Bits.row hR

set_option maxHeartbeats 1600000 in
theorem joined32_neg (b1 b2 n x y : Nat) (hn : 32 = n) (hx : x < 2 ^ n) (hy : y < 2 ^ n) (w : World) (h1 : Bits w b1 0 n x) (h2 : Bits w b2 0 n y) :
    Calls Tryz.prog 212 #[.int .i64 14, .slice (some ⟨b1, 0, none⟩) n n, .slice (some ⟨b2, 0, none⟩) n n] w (SomeBits w n (2 ^ n - x % 2 ^ n)) := by
  have hd : ((n : Int) == 64) = false := by rw [← hn]; rfl
  have hlo : 32 ≤ n := by omega
  have hhi : n ≤ 64 := by omega
  have hlo' : (32 : Int) ≤ n := by omega
  obtain ⟨k5, hk5⟩ : ∃ k, k = y % 2 ^ 5 := ⟨_, rfl⟩
  have H5 := Lib.hid hk5
  have hk5b : k5 < 32 := by rw [hk5]; exact Nat.mod_lt _ (by decide)
  clear hk5
  have hkn : k5 < n := by omega
  clear hn
  go_enter Tryz.func212, Tryz.ntmps212
  go_wp2_with fail
  refine (number_small b2 0 5 n (y % 2 ^ 5) k5 H5.out (by decide) (Nat.mod_lt _ (by decide)) _ (h2.cut 5 (by omega))).mono ?_
  rintro e w1 ⟨rfl, rfl⟩
  go_wp2_with fail
  refine (negative_any b1 0 n n x (by omega) _ h1).mono ?_
  rintro e w2 ⟨q, rfl, hq, hR, hB⟩
  go_wp2
  go_ret
  exact ⟨q, 0, n, rfl, Bits.row hR, hB⟩

set_option maxHeartbeats 1600000 in
theorem joined32_mov (b1 b2 n x y : Nat) (hn : 32 = n) (hx : x < 2 ^ n) (hy : y < 2 ^ n) (w : World) (h1 : Bits w b1 0 n x) (h2 : Bits w b2 0 n y) :
    Calls Tryz.prog 212 #[.int .i64 15, .slice (some ⟨b1, 0, none⟩) n n, .slice (some ⟨b2, 0, none⟩) n n] w (SomeBits w n (y)) := by
  have hd : ((n : Int) == 64) = false := by rw [← hn]; rfl
  have hlo : 32 ≤ n := by omega
  have hhi : n ≤ 64 := by omega
  have hlo' : (32 : Int) ≤ n := by omega
  obtain ⟨k5, hk5⟩ : ∃ k, k = y % 2 ^ 5 := ⟨_, rfl⟩
  have H5 := Lib.hid hk5
  have hk5b : k5 < 32 := by rw [hk5]; exact Nat.mod_lt _ (by decide)
  clear hk5
  have hkn : k5 < n := by omega
  clear hn
  go_enter Tryz.func212, Tryz.ntmps212
  go_wp2_with fail
  refine (number_small b2 0 5 n (y % 2 ^ 5) k5 H5.out (by decide) (Nat.mod_lt _ (by decide)) _ (h2.cut 5 (by omega))).mono ?_
  rintro e w1 ⟨rfl, rfl⟩
  go_wp2
  go_ret
  exact ⟨b2, 0, n, rfl, h2, Below.refl _ _⟩
end Go.Proofs.YtbkcpepalicbjaaGreat
