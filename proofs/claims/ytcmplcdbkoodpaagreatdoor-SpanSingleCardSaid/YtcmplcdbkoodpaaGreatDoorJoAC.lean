import Derived.Test.YtcmplcdbkoodpaaGreatDoorRefAE
set_option maxHeartbeats 1600000
namespace Go.Proofs.YtcmplcdbkoodpaaGreatDoor
open Go.RowKit
set_option linter.unusedVariables false
theorem Bits.cut {w : World} {b o n x : Nat} (h : Bits w b o n x) (m : Nat) (hm : m <= n) : Bits w b o m (x % 2 ^ m) :=
 ⟨h.1, fun i hi => by rw [bit_mod hi]; exact h.2 i (Nat.lt_of_lt_of_le hi hm)⟩
theorem Bits.congr {w : World} {b o n x y : Nat} (h : Bits w b o n x) (e : ∀ i, i < n -> bit x i = bit y i) : Bits w b o n y :=
 ⟨h.1, fun i hi => by rw [<- e i hi]; exact h.2 i hi⟩
theorem number_small (b off n cap x k : Nat) (hk : k = x) (hn : n <= 62) (hx : x < 2 ^ n) (w : World) (hb : Bits w b off n x) :
 Calls Tryz.prog 43 #[.slice (some ⟨b, off, none⟩) n cap] w fun e w' => e = .returned (.int .i64 (k : Nat)) /\ w = w' := by
 refine (number_any b off n cap x (by omega) hx w hb).mono ?_
 rintro e w' ⟨rfl, rfl⟩
 refine ⟨ret_int ?_, rfl⟩
 have h2 : (2 : Nat) ^ n <= 2 ^ 62 := Nat.pow_le_pow_right (by decide) (by omega)
 rw [hk]
 exact IntWalk.wrap64_in _ (by omega)
def downVal (x n k : Nat) (s : Bool) : Nat := if s then x / 2 ^ k + (2 ^ n - 2 ^ (n - k)) else x / 2 ^ k
theorem down_val (x n k i : Nat) (s : Bool) (hx : x < 2 ^ n) (hi : i < n) (hk : k < n) : downTo x n k (if s then 1 else 0) i = bit (downVal x n k s) i := by
 have h1 : bit (x / 2 ^ k) i = bit x (i + k) := by
  unfold bit; rw [Nat.div_div_eq_div_mul, <- Nat.pow_add, Nat.add_comm k i]
 have hlt : x / 2 ^ k < 2 ^ (n - k) := by
  apply Nat.div_lt_of_lt_mul
  rw [<- Nat.pow_add]
  have : k + (n - k) = n := by omega
  rw [this]; exact hx
 have hge : n <= i + k -> bit x (i + k) = 0 := by
  intro h
  have : x < 2 ^ (i + k) := Nat.lt_of_lt_of_le hx (Nat.pow_le_pow_right (by decide) h)
  unfold bit; rw [Nat.div_eq_of_lt this]; rfl
 have hp : 2 ^ n = 2 ^ (n - k) * 2 ^ k := by rw [<- Nat.pow_add]; congr 1; omega
 have hs : 2 ^ n - 2 ^ (n - k) = 2 ^ (n - k) * (2 ^ k - 1) := by rw [Nat.mul_sub, <- hp, Nat.mul_one]
 unfold downTo downVal
 cases s
 ·simp only [Bool.false_eq_true, if_false]
  split
  ·exact h1.symm
  ·rename_i h; rw [h1, hge (by omega)]
 ·simp only [if_true]
  rw [hs]
  split
  ·rename_i h
   rw [<- h1]
   refine bit_of_mod_eq (n := n - k) (by omega) ?_
   rw [Nat.add_mul_mod_self_left]
  ·rename_i h
   unfold bit
   have e : 2 ^ i = 2 ^ (n - k) * 2 ^ (i - (n - k)) := by rw [<- Nat.pow_add]; congr 1; omega
   rw [e, <- Nat.div_div_eq_div_mul, Nat.add_mul_div_left _ _ (Nat.two_pow_pos _), Nat.div_eq_of_lt hlt, Nat.zero_add]
   have h3 := bit_test (2 ^ k - 1) (i - (n - k))
   rw [Nat.testBit_two_pow_sub_one] at h3
   have h4 : i - (n - k) < k := by omega
   simp only [h4, decide_true, if_true] at h3
   exact h3.symm
def SomeBits (w : World) (n x : Nat) (e : Ending) (w' : World) : Prop :=
 ∃ b o c, e = .returned (.slice (some ⟨b, o, none⟩) n c) /\ Bits w' b o n x /\ Below w.heap.size w w'
theorem joined64_add (b1 b2 n x y : Nat) (hn : 64 = n) (hx : x < 2 ^ n) (hy : y < 2 ^ n) (w : World) (h1 : Bits w b1 0 n x) (h2 : Bits w b2 0 n y) :
 Calls Tryz.prog 44 #[.int .i64 1, .slice (some ⟨b1, 0, none⟩) n n, .slice (some ⟨b2, 0, none⟩) n n] w (SomeBits w n (x + y + 0)) := by
 have hd : ((n : Int) == 64) = true := by rw [<- hn]; rfl
 have hlo : 32 <= n := by omega
 have hhi : n <= 64 := by omega
 have hlo' : (32 : Int) <= n := by omega
 obtain ⟨k5, hk5⟩ : ∃ k, k = y % 2 ^ 5 := ⟨_, rfl⟩
 have H5 := Lib.hid hk5
 have hk5b : k5 < 32 := by rw [hk5]; exact Nat.mod_lt _ (by decide)
 clear hk5
 obtain ⟨k6, hk6⟩ : ∃ k, k = y % 2 ^ 6 := ⟨_, rfl⟩
 have H6 := Lib.hid hk6
 have hk6b : k6 < 64 := by rw [hk6]; exact Nat.mod_lt _ (by decide)
 clear hk6
 have hkn : k6 < n := by omega
 clear hn
 go_enter Tryz.func44, Tryz.ntmps44
 go_wp2_with fail
 refine (number_small b2 0 5 n (y % 2 ^ 5) k5 H5.out (by decide) (Nat.mod_lt _ (by decide)) _ (h2.cut 5 (by omega))).mono ?_
 rintro e w1 ⟨rfl, rfl⟩
 go_wp2_with fail
 refine (number_small b2 0 6 n (y % 2 ^ 6) k6 H6.out (by decide) (Nat.mod_lt _ (by decide)) _ (h2.cut 6 (by omega))).mono ?_
 rintro e w1 ⟨rfl, rfl⟩
 go_wp2_with fail
 refine (plus_any b1 b2 0 0 n n n n x y 0 0 rfl (by omega) (Nat.le_refl _) (by omega) _ h1 h2).mono ?_
 rintro e w2 ⟨q, rfl, hq, hR, hB⟩
 go_wp2
 go_ret
 exact ⟨q, 0, n, rfl, Bits.row hR, hB⟩
theorem joined64_sub (b1 b2 n x y : Nat) (hn : 64 = n) (hx : x < 2 ^ n) (hy : y < 2 ^ n) (w : World) (h1 : Bits w b1 0 n x) (h2 : Bits w b2 0 n y) :
 Calls Tryz.prog 44 #[.int .i64 2, .slice (some ⟨b1, 0, none⟩) n n, .slice (some ⟨b2, 0, none⟩) n n] w (SomeBits w n (x + (2 ^ n - 1 - y % 2 ^ n) + 1)) := by
 have hd : ((n : Int) == 64) = true := by rw [<- hn]; rfl
 have hlo : 32 <= n := by omega
 have hhi : n <= 64 := by omega
 have hlo' : (32 : Int) <= n := by omega
 obtain ⟨k5, hk5⟩ : ∃ k, k = y % 2 ^ 5 := ⟨_, rfl⟩
 have H5 := Lib.hid hk5
 have hk5b : k5 < 32 := by rw [hk5]; exact Nat.mod_lt _ (by decide)
 clear hk5
 obtain ⟨k6, hk6⟩ : ∃ k, k = y % 2 ^ 6 := ⟨_, rfl⟩
 have H6 := Lib.hid hk6
 have hk6b : k6 < 64 := by rw [hk6]; exact Nat.mod_lt _ (by decide)
 clear hk6
 have hkn : k6 < n := by omega
 clear hn
 go_enter Tryz.func44, Tryz.ntmps44
 go_wp2_with fail
 refine (number_small b2 0 5 n (y % 2 ^ 5) k5 H5.out (by decide) (Nat.mod_lt _ (by decide)) _ (h2.cut 5 (by omega))).mono ?_
 rintro e w1 ⟨rfl, rfl⟩
 go_wp2_with fail
 refine (number_small b2 0 6 n (y % 2 ^ 6) k6 H6.out (by decide) (Nat.mod_lt _ (by decide)) _ (h2.cut 6 (by omega))).mono ?_
 rintro e w1 ⟨rfl, rfl⟩
 go_wp2_with fail
 refine (not_any b2 0 n n y (by omega) _ h2).mono ?_
 rintro e w2 ⟨bn, rfl, hbn, hRn, hBn⟩
 go_wp2_with fail
 refine (plus_any b1 bn 0 0 n n n n x (2 ^ n - 1 - y % 2 ^ n) 1 1 rfl (by omega) (Nat.le_refl _) (by omega) _ (h1.below hBn h1.1) (Bits.row hRn)).mono ?_
 rintro e w3 ⟨q, rfl, hq, hR, hB⟩
 have hs := hBn.size
 go_wp2
 go_ret
 exact ⟨q, 0, n, rfl, Bits.row hR, hBn.trans (hB.mono hs)⟩
theorem joined64_mul (b1 b2 n x y : Nat) (hn : 64 = n) (hx : x < 2 ^ n) (hy : y < 2 ^ n) (w : World) (h1 : Bits w b1 0 n x) (h2 : Bits w b2 0 n y) :
 Calls Tryz.prog 44 #[.int .i64 3, .slice (some ⟨b1, 0, none⟩) n n, .slice (some ⟨b2, 0, none⟩) n n] w (SomeBits w n (x * (y % 2 ^ n))) := by
 have hd : ((n : Int) == 64) = true := by rw [<- hn]; rfl
 have hlo : 32 <= n := by omega
 have hhi : n <= 64 := by omega
 have hlo' : (32 : Int) <= n := by omega
 obtain ⟨k5, hk5⟩ : ∃ k, k = y % 2 ^ 5 := ⟨_, rfl⟩
 have H5 := Lib.hid hk5
 have hk5b : k5 < 32 := by rw [hk5]; exact Nat.mod_lt _ (by decide)
 clear hk5
 obtain ⟨k6, hk6⟩ : ∃ k, k = y % 2 ^ 6 := ⟨_, rfl⟩
 have H6 := Lib.hid hk6
 have hk6b : k6 < 64 := by rw [hk6]; exact Nat.mod_lt _ (by decide)
 clear hk6
 have hkn : k6 < n := by omega
 clear hn
 go_enter Tryz.func44, Tryz.ntmps44
 go_wp2_with fail
 refine (number_small b2 0 5 n (y % 2 ^ 5) k5 H5.out (by decide) (Nat.mod_lt _ (by decide)) _ (h2.cut 5 (by omega))).mono ?_
 rintro e w1 ⟨rfl, rfl⟩
 go_wp2_with fail
 refine (number_small b2 0 6 n (y % 2 ^ 6) k6 H6.out (by decide) (Nat.mod_lt _ (by decide)) _ (h2.cut 6 (by omega))).mono ?_
 rintro e w1 ⟨rfl, rfl⟩
 go_wp2_with fail
 refine (times_any b1 b2 0 0 n n n x y (by omega) _ h1 h2).mono ?_
 rintro e w2 ⟨q, rfl, hq, hR, hB⟩
 go_wp2
 go_ret
 exact ⟨q, 0, n, rfl, Bits.row hR, hB⟩
theorem joined64_div (b1 b2 n x y : Nat) (hn : 64 = n) (hx : x < 2 ^ n) (hy : y < 2 ^ n) (hy0 : y ≠ 0) (w : World) (h1 : Bits w b1 0 n x) (h2 : Bits w b2 0 n y) :
 Calls Tryz.prog 44 #[.int .i64 4, .slice (some ⟨b1, 0, none⟩) n n, .slice (some ⟨b2, 0, none⟩) n n] w (SomeBits w n (x / y)) := by
 have hd : ((n : Int) == 64) = true := by rw [<- hn]; rfl
 have hlo : 32 <= n := by omega
 have hhi : n <= 64 := by omega
 have hlo' : (32 : Int) <= n := by omega
 obtain ⟨k5, hk5⟩ : ∃ k, k = y % 2 ^ 5 := ⟨_, rfl⟩
 have H5 := Lib.hid hk5
 have hk5b : k5 < 32 := by rw [hk5]; exact Nat.mod_lt _ (by decide)
 clear hk5
 obtain ⟨k6, hk6⟩ : ∃ k, k = y % 2 ^ 6 := ⟨_, rfl⟩
 have H6 := Lib.hid hk6
 have hk6b : k6 < 64 := by rw [hk6]; exact Nat.mod_lt _ (by decide)
 clear hk6
 have hkn : k6 < n := by omega
 clear hn
 go_enter Tryz.func44, Tryz.ntmps44
 go_wp2_with fail
 refine (number_small b2 0 5 n (y % 2 ^ 5) k5 H5.out (by decide) (Nat.mod_lt _ (by decide)) _ (h2.cut 5 (by omega))).mono ?_
 rintro e w1 ⟨rfl, rfl⟩
 go_wp2_with fail
 refine (number_small b2 0 6 n (y % 2 ^ 6) k6 H6.out (by decide) (Nat.mod_lt _ (by decide)) _ (h2.cut 6 (by omega))).mono ?_
 rintro e w1 ⟨rfl, rfl⟩
 go_wp2_with fail
 refine (divided_any b1 b2 0 0 n n n x y (by omega) hhi hx hy hy0 _ h1 h2).mono ?_
 rintro e w2 ⟨q, r, cr, rfl, hq, hr, hB, _, _⟩
 go_wp2
 go_ret
 exact ⟨q, 0, n, rfl, hq, hB⟩
theorem joined64_mod (b1 b2 n x y : Nat) (hn : 64 = n) (hx : x < 2 ^ n) (hy : y < 2 ^ n) (hy0 : y ≠ 0) (w : World) (h1 : Bits w b1 0 n x) (h2 : Bits w b2 0 n y) :
 Calls Tryz.prog 44 #[.int .i64 5, .slice (some ⟨b1, 0, none⟩) n n, .slice (some ⟨b2, 0, none⟩) n n] w (SomeBits w n (x % y)) := by
 have hd : ((n : Int) == 64) = true := by rw [<- hn]; rfl
 have hlo : 32 <= n := by omega
 have hhi : n <= 64 := by omega
 have hlo' : (32 : Int) <= n := by omega
 obtain ⟨k5, hk5⟩ : ∃ k, k = y % 2 ^ 5 := ⟨_, rfl⟩
 have H5 := Lib.hid hk5
 have hk5b : k5 < 32 := by rw [hk5]; exact Nat.mod_lt _ (by decide)
 clear hk5
 obtain ⟨k6, hk6⟩ : ∃ k, k = y % 2 ^ 6 := ⟨_, rfl⟩
 have H6 := Lib.hid hk6
 have hk6b : k6 < 64 := by rw [hk6]; exact Nat.mod_lt _ (by decide)
 clear hk6
 have hkn : k6 < n := by omega
 clear hn
 go_enter Tryz.func44, Tryz.ntmps44
 go_wp2_with fail
 refine (number_small b2 0 5 n (y % 2 ^ 5) k5 H5.out (by decide) (Nat.mod_lt _ (by decide)) _ (h2.cut 5 (by omega))).mono ?_
 rintro e w1 ⟨rfl, rfl⟩
 go_wp2_with fail
 refine (number_small b2 0 6 n (y % 2 ^ 6) k6 H6.out (by decide) (Nat.mod_lt _ (by decide)) _ (h2.cut 6 (by omega))).mono ?_
 rintro e w1 ⟨rfl, rfl⟩
 go_wp2_with fail
 refine (divided_any b1 b2 0 0 n n n x y (by omega) hhi hx hy hy0 _ h1 h2).mono ?_
 rintro e w2 ⟨q, r, cr, rfl, hq, hr, hB, _, _⟩
 go_wp2
 go_ret
 exact ⟨r, 0, cr, rfl, hr, hB⟩
theorem joined64_sdiv (b1 b2 n x y : Nat) (hn : 64 = n) (hx : x < 2 ^ n) (hy : y < 2 ^ n) (hy0 : y ≠ 0) (w : World) (h1 : Bits w b1 0 n x) (h2 : Bits w b2 0 n y) :
 Calls Tryz.prog 44 #[.int .i64 6, .slice (some ⟨b1, 0, none⟩) n n, .slice (some ⟨b2, 0, none⟩) n n] w (SomeBits w n (turn (bit x (n - 1) != bit y (n - 1)) n (absN n x / absN n y))) := by
 have hd : ((n : Int) == 64) = true := by rw [<- hn]; rfl
 have hlo : 32 <= n := by omega
 have hhi : n <= 64 := by omega
 have hlo' : (32 : Int) <= n := by omega
 obtain ⟨k5, hk5⟩ : ∃ k, k = y % 2 ^ 5 := ⟨_, rfl⟩
 have H5 := Lib.hid hk5
 have hk5b : k5 < 32 := by rw [hk5]; exact Nat.mod_lt _ (by decide)
 clear hk5
 obtain ⟨k6, hk6⟩ : ∃ k, k = y % 2 ^ 6 := ⟨_, rfl⟩
 have H6 := Lib.hid hk6
 have hk6b : k6 < 64 := by rw [hk6]; exact Nat.mod_lt _ (by decide)
 clear hk6
 have hkn : k6 < n := by omega
 clear hn
 go_enter Tryz.func44, Tryz.ntmps44
 go_wp2_with fail
 refine (number_small b2 0 5 n (y % 2 ^ 5) k5 H5.out (by decide) (Nat.mod_lt _ (by decide)) _ (h2.cut 5 (by omega))).mono ?_
 rintro e w1 ⟨rfl, rfl⟩
 go_wp2_with fail
 refine (number_small b2 0 6 n (y % 2 ^ 6) k6 H6.out (by decide) (Nat.mod_lt _ (by decide)) _ (h2.cut 6 (by omega))).mono ?_
 rintro e w1 ⟨rfl, rfl⟩
 go_wp2_with fail
 refine (over_any b1 b2 0 0 n n n x y (by omega) hhi hx hy hy0 _ h1 h2).mono ?_
 rintro e w2 ⟨q, r, cq, cr, rfl, hq, hr, hB⟩
 go_wp2
 go_ret
 exact ⟨q, 0, cq, rfl, hq, hB⟩
theorem joined64_smod (b1 b2 n x y : Nat) (hn : 64 = n) (hx : x < 2 ^ n) (hy : y < 2 ^ n) (hy0 : y ≠ 0) (w : World) (h1 : Bits w b1 0 n x) (h2 : Bits w b2 0 n y) :
 Calls Tryz.prog 44 #[.int .i64 7, .slice (some ⟨b1, 0, none⟩) n n, .slice (some ⟨b2, 0, none⟩) n n] w (SomeBits w n (turn (bit x (n - 1) == 1) n (absN n x % absN n y))) := by
 have hd : ((n : Int) == 64) = true := by rw [<- hn]; rfl
 have hlo : 32 <= n := by omega
 have hhi : n <= 64 := by omega
 have hlo' : (32 : Int) <= n := by omega
 obtain ⟨k5, hk5⟩ : ∃ k, k = y % 2 ^ 5 := ⟨_, rfl⟩
 have H5 := Lib.hid hk5
 have hk5b : k5 < 32 := by rw [hk5]; exact Nat.mod_lt _ (by decide)
 clear hk5
 obtain ⟨k6, hk6⟩ : ∃ k, k = y % 2 ^ 6 := ⟨_, rfl⟩
 have H6 := Lib.hid hk6
 have hk6b : k6 < 64 := by rw [hk6]; exact Nat.mod_lt _ (by decide)
 clear hk6
 have hkn : k6 < n := by omega
 clear hn
 go_enter Tryz.func44, Tryz.ntmps44
 go_wp2_with fail
 refine (number_small b2 0 5 n (y % 2 ^ 5) k5 H5.out (by decide) (Nat.mod_lt _ (by decide)) _ (h2.cut 5 (by omega))).mono ?_
 rintro e w1 ⟨rfl, rfl⟩
 go_wp2_with fail
 refine (number_small b2 0 6 n (y % 2 ^ 6) k6 H6.out (by decide) (Nat.mod_lt _ (by decide)) _ (h2.cut 6 (by omega))).mono ?_
 rintro e w1 ⟨rfl, rfl⟩
 go_wp2_with fail
 refine (over_any b1 b2 0 0 n n n x y (by omega) hhi hx hy hy0 _ h1 h2).mono ?_
 rintro e w2 ⟨q, r, cq, cr, rfl, hq, hr, hB⟩
 go_wp2
 go_ret
 exact ⟨r, 0, cr, rfl, hr, hB⟩
theorem joined64_or (b1 b2 n x y : Nat) (hn : 64 = n) (hx : x < 2 ^ n) (hy : y < 2 ^ n) (w : World) (h1 : Bits w b1 0 n x) (h2 : Bits w b2 0 n y) :
 Calls Tryz.prog 44 #[.int .i64 8, .slice (some ⟨b1, 0, none⟩) n n, .slice (some ⟨b2, 0, none⟩) n n] w (SomeBits w n (x ||| y)) := by
 have hd : ((n : Int) == 64) = true := by rw [<- hn]; rfl
 have hlo : 32 <= n := by omega
 have hhi : n <= 64 := by omega
 have hlo' : (32 : Int) <= n := by omega
 obtain ⟨k5, hk5⟩ : ∃ k, k = y % 2 ^ 5 := ⟨_, rfl⟩
 have H5 := Lib.hid hk5
 have hk5b : k5 < 32 := by rw [hk5]; exact Nat.mod_lt _ (by decide)
 clear hk5
 obtain ⟨k6, hk6⟩ : ∃ k, k = y % 2 ^ 6 := ⟨_, rfl⟩
 have H6 := Lib.hid hk6
 have hk6b : k6 < 64 := by rw [hk6]; exact Nat.mod_lt _ (by decide)
 clear hk6
 have hkn : k6 < n := by omega
 clear hn
 go_enter Tryz.func44, Tryz.ntmps44
 go_wp2_with fail
 refine (number_small b2 0 5 n (y % 2 ^ 5) k5 H5.out (by decide) (Nat.mod_lt _ (by decide)) _ (h2.cut 5 (by omega))).mono ?_
 rintro e w1 ⟨rfl, rfl⟩
 go_wp2_with fail
 refine (number_small b2 0 6 n (y % 2 ^ 6) k6 H6.out (by decide) (Nat.mod_lt _ (by decide)) _ (h2.cut 6 (by omega))).mono ?_
 rintro e w1 ⟨rfl, rfl⟩
 go_wp2_with fail
 refine (or_any b1 b2 0 0 n n n n x y hhi (Nat.le_refl _) _ h1 h2).mono ?_
 rintro e w2 ⟨q, rfl, hq, hR, hB⟩
 go_wp2
 go_ret
 exact ⟨q, 0, n, rfl, Bits.row hR, hB⟩
theorem joined64_and (b1 b2 n x y : Nat) (hn : 64 = n) (hx : x < 2 ^ n) (hy : y < 2 ^ n) (w : World) (h1 : Bits w b1 0 n x) (h2 : Bits w b2 0 n y) :
 Calls Tryz.prog 44 #[.int .i64 9, .slice (some ⟨b1, 0, none⟩) n n, .slice (some ⟨b2, 0, none⟩) n n] w (SomeBits w n (x &&& y)) := by
 have hd : ((n : Int) == 64) = true := by rw [<- hn]; rfl
 have hlo : 32 <= n := by omega
 have hhi : n <= 64 := by omega
 have hlo' : (32 : Int) <= n := by omega
 obtain ⟨k5, hk5⟩ : ∃ k, k = y % 2 ^ 5 := ⟨_, rfl⟩
 have H5 := Lib.hid hk5
 have hk5b : k5 < 32 := by rw [hk5]; exact Nat.mod_lt _ (by decide)
 clear hk5
 obtain ⟨k6, hk6⟩ : ∃ k, k = y % 2 ^ 6 := ⟨_, rfl⟩
 have H6 := Lib.hid hk6
 have hk6b : k6 < 64 := by rw [hk6]; exact Nat.mod_lt _ (by decide)
 clear hk6
 have hkn : k6 < n := by omega
 clear hn
 go_enter Tryz.func44, Tryz.ntmps44
 go_wp2_with fail
 refine (number_small b2 0 5 n (y % 2 ^ 5) k5 H5.out (by decide) (Nat.mod_lt _ (by decide)) _ (h2.cut 5 (by omega))).mono ?_
 rintro e w1 ⟨rfl, rfl⟩
 go_wp2_with fail
 refine (number_small b2 0 6 n (y % 2 ^ 6) k6 H6.out (by decide) (Nat.mod_lt _ (by decide)) _ (h2.cut 6 (by omega))).mono ?_
 rintro e w1 ⟨rfl, rfl⟩
 go_wp2_with fail
 refine (and_any b1 b2 0 0 n n n n x y hhi (Nat.le_refl _) _ h1 h2).mono ?_
 rintro e w2 ⟨q, rfl, hq, hR, hB⟩
 go_wp2
 go_ret
 exact ⟨q, 0, n, rfl, Bits.row hR, hB⟩
theorem joined64_xor (b1 b2 n x y : Nat) (hn : 64 = n) (hx : x < 2 ^ n) (hy : y < 2 ^ n) (w : World) (h1 : Bits w b1 0 n x) (h2 : Bits w b2 0 n y) :
 Calls Tryz.prog 44 #[.int .i64 10, .slice (some ⟨b1, 0, none⟩) n n, .slice (some ⟨b2, 0, none⟩) n n] w (SomeBits w n (x ^^^ y)) := by
 have hd : ((n : Int) == 64) = true := by rw [<- hn]; rfl
 have hlo : 32 <= n := by omega
 have hhi : n <= 64 := by omega
 have hlo' : (32 : Int) <= n := by omega
 obtain ⟨k5, hk5⟩ : ∃ k, k = y % 2 ^ 5 := ⟨_, rfl⟩
 have H5 := Lib.hid hk5
 have hk5b : k5 < 32 := by rw [hk5]; exact Nat.mod_lt _ (by decide)
 clear hk5
 obtain ⟨k6, hk6⟩ : ∃ k, k = y % 2 ^ 6 := ⟨_, rfl⟩
 have H6 := Lib.hid hk6
 have hk6b : k6 < 64 := by rw [hk6]; exact Nat.mod_lt _ (by decide)
 clear hk6
 have hkn : k6 < n := by omega
 clear hn
 go_enter Tryz.func44, Tryz.ntmps44
 go_wp2_with fail
 refine (number_small b2 0 5 n (y % 2 ^ 5) k5 H5.out (by decide) (Nat.mod_lt _ (by decide)) _ (h2.cut 5 (by omega))).mono ?_
 rintro e w1 ⟨rfl, rfl⟩
 go_wp2_with fail
 refine (number_small b2 0 6 n (y % 2 ^ 6) k6 H6.out (by decide) (Nat.mod_lt _ (by decide)) _ (h2.cut 6 (by omega))).mono ?_
 rintro e w1 ⟨rfl, rfl⟩
 go_wp2_with fail
 refine (xor_any b1 b2 0 0 n n n n x y hhi (Nat.le_refl _) _ h1 h2).mono ?_
 rintro e w2 ⟨q, rfl, hq, hR, hB⟩
 go_wp2
 go_ret
 exact ⟨q, 0, n, rfl, Bits.row hR, hB⟩
theorem joined64_lsh (b1 b2 n x y : Nat) (hn : 64 = n) (hx : x < 2 ^ n) (hy : y < 2 ^ n) (w : World) (h1 : Bits w b1 0 n x) (h2 : Bits w b2 0 n y) :
 Calls Tryz.prog 44 #[.int .i64 11, .slice (some ⟨b1, 0, none⟩) n n, .slice (some ⟨b2, 0, none⟩) n n] w (SomeBits w n (x * 2 ^ (y % 2 ^ 6))) := by
 have hd : ((n : Int) == 64) = true := by rw [<- hn]; rfl
 have hlo : 32 <= n := by omega
 have hhi : n <= 64 := by omega
 have hlo' : (32 : Int) <= n := by omega
 obtain ⟨k5, hk5⟩ : ∃ k, k = y % 2 ^ 5 := ⟨_, rfl⟩
 have H5 := Lib.hid hk5
 have hk5b : k5 < 32 := by rw [hk5]; exact Nat.mod_lt _ (by decide)
 clear hk5
 obtain ⟨k6, hk6⟩ : ∃ k, k = y % 2 ^ 6 := ⟨_, rfl⟩
 have H6 := Lib.hid hk6
 have hk6b : k6 < 64 := by rw [hk6]; exact Nat.mod_lt _ (by decide)
 clear hk6
 have hkn : k6 < n := by omega
 clear hn
 go_enter Tryz.func44, Tryz.ntmps44
 go_wp2_with fail
 refine (number_small b2 0 5 n (y % 2 ^ 5) k5 H5.out (by decide) (Nat.mod_lt _ (by decide)) _ (h2.cut 5 (by omega))).mono ?_
 rintro e w1 ⟨rfl, rfl⟩
 go_wp2_with fail
 refine (number_small b2 0 6 n (y % 2 ^ 6) k6 H6.out (by decide) (Nat.mod_lt _ (by decide)) _ (h2.cut 6 (by omega))).mono ?_
 rintro e w1 ⟨rfl, rfl⟩
 go_wp2_with fail
 refine (up_any b1 0 n n x k6 _ rfl (by omega) (by omega) _ h1).mono ?_
 rintro e w2 ⟨q, rfl, hq, hR, hB⟩
 go_wp2
 go_ret
 exact ⟨q, 0, n, rfl, by rw [<- H6.out]; exact Bits.row hR, hB⟩
theorem joined64_rsh (b1 b2 n x y : Nat) (hn : 64 = n) (hx : x < 2 ^ n) (hy : y < 2 ^ n) (w : World) (h1 : Bits w b1 0 n x) (h2 : Bits w b2 0 n y) :
 Calls Tryz.prog 44 #[.int .i64 12, .slice (some ⟨b1, 0, none⟩) n n, .slice (some ⟨b2, 0, none⟩) n n] w (SomeBits w n (downVal x n (y % 2 ^ 6) false)) := by
 have hd : ((n : Int) == 64) = true := by rw [<- hn]; rfl
 have hlo : 32 <= n := by omega
 have hhi : n <= 64 := by omega
 have hlo' : (32 : Int) <= n := by omega
 obtain ⟨k5, hk5⟩ : ∃ k, k = y % 2 ^ 5 := ⟨_, rfl⟩
 have H5 := Lib.hid hk5
 have hk5b : k5 < 32 := by rw [hk5]; exact Nat.mod_lt _ (by decide)
 clear hk5
 obtain ⟨k6, hk6⟩ : ∃ k, k = y % 2 ^ 6 := ⟨_, rfl⟩
 have H6 := Lib.hid hk6
 have hk6b : k6 < 64 := by rw [hk6]; exact Nat.mod_lt _ (by decide)
 clear hk6
 have hkn : k6 < n := by omega
 clear hn
 go_enter Tryz.func44, Tryz.ntmps44
 go_wp2_with fail
 refine (number_small b2 0 5 n (y % 2 ^ 5) k5 H5.out (by decide) (Nat.mod_lt _ (by decide)) _ (h2.cut 5 (by omega))).mono ?_
 rintro e w1 ⟨rfl, rfl⟩
 go_wp2_with fail
 refine (number_small b2 0 6 n (y % 2 ^ 6) k6 H6.out (by decide) (Nat.mod_lt _ (by decide)) _ (h2.cut 6 (by omega))).mono ?_
 rintro e w1 ⟨rfl, rfl⟩
 go_wp2_with fail
 refine (down_any b1 0 n n x k6 0 _ rfl (by omega) (by omega) _ h1).mono ?_
 rintro e w2 ⟨q, rfl, hq, hR, hB⟩
 go_wp2
 go_ret
 exact ⟨q, 0, n, rfl, by
  rw [<- H6.out]
  have e : itab n (downTo x n k6 0) = itab n (bit (downVal x n k6 false)) := itab_congr fun i hi => down_val x n k6 i false hx hi hkn
  rw [e] at hR; exact Bits.row hR, hB⟩
theorem joined64_arsh (b1 b2 n x y : Nat) (hn : 64 = n) (hx : x < 2 ^ n) (hy : y < 2 ^ n) (w : World) (h1 : Bits w b1 0 n x) (h2 : Bits w b2 0 n y) :
 Calls Tryz.prog 44 #[.int .i64 13, .slice (some ⟨b1, 0, none⟩) n n, .slice (some ⟨b2, 0, none⟩) n n] w (SomeBits w n (downVal x n (y % 2 ^ 6) (bit x (n - 1) == 1))) := by
 have hd : ((n : Int) == 64) = true := by rw [<- hn]; rfl
 have hlo : 32 <= n := by omega
 have hhi : n <= 64 := by omega
 have hlo' : (32 : Int) <= n := by omega
 obtain ⟨k5, hk5⟩ : ∃ k, k = y % 2 ^ 5 := ⟨_, rfl⟩
 have H5 := Lib.hid hk5
 have hk5b : k5 < 32 := by rw [hk5]; exact Nat.mod_lt _ (by decide)
 clear hk5
 obtain ⟨k6, hk6⟩ : ∃ k, k = y % 2 ^ 6 := ⟨_, rfl⟩
 have H6 := Lib.hid hk6
 have hk6b : k6 < 64 := by rw [hk6]; exact Nat.mod_lt _ (by decide)
 clear hk6
 have hkn : k6 < n := by omega
 clear hn
 go_enter Tryz.func44, Tryz.ntmps44
 go_wp2_with fail
 refine (number_small b2 0 5 n (y % 2 ^ 5) k5 H5.out (by decide) (Nat.mod_lt _ (by decide)) _ (h2.cut 5 (by omega))).mono ?_
 rintro e w1 ⟨rfl, rfl⟩
 go_wp2_with fail
 refine (number_small b2 0 6 n (y % 2 ^ 6) k6 H6.out (by decide) (Nat.mod_lt _ (by decide)) _ (h2.cut 6 (by omega))).mono ?_
 rintro e w1 ⟨rfl, rfl⟩
 have e1 := h1.2 (n - 1) (by omega)
 rw [Nat.zero_add] at e1
 have ei : ((n : Int) - 1).toNat = n - 1 := by omega
 go_wp2_with fail
 refine (down_any b1 0 n n x k6 (bit x (n - 1)) _ rfl (by omega) (by omega) _ h1).mono ?_
 rintro e w2 ⟨q, rfl, hq, hR, hB⟩
 go_wp2
 go_ret
 refine ⟨q, 0, n, rfl, ?_, hB⟩
 rw [<- H6.out]
 have e : itab n (downTo x n k6 (bit x (n - 1))) = itab n (bit (downVal x n k6 (bit x (n - 1) == 1))) := by
  refine itab_congr fun i hi => ?_
  rw [<- down_val x n k6 i _ hx hi hkn]
  congr 1
  rcases bit_01 x (n - 1) with h | h <;> rw [h] <;> rfl
 rw [e] at hR; exact Bits.row hR
theorem joined64_neg (b1 b2 n x y : Nat) (hn : 64 = n) (hx : x < 2 ^ n) (hy : y < 2 ^ n) (w : World) (h1 : Bits w b1 0 n x) (h2 : Bits w b2 0 n y) :
 Calls Tryz.prog 44 #[.int .i64 14, .slice (some ⟨b1, 0, none⟩) n n, .slice (some ⟨b2, 0, none⟩) n n] w (SomeBits w n (2 ^ n - x % 2 ^ n)) := by
 have hd : ((n : Int) == 64) = true := by rw [<- hn]; rfl
 have hlo : 32 <= n := by omega
 have hhi : n <= 64 := by omega
 have hlo' : (32 : Int) <= n := by omega
 obtain ⟨k5, hk5⟩ : ∃ k, k = y % 2 ^ 5 := ⟨_, rfl⟩
 have H5 := Lib.hid hk5
 have hk5b : k5 < 32 := by rw [hk5]; exact Nat.mod_lt _ (by decide)
 clear hk5
 obtain ⟨k6, hk6⟩ : ∃ k, k = y % 2 ^ 6 := ⟨_, rfl⟩
 have H6 := Lib.hid hk6
 have hk6b : k6 < 64 := by rw [hk6]; exact Nat.mod_lt _ (by decide)
 clear hk6
 have hkn : k6 < n := by omega
 clear hn
 go_enter Tryz.func44, Tryz.ntmps44
 go_wp2_with fail
 refine (number_small b2 0 5 n (y % 2 ^ 5) k5 H5.out (by decide) (Nat.mod_lt _ (by decide)) _ (h2.cut 5 (by omega))).mono ?_
 rintro e w1 ⟨rfl, rfl⟩
 go_wp2_with fail
 refine (number_small b2 0 6 n (y % 2 ^ 6) k6 H6.out (by decide) (Nat.mod_lt _ (by decide)) _ (h2.cut 6 (by omega))).mono ?_
 rintro e w1 ⟨rfl, rfl⟩
 go_wp2_with fail
 refine (negative_any b1 0 n n x (by omega) _ h1).mono ?_
 rintro e w2 ⟨q, rfl, hq, hR, hB⟩
 go_wp2
 go_ret
 exact ⟨q, 0, n, rfl, Bits.row hR, hB⟩
theorem joined64_mov (b1 b2 n x y : Nat) (hn : 64 = n) (hx : x < 2 ^ n) (hy : y < 2 ^ n) (w : World) (h1 : Bits w b1 0 n x) (h2 : Bits w b2 0 n y) :
 Calls Tryz.prog 44 #[.int .i64 15, .slice (some ⟨b1, 0, none⟩) n n, .slice (some ⟨b2, 0, none⟩) n n] w (SomeBits w n (y)) := by
 have hd : ((n : Int) == 64) = true := by rw [<- hn]; rfl
 have hlo : 32 <= n := by omega
 have hhi : n <= 64 := by omega
 have hlo' : (32 : Int) <= n := by omega
 obtain ⟨k5, hk5⟩ : ∃ k, k = y % 2 ^ 5 := ⟨_, rfl⟩
 have H5 := Lib.hid hk5
 have hk5b : k5 < 32 := by rw [hk5]; exact Nat.mod_lt _ (by decide)
 clear hk5
 obtain ⟨k6, hk6⟩ : ∃ k, k = y % 2 ^ 6 := ⟨_, rfl⟩
 have H6 := Lib.hid hk6
 have hk6b : k6 < 64 := by rw [hk6]; exact Nat.mod_lt _ (by decide)
 clear hk6
 have hkn : k6 < n := by omega
 clear hn
 go_enter Tryz.func44, Tryz.ntmps44
 go_wp2_with fail
 refine (number_small b2 0 5 n (y % 2 ^ 5) k5 H5.out (by decide) (Nat.mod_lt _ (by decide)) _ (h2.cut 5 (by omega))).mono ?_
 rintro e w1 ⟨rfl, rfl⟩
 go_wp2_with fail
 refine (number_small b2 0 6 n (y % 2 ^ 6) k6 H6.out (by decide) (Nat.mod_lt _ (by decide)) _ (h2.cut 6 (by omega))).mono ?_
 rintro e w1 ⟨rfl, rfl⟩
 go_wp2
 go_ret
 exact ⟨b2, 0, n, rfl, h2, Below.refl _ _⟩
theorem joined32_add (b1 b2 n x y : Nat) (hn : 32 = n) (hx : x < 2 ^ n) (hy : y < 2 ^ n) (w : World) (h1 : Bits w b1 0 n x) (h2 : Bits w b2 0 n y) :
 Calls Tryz.prog 44 #[.int .i64 1, .slice (some ⟨b1, 0, none⟩) n n, .slice (some ⟨b2, 0, none⟩) n n] w (SomeBits w n (x + y + 0)) := by
 have hd : ((n : Int) == 64) = false := by rw [<- hn]; rfl
 have hlo : 32 <= n := by omega
 have hhi : n <= 64 := by omega
 have hlo' : (32 : Int) <= n := by omega
 obtain ⟨k5, hk5⟩ : ∃ k, k = y % 2 ^ 5 := ⟨_, rfl⟩
 have H5 := Lib.hid hk5
 have hk5b : k5 < 32 := by rw [hk5]; exact Nat.mod_lt _ (by decide)
 clear hk5
 have hkn : k5 < n := by omega
 clear hn
 go_enter Tryz.func44, Tryz.ntmps44
 go_wp2_with fail
 refine (number_small b2 0 5 n (y % 2 ^ 5) k5 H5.out (by decide) (Nat.mod_lt _ (by decide)) _ (h2.cut 5 (by omega))).mono ?_
 rintro e w1 ⟨rfl, rfl⟩
 go_wp2_with fail
 refine (plus_any b1 b2 0 0 n n n n x y 0 0 rfl (by omega) (Nat.le_refl _) (by omega) _ h1 h2).mono ?_
 rintro e w2 ⟨q, rfl, hq, hR, hB⟩
 go_wp2
 go_ret
 exact ⟨q, 0, n, rfl, Bits.row hR, hB⟩
theorem joined32_sub (b1 b2 n x y : Nat) (hn : 32 = n) (hx : x < 2 ^ n) (hy : y < 2 ^ n) (w : World) (h1 : Bits w b1 0 n x) (h2 : Bits w b2 0 n y) :
 Calls Tryz.prog 44 #[.int .i64 2, .slice (some ⟨b1, 0, none⟩) n n, .slice (some ⟨b2, 0, none⟩) n n] w (SomeBits w n (x + (2 ^ n - 1 - y % 2 ^ n) + 1)) := by
 have hd : ((n : Int) == 64) = false := by rw [<- hn]; rfl
 have hlo : 32 <= n := by omega
 have hhi : n <= 64 := by omega
 have hlo' : (32 : Int) <= n := by omega
 obtain ⟨k5, hk5⟩ : ∃ k, k = y % 2 ^ 5 := ⟨_, rfl⟩
 have H5 := Lib.hid hk5
 have hk5b : k5 < 32 := by rw [hk5]; exact Nat.mod_lt _ (by decide)
 clear hk5
 have hkn : k5 < n := by omega
 clear hn
 go_enter Tryz.func44, Tryz.ntmps44
 go_wp2_with fail
 refine (number_small b2 0 5 n (y % 2 ^ 5) k5 H5.out (by decide) (Nat.mod_lt _ (by decide)) _ (h2.cut 5 (by omega))).mono ?_
 rintro e w1 ⟨rfl, rfl⟩
 go_wp2_with fail
 refine (not_any b2 0 n n y (by omega) _ h2).mono ?_
 rintro e w2 ⟨bn, rfl, hbn, hRn, hBn⟩
 go_wp2_with fail
 refine (plus_any b1 bn 0 0 n n n n x (2 ^ n - 1 - y % 2 ^ n) 1 1 rfl (by omega) (Nat.le_refl _) (by omega) _ (h1.below hBn h1.1) (Bits.row hRn)).mono ?_
 rintro e w3 ⟨q, rfl, hq, hR, hB⟩
 have hs := hBn.size
 go_wp2
 go_ret
 exact ⟨q, 0, n, rfl, Bits.row hR, hBn.trans (hB.mono hs)⟩
theorem joined32_mul (b1 b2 n x y : Nat) (hn : 32 = n) (hx : x < 2 ^ n) (hy : y < 2 ^ n) (w : World) (h1 : Bits w b1 0 n x) (h2 : Bits w b2 0 n y) :
 Calls Tryz.prog 44 #[.int .i64 3, .slice (some ⟨b1, 0, none⟩) n n, .slice (some ⟨b2, 0, none⟩) n n] w (SomeBits w n (x * (y % 2 ^ n))) := by
 have hd : ((n : Int) == 64) = false := by rw [<- hn]; rfl
 have hlo : 32 <= n := by omega
 have hhi : n <= 64 := by omega
 have hlo' : (32 : Int) <= n := by omega
 obtain ⟨k5, hk5⟩ : ∃ k, k = y % 2 ^ 5 := ⟨_, rfl⟩
 have H5 := Lib.hid hk5
 have hk5b : k5 < 32 := by rw [hk5]; exact Nat.mod_lt _ (by decide)
 clear hk5
 have hkn : k5 < n := by omega
 clear hn
 go_enter Tryz.func44, Tryz.ntmps44
 go_wp2_with fail
 refine (number_small b2 0 5 n (y % 2 ^ 5) k5 H5.out (by decide) (Nat.mod_lt _ (by decide)) _ (h2.cut 5 (by omega))).mono ?_
 rintro e w1 ⟨rfl, rfl⟩
 go_wp2_with fail
 refine (times_any b1 b2 0 0 n n n x y (by omega) _ h1 h2).mono ?_
 rintro e w2 ⟨q, rfl, hq, hR, hB⟩
 go_wp2
 go_ret
 exact ⟨q, 0, n, rfl, Bits.row hR, hB⟩
theorem joined32_div (b1 b2 n x y : Nat) (hn : 32 = n) (hx : x < 2 ^ n) (hy : y < 2 ^ n) (hy0 : y ≠ 0) (w : World) (h1 : Bits w b1 0 n x) (h2 : Bits w b2 0 n y) :
 Calls Tryz.prog 44 #[.int .i64 4, .slice (some ⟨b1, 0, none⟩) n n, .slice (some ⟨b2, 0, none⟩) n n] w (SomeBits w n (x / y)) := by
 have hd : ((n : Int) == 64) = false := by rw [<- hn]; rfl
 have hlo : 32 <= n := by omega
 have hhi : n <= 64 := by omega
 have hlo' : (32 : Int) <= n := by omega
 obtain ⟨k5, hk5⟩ : ∃ k, k = y % 2 ^ 5 := ⟨_, rfl⟩
 have H5 := Lib.hid hk5
 have hk5b : k5 < 32 := by rw [hk5]; exact Nat.mod_lt _ (by decide)
 clear hk5
 have hkn : k5 < n := by omega
 clear hn
 go_enter Tryz.func44, Tryz.ntmps44
 go_wp2_with fail
 refine (number_small b2 0 5 n (y % 2 ^ 5) k5 H5.out (by decide) (Nat.mod_lt _ (by decide)) _ (h2.cut 5 (by omega))).mono ?_
 rintro e w1 ⟨rfl, rfl⟩
 go_wp2_with fail
 refine (divided_any b1 b2 0 0 n n n x y (by omega) hhi hx hy hy0 _ h1 h2).mono ?_
 rintro e w2 ⟨q, r, cr, rfl, hq, hr, hB, _, _⟩
 go_wp2
 go_ret
 exact ⟨q, 0, n, rfl, hq, hB⟩
theorem joined32_mod (b1 b2 n x y : Nat) (hn : 32 = n) (hx : x < 2 ^ n) (hy : y < 2 ^ n) (hy0 : y ≠ 0) (w : World) (h1 : Bits w b1 0 n x) (h2 : Bits w b2 0 n y) :
 Calls Tryz.prog 44 #[.int .i64 5, .slice (some ⟨b1, 0, none⟩) n n, .slice (some ⟨b2, 0, none⟩) n n] w (SomeBits w n (x % y)) := by
 have hd : ((n : Int) == 64) = false := by rw [<- hn]; rfl
 have hlo : 32 <= n := by omega
 have hhi : n <= 64 := by omega
 have hlo' : (32 : Int) <= n := by omega
 obtain ⟨k5, hk5⟩ : ∃ k, k = y % 2 ^ 5 := ⟨_, rfl⟩
 have H5 := Lib.hid hk5
 have hk5b : k5 < 32 := by rw [hk5]; exact Nat.mod_lt _ (by decide)
 clear hk5
 have hkn : k5 < n := by omega
 clear hn
 go_enter Tryz.func44, Tryz.ntmps44
 go_wp2_with fail
 refine (number_small b2 0 5 n (y % 2 ^ 5) k5 H5.out (by decide) (Nat.mod_lt _ (by decide)) _ (h2.cut 5 (by omega))).mono ?_
 rintro e w1 ⟨rfl, rfl⟩
 go_wp2_with fail
 refine (divided_any b1 b2 0 0 n n n x y (by omega) hhi hx hy hy0 _ h1 h2).mono ?_
 rintro e w2 ⟨q, r, cr, rfl, hq, hr, hB, _, _⟩
 go_wp2
 go_ret
 exact ⟨r, 0, cr, rfl, hr, hB⟩
theorem joined32_sdiv (b1 b2 n x y : Nat) (hn : 32 = n) (hx : x < 2 ^ n) (hy : y < 2 ^ n) (hy0 : y ≠ 0) (w : World) (h1 : Bits w b1 0 n x) (h2 : Bits w b2 0 n y) :
 Calls Tryz.prog 44 #[.int .i64 6, .slice (some ⟨b1, 0, none⟩) n n, .slice (some ⟨b2, 0, none⟩) n n] w (SomeBits w n (turn (bit x (n - 1) != bit y (n - 1)) n (absN n x / absN n y))) := by
 have hd : ((n : Int) == 64) = false := by rw [<- hn]; rfl
 have hlo : 32 <= n := by omega
 have hhi : n <= 64 := by omega
 have hlo' : (32 : Int) <= n := by omega
 obtain ⟨k5, hk5⟩ : ∃ k, k = y % 2 ^ 5 := ⟨_, rfl⟩
 have H5 := Lib.hid hk5
 have hk5b : k5 < 32 := by rw [hk5]; exact Nat.mod_lt _ (by decide)
 clear hk5
 have hkn : k5 < n := by omega
 clear hn
 go_enter Tryz.func44, Tryz.ntmps44
 go_wp2_with fail
 refine (number_small b2 0 5 n (y % 2 ^ 5) k5 H5.out (by decide) (Nat.mod_lt _ (by decide)) _ (h2.cut 5 (by omega))).mono ?_
 rintro e w1 ⟨rfl, rfl⟩
 go_wp2_with fail
 refine (over_any b1 b2 0 0 n n n x y (by omega) hhi hx hy hy0 _ h1 h2).mono ?_
 rintro e w2 ⟨q, r, cq, cr, rfl, hq, hr, hB⟩
 go_wp2
 go_ret
 exact ⟨q, 0, cq, rfl, hq, hB⟩
theorem joined32_smod (b1 b2 n x y : Nat) (hn : 32 = n) (hx : x < 2 ^ n) (hy : y < 2 ^ n) (hy0 : y ≠ 0) (w : World) (h1 : Bits w b1 0 n x) (h2 : Bits w b2 0 n y) :
 Calls Tryz.prog 44 #[.int .i64 7, .slice (some ⟨b1, 0, none⟩) n n, .slice (some ⟨b2, 0, none⟩) n n] w (SomeBits w n (turn (bit x (n - 1) == 1) n (absN n x % absN n y))) := by
 have hd : ((n : Int) == 64) = false := by rw [<- hn]; rfl
 have hlo : 32 <= n := by omega
 have hhi : n <= 64 := by omega
 have hlo' : (32 : Int) <= n := by omega
 obtain ⟨k5, hk5⟩ : ∃ k, k = y % 2 ^ 5 := ⟨_, rfl⟩
 have H5 := Lib.hid hk5
 have hk5b : k5 < 32 := by rw [hk5]; exact Nat.mod_lt _ (by decide)
 clear hk5
 have hkn : k5 < n := by omega
 clear hn
 go_enter Tryz.func44, Tryz.ntmps44
 go_wp2_with fail
 refine (number_small b2 0 5 n (y % 2 ^ 5) k5 H5.out (by decide) (Nat.mod_lt _ (by decide)) _ (h2.cut 5 (by omega))).mono ?_
 rintro e w1 ⟨rfl, rfl⟩
 go_wp2_with fail
 refine (over_any b1 b2 0 0 n n n x y (by omega) hhi hx hy hy0 _ h1 h2).mono ?_
 rintro e w2 ⟨q, r, cq, cr, rfl, hq, hr, hB⟩
 go_wp2
 go_ret
 exact ⟨r, 0, cr, rfl, hr, hB⟩
theorem joined32_or (b1 b2 n x y : Nat) (hn : 32 = n) (hx : x < 2 ^ n) (hy : y < 2 ^ n) (w : World) (h1 : Bits w b1 0 n x) (h2 : Bits w b2 0 n y) :
 Calls Tryz.prog 44 #[.int .i64 8, .slice (some ⟨b1, 0, none⟩) n n, .slice (some ⟨b2, 0, none⟩) n n] w (SomeBits w n (x ||| y)) := by
 have hd : ((n : Int) == 64) = false := by rw [<- hn]; rfl
 have hlo : 32 <= n := by omega
 have hhi : n <= 64 := by omega
 have hlo' : (32 : Int) <= n := by omega
 obtain ⟨k5, hk5⟩ : ∃ k, k = y % 2 ^ 5 := ⟨_, rfl⟩
 have H5 := Lib.hid hk5
 have hk5b : k5 < 32 := by rw [hk5]; exact Nat.mod_lt _ (by decide)
 clear hk5
 have hkn : k5 < n := by omega
 clear hn
 go_enter Tryz.func44, Tryz.ntmps44
 go_wp2_with fail
 refine (number_small b2 0 5 n (y % 2 ^ 5) k5 H5.out (by decide) (Nat.mod_lt _ (by decide)) _ (h2.cut 5 (by omega))).mono ?_
 rintro e w1 ⟨rfl, rfl⟩
 go_wp2_with fail
 refine (or_any b1 b2 0 0 n n n n x y hhi (Nat.le_refl _) _ h1 h2).mono ?_
 rintro e w2 ⟨q, rfl, hq, hR, hB⟩
 go_wp2
 go_ret
 exact ⟨q, 0, n, rfl, Bits.row hR, hB⟩
theorem joined32_and (b1 b2 n x y : Nat) (hn : 32 = n) (hx : x < 2 ^ n) (hy : y < 2 ^ n) (w : World) (h1 : Bits w b1 0 n x) (h2 : Bits w b2 0 n y) :
 Calls Tryz.prog 44 #[.int .i64 9, .slice (some ⟨b1, 0, none⟩) n n, .slice (some ⟨b2, 0, none⟩) n n] w (SomeBits w n (x &&& y)) := by
 have hd : ((n : Int) == 64) = false := by rw [<- hn]; rfl
 have hlo : 32 <= n := by omega
 have hhi : n <= 64 := by omega
 have hlo' : (32 : Int) <= n := by omega
 obtain ⟨k5, hk5⟩ : ∃ k, k = y % 2 ^ 5 := ⟨_, rfl⟩
 have H5 := Lib.hid hk5
 have hk5b : k5 < 32 := by rw [hk5]; exact Nat.mod_lt _ (by decide)
 clear hk5
 have hkn : k5 < n := by omega
 clear hn
 go_enter Tryz.func44, Tryz.ntmps44
 go_wp2_with fail
 refine (number_small b2 0 5 n (y % 2 ^ 5) k5 H5.out (by decide) (Nat.mod_lt _ (by decide)) _ (h2.cut 5 (by omega))).mono ?_
 rintro e w1 ⟨rfl, rfl⟩
 go_wp2_with fail
 refine (and_any b1 b2 0 0 n n n n x y hhi (Nat.le_refl _) _ h1 h2).mono ?_
 rintro e w2 ⟨q, rfl, hq, hR, hB⟩
 go_wp2
 go_ret
 exact ⟨q, 0, n, rfl, Bits.row hR, hB⟩
theorem joined32_xor (b1 b2 n x y : Nat) (hn : 32 = n) (hx : x < 2 ^ n) (hy : y < 2 ^ n) (w : World) (h1 : Bits w b1 0 n x) (h2 : Bits w b2 0 n y) :
 Calls Tryz.prog 44 #[.int .i64 10, .slice (some ⟨b1, 0, none⟩) n n, .slice (some ⟨b2, 0, none⟩) n n] w (SomeBits w n (x ^^^ y)) := by
 have hd : ((n : Int) == 64) = false := by rw [<- hn]; rfl
 have hlo : 32 <= n := by omega
 have hhi : n <= 64 := by omega
 have hlo' : (32 : Int) <= n := by omega
 obtain ⟨k5, hk5⟩ : ∃ k, k = y % 2 ^ 5 := ⟨_, rfl⟩
 have H5 := Lib.hid hk5
 have hk5b : k5 < 32 := by rw [hk5]; exact Nat.mod_lt _ (by decide)
 clear hk5
 have hkn : k5 < n := by omega
 clear hn
 go_enter Tryz.func44, Tryz.ntmps44
 go_wp2_with fail
 refine (number_small b2 0 5 n (y % 2 ^ 5) k5 H5.out (by decide) (Nat.mod_lt _ (by decide)) _ (h2.cut 5 (by omega))).mono ?_
 rintro e w1 ⟨rfl, rfl⟩
 go_wp2_with fail
 refine (xor_any b1 b2 0 0 n n n n x y hhi (Nat.le_refl _) _ h1 h2).mono ?_
 rintro e w2 ⟨q, rfl, hq, hR, hB⟩
 go_wp2
 go_ret
 exact ⟨q, 0, n, rfl, Bits.row hR, hB⟩
theorem joined32_lsh (b1 b2 n x y : Nat) (hn : 32 = n) (hx : x < 2 ^ n) (hy : y < 2 ^ n) (w : World) (h1 : Bits w b1 0 n x) (h2 : Bits w b2 0 n y) :
 Calls Tryz.prog 44 #[.int .i64 11, .slice (some ⟨b1, 0, none⟩) n n, .slice (some ⟨b2, 0, none⟩) n n] w (SomeBits w n (x * 2 ^ (y % 2 ^ 5))) := by
 have hd : ((n : Int) == 64) = false := by rw [<- hn]; rfl
 have hlo : 32 <= n := by omega
 have hhi : n <= 64 := by omega
 have hlo' : (32 : Int) <= n := by omega
 obtain ⟨k5, hk5⟩ : ∃ k, k = y % 2 ^ 5 := ⟨_, rfl⟩
 have H5 := Lib.hid hk5
 have hk5b : k5 < 32 := by rw [hk5]; exact Nat.mod_lt _ (by decide)
 clear hk5
 have hkn : k5 < n := by omega
 clear hn
 go_enter Tryz.func44, Tryz.ntmps44
 go_wp2_with fail
 refine (number_small b2 0 5 n (y % 2 ^ 5) k5 H5.out (by decide) (Nat.mod_lt _ (by decide)) _ (h2.cut 5 (by omega))).mono ?_
 rintro e w1 ⟨rfl, rfl⟩
 go_wp2_with fail
 refine (up_any b1 0 n n x k5 _ rfl (by omega) (by omega) _ h1).mono ?_
 rintro e w2 ⟨q, rfl, hq, hR, hB⟩
 go_wp2
 go_ret
 exact ⟨q, 0, n, rfl, by rw [<- H5.out]; exact Bits.row hR, hB⟩
theorem joined32_rsh (b1 b2 n x y : Nat) (hn : 32 = n) (hx : x < 2 ^ n) (hy : y < 2 ^ n) (w : World) (h1 : Bits w b1 0 n x) (h2 : Bits w b2 0 n y) :
 Calls Tryz.prog 44 #[.int .i64 12, .slice (some ⟨b1, 0, none⟩) n n, .slice (some ⟨b2, 0, none⟩) n n] w (SomeBits w n (downVal x n (y % 2 ^ 5) false)) := by
 have hd : ((n : Int) == 64) = false := by rw [<- hn]; rfl
 have hlo : 32 <= n := by omega
 have hhi : n <= 64 := by omega
 have hlo' : (32 : Int) <= n := by omega
 obtain ⟨k5, hk5⟩ : ∃ k, k = y % 2 ^ 5 := ⟨_, rfl⟩
 have H5 := Lib.hid hk5
 have hk5b : k5 < 32 := by rw [hk5]; exact Nat.mod_lt _ (by decide)
 clear hk5
 have hkn : k5 < n := by omega
 clear hn
 go_enter Tryz.func44, Tryz.ntmps44
 go_wp2_with fail
 refine (number_small b2 0 5 n (y % 2 ^ 5) k5 H5.out (by decide) (Nat.mod_lt _ (by decide)) _ (h2.cut 5 (by omega))).mono ?_
 rintro e w1 ⟨rfl, rfl⟩
 go_wp2_with fail
 refine (down_any b1 0 n n x k5 0 _ rfl (by omega) (by omega) _ h1).mono ?_
 rintro e w2 ⟨q, rfl, hq, hR, hB⟩
 go_wp2
 go_ret
 exact ⟨q, 0, n, rfl, by
  rw [<- H5.out]
  have e : itab n (downTo x n k5 0) = itab n (bit (downVal x n k5 false)) := itab_congr fun i hi => down_val x n k5 i false hx hi hkn
  rw [e] at hR; exact Bits.row hR, hB⟩
theorem joined32_arsh (b1 b2 n x y : Nat) (hn : 32 = n) (hx : x < 2 ^ n) (hy : y < 2 ^ n) (w : World) (h1 : Bits w b1 0 n x) (h2 : Bits w b2 0 n y) :
 Calls Tryz.prog 44 #[.int .i64 13, .slice (some ⟨b1, 0, none⟩) n n, .slice (some ⟨b2, 0, none⟩) n n] w (SomeBits w n (downVal x n (y % 2 ^ 5) (bit x (n - 1) == 1))) := by
 have hd : ((n : Int) == 64) = false := by rw [<- hn]; rfl
 have hlo : 32 <= n := by omega
 have hhi : n <= 64 := by omega
 have hlo' : (32 : Int) <= n := by omega
 obtain ⟨k5, hk5⟩ : ∃ k, k = y % 2 ^ 5 := ⟨_, rfl⟩
 have H5 := Lib.hid hk5
 have hk5b : k5 < 32 := by rw [hk5]; exact Nat.mod_lt _ (by decide)
 clear hk5
 have hkn : k5 < n := by omega
 clear hn
 go_enter Tryz.func44, Tryz.ntmps44
 go_wp2_with fail
 refine (number_small b2 0 5 n (y % 2 ^ 5) k5 H5.out (by decide) (Nat.mod_lt _ (by decide)) _ (h2.cut 5 (by omega))).mono ?_
 rintro e w1 ⟨rfl, rfl⟩
 have e1 := h1.2 (n - 1) (by omega)
 rw [Nat.zero_add] at e1
 have ei : ((n : Int) - 1).toNat = n - 1 := by omega
 go_wp2_with fail
 refine (down_any b1 0 n n x k5 (bit x (n - 1)) _ rfl (by omega) (by omega) _ h1).mono ?_
 rintro e w2 ⟨q, rfl, hq, hR, hB⟩
 go_wp2
 go_ret
 refine ⟨q, 0, n, rfl, ?_, hB⟩
 rw [<- H5.out]
 have e : itab n (downTo x n k5 (bit x (n - 1))) = itab n (bit (downVal x n k5 (bit x (n - 1) == 1))) := by
  refine itab_congr fun i hi => ?_
  rw [<- down_val x n k5 i _ hx hi hkn]
  congr 1
  rcases bit_01 x (n - 1) with h | h <;> rw [h] <;> rfl
 rw [e] at hR; exact Bits.row hR
theorem joined32_neg (b1 b2 n x y : Nat) (hn : 32 = n) (hx : x < 2 ^ n) (hy : y < 2 ^ n) (w : World) (h1 : Bits w b1 0 n x) (h2 : Bits w b2 0 n y) :
 Calls Tryz.prog 44 #[.int .i64 14, .slice (some ⟨b1, 0, none⟩) n n, .slice (some ⟨b2, 0, none⟩) n n] w (SomeBits w n (2 ^ n - x % 2 ^ n)) := by
 have hd : ((n : Int) == 64) = false := by rw [<- hn]; rfl
 have hlo : 32 <= n := by omega
 have hhi : n <= 64 := by omega
 have hlo' : (32 : Int) <= n := by omega
 obtain ⟨k5, hk5⟩ : ∃ k, k = y % 2 ^ 5 := ⟨_, rfl⟩
 have H5 := Lib.hid hk5
 have hk5b : k5 < 32 := by rw [hk5]; exact Nat.mod_lt _ (by decide)
 clear hk5
 have hkn : k5 < n := by omega
 clear hn
 go_enter Tryz.func44, Tryz.ntmps44
 go_wp2_with fail
 refine (number_small b2 0 5 n (y % 2 ^ 5) k5 H5.out (by decide) (Nat.mod_lt _ (by decide)) _ (h2.cut 5 (by omega))).mono ?_
 rintro e w1 ⟨rfl, rfl⟩
 go_wp2_with fail
 refine (negative_any b1 0 n n x (by omega) _ h1).mono ?_
 rintro e w2 ⟨q, rfl, hq, hR, hB⟩
 go_wp2
 go_ret
 exact ⟨q, 0, n, rfl, Bits.row hR, hB⟩
theorem joined32_mov (b1 b2 n x y : Nat) (hn : 32 = n) (hx : x < 2 ^ n) (hy : y < 2 ^ n) (w : World) (h1 : Bits w b1 0 n x) (h2 : Bits w b2 0 n y) :
 Calls Tryz.prog 44 #[.int .i64 15, .slice (some ⟨b1, 0, none⟩) n n, .slice (some ⟨b2, 0, none⟩) n n] w (SomeBits w n (y)) := by
 have hd : ((n : Int) == 64) = false := by rw [<- hn]; rfl
 have hlo : 32 <= n := by omega
 have hhi : n <= 64 := by omega
 have hlo' : (32 : Int) <= n := by omega
 obtain ⟨k5, hk5⟩ : ∃ k, k = y % 2 ^ 5 := ⟨_, rfl⟩
 have H5 := Lib.hid hk5
 have hk5b : k5 < 32 := by rw [hk5]; exact Nat.mod_lt _ (by decide)
 clear hk5
 have hkn : k5 < n := by omega
 clear hn
 go_enter Tryz.func44, Tryz.ntmps44
 go_wp2_with fail
 refine (number_small b2 0 5 n (y % 2 ^ 5) k5 H5.out (by decide) (Nat.mod_lt _ (by decide)) _ (h2.cut 5 (by omega))).mono ?_
 rintro e w1 ⟨rfl, rfl⟩
 go_wp2
 go_ret
 exact ⟨b2, 0, n, rfl, h2, Below.refl _ _⟩
end Go.Proofs.YtcmplcdbkoodpaaGreatDoor
