/-
  The reference's rows of bits: quotient and rest with signs, rows as numbers with signs.
-/
import Derived.Test.YtbkcpepalicbjaaGreatRefC
import Derived.Test.YtbkcpepalicbjaaGreatRefD
namespace Go.Proofs.YtbkcpepalicbjaaGreat
open Go.RowKit
set_option linter.unusedVariables false

/-- How far a row of n bits is from 0. -/
def absN (n x : Nat) : Nat := if bit x (n - 1) = 1 then 2 ^ n - x else x
theorem absN_lt (n x : Nat) (hn : 0 < n) (hx : x < 2 ^ n) : absN n x < 2 ^ n := by
  unfold absN; split
  · rename_i h
    have : x ≠ 0 := by rintro rfl; simp [bit] at h
    omega
  · exact hx
theorem absN_ne (n x : Nat) (hn : 0 < n) (hx : x < 2 ^ n) (h0 : x ≠ 0) : absN n x ≠ 0 := by
  unfold absN; split <;> omega

theorem far_any (b o n c x : Nat) (hn0 : 0 < n) (hn : n ≤ 64) (hx : x < 2 ^ n) (w : World) (h1 : Bits w b o n x) :
    Calls Tryz.prog 236 #[.slice (some ⟨b, o, none⟩) n c] w fun e w' =>
      ∃ q oq cq, e = .returned (.tuple #[.slice (some ⟨q, oq, none⟩) n cq, .int .i64 (bit x (n - 1))]) ∧ Bits w' q oq n (absN n x) ∧ Below w.heap.size w w' := by
  by_cases h : bit x (n - 1) = 1
  · refine (far_minus b o n c x hn0 hn w h1 h).mono ?_
    rintro e w' ⟨q, rfl, hq, hB, _⟩
    exact ⟨q, 0, n, by rw [h], by unfold absN; rw [if_pos h]; rwa [Nat.mod_eq_of_lt hx] at hq, hB⟩
  · have h0 : bit x (n - 1) = 0 := by have := bit_01 x (n - 1); omega
    refine (far_plus b o n c x hn0 hn w h1 h0).mono ?_
    rintro e w' ⟨rfl, rfl⟩
    exact ⟨b, o, c, by rw [h0], by unfold absN; rwa [if_neg h], Below.refl _ _⟩

/-- A row of n bits with its sign turned if s says so. -/
def turn (s : Bool) (n x : Nat) : Nat := if s then 2 ^ n - x % 2 ^ n else x

theorem Bits.frame {w w' : World} {b off n x B : Nat} (h : Bits w b off n x) (hs : B ≤ w.heap.size) (hb : Below w.heap.size w w') : Bits w' b off n x := h.below hb h.1


set_option maxHeartbeats 1600000 in
theorem over_nm (b1 b2 o1 o2 n c1 c2 x y : Nat) (s t : Int) (hs : bit x (n - 1) = s) (ht : bit y (n - 1) = t) (d1 : (s != t) = true) (d2 : (s == 1) = true) (hn0 : 0 < n) (hn : n ≤ 64) (hx : x < 2 ^ n) (hy : y < 2 ^ n) (hy0 : y ≠ 0) (w : World) (h1 : Bits w b1 o1 n x) (h2 : Bits w b2 o2 n y) :
    Calls Tryz.prog 229 #[.slice (some ⟨b1, o1, none⟩) n c1, .slice (some ⟨b2, o2, none⟩) n c2] w fun e w' =>
      ∃ q r cq cr, e = .returned (.tuple #[.slice (some ⟨q, 0, none⟩) n cq, .slice (some ⟨r, 0, none⟩) n cr]) ∧
        Bits w' q 0 n (turn true n (absN n x / absN n y)) ∧ Bits w' r 0 n (turn true n (absN n x % absN n y)) ∧ Below w.heap.size w w' := by
  have ax := absN_lt n x hn0 hx
  have ay := absN_lt n y hn0 hy
  have ay0 := absN_ne n y hn0 hy hy0
  have HS := Lib.hid hs
  have HT := Lib.hid ht
  clear hs ht
  go_enter Tryz.func229, Tryz.ntmps229
  go_wp2_with fail
  refine (far_any b1 o1 n c1 x hn0 hn hx _ h1).mono ?_
  rintro e w1 ⟨q1, oq1, cq1, rfl, hx1, hB1⟩
  rw [HS.out]
  have h2a := h2.below hB1 h2.1
  go_wp2_with fail
  refine (far_any b2 o2 n c2 y hn0 hn hy _ h2a).mono ?_
  rintro e w2 ⟨q2, oq2, cq2, rfl, hy2, hB2⟩
  rw [HT.out]
  have hx2 := hx1.below hB2 hx1.1
  have hB02 := hB1.trans (hB2.mono hB1.size)
  go_wp2_with fail
  refine (divided_any q1 q2 oq1 oq2 n cq1 cq2 (absN n x) (absN n y) hn0 hn ax ay ay0 _ hx2 hy2).mono ?_
  rintro e w3 ⟨q, r, cr, rfl, hq, hr, hB3, _, _⟩
  have hB03 := hB02.trans (hB3.mono hB02.size)
  clear hx1 hx2 hy2 h2a hB1 hB2 hB3 hB02
  go_wp2_with fail
  refine (negative_any q 0 n n _ (by omega) _ hq).mono ?_
  rintro e w4 ⟨qn, rfl, _, hRq, hB4⟩
  have hq4 := Bits.row hRq
  have hr4 := hr.below hB4 hr.1
  have hB04 := hB03.trans (hB4.mono hB03.size)
  clear hRq hB4 hB03 hq hr
  go_wp2_with fail
  refine (negative_any r 0 n cr _ (by omega) _ hr4).mono ?_
  rintro e w5 ⟨rn, rfl, _, hRr, hB5⟩
  have hr5 := Bits.row hRr
  have hq5 := hq4.below hB5 hq4.1
  have hB05 := hB04.trans (hB5.mono hB04.size)
  clear hRr hB5 hB04 hq4 hr4
  go_wp2
  go_ret2
  exact ⟨qn, rn, n, n, rfl, hq5, hr5, hB05⟩

set_option maxHeartbeats 1600000 in
theorem over_np (b1 b2 o1 o2 n c1 c2 x y : Nat) (s t : Int) (hs : bit x (n - 1) = s) (ht : bit y (n - 1) = t) (d1 : (s != t) = true) (d2 : (s == 1) = false) (hn0 : 0 < n) (hn : n ≤ 64) (hx : x < 2 ^ n) (hy : y < 2 ^ n) (hy0 : y ≠ 0) (w : World) (h1 : Bits w b1 o1 n x) (h2 : Bits w b2 o2 n y) :
    Calls Tryz.prog 229 #[.slice (some ⟨b1, o1, none⟩) n c1, .slice (some ⟨b2, o2, none⟩) n c2] w fun e w' =>
      ∃ q r cq cr, e = .returned (.tuple #[.slice (some ⟨q, 0, none⟩) n cq, .slice (some ⟨r, 0, none⟩) n cr]) ∧
        Bits w' q 0 n (turn true n (absN n x / absN n y)) ∧ Bits w' r 0 n (turn false n (absN n x % absN n y)) ∧ Below w.heap.size w w' := by
  have ax := absN_lt n x hn0 hx
  have ay := absN_lt n y hn0 hy
  have ay0 := absN_ne n y hn0 hy hy0
  have HS := Lib.hid hs
  have HT := Lib.hid ht
  clear hs ht
  go_enter Tryz.func229, Tryz.ntmps229
  go_wp2_with fail
  refine (far_any b1 o1 n c1 x hn0 hn hx _ h1).mono ?_
  rintro e w1 ⟨q1, oq1, cq1, rfl, hx1, hB1⟩
  rw [HS.out]
  have h2a := h2.below hB1 h2.1
  go_wp2_with fail
  refine (far_any b2 o2 n c2 y hn0 hn hy _ h2a).mono ?_
  rintro e w2 ⟨q2, oq2, cq2, rfl, hy2, hB2⟩
  rw [HT.out]
  have hx2 := hx1.below hB2 hx1.1
  have hB02 := hB1.trans (hB2.mono hB1.size)
  go_wp2_with fail
  refine (divided_any q1 q2 oq1 oq2 n cq1 cq2 (absN n x) (absN n y) hn0 hn ax ay ay0 _ hx2 hy2).mono ?_
  rintro e w3 ⟨q, r, cr, rfl, hq, hr, hB3, _, _⟩
  have hB03 := hB02.trans (hB3.mono hB02.size)
  clear hx1 hx2 hy2 h2a hB1 hB2 hB3 hB02
  go_wp2_with fail
  refine (negative_any q 0 n n _ (by omega) _ hq).mono ?_
  rintro e w4 ⟨qn, rfl, _, hRq, hB4⟩
  have hq4 := Bits.row hRq
  have hr4 := hr.below hB4 hr.1
  have hB04 := hB03.trans (hB4.mono hB03.size)
  clear hRq hB4 hB03 hq hr
  go_wp2
  go_ret2
  exact ⟨qn, r, n, cr, rfl, hq4, hr4, hB04⟩

set_option maxHeartbeats 1600000 in
theorem over_sm (b1 b2 o1 o2 n c1 c2 x y : Nat) (s t : Int) (hs : bit x (n - 1) = s) (ht : bit y (n - 1) = t) (d1 : (s != t) = false) (d2 : (s == 1) = true) (hn0 : 0 < n) (hn : n ≤ 64) (hx : x < 2 ^ n) (hy : y < 2 ^ n) (hy0 : y ≠ 0) (w : World) (h1 : Bits w b1 o1 n x) (h2 : Bits w b2 o2 n y) :
    Calls Tryz.prog 229 #[.slice (some ⟨b1, o1, none⟩) n c1, .slice (some ⟨b2, o2, none⟩) n c2] w fun e w' =>
      ∃ q r cq cr, e = .returned (.tuple #[.slice (some ⟨q, 0, none⟩) n cq, .slice (some ⟨r, 0, none⟩) n cr]) ∧
        Bits w' q 0 n (turn false n (absN n x / absN n y)) ∧ Bits w' r 0 n (turn true n (absN n x % absN n y)) ∧ Below w.heap.size w w' := by
  have ax := absN_lt n x hn0 hx
  have ay := absN_lt n y hn0 hy
  have ay0 := absN_ne n y hn0 hy hy0
  have HS := Lib.hid hs
  have HT := Lib.hid ht
  clear hs ht
  go_enter Tryz.func229, Tryz.ntmps229
  go_wp2_with fail
  refine (far_any b1 o1 n c1 x hn0 hn hx _ h1).mono ?_
  rintro e w1 ⟨q1, oq1, cq1, rfl, hx1, hB1⟩
  rw [HS.out]
  have h2a := h2.below hB1 h2.1
  go_wp2_with fail
  refine (far_any b2 o2 n c2 y hn0 hn hy _ h2a).mono ?_
  rintro e w2 ⟨q2, oq2, cq2, rfl, hy2, hB2⟩
  rw [HT.out]
  have hx2 := hx1.below hB2 hx1.1
  have hB02 := hB1.trans (hB2.mono hB1.size)
  go_wp2_with fail
  refine (divided_any q1 q2 oq1 oq2 n cq1 cq2 (absN n x) (absN n y) hn0 hn ax ay ay0 _ hx2 hy2).mono ?_
  rintro e w3 ⟨q, r, cr, rfl, hq, hr, hB3, _, _⟩
  have hB03 := hB02.trans (hB3.mono hB02.size)
  clear hx1 hx2 hy2 h2a hB1 hB2 hB3 hB02
  go_wp2_with fail
  refine (negative_any r 0 n cr _ (by omega) _ hr).mono ?_
  rintro e w5 ⟨rn, rfl, _, hRr, hB5⟩
  have hr5 := Bits.row hRr
  have hq5 := hq.below hB5 hq.1
  have hB05 := hB03.trans (hB5.mono hB03.size)
  clear hRr hB5 hB03 hq hr
  go_wp2
  go_ret2
  exact ⟨q, rn, n, n, rfl, hq5, hr5, hB05⟩

set_option maxHeartbeats 1600000 in
theorem over_sp (b1 b2 o1 o2 n c1 c2 x y : Nat) (s t : Int) (hs : bit x (n - 1) = s) (ht : bit y (n - 1) = t) (d1 : (s != t) = false) (d2 : (s == 1) = false) (hn0 : 0 < n) (hn : n ≤ 64) (hx : x < 2 ^ n) (hy : y < 2 ^ n) (hy0 : y ≠ 0) (w : World) (h1 : Bits w b1 o1 n x) (h2 : Bits w b2 o2 n y) :
    Calls Tryz.prog 229 #[.slice (some ⟨b1, o1, none⟩) n c1, .slice (some ⟨b2, o2, none⟩) n c2] w fun e w' =>
      ∃ q r cq cr, e = .returned (.tuple #[.slice (some ⟨q, 0, none⟩) n cq, .slice (some ⟨r, 0, none⟩) n cr]) ∧
        Bits w' q 0 n (turn false n (absN n x / absN n y)) ∧ Bits w' r 0 n (turn false n (absN n x % absN n y)) ∧ Below w.heap.size w w' := by
  have ax := absN_lt n x hn0 hx
  have ay := absN_lt n y hn0 hy
  have ay0 := absN_ne n y hn0 hy hy0
  have HS := Lib.hid hs
  have HT := Lib.hid ht
  clear hs ht
  go_enter Tryz.func229, Tryz.ntmps229
  go_wp2_with fail
  refine (far_any b1 o1 n c1 x hn0 hn hx _ h1).mono ?_
  rintro e w1 ⟨q1, oq1, cq1, rfl, hx1, hB1⟩
  rw [HS.out]
  have h2a := h2.below hB1 h2.1
  go_wp2_with fail
  refine (far_any b2 o2 n c2 y hn0 hn hy _ h2a).mono ?_
  rintro e w2 ⟨q2, oq2, cq2, rfl, hy2, hB2⟩
  rw [HT.out]
  have hx2 := hx1.below hB2 hx1.1
  have hB02 := hB1.trans (hB2.mono hB1.size)
  go_wp2_with fail
  refine (divided_any q1 q2 oq1 oq2 n cq1 cq2 (absN n x) (absN n y) hn0 hn ax ay ay0 _ hx2 hy2).mono ?_
  rintro e w3 ⟨q, r, cr, rfl, hq, hr, hB3, _, _⟩
  have hB03 := hB02.trans (hB3.mono hB02.size)
  clear hx1 hx2 hy2 h2a hB1 hB2 hB3 hB02
  go_wp2
  go_ret2
  exact ⟨q, r, n, cr, rfl, hq, hr, hB03⟩

theorem over_any (b1 b2 o1 o2 n c1 c2 x y : Nat) (hn0 : 0 < n) (hn : n ≤ 64) (hx : x < 2 ^ n) (hy : y < 2 ^ n) (hy0 : y ≠ 0) (w : World) (h1 : Bits w b1 o1 n x) (h2 : Bits w b2 o2 n y) :
    Calls Tryz.prog 229 #[.slice (some ⟨b1, o1, none⟩) n c1, .slice (some ⟨b2, o2, none⟩) n c2] w fun e w' =>
      ∃ q r cq cr, e = .returned (.tuple #[.slice (some ⟨q, 0, none⟩) n cq, .slice (some ⟨r, 0, none⟩) n cr]) ∧
        Bits w' q 0 n (turn (bit x (n - 1) != bit y (n - 1)) n (absN n x / absN n y)) ∧ Bits w' r 0 n (turn (bit x (n - 1) == 1) n (absN n x % absN n y)) ∧ Below w.heap.size w w' := by
  cases d1 : (bit x (n - 1) != bit y (n - 1)) <;> cases d2 : (bit x (n - 1) == 1)
  · exact over_sp b1 b2 o1 o2 n c1 c2 x y _ _ rfl rfl d1 d2 hn0 hn hx hy hy0 w h1 h2
  · exact over_sm b1 b2 o1 o2 n c1 c2 x y _ _ rfl rfl d1 d2 hn0 hn hx hy hy0 w h1 h2
  · exact over_np b1 b2 o1 o2 n c1 c2 x y _ _ rfl rfl d1 d2 hn0 hn hx hy hy0 w h1 h2
  · exact over_nm b1 b2 o1 o2 n c1 c2 x y _ _ rfl rfl d1 d2 hn0 hn hx hy hy0 w h1 h2
end Go.Proofs.YtbkcpepalicbjaaGreat
