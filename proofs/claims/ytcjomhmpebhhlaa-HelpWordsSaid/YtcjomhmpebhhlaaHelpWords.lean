/-
  HelpWords: the order of words doesn't matter; when the sum is 0; no condition.
-/
import Derived.Test.YtcjomhmpebhhlaaHelpD
import Derived.Test.YtcjomhmpebhhlaaPart
import Derived.Test.YtcjomhmpebhhlaaWords
import Derived.OpenShut
import Derived.Deep.QuietTactic
import Derived.BigQuiet
import Derived.BigRegion
namespace Go.Proofs.Ytcjomhmpebhhlaa.helpWords
open Go.ChangeShapes Go.WideShapes Go.ChangeAt Go.RowKit
set_option linter.unusedVariables false

theorem place_nat (a : Int) (n : Nat) (hn : 0 < n) : ∃ p : Nat, p < n ∧ (a.tmod n + n).tmod n = (p : Int) ∧ -(n : Int) < a.tmod n ∧ a.tmod n < n := by
  have h1 := Int.tmod_lt_of_pos a (show (0 : Int) < n by omega)
  have h2 : -(n : Int) < a.tmod n := by
    have := Int.neg_tmod a (n : Int)
    have h3 := Int.tmod_lt_of_pos (-a) (show (0 : Int) < n by omega)
    omega
  refine ⟨((a.tmod n + n).tmod n).toNat, ?_, ?_, h2, h1⟩
  · have := Int.tmod_lt_of_pos (a.tmod n + n) (show (0 : Int) < n by omega)
    omega
  · have := Int.tmod_nonneg (n : Int) (show 0 ≤ a.tmod n + n by omega)
    omega
set_option maxHeartbeats 800000 in
theorem place_of (a : Int) (n : Nat) (hn : 0 < n) (hm : n ≤ 140737488355328) (w : World) : Calls Try.prog 38 #[.int .i64 a, .int .i64 n] w fun e w' => (∃ p : Nat, p < n ∧ e = .returned (.int .i64 p)) ∧ w = w' := by
  obtain ⟨p, hp, h1, h2, h3⟩ := place_nat a n hn
  have hz2 : ¬ ((n : Int) = 0) := by omega
  obtain ⟨r, hr⟩ : ∃ r, r = a.tmod n := ⟨_, rfl⟩
  rw [← hr] at h1 h2 h3
  have hw1 : IntKind.i64.wrap r = r := IntWalk.i64_in _ (by omega)
  have hw2 : IntKind.i64.wrap (r + n) = r + n := IntWalk.i64_in _ (by omega)
  have hw3 : IntKind.i64.wrap (p : Int) = p := IntWalk.i64_in _ (by omega)
  have hr' := hr.symm
  clear hr
  go_enter Try.func38, Try.ntmps38
  go_wp2
  go_ret
  exact ⟨⟨p, hp, rfl⟩, rfl⟩


theorem swapw_eq (xs : List Int) (p r : Nat) (b0 b1 d0 d1 : Int) (h1 : b0 = xs.getD (2 * p) 0) (h2 : b1 = xs.getD (2 * p + 1) 0) (h3 : d0 = xs.getD (2 * r) 0) (h4 : d1 = xs.getD (2 * r + 1) 0) :
    (((xs.set (2 * p) d0).set (2 * r) b0).set (2 * p + 1) d1).set (2 * r + 1) b1 = swapw xs p r := by subst h1 h2 h3 h4; rfl

set_option maxRecDepth 100000 in
set_option maxHeartbeats 6400000 in
theorem walk (bv : Value) (xs : List Int) (hl : xs.length ≤ 140737488351232) (seed : Int) (rs : -9223372036854775808 ≤ seed ∧ seed ≤ 9223372036854775807) (x : Int) (rx : -9223372036854775808 ≤ x ∧ x ≤ 9223372036854775807) (y : Int) (ry : -9223372036854775808 ≤ y ∧ y ≤ 9223372036854775807) (w : World) (h : Held w bv xs) :
    Calls Try.prog 7 #[bv, .int .i64 seed, .int .i64 x, .int .i64 y] w fun e w' => e = .returned (.bool true) ∧ Below w.heap.size w w' := by
  clear rs rx ry
  have hx := h.bytes
  have hsd := seed_low seed
  have HH := Lib.hid h
  obtain ⟨a, cap, rfl, hcap, hcm, htk, hc⟩ := h.open
  obtain ⟨S, hS⟩ : ∃ S, S = sumv xs seed := ⟨_, rfl⟩
  have hsz := sum_is_zero hx seed
  have hsr := sumN_range hx (s := seed % 65536) (by omega) ((xs.length + 1) / 2)
  have hsr : 0 ≤ S ∧ S ≤ 65535 := by rw [hS]; exact hsr
  rw [← hS] at hsz
  have hsw := fun i k hi hk => sum_swap hx i k hi hk seed
  obtain ⟨n, hn⟩ : ∃ n, n = xs.length := ⟨_, rfl⟩
  obtain ⟨q, hq⟩ : ∃ q, q = n / 2 := ⟨_, rfl⟩
  rw [← hn] at hcap hl hc HH hsz ⊢
  obtain ⟨s0, hs0⟩ : ∃ s0, s0 = seed % 65536 := ⟨_, rfl⟩
  rw [← hs0] at hsd hsz
  have t1 : (n : Int).tdiv 2 = (q : Int) := by rw [hq]; rfl
  have t2 : (n : Int) / 2 = (q : Int) := by omega
  have d1 : decide (S < 0) = false := by simp; omega
  have d2 : decide (65535 < S) = false := by simp; omega
  have HSW := Lib.hid hsw
  have HX := Lib.hid hx
  have HC := Lib.hid hc
  have HN := Lib.hid hn
  have HQ := Lib.hid hq
  have HS := Lib.hid hS.symm
  have HSZ := Lib.hid hsz
  have HL := Lib.hid hl
  have HD1 := Lib.hid d1
  have HD2 := Lib.hid d2
  have T1 := Lib.hid t1
  have T2 := Lib.hid t2
  clear hx hc hn hq hS hsz hs0 hsr htk hsw h hcm d1 d2 t1 t2
  go_enter Try.func7, Try.ntmps7
  go_wp2_with fail
  refine (known_any _).mono ?_
  rintro e w1 ⟨rfl, hB⟩
  go_wp2_with fail
  refine (sum_of _ xs (by have := HN.out; omega) seed _ (HH.out.below hB (Nat.le_refl _))).mono ?_
  rintro e w' ⟨rfl, rfl⟩
  rw [HS.out]
  go_wp2
  go_loopw [10, 11] (fun z s wr => ∃ k : Nat, k ≤ n ∧ s = .int .i64 k ∧ z = .bool (zN xs s0 k) ∧ Below w.heap.size w wr) (fun _ s _ => n - (intOf s).toNat)
  case atStart => exact ⟨0, Nat.zero_le _, rfl, rfl, hB⟩
  case round =>
    clear hB
    obtain ⟨k, hk, rfl, rfl, hB⟩ := hrel
    by_cases hlt : k < n
    · obtain ⟨b, off, rfl, hb1, hcell⟩ : ∃ b off, a = some ⟨b, off, none⟩ ∧ b < w.heap.size ∧ ∀ i, i < n → w.cell? ⟨b, off + i, none⟩ = some (.int .u8 (xs.getD i 0)) := by
        rcases HC.out with ⟨h0, _⟩ | h0
        · omega
        · exact h0
      have e1 := (hB.cell (p := ⟨b, off + k, none⟩) hb1).trans (hcell k hlt)
      have hx1 := HX.out.at' k
      obtain ⟨c, hc⟩ : ∃ c, c = xs.getD k 0 := ⟨_, rfl⟩
      rw [← hc] at e1 hx1
      have hnx : zN xs s0 (k + 1) = (zN xs s0 k && c == 0) := by rw [hc]; rfl
      obtain ⟨Z, hZ⟩ : ∃ Z, Z = zN xs s0 k := ⟨_, rfl⟩
      rw [← hZ] at hnx ⊢
      have HNX := Lib.hid hnx
      clear hnx hZ hc hcell
      cases Z
      · go_wp2
        go_roundw
        case rel => exact ⟨k + 1, hlt, by go_num, by rw [HNX.out]; rfl, hB⟩
        case measure => simp [intOf]; omega
      · go_wp2
        go_roundw
        case rel => exact ⟨k + 1, hlt, by go_num, by rw [HNX.out]; rfl, hB⟩
        case measure => simp [intOf]; omega
    · obtain rfl : k = n := by omega
      obtain ⟨Z, hZ⟩ : ∃ Z, Z = zN xs s0 k := ⟨_, rfl⟩
      have hzz : (S == 0) = Z := by rw [HSZ.out, hZ]
      rw [← hZ]
      have d1 := HD1.out
      have d2 := HD2.out
      have hs := hB.size
      clear hZ
      go_wp2_with fail
      refine (copy_of _ xs _ (HH.out.below hB (Nat.le_refl _)) (by have := HN.out; have := HL.out; omega)).mono ?_
      rintro e w2 ⟨v', rfl, hown, hB2⟩
      rw [← HN.out] at hown
      have HB := Lib.hid (hB.trans (hB2.mono hs))
      have HWS := Lib.hid hs
      have hs2 := hB2.size
      have HWS2 := Lib.hid hs2
      have t1 := T1.out
      have t2 := T2.out
      clear hzz d1 d2 hs hB hB2 hs2
      by_cases hq0 : q = 0
      · obtain ⟨a2, c2, rfl⟩ : ∃ a2 c2, v' = .slice a2 k c2 := by
          rcases hown.2 with ⟨rfl, h0⟩ | ⟨g, c2, cur, rfl, _⟩
          · exact ⟨none, 0, by rw [h0]⟩
          · exact ⟨_, _, rfl⟩
        have HO := Lib.hid hown
        have HYB := Lib.hid HX.out
        have HYL := Lib.hid HN.out.symm
        have HYS := Lib.hid HS.out
        clear hown
        subst hq0
        go_wp2_with fail
        refine (sum_of _ (xs) (by have := HYL.out; have := HL.out; omega) seed _ (held_of_own HO.out HYB.out HYL.out.symm)).mono ?_
        rintro e w' ⟨rfl, rfl⟩
        rw [HYS.out]
        have hss : (S == S) = true := by simp
        by_cases hpar : k % 2 = 0
        · have m1 : (k : Int).tmod 2 = 0 := by
            rw [Int.tmod_eq_emod_of_nonneg (by omega)]; omega
          have m2 : (k : Int) % 2 = 0 := by omega
          go_wp2
          go_ret
          exact ⟨rfl, HB.out⟩
        · have m1 : (k : Int).tmod 2 = 1 := by
            rw [Int.tmod_eq_emod_of_nonneg (by omega)]; omega
          have m2 : (k : Int) % 2 = 1 := by omega
          have HP1 := Lib.hid (show k % 2 = 1 by omega)
          clear hpar
          obtain ⟨i0, hi0, hz0, hz1, hz2⟩ := info_parts info_u8
          have hsB := HB.out.size
          have hnw : ∀ (j : Nat) (u : Value), [Value.int .u8 0][j]? = some u → (w2.alloc (.cells #[Value.int .u8 0] 5)).cell? ((⟨w2.heap.size, 0, none⟩ : Addr).add j) = some u := bytes_new_news w2 [0] _
          have hon : ∀ u ∈ [Value.int .u8 0], u.oneCell' = true := bytes_one [0]
          have hm3 : k + 1 ≤ maxLen := by have := HL.out; unfold maxLen; omega
          have hm4 : (k + 1) * 1 ≤ 140737488355328 := by have := HL.out; omega
          have hm5 : wr.heap.size ≤ (w2.alloc (.cells #[Value.int .u8 0] 5)).heap.size := by have := HWS2.out; simp; omega
          go_wp2_with (at_builtin; refine BigFrame.wpList_want (by first | rfl | kernel_rfl) fun K hK => ?_; refine wp_append_own _ (.tmp 111) (.tmp 112) 27 rfl wr.heap.size 5 i0 (.int .u8 0) 1 1 Try.underlying27 hi0 hz0 hz1 hz2 rfl (by decide) _ k _ rfl (HO.out.alloc _) ⟨w2.heap.size, 0, none⟩ 1 1 [.int .u8 0] rfl rfl hnw hon hm3 hm4 hm5 ?_; intro v3 w3 hown3 hgrow _; refine hK _ _ ?_; clear hK)
          have hB3 : Below w.heap.size w w3 := Below.grown (HB.out.alloc hsB _) hgrow (by simp; omega) (fun j hj => Nat.le_trans HWS.out (HO.out.lt j hj).1)
          have el : (xs).map (Value.int .u8) ++ [Value.int .u8 0] = ((xs) ++ [0]).map (Value.int .u8) := by rw [List.map_append]; rfl
          rw [el] at hown3
          have hH3 := held_of_own hown3 (HYB.out.append (fun z hz => by simp at hz; subst hz; omega)) (by rw [List.length_append, HYL.out]; rfl)
          have hfe : sumv ((xs) ++ [0]) seed = S := by rw [sum_zero_behind HYB.out (by rw [HYL.out]; exact HP1.out), HYS.out]
          have HFE := Lib.hid hfe
          have hlf : ((xs) ++ [0]).length ≤ 281474976710656 := by rw [List.length_append, HYL.out]; simp; have := HL.out; omega
          have HLF := Lib.hid hlf
          clear hown3 hgrow el hfe hnw hon hm3 hm4 hm5 hlf
          go_wp2_with fail
          refine (sum_of _ _ HLF.out seed _ hH3).mono ?_
          rintro e w4 ⟨rfl, rfl⟩
          rw [HFE.out]
          go_wp2
          go_ret
          exact ⟨rfl, hB3⟩

      · have hq1 : (0 : Int) < q := by omega
        obtain ⟨g, c2, rfl⟩ : ∃ g c2, v' = .slice (some ⟨g, 0, none⟩) k c2 := by
          rcases hown.2 with ⟨rfl, h0⟩ | ⟨g, c2, cur, rfl, _⟩
          · have := HQ.out; omega
          · exact ⟨_, _, rfl⟩
        have HO := Lib.hid hown
        clear hown
        go_wp2_with fail
        refine (place_of x q (by omega) (by have := HQ.out; have := HL.out; omega) _).mono ?_
        rintro e w' ⟨⟨p, hp, rfl⟩, rfl⟩
        go_wp2_with fail
        refine (place_of y q (by omega) (by have := HQ.out; have := HL.out; omega) _).mono ?_
        rintro e w' ⟨⟨r, hr, rfl⟩, rfl⟩
        clear t1 t2
        have hp2 : 2 * p + 1 < k := by have := HQ.out; omega
        have hr2 : 2 * r + 1 < k := by have := HQ.out; omega
        have p0 : (0 : Int) ≤ 2 * (p : Int) := by omega
        have r0 : (0 : Int) ≤ 2 * (r : Int) := by omega
        have p1 : (0 : Int) ≤ 2 * (p : Int) + 1 := by omega
        have r1 : (0 : Int) ≤ 2 * (r : Int) + 1 := by omega
        have p2 : 2 * (p : Int) < k := by omega
        have r2 : 2 * (r : Int) < k := by omega
        have p3 : 2 * (p : Int) + 1 < k := by omega
        have r3 : 2 * (r : Int) + 1 < k := by omega
        have p4 : (2 * (p : Int)).toNat = 2 * p := by omega
        have r4 : (2 * (r : Int)).toNat = 2 * r := by omega
        have p5 : (2 * (p : Int) + 1).toNat = 2 * p + 1 := by omega
        have r5 : (2 * (r : Int) + 1).toNat = 2 * r + 1 := by omega
        have hone := HWS2.out
        obtain ⟨b0, hb0⟩ : ∃ b, b = xs.getD (2 * p) 0 := ⟨_, rfl⟩
        obtain ⟨b1, hb1⟩ : ∃ b, b = xs.getD (2 * p + 1) 0 := ⟨_, rfl⟩
        obtain ⟨d0, hd0⟩ : ∃ b, b = xs.getD (2 * r) 0 := ⟨_, rfl⟩
        obtain ⟨d1, hd1⟩ : ∃ b, b = xs.getD (2 * r + 1) 0 := ⟨_, rfl⟩
        have hsq := swapw_eq xs p r b0 b1 d0 d1 hb0 hb1 hd0 hd1
        have c0 := own_byte HO.out (2 * p) (by omega)
        have e0 := own_byte HO.out (2 * r) (by omega)
        rw [← hb0] at c0
        rw [← hd0] at e0
        have fz := own_free HO.out
        have f0 := fz (2 * p)
        have f1 := fz (2 * r)
        have HSQ := Lib.hid hsq
        have HB1 := Lib.hid hb1
        have HD1 := Lib.hid hd1
        have HB0 := Lib.hid hb0
        have HD0 := Lib.hid hd0
        have hpr2 := HSW.out p r (by rw [← HN.out]; omega) (by rw [← HN.out]; omega)
        have HPR := Lib.hid hpr2
        have HP2 := Lib.hid hp2
        have HR2 := Lib.hid hr2
        clear hsq hb1 hd1 hb0 hd0 fz hpr2 hp2 hr2
        by_cases hpr : p = r
        · subst hpr
          have hbd : d0 = b0 := by rw [HD0.out, HB0.out]
          have hbd1 : d1 = b1 := by rw [HD1.out, HB1.out]
          subst hbd hbd1
          go_wp2
          go_region
          have hg0 : w.heap.size ≤ g := Nat.le_trans HWS.out (HO.out.lt g rfl).1
          have hO3 : ((w2.setCell ⟨g, 2 * p, none⟩ (.int .u8 d0)).setCell ⟨g, 2 * p, none⟩ (.int .u8 d0)).drew.ownsRow wr.heap.size 5 1 (.slice (some ⟨g, 0, none⟩) k c2) k (((xs.set (2 * p) d0).set (2 * p) d0).map (Value.int .u8)) :=
            own_set (own_set HO.out (2 * p) d0 (by have := HP2.out; omega)) (2 * p) d0 (by have := HR2.out; have := HP2.out; omega)
          have hB3 : Below w.heap.size w ((w2.setCell ⟨g, 2 * p, none⟩ (.int .u8 d0)).setCell ⟨g, 2 * p, none⟩ (.int .u8 d0)).drew := ((HB.out.setCell hg0 _).setCell hg0 _).drew
          generalize ((w2.setCell ⟨g, 2 * p, none⟩ (.int .u8 d0)).setCell ⟨g, 2 * p, none⟩ (.int .u8 d0)).drew = w3 at hO3 hB3 ⊢
          have hlx : ∀ t, t < k → t < xs.length := fun t ht => by rw [← HN.out]; exact ht
          have c0 := own_byte hO3 (2 * p + 1) HP2.out
          have e0 := own_byte hO3 (2 * p + 1) (by have := HR2.out; have := HP2.out; omega)
          rw [getD_set _ _ _ _ (by rw [List.length_set]; exact hlx _ (by have := HR2.out; have := HP2.out; omega)), getD_set _ _ _ _ (hlx _ (by have := HP2.out; omega)), if_neg (by omega), if_neg (by omega)] at c0 e0
          rw [← HD1.out] at c0
          rw [← HD1.out] at e0
          have f0 := own_free hO3 (2 * p + 1)
          have f1 := own_free hO3 (2 * p + 1)
          have HO3 := Lib.hid hO3
          have HB3 := Lib.hid hB3
          clear hO3 hB3 hlx
          go_wp2
          go_region
          have hO4 : ((w3.setCell ⟨g, 2 * p + 1, none⟩ (.int .u8 d1)).setCell ⟨g, 2 * p + 1, none⟩ (.int .u8 d1)).drew.ownsRow wr.heap.size 5 1 (.slice (some ⟨g, 0, none⟩) k c2) k (((((xs.set (2 * p) d0).set (2 * p) d0).set (2 * p + 1) d1).set (2 * p + 1) d1).map (Value.int .u8)) :=
            own_set (own_set HO3.out (2 * p + 1) d1 HP2.out) (2 * p + 1) d1 (by have := HR2.out; have := HP2.out; omega)
          rw [HSQ.out] at hO4
          have hB4 : Below w.heap.size w ((w3.setCell ⟨g, 2 * p + 1, none⟩ (.int .u8 d1)).setCell ⟨g, 2 * p + 1, none⟩ (.int .u8 d1)).drew := ((HB3.out.setCell hg0 _).setCell hg0 _).drew
          have hz4 : wr.heap.size ≤ ((w3.setCell ⟨g, 2 * p + 1, none⟩ (.int .u8 d1)).setCell ⟨g, 2 * p + 1, none⟩ (.int .u8 d1)).drew.heap.size := Nat.le_of_lt (Nat.lt_of_le_of_lt (hO4.lt g rfl).1 (hO4.lt g rfl).2)
          generalize ((w3.setCell ⟨g, 2 * p + 1, none⟩ (.int .u8 d1)).setCell ⟨g, 2 * p + 1, none⟩ (.int .u8 d1)).drew = w4 at hO4 hB4 hz4 ⊢
          have HO := Lib.hid hO4
          have HB := Lib.hid hB4
          have HWS2 := Lib.hid hz4
          have HYB := Lib.hid (swapw_bytes HX.out p p)
          have HYL := Lib.hid (show (swapw xs p p).length = k by rw [swapw_length, HN.out])
          have HYS := Lib.hid (show sumv (swapw xs p p) seed = S by rw [HPR.out, HS.out])
          clear hO4 hB4 hz4 c0 e0 f0 f1 p0 r0 p1 r1 p2 r2 p3 r3 p4 r4 p5 r5
          go_wp2_with fail
          refine (sum_of _ (swapw xs p p) (by have := HYL.out; have := HL.out; omega) seed _ (held_of_own HO.out HYB.out HYL.out.symm)).mono ?_
          rintro e w' ⟨rfl, rfl⟩
          rw [HYS.out]
          have hss : (S == S) = true := by simp
          by_cases hpar : k % 2 = 0
          · have m1 : (k : Int).tmod 2 = 0 := by
              rw [Int.tmod_eq_emod_of_nonneg (by omega)]; omega
            have m2 : (k : Int) % 2 = 0 := by omega
            go_wp2
            go_ret
            exact ⟨rfl, HB.out⟩
          · have m1 : (k : Int).tmod 2 = 1 := by
              rw [Int.tmod_eq_emod_of_nonneg (by omega)]; omega
            have m2 : (k : Int) % 2 = 1 := by omega
            have HP1 := Lib.hid (show k % 2 = 1 by omega)
            clear hpar
            obtain ⟨i0, hi0, hz0, hz1, hz2⟩ := info_parts info_u8
            have hsB := HB.out.size
            have hnw : ∀ (j : Nat) (u : Value), [Value.int .u8 0][j]? = some u → (w4.alloc (.cells #[Value.int .u8 0] 5)).cell? ((⟨w4.heap.size, 0, none⟩ : Addr).add j) = some u := bytes_new_news w4 [0] _
            have hon : ∀ u ∈ [Value.int .u8 0], u.oneCell' = true := bytes_one [0]
            have hm3 : k + 1 ≤ maxLen := by have := HL.out; unfold maxLen; omega
            have hm4 : (k + 1) * 1 ≤ 140737488355328 := by have := HL.out; omega
            have hm5 : wr.heap.size ≤ (w4.alloc (.cells #[Value.int .u8 0] 5)).heap.size := by have := HWS2.out; simp; omega
            go_wp2_with (at_builtin; refine BigFrame.wpList_want (by first | rfl | kernel_rfl) fun K hK => ?_; refine wp_append_own _ (.tmp 111) (.tmp 112) 27 rfl wr.heap.size 5 i0 (.int .u8 0) 1 1 Try.underlying27 hi0 hz0 hz1 hz2 rfl (by decide) _ k _ rfl (HO.out.alloc _) ⟨w4.heap.size, 0, none⟩ 1 1 [.int .u8 0] rfl rfl hnw hon hm3 hm4 hm5 ?_; intro v3 w3 hown3 hgrow _; refine hK _ _ ?_; clear hK)
            have hB3 : Below w.heap.size w w3 := Below.grown (HB.out.alloc hsB _) hgrow (by simp; omega) (fun j hj => Nat.le_trans HWS.out (HO.out.lt j hj).1)
            have el : (swapw xs p p).map (Value.int .u8) ++ [Value.int .u8 0] = ((swapw xs p p) ++ [0]).map (Value.int .u8) := by rw [List.map_append]; rfl
            rw [el] at hown3
            have hH3 := held_of_own hown3 (HYB.out.append (fun z hz => by simp at hz; subst hz; omega)) (by rw [List.length_append, HYL.out]; rfl)
            have hfe : sumv ((swapw xs p p) ++ [0]) seed = S := by rw [sum_zero_behind HYB.out (by rw [HYL.out]; exact HP1.out), HYS.out]
            have HFE := Lib.hid hfe
            have hlf : ((swapw xs p p) ++ [0]).length ≤ 281474976710656 := by rw [List.length_append, HYL.out]; simp; have := HL.out; omega
            have HLF := Lib.hid hlf
            clear hown3 hgrow el hfe hnw hon hm3 hm4 hm5 hlf
            go_wp2_with fail
            refine (sum_of _ _ HLF.out seed _ hH3).mono ?_
            rintro e w4 ⟨rfl, rfl⟩
            rw [HFE.out]
            go_wp2
            go_ret
            exact ⟨rfl, hB3⟩

        · have n1 : ¬ (2 * p = 2 * r) := by omega
          have n2 : ¬ (2 * r = 2 * p) := by omega
          have n3 : ¬ (2 * p + 1 = 2 * r + 1) := by omega
          have n4 : ¬ (2 * r + 1 = 2 * p + 1) := by omega
          go_wp2
          go_region
          have hg0 : w.heap.size ≤ g := Nat.le_trans HWS.out (HO.out.lt g rfl).1
          have hO3 : ((w2.setCell ⟨g, 2 * p, none⟩ (.int .u8 d0)).setCell ⟨g, 2 * r, none⟩ (.int .u8 b0)).drew.ownsRow wr.heap.size 5 1 (.slice (some ⟨g, 0, none⟩) k c2) k (((xs.set (2 * p) d0).set (2 * r) b0).map (Value.int .u8)) :=
            own_set (own_set HO.out (2 * p) d0 (by have := HP2.out; omega)) (2 * r) b0 (by have := HR2.out; have := HP2.out; omega)
          have hB3 : Below w.heap.size w ((w2.setCell ⟨g, 2 * p, none⟩ (.int .u8 d0)).setCell ⟨g, 2 * r, none⟩ (.int .u8 b0)).drew := ((HB.out.setCell hg0 _).setCell hg0 _).drew
          generalize ((w2.setCell ⟨g, 2 * p, none⟩ (.int .u8 d0)).setCell ⟨g, 2 * r, none⟩ (.int .u8 b0)).drew = w3 at hO3 hB3 ⊢
          have hlx : ∀ t, t < k → t < xs.length := fun t ht => by rw [← HN.out]; exact ht
          have c0 := own_byte hO3 (2 * p + 1) HP2.out
          have e0 := own_byte hO3 (2 * r + 1) (by have := HR2.out; have := HP2.out; omega)
          rw [getD_set _ _ _ _ (by rw [List.length_set]; exact hlx _ (by have := HR2.out; have := HP2.out; omega)), getD_set _ _ _ _ (hlx _ (by have := HP2.out; omega)), if_neg (by omega), if_neg (by omega)] at c0 e0
          rw [← HB1.out] at c0
          rw [← HD1.out] at e0
          have f0 := own_free hO3 (2 * p + 1)
          have f1 := own_free hO3 (2 * r + 1)
          have HO3 := Lib.hid hO3
          have HB3 := Lib.hid hB3
          clear hO3 hB3 hlx
          go_wp2
          go_region
          have hO4 : ((w3.setCell ⟨g, 2 * p + 1, none⟩ (.int .u8 d1)).setCell ⟨g, 2 * r + 1, none⟩ (.int .u8 b1)).drew.ownsRow wr.heap.size 5 1 (.slice (some ⟨g, 0, none⟩) k c2) k (((((xs.set (2 * p) d0).set (2 * r) b0).set (2 * p + 1) d1).set (2 * r + 1) b1).map (Value.int .u8)) :=
            own_set (own_set HO3.out (2 * p + 1) d1 HP2.out) (2 * r + 1) b1 (by have := HR2.out; have := HP2.out; omega)
          rw [HSQ.out] at hO4
          have hB4 : Below w.heap.size w ((w3.setCell ⟨g, 2 * p + 1, none⟩ (.int .u8 d1)).setCell ⟨g, 2 * r + 1, none⟩ (.int .u8 b1)).drew := ((HB3.out.setCell hg0 _).setCell hg0 _).drew
          have hz4 : wr.heap.size ≤ ((w3.setCell ⟨g, 2 * p + 1, none⟩ (.int .u8 d1)).setCell ⟨g, 2 * r + 1, none⟩ (.int .u8 b1)).drew.heap.size := Nat.le_of_lt (Nat.lt_of_le_of_lt (hO4.lt g rfl).1 (hO4.lt g rfl).2)
          generalize ((w3.setCell ⟨g, 2 * p + 1, none⟩ (.int .u8 d1)).setCell ⟨g, 2 * r + 1, none⟩ (.int .u8 b1)).drew = w4 at hO4 hB4 hz4 ⊢
          have HO := Lib.hid hO4
          have HB := Lib.hid hB4
          have HWS2 := Lib.hid hz4
          have HYB := Lib.hid (swapw_bytes HX.out p r)
          have HYL := Lib.hid (show (swapw xs p r).length = k by rw [swapw_length, HN.out])
          have HYS := Lib.hid (show sumv (swapw xs p r) seed = S by rw [HPR.out, HS.out])
          clear hO4 hB4 hz4 c0 e0 f0 f1 p0 r0 p1 r1 p2 r2 p3 r3 p4 r4 p5 r5
          go_wp2_with fail
          refine (sum_of _ (swapw xs p r) (by have := HYL.out; have := HL.out; omega) seed _ (held_of_own HO.out HYB.out HYL.out.symm)).mono ?_
          rintro e w' ⟨rfl, rfl⟩
          rw [HYS.out]
          have hss : (S == S) = true := by simp
          by_cases hpar : k % 2 = 0
          · have m1 : (k : Int).tmod 2 = 0 := by
              rw [Int.tmod_eq_emod_of_nonneg (by omega)]; omega
            have m2 : (k : Int) % 2 = 0 := by omega
            go_wp2
            go_ret
            exact ⟨rfl, HB.out⟩
          · have m1 : (k : Int).tmod 2 = 1 := by
              rw [Int.tmod_eq_emod_of_nonneg (by omega)]; omega
            have m2 : (k : Int) % 2 = 1 := by omega
            have HP1 := Lib.hid (show k % 2 = 1 by omega)
            clear hpar
            obtain ⟨i0, hi0, hz0, hz1, hz2⟩ := info_parts info_u8
            have hsB := HB.out.size
            have hnw : ∀ (j : Nat) (u : Value), [Value.int .u8 0][j]? = some u → (w4.alloc (.cells #[Value.int .u8 0] 5)).cell? ((⟨w4.heap.size, 0, none⟩ : Addr).add j) = some u := bytes_new_news w4 [0] _
            have hon : ∀ u ∈ [Value.int .u8 0], u.oneCell' = true := bytes_one [0]
            have hm3 : k + 1 ≤ maxLen := by have := HL.out; unfold maxLen; omega
            have hm4 : (k + 1) * 1 ≤ 140737488355328 := by have := HL.out; omega
            have hm5 : wr.heap.size ≤ (w4.alloc (.cells #[Value.int .u8 0] 5)).heap.size := by have := HWS2.out; simp; omega
            go_wp2_with (at_builtin; refine BigFrame.wpList_want (by first | rfl | kernel_rfl) fun K hK => ?_; refine wp_append_own _ (.tmp 111) (.tmp 112) 27 rfl wr.heap.size 5 i0 (.int .u8 0) 1 1 Try.underlying27 hi0 hz0 hz1 hz2 rfl (by decide) _ k _ rfl (HO.out.alloc _) ⟨w4.heap.size, 0, none⟩ 1 1 [.int .u8 0] rfl rfl hnw hon hm3 hm4 hm5 ?_; intro v3 w3 hown3 hgrow _; refine hK _ _ ?_; clear hK)
            have hB3 : Below w.heap.size w w3 := Below.grown (HB.out.alloc hsB _) hgrow (by simp; omega) (fun j hj => Nat.le_trans HWS.out (HO.out.lt j hj).1)
            have el : (swapw xs p r).map (Value.int .u8) ++ [Value.int .u8 0] = ((swapw xs p r) ++ [0]).map (Value.int .u8) := by rw [List.map_append]; rfl
            rw [el] at hown3
            have hH3 := held_of_own hown3 (HYB.out.append (fun z hz => by simp at hz; subst hz; omega)) (by rw [List.length_append, HYL.out]; rfl)
            have hfe : sumv ((swapw xs p r) ++ [0]) seed = S := by rw [sum_zero_behind HYB.out (by rw [HYL.out]; exact HP1.out), HYS.out]
            have HFE := Lib.hid hfe
            have hlf : ((swapw xs p r) ++ [0]).length ≤ 281474976710656 := by rw [List.length_append, HYL.out]; simp; have := HL.out; omega
            have HLF := Lib.hid hlf
            clear hown3 hgrow el hfe hnw hon hm3 hm4 hm5 hlf
            go_wp2_with fail
            refine (sum_of _ _ HLF.out seed _ hH3).mono ?_
            rintro e w4 ⟨rfl, rfl⟩
            rw [HFE.out]
            go_wp2
            go_ret
            exact ⟨rfl, hB3⟩



theorem own : ownKnob Try.prog.godebug = none := by kernel_rfl
set_option maxRecDepth 100000 in
theorem lifted (os : Os) (started : os.Started) (H : Type) (enc : TypeId × Value → H) :
    ReturnsInHanded {} Try.checked os 7 .any (Rows.helpWordsSpec.pre6 enc Try.prog Try.f7 Rows.helpWordsRow.domain false) (Rows.helpWordsSpec.post enc Try.prog Try.f7 false true false false) := by
  refine returnsInHanded_of_change_sized (C := Try.checked) own started (by kernel_rfl) Try.func7
    (ChangeSpec.witness6 (enc := enc) (C := Try.checked) false ⟨#[], #[.slice none 0 0, .int .i64 0, .int .i64 0, .int .i64 0], []⟩ 8 (by kernel_rfl) (by kernel_rfl) (by kernel_rfl) (by kernel_rfl)) ?_
  intro W base args ds gs before hval0 hW hcnd hsz0 _
  have hsz : (DataW.weightsEach Try.prog (Try.f7.params.toList ++ Rows.helpWordsSpec.plain.varTypes Try.prog) (ds ++ gs)).all (· ≤ reachBytes) = true := hsz0
  have hval : ∀ (j : Nat) t v, Try.f7.params[j]? = some t → args[j]? = some v → Value.okWide Try.prog W .any base t v := hval0
  have hW' := hW
  obtain ⟨p, q, hA0, hV, rfl, hfz, hnd⟩ := hW
  have hA : DataW.TrodAll enc Try.prog W 0 (fun _ => true) true Try.f7.params.toList args.toList ds p := hA0
  rw [Try.params7] at hA hval hsz
  obtain ⟨v0, vs0, d0, ds0, p0, q0, hargs, rfl, rfl, h0, r0⟩ := trodAll_cons hA
  obtain ⟨v1, vs1, d1, ds1, p1, q1, rfl, rfl, rfl, h1, r1⟩ := trodAll_cons r0
  obtain ⟨v2, vs2, d2, ds2, p2, q2, rfl, rfl, rfl, h2, r2⟩ := trodAll_cons r1
  obtain ⟨v3, vs3, d3, ds3, p3, q3, rfl, rfl, rfl, h3, r3⟩ := trodAll_cons r2
  obtain ⟨rfl, rfl, rfl⟩ := trodAll_nil r3
  obtain rfl : args = #[v0, v1, v2, v3] := by cases args; simp_all
  obtain ⟨xs0, hX0, hd0⟩ := bytes_arg (hval 0 27 v0 rfl rfl) h0
  have hl0 : xs0.length ≤ 140737488351232 := by
    rcases hd0 with rfl | ⟨spare, rfl⟩
    · simp
    · have := sized_slice hsz (j := 0) (t := 27) (e := 5) rfl rfl Try.underlying27
      rw [show Try.prog.bytesOf 5 = 1 by kernel_rfl] at this
      simp only [lits, List.length_map, reachBytes] at this
      omega
  obtain ⟨a1, rfl, rfl, rfl, w1⟩ := open_int Try.underlying3 (hval 1 3 v1 rfl rfl) h1
  obtain ⟨a2, rfl, rfl, rfl, w2⟩ := open_int Try.underlying3 (hval 2 3 v2 rfl rfl) h2
  obtain ⟨a3, rfl, rfl, rfl, w3⟩ := open_int Try.underlying3 (hval 3 3 v3 rfl rfl) h3
  refine (walk v0 xs0 (Nat.le_trans hl0 (by decide)) a1 (range_i64 w1) a2 (range_i64 w2) a3 (range_i64 w3) W hX0).mono fun e W' ⟨he, hb⟩ => ?_
  subst he
  exact ⟨_, rfl, law_post (tb := 4) (by kernel_rfl) (by kernel_rfl) rfl Try.underlying4 rfl (fun h => by subst h; rfl) hW' hb⟩

theorem proved : Rows.HelpWordsSaid :=
  OpenClaim.holds_of_wide 7 Try.f7 rfl rfl rfl rfl rfl rfl rfl ⟨rfl, rfl, rfl, rfl, rfl⟩ rfl rfl rfl rfl rfl (by kernel_rfl) Try.func7 (by kernel_rfl)
    (of_decide_eq_true (by kernel_rfl)) (by unfold Func.isWrapper; first | (rw [if_pos (by decide +kernel)]; kernel_rfl) | (rw [if_neg (by decide +kernel)]; exact ⟨rfl, rfl⟩))
    (fun os started H enc _ => lifted os started H enc)
#print axioms proved

end Go.Proofs.Ytcjomhmpebhhlaa.helpWords
