/-
  The reference's rows of bits: quotient and rest.
-/
import Derived.Test.YtbkcpepalicbjaaGreatRefB
namespace Go.Proofs.YtbkcpepalicbjaaGreat
open Go.RowKit
set_option linter.unusedVariables false

theorem ints_get {n : Nat} (g : Nat → Int) {j : Nat} {u : Value} (h : (itab n g)[j]? = some u) : j < n ∧ u = .int .i64 (g j) := by
  by_cases hj : j < n
  · rw [itab_get g hj] at h
    exact ⟨hj, (Option.some.inj h).symm⟩
  · rw [List.getElem?_eq_none (by rw [itab_length]; omega)] at h
    cases h
theorem addr_add (b o j : Nat) : (⟨b, o, none⟩ : Addr).add j = ⟨b, o + j, none⟩ := by
  unfold Addr.add; split
  · subst_vars; rfl
  · rfl
theorem Bits.news {w : World} {b o n x : Nat} (h : Bits w b o n x) : ∀ j u, (itab n (bit x))[j]? = some u → w.cell? ((⟨b, o, none⟩ : Addr).add j) = some u := by
  intro j u hu
  obtain ⟨hj, rfl⟩ := ints_get _ hu
  rw [addr_add]; exact h.2 j hj
theorem ints_one {n : Nat} (g : Nat → Int) : ∀ u ∈ itab n g, u.oneCell' = true := by
  intro u hu
  simp only [itab, List.mem_map] at hu
  obtain ⟨i, _, rfl⟩ := hu
  rfl
theorem own_bits {w : World} {base n x : Nat} {v : Value} {xs : List Value} (h : w.ownsRow base 3 1 v n xs) (hn : 0 < n) (hx : xs = itab n (bit x)) :
    ∃ g cap, v = .slice (some ⟨g, 0, none⟩) n cap ∧ base ≤ g ∧ Bits w g 0 n x := by
  obtain ⟨hlen, h⟩ := h
  rcases h with ⟨_, h0⟩ | ⟨g, cap, cur, rfl, hb, hg, h1, h2, h3, h4⟩
  · omega
  · refine ⟨g, cap, rfl, hb, lt_of_block hg, fun i hi => ?_⟩
    rw [Nat.zero_add, cell_of_row w g i cur 3 (0, 0) hg]
    have : (cur.toList.take (n * 1))[i]? = xs[i]? := by rw [h4]
    rw [hx, itab_get _ hi, List.getElem?_take, if_pos (by omega)] at this
    simpa using this
theorem info_int : (Tryz.prog.info? 3).map (fun i => (i.zero, i.size, i.bytes)) = some (some (.int .i64 0), 1, 8) := by kernel_rfl

theorem wide_bits (n y : Nat) (hy : y < 2 ^ n) : itab n (bit y) ++ [Value.int .i64 0] = itab (n + 1) (bit y) := by
  unfold itab
  rw [List.range_succ, List.map_append]
  simp only [List.map_cons, List.map_nil, bit, top_zero hy]; rfl

theorem div_less (x y j : Nat) (hy0 : y ≠ 0) (h : x / 2 ^ (j + 1) % y * 2 + x / 2 ^ j % 2 < y) :
    x / 2 ^ j % y = x / 2 ^ (j + 1) % y * 2 + x / 2 ^ j % 2 ∧ bit (x / y) j = 0 := by
  have e := top_step x j
  have d := Nat.div_add_mod (x / 2 ^ (j + 1)) y
  have e2 : x / 2 ^ j = (x / 2 ^ (j + 1) % y * 2 + x / 2 ^ j % 2) + y * (2 * (x / 2 ^ (j + 1) / y)) := by
    rw [Nat.mul_left_comm]; omega
  constructor
  · conv => lhs; rw [e2]
    rw [Nat.add_mul_mod_self_left, Nat.mod_eq_of_lt h]
  · unfold bit
    rw [Nat.div_div_eq_div_mul, Nat.mul_comm y, ← Nat.div_div_eq_div_mul]
    conv => lhs; rw [e2]
    rw [Nat.add_mul_div_left _ _ (by omega), Nat.div_eq_of_lt h]
    omega
theorem div_more (x y j : Nat) (hy0 : y ≠ 0) (h : ¬ x / 2 ^ (j + 1) % y * 2 + x / 2 ^ j % 2 < y) :
    x / 2 ^ j % y = x / 2 ^ (j + 1) % y * 2 + x / 2 ^ j % 2 - y ∧ bit (x / y) j = 1 := by
  have e := top_step x j
  have d := Nat.div_add_mod (x / 2 ^ (j + 1)) y
  have l := Nat.mod_lt (x / 2 ^ (j + 1)) (show 0 < y by omega)
  have e2 : x / 2 ^ j = (x / 2 ^ (j + 1) % y * 2 + x / 2 ^ j % 2 - y) + y * (2 * (x / 2 ^ (j + 1) / y) + 1) := by
    rw [Nat.mul_add, Nat.mul_left_comm]; omega
  have h2 : x / 2 ^ (j + 1) % y * 2 + x / 2 ^ j % 2 - y < y := by omega
  constructor
  · conv => lhs; rw [e2]
    rw [Nat.add_mul_mod_self_left, Nat.mod_eq_of_lt h2]
  · unfold bit
    rw [Nat.div_div_eq_div_mul, Nat.mul_comm y, ← Nat.div_div_eq_div_mul]
    conv => lhs; rw [e2]
    rw [Nat.add_mul_div_left _ _ (by omega), Nat.div_eq_of_lt h2]
    omega
/-- A bit laid in at the lowest place. -/
theorem low_in (r x j n : Nat) : (itab n (bit (r * 2 ^ 1))).set 0 (.int .i64 (bit x j)) = itab n (bit (r * 2 + x / 2 ^ j % 2)) := by
  rw [itab_set]
  refine itab_congr fun t _ => ?_
  cases t with
  | zero => simp [bit]
  | succ t =>
    simp only [Nat.succ_ne_zero, if_false]
    unfold bit
    have e : 2 ^ (t + 1) = 2 * 2 ^ t := by rw [Nat.pow_succ']
    rw [e, ← Nat.div_div_eq_div_mul, ← Nat.div_div_eq_div_mul]
    congr 3
    omega
/-- The rest less the divisor. -/
theorem sub_bits (a y n i : Nat) (h : i < n) (hle : y ≤ a) (hy : y < 2 ^ n) : bit (a + (2 ^ n - 1 - y % 2 ^ n) + 1) i = bit (a - y) i := by
  have e : a + (2 ^ n - 1 - y % 2 ^ n) + 1 = (a - y) + 2 ^ n * 1 := by
    rw [Nat.mod_eq_of_lt hy]; omega
  refine bit_of_mod_eq h ?_
  rw [e, Nat.add_mul_mod_self_left]

set_option maxHeartbeats 1600000 in
theorem divided_any (b1 b2 o1 o2 n c1 c2 x y : Nat) (hn0 : 0 < n) (hn : n ≤ 64) (hx : x < 2 ^ n) (hy : y < 2 ^ n) (hy0 : y ≠ 0) (w : World) (h1 : Bits w b1 o1 n x) (h2 : Bits w b2 o2 n y) :
    Calls Tryz.prog 228 #[.slice (some ⟨b1, o1, none⟩) n c1, .slice (some ⟨b2, o2, none⟩) n c2] w fun e w' =>
      ∃ q r cr, e = .returned (.tuple #[.slice (some ⟨q, 0, none⟩) n n, .slice (some ⟨r, 0, none⟩) n cr]) ∧ Bits w' q 0 n (x / y) ∧ Bits w' r 0 n (x % y) ∧ Below w.heap.size w w' ∧ w.heap.size ≤ q ∧ w.heap.size ≤ r := by
  have hmk := make_ints n (by omega)
  have hmk1 := make_ints' (n + 1) ((n : Int) + 1) (by omega) (by omega)
  obtain ⟨i0, hi, hz0, hz1, hz2⟩ := info_parts info_int
  go_enter Tryz.func228, Tryz.ntmps228
  go_wp2_with (first
    | (at_builtin; refine wpList_append_own _ rfl (.tmp 10) (.tmp 11) 29 rfl w.heap.size 3 i0 (.int .i64 0) 1 8 Tryz.underlying29 hi hz0 hz1 hz2 rfl (by decide) (.slice (some ⟨w.heap.size, 0, none⟩) 0 0) 0 [] rfl (World.ownsRow_made w #[] 0 (Nat.le_refl _) (by decide) rfl) ⟨b2, o2, none⟩ n c2 (itab n (bit y)) rfl (by rw [itab_length]; omega) (h2.below ((Below.refl _ _).alloc (Nat.le_refl _) _) h2.1).news (ints_one _) (by unfold maxLen; omega) (by omega) (by simp) ?_; intro v1 w1 hown1 hgrow1 _; have hB1 : Below w.heap.size w w1 := Below.grown ((Below.refl _ _).alloc (Nat.le_refl _) _) hgrow1 (by simp) (by intro k hk; simp [Value.ownBlock] at hk; omega); clear hgrow1)
    | (at_builtin; refine wpList_append_own _ rfl (.tmp 12) (.tmp 13) 29 rfl w.heap.size 3 i0 (.int .i64 0) 1 8 Tryz.underlying29 hi hz0 hz1 hz2 rfl (by decide) v1 (0 + n) ([] ++ itab n (bit y)) rfl (hown1.alloc _) ⟨w1.heap.size, 0, none⟩ 1 1 [.int .i64 0] rfl rfl (cell_one_new _ _ _) (by simp; rfl) (by unfold maxLen; omega) (by omega) (by have := hB1.size; simp; omega) ?_; intro v2 w2 hown2 hgrow2 _; have hB2 : Below w.heap.size w w2 := Below.grown (hB1.alloc hB1.size _) hgrow2 (by have := hB1.size; simp; omega) (fun k hk => (hown1.lt k hk).1); clear hgrow2; obtain ⟨g, cap, hv2, hg, hb2⟩ := own_bits hown2 (Nat.succ_pos _) (by rw [List.nil_append, wide_bits n y hy, Nat.zero_add]); clear hown2 hown1; rw [Nat.zero_add] at hv2 hb2; subst hv2))
  have hs2 := hB2.size
  have hgl := hb2.1
  obtain ⟨bq, hbq⟩ : ∃ k, k = w2.heap.size + 1 := ⟨_, rfl⟩
  have HQ := Lib.hid hbq
  rw [← hbq]
  go_loopw [7, 9] (fun r s wr => ∃ j br : Nat, j ≤ n ∧ s = .int .i64 ((j : Int) - 1) ∧ r = .slice (some ⟨br, 0, none⟩) (n + 1) (n + 1) ∧
      w.heap.size ≤ br ∧ br ≠ bq ∧ Row wr br 3 (itab (n + 1) (bit (x / 2 ^ j % y))) ∧ Row wr bq 3 (itab n fun t => if j ≤ t then bit (x / y) t else 0) ∧ Bits wr g 0 (n + 1) y ∧ Below w.heap.size w wr)
    (fun _ s _ => (intOf s + 1).toNat)
  case atStart =>
    refine ⟨n, w2.heap.size, Nat.le_refl _, by go_num, rfl, hs2, by omega, ?_, ?_, ?_, ?_⟩
    · have e : itab (n + 1) (bit (x / 2 ^ n % y)) = itab (n + 1) fun _ => 0 := by rw [top_zero hx]; exact itab_congr fun t _ => by simp [bit]
      rw [e]; exact (Row.made w2 _ _).alloc _
    · have e : itab n (fun t => if n ≤ t then bit (x / y) t else 0) = itab n fun _ => 0 := itab_congr fun t ht => by rw [if_neg (by omega)]
      rw [e, hbq]
      have := Row.made (w2.alloc (.cells (itab (n + 1) fun _ => 0).toArray 3)) (itab n fun _ => 0) 3
      simpa using this
    · exact hb2.below (((Below.refl _ _).alloc (Nat.le_refl _) _).alloc (by simp) _) hgl
    · exact (hB2.alloc hs2 _).alloc (by simp; omega) _
  case round =>
    obtain ⟨j, br, hj, rfl, rfl, hbr, hne, hR, hQ, hG, hB⟩ := hrel
    clear hbq
    by_cases hlt : 0 < j
    · obtain ⟨j, rfl⟩ : ∃ m, j = m + 1 := ⟨j - 1, by omega⟩
      have e0 : ((j + 1 : Nat) : Int) - 1 = j := by omega
      rw [e0]
      clear e0
      have hql := hQ.lt
      have hrl := hR.lt
      have hs := hB.size
      go_wp2_with fail
      refine (up_any br 0 (n + 1) (n + 1) (x / 2 ^ (j + 1) % y) 1 _ rfl (by omega) (by omega) _ (Bits.row hR)).mono ?_
      rintro e w3 ⟨bu, rfl, hbu, hRu, hBu⟩
      have e1 := ((hB.trans (hBu.mono hs)).cell (p := ⟨b1, o1 + j, none⟩) h1.1).trans (h1.2 j (by omega))
      have e2 := (hRu.cell 0).trans (itab_get _ (Nat.succ_pos n))
      have hf := hRu.free 0
      have hR3 := hRu.put 0 (.int .i64 (bit x j))
      rw [low_in] at hR3
      have hG3 := hG.below hBu hG.1
      have hQ3 := (hQ.below hBu hql).other ⟨bu, 0, none⟩ (.int .i64 (bit x j)) (by show bq ≠ bu; omega)
      have hG4 : Bits (w3.setCell ⟨bu, 0, none⟩ (.int .i64 (bit x j))) g 0 (n + 1) y := hG3.other ⟨bu, 0, none⟩ _ (by have := hG.1; show g ≠ bu; omega)
      have hrm := Nat.mod_lt (x / 2 ^ (j + 1)) (show 0 < y by omega)
      have hb1 := Nat.mod_lt (x / 2 ^ j) (show 0 < 2 by omega)
      have h2n : 2 ^ (n + 1) = 2 * 2 ^ n := Nat.pow_succ'
      have HL := Lib.hid (show x / 2 ^ (j + 1) % y * 2 + x / 2 ^ j % 2 < 2 ^ (n + 1) by omega)
      have HY := Lib.hid (show y < 2 ^ (n + 1) by omega)
      have hs3 := hBu.size
      have hB3 : Below w.heap.size w (w3.setCell ⟨bu, 0, none⟩ (.int .i64 (bit x j))) := (hB.trans (hBu.mono hs)).setCell (by show w.heap.size ≤ bu; omega) _
      have hul := hR3.lt
      generalize hW4 : w3.setCell ⟨bu, 0, none⟩ (.int .i64 (bit x j)) = w4 at hR3 hQ3 hG4 hB3 hul
      clear h2n hrm hb1
      go_wp2_with fail
      clear hW4 hR hQ hG hB e1 e2 hf hRu hG3
      refine (less_any bu g 0 0 (n + 1) (n + 1) cap (x / 2 ^ (j + 1) % y * 2 + x / 2 ^ j % 2) y (by omega) HL.out HY.out _ (Bits.row hR3) hG4).mono ?_
      rintro e w5 ⟨rfl, k5, rfl⟩
      by_cases hless : x / 2 ^ (j + 1) % y * 2 + x / 2 ^ j % 2 < y
      · have hd : decide (x / 2 ^ (j + 1) % y * 2 + x / 2 ^ j % 2 < y) = true := by simpa using hless
        rw [hd]
        clear hd
        obtain ⟨d1, d2⟩ := div_less x y j hy0 hless
        have D1 := Lib.hid d1
        have D2 := Lib.hid d2
        clear d1 d2 hless
        go_wp2
        go_roundw
        case rel =>
          refine ⟨j, bu, by omega, by go_num, rfl, by omega, by omega, ?_, ?_, hG4, below_drewN hB3 _⟩
          · rw [D1.out]; exact hR3
          · have e : itab n (fun t => if j ≤ t then bit (x / y) t else 0) = itab n fun t => if j + 1 ≤ t then bit (x / y) t else 0 := by
              refine itab_congr fun t _ => ?_
              by_cases ht : t = j
              · subst ht; simp [D2.out]
              · have e2 : (j ≤ t) ↔ (j + 1 ≤ t) := by omega
                simp only [e2]
            rw [e]; exact hQ3
        case measure => simp [intOf]
      · have hd : decide (x / 2 ^ (j + 1) % y * 2 + x / 2 ^ j % 2 < y) = false := by simpa using hless
        rw [hd]
        clear hd
        obtain ⟨d1, d2⟩ := div_more x y j hy0 hless
        have D1 := Lib.hid d1
        have D2 := Lib.hid d2
        have HN := Lib.hid hless
        clear d1 d2 hless
        have hgl4 := hG4.1
        have hql4 := hQ3.lt
        go_wp2_with fail
        refine (not_any g 0 (n + 1) cap y (by omega) _ (show Bits (w4.drewN k5) g 0 (n + 1) y from hG4)).mono ?_
        rintro e w6 ⟨bn, rfl, hbn, hRn, hBn⟩
        go_wp2_with fail
        refine (plus_any bu bn 0 0 (n + 1) (n + 1) (n + 1) (n + 1) (x / 2 ^ (j + 1) % y * 2 + x / 2 ^ j % 2) (2 ^ (n + 1) - 1 - y % 2 ^ (n + 1)) 1 1 rfl (by omega) (Nat.le_refl _) (by omega) _ (Bits.row ((hR3.drewN k5).below hBn hul)) (Bits.row hRn)).mono ?_
        rintro e w7 ⟨bp, rfl, hbp, hRp, hBp⟩
        have hn1 := hBn.size
        have hn2 := hBp.size
        have h4s := hB3.size
        have hbn' : w4.heap.size ≤ bn := hbn
        have hn1' : w4.heap.size ≤ w6.heap.size := hn1
        have hQ7 : Row w7 bq 3 (itab n fun t => if j + 1 ≤ t then bit (x / y) t else 0) := ((hQ3.drewN k5).below hBn hql4).below hBp (by omega)
        have hG7 : Bits w7 g 0 (n + 1) y := (Bits.below (show Bits (w4.drewN k5) g 0 (n + 1) y from hG4) hBn hgl4).below hBp (by omega)
        have hc7 := (hQ7.cell j).trans (itab_get _ (by omega))
        have hf7 := hQ7.free j
        have hB7 : Below w.heap.size w w7 := (below_drewN hB3 k5).trans ((hBn.mono h4s).trans (hBp.mono (by omega)))
        clear hRn hR3 hQ3 hG4 hB3 hBn hBp
        go_wp2
        go_roundw
        case rel =>
          refine ⟨j, bp, by omega, by go_num, rfl, by omega, by omega, ?_, ?_, ?_, hB7.setCell (by have := HQ.out; show w.heap.size ≤ bq; omega) _⟩
          · have e : itab (n + 1) (bit (x / 2 ^ j % y)) = itab (n + 1) (bit (x / 2 ^ (j + 1) % y * 2 + x / 2 ^ j % 2 + (2 ^ (n + 1) - 1 - y % 2 ^ (n + 1)) + 1)) := by
              rw [D1.out]
              refine itab_congr fun t ht => ?_
              rw [sub_bits _ y (n + 1) t ht (by have := HN.out; omega) HY.out]
            rw [e]
            exact hRp.other ⟨bq, j, none⟩ _ (by show bp ≠ bq; omega)
          · have h := hQ7.put j (.int .i64 1)
            rw [itab_set] at h
            have e : itab n (fun t => if j ≤ t then bit (x / y) t else 0) = itab n fun t => if t = j then 1 else if j + 1 ≤ t then bit (x / y) t else 0 := by
              refine itab_congr fun t _ => ?_
              by_cases ht : t = j
              · subst ht; simp [D2.out]
              · have e2 : (j ≤ t) ↔ (j + 1 ≤ t) := by omega
                simp only [e2, ht, if_false]
            rw [e]; exact h
          · exact hG7.other ⟨bq, j, none⟩ _ (by have := HQ.out; show g ≠ bq; omega)
        case measure => simp [intOf]
    · obtain rfl : j = 0 := by omega
      have HB := Lib.hid hB
      go_wp2
      go_quiet (fail)
      go_wp2
      go_ret2
      refine ⟨bq, br, n + 1, rfl, ?_, ?_, below_drewN HB.out _, by have := HQ.out; omega, hbr⟩
      · have e : itab n (fun t => if 0 ≤ t then bit (x / y) t else 0) = itab n (bit (x / y)) := itab_congr fun t _ => if_pos (Nat.zero_le _)
        rw [e] at hQ
        exact Bits.row (e := 3) hQ
      · have h := Bits.row hR
        have e : x / 2 ^ 0 % y = x % y := by rw [Nat.pow_zero, Nat.div_one]
        rw [e] at h
        exact ⟨h.1, fun i hi => h.2 i (Nat.lt_succ_of_lt hi)⟩
end Go.Proofs.YtbkcpepalicbjaaGreat
