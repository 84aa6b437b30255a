/-
  WordHalves: what is narrow hangs on the low halves alone; no condition.
-/
import Derived.Test.YtcmpohippbjpcaaHalvesA
import Derived.Test.YtcmpohippbjpcaaHoldsA
import Derived.Test.YtcmpohippbjpcaaExtend
import Derived.OpenShut
import Derived.Lib.SmallJoins
import Derived.Deep.RegionHeld3
namespace Go.Proofs.Ytcmpohippbjpcaa.wordHalves
open Go.ChangeShapes Go.WideShapes Go.ChangeAt Go.RowKit Go.Joins
set_option linter.unusedVariables false

theorem half_holds (op a b c d : Int) (ra : -9223372036854775808 ≤ a ∧ a ≤ 9223372036854775807) (rb : -9223372036854775808 ≤ b ∧ b ≤ 9223372036854775807) (rc : -9223372036854775808 ≤ c ∧ c ≤ 9223372036854775807) (rd : -9223372036854775808 ≤ d ∧ d ≤ 9223372036854775807) (h : 27 ≤ op ∧ op ≤ 37) (ha : lowN 32 c = lowN 32 a) (hb : lowN 32 d = lowN 32 b) :
    ∃ v, Says 32 #[.int .i64 op, .bool true, .int .i64 a, .int .i64 b] v ∧ Says 32 #[.int .i64 op, .bool true, .int .i64 c, .int .i64 d] v := by
  have h' : op = 27 ∨ op = 28 ∨ op = 29 ∨ op = 30 ∨ op = 31 ∨ op = 32 ∨ op = 33 ∨ op = 34 ∨ op = 35 ∨ op = 36 ∨ op = 37 := by omega
  clear h
  rcases h' with rfl | rfl | rfl | rfl | rfl | rfl | rfl | rfl | rfl | rfl | rfl
  · exact ⟨_, holds32_eq a b ra rb, by have h := holds32_eq c d rc rd; rw [ha, hb] at h; exact h⟩
  · exact ⟨_, holds32_ne a b ra rb, by have h := holds32_ne c d rc rd; rw [ha, hb] at h; exact h⟩
  · exact ⟨_, holds32_gt a b ra rb, by have h := holds32_gt c d rc rd; rw [ha, hb] at h; exact h⟩
  · exact ⟨_, holds32_ge a b ra rb, by have h := holds32_ge c d rc rd; rw [ha, hb] at h; exact h⟩
  · exact ⟨_, holds32_lt a b ra rb, by have h := holds32_lt c d rc rd; rw [ha, hb] at h; exact h⟩
  · exact ⟨_, holds32_le a b ra rb, by have h := holds32_le c d rc rd; rw [ha, hb] at h; exact h⟩
  · exact ⟨_, holds32_sgt a b ra rb, by have h := holds32_sgt c d rc rd; rw [ha, hb] at h; exact h⟩
  · exact ⟨_, holds32_sge a b ra rb, by have h := holds32_sge c d rc rd; rw [ha, hb] at h; exact h⟩
  · exact ⟨_, holds32_slt a b ra rb, by have h := holds32_slt c d rc rd; rw [ha, hb] at h; exact h⟩
  · exact ⟨_, holds32_sle a b ra rb, by have h := holds32_sle c d rc rd; rw [ha, hb] at h; exact h⟩
  · exact ⟨_, holds32_set a b ra rb, by have h := holds32_set c d rc rd; rw [ha, hb] at h; exact h⟩

theorem ext_low (k : Nat) (c a : Int) (hk : k ≤ 32) (h : lowN 32 c = lowN 32 a) : ext k c = ext k a := by
  unfold ext
  have e : ∀ x : Int, lowN k x = lowN 32 x % 2 ^ k := by
    intro x
    unfold lowN
    rw [Nat.mod_mod_of_dvd _ (Nat.pow_dvd_pow 2 hk)]
  rw [e c, e a, h]
theorem or_halves (x h : Int) : lowN 32 (bits .or .i64 (x % 4294967296) (wrap64 (h * 4294967296))) = lowN 32 x ∧
    -9223372036854775808 ≤ bits .or .i64 (x % 4294967296) (wrap64 (h * 4294967296)) ∧ bits .or .i64 (x % 4294967296) (wrap64 (h * 4294967296)) ≤ 9223372036854775807 := by
  rw [i64_or]
  refine ⟨?_, wrap64_range _⟩
  have e := lowN_c (wrap64 ((un (x % 4294967296) ||| un (wrap64 (h * 4294967296)) : Nat) : Int))
  rw [nat_low, Nat.or_mod_two_pow] at e
  have e1 : un (x % 4294967296) % 2 ^ 32 = lowN 32 x := by
    have h1 := lowN_c x
    have h2 := un_cast (x % 4294967296)
    simp only [Nat.reducePow]
    omega
  have e2 : un (wrap64 (h * 4294967296)) % 2 ^ 32 = 0 := by
    have h2 := un_cast (wrap64 (h * 4294967296))
    have h3 := wrap64_low (h * 4294967296)
    generalize wrap64 (h * 4294967296) = z at h2 h3 ⊢
    simp only [Nat.reducePow]
    omega
  rw [e1, e2, Nat.or_zero] at e
  omega

theorem keepS {w w1 w2 : World} {op a b : Int} (h : w1.cell? ⟨w.heap.size, 1, none⟩ = some (.int .i64 a) ∧ w1.cell? ⟨w.heap.size, 2, none⟩ = some (.int .i64 b) ∧ Row w1 w.heap.size 41 [.int .i64 op, .int .i64 a, .int .i64 b] ∧ Below w.heap.size w w1) (hb : Below w1.heap.size w1 w2) :
    w2.cell? ⟨w.heap.size, 1, none⟩ = some (.int .i64 a) ∧ w2.cell? ⟨w.heap.size, 2, none⟩ = some (.int .i64 b) ∧ Row w2 w.heap.size 41 [.int .i64 op, .int .i64 a, .int .i64 b] ∧ Below w.heap.size w w2 := by
  obtain ⟨_, _, hR, hB⟩ := h
  have hR2 := hR.below hb hR.lt
  exact ⟨by simpa using hR2.cell 1, by simpa using hR2.cell 2, hR2, hB.trans (hb.mono hB.size)⟩
theorem keepD {w w1 : World} {op a b : Int} (h : w1.cell? ⟨w.heap.size, 1, none⟩ = some (.int .i64 a) ∧ w1.cell? ⟨w.heap.size, 2, none⟩ = some (.int .i64 b) ∧ Row w1 w.heap.size 41 [.int .i64 op, .int .i64 a, .int .i64 b] ∧ Below w.heap.size w w1) :
    w1.drew.cell? ⟨w.heap.size, 1, none⟩ = some (.int .i64 a) ∧ w1.drew.cell? ⟨w.heap.size, 2, none⟩ = some (.int .i64 b) ∧ Row w1.drew w.heap.size 41 [.int .i64 op, .int .i64 a, .int .i64 b] ∧ Below w.heap.size w w1.drew := ⟨h.1, h.2.1, h.2.2.1, h.2.2.2.drew⟩

set_option maxRecDepth 100000 in
set_option maxHeartbeats 3200000 in
theorem walk (op : Int) (ro : -9223372036854775808 ≤ op ∧ op ≤ 9223372036854775807) (a : Int) (ra : -9223372036854775808 ≤ a ∧ a ≤ 9223372036854775807) (b : Int) (rb : -9223372036854775808 ≤ b ∧ b ≤ 9223372036854775807) (high : Int) (rh : -9223372036854775808 ≤ high ∧ high ≤ 9223372036854775807) (other : Int) (rt : -9223372036854775808 ≤ other ∧ other ≤ 9223372036854775807) (w : World) :
    Calls Try.prog 15 #[.agg #[.int .i64 op, .int .i64 a, .int .i64 b], .int .i64 high, .int .i64 other] w fun e w' => e = .returned (.bool true) ∧ Below w.heap.size w w' := by
  have e32 : (2 : Int) ^ 32 = 4294967296 := rfl
  obtain ⟨hc1, hc2⟩ := or_halves a high
  obtain ⟨hd1, hd2⟩ := or_halves b other
  obtain ⟨c, hc⟩ : ∃ c, bits .or .i64 (a % 4294967296) (wrap64 (high * 4294967296)) = c := ⟨_, rfl⟩
  obtain ⟨d, hd⟩ : ∃ d, bits .or .i64 (b % 4294967296) (wrap64 (other * 4294967296)) = d := ⟨_, rfl⟩
  rw [hc] at hc1 hc2
  rw [hd] at hd1 hd2
  have HC1 := Lib.hid hc1
  have HC2 := Lib.hid hc2
  have HD1 := Lib.hid hd1
  have HD2 := Lib.hid hd2
  have HRA := Lib.hid ra
  have HRB := Lib.hid rb
  clear hc1 hc2 hd1 hd2 ra rb rh rt ro
  go_enter Try.func15, Try.ntmps15
  have hR0 : Row (w.alloc (.cells #[.int .i64 op, .int .i64 a, .int .i64 b] 41)) w.heap.size 41 [.int .i64 op, .int .i64 a, .int .i64 b] := heap_alloc_new w _
  have hB0 : Below w.heap.size w (w.alloc (.cells #[.int .i64 op, .int .i64 a, .int .i64 b] 41)) := (Below.refl _ _).alloc (Nat.le_refl _) _
  go_wp2_with fail
  refine (low_of a 32 32 rfl (by decide) _).mono ?_
  rintro e w1 ⟨rfl, rfl⟩
  rw [e32]
  go_wp2_with fail
  refine (low_of b 32 32 rfl (by decide) _).mono ?_
  rintro e w1 ⟨rfl, rfl⟩
  rw [e32]
  go_wp2
  go_loopw [9] (fun s wr => ∃ k : Int, 1 ≤ k ∧ k ≤ 16 ∧ s = .int .i64 k ∧ Row wr w.heap.size 41 [.int .i64 op, .int .i64 a, .int .i64 b] ∧ Below w.heap.size w wr) (fun s _ => (16 - intOf s).toNat)
  case atStart => exact ⟨1, by decide, by decide, rfl, hR0, hB0⟩
  case round =>
    clear hR0 hB0
    obtain ⟨k, hk1, hk2, rfl, hR, hB⟩ := hrel
    have hs := hB.size
    have c0 := hR.cell 0
    have c1 := hR.cell 1
    have c2 := hR.cell 2
    simp only [List.getElem?_cons_zero, List.getElem?_cons_succ] at c0 c1 c2
    by_cases hlt : k ≤ 15
    · have hg : ((k ≤ 3 ∨ (8 ≤ k ∧ k ≤ 10) ∨ 14 ≤ k) ∨ (11 ≤ k ∧ k ≤ 13)) ∨ (4 ≤ k ∧ k ≤ 7) := by omega
      rcases hg with (hg | hg) | hg
      · obtain ⟨v, u, h1, h2, h3, h4, h5, h6⟩ := half_whole k a b c d HRB.out (by omega) HC1.out HD1.out
        have H1 := Lib.hid h1
        have H2 := Lib.hid h2
        have H5 := Lib.hid h5
        have H6 := Lib.hid h6
        clear h1 h2 h5 h6
        have hv1 : (v != v) = false := by simp
        rcases hg with hg | hg | hg
        · skip
          have t4 : decide (k < 4) = true := by simp; omega
          have t7 : decide (7 < k) = false := by simp; omega
          have t10 : decide (k ≤ 10) = true := by simp; omega
          have t14 : decide (14 ≤ k) = false := by simp; omega
          have t3 : decide (k ≤ 3) = true := by simp; omega
          by_cases hz : b % 4294967296 = 0
          · have hzb : (b % 4294967296 != 0) = false := by simpa using hz
            clear hz
            go_wp2_with fail
            refine (H1.out _).mono ?_
            rintro e w1 ⟨rfl, h1⟩
            have hR := hR.below h1 hR.lt
            have hB := hB.trans (h1.mono hs)
            have hs := hB.size
            clear h1 c0 c1 c2
            have c0 := hR.cell 0
            have c1 := hR.cell 1
            have c2 := hR.cell 2
            simp only [List.getElem?_cons_zero, List.getElem?_cons_succ] at c0 c1 c2
            go_wp2_with fail
            refine (H2.out _).mono ?_
            rintro e w1 ⟨rfl, h1⟩
            have hR := hR.below h1 hR.lt
            have hB := hB.trans (h1.mono hs)
            have hs := hB.size
            clear h1 c0 c1 c2
            have c0 := hR.cell 0
            have c1 := hR.cell 1
            have c2 := hR.cell 2
            simp only [List.getElem?_cons_zero, List.getElem?_cons_succ] at c0 c1 c2
            go_wp2_with fail
            refine (low_of b 32 32 rfl (by decide) _).mono ?_
            rintro e w1 ⟨rfl, rfl⟩
            rw [e32]
            go_wp2
            go_region_held3 (fun w' => w'.cell? ⟨w.heap.size, 1, none⟩ = some (.int .i64 a) ∧ w'.cell? ⟨w.heap.size, 2, none⟩ = some (.int .i64 b) ∧ Row w' w.heap.size 41 [.int .i64 op, .int .i64 a, .int .i64 b] ∧ Below w.heap.size w w') (first | exact keepD ⟨c1, c2, hR, hB⟩ | exact keepD ‹_› | exact keepS ‹_› ‹_› | exact keepS ‹_› (Below.refl _ _))
              (first
                | (go_at_call 37; refine (of_at k a b u u false H5.out rfl _).mono ?_; rintro e w1 ⟨rfl, h1⟩)
                | (go_at_call 28; refine (low_of u 32 32 rfl (by decide) _).mono ?_; rintro e w1 ⟨rfl, rfl⟩; rw [e32, H6.out])
                | (go_at_call 36; refine (is_at k a b v v true H1.out rfl _).mono ?_; rintro e w1 ⟨rfl, h1⟩))
            have hS := by assumption
            obtain ⟨_, _, hR, hB⟩ := hS
            go_wp2
            go_roundw
            case rel => exact ⟨k + 1, by omega, by omega, rfl, hR, hB⟩
            case measure => simp [intOf]; omega
          · have hzb : (b % 4294967296 != 0) = true := by simpa using hz
            clear hz
            go_wp2_with fail
            refine (H1.out _).mono ?_
            rintro e w1 ⟨rfl, h1⟩
            have hR := hR.below h1 hR.lt
            have hB := hB.trans (h1.mono hs)
            have hs := hB.size
            clear h1 c0 c1 c2
            have c0 := hR.cell 0
            have c1 := hR.cell 1
            have c2 := hR.cell 2
            simp only [List.getElem?_cons_zero, List.getElem?_cons_succ] at c0 c1 c2
            go_wp2_with fail
            refine (H2.out _).mono ?_
            rintro e w1 ⟨rfl, h1⟩
            have hR := hR.below h1 hR.lt
            have hB := hB.trans (h1.mono hs)
            have hs := hB.size
            clear h1 c0 c1 c2
            have c0 := hR.cell 0
            have c1 := hR.cell 1
            have c2 := hR.cell 2
            simp only [List.getElem?_cons_zero, List.getElem?_cons_succ] at c0 c1 c2
            go_wp2_with fail
            refine (low_of b 32 32 rfl (by decide) _).mono ?_
            rintro e w1 ⟨rfl, rfl⟩
            rw [e32]
            go_wp2
            go_region_held3 (fun w' => w'.cell? ⟨w.heap.size, 1, none⟩ = some (.int .i64 a) ∧ w'.cell? ⟨w.heap.size, 2, none⟩ = some (.int .i64 b) ∧ Row w' w.heap.size 41 [.int .i64 op, .int .i64 a, .int .i64 b] ∧ Below w.heap.size w w') (first | exact keepD ⟨c1, c2, hR, hB⟩ | exact keepD ‹_› | exact keepS ‹_› ‹_› | exact keepS ‹_› (Below.refl _ _))
              (first
                | (go_at_call 37; refine (of_at k a b u u false H5.out rfl _).mono ?_; rintro e w1 ⟨rfl, h1⟩)
                | (go_at_call 28; refine (low_of u 32 32 rfl (by decide) _).mono ?_; rintro e w1 ⟨rfl, rfl⟩; rw [e32, H6.out])
                | (go_at_call 36; refine (is_at k a b v v true H1.out rfl _).mono ?_; rintro e w1 ⟨rfl, h1⟩))
            have hS := by assumption
            obtain ⟨_, _, hR, hB⟩ := hS
            go_wp2
            go_roundw
            case rel => exact ⟨k + 1, by omega, by omega, rfl, hR, hB⟩
            case measure => simp [intOf]; omega
        · obtain ⟨hg1, hg2⟩ := hg
          have t4 : decide (k < 4) = false := by simp; omega
          have t7 : decide (7 < k) = true := by simp; omega
          have t10 : decide (k ≤ 10) = true := by simp; omega
          have t14 : decide (14 ≤ k) = false := by simp; omega
          have t3 : decide (k ≤ 3) = false := by simp; omega
          by_cases hz : b % 4294967296 = 0
          · have hzb : (b % 4294967296 != 0) = false := by simpa using hz
            clear hz
            go_wp2_with fail
            refine (H1.out _).mono ?_
            rintro e w1 ⟨rfl, h1⟩
            have hR := hR.below h1 hR.lt
            have hB := hB.trans (h1.mono hs)
            have hs := hB.size
            clear h1 c0 c1 c2
            have c0 := hR.cell 0
            have c1 := hR.cell 1
            have c2 := hR.cell 2
            simp only [List.getElem?_cons_zero, List.getElem?_cons_succ] at c0 c1 c2
            go_wp2_with fail
            refine (H2.out _).mono ?_
            rintro e w1 ⟨rfl, h1⟩
            have hR := hR.below h1 hR.lt
            have hB := hB.trans (h1.mono hs)
            have hs := hB.size
            clear h1 c0 c1 c2
            have c0 := hR.cell 0
            have c1 := hR.cell 1
            have c2 := hR.cell 2
            simp only [List.getElem?_cons_zero, List.getElem?_cons_succ] at c0 c1 c2
            go_wp2_with fail
            refine (low_of b 32 32 rfl (by decide) _).mono ?_
            rintro e w1 ⟨rfl, rfl⟩
            rw [e32]
            go_wp2
            go_region_held3 (fun w' => w'.cell? ⟨w.heap.size, 1, none⟩ = some (.int .i64 a) ∧ w'.cell? ⟨w.heap.size, 2, none⟩ = some (.int .i64 b) ∧ Row w' w.heap.size 41 [.int .i64 op, .int .i64 a, .int .i64 b] ∧ Below w.heap.size w w') (first | exact keepD ⟨c1, c2, hR, hB⟩ | exact keepD ‹_› | exact keepS ‹_› ‹_› | exact keepS ‹_› (Below.refl _ _))
              (first
                | (go_at_call 37; refine (of_at k a b u u false H5.out rfl _).mono ?_; rintro e w1 ⟨rfl, h1⟩)
                | (go_at_call 28; refine (low_of u 32 32 rfl (by decide) _).mono ?_; rintro e w1 ⟨rfl, rfl⟩; rw [e32, H6.out])
                | (go_at_call 36; refine (is_at k a b v v true H1.out rfl _).mono ?_; rintro e w1 ⟨rfl, h1⟩))
            have hS := by assumption
            obtain ⟨_, _, hR, hB⟩ := hS
            go_wp2
            go_roundw
            case rel => exact ⟨k + 1, by omega, by omega, rfl, hR, hB⟩
            case measure => simp [intOf]; omega
          · have hzb : (b % 4294967296 != 0) = true := by simpa using hz
            clear hz
            go_wp2_with fail
            refine (H1.out _).mono ?_
            rintro e w1 ⟨rfl, h1⟩
            have hR := hR.below h1 hR.lt
            have hB := hB.trans (h1.mono hs)
            have hs := hB.size
            clear h1 c0 c1 c2
            have c0 := hR.cell 0
            have c1 := hR.cell 1
            have c2 := hR.cell 2
            simp only [List.getElem?_cons_zero, List.getElem?_cons_succ] at c0 c1 c2
            go_wp2_with fail
            refine (H2.out _).mono ?_
            rintro e w1 ⟨rfl, h1⟩
            have hR := hR.below h1 hR.lt
            have hB := hB.trans (h1.mono hs)
            have hs := hB.size
            clear h1 c0 c1 c2
            have c0 := hR.cell 0
            have c1 := hR.cell 1
            have c2 := hR.cell 2
            simp only [List.getElem?_cons_zero, List.getElem?_cons_succ] at c0 c1 c2
            go_wp2_with fail
            refine (low_of b 32 32 rfl (by decide) _).mono ?_
            rintro e w1 ⟨rfl, rfl⟩
            rw [e32]
            go_wp2
            go_region_held3 (fun w' => w'.cell? ⟨w.heap.size, 1, none⟩ = some (.int .i64 a) ∧ w'.cell? ⟨w.heap.size, 2, none⟩ = some (.int .i64 b) ∧ Row w' w.heap.size 41 [.int .i64 op, .int .i64 a, .int .i64 b] ∧ Below w.heap.size w w') (first | exact keepD ⟨c1, c2, hR, hB⟩ | exact keepD ‹_› | exact keepS ‹_› ‹_› | exact keepS ‹_› (Below.refl _ _))
              (first
                | (go_at_call 37; refine (of_at k a b u u false H5.out rfl _).mono ?_; rintro e w1 ⟨rfl, h1⟩)
                | (go_at_call 28; refine (low_of u 32 32 rfl (by decide) _).mono ?_; rintro e w1 ⟨rfl, rfl⟩; rw [e32, H6.out])
                | (go_at_call 36; refine (is_at k a b v v true H1.out rfl _).mono ?_; rintro e w1 ⟨rfl, h1⟩))
            have hS := by assumption
            obtain ⟨_, _, hR, hB⟩ := hS
            go_wp2
            go_roundw
            case rel => exact ⟨k + 1, by omega, by omega, rfl, hR, hB⟩
            case measure => simp [intOf]; omega
        · skip
          have t4 : decide (k < 4) = false := by simp; omega
          have t7 : decide (7 < k) = true := by simp; omega
          have t10 : decide (k ≤ 10) = false := by simp; omega
          have t14 : decide (14 ≤ k) = true := by simp; omega
          have t3 : decide (k ≤ 3) = false := by simp; omega
          by_cases hz : b % 4294967296 = 0
          · have hzb : (b % 4294967296 != 0) = false := by simpa using hz
            clear hz
            go_wp2_with fail
            refine (H1.out _).mono ?_
            rintro e w1 ⟨rfl, h1⟩
            have hR := hR.below h1 hR.lt
            have hB := hB.trans (h1.mono hs)
            have hs := hB.size
            clear h1 c0 c1 c2
            have c0 := hR.cell 0
            have c1 := hR.cell 1
            have c2 := hR.cell 2
            simp only [List.getElem?_cons_zero, List.getElem?_cons_succ] at c0 c1 c2
            go_wp2_with fail
            refine (H2.out _).mono ?_
            rintro e w1 ⟨rfl, h1⟩
            have hR := hR.below h1 hR.lt
            have hB := hB.trans (h1.mono hs)
            have hs := hB.size
            clear h1 c0 c1 c2
            have c0 := hR.cell 0
            have c1 := hR.cell 1
            have c2 := hR.cell 2
            simp only [List.getElem?_cons_zero, List.getElem?_cons_succ] at c0 c1 c2
            go_wp2_with fail
            refine (low_of b 32 32 rfl (by decide) _).mono ?_
            rintro e w1 ⟨rfl, rfl⟩
            rw [e32]
            go_wp2
            go_region_held3 (fun w' => w'.cell? ⟨w.heap.size, 1, none⟩ = some (.int .i64 a) ∧ w'.cell? ⟨w.heap.size, 2, none⟩ = some (.int .i64 b) ∧ Row w' w.heap.size 41 [.int .i64 op, .int .i64 a, .int .i64 b] ∧ Below w.heap.size w w') (first | exact keepD ⟨c1, c2, hR, hB⟩ | exact keepD ‹_› | exact keepS ‹_› ‹_› | exact keepS ‹_› (Below.refl _ _))
              (first
                | (go_at_call 37; refine (of_at k a b u u false H5.out rfl _).mono ?_; rintro e w1 ⟨rfl, h1⟩)
                | (go_at_call 28; refine (low_of u 32 32 rfl (by decide) _).mono ?_; rintro e w1 ⟨rfl, rfl⟩; rw [e32, H6.out])
                | (go_at_call 36; refine (is_at k a b v v true H1.out rfl _).mono ?_; rintro e w1 ⟨rfl, h1⟩))
            have hS := by assumption
            obtain ⟨_, _, hR, hB⟩ := hS
            go_wp2
            go_roundw
            case rel => exact ⟨k + 1, by omega, by omega, rfl, hR, hB⟩
            case measure => simp [intOf]; omega
          · have hzb : (b % 4294967296 != 0) = true := by simpa using hz
            clear hz
            go_wp2_with fail
            refine (H1.out _).mono ?_
            rintro e w1 ⟨rfl, h1⟩
            have hR := hR.below h1 hR.lt
            have hB := hB.trans (h1.mono hs)
            have hs := hB.size
            clear h1 c0 c1 c2
            have c0 := hR.cell 0
            have c1 := hR.cell 1
            have c2 := hR.cell 2
            simp only [List.getElem?_cons_zero, List.getElem?_cons_succ] at c0 c1 c2
            go_wp2_with fail
            refine (H2.out _).mono ?_
            rintro e w1 ⟨rfl, h1⟩
            have hR := hR.below h1 hR.lt
            have hB := hB.trans (h1.mono hs)
            have hs := hB.size
            clear h1 c0 c1 c2
            have c0 := hR.cell 0
            have c1 := hR.cell 1
            have c2 := hR.cell 2
            simp only [List.getElem?_cons_zero, List.getElem?_cons_succ] at c0 c1 c2
            go_wp2_with fail
            refine (low_of b 32 32 rfl (by decide) _).mono ?_
            rintro e w1 ⟨rfl, rfl⟩
            rw [e32]
            go_wp2
            go_region_held3 (fun w' => w'.cell? ⟨w.heap.size, 1, none⟩ = some (.int .i64 a) ∧ w'.cell? ⟨w.heap.size, 2, none⟩ = some (.int .i64 b) ∧ Row w' w.heap.size 41 [.int .i64 op, .int .i64 a, .int .i64 b] ∧ Below w.heap.size w w') (first | exact keepD ⟨c1, c2, hR, hB⟩ | exact keepD ‹_› | exact keepS ‹_› ‹_› | exact keepS ‹_› (Below.refl _ _))
              (first
                | (go_at_call 37; refine (of_at k a b u u false H5.out rfl _).mono ?_; rintro e w1 ⟨rfl, h1⟩)
                | (go_at_call 28; refine (low_of u 32 32 rfl (by decide) _).mono ?_; rintro e w1 ⟨rfl, rfl⟩; rw [e32, H6.out])
                | (go_at_call 36; refine (is_at k a b v v true H1.out rfl _).mono ?_; rintro e w1 ⟨rfl, h1⟩))
            have hS := by assumption
            obtain ⟨_, _, hR, hB⟩ := hS
            go_wp2
            go_roundw
            case rel => exact ⟨k + 1, by omega, by omega, rfl, hR, hB⟩
            case measure => simp [intOf]; omega
      · obtain ⟨v, h1, h2, h3, h4⟩ := half_shift k a b c d (by omega) HC1.out HD1.out
        obtain ⟨hg1, hg2⟩ := hg
        have H1 := Lib.hid h1
        have H2 := Lib.hid h2
        clear h1 h2
        have hv1 : (v != v) = false := by simp
        have t4 : decide (k < 4) = false := by simp; omega
        have t7 : decide (7 < k) = true := by simp; omega
        have t10 : decide (k ≤ 10) = false := by simp; omega
        have t14 : decide (14 ≤ k) = false := by simp; omega
        have t3 : decide (k ≤ 3) = false := by simp; omega
        by_cases hz : b % 4294967296 = 0
        · have hzb : (b % 4294967296 != 0) = false := by simpa using hz
          clear hz
          go_wp2_with fail
          refine (H1.out _).mono ?_
          rintro e w1 ⟨rfl, h1⟩
          have hR := hR.below h1 hR.lt
          have hB := hB.trans (h1.mono hs)
          have hs := hB.size
          clear h1 c0 c1 c2
          have c0 := hR.cell 0
          have c1 := hR.cell 1
          have c2 := hR.cell 2
          simp only [List.getElem?_cons_zero, List.getElem?_cons_succ] at c0 c1 c2
          go_wp2_with fail
          refine (H2.out _).mono ?_
          rintro e w1 ⟨rfl, h1⟩
          have hR := hR.below h1 hR.lt
          have hB := hB.trans (h1.mono hs)
          have hs := hB.size
          clear h1 c0 c1 c2
          have c0 := hR.cell 0
          have c1 := hR.cell 1
          have c2 := hR.cell 2
          simp only [List.getElem?_cons_zero, List.getElem?_cons_succ] at c0 c1 c2
          go_wp2_with fail
          refine (low_of b 32 32 rfl (by decide) _).mono ?_
          rintro e w1 ⟨rfl, rfl⟩
          rw [e32]
          go_wp2
          go_quiet (fail)
          have hB := below_drewN hB nq
          go_wp2
          go_roundw
          case rel => exact ⟨k + 1, by omega, by omega, rfl, hR, hB⟩
          case measure => simp [intOf]; omega
        · have hzb : (b % 4294967296 != 0) = true := by simpa using hz
          clear hz
          go_wp2_with fail
          refine (H1.out _).mono ?_
          rintro e w1 ⟨rfl, h1⟩
          have hR := hR.below h1 hR.lt
          have hB := hB.trans (h1.mono hs)
          have hs := hB.size
          clear h1 c0 c1 c2
          have c0 := hR.cell 0
          have c1 := hR.cell 1
          have c2 := hR.cell 2
          simp only [List.getElem?_cons_zero, List.getElem?_cons_succ] at c0 c1 c2
          go_wp2_with fail
          refine (H2.out _).mono ?_
          rintro e w1 ⟨rfl, h1⟩
          have hR := hR.below h1 hR.lt
          have hB := hB.trans (h1.mono hs)
          have hs := hB.size
          clear h1 c0 c1 c2
          have c0 := hR.cell 0
          have c1 := hR.cell 1
          have c2 := hR.cell 2
          simp only [List.getElem?_cons_zero, List.getElem?_cons_succ] at c0 c1 c2
          go_wp2_with fail
          refine (low_of b 32 32 rfl (by decide) _).mono ?_
          rintro e w1 ⟨rfl, rfl⟩
          rw [e32]
          go_wp2
          go_quiet (fail)
          have hB := below_drewN hB nq
          go_wp2
          go_roundw
          case rel => exact ⟨k + 1, by omega, by omega, rfl, hR, hB⟩
          case measure => simp [intOf]; omega
      · by_cases hz : lowN 32 b = 0
        · obtain ⟨h1, h2⟩ := half_div0 k a b c d hz (by omega) HC1.out HD1.out
          obtain ⟨hg1, hg2⟩ := hg
          have hzb : (b % 4294967296 != 0) = false := by rw [← lowN_c, hz]; rfl
          clear hz
          have t4 : decide (k < 4) = false := by simp; omega
          have t7 : decide (7 < k) = false := by simp; omega
          have t10 : decide (k ≤ 10) = true := by simp; omega
          have t14 : decide (14 ≤ k) = false := by simp; omega
          have t3 : decide (k ≤ 3) = false := by simp; omega
          have H1 := Lib.hid h1
          have H2 := Lib.hid h2
          clear h1 h2
          go_wp2_with fail
          refine (H1.out _).mono ?_
          rintro e w1 ⟨rfl, h1⟩
          have hR := hR.below h1 hR.lt
          have hB := hB.trans (h1.mono hs)
          have hs := hB.size
          clear h1 c0 c1 c2
          have c0 := hR.cell 0
          have c1 := hR.cell 1
          have c2 := hR.cell 2
          simp only [List.getElem?_cons_zero, List.getElem?_cons_succ] at c0 c1 c2
          go_wp2_with fail
          refine (H2.out _).mono ?_
          rintro e w1 ⟨rfl, h1⟩
          have hR := hR.below h1 hR.lt
          have hB := hB.trans (h1.mono hs)
          have hs := hB.size
          clear h1 c0 c1 c2
          have c0 := hR.cell 0
          have c1 := hR.cell 1
          have c2 := hR.cell 2
          simp only [List.getElem?_cons_zero, List.getElem?_cons_succ] at c0 c1 c2
          go_wp2_with fail
          refine (low_of b 32 32 rfl (by decide) _).mono ?_
          rintro e w1 ⟨rfl, rfl⟩
          rw [e32]
          go_wp2
          go_quiet (fail)
          have hB := below_drewN hB nq
          go_wp2
          go_roundw
          case rel => exact ⟨k + 1, by omega, by omega, rfl, hR, hB⟩
          case measure => simp [intOf]; omega
        · obtain ⟨v, h1, h2, h3, h4⟩ := half_div k a b c d hz (by omega) HC1.out HD1.out
          obtain ⟨hg1, hg2⟩ := hg
          have hzb : (b % 4294967296 != 0) = true := by
            have e := lowN_c b
            have h : b % 4294967296 ≠ 0 := by omega
            simpa using h
          have hv1 : (v != v) = false := by simp
          clear hz
          have t4 : decide (k < 4) = false := by simp; omega
          have t7 : decide (7 < k) = false := by simp; omega
          have t10 : decide (k ≤ 10) = true := by simp; omega
          have t14 : decide (14 ≤ k) = false := by simp; omega
          have t3 : decide (k ≤ 3) = false := by simp; omega
          have H1 := Lib.hid h1
          have H2 := Lib.hid h2
          clear h1 h2
          go_wp2_with fail
          refine (H1.out _).mono ?_
          rintro e w1 ⟨rfl, h1⟩
          have hR := hR.below h1 hR.lt
          have hB := hB.trans (h1.mono hs)
          have hs := hB.size
          clear h1 c0 c1 c2
          have c0 := hR.cell 0
          have c1 := hR.cell 1
          have c2 := hR.cell 2
          simp only [List.getElem?_cons_zero, List.getElem?_cons_succ] at c0 c1 c2
          go_wp2_with fail
          refine (H2.out _).mono ?_
          rintro e w1 ⟨rfl, h1⟩
          have hR := hR.below h1 hR.lt
          have hB := hB.trans (h1.mono hs)
          have hs := hB.size
          clear h1 c0 c1 c2
          have c0 := hR.cell 0
          have c1 := hR.cell 1
          have c2 := hR.cell 2
          simp only [List.getElem?_cons_zero, List.getElem?_cons_succ] at c0 c1 c2
          go_wp2_with fail
          refine (low_of b 32 32 rfl (by decide) _).mono ?_
          rintro e w1 ⟨rfl, rfl⟩
          rw [e32]
          go_wp2
          go_quiet (fail)
          have hB := below_drewN hB nq
          go_wp2
          go_roundw
          case rel => exact ⟨k + 1, by omega, by omega, rfl, hR, hB⟩
          case measure => simp [intOf]; omega
    · obtain rfl : k = 16 := by omega
      clear hlt hk1 hk2
      go_wp2
      go_loopw [15] (fun s wr => ∃ k : Int, 27 ≤ k ∧ k ≤ 38 ∧ s = .int .i64 k ∧ Row wr w.heap.size 41 [.int .i64 op, .int .i64 a, .int .i64 b] ∧ Below w.heap.size w wr) (fun s _ => (38 - intOf s).toNat)
      case atStart => exact ⟨27, by decide, by decide, rfl, hR, hB⟩
      case round =>
        clear hR hB hs c0 c1 c2
        obtain ⟨k, hk1, hk2, rfl, hR, hB⟩ := hrel
        have hs := hB.size
        have c0 := hR.cell 0
        have c1 := hR.cell 1
        have c2 := hR.cell 2
        simp only [List.getElem?_cons_zero, List.getElem?_cons_succ] at c0 c1 c2
        by_cases hlt : k ≤ 37
        · obtain ⟨v, h1, h2⟩ := half_holds k a b c d HRA.out HRB.out HC2.out HD2.out ⟨hk1, hlt⟩ HC1.out HD1.out
          have H1 := Lib.hid h1
          have H2 := Lib.hid h2
          clear h1 h2
          have hv1 : (v != v) = false := by simp
          go_wp2_with fail
          refine (H1.out _).mono ?_
          rintro e w1 ⟨rfl, h1⟩
          have hR := hR.below h1 hR.lt
          have hB := hB.trans (h1.mono hs)
          have hs := hB.size
          clear h1 c0 c1 c2
          have c0 := hR.cell 0
          have c1 := hR.cell 1
          have c2 := hR.cell 2
          simp only [List.getElem?_cons_zero, List.getElem?_cons_succ] at c0 c1 c2
          go_wp2_with fail
          refine (H2.out _).mono ?_
          rintro e w1 ⟨rfl, h1⟩
          have hR := hR.below h1 hR.lt
          have hB := hB.trans (h1.mono hs)
          have hs := hB.size
          clear h1 c0 c1 c2
          have c0 := hR.cell 0
          have c1 := hR.cell 1
          have c2 := hR.cell 2
          simp only [List.getElem?_cons_zero, List.getElem?_cons_succ] at c0 c1 c2
          go_wp2
          go_roundw
          case rel => exact ⟨k + 1, by omega, by omega, rfl, hR, hB⟩
          case measure => simp [intOf]; omega
        · obtain rfl : k = 38 := by omega
          clear hlt hk1 hk2
          go_wp2_with fail
          refine (extend_nar16 a _).mono ?_
          rintro e w1 ⟨rfl, rfl⟩
          go_wp2_with fail
          refine ((by have h := extend_nar16 c wr; rw [ext_low 16 c a (by decide) HC1.out] at h; exact h : Calls Try.prog 26 #[.int .i64 16, .bool true, .int .i64 c] wr fun e w' => e = .returned (.int .i64 (ext 16 a % 4294967296)) ∧ wr = w')).mono ?_
          rintro e w1 ⟨rfl, rfl⟩
          have t16 : (ext 16 a % 4294967296 == ext 16 a % 4294967296) = true := by simp
          go_wp2_with fail
          refine (extend_nar8 a _).mono ?_
          rintro e w1 ⟨rfl, rfl⟩
          go_wp2_with fail
          refine ((by have h := extend_wide8 c wr; rw [ext_low 8 c a (by decide) HC1.out] at h; exact h : Calls Try.prog 26 #[.int .i64 8, .bool false, .int .i64 c] wr fun e w' => e = .returned (.int .i64 (ext 8 a)) ∧ wr = w')).mono ?_
          rintro e w1 ⟨rfl, rfl⟩
          go_wp2_with fail
          refine (low_of (ext 8 a) 32 32 rfl (by decide) _).mono ?_
          rintro e w1 ⟨rfl, rfl⟩
          rw [e32]
          have t8 : (ext 8 a % 4294967296 == ext 8 a % 4294967296) = true := by simp
          go_wp2_with fail
          refine (is_at 1 (-1) 1 _ 0 true (alu32_add (-1) 1) (by decide) _).mono ?_
          rintro e w1 ⟨rfl, h1⟩
          have hB := hB.trans (h1.mono hs)
          go_wp2
          go_ret
          exact ⟨rfl, hB⟩

theorem own : ownKnob Try.prog.godebug = none := by kernel_rfl
set_option maxRecDepth 100000 in
theorem lifted (os : Os) (started : os.Started) (H : Type) (enc : TypeId × Value → H) :
    ReturnsInHanded {} Try.checked os 15 .any (Rows.wordHalvesSpec.pre6 enc Try.prog Try.f15 Rows.wordHalvesRow.domain false) (Rows.wordHalvesSpec.post enc Try.prog Try.f15 false true false false) := by
  refine returnsInHanded_of_change (C := Try.checked) own started (by kernel_rfl) Try.func15
    (ChangeSpec.witness6 (enc := enc) (C := Try.checked) false ⟨#[], #[.agg #[.int .i64 0, .int .i64 0, .int .i64 0], .int .i64 0, .int .i64 0], []⟩ 8 (by kernel_rfl) (by kernel_rfl) (by kernel_rfl) (by kernel_rfl)) ?_
  intro W base args ds gs before hval0 hW hcnd _
  have hval : ∀ (j : Nat) t v, Try.f15.params[j]? = some t → args[j]? = some v → Value.okWide Try.prog W .any base t v := hval0
  have hW' := hW
  obtain ⟨p, q, hA0, hV, rfl, hfz, hnd⟩ := hW
  have hA : DataW.TrodAll enc Try.prog W 0 (fun _ => true) true Try.f15.params.toList args.toList ds p := hA0
  rw [Try.params15] at hA hval
  obtain ⟨v0, vs0, d0, ds0, p0, q0, hargs, rfl, rfl, h0, r0⟩ := trodAll_cons hA
  obtain ⟨v1, vs1, d1, ds1, p1, q1, rfl, rfl, rfl, h1, r1⟩ := trodAll_cons r0
  obtain ⟨v2, vs2, d2, ds2, p2, q2, rfl, rfl, rfl, h2, r2⟩ := trodAll_cons r1
  obtain ⟨rfl, rfl, rfl⟩ := trodAll_nil r2
  obtain rfl : args = #[v0, v1, v2] := by cases args; simp_all
  obtain ⟨c00, c01, c02, y00, y01, y02, m0, rfl, rfl, rfl, hy00, hy01, hy02⟩ := open_agg3 Try.underlying41 (by kernel_rfl) (show Try.prog.cellsOf 41 = 3 by kernel_rfl) (hval 0 41 v0 rfl rfl) h0
  obtain ⟨a00, e00, rfl, w00⟩ := DataW.trod_int Try.underlying3 hy00
  obtain ⟨a01, e01, rfl, w01⟩ := DataW.trod_int Try.underlying3 hy01
  obtain ⟨a02, e02, rfl, w02⟩ := DataW.trod_int Try.underlying3 hy02
  simp at e00 e01 e02
  subst e00 e01 e02
  obtain ⟨a1, rfl, rfl, rfl, w1⟩ := open_int Try.underlying3 (hval 1 3 v1 rfl rfl) h1
  obtain ⟨a2, rfl, rfl, rfl, w2⟩ := open_int Try.underlying3 (hval 2 3 v2 rfl rfl) h2
  refine (walk a00 (range_i64 w00) a01 (range_i64 w01) a02 (range_i64 w02) a1 (range_i64 w1) a2 (range_i64 w2) W).mono fun e W' ⟨he, hb⟩ => ?_
  subst he
  exact ⟨_, rfl, law_post (tb := 4) (by kernel_rfl) (by kernel_rfl) rfl Try.underlying4 rfl (fun h => by subst h; rfl) hW' hb⟩

theorem proved : Rows.WordHalvesSaid :=
  OpenClaim.holds_of_wide 15 Try.f15 rfl rfl rfl rfl rfl rfl rfl ⟨rfl, rfl, rfl, rfl, rfl⟩ rfl rfl rfl rfl rfl (by kernel_rfl) Try.func15 (by kernel_rfl)
    (of_decide_eq_true (by kernel_rfl)) (by unfold Func.isWrapper; first | (rw [if_pos (by decide +kernel)]; kernel_rfl) | (rw [if_neg (by decide +kernel)]; exact ⟨rfl, rfl⟩))
    (fun os started H enc _ => lifted os started H enc)
#print axioms proved

end Go.Proofs.Ytcmpohippbjpcaa.wordHalves
