/-
  Spans: the reference's Low, NotZero.
-/
import Derived.Test.YtcmplcdbkoodpaaGreatDoorSpanN
namespace Go.Proofs.YtcmplcdbkoodpaaGreatDoor
open Go.RowKit
set_option linter.unusedVariables false

theorem ends_le (lo hi : Int) (p q : Bool) : elo lo hi p q ≤ ehi lo hi p q := by
  unfold elo ehi
  by_cases h : Snd lo hi p q
  · rw [if_pos h, if_pos h]
    obtain ⟨_, _, a, b, c, d, e⟩ := h
    cases p <;> cases q <;> simp <;> first | omega | (have := e rfl rfl; omega)
  · rw [if_neg h, if_neg h]; decide
theorem ends_rng (lo hi : Int) (p q : Bool) : (-9223372036854775808 ≤ elo lo hi p q ∧ elo lo hi p q ≤ 9223372036854775807) ∧ (-9223372036854775808 ≤ ehi lo hi p q ∧ ehi lo hi p q ≤ 9223372036854775807) := by
  unfold elo ehi
  by_cases h : Snd lo hi p q
  · rw [if_pos h, if_pos h]
    obtain ⟨_, _, a, b, c, d, e⟩ := h
    cases p <;> cases q <;> simp <;> omega
  · rw [if_neg h, if_neg h]; decide
/-- A span within the low half, as it is read. -/
theorem read_low (lo hi : Int) (p q : Bool) (h0 : 0 ≤ elo lo hi p q) (h1 : ehi lo hi p q ≤ 4294967295) :
    (Value.agg #[.int .i64 (rlo lo hi p q), .int .i64 (rhi lo hi p q), .bool (rp lo hi p q), .bool (rq lo hi p q)]) = ofs (elo lo hi p q) (ehi lo hi p q) := by
  have hle := ends_le lo hi p q
  rw [elo_r] at h0 hle ⊢
  rw [ehi_r] at h1 hle ⊢
  cases hp : rp lo hi p q
  · cases hq : rq lo hi p q
    · rw [hp] at h0 hle
      rw [hq] at h1 hle
      simp only [Bool.false_eq_true, if_false] at h0 h1 hle ⊢
      unfold ofs oflo ofhi
      rw [if_neg (by omega), if_neg (by omega), if_neg (by omega), if_neg (by omega), if_neg (by omega)]
      rw [show decide (rlo lo hi p q < -1152921504606846976) = false by simp; omega, show decide (1152921504606846976 < rhi lo hi p q) = false by simp; omega]
    · rw [hq] at h1; simp at h1
  · rw [hp] at h0; simp at h0

set_option maxRecDepth 100000 in
set_option maxHeartbeats 8000000 in
theorem rlow_in (lo hi : Int) (p q : Bool) (E F A B : Int) (P Q : Bool) (h0 : 0 ≤ E) (h1 : F ≤ 4294967295)
    (hrd : ∀ w, Calls Tryz.prog 39 #[.agg #[.int .i64 lo, .int .i64 hi, .bool p, .bool q]] w (Ret w (.agg #[.int .i64 E, .int .i64 F]))) (w : World)
    (hsp : ∀ w, Calls Tryz.prog 54 #[.agg #[.int .i64 lo, .int .i64 hi, .bool p, .bool q]] w (Ret w (.agg #[.int .i64 A, .int .i64 B, .bool P, .bool Q]))) :
    Calls Tryz.prog 55 #[.agg #[.int .i64 lo, .int .i64 hi, .bool p, .bool q]] w (Ret w (.agg #[.int .i64 A, .int .i64 B, .bool P, .bool Q])) := by
  have HRD := Lib.hid hrd
  have HSP := Lib.hid hsp
  have hr0 : Row ((w.alloc (.cells #[.int .i64 lo, .int .i64 hi, .bool p, .bool q] 23)).alloc (.cells #[.int .i64 0, .int .i64 0, .bool false, .bool false] 23)) w.heap.size 23 (spc lo hi p q) := (Row.made w (spc lo hi p q) 23).alloc _
  have hr1 : Row ((w.alloc (.cells #[.int .i64 lo, .int .i64 hi, .bool p, .bool q] 23)).alloc (.cells #[.int .i64 0, .int .i64 0, .bool false, .bool false] 23)) (w.heap.size + 1) 23 (spc 0 0 false false) := row2c w _ (spc 0 0 false false) _
  have hB0 : Below w.heap.size w ((w.alloc (.cells #[.int .i64 lo, .int .i64 hi, .bool p, .bool q] 23)).alloc (.cells #[.int .i64 0, .int .i64 0, .bool false, .bool false] 23)) := ((Below.refl _ _).alloc (Nat.le_refl _) _).alloc (by simp) _
  have HR0 := Lib.hid hr0
  have HR1 := Lib.hid hr1
  have HB0 := Lib.hid hB0
  clear hrd hsp hr0 hr1 hB0
  go_enter Tryz.func55, Tryz.ntmps55
  go_wp2_with fail
  refine (HRD.out _).mono ?_
  rintro e w1 ⟨rfl, hB⟩
  have HR2 := Lib.hid (HR0.out.below hB HR0.out.lt)
  have HR3 := Lib.hid (HR1.out.below hB HR1.out.lt)
  have HB1 := Lib.hid (HB0.out.trans (hB.mono HB0.out.size))
  clear hB
  have HR4 := Lib.hid (HR3.out.alloc (.cells #[.int .i64 E, .int .i64 F] 66))
  have HR5 := Lib.hid (HR2.out.alloc (.cells #[.int .i64 E, .int .i64 F] 66))
  have HRE := Lib.hid (show Row (w1.alloc (.cells #[.int .i64 E, .int .i64 F] 66)) w1.heap.size 66 (edc E F) from Row.made w1 (edc E F) 66)
  have HB2 := Lib.hid (HB1.out.alloc HB1.out.size (.cells #[.int .i64 E, .int .i64 F] 66))
  have HLT := Lib.hid HR3.out.lt
  obtain ⟨⟨c0, c1, c2, c3⟩, g0, g1, g2, g3⟩ := spc_row HR5.out
  go_wp2_with fail
  refine (HSP.out _).mono ?_
  rintro e w2 ⟨rfl, hB⟩
  have hr1 := HR4.out.below hB HR4.out.lt
  have hB1 := HB2.out.trans (hB.mono HB2.out.size)
  obtain ⟨⟨q0, q1, q2, q3⟩, f0, f1, f2, f3⟩ := spc_row hr1
  obtain ⟨⟨z0, z1, z2, z3⟩, _⟩ := spc_row (spc_put hr1 A B P Q)
  have HBZ := Lib.hid (below_set4 hB1 (Nat.le_succ w.heap.size) (.int .i64 A) (.int .i64 B) (.bool P) (.bool Q))
  have Z := Lib.hid (And.intro z0 (And.intro z1 (And.intro z2 z3)))
  clear hB hr1 hB1 z0 z1 z2 z3
  go_wp2
  obtain ⟨z0, z1, z2, z3⟩ := Z.out
  exact bodyPost_ret (v := .agg #[.int .i64 A, .int .i64 B, .bool P, .bool Q]) (by simp [results, Tryz.results55, go_sem, z0, z1, z2, z3]) rfl ⟨rfl, HBZ.out⟩
/-- Low's boxes: its result, its ends. -/
structure LW (b s : Nat) (w : World) (E F : Int) (w' : World) : Prop where
  rr : Row w' (b + 1) 23 (spc 0 0 false false)
  re : Row w' s 66 (edc E F)
  bel : Below b w w'
theorem LW.kept {b s : Nat} {w w1 w2 : World} {E F : Int} (h : w1.cell? ⟨s, 0, none⟩ = some (.int .i64 E) ∧ w1.cell? ⟨s, 1, none⟩ = some (.int .i64 F) ∧ LW b s w E F w1) (hB : Below w1.heap.size w1 w2) :
    w2.cell? ⟨s, 0, none⟩ = some (.int .i64 E) ∧ w2.cell? ⟨s, 1, none⟩ = some (.int .i64 F) ∧ LW b s w E F w2 :=
  let hr := h.2.2.re.below hB h.2.2.re.lt
  let ⟨⟨c0, c1⟩, _⟩ := edc_row hr
  ⟨c0, c1, h.2.2.rr.below hB h.2.2.rr.lt, hr, h.2.2.bel.trans (hB.mono (by have := h.2.2.rr.lt; omega))⟩

set_option maxRecDepth 100000 in
set_option maxHeartbeats 8000000 in
theorem rlow_half (lo hi : Int) (p q : Bool) (E F A B : Int) (P Q : Bool) (h0 : decide (0 ≤ E) = false ∨ decide (0 ≤ E) = true ∧ decide (F ≤ 4294967295) = false) (h1 : (E / 4294967296 == F / 4294967296) = true) (a0 a1 : Int) (ha0 : bits .and .i64 E 4294967295 = a0) (ha1 : bits .and .i64 F 4294967295 = a1)
    (hrd : ∀ w, Calls Tryz.prog 39 #[.agg #[.int .i64 lo, .int .i64 hi, .bool p, .bool q]] w (Ret w (.agg #[.int .i64 E, .int .i64 F]))) (w : World)
    (hsp : ∀ w, Calls Tryz.prog 53 #[.int .i64 a0, .int .i64 a1] w (Ret w (.agg #[.int .i64 A, .int .i64 B, .bool P, .bool Q]))) :
    Calls Tryz.prog 55 #[.agg #[.int .i64 lo, .int .i64 hi, .bool p, .bool q]] w (Ret w (.agg #[.int .i64 A, .int .i64 B, .bool P, .bool Q])) := by
  have HRD := Lib.hid hrd
  have HSP := Lib.hid hsp
  have hr0 : Row ((w.alloc (.cells #[.int .i64 lo, .int .i64 hi, .bool p, .bool q] 23)).alloc (.cells #[.int .i64 0, .int .i64 0, .bool false, .bool false] 23)) w.heap.size 23 (spc lo hi p q) := (Row.made w (spc lo hi p q) 23).alloc _
  have hr1 : Row ((w.alloc (.cells #[.int .i64 lo, .int .i64 hi, .bool p, .bool q] 23)).alloc (.cells #[.int .i64 0, .int .i64 0, .bool false, .bool false] 23)) (w.heap.size + 1) 23 (spc 0 0 false false) := row2c w _ (spc 0 0 false false) _
  have hB0 : Below w.heap.size w ((w.alloc (.cells #[.int .i64 lo, .int .i64 hi, .bool p, .bool q] 23)).alloc (.cells #[.int .i64 0, .int .i64 0, .bool false, .bool false] 23)) := ((Below.refl _ _).alloc (Nat.le_refl _) _).alloc (by simp) _
  have HR0 := Lib.hid hr0
  have HR1 := Lib.hid hr1
  have HB0 := Lib.hid hB0
  clear hrd hsp hr0 hr1 hB0
  rcases h0 with h0 | ⟨h0, h2⟩
  all_goals
    go_enter Tryz.func55, Tryz.ntmps55
    go_wp2_with fail
    refine (HRD.out _).mono ?_
    rintro e w1 ⟨rfl, hB⟩
    have HR2 := Lib.hid (HR0.out.below hB HR0.out.lt)
    have HR3 := Lib.hid (HR1.out.below hB HR1.out.lt)
    have HB1 := Lib.hid (HB0.out.trans (hB.mono HB0.out.size))
    clear hB
    have HR4 := Lib.hid (HR3.out.alloc (.cells #[.int .i64 E, .int .i64 F] 66))
    have HR5 := Lib.hid (HR2.out.alloc (.cells #[.int .i64 E, .int .i64 F] 66))
    have HRE := Lib.hid (show Row (w1.alloc (.cells #[.int .i64 E, .int .i64 F] 66)) w1.heap.size 66 (edc E F) from Row.made w1 (edc E F) 66)
    have HB2 := Lib.hid (HB1.out.alloc HB1.out.size (.cells #[.int .i64 E, .int .i64 F] 66))
    have HLT := Lib.hid HR3.out.lt
    go_upto_region 4 with fail
    generalize w1.alloc (.cells #[.int .i64 E, .int .i64 F] 66) = w2 at HR4 HRE HB2 ⊢
    generalize w1.heap.size = s at HRE ⊢
    obtain ⟨⟨c0, c1⟩, g0, g1⟩ := edc_row HRE.out.drew
    have hst : LW w.heap.size s w E F w2.drew := ⟨HR4.out.drew, HRE.out.drew, HB2.out.drew⟩
    have hks := And.intro c0 (And.intro c1 hst)
    clear c0 c1 g0 g1 hst
    go_region_held3 (fun w' => w'.cell? ⟨s, 0, none⟩ = some (.int .i64 E) ∧ w'.cell? ⟨s, 1, none⟩ = some (.int .i64 F) ∧ LW w.heap.size s w E F w') (first | assumption | exact LW.kept (by assumption) hb)
      (first
        | (go_at_call 104; refine (floor_of _ _).mono ?_; rintro e w' ⟨rfl, hb⟩))
    rename_i hheld
    obtain ⟨c0, c1, hl⟩ := hheld
    clear hks
    have HR6 := Lib.hid hl.rr
    have HB3 := Lib.hid hl.bel
    obtain ⟨⟨c0, c1⟩, g0, g1⟩ := edc_row hl.re
    clear hl
    go_wp2_with fail
    refine (HSP.out _).mono ?_
    rintro e w6 ⟨rfl, hB⟩
    have hr1 := HR6.out.below hB HR6.out.lt
    have hB1 := HB3.out.trans (hB.mono HB3.out.size)
    obtain ⟨⟨q0, q1, q2, q3⟩, f0, f1, f2, f3⟩ := spc_row hr1
    obtain ⟨⟨z0, z1, z2, z3⟩, _⟩ := spc_row (spc_put hr1 A B P Q)
    have HBZ := Lib.hid (below_set4 hB1 (Nat.le_succ w.heap.size) (.int .i64 A) (.int .i64 B) (.bool P) (.bool Q))
    have Z := Lib.hid (And.intro z0 (And.intro z1 (And.intro z2 z3)))
    clear hB hr1 hB1 z0 z1 z2 z3
    go_wp2
    obtain ⟨z0, z1, z2, z3⟩ := Z.out
    exact bodyPost_ret (v := .agg #[.int .i64 A, .int .i64 B, .bool P, .bool Q]) (by simp [results, Tryz.results55, go_sem, z0, z1, z2, z3]) rfl ⟨rfl, HBZ.out⟩
set_option maxRecDepth 100000 in
set_option maxHeartbeats 8000000 in
theorem rlow_wide (lo hi : Int) (p q : Bool) (E F A B : Int) (P Q : Bool) (h0 : decide (0 ≤ E) = false ∨ decide (0 ≤ E) = true ∧ decide (F ≤ 4294967295) = false) (h1 : (E / 4294967296 == F / 4294967296) = false)
    (hrd : ∀ w, Calls Tryz.prog 39 #[.agg #[.int .i64 lo, .int .i64 hi, .bool p, .bool q]] w (Ret w (.agg #[.int .i64 E, .int .i64 F]))) (w : World)
    (hsp : ∀ w, Calls Tryz.prog 53 #[.int .i64 0, .int .i64 4294967295] w (Ret w (.agg #[.int .i64 A, .int .i64 B, .bool P, .bool Q]))) :
    Calls Tryz.prog 55 #[.agg #[.int .i64 lo, .int .i64 hi, .bool p, .bool q]] w (Ret w (.agg #[.int .i64 A, .int .i64 B, .bool P, .bool Q])) := by
  have HRD := Lib.hid hrd
  have HSP := Lib.hid hsp
  have hr0 : Row ((w.alloc (.cells #[.int .i64 lo, .int .i64 hi, .bool p, .bool q] 23)).alloc (.cells #[.int .i64 0, .int .i64 0, .bool false, .bool false] 23)) w.heap.size 23 (spc lo hi p q) := (Row.made w (spc lo hi p q) 23).alloc _
  have hr1 : Row ((w.alloc (.cells #[.int .i64 lo, .int .i64 hi, .bool p, .bool q] 23)).alloc (.cells #[.int .i64 0, .int .i64 0, .bool false, .bool false] 23)) (w.heap.size + 1) 23 (spc 0 0 false false) := row2c w _ (spc 0 0 false false) _
  have hB0 : Below w.heap.size w ((w.alloc (.cells #[.int .i64 lo, .int .i64 hi, .bool p, .bool q] 23)).alloc (.cells #[.int .i64 0, .int .i64 0, .bool false, .bool false] 23)) := ((Below.refl _ _).alloc (Nat.le_refl _) _).alloc (by simp) _
  have HR0 := Lib.hid hr0
  have HR1 := Lib.hid hr1
  have HB0 := Lib.hid hB0
  clear hrd hsp hr0 hr1 hB0
  rcases h0 with h0 | ⟨h0, h2⟩
  all_goals
    go_enter Tryz.func55, Tryz.ntmps55
    go_wp2_with fail
    refine (HRD.out _).mono ?_
    rintro e w1 ⟨rfl, hB⟩
    have HR2 := Lib.hid (HR0.out.below hB HR0.out.lt)
    have HR3 := Lib.hid (HR1.out.below hB HR1.out.lt)
    have HB1 := Lib.hid (HB0.out.trans (hB.mono HB0.out.size))
    clear hB
    have HR4 := Lib.hid (HR3.out.alloc (.cells #[.int .i64 E, .int .i64 F] 66))
    have HR5 := Lib.hid (HR2.out.alloc (.cells #[.int .i64 E, .int .i64 F] 66))
    have HRE := Lib.hid (show Row (w1.alloc (.cells #[.int .i64 E, .int .i64 F] 66)) w1.heap.size 66 (edc E F) from Row.made w1 (edc E F) 66)
    have HB2 := Lib.hid (HB1.out.alloc HB1.out.size (.cells #[.int .i64 E, .int .i64 F] 66))
    have HLT := Lib.hid HR3.out.lt
    go_upto_region 4 with fail
    generalize w1.alloc (.cells #[.int .i64 E, .int .i64 F] 66) = w2 at HR4 HRE HB2 ⊢
    generalize w1.heap.size = s at HRE ⊢
    obtain ⟨⟨c0, c1⟩, g0, g1⟩ := edc_row HRE.out.drew
    have hst : LW w.heap.size s w E F w2.drew := ⟨HR4.out.drew, HRE.out.drew, HB2.out.drew⟩
    have hks := And.intro c0 (And.intro c1 hst)
    clear c0 c1 g0 g1 hst
    go_region_held3 (fun w' => w'.cell? ⟨s, 0, none⟩ = some (.int .i64 E) ∧ w'.cell? ⟨s, 1, none⟩ = some (.int .i64 F) ∧ LW w.heap.size s w E F w') (first | assumption | exact LW.kept (by assumption) hb)
      (first
        | (go_at_call 104; refine (floor_of _ _).mono ?_; rintro e w' ⟨rfl, hb⟩))
    rename_i hheld
    obtain ⟨c0, c1, hl⟩ := hheld
    clear hks
    have HR6 := Lib.hid hl.rr
    have HB3 := Lib.hid hl.bel
    obtain ⟨⟨c0, c1⟩, g0, g1⟩ := edc_row hl.re
    clear hl
    go_wp2_with fail
    refine (HSP.out _).mono ?_
    rintro e w6 ⟨rfl, hB⟩
    have hr1 := HR6.out.below hB HR6.out.lt
    have hB1 := HB3.out.trans (hB.mono HB3.out.size)
    obtain ⟨⟨q0, q1, q2, q3⟩, f0, f1, f2, f3⟩ := spc_row hr1
    obtain ⟨⟨z0, z1, z2, z3⟩, _⟩ := spc_row (spc_put hr1 A B P Q)
    have HBZ := Lib.hid (below_set4 hB1 (Nat.le_succ w.heap.size) (.int .i64 A) (.int .i64 B) (.bool P) (.bool Q))
    have Z := Lib.hid (And.intro z0 (And.intro z1 (And.intro z2 z3)))
    clear hB hr1 hB1 z0 z1 z2 z3
    go_wp2
    obtain ⟨z0, z1, z2, z3⟩ := Z.out
    exact bodyPost_ret (v := .agg #[.int .i64 A, .int .i64 B, .bool P, .bool Q]) (by simp [results, Tryz.results55, go_sem, z0, z1, z2, z3]) rfl ⟨rfl, HBZ.out⟩
end Go.Proofs.YtcmplcdbkoodpaaGreatDoor
