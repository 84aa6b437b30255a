/-
  Spans: the reference's read, ends, Has, floor.
-/
import Derived.Test.YtcmplcdbkoodpaaGreatDoorSpanE
import Derived.Deep.Cut
namespace Go.Proofs.YtcmplcdbkoodpaaGreatDoor
open Go.RowKit
set_option linter.unusedVariables false

/-- A span as it is read. -/
def rlo (lo hi : Int) (p q : Bool) : Int := if Snd lo hi p q then lo else 0
def rhi (lo hi : Int) (p q : Bool) : Int := if Snd lo hi p q then hi else 0
def rp (lo hi : Int) (p q : Bool) : Bool := if Snd lo hi p q then p else true
def rq (lo hi : Int) (p q : Bool) : Bool := if Snd lo hi p q then q else true

set_option maxRecDepth 100000 in
set_option maxHeartbeats 1600000 in
theorem rread_of (lo hi : Int) (p q : Bool) (w : World) : Calls Tryz.prog 54 #[.agg #[.int .i64 lo, .int .i64 hi, .bool p, .bool q]] w (Ret w (.agg #[.int .i64 (rlo lo hi p q), .int .i64 (rhi lo hi p q), .bool (rp lo hi p q), .bool (rq lo hi p q)])) := by
  have hso := fun w => sound_of lo hi p q w
  have hr0 : Row ((w.alloc (.cells #[.int .i64 lo, .int .i64 hi, .bool p, .bool q] 23)).alloc (.cells #[.int .i64 0, .int .i64 0, .bool false, .bool false] 23)) w.heap.size 23 (spc lo hi p q) := (Row.made w (spc lo hi p q) 23).alloc _
  have hr1 : Row ((w.alloc (.cells #[.int .i64 lo, .int .i64 hi, .bool p, .bool q] 23)).alloc (.cells #[.int .i64 0, .int .i64 0, .bool false, .bool false] 23)) (w.heap.size + 1) 23 (spc 0 0 false false) := row2c w _ (spc 0 0 false false) _
  have hB0 : Below w.heap.size w ((w.alloc (.cells #[.int .i64 lo, .int .i64 hi, .bool p, .bool q] 23)).alloc (.cells #[.int .i64 0, .int .i64 0, .bool false, .bool false] 23)) := ((Below.refl _ _).alloc (Nat.le_refl _) _).alloc (by simp) _
  have HR0 := Lib.hid hr0
  have HR1 := Lib.hid hr1
  have HB0 := Lib.hid hB0
  clear hr0 hr1 hB0
  by_cases hs : Snd lo hi p q
  · have HV := Lib.hid (show (Value.agg #[.int .i64 (rlo lo hi p q), .int .i64 (rhi lo hi p q), .bool (rp lo hi p q), .bool (rq lo hi p q)]) = .agg #[.int .i64 lo, .int .i64 hi, .bool p, .bool q] by simp only [rlo, rhi, rp, rq, if_pos hs])
    rw [HV.out]
    rw [show decide (Snd lo hi p q) = true by simpa using hs] at hso
    have HSO := Lib.hid hso
    clear hso HV hs
    go_enter Tryz.func54, Tryz.ntmps54
    go_wp2_with fail
    refine (HSO.out _).mono ?_
    rintro e w1 ⟨rfl, hB⟩
    have hr0 := HR0.out.below hB HR0.out.lt
    have hr1 := HR1.out.below hB HR1.out.lt
    have hB1 := HB0.out.trans (hB.mono HB0.out.size)
    obtain ⟨⟨q0, q1, q2, q3⟩, f0, f1, f2, f3⟩ := spc_row hr0
    obtain ⟨⟨c0, c1, c2, c3⟩, g0, g1, g2, g3⟩ := spc_row hr1
    obtain ⟨⟨z0, z1, z2, z3⟩, _⟩ := spc_row (spc_put hr1 lo hi p q)
    have HB1 := Lib.hid (below_set4 hB1 (Nat.le_succ w.heap.size) (.int .i64 lo) (.int .i64 hi) (.bool p) (.bool q))
    have Z := Lib.hid (And.intro z0 (And.intro z1 (And.intro z2 z3)))
    clear hB hr0 hr1 hB1 z0 z1 z2 z3
    go_wp2
    obtain ⟨z0, z1, z2, z3⟩ := Z.out
    exact bodyPost_ret (v := .agg #[.int .i64 lo, .int .i64 hi, .bool p, .bool q]) (by simp [results, Tryz.results54, go_sem, z0, z1, z2, z3]) rfl ⟨rfl, HB1.out⟩
  · have HV := Lib.hid (show (Value.agg #[.int .i64 (rlo lo hi p q), .int .i64 (rhi lo hi p q), .bool (rp lo hi p q), .bool (rq lo hi p q)]) = .agg #[.int .i64 0, .int .i64 0, .bool true, .bool true] by simp only [rlo, rhi, rp, rq, if_neg hs])
    rw [HV.out]
    rw [show decide (Snd lo hi p q) = false by simpa using hs] at hso
    have HSO := Lib.hid hso
    clear hso HV hs
    go_enter Tryz.func54, Tryz.ntmps54
    go_wp2_with fail
    refine (HSO.out _).mono ?_
    rintro e w1 ⟨rfl, hB⟩
    have HR2 := Lib.hid (HR1.out.below hB HR1.out.lt)
    have HB1 := Lib.hid (HB0.out.trans (hB.mono HB0.out.size))
    clear hB
    go_wp2_with fail
    refine (reffull_of _).mono ?_
    rintro e w2 ⟨rfl, hB⟩
    have hr1 := HR2.out.below hB HR2.out.lt
    have hB1 := HB1.out.trans (hB.mono HB1.out.size)
    obtain ⟨⟨c0, c1, c2, c3⟩, g0, g1, g2, g3⟩ := spc_row hr1
    obtain ⟨⟨z0, z1, z2, z3⟩, _⟩ := spc_row (spc_put hr1 0 0 true true)
    have HBZ := Lib.hid (below_set4 hB1 (Nat.le_succ w.heap.size) (.int .i64 0) (.int .i64 0) (.bool true) (.bool true))
    have Z := Lib.hid (And.intro z0 (And.intro z1 (And.intro z2 z3)))
    clear hB hr1 hB1 z0 z1 z2 z3
    go_wp2
    obtain ⟨z0, z1, z2, z3⟩ := Z.out
    exact bodyPost_ret (v := .agg #[.int .i64 0, .int .i64 0, .bool true, .bool true]) (by simp [results, Tryz.results54, go_sem, z0, z1, z2, z3]) rfl ⟨rfl, HBZ.out⟩

theorem elo_r (lo hi : Int) (p q : Bool) : elo lo hi p q = if rp lo hi p q then -9223372036854775808 else rlo lo hi p q := by
  unfold elo rp rlo
  split
  · rfl
  · rfl
theorem ehi_r (lo hi : Int) (p q : Bool) : ehi lo hi p q = if rq lo hi p q then 9223372036854775807 else rhi lo hi p q := by
  unfold ehi rq rhi
  split
  · rfl
  · rfl

set_option maxRecDepth 100000 in
set_option maxHeartbeats 1600000 in
theorem rends_of (lo hi : Int) (p q : Bool) (w : World) : Calls Tryz.prog 39 #[.agg #[.int .i64 lo, .int .i64 hi, .bool p, .bool q]] w (Ret w (endv lo hi p q)) := by
  have hrd := fun w => rread_of lo hi p q w
  unfold endv
  rw [elo_r, ehi_r]
  obtain ⟨L, hL⟩ : ∃ L, L = rlo lo hi p q := ⟨_, rfl⟩
  obtain ⟨H, hH⟩ : ∃ H, H = rhi lo hi p q := ⟨_, rfl⟩
  obtain ⟨P, hP⟩ : ∃ P, P = rp lo hi p q := ⟨_, rfl⟩
  obtain ⟨Q, hQ⟩ : ∃ Q, Q = rq lo hi p q := ⟨_, rfl⟩
  rw [← hL, ← hH, ← hP, ← hQ] at hrd ⊢
  have HRD := Lib.hid hrd
  have hr0 : Row ((w.alloc (.cells #[.int .i64 lo, .int .i64 hi, .bool p, .bool q] 23)).alloc (.cells #[.int .i64 0, .int .i64 0] 66)) w.heap.size 23 (spc lo hi p q) := (Row.made w (spc lo hi p q) 23).alloc _
  have hr1 : Row ((w.alloc (.cells #[.int .i64 lo, .int .i64 hi, .bool p, .bool q] 23)).alloc (.cells #[.int .i64 0, .int .i64 0] 66)) (w.heap.size + 1) 66 (edc 0 0) := row2c w _ (edc 0 0) _
  have hB0 : Below w.heap.size w ((w.alloc (.cells #[.int .i64 lo, .int .i64 hi, .bool p, .bool q] 23)).alloc (.cells #[.int .i64 0, .int .i64 0] 66)) := ((Below.refl _ _).alloc (Nat.le_refl _) _).alloc (by simp) _
  have HR0 := Lib.hid hr0
  have HR1 := Lib.hid hr1
  have HB0 := Lib.hid hB0
  clear hr0 hr1 hB0 hL hH hP hQ hrd
  cases P
  · cases Q
    · go_enter Tryz.func39, Tryz.ntmps39
      go_wp2_with fail
      refine (HRD.out _).mono ?_
      rintro e w1 ⟨rfl, hB⟩
      have hr0 := HR0.out.below hB HR0.out.lt
      have hr1 := HR1.out.below hB HR1.out.lt
      have hB1 := HB0.out.trans (hB.mono HB0.out.size)
      obtain ⟨⟨q0, q1, q2, q3⟩, f0, f1, f2, f3⟩ := spc_row hr0
      have hne : w.heap.size + 1 ≠ w.heap.size := by omega
      have hra := spc_put hr0 L H false false
      have hrb := (((hr1.other ⟨w.heap.size, 0, none⟩ (.int .i64 L) hne).other ⟨w.heap.size, 1, none⟩ (.int .i64 H) hne).other ⟨w.heap.size, 2, none⟩ (.bool false) hne).other ⟨w.heap.size, 3, none⟩ (.bool false) hne
      have hBa := below_set4 hB1 (Nat.le_refl w.heap.size) (.int .i64 L) (.int .i64 H) (.bool false) (.bool false)
      have HRA := Lib.hid hra
      have HRB := Lib.hid hrb
      have HBA := Lib.hid hBa
      clear hB hr0 hr1 hB1 hra hrb hBa
      go_upto_region 2 with fail
      clear q0 q1 q2 q3 f0 f1 f2 f3
      generalize ((((w1.setCell ⟨w.heap.size, 0, none⟩ (.int .i64 L)).setCell ⟨w.heap.size, 1, none⟩ (.int .i64 H)).setCell ⟨w.heap.size, 2, none⟩ (.bool false)).setCell ⟨w.heap.size, 3, none⟩ (.bool false)) = w2 at HRA HRB HBA ⊢
      obtain ⟨⟨q0, q1, q2, q3⟩, f0, f1, f2, f3⟩ := spc_row HRA.out
      have hr1 := (edc_put HRB.out L H).alloc (.cells #[.int .i64 L, .int .i64 H] 66)
      have hB0 := (HBA.out.setCell (p := ⟨w.heap.size + 1, 0, none⟩) (Nat.le_succ _) (.int .i64 L)).setCell (p := ⟨w.heap.size + 1, 1, none⟩) (Nat.le_succ _) (.int .i64 H)
      have hB1 := hB0.alloc hB0.size (.cells #[.int .i64 L, .int .i64 H] 66)
      obtain ⟨⟨c0, c1⟩, g0, g1⟩ := edc_row HRB.out
      obtain ⟨⟨z0, z1⟩, _⟩ := edc_row hr1
      have HB1 := Lib.hid hB1
      have Z := Lib.hid (And.intro z0 z1)
      have HL := Lib.hid HRB.out.lt
      have hl := HRB.out.lt
      have hl0 := HRA.out.lt
      clear HRA HRB HBA hr1 hB0 hB1 z0 z1
      go_wp2
      obtain ⟨z0, z1⟩ := Z.out
      exact bodyPost_ret (v := .agg #[.int .i64 L, .int .i64 H]) (by simp [results, Tryz.results39, go_sem, z0, z1]) rfl ⟨rfl, HB1.out⟩
    · go_enter Tryz.func39, Tryz.ntmps39
      go_wp2_with fail
      refine (HRD.out _).mono ?_
      rintro e w1 ⟨rfl, hB⟩
      have hr0 := HR0.out.below hB HR0.out.lt
      have hr1 := HR1.out.below hB HR1.out.lt
      have hB1 := HB0.out.trans (hB.mono HB0.out.size)
      obtain ⟨⟨q0, q1, q2, q3⟩, f0, f1, f2, f3⟩ := spc_row hr0
      have hne : w.heap.size + 1 ≠ w.heap.size := by omega
      have hra := spc_put hr0 L H false true
      have hrb := (((hr1.other ⟨w.heap.size, 0, none⟩ (.int .i64 L) hne).other ⟨w.heap.size, 1, none⟩ (.int .i64 H) hne).other ⟨w.heap.size, 2, none⟩ (.bool false) hne).other ⟨w.heap.size, 3, none⟩ (.bool true) hne
      have hBa := below_set4 hB1 (Nat.le_refl w.heap.size) (.int .i64 L) (.int .i64 H) (.bool false) (.bool true)
      have HRA := Lib.hid hra
      have HRB := Lib.hid hrb
      have HBA := Lib.hid hBa
      clear hB hr0 hr1 hB1 hra hrb hBa
      go_upto_region 2 with fail
      clear q0 q1 q2 q3 f0 f1 f2 f3
      generalize ((((w1.setCell ⟨w.heap.size, 0, none⟩ (.int .i64 L)).setCell ⟨w.heap.size, 1, none⟩ (.int .i64 H)).setCell ⟨w.heap.size, 2, none⟩ (.bool false)).setCell ⟨w.heap.size, 3, none⟩ (.bool true)) = w2 at HRA HRB HBA ⊢
      obtain ⟨⟨q0, q1, q2, q3⟩, f0, f1, f2, f3⟩ := spc_row HRA.out
      have hr1 := (edc_put HRB.out L 9223372036854775807).alloc (.cells #[.int .i64 L, .int .i64 9223372036854775807] 66)
      have hB0 := (HBA.out.setCell (p := ⟨w.heap.size + 1, 0, none⟩) (Nat.le_succ _) (.int .i64 L)).setCell (p := ⟨w.heap.size + 1, 1, none⟩) (Nat.le_succ _) (.int .i64 9223372036854775807)
      have hB1 := hB0.alloc hB0.size (.cells #[.int .i64 L, .int .i64 9223372036854775807] 66)
      obtain ⟨⟨c0, c1⟩, g0, g1⟩ := edc_row HRB.out
      obtain ⟨⟨z0, z1⟩, _⟩ := edc_row hr1
      have HB1 := Lib.hid hB1
      have Z := Lib.hid (And.intro z0 z1)
      have HL := Lib.hid HRB.out.lt
      have hl := HRB.out.lt
      have hl0 := HRA.out.lt
      clear HRA HRB HBA hr1 hB0 hB1 z0 z1
      go_wp2
      obtain ⟨z0, z1⟩ := Z.out
      exact bodyPost_ret (v := .agg #[.int .i64 L, .int .i64 9223372036854775807]) (by simp [results, Tryz.results39, go_sem, z0, z1]) rfl ⟨rfl, HB1.out⟩
  · cases Q
    · go_enter Tryz.func39, Tryz.ntmps39
      go_wp2_with fail
      refine (HRD.out _).mono ?_
      rintro e w1 ⟨rfl, hB⟩
      have hr0 := HR0.out.below hB HR0.out.lt
      have hr1 := HR1.out.below hB HR1.out.lt
      have hB1 := HB0.out.trans (hB.mono HB0.out.size)
      obtain ⟨⟨q0, q1, q2, q3⟩, f0, f1, f2, f3⟩ := spc_row hr0
      have hne : w.heap.size + 1 ≠ w.heap.size := by omega
      have hra := spc_put hr0 L H true false
      have hrb := (((hr1.other ⟨w.heap.size, 0, none⟩ (.int .i64 L) hne).other ⟨w.heap.size, 1, none⟩ (.int .i64 H) hne).other ⟨w.heap.size, 2, none⟩ (.bool true) hne).other ⟨w.heap.size, 3, none⟩ (.bool false) hne
      have hBa := below_set4 hB1 (Nat.le_refl w.heap.size) (.int .i64 L) (.int .i64 H) (.bool true) (.bool false)
      have HRA := Lib.hid hra
      have HRB := Lib.hid hrb
      have HBA := Lib.hid hBa
      clear hB hr0 hr1 hB1 hra hrb hBa
      go_upto_region 2 with fail
      clear q0 q1 q2 q3 f0 f1 f2 f3
      generalize ((((w1.setCell ⟨w.heap.size, 0, none⟩ (.int .i64 L)).setCell ⟨w.heap.size, 1, none⟩ (.int .i64 H)).setCell ⟨w.heap.size, 2, none⟩ (.bool true)).setCell ⟨w.heap.size, 3, none⟩ (.bool false)) = w2 at HRA HRB HBA ⊢
      obtain ⟨⟨q0, q1, q2, q3⟩, f0, f1, f2, f3⟩ := spc_row HRA.out
      have hr1 := (edc_put HRB.out (-9223372036854775808) H).alloc (.cells #[.int .i64 (-9223372036854775808), .int .i64 H] 66)
      have hB0 := (HBA.out.setCell (p := ⟨w.heap.size + 1, 0, none⟩) (Nat.le_succ _) (.int .i64 (-9223372036854775808))).setCell (p := ⟨w.heap.size + 1, 1, none⟩) (Nat.le_succ _) (.int .i64 H)
      have hB1 := hB0.alloc hB0.size (.cells #[.int .i64 (-9223372036854775808), .int .i64 H] 66)
      obtain ⟨⟨c0, c1⟩, g0, g1⟩ := edc_row HRB.out
      obtain ⟨⟨z0, z1⟩, _⟩ := edc_row hr1
      have HB1 := Lib.hid hB1
      have Z := Lib.hid (And.intro z0 z1)
      have HL := Lib.hid HRB.out.lt
      have hl := HRB.out.lt
      have hl0 := HRA.out.lt
      clear HRA HRB HBA hr1 hB0 hB1 z0 z1
      go_wp2
      obtain ⟨z0, z1⟩ := Z.out
      exact bodyPost_ret (v := .agg #[.int .i64 (-9223372036854775808), .int .i64 H]) (by simp [results, Tryz.results39, go_sem, z0, z1]) rfl ⟨rfl, HB1.out⟩
    · go_enter Tryz.func39, Tryz.ntmps39
      go_wp2_with fail
      refine (HRD.out _).mono ?_
      rintro e w1 ⟨rfl, hB⟩
      have hr0 := HR0.out.below hB HR0.out.lt
      have hr1 := HR1.out.below hB HR1.out.lt
      have hB1 := HB0.out.trans (hB.mono HB0.out.size)
      obtain ⟨⟨q0, q1, q2, q3⟩, f0, f1, f2, f3⟩ := spc_row hr0
      have hne : w.heap.size + 1 ≠ w.heap.size := by omega
      have hra := spc_put hr0 L H true true
      have hrb := (((hr1.other ⟨w.heap.size, 0, none⟩ (.int .i64 L) hne).other ⟨w.heap.size, 1, none⟩ (.int .i64 H) hne).other ⟨w.heap.size, 2, none⟩ (.bool true) hne).other ⟨w.heap.size, 3, none⟩ (.bool true) hne
      have hBa := below_set4 hB1 (Nat.le_refl w.heap.size) (.int .i64 L) (.int .i64 H) (.bool true) (.bool true)
      have HRA := Lib.hid hra
      have HRB := Lib.hid hrb
      have HBA := Lib.hid hBa
      clear hB hr0 hr1 hB1 hra hrb hBa
      go_upto_region 2 with fail
      clear q0 q1 q2 q3 f0 f1 f2 f3
      generalize ((((w1.setCell ⟨w.heap.size, 0, none⟩ (.int .i64 L)).setCell ⟨w.heap.size, 1, none⟩ (.int .i64 H)).setCell ⟨w.heap.size, 2, none⟩ (.bool true)).setCell ⟨w.heap.size, 3, none⟩ (.bool true)) = w2 at HRA HRB HBA ⊢
      obtain ⟨⟨q0, q1, q2, q3⟩, f0, f1, f2, f3⟩ := spc_row HRA.out
      have hr1 := (edc_put HRB.out (-9223372036854775808) 9223372036854775807).alloc (.cells #[.int .i64 (-9223372036854775808), .int .i64 9223372036854775807] 66)
      have hB0 := (HBA.out.setCell (p := ⟨w.heap.size + 1, 0, none⟩) (Nat.le_succ _) (.int .i64 (-9223372036854775808))).setCell (p := ⟨w.heap.size + 1, 1, none⟩) (Nat.le_succ _) (.int .i64 9223372036854775807)
      have hB1 := hB0.alloc hB0.size (.cells #[.int .i64 (-9223372036854775808), .int .i64 9223372036854775807] 66)
      obtain ⟨⟨c0, c1⟩, g0, g1⟩ := edc_row HRB.out
      obtain ⟨⟨z0, z1⟩, _⟩ := edc_row hr1
      have HB1 := Lib.hid hB1
      have Z := Lib.hid (And.intro z0 z1)
      have HL := Lib.hid HRB.out.lt
      have hl := HRB.out.lt
      have hl0 := HRA.out.lt
      clear HRA HRB HBA hr1 hB0 hB1 z0 z1
      go_wp2
      obtain ⟨z0, z1⟩ := Z.out
      exact bodyPost_ret (v := .agg #[.int .i64 (-9223372036854775808), .int .i64 9223372036854775807]) (by simp [results, Tryz.results39, go_sem, z0, z1]) rfl ⟨rfl, HB1.out⟩
end Go.Proofs.YtcmplcdbkoodpaaGreatDoor
