/-
  Spans: the reference's least, most.
-/
import Derived.Test.YtcmplcdbkoodpaaGreatDoorSpanH
namespace Go.Proofs.YtcmplcdbkoodpaaGreatDoor
open Go.RowKit
set_option linter.unusedVariables false

theorem wd_form (v : Int) : ∃ A a0 a1, wd v = .agg #[.bool A, .int .u32 a0, .int .u32 a1, .int .u32 0, .int .u32 0] := ⟨_, _, _, rfl⟩
def wdc (A : Bool) (a0 a1 : Int) : List Value := [.bool A, .int .u32 a0, .int .u32 a1, .int .u32 0, .int .u32 0]
theorem wdc_row {w : World} {b : Nat} {e : TypeId} {A : Bool} {a0 a1 : Int} (h : Row w b e (wdc A a0 a1)) :
    (w.cell? ⟨b, 0, none⟩ = some (.bool A) ∧ w.cell? ⟨b, 1, none⟩ = some (.int .u32 a0) ∧ w.cell? ⟨b, 2, none⟩ = some (.int .u32 a1) ∧ w.cell? ⟨b, 3, none⟩ = some (.int .u32 0) ∧ w.cell? ⟨b, 4, none⟩ = some (.int .u32 0)) ∧
    (w.frozen? ⟨b, 0, none⟩ = false ∧ w.frozen? ⟨b, 1, none⟩ = false ∧ w.frozen? ⟨b, 2, none⟩ = false ∧ w.frozen? ⟨b, 3, none⟩ = false ∧ w.frozen? ⟨b, 4, none⟩ = false) :=
  ⟨⟨by rw [h.cell]; rfl, by rw [h.cell]; rfl, by rw [h.cell]; rfl, by rw [h.cell]; rfl, by rw [h.cell]; rfl⟩, h.free _, h.free _, h.free _, h.free _, h.free _⟩
theorem wdc_put {w : World} {b : Nat} {e : TypeId} {A : Bool} {a0 a1 : Int} (h : Row w b e (wdc A a0 a1)) (B : Bool) (b0 b1 : Int) :
    Row (((((w.setCell ⟨b, 0, none⟩ (.bool B)).setCell ⟨b, 1, none⟩ (.int .u32 b0)).setCell ⟨b, 2, none⟩ (.int .u32 b1)).setCell ⟨b, 3, none⟩ (.int .u32 0)).setCell ⟨b, 4, none⟩ (.int .u32 0)) b e (wdc B b0 b1) :=
  ((((h.put 0 (.bool B)).put 1 (.int .u32 b0)).put 2 (.int .u32 b1)).put 3 (.int .u32 0)).put 4 (.int .u32 0)
theorem below_set5 {w0 w : World} {B b : Nat} (h : Below B w0 w) (hb : B ≤ b) (x0 x1 x2 x3 x4 : Value) : Below B w0 (((((w.setCell ⟨b, 0, none⟩ x0).setCell ⟨b, 1, none⟩ x1).setCell ⟨b, 2, none⟩ x2).setCell ⟨b, 3, none⟩ x3).setCell ⟨b, 4, none⟩ x4) :=
  ((((h.setCell hb _).setCell hb _).setCell hb _).setCell hb _).setCell hb _
theorem row3c (w : World) (o o' : Obj) (cs : List Value) (e : TypeId) : Row (((w.alloc o).alloc o').alloc (.cells cs.toArray e)) (w.heap.size + 2) e cs := by
  have := Row.made ((w.alloc o).alloc o') cs e
  simpa using this

/-- The least of two. -/
def leastv (x y : Int) : Int := if y < x then y else x
set_option maxRecDepth 100000 in
set_option maxHeartbeats 1600000 in
theorem least_of (x y : Int) (hx : -9223372036854775808 ≤ x ∧ x ≤ 9223372036854775807) (hy : -9223372036854775808 ≤ y ∧ y ≤ 9223372036854775807) (w : World) : Calls Tryz.prog 151 #[wd x, wd y] w (Ret w (wd (leastv x y))) := by
  have hc := fun w => cmp_of y x hy hx w
  have hv : wd (leastv x y) = if decide (cmpv y x < 0) then wd y else wd x := by
    unfold leastv cmpv
    (repeat' split) <;> first | rfl | (simp_all; done) | (exfalso; simp_all; omega)
  have hcr : -1 ≤ cmpv y x ∧ cmpv y x ≤ 1 := by unfold cmpv; (repeat' split) <;> omega
  rw [hv]
  obtain ⟨A, a0, a1, ha⟩ := wd_form x
  obtain ⟨B, b0, b1, hb⟩ := wd_form y
  rw [ha, hb] at hc ⊢
  obtain ⟨C, hC⟩ : ∃ C, cmpv y x = C := ⟨_, rfl⟩
  rw [hC] at hc hcr ⊢
  have hr0 : Row (((w.alloc (.cells #[.bool A, .int .u32 a0, .int .u32 a1, .int .u32 0, .int .u32 0] 97)).alloc (.cells #[.bool B, .int .u32 b0, .int .u32 b1, .int .u32 0, .int .u32 0] 97)).alloc (.cells #[.bool false, .int .u32 0, .int .u32 0, .int .u32 0, .int .u32 0] 97)) w.heap.size 97 (wdc A a0 a1) := ((Row.made w (wdc A a0 a1) 97).alloc _).alloc _
  have hr1 : Row (((w.alloc (.cells #[.bool A, .int .u32 a0, .int .u32 a1, .int .u32 0, .int .u32 0] 97)).alloc (.cells #[.bool B, .int .u32 b0, .int .u32 b1, .int .u32 0, .int .u32 0] 97)).alloc (.cells #[.bool false, .int .u32 0, .int .u32 0, .int .u32 0, .int .u32 0] 97)) (w.heap.size + 1) 97 (wdc B b0 b1) := (row2c w _ (wdc B b0 b1) _).alloc _
  have hr2 : Row (((w.alloc (.cells #[.bool A, .int .u32 a0, .int .u32 a1, .int .u32 0, .int .u32 0] 97)).alloc (.cells #[.bool B, .int .u32 b0, .int .u32 b1, .int .u32 0, .int .u32 0] 97)).alloc (.cells #[.bool false, .int .u32 0, .int .u32 0, .int .u32 0, .int .u32 0] 97)) (w.heap.size + 2) 97 (wdc false 0 0) := row3c w _ _ (wdc false 0 0) _
  have hB0 : Below w.heap.size w (((w.alloc (.cells #[.bool A, .int .u32 a0, .int .u32 a1, .int .u32 0, .int .u32 0] 97)).alloc (.cells #[.bool B, .int .u32 b0, .int .u32 b1, .int .u32 0, .int .u32 0] 97)).alloc (.cells #[.bool false, .int .u32 0, .int .u32 0, .int .u32 0, .int .u32 0] 97)) := (((Below.refl _ _).alloc (Nat.le_refl _) _).alloc (by simp) _).alloc (by simp; omega) _
  have HR0 := Lib.hid hr0
  have HR1 := Lib.hid hr1
  have HR2 := Lib.hid hr2
  have HB0 := Lib.hid hB0
  have HC := Lib.hid hc
  clear hv hC ha hb hc hr0 hr1 hr2 hB0 hx hy hcr
  obtain ⟨d, hd⟩ : ∃ d, decide (C < 0) = d := ⟨_, rfl⟩
  rw [hd]
  cases d
  · go_enter Tryz.func151, Tryz.ntmps151
    go_wp2_with fail
    refine (HC.out _).mono ?_
    rintro e w1 ⟨rfl, hB⟩
    have hr0 := HR0.out.below hB HR0.out.lt
    have hr2 := HR2.out.below hB HR2.out.lt
    have hB1 := HB0.out.trans (hB.mono HB0.out.size)
    obtain ⟨⟨q0, q1, q2, q3, q4⟩, f0, f1, f2, f3, f4⟩ := wdc_row hr0
    obtain ⟨⟨c0, c1, c2, c3, c4⟩, g0, g1, g2, g3, g4⟩ := wdc_row hr2
    obtain ⟨⟨z0, z1, z2, z3, z4⟩, _⟩ := wdc_row (wdc_put hr2 A a0 a1)
    have HBZ := Lib.hid (below_set5 hB1 (show w.heap.size ≤ w.heap.size + 2 by omega) (.bool A) (.int .u32 a0) (.int .u32 a1) (.int .u32 0) (.int .u32 0))
    have Z := Lib.hid (And.intro z0 (And.intro z1 (And.intro z2 (And.intro z3 z4))))
    clear hB hr0 hr2 hB1 z0 z1 z2 z3 z4
    go_wp2
    obtain ⟨z0, z1, z2, z3, z4⟩ := Z.out
    exact bodyPost_ret (v := .agg #[.bool A, .int .u32 a0, .int .u32 a1, .int .u32 0, .int .u32 0]) (by simp [results, Tryz.results151, go_sem, z0, z1, z2, z3, z4]) rfl ⟨rfl, HBZ.out⟩
  · go_enter Tryz.func151, Tryz.ntmps151
    go_wp2_with fail
    refine (HC.out _).mono ?_
    rintro e w1 ⟨rfl, hB⟩
    have hr0 := HR1.out.below hB HR1.out.lt
    have hr2 := HR2.out.below hB HR2.out.lt
    have hB1 := HB0.out.trans (hB.mono HB0.out.size)
    obtain ⟨⟨q0, q1, q2, q3, q4⟩, f0, f1, f2, f3, f4⟩ := wdc_row hr0
    obtain ⟨⟨c0, c1, c2, c3, c4⟩, g0, g1, g2, g3, g4⟩ := wdc_row hr2
    obtain ⟨⟨z0, z1, z2, z3, z4⟩, _⟩ := wdc_row (wdc_put hr2 B b0 b1)
    have HBZ := Lib.hid (below_set5 hB1 (show w.heap.size ≤ w.heap.size + 2 by omega) (.bool B) (.int .u32 b0) (.int .u32 b1) (.int .u32 0) (.int .u32 0))
    have Z := Lib.hid (And.intro z0 (And.intro z1 (And.intro z2 (And.intro z3 z4))))
    clear hB hr0 hr2 hB1 z0 z1 z2 z3 z4
    go_wp2
    obtain ⟨z0, z1, z2, z3, z4⟩ := Z.out
    exact bodyPost_ret (v := .agg #[.bool B, .int .u32 b0, .int .u32 b1, .int .u32 0, .int .u32 0]) (by simp [results, Tryz.results151, go_sem, z0, z1, z2, z3, z4]) rfl ⟨rfl, HBZ.out⟩

/-- The most of two. -/
def mostv (x y : Int) : Int := if x < y then y else x
set_option maxRecDepth 100000 in
set_option maxHeartbeats 1600000 in
theorem most_of (x y : Int) (hx : -9223372036854775808 ≤ x ∧ x ≤ 9223372036854775807) (hy : -9223372036854775808 ≤ y ∧ y ≤ 9223372036854775807) (w : World) : Calls Tryz.prog 152 #[wd x, wd y] w (Ret w (wd (mostv x y))) := by
  have hc := fun w => cmp_of y x hy hx w
  have hv : wd (mostv x y) = if decide (0 < cmpv y x) then wd y else wd x := by
    unfold mostv cmpv
    (repeat' split) <;> first | rfl | (simp_all; done) | (exfalso; simp_all; omega)
  have hcr : -1 ≤ cmpv y x ∧ cmpv y x ≤ 1 := by unfold cmpv; (repeat' split) <;> omega
  rw [hv]
  obtain ⟨A, a0, a1, ha⟩ := wd_form x
  obtain ⟨B, b0, b1, hb⟩ := wd_form y
  rw [ha, hb] at hc ⊢
  obtain ⟨C, hC⟩ : ∃ C, cmpv y x = C := ⟨_, rfl⟩
  rw [hC] at hc hcr ⊢
  have hr0 : Row (((w.alloc (.cells #[.bool A, .int .u32 a0, .int .u32 a1, .int .u32 0, .int .u32 0] 97)).alloc (.cells #[.bool B, .int .u32 b0, .int .u32 b1, .int .u32 0, .int .u32 0] 97)).alloc (.cells #[.bool false, .int .u32 0, .int .u32 0, .int .u32 0, .int .u32 0] 97)) w.heap.size 97 (wdc A a0 a1) := ((Row.made w (wdc A a0 a1) 97).alloc _).alloc _
  have hr1 : Row (((w.alloc (.cells #[.bool A, .int .u32 a0, .int .u32 a1, .int .u32 0, .int .u32 0] 97)).alloc (.cells #[.bool B, .int .u32 b0, .int .u32 b1, .int .u32 0, .int .u32 0] 97)).alloc (.cells #[.bool false, .int .u32 0, .int .u32 0, .int .u32 0, .int .u32 0] 97)) (w.heap.size + 1) 97 (wdc B b0 b1) := (row2c w _ (wdc B b0 b1) _).alloc _
  have hr2 : Row (((w.alloc (.cells #[.bool A, .int .u32 a0, .int .u32 a1, .int .u32 0, .int .u32 0] 97)).alloc (.cells #[.bool B, .int .u32 b0, .int .u32 b1, .int .u32 0, .int .u32 0] 97)).alloc (.cells #[.bool false, .int .u32 0, .int .u32 0, .int .u32 0, .int .u32 0] 97)) (w.heap.size + 2) 97 (wdc false 0 0) := row3c w _ _ (wdc false 0 0) _
  have hB0 : Below w.heap.size w (((w.alloc (.cells #[.bool A, .int .u32 a0, .int .u32 a1, .int .u32 0, .int .u32 0] 97)).alloc (.cells #[.bool B, .int .u32 b0, .int .u32 b1, .int .u32 0, .int .u32 0] 97)).alloc (.cells #[.bool false, .int .u32 0, .int .u32 0, .int .u32 0, .int .u32 0] 97)) := (((Below.refl _ _).alloc (Nat.le_refl _) _).alloc (by simp) _).alloc (by simp; omega) _
  have HR0 := Lib.hid hr0
  have HR1 := Lib.hid hr1
  have HR2 := Lib.hid hr2
  have HB0 := Lib.hid hB0
  have HC := Lib.hid hc
  clear hv hC ha hb hc hr0 hr1 hr2 hB0 hx hy hcr
  obtain ⟨d, hd⟩ : ∃ d, decide (0 < C) = d := ⟨_, rfl⟩
  rw [hd]
  cases d
  · go_enter Tryz.func152, Tryz.ntmps152
    go_wp2_with fail
    refine (HC.out _).mono ?_
    rintro e w1 ⟨rfl, hB⟩
    have hr0 := HR0.out.below hB HR0.out.lt
    have hr2 := HR2.out.below hB HR2.out.lt
    have hB1 := HB0.out.trans (hB.mono HB0.out.size)
    obtain ⟨⟨q0, q1, q2, q3, q4⟩, f0, f1, f2, f3, f4⟩ := wdc_row hr0
    obtain ⟨⟨c0, c1, c2, c3, c4⟩, g0, g1, g2, g3, g4⟩ := wdc_row hr2
    obtain ⟨⟨z0, z1, z2, z3, z4⟩, _⟩ := wdc_row (wdc_put hr2 A a0 a1)
    have HBZ := Lib.hid (below_set5 hB1 (show w.heap.size ≤ w.heap.size + 2 by omega) (.bool A) (.int .u32 a0) (.int .u32 a1) (.int .u32 0) (.int .u32 0))
    have Z := Lib.hid (And.intro z0 (And.intro z1 (And.intro z2 (And.intro z3 z4))))
    clear hB hr0 hr2 hB1 z0 z1 z2 z3 z4
    go_wp2
    obtain ⟨z0, z1, z2, z3, z4⟩ := Z.out
    exact bodyPost_ret (v := .agg #[.bool A, .int .u32 a0, .int .u32 a1, .int .u32 0, .int .u32 0]) (by simp [results, Tryz.results152, go_sem, z0, z1, z2, z3, z4]) rfl ⟨rfl, HBZ.out⟩
  · go_enter Tryz.func152, Tryz.ntmps152
    go_wp2_with fail
    refine (HC.out _).mono ?_
    rintro e w1 ⟨rfl, hB⟩
    have hr0 := HR1.out.below hB HR1.out.lt
    have hr2 := HR2.out.below hB HR2.out.lt
    have hB1 := HB0.out.trans (hB.mono HB0.out.size)
    obtain ⟨⟨q0, q1, q2, q3, q4⟩, f0, f1, f2, f3, f4⟩ := wdc_row hr0
    obtain ⟨⟨c0, c1, c2, c3, c4⟩, g0, g1, g2, g3, g4⟩ := wdc_row hr2
    obtain ⟨⟨z0, z1, z2, z3, z4⟩, _⟩ := wdc_row (wdc_put hr2 B b0 b1)
    have HBZ := Lib.hid (below_set5 hB1 (show w.heap.size ≤ w.heap.size + 2 by omega) (.bool B) (.int .u32 b0) (.int .u32 b1) (.int .u32 0) (.int .u32 0))
    have Z := Lib.hid (And.intro z0 (And.intro z1 (And.intro z2 (And.intro z3 z4))))
    clear hB hr0 hr2 hB1 z0 z1 z2 z3 z4
    go_wp2
    obtain ⟨z0, z1, z2, z3, z4⟩ := Z.out
    exact bodyPost_ret (v := .agg #[.bool B, .int .u32 b0, .int .u32 b1, .int .u32 0, .int .u32 0]) (by simp [results, Tryz.results152, go_sem, z0, z1, z2, z3, z4]) rfl ⟨rfl, HBZ.out⟩
end Go.Proofs.YtcmplcdbkoodpaaGreatDoor
