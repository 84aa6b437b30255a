/-
  Spans: ruled, counted, mod and arsh of some values.
-/
import Derived.Test.YtaaidjphacofgaaGreatDoorBigN
namespace Go.Proofs.YtaaidjphacofgaaGreatDoor
open Go.RowKit
set_option linter.unusedVariables false
set_option linter.unusedSimpArgs false

theorem ruled_2 (w : World) : Calls Tryz.prog 20 #[.int .i64 2] w (Ret w (.agg #[.int .i64 2, .func (.func 30) #[] #[]])) := by
  go_enter Tryz.func20, Tryz.ntmps20
  go_wp2
  exact bodyPost_ret (v := .agg #[.int .i64 2, .func (.func 30) #[] #[]]) (by simp [results, Tryz.results20, go_sem]) rfl ⟨rfl, below_map _ _⟩
theorem ruled_5 (w : World) : Calls Tryz.prog 20 #[.int .i64 5] w (Ret w (.agg #[.int .i64 5, .func (.func 33) #[] #[]])) := by
  go_enter Tryz.func20, Tryz.ntmps20
  go_wp2
  exact bodyPost_ret (v := .agg #[.int .i64 5, .func (.func 33) #[] #[]]) (by simp [results, Tryz.results20, go_sem]) rfl ⟨rfl, below_map _ _⟩
theorem ruled_13 (w : World) : Calls Tryz.prog 20 #[.int .i64 13] w (Ret w (.agg #[.int .i64 13, .func (.func 41) #[] #[]])) := by
  go_enter Tryz.func20, Tryz.ntmps20
  go_wp2
  exact bodyPost_ret (v := .agg #[.int .i64 13, .func (.func 41) #[] #[]]) (by simp [results, Tryz.results20, go_sem]) rfl ⟨rfl, below_map _ _⟩
set_option maxRecDepth 100000 in
set_option maxHeartbeats 3200000 in
theorem counted_in (a b c d : Int) (hs : (c == d) = false) (hi : (decide (0 ≤ c) && decide (d ≤ 63)) = true) (w : World) : Calls Tryz.prog 21 #[.agg #[.int .i64 a, .int .i64 b, .int .i64 c, .int .i64 d, .int .i64 0, .int .i64 0], .int .i64 64] w (Ret w (.agg #[.int .i64 a, .int .i64 b, .int .i64 c, .int .i64 d, .int .i64 c, .int .i64 d])) := by
  have hsi : ∀ w, Calls Tryz.prog 17 #[.agg #[.int .i64 c, .int .i64 d]] w (Ret w (.bool false)) := by
    intro w; have h := single_of c d w; rw [hs] at h; exact h
  have hin : ∀ w, Calls Tryz.prog 23 #[.agg #[.int .i64 c, .int .i64 d], .int .i64 0, .int .i64 63] w (Ret w (.bool true)) := by
    intro w; have h := in_of c d 0 63 w; rw [hi] at h; exact h
  have HIN := Lib.hid hin
  clear hin hs hi
  have HSI := Lib.hid hsi
  clear hsi
  go_enter Tryz.func21, Tryz.ntmps21
  go_wp2_with fail
  have r1 : Row (((w.alloc (.cells #[.int .i64 a, .int .i64 b, .int .i64 c, .int .i64 d, .int .i64 0, .int .i64 63] 38)).alloc (.cells #[.int .i64 0, .int .i64 0, .int .i64 0, .int .i64 0, .int .i64 0, .int .i64 0] 38)).alloc (.cells #[.int .i64 c, .int .i64 d] 34)) w.heap.size 38 [.int .i64 a, .int .i64 b, .int .i64 c, .int .i64 d, .int .i64 0, .int .i64 63] := ((Row.made w [.int .i64 a, .int .i64 b, .int .i64 c, .int .i64 d, .int .i64 0, .int .i64 63] 38).alloc _).alloc _
  have r2 : Row (((w.alloc (.cells #[.int .i64 a, .int .i64 b, .int .i64 c, .int .i64 d, .int .i64 0, .int .i64 63] 38)).alloc (.cells #[.int .i64 0, .int .i64 0, .int .i64 0, .int .i64 0, .int .i64 0, .int .i64 0] 38)).alloc (.cells #[.int .i64 c, .int .i64 d] 34)) (w.heap.size + 1) 38 [.int .i64 0, .int .i64 0, .int .i64 0, .int .i64 0, .int .i64 0, .int .i64 0] := (row2 w _ [.int .i64 0, .int .i64 0, .int .i64 0, .int .i64 0, .int .i64 0, .int .i64 0] _).alloc _
  have r3 : Row (((w.alloc (.cells #[.int .i64 a, .int .i64 b, .int .i64 c, .int .i64 d, .int .i64 0, .int .i64 63] 38)).alloc (.cells #[.int .i64 0, .int .i64 0, .int .i64 0, .int .i64 0, .int .i64 0, .int .i64 0] 38)).alloc (.cells #[.int .i64 c, .int .i64 d] 34)) (w.heap.size + 1 + 1) 34 [.int .i64 c, .int .i64 d] := by
    have h := row2 (w.alloc (.cells #[.int .i64 a, .int .i64 b, .int .i64 c, .int .i64 d, .int .i64 0, .int .i64 63] 38)) (.cells #[.int .i64 0, .int .i64 0, .int .i64 0, .int .i64 0, .int .i64 0, .int .i64 0] 38) [.int .i64 c, .int .i64 d] 34
    rw [size_al] at h
    exact h
  have b3 : Below w.heap.size w (((w.alloc (.cells #[.int .i64 a, .int .i64 b, .int .i64 c, .int .i64 d, .int .i64 0, .int .i64 63] 38)).alloc (.cells #[.int .i64 0, .int .i64 0, .int .i64 0, .int .i64 0, .int .i64 0, .int .i64 0] 38)).alloc (.cells #[.int .i64 c, .int .i64 d] 34)) := ((below_map w _).alloc (by simp) _).alloc (by simp; omega) _
  generalize World.alloc _ _ = wa at r1 r2 r3 b3 ⊢
  have HR := Lib.hid (And.intro r1 (And.intro r2 (And.intro r3 b3)))
  clear r1 r2 r3 b3
  refine (HSI.out _).mono ?_
  rintro e w1 ⟨rfl, hB⟩
  have HR1 := Lib.hid (And.intro (HR.out.1.below hB HR.out.1.lt) (And.intro (HR.out.2.1.below hB HR.out.2.1.lt) (And.intro (HR.out.2.2.1.below hB HR.out.2.2.1.lt) (HR.out.2.2.2.trans (hB.mono HR.out.2.2.2.size)))))
  clear hB HR
  have c0 := (HR1.out.2.2.1.cell 0).trans rfl
  have c1 := (HR1.out.2.2.1.cell 1).trans rfl
  go_wp2_with fail
  clear c0 c1
  refine (HIN.out _).mono ?_
  rintro e w2 ⟨rfl, hB⟩
  have HR2 := Lib.hid (And.intro (HR1.out.1.below hB HR1.out.1.lt) (And.intro (HR1.out.2.1.below hB HR1.out.2.1.lt) (And.intro (HR1.out.2.2.1.below hB HR1.out.2.2.1.lt) (HR1.out.2.2.2.trans (hB.mono HR1.out.2.2.2.size)))))
  clear hB HR1
  have c0 := (HR2.out.2.2.1.cell 0).trans rfl
  have c1 := (HR2.out.2.2.1.cell 1).trans rfl
  have d4 := (HR2.out.1.cell 4).trans rfl
  have d5 := (HR2.out.1.cell 5).trans rfl
  have f4 := HR2.out.1.free 4
  have f5 := HR2.out.1.free 5
  go_wp2_with fail
  go_region
  have hj : Row _ w.heap.size 38 [.int .i64 a, .int .i64 b, .int .i64 c, .int .i64 d, .int .i64 c, .int .i64 d] := ((HR2.out.1.put 4 (.int .i64 c)).put 5 (.int .i64 d)).drew
  have hz := ((HR2.out.2.1.other ⟨w.heap.size, 4, none⟩ (.int .i64 c) (by simp)).other ⟨w.heap.size, 5, none⟩ (.int .i64 d) (by simp)).drew
  have hb := ((HR2.out.2.2.2.setCell (p := ⟨w.heap.size, 4, none⟩) (Nat.le_refl _) (.int .i64 c)).setCell (p := ⟨w.heap.size, 5, none⟩) (Nat.le_refl _) (.int .i64 d)).drew
  clear c0 c1 d4 d5 f4 f5 HR2
  generalize World.drew _ = w4 at hj hz hb ⊢
  have j0 := (hj.cell 0).trans rfl
  have k0 := (hz.cell 0).trans rfl
  have n0 := hz.free 0
  have j1 := (hj.cell 1).trans rfl
  have k1 := (hz.cell 1).trans rfl
  have n1 := hz.free 1
  have j2 := (hj.cell 2).trans rfl
  have k2 := (hz.cell 2).trans rfl
  have n2 := hz.free 2
  have j3 := (hj.cell 3).trans rfl
  have k3 := (hz.cell 3).trans rfl
  have n3 := hz.free 3
  have j4 := (hj.cell 4).trans rfl
  have k4 := (hz.cell 4).trans rfl
  have n4 := hz.free 4
  have j5 := (hj.cell 5).trans rfl
  have k5 := (hz.cell 5).trans rfl
  have n5 := hz.free 5
  have hzz := ((((((hz.put 0 (.int .i64 a)).put 1 (.int .i64 b)).put 2 (.int .i64 c)).put 3 (.int .i64 d)).put 4 (.int .i64 c)).put 5 (.int .i64 d))
  have hbb := ((((((hb.setCell (p := ⟨w.heap.size + 1, 0, none⟩) (Nat.le_succ _) (.int .i64 a)).setCell (p := ⟨w.heap.size + 1, 1, none⟩) (Nat.le_succ _) (.int .i64 b)).setCell (p := ⟨w.heap.size + 1, 2, none⟩) (Nat.le_succ _) (.int .i64 c)).setCell (p := ⟨w.heap.size + 1, 3, none⟩) (Nat.le_succ _) (.int .i64 d)).setCell (p := ⟨w.heap.size + 1, 4, none⟩) (Nat.le_succ _) (.int .i64 c)).setCell (p := ⟨w.heap.size + 1, 5, none⟩) (Nat.le_succ _) (.int .i64 d))
  have z0 := (hzz.cell 0).trans rfl
  have z1 := (hzz.cell 1).trans rfl
  have z2 := (hzz.cell 2).trans rfl
  have z3 := (hzz.cell 3).trans rfl
  have z4 := (hzz.cell 4).trans rfl
  have z5 := (hzz.cell 5).trans rfl
  have Z := Lib.hid (And.intro z0 (And.intro z1 (And.intro z2 (And.intro z3 (And.intro z4 z5)))))
  have HBZ := Lib.hid hbb
  clear z0 z1 z2 z3 z4 z5 hbb hzz hj hz hb
  go_wp2
  obtain ⟨z0, z1, z2, z3, z4, z5⟩ := Z.out
  exact bodyPost_ret (v := .agg #[.int .i64 a, .int .i64 b, .int .i64 c, .int .i64 d, .int .i64 c, .int .i64 d]) (by simp [results, Tryz.results21, go_sem, z0, z1, z2, z3, z4, z5]) rfl ⟨rfl, HBZ.out⟩
set_option maxRecDepth 100000 in
set_option maxHeartbeats 3200000 in
theorem counted_one (a b c r : Int) (hbits : bits BinOp.and IntKind.i64 c 63 = r) (w : World) : Calls Tryz.prog 21 #[.agg #[.int .i64 a, .int .i64 b, .int .i64 c, .int .i64 c, .int .i64 0, .int .i64 0], .int .i64 64] w (Ret w (.agg #[.int .i64 a, .int .i64 b, .int .i64 c, .int .i64 c, .int .i64 r, .int .i64 r])) := by
  have hsi : ∀ w, Calls Tryz.prog 17 #[.agg #[.int .i64 c, .int .i64 c]] w (Ret w (.bool true)) := by
    intro w; have h := single_of c c w; rw [beq_self_eq_true] at h; exact h
  have HSI := Lib.hid hsi
  clear hsi
  go_enter Tryz.func21, Tryz.ntmps21
  go_wp2_with fail
  have r1 : Row (((w.alloc (.cells #[.int .i64 a, .int .i64 b, .int .i64 c, .int .i64 c, .int .i64 0, .int .i64 63] 38)).alloc (.cells #[.int .i64 0, .int .i64 0, .int .i64 0, .int .i64 0, .int .i64 0, .int .i64 0] 38)).alloc (.cells #[.int .i64 c, .int .i64 c] 34)) w.heap.size 38 [.int .i64 a, .int .i64 b, .int .i64 c, .int .i64 c, .int .i64 0, .int .i64 63] := ((Row.made w [.int .i64 a, .int .i64 b, .int .i64 c, .int .i64 c, .int .i64 0, .int .i64 63] 38).alloc _).alloc _
  have r2 : Row (((w.alloc (.cells #[.int .i64 a, .int .i64 b, .int .i64 c, .int .i64 c, .int .i64 0, .int .i64 63] 38)).alloc (.cells #[.int .i64 0, .int .i64 0, .int .i64 0, .int .i64 0, .int .i64 0, .int .i64 0] 38)).alloc (.cells #[.int .i64 c, .int .i64 c] 34)) (w.heap.size + 1) 38 [.int .i64 0, .int .i64 0, .int .i64 0, .int .i64 0, .int .i64 0, .int .i64 0] := (row2 w _ [.int .i64 0, .int .i64 0, .int .i64 0, .int .i64 0, .int .i64 0, .int .i64 0] _).alloc _
  have r3 : Row (((w.alloc (.cells #[.int .i64 a, .int .i64 b, .int .i64 c, .int .i64 c, .int .i64 0, .int .i64 63] 38)).alloc (.cells #[.int .i64 0, .int .i64 0, .int .i64 0, .int .i64 0, .int .i64 0, .int .i64 0] 38)).alloc (.cells #[.int .i64 c, .int .i64 c] 34)) (w.heap.size + 1 + 1) 34 [.int .i64 c, .int .i64 c] := by
    have h := row2 (w.alloc (.cells #[.int .i64 a, .int .i64 b, .int .i64 c, .int .i64 c, .int .i64 0, .int .i64 63] 38)) (.cells #[.int .i64 0, .int .i64 0, .int .i64 0, .int .i64 0, .int .i64 0, .int .i64 0] 38) [.int .i64 c, .int .i64 c] 34
    rw [size_al] at h
    exact h
  have b3 : Below w.heap.size w (((w.alloc (.cells #[.int .i64 a, .int .i64 b, .int .i64 c, .int .i64 c, .int .i64 0, .int .i64 63] 38)).alloc (.cells #[.int .i64 0, .int .i64 0, .int .i64 0, .int .i64 0, .int .i64 0, .int .i64 0] 38)).alloc (.cells #[.int .i64 c, .int .i64 c] 34)) := ((below_map w _).alloc (by simp) _).alloc (by simp; omega) _
  generalize World.alloc _ _ = wa at r1 r2 r3 b3 ⊢
  have HR := Lib.hid (And.intro r1 (And.intro r2 (And.intro r3 b3)))
  clear r1 r2 r3 b3
  refine (HSI.out _).mono ?_
  rintro e w1 ⟨rfl, hB⟩
  have HR1 := Lib.hid (And.intro (HR.out.1.below hB HR.out.1.lt) (And.intro (HR.out.2.1.below hB HR.out.2.1.lt) (And.intro (HR.out.2.2.1.below hB HR.out.2.2.1.lt) (HR.out.2.2.2.trans (hB.mono HR.out.2.2.2.size)))))
  clear hB HR
  have c0 := (HR1.out.2.2.1.cell 0).trans rfl
  have c1 := (HR1.out.2.2.1.cell 1).trans rfl
  have d4 := (HR1.out.1.cell 4).trans rfl
  have d5 := (HR1.out.1.cell 5).trans rfl
  have f4 := HR1.out.1.free 4
  have f5 := HR1.out.1.free 5
  go_wp2_with fail
  go_region
  have hj : Row _ w.heap.size 38 [.int .i64 a, .int .i64 b, .int .i64 c, .int .i64 c, .int .i64 r, .int .i64 r] := ((HR1.out.1.put 4 (.int .i64 r)).put 5 (.int .i64 r)).drew
  have hz := ((HR1.out.2.1.other ⟨w.heap.size, 4, none⟩ (.int .i64 r) (by simp)).other ⟨w.heap.size, 5, none⟩ (.int .i64 r) (by simp)).drew
  have hb := ((HR1.out.2.2.2.setCell (p := ⟨w.heap.size, 4, none⟩) (Nat.le_refl _) (.int .i64 r)).setCell (p := ⟨w.heap.size, 5, none⟩) (Nat.le_refl _) (.int .i64 r)).drew
  clear c0 c1 d4 d5 f4 f5 HR1
  generalize World.drew _ = w4 at hj hz hb ⊢
  have j0 := (hj.cell 0).trans rfl
  have k0 := (hz.cell 0).trans rfl
  have n0 := hz.free 0
  have j1 := (hj.cell 1).trans rfl
  have k1 := (hz.cell 1).trans rfl
  have n1 := hz.free 1
  have j2 := (hj.cell 2).trans rfl
  have k2 := (hz.cell 2).trans rfl
  have n2 := hz.free 2
  have j3 := (hj.cell 3).trans rfl
  have k3 := (hz.cell 3).trans rfl
  have n3 := hz.free 3
  have j4 := (hj.cell 4).trans rfl
  have k4 := (hz.cell 4).trans rfl
  have n4 := hz.free 4
  have j5 := (hj.cell 5).trans rfl
  have k5 := (hz.cell 5).trans rfl
  have n5 := hz.free 5
  have hzz := ((((((hz.put 0 (.int .i64 a)).put 1 (.int .i64 b)).put 2 (.int .i64 c)).put 3 (.int .i64 c)).put 4 (.int .i64 r)).put 5 (.int .i64 r))
  have hbb := ((((((hb.setCell (p := ⟨w.heap.size + 1, 0, none⟩) (Nat.le_succ _) (.int .i64 a)).setCell (p := ⟨w.heap.size + 1, 1, none⟩) (Nat.le_succ _) (.int .i64 b)).setCell (p := ⟨w.heap.size + 1, 2, none⟩) (Nat.le_succ _) (.int .i64 c)).setCell (p := ⟨w.heap.size + 1, 3, none⟩) (Nat.le_succ _) (.int .i64 c)).setCell (p := ⟨w.heap.size + 1, 4, none⟩) (Nat.le_succ _) (.int .i64 r)).setCell (p := ⟨w.heap.size + 1, 5, none⟩) (Nat.le_succ _) (.int .i64 r))
  have z0 := (hzz.cell 0).trans rfl
  have z1 := (hzz.cell 1).trans rfl
  have z2 := (hzz.cell 2).trans rfl
  have z3 := (hzz.cell 3).trans rfl
  have z4 := (hzz.cell 4).trans rfl
  have z5 := (hzz.cell 5).trans rfl
  have Z := Lib.hid (And.intro z0 (And.intro z1 (And.intro z2 (And.intro z3 (And.intro z4 z5)))))
  have HBZ := Lib.hid hbb
  clear z0 z1 z2 z3 z4 z5 hbb hzz hj hz hb
  go_wp2
  obtain ⟨z0, z1, z2, z3, z4, z5⟩ := Z.out
  exact bodyPost_ret (v := .agg #[.int .i64 a, .int .i64 b, .int .i64 c, .int .i64 c, .int .i64 r, .int .i64 r]) (by simp [results, Tryz.results21, go_sem, z0, z1, z2, z3, z4, z5]) rfl ⟨rfl, HBZ.out⟩
set_option maxRecDepth 100000 in
set_option maxHeartbeats 3200000 in
theorem counted_one32 (a b c r : Int) (hbits : bits BinOp.and IntKind.i64 c 31 = r) (w : World) : Calls Tryz.prog 21 #[.agg #[.int .i64 a, .int .i64 b, .int .i64 c, .int .i64 c, .int .i64 0, .int .i64 0], .int .i64 32] w (Ret w (.agg #[.int .i64 a, .int .i64 b, .int .i64 c, .int .i64 c, .int .i64 r, .int .i64 r])) := by
  have hsi : ∀ w, Calls Tryz.prog 17 #[.agg #[.int .i64 c, .int .i64 c]] w (Ret w (.bool true)) := by
    intro w; have h := single_of c c w; rw [beq_self_eq_true] at h; exact h
  have HSI := Lib.hid hsi
  clear hsi
  go_enter Tryz.func21, Tryz.ntmps21
  go_wp2_with fail
  have r1 : Row (((w.alloc (.cells #[.int .i64 a, .int .i64 b, .int .i64 c, .int .i64 c, .int .i64 0, .int .i64 31] 38)).alloc (.cells #[.int .i64 0, .int .i64 0, .int .i64 0, .int .i64 0, .int .i64 0, .int .i64 0] 38)).alloc (.cells #[.int .i64 c, .int .i64 c] 34)) w.heap.size 38 [.int .i64 a, .int .i64 b, .int .i64 c, .int .i64 c, .int .i64 0, .int .i64 31] := ((Row.made w [.int .i64 a, .int .i64 b, .int .i64 c, .int .i64 c, .int .i64 0, .int .i64 31] 38).alloc _).alloc _
  have r2 : Row (((w.alloc (.cells #[.int .i64 a, .int .i64 b, .int .i64 c, .int .i64 c, .int .i64 0, .int .i64 31] 38)).alloc (.cells #[.int .i64 0, .int .i64 0, .int .i64 0, .int .i64 0, .int .i64 0, .int .i64 0] 38)).alloc (.cells #[.int .i64 c, .int .i64 c] 34)) (w.heap.size + 1) 38 [.int .i64 0, .int .i64 0, .int .i64 0, .int .i64 0, .int .i64 0, .int .i64 0] := (row2 w _ [.int .i64 0, .int .i64 0, .int .i64 0, .int .i64 0, .int .i64 0, .int .i64 0] _).alloc _
  have r3 : Row (((w.alloc (.cells #[.int .i64 a, .int .i64 b, .int .i64 c, .int .i64 c, .int .i64 0, .int .i64 31] 38)).alloc (.cells #[.int .i64 0, .int .i64 0, .int .i64 0, .int .i64 0, .int .i64 0, .int .i64 0] 38)).alloc (.cells #[.int .i64 c, .int .i64 c] 34)) (w.heap.size + 1 + 1) 34 [.int .i64 c, .int .i64 c] := by
    have h := row2 (w.alloc (.cells #[.int .i64 a, .int .i64 b, .int .i64 c, .int .i64 c, .int .i64 0, .int .i64 31] 38)) (.cells #[.int .i64 0, .int .i64 0, .int .i64 0, .int .i64 0, .int .i64 0, .int .i64 0] 38) [.int .i64 c, .int .i64 c] 34
    rw [size_al] at h
    exact h
  have b3 : Below w.heap.size w (((w.alloc (.cells #[.int .i64 a, .int .i64 b, .int .i64 c, .int .i64 c, .int .i64 0, .int .i64 31] 38)).alloc (.cells #[.int .i64 0, .int .i64 0, .int .i64 0, .int .i64 0, .int .i64 0, .int .i64 0] 38)).alloc (.cells #[.int .i64 c, .int .i64 c] 34)) := ((below_map w _).alloc (by simp) _).alloc (by simp; omega) _
  generalize World.alloc _ _ = wa at r1 r2 r3 b3 ⊢
  have HR := Lib.hid (And.intro r1 (And.intro r2 (And.intro r3 b3)))
  clear r1 r2 r3 b3
  refine (HSI.out _).mono ?_
  rintro e w1 ⟨rfl, hB⟩
  have HR1 := Lib.hid (And.intro (HR.out.1.below hB HR.out.1.lt) (And.intro (HR.out.2.1.below hB HR.out.2.1.lt) (And.intro (HR.out.2.2.1.below hB HR.out.2.2.1.lt) (HR.out.2.2.2.trans (hB.mono HR.out.2.2.2.size)))))
  clear hB HR
  have c0 := (HR1.out.2.2.1.cell 0).trans rfl
  have c1 := (HR1.out.2.2.1.cell 1).trans rfl
  have d4 := (HR1.out.1.cell 4).trans rfl
  have d5 := (HR1.out.1.cell 5).trans rfl
  have f4 := HR1.out.1.free 4
  have f5 := HR1.out.1.free 5
  go_wp2_with fail
  go_region
  have hj : Row _ w.heap.size 38 [.int .i64 a, .int .i64 b, .int .i64 c, .int .i64 c, .int .i64 r, .int .i64 r] := ((HR1.out.1.put 4 (.int .i64 r)).put 5 (.int .i64 r)).drew
  have hz := ((HR1.out.2.1.other ⟨w.heap.size, 4, none⟩ (.int .i64 r) (by simp)).other ⟨w.heap.size, 5, none⟩ (.int .i64 r) (by simp)).drew
  have hb := ((HR1.out.2.2.2.setCell (p := ⟨w.heap.size, 4, none⟩) (Nat.le_refl _) (.int .i64 r)).setCell (p := ⟨w.heap.size, 5, none⟩) (Nat.le_refl _) (.int .i64 r)).drew
  clear c0 c1 d4 d5 f4 f5 HR1
  generalize World.drew _ = w4 at hj hz hb ⊢
  have j0 := (hj.cell 0).trans rfl
  have k0 := (hz.cell 0).trans rfl
  have n0 := hz.free 0
  have j1 := (hj.cell 1).trans rfl
  have k1 := (hz.cell 1).trans rfl
  have n1 := hz.free 1
  have j2 := (hj.cell 2).trans rfl
  have k2 := (hz.cell 2).trans rfl
  have n2 := hz.free 2
  have j3 := (hj.cell 3).trans rfl
  have k3 := (hz.cell 3).trans rfl
  have n3 := hz.free 3
  have j4 := (hj.cell 4).trans rfl
  have k4 := (hz.cell 4).trans rfl
  have n4 := hz.free 4
  have j5 := (hj.cell 5).trans rfl
  have k5 := (hz.cell 5).trans rfl
  have n5 := hz.free 5
  have hzz := ((((((hz.put 0 (.int .i64 a)).put 1 (.int .i64 b)).put 2 (.int .i64 c)).put 3 (.int .i64 c)).put 4 (.int .i64 r)).put 5 (.int .i64 r))
  have hbb := ((((((hb.setCell (p := ⟨w.heap.size + 1, 0, none⟩) (Nat.le_succ _) (.int .i64 a)).setCell (p := ⟨w.heap.size + 1, 1, none⟩) (Nat.le_succ _) (.int .i64 b)).setCell (p := ⟨w.heap.size + 1, 2, none⟩) (Nat.le_succ _) (.int .i64 c)).setCell (p := ⟨w.heap.size + 1, 3, none⟩) (Nat.le_succ _) (.int .i64 c)).setCell (p := ⟨w.heap.size + 1, 4, none⟩) (Nat.le_succ _) (.int .i64 r)).setCell (p := ⟨w.heap.size + 1, 5, none⟩) (Nat.le_succ _) (.int .i64 r))
  have z0 := (hzz.cell 0).trans rfl
  have z1 := (hzz.cell 1).trans rfl
  have z2 := (hzz.cell 2).trans rfl
  have z3 := (hzz.cell 3).trans rfl
  have z4 := (hzz.cell 4).trans rfl
  have z5 := (hzz.cell 5).trans rfl
  have Z := Lib.hid (And.intro z0 (And.intro z1 (And.intro z2 (And.intro z3 (And.intro z4 z5)))))
  have HBZ := Lib.hid hbb
  clear z0 z1 z2 z3 z4 z5 hbb hzz hj hz hb
  go_wp2
  obtain ⟨z0, z1, z2, z3, z4, z5⟩ := Z.out
  exact bodyPost_ret (v := .agg #[.int .i64 a, .int .i64 b, .int .i64 c, .int .i64 c, .int .i64 r, .int .i64 r]) (by simp [results, Tryz.results21, go_sem, z0, z1, z2, z3, z4, z5]) rfl ⟨rfl, HBZ.out⟩
set_option maxRecDepth 100000 in
set_option maxHeartbeats 6400000 in
theorem mod_18 (w : World) : Calls Tryz.prog 33 #[.agg #[.int .i64 (-9223372036854775808), .int .i64 9223372036854775807, .int .i64 1, .int .i64 8, .int .i64 1, .int .i64 8]] w (Ret w (.tuple #[.agg #[.int .i64 0, .int .i64 7, .bool false, .bool false], .bool true])) := by
  have hof : ∀ w, Calls Tryz.prog 6 #[.int .i64 0, .int .i64 7] w (Ret w (.agg #[.int .i64 0, .int .i64 7, .bool false, .bool false])) := fun w => of_of 0 7 w
  have HOF := Lib.hid hof
  have r2 : Row ((w.alloc (.cells #[.int .i64 (-9223372036854775808), .int .i64 9223372036854775807, .int .i64 1, .int .i64 8, .int .i64 1, .int .i64 8] 38)).alloc (.cells #[.int .i64 0, .int .i64 0, .bool false, .bool false] 23)) (w.heap.size + 1) 23 (spc 0 0 false false) := row2 w _ (spc 0 0 false false) _
  have b3 : Below w.heap.size w ((w.alloc (.cells #[.int .i64 (-9223372036854775808), .int .i64 9223372036854775807, .int .i64 1, .int .i64 8, .int .i64 1, .int .i64 8] 38)).alloc (.cells #[.int .i64 0, .int .i64 0, .bool false, .bool false] 23)) := (below_map w _).alloc (by simp) _
  have HS := Lib.hid (And.intro r2 b3)
  clear hof r2 b3
  go_enter Tryz.func33, Tryz.ntmps33
  go_wp2_with (go_at_call 6; refine (HOF.out _).mono ?_; rintro e w1 ⟨rfl, hB⟩; have hr1 := HS.out.1.below hB HS.out.1.lt; have hB1 := HS.out.2.trans (hB.mono HS.out.2.size); obtain ⟨⟨q0, q1, q2, q3⟩, f0, f1, f2, f3⟩ := spc_row hr1; obtain ⟨⟨z0, z1, z2, z3⟩, _⟩ := spc_row (spc_put hr1 0 7 false false); have HBZ := Lib.hid (below_set4 hB1 (Nat.le_succ w.heap.size) (.int .i64 0) (.int .i64 7) (.bool false) (.bool false)); have Z := Lib.hid (And.intro z0 (And.intro z1 (And.intro z2 z3))); clear hB hr1 hB1 z0 z1 z2 z3)
  obtain ⟨z0, z1, z2, z3⟩ := Z.out
  exact bodyPost_ret (v := .tuple #[.agg #[.int .i64 0, .int .i64 7, .bool false, .bool false], .bool true]) (by simp [results, Tryz.results33, go_sem, z0, z1, z2, z3]) rfl ⟨rfl, HBZ.out⟩
set_option maxRecDepth 100000 in
set_option maxHeartbeats 6400000 in
theorem arsh_88 (w : World) : Calls Tryz.prog 41 #[.agg #[.int .i64 (-8), .int .i64 8, .int .i64 1, .int .i64 2, .int .i64 1, .int .i64 2]] w (Ret w (.tuple #[.agg #[.int .i64 (-4), .int .i64 4, .bool false, .bool false], .bool true])) := by
  have hof : ∀ w, Calls Tryz.prog 6 #[.int .i64 (-4), .int .i64 4] w (Ret w (.agg #[.int .i64 (-4), .int .i64 4, .bool false, .bool false])) := fun w => of_of (-4) 4 w
  have HOF := Lib.hid hof
  have r2 : Row ((w.alloc (.cells #[.int .i64 (-8), .int .i64 8, .int .i64 1, .int .i64 2, .int .i64 1, .int .i64 2] 38)).alloc (.cells #[.int .i64 0, .int .i64 0, .bool false, .bool false] 23)) (w.heap.size + 1) 23 (spc 0 0 false false) := row2 w _ (spc 0 0 false false) _
  have b3 : Below w.heap.size w ((w.alloc (.cells #[.int .i64 (-8), .int .i64 8, .int .i64 1, .int .i64 2, .int .i64 1, .int .i64 2] 38)).alloc (.cells #[.int .i64 0, .int .i64 0, .bool false, .bool false] 23)) := (below_map w _).alloc (by simp) _
  have HS := Lib.hid (And.intro r2 b3)
  clear hof r2 b3
  go_enter Tryz.func41, Tryz.ntmps41
  have r1 : Row ((w.alloc (.cells #[.int .i64 (-8), .int .i64 8, .int .i64 1, .int .i64 2, .int .i64 1, .int .i64 2] 38)).alloc (.cells #[.int .i64 0, .int .i64 0, .bool false, .bool false] 23)) w.heap.size 38 [.int .i64 (-8), .int .i64 8, .int .i64 1, .int .i64 2, .int .i64 1, .int .i64 2] := (Row.made w [.int .i64 (-8), .int .i64 8, .int .i64 1, .int .i64 2, .int .i64 1, .int .i64 2] 38).alloc _
  have HJ := Lib.hid (And.intro r1 (And.intro HS.out.1 HS.out.2))
  clear r1 HS
  go_upto_region 1 with fail
  generalize World.alloc _ _ = wa at HJ ⊢
  have j4 := (HJ.out.1.cell 4).trans rfl
  have j5 := (HJ.out.1.cell 5).trans rfl
  go_region
  have hj := HJ.out.1.drew
  have hr := HJ.out.2.1.drew
  have hB := HJ.out.2.2.drew
  clear j4 j5 HJ
  generalize World.drew _ = wd at hj hr hB ⊢
  have HS := Lib.hid (And.intro hr hB)
  have HJ := Lib.hid hj
  clear hj hr hB
  have j0 := (HJ.out.cell 0).trans rfl
  have j1 := (HJ.out.cell 1).trans rfl
  have j4 := (HJ.out.cell 4).trans rfl
  have j5 := (HJ.out.cell 5).trans rfl
  go_upto_region 6 with fail
  clear j4 j5
  replace HS := Lib.hid (And.intro HS.out.1.drew HS.out.2.drew)
  go_region_with (go_at_call 6; refine (HOF.out _).mono ?_; rintro e w1 ⟨rfl, hB⟩; have hr1 := HS.out.1.below hB HS.out.1.lt; have hB1 := HS.out.2.trans (hB.mono HS.out.2.size); obtain ⟨⟨q0, q1, q2, q3⟩, f0, f1, f2, f3⟩ := spc_row hr1; obtain ⟨⟨z0, z1, z2, z3⟩, _⟩ := spc_row (spc_put hr1 (-4) 4 false false); have HBZ := Lib.hid (below_set4 hB1 (Nat.le_succ w.heap.size) (.int .i64 (-4)) (.int .i64 4) (.bool false) (.bool false)); have Z := Lib.hid (And.intro z0 (And.intro z1 (And.intro z2 z3))); clear hB hr1 hB1 z0 z1 z2 z3)
  all_goals
    clear j0 j1 q0 q1 q2 q3 f0 f1 f2 f3
    go_wp2
    obtain ⟨z0, z1, z2, z3⟩ := Z.out
    exact bodyPost_ret (v := .tuple #[.agg #[.int .i64 (-4), .int .i64 4, .bool false, .bool false], .bool true]) (by simp [results, Tryz.results41, go_sem, z0, z1, z2, z3]) rfl ⟨rfl, HBZ.out⟩
end Go.Proofs.YtaaidjphacofgaaGreatDoor
