/-
  Spans: fit, ruled, counted of what the awake call asks.
-/
import Derived.Test.YtaaidjphacofgaaGreatDoorBigD
import Derived.Test.YtaaidjphacofgaaGreatDoorSpanD
import Derived.Laws.EntriesVeiled
import Derived.BigRegion
namespace Go.Proofs.YtaaidjphacofgaaGreatDoor
open Go.RowKit
set_option linter.unusedVariables false
set_option linter.unusedSimpArgs false

set_option maxRecDepth 100000 in
set_option maxHeartbeats 3200000 in
theorem fit_small (a b : Nat) (x y : Int) (hx : 0 < x ∧ x < 1152921504606846976) (hy : 0 < y ∧ y < 1152921504606846976) (w : World) (ha : BP w a false x) (hb : BP w b false y) :
    Calls Tryz.prog 43 #[.pointer (some ⟨a, 0, none⟩), .pointer (some ⟨b, 0, none⟩)] w (Ret w (.tuple #[.agg #[.int .i64 x, .int .i64 y, .bool false, .bool false], .bool true])) := by
  have HF := Lib.hid (fun w p q => from_small a b x y hx hy w p q)
  have HIA := Lib.hid (fun w p => isint64_1 a false x w p (by omega))
  have HIB := Lib.hid (fun w p => isint64_1 b false y w p (by omega))
  have hr1 : Row (w.alloc (.cells #[.int .i64 0, .int .i64 0, .bool false, .bool false] 23)) w.heap.size 23 (spc 0 0 false false) := Row.made w (spc 0 0 false false) _
  have hB0 := below_map w (.cells #[.int .i64 0, .int .i64 0, .bool false, .bool false] 23)
  have HS := Lib.hid (And.intro hr1 (And.intro hB0 (And.intro (ha.below hB0) (hb.below hB0))))
  clear hr1 hB0 ha hb hx hy
  go_enter Tryz.func43, Tryz.ntmps43
  go_wp2_with (go_at_call 80; refine (HF.out _ HS.out.2.2.1 HS.out.2.2.2).mono ?_; rintro e w1 ⟨rfl, hB⟩; have HA1 := Lib.hid (HS.out.2.2.1.below hB); have HB1 := Lib.hid (HS.out.2.2.2.below hB); have hr1 := HS.out.1.below hB HS.out.1.lt; have hB1 := HS.out.2.1.trans (hB.mono HS.out.2.1.size); obtain ⟨⟨q0, q1, q2, q3⟩, f0, f1, f2, f3⟩ := spc_row hr1; obtain ⟨⟨z0, z1, z2, z3⟩, _⟩ := spc_row (spc_put hr1 x y false false); have HBZ := Lib.hid (below_set4 hB1 (Nat.le_refl w.heap.size) (.int .i64 x) (.int .i64 y) (.bool false) (.bool false)); have Z := Lib.hid (And.intro z0 (And.intro z1 (And.intro z2 z3))); clear hB hr1 hB1 z0 z1 z2 z3)
  refine (HIA.out _ HA1.out).mono ?_
  rintro e w2 ⟨rfl, rfl⟩
  go_wp2_with fail
  refine (HIB.out _ HB1.out).mono ?_
  rintro e w2 ⟨rfl, rfl⟩
  go_wp2
  obtain ⟨z0, z1, z2, z3⟩ := Z.out
  exact bodyPost_ret (v := .tuple #[.agg #[.int .i64 x, .int .i64 y, .bool false, .bool false], .bool true]) (by simp [results, Tryz.results43, go_sem, z0, z1, z2, z3]) rfl ⟨rfl, HBZ.out⟩
theorem single_of (E F : Int) (w : World) : Calls Tryz.prog 17 #[.agg #[.int .i64 E, .int .i64 F]] w (Ret w (.bool (E == F))) := by
  generalize hd : (E == F) = d
  go_enter Tryz.func17, Tryz.ntmps17
  go_wp2
  go_ret
  exact ⟨rfl, below_map _ _⟩
set_option maxRecDepth 100000 in
theorem ruled_add (w : World) : Calls Tryz.prog 20 #[.int .i64 1] w (Ret w (.agg #[.int .i64 1, .func (.func 29) #[] #[]])) := by
  go_enter Tryz.func20, Tryz.ntmps20
  go_wp2
  exact bodyPost_ret (v := .agg #[.int .i64 1, .func (.func 29) #[] #[]]) (by simp [results, Tryz.results20, go_sem]) rfl ⟨rfl, below_map _ _⟩
set_option maxRecDepth 100000 in
theorem counted_1 (w : World) : Calls Tryz.prog 21 #[.agg #[.int .i64 1, .int .i64 5, .int .i64 10, .int .i64 20, .int .i64 0, .int .i64 0], .int .i64 64] w (Ret w (.agg #[.int .i64 1, .int .i64 5, .int .i64 10, .int .i64 20, .int .i64 10, .int .i64 20])) := by
  have hin : ∀ w, Calls Tryz.prog 23 #[.agg #[.int .i64 10, .int .i64 20], .int .i64 0, .int .i64 63] w (Ret w (.bool true)) := fun w => in_of 10 20 0 63 w
  have hsi : ∀ w, Calls Tryz.prog 17 #[.agg #[.int .i64 10, .int .i64 20]] w (Ret w (.bool false)) := fun w => single_of 10 20 w
  have HIN := Lib.hid hin
  have HSI := Lib.hid hsi
  clear hin hsi
  go_enter Tryz.func21, Tryz.ntmps21
  go_wp2_with fail
  have r1 : Row (((w.alloc (.cells #[.int .i64 1, .int .i64 5, .int .i64 10, .int .i64 20, .int .i64 0, .int .i64 63] 38)).alloc (.cells #[.int .i64 0, .int .i64 0, .int .i64 0, .int .i64 0, .int .i64 0, .int .i64 0] 38)).alloc (.cells #[.int .i64 10, .int .i64 20] 34)) w.heap.size 38 [.int .i64 1, .int .i64 5, .int .i64 10, .int .i64 20, .int .i64 0, .int .i64 63] := ((Row.made w [.int .i64 1, .int .i64 5, .int .i64 10, .int .i64 20, .int .i64 0, .int .i64 63] 38).alloc _).alloc _
  have r2 : Row (((w.alloc (.cells #[.int .i64 1, .int .i64 5, .int .i64 10, .int .i64 20, .int .i64 0, .int .i64 63] 38)).alloc (.cells #[.int .i64 0, .int .i64 0, .int .i64 0, .int .i64 0, .int .i64 0, .int .i64 0] 38)).alloc (.cells #[.int .i64 10, .int .i64 20] 34)) (w.heap.size + 1) 38 [.int .i64 0, .int .i64 0, .int .i64 0, .int .i64 0, .int .i64 0, .int .i64 0] := (row2 w _ [.int .i64 0, .int .i64 0, .int .i64 0, .int .i64 0, .int .i64 0, .int .i64 0] _).alloc _
  have r3 : Row (((w.alloc (.cells #[.int .i64 1, .int .i64 5, .int .i64 10, .int .i64 20, .int .i64 0, .int .i64 63] 38)).alloc (.cells #[.int .i64 0, .int .i64 0, .int .i64 0, .int .i64 0, .int .i64 0, .int .i64 0] 38)).alloc (.cells #[.int .i64 10, .int .i64 20] 34)) (w.heap.size + 1 + 1) 34 [.int .i64 10, .int .i64 20] := by
    have h := row2 (w.alloc (.cells #[.int .i64 1, .int .i64 5, .int .i64 10, .int .i64 20, .int .i64 0, .int .i64 63] 38)) (.cells #[.int .i64 0, .int .i64 0, .int .i64 0, .int .i64 0, .int .i64 0, .int .i64 0] 38) [.int .i64 10, .int .i64 20] 34
    have e : (w.alloc (.cells #[.int .i64 1, .int .i64 5, .int .i64 10, .int .i64 20, .int .i64 0, .int .i64 63] 38)).heap.size = w.heap.size + 1 := by simp
    rw [e] at h
    exact h
  have b3 : Below w.heap.size w (((w.alloc (.cells #[.int .i64 1, .int .i64 5, .int .i64 10, .int .i64 20, .int .i64 0, .int .i64 63] 38)).alloc (.cells #[.int .i64 0, .int .i64 0, .int .i64 0, .int .i64 0, .int .i64 0, .int .i64 0] 38)).alloc (.cells #[.int .i64 10, .int .i64 20] 34)) := ((below_map w _).alloc (by simp) _).alloc (by simp; omega) _
  generalize World.alloc _ _ = wa at r1 r2 r3 b3 ⊢
  have HR := Lib.hid (And.intro r1 (And.intro r2 (And.intro r3 b3)))
  clear r1 r2 r3 b3
  refine (HSI.out _).mono ?_
  rintro e w1 ⟨rfl, hB⟩
  have HR1 := Lib.hid (And.intro (HR.out.1.below hB HR.out.1.lt) (And.intro (HR.out.2.1.below hB HR.out.2.1.lt) (And.intro (HR.out.2.2.1.below hB HR.out.2.2.1.lt) (HR.out.2.2.2.trans (hB.mono HR.out.2.2.2.size)))))
  clear hB HR
  have c0 := (HR1.out.2.2.1.cell 0).trans rfl
  have c1 := (HR1.out.2.2.1.cell 1).trans rfl
  go_wp2_with fail
  clear c0 c1
  refine (HIN.out _).mono ?_
  rintro e w2 ⟨rfl, hB⟩
  have HR2 := Lib.hid (And.intro (HR1.out.1.below hB HR1.out.1.lt) (And.intro (HR1.out.2.1.below hB HR1.out.2.1.lt) (And.intro (HR1.out.2.2.1.below hB HR1.out.2.2.1.lt) (HR1.out.2.2.2.trans (hB.mono HR1.out.2.2.2.size)))))
  clear hB HR1
  have c0 := (HR2.out.2.2.1.cell 0).trans rfl
  have c1 := (HR2.out.2.2.1.cell 1).trans rfl
  have d4 := (HR2.out.1.cell 4).trans rfl
  have d5 := (HR2.out.1.cell 5).trans rfl
  have f4 := HR2.out.1.free 4
  have f5 := HR2.out.1.free 5
  go_wp2_with fail
  go_region
  have hj : Row _ w.heap.size 38 [.int .i64 1, .int .i64 5, .int .i64 10, .int .i64 20, .int .i64 10, .int .i64 20] := ((HR2.out.1.put 4 (.int .i64 10)).put 5 (.int .i64 20)).drew
  have hz := ((HR2.out.2.1.other ⟨w.heap.size, 4, none⟩ (.int .i64 10) (by simp)).other ⟨w.heap.size, 5, none⟩ (.int .i64 20) (by simp)).drew
  have hb := ((HR2.out.2.2.2.setCell (p := ⟨w.heap.size, 4, none⟩) (Nat.le_refl _) (.int .i64 10)).setCell (p := ⟨w.heap.size, 5, none⟩) (Nat.le_refl _) (.int .i64 20)).drew
  clear c0 c1 d4 d5 f4 f5 HR2
  generalize World.drew _ = w4 at hj hz hb ⊢
  have j0 := (hj.cell 0).trans rfl
  have j1 := (hj.cell 1).trans rfl
  have j2 := (hj.cell 2).trans rfl
  have j3 := (hj.cell 3).trans rfl
  have j4 := (hj.cell 4).trans rfl
  have j5 := (hj.cell 5).trans rfl
  have k0 := (hz.cell 0).trans rfl
  have n0 := hz.free 0
  have k1 := (hz.cell 1).trans rfl
  have n1 := hz.free 1
  have k2 := (hz.cell 2).trans rfl
  have n2 := hz.free 2
  have k3 := (hz.cell 3).trans rfl
  have n3 := hz.free 3
  have k4 := (hz.cell 4).trans rfl
  have n4 := hz.free 4
  have k5 := (hz.cell 5).trans rfl
  have n5 := hz.free 5
  have hzz := ((((((hz.put 0 (.int .i64 1)).put 1 (.int .i64 5)).put 2 (.int .i64 10)).put 3 (.int .i64 20)).put 4 (.int .i64 10)).put 5 (.int .i64 20))
  have hbb := ((((((hb.setCell (p := ⟨w.heap.size + 1, 0, none⟩) (Nat.le_succ _) (.int .i64 1)).setCell (p := ⟨w.heap.size + 1, 1, none⟩) (Nat.le_succ _) (.int .i64 5)).setCell (p := ⟨w.heap.size + 1, 2, none⟩) (Nat.le_succ _) (.int .i64 10)).setCell (p := ⟨w.heap.size + 1, 3, none⟩) (Nat.le_succ _) (.int .i64 20)).setCell (p := ⟨w.heap.size + 1, 4, none⟩) (Nat.le_succ _) (.int .i64 10)).setCell (p := ⟨w.heap.size + 1, 5, none⟩) (Nat.le_succ _) (.int .i64 20))
  have z0 := (hzz.cell 0).trans rfl
  have z1 := (hzz.cell 1).trans rfl
  have z2 := (hzz.cell 2).trans rfl
  have z3 := (hzz.cell 3).trans rfl
  have z4 := (hzz.cell 4).trans rfl
  have z5 := (hzz.cell 5).trans rfl
  have Z := Lib.hid (And.intro z0 (And.intro z1 (And.intro z2 (And.intro z3 (And.intro z4 z5)))))
  have HBZ := Lib.hid hbb
  clear z0 z1 z2 z3 z4 z5 hbb hzz hj hz hb
  go_wp2
  obtain ⟨z0, z1, z2, z3, z4, z5⟩ := Z.out
  exact bodyPost_ret (v := .agg #[.int .i64 1, .int .i64 5, .int .i64 10, .int .i64 20, .int .i64 10, .int .i64 20]) (by simp [results, Tryz.results21, go_sem, z0, z1, z2, z3, z4, z5]) rfl ⟨rfl, HBZ.out⟩
end Go.Proofs.YtaaidjphacofgaaGreatDoor
