/-
  Spans: the program's span, Low, NotZero, Bytes.
-/
import Derived.Test.YtaaidjphacofgaaGreatDoorSpanC
namespace Go.Proofs.YtaaidjphacofgaaGreatDoor
open Go.RowKit
set_option linter.unusedVariables false

theorem ofs_form (lo hi : Int) : ∃ A B P Q, ofs lo hi = .agg #[.int .i64 A, .int .i64 B, .bool P, .bool Q] := by
  unfold ofs
  split
  · exact ⟨_, _, _, _, rfl⟩
  · exact ⟨_, _, _, _, rfl⟩
set_option maxRecDepth 100000 in
set_option maxHeartbeats 1600000 in
theorem spn_of (E F : Int) (w : World) : Calls Tryz.prog 16 #[.agg #[.int .i64 E, .int .i64 F]] w (Ret w (ofs E F)) := by
  obtain ⟨A, B, P, Q, ho⟩ := ofs_form E F
  have hof := fun w => of_of E F w
  rw [ho] at hof ⊢
  have HOF := Lib.hid hof
  have hr1 : Row ((w.alloc (.cells #[.int .i64 E, .int .i64 F] 34)).alloc (.cells #[.int .i64 0, .int .i64 0, .bool false, .bool false] 23)) (w.heap.size + 1) 23 (spc 0 0 false false) := row2c w _ (spc 0 0 false false) _
  have hB0 : Below w.heap.size w ((w.alloc (.cells #[.int .i64 E, .int .i64 F] 34)).alloc (.cells #[.int .i64 0, .int .i64 0, .bool false, .bool false] 23)) := ((Below.refl _ _).alloc (Nat.le_refl _) _).alloc (by simp) _
  have HR1 := Lib.hid hr1
  have HB0 := Lib.hid hB0
  clear hof ho hr1 hB0
  go_enter Tryz.func16, Tryz.ntmps16
  go_wp2_with fail
  refine (HOF.out _).mono ?_
  rintro e w1 ⟨rfl, hB⟩
  have hr1 := HR1.out.below hB HR1.out.lt
  have hB1 := HB0.out.trans (hB.mono HB0.out.size)
  obtain ⟨⟨q0, q1, q2, q3⟩, f0, f1, f2, f3⟩ := spc_row hr1
  obtain ⟨⟨z0, z1, z2, z3⟩, _⟩ := spc_row (spc_put hr1 A B P Q)
  have HB1 := Lib.hid (below_set4 hB1 (Nat.le_succ w.heap.size) (.int .i64 A) (.int .i64 B) (.bool P) (.bool Q))
  have Z := Lib.hid (And.intro z0 (And.intro z1 (And.intro z2 z3)))
  clear hB hr1 hB1 z0 z1 z2 z3
  go_wp2
  obtain ⟨z0, z1, z2, z3⟩ := Z.out
  exact bodyPost_ret (v := .agg #[.int .i64 A, .int .i64 B, .bool P, .bool Q]) (by simp [results, Tryz.results16, go_sem, z0, z1, z2, z3]) rfl ⟨rfl, HB1.out⟩

/-- Low of a span. -/
def lowv (lo hi : Int) (p q : Bool) : Value := ofs (llo (elo lo hi p q) (ehi lo hi p q)) (lhi (elo lo hi p q) (ehi lo hi p q))
set_option maxRecDepth 100000 in
set_option maxHeartbeats 1600000 in
theorem slow_of (lo hi : Int) (p q : Bool) (w : World) : Calls Tryz.prog 8 #[.agg #[.int .i64 lo, .int .i64 hi, .bool p, .bool q]] w (Ret w (lowv lo hi p q)) := by
  have hrd := fun w => read_of lo hi p q w
  unfold endv at hrd
  unfold lowv
  obtain ⟨E, hE⟩ : ∃ E, E = elo lo hi p q := ⟨_, rfl⟩
  obtain ⟨F, hF⟩ : ∃ F, F = ehi lo hi p q := ⟨_, rfl⟩
  rw [← hE, ← hF] at hrd ⊢
  have hlw := fun w => low_of E F w
  obtain ⟨C, hC⟩ : ∃ C, C = llo E F := ⟨_, rfl⟩
  obtain ⟨D, hD⟩ : ∃ D, D = lhi E F := ⟨_, rfl⟩
  rw [← hC, ← hD] at hlw ⊢
  have hsp := fun w => spn_of C D w
  obtain ⟨A, B, P, Q, ho⟩ := ofs_form C D
  rw [ho] at hsp ⊢
  have HRD := Lib.hid hrd
  have HLW := Lib.hid hlw
  have HSP := Lib.hid hsp
  have hr1 : Row ((w.alloc (.cells #[.int .i64 lo, .int .i64 hi, .bool p, .bool q] 23)).alloc (.cells #[.int .i64 0, .int .i64 0, .bool false, .bool false] 23)) (w.heap.size + 1) 23 (spc 0 0 false false) := row2c w _ (spc 0 0 false false) _
  have hB0 : Below w.heap.size w ((w.alloc (.cells #[.int .i64 lo, .int .i64 hi, .bool p, .bool q] 23)).alloc (.cells #[.int .i64 0, .int .i64 0, .bool false, .bool false] 23)) := ((Below.refl _ _).alloc (Nat.le_refl _) _).alloc (by simp) _
  have HR1 := Lib.hid hr1
  have HB0 := Lib.hid hB0
  clear hrd hlw hsp ho hr1 hB0 hE hF hC hD
  go_enter Tryz.func8, Tryz.ntmps8
  go_wp2_with fail
  refine (HRD.out _).mono ?_
  rintro e w1 ⟨rfl, hB⟩
  have HR2 := Lib.hid (HR1.out.below hB HR1.out.lt)
  have HB1 := Lib.hid (HB0.out.trans (hB.mono HB0.out.size))
  clear hB
  go_wp2_with fail
  refine (HLW.out _).mono ?_
  rintro e w2 ⟨rfl, hB⟩
  have HR3 := Lib.hid (HR2.out.below hB HR2.out.lt)
  have HB2 := Lib.hid (HB1.out.trans (hB.mono HB1.out.size))
  clear hB
  go_wp2_with fail
  refine (HSP.out _).mono ?_
  rintro e w3 ⟨rfl, hB⟩
  have hr1 := HR3.out.below hB HR3.out.lt
  have hB1 := HB2.out.trans (hB.mono HB2.out.size)
  obtain ⟨⟨q0, q1, q2, q3⟩, f0, f1, f2, f3⟩ := spc_row hr1
  obtain ⟨⟨z0, z1, z2, z3⟩, _⟩ := spc_row (spc_put hr1 A B P Q)
  have HBZ := Lib.hid (below_set4 hB1 (Nat.le_succ w.heap.size) (.int .i64 A) (.int .i64 B) (.bool P) (.bool Q))
  have Z := Lib.hid (And.intro z0 (And.intro z1 (And.intro z2 z3)))
  clear hB hr1 hB1 z0 z1 z2 z3
  go_wp2
  obtain ⟨z0, z1, z2, z3⟩ := Z.out
  exact bodyPost_ret (v := .agg #[.int .i64 A, .int .i64 B, .bool P, .bool Q]) (by simp [results, Tryz.results8, go_sem, z0, z1, z2, z3]) rfl ⟨rfl, HBZ.out⟩

set_option maxRecDepth 100000 in
theorem run_field0 (C D : Int) (w : World) : Sem.run Tryz.prog (Instr.field 34 (.agg #[.int .i64 C, .int .i64 D]) 0) w = .ok (.int .i64 C) w := rfl
/-- Is no number of a span 0? -/
def nzv (na : Bool) (E F : Int) : Bool := if na then decide (0 < llo E F) else (decide (0 < E) || decide (F < 0))
set_option maxRecDepth 100000 in
set_option maxHeartbeats 1600000 in
theorem notzero_of (na : Bool) (lo hi : Int) (p q : Bool) (w : World) : Calls Tryz.prog 9 #[.bool na, .agg #[.int .i64 lo, .int .i64 hi, .bool p, .bool q]] w (Ret w (.bool (nzv na (elo lo hi p q) (ehi lo hi p q)))) := by
  have hrd := fun w => read_of lo hi p q w
  unfold endv at hrd
  obtain ⟨E, hE⟩ : ∃ E, E = elo lo hi p q := ⟨_, rfl⟩
  obtain ⟨F, hF⟩ : ∃ F, F = ehi lo hi p q := ⟨_, rfl⟩
  rw [← hE, ← hF] at hrd ⊢
  have hlw := fun w => low_of E F w
  have HRD := Lib.hid hrd
  have HLW := Lib.hid hlw
  have hBa := (Below.refl w.heap.size w).alloc (Nat.le_refl _) (.cells #[.int .i64 lo, .int .i64 hi, .bool p, .bool q] 23)
  have HBA := Lib.hid hBa
  clear hrd hlw hE hF hBa
  cases na
  · have HV := Lib.hid (show nzv false E F = (decide (0 < E) || decide (F < 0)) from rfl)
    obtain ⟨d1, h1⟩ : ∃ d, decide (0 < E) = d := ⟨_, rfl⟩
    obtain ⟨d2, h2⟩ : ∃ d, decide (F < 0) = d := ⟨_, rfl⟩
    rw [HV.out, h1, h2]
    clear HV
    cases d1
    all_goals cases d2
    all_goals
      go_enter Tryz.func9, Tryz.ntmps9
      go_wp2_with fail
      refine (HRD.out _).mono ?_
      rintro e w1 ⟨rfl, hB⟩
      have hB1 := HBA.out.trans (hB.mono HBA.out.size)
      have HB2 := Lib.hid (hB1.alloc hB1.size (.cells #[.int .i64 E, .int .i64 F] 34))
      clear hB hB1
      go_wp2
      go_ret
      exact ⟨rfl, HB2.out⟩
  · have HV := Lib.hid (show nzv true E F = decide (0 < llo E F) from rfl)
    rw [HV.out]
    obtain ⟨C, hC⟩ : ∃ C, C = llo E F := ⟨_, rfl⟩
    obtain ⟨D, hD⟩ : ∃ D, D = lhi E F := ⟨_, rfl⟩
    rw [← hC, ← hD] at HLW
    rw [← hC]
    clear HV hC hD
    go_enter Tryz.func9, Tryz.ntmps9
    go_wp2_with fail
    refine (HRD.out _).mono ?_
    rintro e w1 ⟨rfl, hB⟩
    have hB1 := HBA.out.trans (hB.mono HBA.out.size)
    have HB2 := Lib.hid (hB1.alloc hB1.size (.cells #[.int .i64 E, .int .i64 F] 34))
    clear hB hB1
    go_wp2_with fail
    refine (HLW.out _).mono ?_
    rintro e w2 ⟨rfl, hB⟩
    have HB3 := Lib.hid (HB2.out.trans (hB.mono HB2.out.size))
    clear hB
    have hfl := run_field0 C D w2
    go_wp2
    go_ret
    exact ⟨rfl, HB3.out⟩

/-- The span of the numbers of so many bytes. -/
def bytev (size : Int) (sg : Bool) : Value :=
  if size = 1 then (if sg then ofs (-128) 127 else ofs 0 255) else if size = 2 then (if sg then ofs (-32768) 32767 else ofs 0 65535) else if size = 4 then (if sg then ofs (-2147483648) 2147483647 else ofs 0 4294967295)
  else .agg #[.int .i64 0, .int .i64 0, .bool true, .bool true]

set_option maxRecDepth 100000 in
set_option maxHeartbeats 800000 in
theorem bytes1true (w : World) : Calls Tryz.prog 11 #[.int .i64 1, .bool true] w (Ret w (ofs (-128) 127)) := by
  obtain ⟨A, B, P, Q, ho⟩ := ofs_form (-128) 127
  have hf := fun w => of_of (-128) 127 w
  rw [ho] at hf ⊢
  clear ho
  have HF := Lib.hid hf
  have hr1 : Row (w.alloc (.cells #[.int .i64 0, .int .i64 0, .bool false, .bool false] 23)) w.heap.size 23 (spc 0 0 false false) := Row.made w (spc 0 0 false false) _
  have hB0 := (Below.refl w.heap.size w).alloc (Nat.le_refl _) (.cells #[.int .i64 0, .int .i64 0, .bool false, .bool false] 23)
  have HR1 := Lib.hid hr1
  have HB0 := Lib.hid hB0
  clear hf hr1 hB0
  go_enter Tryz.func11, Tryz.ntmps11
  go_wp2_with fail
  refine (HF.out _).mono ?_
  rintro e w1 ⟨rfl, hB⟩
  have hr1 := HR1.out.below hB HR1.out.lt
  have hB1 := HB0.out.trans (hB.mono HB0.out.size)
  obtain ⟨⟨q0, q1, q2, q3⟩, f0, f1, f2, f3⟩ := spc_row hr1
  obtain ⟨⟨z0, z1, z2, z3⟩, _⟩ := spc_row (spc_put hr1 A B P Q)
  have HB1 := Lib.hid (below_set4 hB1 (Nat.le_refl w.heap.size) (.int .i64 A) (.int .i64 B) (.bool P) (.bool Q))
  have Z := Lib.hid (And.intro z0 (And.intro z1 (And.intro z2 z3)))
  clear hB hr1 hB1 z0 z1 z2 z3
  go_wp2
  obtain ⟨z0, z1, z2, z3⟩ := Z.out
  exact bodyPost_ret (v := .agg #[.int .i64 A, .int .i64 B, .bool P, .bool Q]) (by simp [results, Tryz.results11, go_sem, z0, z1, z2, z3]) rfl ⟨rfl, HB1.out⟩

set_option maxRecDepth 100000 in
set_option maxHeartbeats 800000 in
theorem bytes1false (w : World) : Calls Tryz.prog 11 #[.int .i64 1, .bool false] w (Ret w (ofs 0 255)) := by
  obtain ⟨A, B, P, Q, ho⟩ := ofs_form 0 255
  have hf := fun w => of_of 0 255 w
  rw [ho] at hf ⊢
  clear ho
  have HF := Lib.hid hf
  have hr1 : Row (w.alloc (.cells #[.int .i64 0, .int .i64 0, .bool false, .bool false] 23)) w.heap.size 23 (spc 0 0 false false) := Row.made w (spc 0 0 false false) _
  have hB0 := (Below.refl w.heap.size w).alloc (Nat.le_refl _) (.cells #[.int .i64 0, .int .i64 0, .bool false, .bool false] 23)
  have HR1 := Lib.hid hr1
  have HB0 := Lib.hid hB0
  clear hf hr1 hB0
  go_enter Tryz.func11, Tryz.ntmps11
  go_wp2_with fail
  refine (HF.out _).mono ?_
  rintro e w1 ⟨rfl, hB⟩
  have hr1 := HR1.out.below hB HR1.out.lt
  have hB1 := HB0.out.trans (hB.mono HB0.out.size)
  obtain ⟨⟨q0, q1, q2, q3⟩, f0, f1, f2, f3⟩ := spc_row hr1
  obtain ⟨⟨z0, z1, z2, z3⟩, _⟩ := spc_row (spc_put hr1 A B P Q)
  have HB1 := Lib.hid (below_set4 hB1 (Nat.le_refl w.heap.size) (.int .i64 A) (.int .i64 B) (.bool P) (.bool Q))
  have Z := Lib.hid (And.intro z0 (And.intro z1 (And.intro z2 z3)))
  clear hB hr1 hB1 z0 z1 z2 z3
  go_wp2
  obtain ⟨z0, z1, z2, z3⟩ := Z.out
  exact bodyPost_ret (v := .agg #[.int .i64 A, .int .i64 B, .bool P, .bool Q]) (by simp [results, Tryz.results11, go_sem, z0, z1, z2, z3]) rfl ⟨rfl, HB1.out⟩

set_option maxRecDepth 100000 in
set_option maxHeartbeats 800000 in
theorem bytes2true (w : World) : Calls Tryz.prog 11 #[.int .i64 2, .bool true] w (Ret w (ofs (-32768) 32767)) := by
  obtain ⟨A, B, P, Q, ho⟩ := ofs_form (-32768) 32767
  have hf := fun w => of_of (-32768) 32767 w
  rw [ho] at hf ⊢
  clear ho
  have HF := Lib.hid hf
  have hr1 : Row (w.alloc (.cells #[.int .i64 0, .int .i64 0, .bool false, .bool false] 23)) w.heap.size 23 (spc 0 0 false false) := Row.made w (spc 0 0 false false) _
  have hB0 := (Below.refl w.heap.size w).alloc (Nat.le_refl _) (.cells #[.int .i64 0, .int .i64 0, .bool false, .bool false] 23)
  have HR1 := Lib.hid hr1
  have HB0 := Lib.hid hB0
  clear hf hr1 hB0
  go_enter Tryz.func11, Tryz.ntmps11
  go_wp2_with fail
  refine (HF.out _).mono ?_
  rintro e w1 ⟨rfl, hB⟩
  have hr1 := HR1.out.below hB HR1.out.lt
  have hB1 := HB0.out.trans (hB.mono HB0.out.size)
  obtain ⟨⟨q0, q1, q2, q3⟩, f0, f1, f2, f3⟩ := spc_row hr1
  obtain ⟨⟨z0, z1, z2, z3⟩, _⟩ := spc_row (spc_put hr1 A B P Q)
  have HB1 := Lib.hid (below_set4 hB1 (Nat.le_refl w.heap.size) (.int .i64 A) (.int .i64 B) (.bool P) (.bool Q))
  have Z := Lib.hid (And.intro z0 (And.intro z1 (And.intro z2 z3)))
  clear hB hr1 hB1 z0 z1 z2 z3
  go_wp2
  obtain ⟨z0, z1, z2, z3⟩ := Z.out
  exact bodyPost_ret (v := .agg #[.int .i64 A, .int .i64 B, .bool P, .bool Q]) (by simp [results, Tryz.results11, go_sem, z0, z1, z2, z3]) rfl ⟨rfl, HB1.out⟩

set_option maxRecDepth 100000 in
set_option maxHeartbeats 800000 in
theorem bytes2false (w : World) : Calls Tryz.prog 11 #[.int .i64 2, .bool false] w (Ret w (ofs 0 65535)) := by
  obtain ⟨A, B, P, Q, ho⟩ := ofs_form 0 65535
  have hf := fun w => of_of 0 65535 w
  rw [ho] at hf ⊢
  clear ho
  have HF := Lib.hid hf
  have hr1 : Row (w.alloc (.cells #[.int .i64 0, .int .i64 0, .bool false, .bool false] 23)) w.heap.size 23 (spc 0 0 false false) := Row.made w (spc 0 0 false false) _
  have hB0 := (Below.refl w.heap.size w).alloc (Nat.le_refl _) (.cells #[.int .i64 0, .int .i64 0, .bool false, .bool false] 23)
  have HR1 := Lib.hid hr1
  have HB0 := Lib.hid hB0
  clear hf hr1 hB0
  go_enter Tryz.func11, Tryz.ntmps11
  go_wp2_with fail
  refine (HF.out _).mono ?_
  rintro e w1 ⟨rfl, hB⟩
  have hr1 := HR1.out.below hB HR1.out.lt
  have hB1 := HB0.out.trans (hB.mono HB0.out.size)
  obtain ⟨⟨q0, q1, q2, q3⟩, f0, f1, f2, f3⟩ := spc_row hr1
  obtain ⟨⟨z0, z1, z2, z3⟩, _⟩ := spc_row (spc_put hr1 A B P Q)
  have HB1 := Lib.hid (below_set4 hB1 (Nat.le_refl w.heap.size) (.int .i64 A) (.int .i64 B) (.bool P) (.bool Q))
  have Z := Lib.hid (And.intro z0 (And.intro z1 (And.intro z2 z3)))
  clear hB hr1 hB1 z0 z1 z2 z3
  go_wp2
  obtain ⟨z0, z1, z2, z3⟩ := Z.out
  exact bodyPost_ret (v := .agg #[.int .i64 A, .int .i64 B, .bool P, .bool Q]) (by simp [results, Tryz.results11, go_sem, z0, z1, z2, z3]) rfl ⟨rfl, HB1.out⟩

set_option maxRecDepth 100000 in
set_option maxHeartbeats 800000 in
theorem bytes4true (w : World) : Calls Tryz.prog 11 #[.int .i64 4, .bool true] w (Ret w (ofs (-2147483648) 2147483647)) := by
  obtain ⟨A, B, P, Q, ho⟩ := ofs_form (-2147483648) 2147483647
  have hf := fun w => of_of (-2147483648) 2147483647 w
  rw [ho] at hf ⊢
  clear ho
  have HF := Lib.hid hf
  have hr1 : Row (w.alloc (.cells #[.int .i64 0, .int .i64 0, .bool false, .bool false] 23)) w.heap.size 23 (spc 0 0 false false) := Row.made w (spc 0 0 false false) _
  have hB0 := (Below.refl w.heap.size w).alloc (Nat.le_refl _) (.cells #[.int .i64 0, .int .i64 0, .bool false, .bool false] 23)
  have HR1 := Lib.hid hr1
  have HB0 := Lib.hid hB0
  clear hf hr1 hB0
  go_enter Tryz.func11, Tryz.ntmps11
  go_wp2_with fail
  refine (HF.out _).mono ?_
  rintro e w1 ⟨rfl, hB⟩
  have hr1 := HR1.out.below hB HR1.out.lt
  have hB1 := HB0.out.trans (hB.mono HB0.out.size)
  obtain ⟨⟨q0, q1, q2, q3⟩, f0, f1, f2, f3⟩ := spc_row hr1
  obtain ⟨⟨z0, z1, z2, z3⟩, _⟩ := spc_row (spc_put hr1 A B P Q)
  have HB1 := Lib.hid (below_set4 hB1 (Nat.le_refl w.heap.size) (.int .i64 A) (.int .i64 B) (.bool P) (.bool Q))
  have Z := Lib.hid (And.intro z0 (And.intro z1 (And.intro z2 z3)))
  clear hB hr1 hB1 z0 z1 z2 z3
  go_wp2
  obtain ⟨z0, z1, z2, z3⟩ := Z.out
  exact bodyPost_ret (v := .agg #[.int .i64 A, .int .i64 B, .bool P, .bool Q]) (by simp [results, Tryz.results11, go_sem, z0, z1, z2, z3]) rfl ⟨rfl, HB1.out⟩

set_option maxRecDepth 100000 in
set_option maxHeartbeats 800000 in
theorem bytes4false (w : World) : Calls Tryz.prog 11 #[.int .i64 4, .bool false] w (Ret w (ofs 0 4294967295)) := by
  obtain ⟨A, B, P, Q, ho⟩ := ofs_form 0 4294967295
  have hf := fun w => of_of 0 4294967295 w
  rw [ho] at hf ⊢
  clear ho
  have HF := Lib.hid hf
  have hr1 : Row (w.alloc (.cells #[.int .i64 0, .int .i64 0, .bool false, .bool false] 23)) w.heap.size 23 (spc 0 0 false false) := Row.made w (spc 0 0 false false) _
  have hB0 := (Below.refl w.heap.size w).alloc (Nat.le_refl _) (.cells #[.int .i64 0, .int .i64 0, .bool false, .bool false] 23)
  have HR1 := Lib.hid hr1
  have HB0 := Lib.hid hB0
  clear hf hr1 hB0
  go_enter Tryz.func11, Tryz.ntmps11
  go_wp2_with fail
  refine (HF.out _).mono ?_
  rintro e w1 ⟨rfl, hB⟩
  have hr1 := HR1.out.below hB HR1.out.lt
  have hB1 := HB0.out.trans (hB.mono HB0.out.size)
  obtain ⟨⟨q0, q1, q2, q3⟩, f0, f1, f2, f3⟩ := spc_row hr1
  obtain ⟨⟨z0, z1, z2, z3⟩, _⟩ := spc_row (spc_put hr1 A B P Q)
  have HB1 := Lib.hid (below_set4 hB1 (Nat.le_refl w.heap.size) (.int .i64 A) (.int .i64 B) (.bool P) (.bool Q))
  have Z := Lib.hid (And.intro z0 (And.intro z1 (And.intro z2 z3)))
  clear hB hr1 hB1 z0 z1 z2 z3
  go_wp2
  obtain ⟨z0, z1, z2, z3⟩ := Z.out
  exact bodyPost_ret (v := .agg #[.int .i64 A, .int .i64 B, .bool P, .bool Q]) (by simp [results, Tryz.results11, go_sem, z0, z1, z2, z3]) rfl ⟨rfl, HB1.out⟩

set_option maxRecDepth 100000 in
set_option maxHeartbeats 800000 in
theorem bytes_none (size : Int) (sg : Bool) (h1 : size ≠ 1) (h2 : size ≠ 2) (h4 : size ≠ 4) (w : World) : Calls Tryz.prog 11 #[.int .i64 size, .bool sg] w (Ret w (.agg #[.int .i64 0, .int .i64 0, .bool true, .bool true])) := by
  have t1 : (size == 1) = false := by simpa using h1
  have t2 : (size == 2) = false := by simpa using h2
  have t4 : (size == 4) = false := by simpa using h4
  obtain ⟨A, B, P, Q, hA, hB', hP, hQ⟩ : ∃ (A B : Int) (P Q : Bool), A = 0 ∧ B = 0 ∧ P = true ∧ Q = true := ⟨_, _, _, _, rfl, rfl, rfl, rfl⟩
  have hf := fun w => full_of w
  have HE := Lib.hid (show (Value.agg #[.int .i64 0, .int .i64 0, .bool true, .bool true]) = .agg #[.int .i64 A, .int .i64 B, .bool P, .bool Q] by rw [hA, hB', hP, hQ])
  rw [HE.out] at hf ⊢
  clear h1 h2 h4 hA hB' hP hQ
  have HF := Lib.hid hf
  have hr1 : Row (w.alloc (.cells #[.int .i64 0, .int .i64 0, .bool false, .bool false] 23)) w.heap.size 23 (spc 0 0 false false) := Row.made w (spc 0 0 false false) _
  have hB0 := (Below.refl w.heap.size w).alloc (Nat.le_refl _) (.cells #[.int .i64 0, .int .i64 0, .bool false, .bool false] 23)
  have HR1 := Lib.hid hr1
  have HB0 := Lib.hid hB0
  clear hf hr1 hB0
  go_enter Tryz.func11, Tryz.ntmps11
  go_wp2_with fail
  refine (HF.out _).mono ?_
  rintro e w1 ⟨rfl, hB⟩
  have hr1 := HR1.out.below hB HR1.out.lt
  have hB1 := HB0.out.trans (hB.mono HB0.out.size)
  obtain ⟨⟨q0, q1, q2, q3⟩, f0, f1, f2, f3⟩ := spc_row hr1
  obtain ⟨⟨z0, z1, z2, z3⟩, _⟩ := spc_row (spc_put hr1 A B P Q)
  have HB1 := Lib.hid (below_set4 hB1 (Nat.le_refl w.heap.size) (.int .i64 A) (.int .i64 B) (.bool P) (.bool Q))
  have Z := Lib.hid (And.intro z0 (And.intro z1 (And.intro z2 z3)))
  clear hB hr1 hB1 z0 z1 z2 z3
  go_wp2
  obtain ⟨z0, z1, z2, z3⟩ := Z.out
  exact bodyPost_ret (v := .agg #[.int .i64 A, .int .i64 B, .bool P, .bool Q]) (by simp [results, Tryz.results11, go_sem, z0, z1, z2, z3]) rfl ⟨rfl, HB1.out⟩

theorem sbytes_of (size : Int) (sg : Bool) (w : World) : Calls Tryz.prog 11 #[.int .i64 size, .bool sg] w (Ret w (bytev size sg)) := by
  unfold bytev
  by_cases h1 : size = 1
  · subst h1
    cases sg
    · exact bytes1false w
    · exact bytes1true w
  · by_cases h2 : size = 2
    · subst h2
      cases sg
      · exact bytes2false w
      · exact bytes2true w
    · by_cases h4 : size = 4
      · subst h4
        cases sg
        · exact bytes4false w
        · exact bytes4true w
      · rw [if_neg h1, if_neg h2, if_neg h4]
        exact bytes_none size sg h1 h2 h4 w
end Go.Proofs.YtaaidjphacofgaaGreatDoor
