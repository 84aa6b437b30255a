/-
  Spans: the reference's Bytes.
-/
import Derived.Test.YtnioafagehkmaaaSpanM
namespace Go.Proofs.Ytnioafagehkmaaa
open Go.RowKit
set_option linter.unusedVariables false

set_option maxRecDepth 100000 in
set_option maxHeartbeats 800000 in
theorem rbytes1true (w : World) : Calls Try.prog 15 #[.int .i64 1, .bool true] w (Ret w (ofs (-128) 127)) := by
  obtain ⟨A, B, P, Q, ho⟩ := ofs_form (-128) 127
  have hf := fun w => rspan_of (-128) (127) (by decide) (by decide) (by decide) w
  rw [ho] at hf ⊢
  clear ho
  have HF := Lib.hid hf
  have hr1 : Row (w.alloc (.cells #[.int .i64 0, .int .i64 0, .bool false, .bool false] 23)) w.heap.size 23 (spc 0 0 false false) := Row.made w (spc 0 0 false false) _
  have hB0 := (Below.refl w.heap.size w).alloc (Nat.le_refl _) (.cells #[.int .i64 0, .int .i64 0, .bool false, .bool false] 23)
  have HR1 := Lib.hid hr1
  have HB0 := Lib.hid hB0
  clear hf hr1 hB0
  go_enter Try.func15, Try.ntmps15
  go_wp2_with fail
  refine (HF.out _).mono ?_
  rintro e w1 ⟨rfl, hB⟩
  have hr1 := HR1.out.below hB HR1.out.lt
  have hB1 := HB0.out.trans (hB.mono HB0.out.size)
  obtain ⟨⟨q0, q1, q2, q3⟩, f0, f1, f2, f3⟩ := spc_row hr1
  obtain ⟨⟨z0, z1, z2, z3⟩, _⟩ := spc_row (spc_put hr1 A B P Q)
  have HB1 := Lib.hid (below_set4 hB1 (Nat.le_refl w.heap.size) (.int .i64 A) (.int .i64 B) (.bool P) (.bool Q))
  have Z := Lib.hid (And.intro z0 (And.intro z1 (And.intro z2 z3)))
  clear hB hr1 hB1 z0 z1 z2 z3
  go_wp2
  obtain ⟨z0, z1, z2, z3⟩ := Z.out
  exact bodyPost_ret (v := .agg #[.int .i64 A, .int .i64 B, .bool P, .bool Q]) (by simp [results, Try.results15, go_sem, z0, z1, z2, z3]) rfl ⟨rfl, HB1.out⟩

set_option maxRecDepth 100000 in
set_option maxHeartbeats 800000 in
theorem rbytes1false (w : World) : Calls Try.prog 15 #[.int .i64 1, .bool false] w (Ret w (ofs 0 255)) := by
  obtain ⟨A, B, P, Q, ho⟩ := ofs_form 0 255
  have hf := fun w => rspan_of (0) (255) (by decide) (by decide) (by decide) w
  rw [ho] at hf ⊢
  clear ho
  have HF := Lib.hid hf
  have hr1 : Row (w.alloc (.cells #[.int .i64 0, .int .i64 0, .bool false, .bool false] 23)) w.heap.size 23 (spc 0 0 false false) := Row.made w (spc 0 0 false false) _
  have hB0 := (Below.refl w.heap.size w).alloc (Nat.le_refl _) (.cells #[.int .i64 0, .int .i64 0, .bool false, .bool false] 23)
  have HR1 := Lib.hid hr1
  have HB0 := Lib.hid hB0
  clear hf hr1 hB0
  go_enter Try.func15, Try.ntmps15
  go_wp2_with fail
  refine (HF.out _).mono ?_
  rintro e w1 ⟨rfl, hB⟩
  have hr1 := HR1.out.below hB HR1.out.lt
  have hB1 := HB0.out.trans (hB.mono HB0.out.size)
  obtain ⟨⟨q0, q1, q2, q3⟩, f0, f1, f2, f3⟩ := spc_row hr1
  obtain ⟨⟨z0, z1, z2, z3⟩, _⟩ := spc_row (spc_put hr1 A B P Q)
  have HB1 := Lib.hid (below_set4 hB1 (Nat.le_refl w.heap.size) (.int .i64 A) (.int .i64 B) (.bool P) (.bool Q))
  have Z := Lib.hid (And.intro z0 (And.intro z1 (And.intro z2 z3)))
  clear hB hr1 hB1 z0 z1 z2 z3
  go_wp2
  obtain ⟨z0, z1, z2, z3⟩ := Z.out
  exact bodyPost_ret (v := .agg #[.int .i64 A, .int .i64 B, .bool P, .bool Q]) (by simp [results, Try.results15, go_sem, z0, z1, z2, z3]) rfl ⟨rfl, HB1.out⟩

set_option maxRecDepth 100000 in
set_option maxHeartbeats 800000 in
theorem rbytes2true (w : World) : Calls Try.prog 15 #[.int .i64 2, .bool true] w (Ret w (ofs (-32768) 32767)) := by
  obtain ⟨A, B, P, Q, ho⟩ := ofs_form (-32768) 32767
  have hf := fun w => rspan_of (-32768) (32767) (by decide) (by decide) (by decide) w
  rw [ho] at hf ⊢
  clear ho
  have HF := Lib.hid hf
  have hr1 : Row (w.alloc (.cells #[.int .i64 0, .int .i64 0, .bool false, .bool false] 23)) w.heap.size 23 (spc 0 0 false false) := Row.made w (spc 0 0 false false) _
  have hB0 := (Below.refl w.heap.size w).alloc (Nat.le_refl _) (.cells #[.int .i64 0, .int .i64 0, .bool false, .bool false] 23)
  have HR1 := Lib.hid hr1
  have HB0 := Lib.hid hB0
  clear hf hr1 hB0
  go_enter Try.func15, Try.ntmps15
  go_wp2_with fail
  refine (HF.out _).mono ?_
  rintro e w1 ⟨rfl, hB⟩
  have hr1 := HR1.out.below hB HR1.out.lt
  have hB1 := HB0.out.trans (hB.mono HB0.out.size)
  obtain ⟨⟨q0, q1, q2, q3⟩, f0, f1, f2, f3⟩ := spc_row hr1
  obtain ⟨⟨z0, z1, z2, z3⟩, _⟩ := spc_row (spc_put hr1 A B P Q)
  have HB1 := Lib.hid (below_set4 hB1 (Nat.le_refl w.heap.size) (.int .i64 A) (.int .i64 B) (.bool P) (.bool Q))
  have Z := Lib.hid (And.intro z0 (And.intro z1 (And.intro z2 z3)))
  clear hB hr1 hB1 z0 z1 z2 z3
  go_wp2
  obtain ⟨z0, z1, z2, z3⟩ := Z.out
  exact bodyPost_ret (v := .agg #[.int .i64 A, .int .i64 B, .bool P, .bool Q]) (by simp [results, Try.results15, go_sem, z0, z1, z2, z3]) rfl ⟨rfl, HB1.out⟩

set_option maxRecDepth 100000 in
set_option maxHeartbeats 800000 in
theorem rbytes2false (w : World) : Calls Try.prog 15 #[.int .i64 2, .bool false] w (Ret w (ofs 0 65535)) := by
  obtain ⟨A, B, P, Q, ho⟩ := ofs_form 0 65535
  have hf := fun w => rspan_of (0) (65535) (by decide) (by decide) (by decide) w
  rw [ho] at hf ⊢
  clear ho
  have HF := Lib.hid hf
  have hr1 : Row (w.alloc (.cells #[.int .i64 0, .int .i64 0, .bool false, .bool false] 23)) w.heap.size 23 (spc 0 0 false false) := Row.made w (spc 0 0 false false) _
  have hB0 := (Below.refl w.heap.size w).alloc (Nat.le_refl _) (.cells #[.int .i64 0, .int .i64 0, .bool false, .bool false] 23)
  have HR1 := Lib.hid hr1
  have HB0 := Lib.hid hB0
  clear hf hr1 hB0
  go_enter Try.func15, Try.ntmps15
  go_wp2_with fail
  refine (HF.out _).mono ?_
  rintro e w1 ⟨rfl, hB⟩
  have hr1 := HR1.out.below hB HR1.out.lt
  have hB1 := HB0.out.trans (hB.mono HB0.out.size)
  obtain ⟨⟨q0, q1, q2, q3⟩, f0, f1, f2, f3⟩ := spc_row hr1
  obtain ⟨⟨z0, z1, z2, z3⟩, _⟩ := spc_row (spc_put hr1 A B P Q)
  have HB1 := Lib.hid (below_set4 hB1 (Nat.le_refl w.heap.size) (.int .i64 A) (.int .i64 B) (.bool P) (.bool Q))
  have Z := Lib.hid (And.intro z0 (And.intro z1 (And.intro z2 z3)))
  clear hB hr1 hB1 z0 z1 z2 z3
  go_wp2
  obtain ⟨z0, z1, z2, z3⟩ := Z.out
  exact bodyPost_ret (v := .agg #[.int .i64 A, .int .i64 B, .bool P, .bool Q]) (by simp [results, Try.results15, go_sem, z0, z1, z2, z3]) rfl ⟨rfl, HB1.out⟩

set_option maxRecDepth 100000 in
set_option maxHeartbeats 800000 in
theorem rbytes4true (w : World) : Calls Try.prog 15 #[.int .i64 4, .bool true] w (Ret w (ofs (-2147483648) 2147483647)) := by
  obtain ⟨A, B, P, Q, ho⟩ := ofs_form (-2147483648) 2147483647
  have hf := fun w => rspan_of (-2147483648) (2147483647) (by decide) (by decide) (by decide) w
  rw [ho] at hf ⊢
  clear ho
  have HF := Lib.hid hf
  have hr1 : Row (w.alloc (.cells #[.int .i64 0, .int .i64 0, .bool false, .bool false] 23)) w.heap.size 23 (spc 0 0 false false) := Row.made w (spc 0 0 false false) _
  have hB0 := (Below.refl w.heap.size w).alloc (Nat.le_refl _) (.cells #[.int .i64 0, .int .i64 0, .bool false, .bool false] 23)
  have HR1 := Lib.hid hr1
  have HB0 := Lib.hid hB0
  clear hf hr1 hB0
  go_enter Try.func15, Try.ntmps15
  go_wp2_with fail
  refine (HF.out _).mono ?_
  rintro e w1 ⟨rfl, hB⟩
  have hr1 := HR1.out.below hB HR1.out.lt
  have hB1 := HB0.out.trans (hB.mono HB0.out.size)
  obtain ⟨⟨q0, q1, q2, q3⟩, f0, f1, f2, f3⟩ := spc_row hr1
  obtain ⟨⟨z0, z1, z2, z3⟩, _⟩ := spc_row (spc_put hr1 A B P Q)
  have HB1 := Lib.hid (below_set4 hB1 (Nat.le_refl w.heap.size) (.int .i64 A) (.int .i64 B) (.bool P) (.bool Q))
  have Z := Lib.hid (And.intro z0 (And.intro z1 (And.intro z2 z3)))
  clear hB hr1 hB1 z0 z1 z2 z3
  go_wp2
  obtain ⟨z0, z1, z2, z3⟩ := Z.out
  exact bodyPost_ret (v := .agg #[.int .i64 A, .int .i64 B, .bool P, .bool Q]) (by simp [results, Try.results15, go_sem, z0, z1, z2, z3]) rfl ⟨rfl, HB1.out⟩

set_option maxRecDepth 100000 in
set_option maxHeartbeats 800000 in
theorem rbytes4false (w : World) : Calls Try.prog 15 #[.int .i64 4, .bool false] w (Ret w (ofs 0 4294967295)) := by
  obtain ⟨A, B, P, Q, ho⟩ := ofs_form 0 4294967295
  have hf := fun w => rspan_of (0) (4294967295) (by decide) (by decide) (by decide) w
  rw [ho] at hf ⊢
  clear ho
  have HF := Lib.hid hf
  have hr1 : Row (w.alloc (.cells #[.int .i64 0, .int .i64 0, .bool false, .bool false] 23)) w.heap.size 23 (spc 0 0 false false) := Row.made w (spc 0 0 false false) _
  have hB0 := (Below.refl w.heap.size w).alloc (Nat.le_refl _) (.cells #[.int .i64 0, .int .i64 0, .bool false, .bool false] 23)
  have HR1 := Lib.hid hr1
  have HB0 := Lib.hid hB0
  clear hf hr1 hB0
  go_enter Try.func15, Try.ntmps15
  go_wp2_with fail
  refine (HF.out _).mono ?_
  rintro e w1 ⟨rfl, hB⟩
  have hr1 := HR1.out.below hB HR1.out.lt
  have hB1 := HB0.out.trans (hB.mono HB0.out.size)
  obtain ⟨⟨q0, q1, q2, q3⟩, f0, f1, f2, f3⟩ := spc_row hr1
  obtain ⟨⟨z0, z1, z2, z3⟩, _⟩ := spc_row (spc_put hr1 A B P Q)
  have HB1 := Lib.hid (below_set4 hB1 (Nat.le_refl w.heap.size) (.int .i64 A) (.int .i64 B) (.bool P) (.bool Q))
  have Z := Lib.hid (And.intro z0 (And.intro z1 (And.intro z2 z3)))
  clear hB hr1 hB1 z0 z1 z2 z3
  go_wp2
  obtain ⟨z0, z1, z2, z3⟩ := Z.out
  exact bodyPost_ret (v := .agg #[.int .i64 A, .int .i64 B, .bool P, .bool Q]) (by simp [results, Try.results15, go_sem, z0, z1, z2, z3]) rfl ⟨rfl, HB1.out⟩

set_option maxRecDepth 100000 in
set_option maxHeartbeats 800000 in
theorem rbytes_none (size : Int) (sg : Bool) (h1 : size ≠ 1) (h2 : size ≠ 2) (h4 : size ≠ 4) (w : World) : Calls Try.prog 15 #[.int .i64 size, .bool sg] w (Ret w (.agg #[.int .i64 0, .int .i64 0, .bool true, .bool true])) := by
  have g1 : (size != 1) = true := by simp [h1]
  have g2 : (size != 2) = true := by simp [h2]
  have g4 : (size != 4) = true := by simp [h4]
  obtain ⟨A, B, P, Q, hA, hB', hP, hQ⟩ : ∃ (A B : Int) (P Q : Bool), A = 0 ∧ B = 0 ∧ P = true ∧ Q = true := ⟨_, _, _, _, rfl, rfl, rfl, rfl⟩
  have hf := fun w => reffull_of w
  have HE := Lib.hid (show (Value.agg #[.int .i64 0, .int .i64 0, .bool true, .bool true]) = .agg #[.int .i64 A, .int .i64 B, .bool P, .bool Q] by rw [hA, hB', hP, hQ])
  rw [HE.out] at hf ⊢
  clear h1 h2 h4 hA hB' hP hQ
  have HF := Lib.hid hf
  have hr1 : Row (w.alloc (.cells #[.int .i64 0, .int .i64 0, .bool false, .bool false] 23)) w.heap.size 23 (spc 0 0 false false) := Row.made w (spc 0 0 false false) _
  have hB0 := (Below.refl w.heap.size w).alloc (Nat.le_refl _) (.cells #[.int .i64 0, .int .i64 0, .bool false, .bool false] 23)
  have HR1 := Lib.hid hr1
  have HB0 := Lib.hid hB0
  clear hf hr1 hB0
  go_enter Try.func15, Try.ntmps15
  go_wp2_with fail
  refine (HF.out _).mono ?_
  rintro e w1 ⟨rfl, hB⟩
  have hr1 := HR1.out.below hB HR1.out.lt
  have hB1 := HB0.out.trans (hB.mono HB0.out.size)
  obtain ⟨⟨q0, q1, q2, q3⟩, f0, f1, f2, f3⟩ := spc_row hr1
  obtain ⟨⟨z0, z1, z2, z3⟩, _⟩ := spc_row (spc_put hr1 A B P Q)
  have HB1 := Lib.hid (below_set4 hB1 (Nat.le_refl w.heap.size) (.int .i64 A) (.int .i64 B) (.bool P) (.bool Q))
  have Z := Lib.hid (And.intro z0 (And.intro z1 (And.intro z2 z3)))
  clear hB hr1 hB1 z0 z1 z2 z3
  go_wp2
  obtain ⟨z0, z1, z2, z3⟩ := Z.out
  exact bodyPost_ret (v := .agg #[.int .i64 A, .int .i64 B, .bool P, .bool Q]) (by simp [results, Try.results15, go_sem, z0, z1, z2, z3]) rfl ⟨rfl, HB1.out⟩

theorem rsbytes_of (size : Int) (sg : Bool) (w : World) : Calls Try.prog 15 #[.int .i64 size, .bool sg] w (Ret w (bytev size sg)) := by
  unfold bytev
  by_cases h1 : size = 1
  · subst h1
    cases sg
    · exact rbytes1false w
    · exact rbytes1true w
  · by_cases h2 : size = 2
    · subst h2
      cases sg
      · exact rbytes2false w
      · exact rbytes2true w
    · by_cases h4 : size = 4
      · subst h4
        cases sg
        · exact rbytes4false w
        · exact rbytes4true w
      · rw [if_neg h1, if_neg h2, if_neg h4]
        exact rbytes_none size sg h1 h2 h4 w
end Go.Proofs.Ytnioafagehkmaaa
