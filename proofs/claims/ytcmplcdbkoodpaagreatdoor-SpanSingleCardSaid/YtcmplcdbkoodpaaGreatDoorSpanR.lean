/-
  Spans: the program's Swap and Extend.
-/
import Derived.Test.YtcmplcdbkoodpaaGreatDoorSpanQ
import Derived.Test.YtcmplcdbkoodpaaGreatDoorBigE
namespace Go.Proofs.YtcmplcdbkoodpaaGreatDoor
open Go.RowKit
set_option linter.unusedVariables false
set_option linter.unusedSimpArgs false

/-- What a walk over a span keeps: the argument's box, the result's, the ends. -/
structure SK (w : World) (b : Nat) (et : TypeId) (E F lo hi : Int) (p q : Bool) (c : World) : Prop where
  src : Row c w.heap.size 23 (spc lo hi p q)
  res : Row c (w.heap.size + 1) 23 (spc 0 0 false false)
  ends : Row c b et (edc E F)
  bel : Below w.heap.size w c
theorem SK.below {w : World} {b : Nat} {et : TypeId} {E F lo hi : Int} {p q : Bool} {c c' : World} (h : SK w b et E F lo hi p q c) (hB : Below c.heap.size c c') : SK w b et E F lo hi p q c' :=
  ⟨h.src.below hB h.src.lt, h.res.below hB h.res.lt, h.ends.below hB h.ends.lt, h.bel.trans (hB.mono h.bel.size)⟩
theorem SK.all {w : World} {b : Nat} {et : TypeId} {E F lo hi : Int} {p q : Bool} {c : World} (h : SK w b et E F lo hi p q c) :
    (c.cell? ⟨b, 0, none⟩ = some (.int .i64 E) ∧ c.cell? ⟨b, 1, none⟩ = some (.int .i64 F)) ∧
    (c.cell? ⟨w.heap.size, 0, none⟩ = some (.int .i64 lo) ∧ c.cell? ⟨w.heap.size, 1, none⟩ = some (.int .i64 hi) ∧ c.cell? ⟨w.heap.size, 2, none⟩ = some (.bool p) ∧ c.cell? ⟨w.heap.size, 3, none⟩ = some (.bool q)) ∧
    (c.cell? ⟨w.heap.size + 1, 0, none⟩ = some (.int .i64 0) ∧ c.cell? ⟨w.heap.size + 1, 1, none⟩ = some (.int .i64 0) ∧ c.cell? ⟨w.heap.size + 1, 2, none⟩ = some (.bool false) ∧ c.cell? ⟨w.heap.size + 1, 3, none⟩ = some (.bool false)) ∧
    c.frozen? ⟨w.heap.size + 1, 0, none⟩ = false ∧ c.frozen? ⟨w.heap.size + 1, 1, none⟩ = false ∧ c.frozen? ⟨w.heap.size + 1, 2, none⟩ = false ∧ c.frozen? ⟨w.heap.size + 1, 3, none⟩ = false := by
  obtain ⟨e0, e1⟩ := (edc_row h.ends).1
  exact ⟨⟨e0, e1⟩, (spc_row h.src).1, (spc_row h.res)⟩
set_option maxRecDepth 100000 in
set_option maxHeartbeats 600000 in
theorem swap_leaf_other (size : Int) (t : Bool) (lo hi : Int) (p q : Bool) (E F A B : Int) (P Q : Bool) (hrd : ∀ w, Calls Tryz.prog 29 #[.agg #[.int .i64 lo, .int .i64 hi, .bool p, .bool q]] w (Ret w (.agg #[.int .i64 E, .int .i64 F]))) (n1 : (size != 16) = true) (n2 : (size != 32) = true) (n3 : (size != 64) = true) (hfin : (∀ w, Calls Tryz.prog 19 #[] w (Ret w (.agg #[.int .i64 A, .int .i64 B, .bool P, .bool Q])))) (w : World) :
    Calls Tryz.prog 22 #[.int .i64 size, .bool t, .agg #[.int .i64 lo, .int .i64 hi, .bool p, .bool q]] w (Ret w (.agg #[.int .i64 A, .int .i64 B, .bool P, .bool Q])) := by
  have HRD := Lib.hid hrd
  have Hhfin := Lib.hid hfin
  clear hrd hfin
  have r1 : Row ((w.alloc (.cells #[.int .i64 lo, .int .i64 hi, .bool p, .bool q] 23)).alloc (.cells #[.int .i64 0, .int .i64 0, .bool false, .bool false] 23)) w.heap.size 23 (spc lo hi p q) := (Row.made w (spc lo hi p q) 23).alloc _
  have r2 : Row ((w.alloc (.cells #[.int .i64 lo, .int .i64 hi, .bool p, .bool q] 23)).alloc (.cells #[.int .i64 0, .int .i64 0, .bool false, .bool false] 23)) (w.heap.size + 1) 23 (spc 0 0 false false) := row2 w _ (spc 0 0 false false) _
  have b3 : Below w.heap.size w ((w.alloc (.cells #[.int .i64 lo, .int .i64 hi, .bool p, .bool q] 23)).alloc (.cells #[.int .i64 0, .int .i64 0, .bool false, .bool false] 23)) := (below_map w _).alloc (by simp) _
  have HR := Lib.hid (And.intro r1 (And.intro r2 b3))
  clear r1 r2 b3
  go_enter Tryz.func22, Tryz.ntmps22
  go_upto_region 2 with (go_at_call 29; refine (HRD.out _).mono ?_; rintro e w1 ⟨rfl, hB⟩)
  have hk : SK w w1.heap.size 47 E F lo hi p q (w1.alloc (.cells #[.int .i64 E, .int .i64 F] 47)) :=
    ⟨(HR.out.1.below hB HR.out.1.lt).alloc _, (HR.out.2.1.below hB HR.out.2.1.lt).alloc _, Row.made w1 (edc E F) 47, (HR.out.2.2.trans (hB.mono HR.out.2.2.size)).trans ((below_map w1 _).mono (Nat.le_trans HR.out.2.2.size hB.size))⟩
  clear hB
  obtain ⟨b, hb⟩ : ∃ b, b = w1.heap.size := ⟨_, rfl⟩
  rw [← hb] at hk
  simp only [← hb]
  clear hb
  generalize World.alloc _ _ = wc at hk ⊢
  have HK := Lib.hid hk
  obtain ⟨⟨x0, x1⟩, ⟨a0, a1, a2, a3⟩, ⟨q0, q1, q2, q3⟩, f0, f1, f2, f3⟩ := hk.all
  clear hk HR
  go_wp2_with (first
    | (go_at_call 19; (refine (Hhfin.out _).mono ?_; rintro e w' ⟨rfl, hB⟩; have hk := HK.out.below hB; have HK := Lib.hid hk; obtain ⟨⟨x0, x1⟩, ⟨a0, a1, a2, a3⟩, ⟨q0, q1, q2, q3⟩, f0, f1, f2, f3⟩ := hk.all; obtain ⟨⟨z0, z1, z2, z3⟩, _⟩ := spc_row (spc_put hk.res A B P Q); have HBZ := Lib.hid (below_set4 hk.bel (Nat.le_succ w.heap.size) (.int .i64 A) (.int .i64 B) (.bool P) (.bool Q)); have Z := Lib.hid (And.intro z0 (And.intro z1 (And.intro z2 z3))); clear z0 z1 z2 z3; clear hk hB))
    | fail "none")
  obtain ⟨z0, z1, z2, z3⟩ := Z.out
  exact bodyPost_ret (v := .agg #[.int .i64 A, .int .i64 B, .bool P, .bool Q]) (by simp [results, Tryz.results22, go_sem, z0, z1, z2, z3]) rfl ⟨rfl, HBZ.out⟩
set_option maxRecDepth 100000 in
set_option maxHeartbeats 600000 in
theorem swap_one_16_false (s : Int) (lo hi : Int) (p q : Bool) (E F A B : Int) (P Q : Bool) (hrd : ∀ w, Calls Tryz.prog 29 #[.agg #[.int .i64 lo, .int .i64 hi, .bool p, .bool q]] w (Ret w (.agg #[.int .i64 E, .int .i64 F]))) (hsi : (∀ w, Calls Tryz.prog 30 #[.agg #[.int .i64 E, .int .i64 F]] w (Ret w (.bool true)))) (hw : (∀ w, Calls Tryz.prog 48 #[.int .i64 16, .bool false, .int .i64 E] w (Ret w (.int .i64 s)))) (hfin : (∀ w, Calls Tryz.prog 14 #[.int .i64 s, .int .i64 s] w (Ret w (.agg #[.int .i64 A, .int .i64 B, .bool P, .bool Q])))) (w : World) :
    Calls Tryz.prog 22 #[.int .i64 16, .bool false, .agg #[.int .i64 lo, .int .i64 hi, .bool p, .bool q]] w (Ret w (.agg #[.int .i64 A, .int .i64 B, .bool P, .bool Q])) := by
  have HRD := Lib.hid hrd
  have Hhsi := Lib.hid hsi
  have Hhw := Lib.hid hw
  have Hhfin := Lib.hid hfin
  clear hrd hsi hw hfin
  have r1 : Row ((w.alloc (.cells #[.int .i64 lo, .int .i64 hi, .bool p, .bool q] 23)).alloc (.cells #[.int .i64 0, .int .i64 0, .bool false, .bool false] 23)) w.heap.size 23 (spc lo hi p q) := (Row.made w (spc lo hi p q) 23).alloc _
  have r2 : Row ((w.alloc (.cells #[.int .i64 lo, .int .i64 hi, .bool p, .bool q] 23)).alloc (.cells #[.int .i64 0, .int .i64 0, .bool false, .bool false] 23)) (w.heap.size + 1) 23 (spc 0 0 false false) := row2 w _ (spc 0 0 false false) _
  have b3 : Below w.heap.size w ((w.alloc (.cells #[.int .i64 lo, .int .i64 hi, .bool p, .bool q] 23)).alloc (.cells #[.int .i64 0, .int .i64 0, .bool false, .bool false] 23)) := (below_map w _).alloc (by simp) _
  have HR := Lib.hid (And.intro r1 (And.intro r2 b3))
  clear r1 r2 b3
  go_enter Tryz.func22, Tryz.ntmps22
  go_upto_region 2 with (go_at_call 29; refine (HRD.out _).mono ?_; rintro e w1 ⟨rfl, hB⟩)
  have hk : SK w w1.heap.size 47 E F lo hi p q (w1.alloc (.cells #[.int .i64 E, .int .i64 F] 47)) :=
    ⟨(HR.out.1.below hB HR.out.1.lt).alloc _, (HR.out.2.1.below hB HR.out.2.1.lt).alloc _, Row.made w1 (edc E F) 47, (HR.out.2.2.trans (hB.mono HR.out.2.2.size)).trans ((below_map w1 _).mono (Nat.le_trans HR.out.2.2.size hB.size))⟩
  clear hB
  obtain ⟨b, hb⟩ : ∃ b, b = w1.heap.size := ⟨_, rfl⟩
  rw [← hb] at hk
  simp only [← hb]
  clear hb
  generalize World.alloc _ _ = wc at hk ⊢
  have HK := Lib.hid hk
  obtain ⟨⟨x0, x1⟩, ⟨a0, a1, a2, a3⟩, ⟨q0, q1, q2, q3⟩, f0, f1, f2, f3⟩ := hk.all
  clear hk HR
  go_wp2_with (first
    | (go_at_call 30; (refine (Hhsi.out _).mono ?_; rintro e w' ⟨rfl, hB⟩; have hk := HK.out.below hB; have HK := Lib.hid hk; obtain ⟨⟨x0, x1⟩, ⟨a0, a1, a2, a3⟩, ⟨q0, q1, q2, q3⟩, f0, f1, f2, f3⟩ := hk.all; clear hk hB))
    | (go_at_call 48; (refine (Hhw.out _).mono ?_; rintro e w' ⟨rfl, hB⟩; have hk := HK.out.below hB; have HK := Lib.hid hk; obtain ⟨⟨x0, x1⟩, ⟨a0, a1, a2, a3⟩, ⟨q0, q1, q2, q3⟩, f0, f1, f2, f3⟩ := hk.all; clear hk hB))
    | (go_at_call 14; (refine (Hhfin.out _).mono ?_; rintro e w' ⟨rfl, hB⟩; have hk := HK.out.below hB; have HK := Lib.hid hk; obtain ⟨⟨x0, x1⟩, ⟨a0, a1, a2, a3⟩, ⟨q0, q1, q2, q3⟩, f0, f1, f2, f3⟩ := hk.all; obtain ⟨⟨z0, z1, z2, z3⟩, _⟩ := spc_row (spc_put hk.res A B P Q); have HBZ := Lib.hid (below_set4 hk.bel (Nat.le_succ w.heap.size) (.int .i64 A) (.int .i64 B) (.bool P) (.bool Q)); have Z := Lib.hid (And.intro z0 (And.intro z1 (And.intro z2 z3))); clear z0 z1 z2 z3; clear hk hB))
    | fail "none")
  obtain ⟨z0, z1, z2, z3⟩ := Z.out
  exact bodyPost_ret (v := .agg #[.int .i64 A, .int .i64 B, .bool P, .bool Q]) (by simp [results, Tryz.results22, go_sem, z0, z1, z2, z3]) rfl ⟨rfl, HBZ.out⟩
set_option maxRecDepth 100000 in
set_option maxHeartbeats 600000 in
theorem swap_many_16_in (lo hi : Int) (p q : Bool) (E F A B : Int) (P Q : Bool) (hrd : ∀ w, Calls Tryz.prog 29 #[.agg #[.int .i64 lo, .int .i64 hi, .bool p, .bool q]] w (Ret w (.agg #[.int .i64 E, .int .i64 F]))) (hsi : (∀ w, Calls Tryz.prog 30 #[.agg #[.int .i64 E, .int .i64 F]] w (Ret w (.bool false)))) (hin : (∀ w, Calls Tryz.prog 50 #[.agg #[.int .i64 E, .int .i64 F], .int .i64 0, .int .i64 65535] w (Ret w (.bool true)))) (hfin : (∀ w, Calls Tryz.prog 49 #[.agg #[.int .i64 E, .int .i64 F]] w (Ret w (.agg #[.int .i64 A, .int .i64 B, .bool P, .bool Q])))) (w : World) :
    Calls Tryz.prog 22 #[.int .i64 16, .bool false, .agg #[.int .i64 lo, .int .i64 hi, .bool p, .bool q]] w (Ret w (.agg #[.int .i64 A, .int .i64 B, .bool P, .bool Q])) := by
  have HRD := Lib.hid hrd
  have Hhsi := Lib.hid hsi
  have Hhin := Lib.hid hin
  have Hhfin := Lib.hid hfin
  clear hrd hsi hin hfin
  have r1 : Row ((w.alloc (.cells #[.int .i64 lo, .int .i64 hi, .bool p, .bool q] 23)).alloc (.cells #[.int .i64 0, .int .i64 0, .bool false, .bool false] 23)) w.heap.size 23 (spc lo hi p q) := (Row.made w (spc lo hi p q) 23).alloc _
  have r2 : Row ((w.alloc (.cells #[.int .i64 lo, .int .i64 hi, .bool p, .bool q] 23)).alloc (.cells #[.int .i64 0, .int .i64 0, .bool false, .bool false] 23)) (w.heap.size + 1) 23 (spc 0 0 false false) := row2 w _ (spc 0 0 false false) _
  have b3 : Below w.heap.size w ((w.alloc (.cells #[.int .i64 lo, .int .i64 hi, .bool p, .bool q] 23)).alloc (.cells #[.int .i64 0, .int .i64 0, .bool false, .bool false] 23)) := (below_map w _).alloc (by simp) _
  have HR := Lib.hid (And.intro r1 (And.intro r2 b3))
  clear r1 r2 b3
  go_enter Tryz.func22, Tryz.ntmps22
  go_upto_region 2 with (go_at_call 29; refine (HRD.out _).mono ?_; rintro e w1 ⟨rfl, hB⟩)
  have hk : SK w w1.heap.size 47 E F lo hi p q (w1.alloc (.cells #[.int .i64 E, .int .i64 F] 47)) :=
    ⟨(HR.out.1.below hB HR.out.1.lt).alloc _, (HR.out.2.1.below hB HR.out.2.1.lt).alloc _, Row.made w1 (edc E F) 47, (HR.out.2.2.trans (hB.mono HR.out.2.2.size)).trans ((below_map w1 _).mono (Nat.le_trans HR.out.2.2.size hB.size))⟩
  clear hB
  obtain ⟨b, hb⟩ : ∃ b, b = w1.heap.size := ⟨_, rfl⟩
  rw [← hb] at hk
  simp only [← hb]
  clear hb
  generalize World.alloc _ _ = wc at hk ⊢
  have HK := Lib.hid hk
  obtain ⟨⟨x0, x1⟩, ⟨a0, a1, a2, a3⟩, ⟨q0, q1, q2, q3⟩, f0, f1, f2, f3⟩ := hk.all
  clear hk HR
  go_wp2_with (first
    | (go_at_call 30; (refine (Hhsi.out _).mono ?_; rintro e w' ⟨rfl, hB⟩; have hk := HK.out.below hB; have HK := Lib.hid hk; obtain ⟨⟨x0, x1⟩, ⟨a0, a1, a2, a3⟩, ⟨q0, q1, q2, q3⟩, f0, f1, f2, f3⟩ := hk.all; clear hk hB))
    | (go_at_call 50; (refine (Hhin.out _).mono ?_; rintro e w' ⟨rfl, hB⟩; have hk := HK.out.below hB; have HK := Lib.hid hk; obtain ⟨⟨x0, x1⟩, ⟨a0, a1, a2, a3⟩, ⟨q0, q1, q2, q3⟩, f0, f1, f2, f3⟩ := hk.all; clear hk hB))
    | (go_at_call 49; (refine (Hhfin.out _).mono ?_; rintro e w' ⟨rfl, hB⟩; have hk := HK.out.below hB; have HK := Lib.hid hk; obtain ⟨⟨x0, x1⟩, ⟨a0, a1, a2, a3⟩, ⟨q0, q1, q2, q3⟩, f0, f1, f2, f3⟩ := hk.all; obtain ⟨⟨z0, z1, z2, z3⟩, _⟩ := spc_row (spc_put hk.res A B P Q); have HBZ := Lib.hid (below_set4 hk.bel (Nat.le_succ w.heap.size) (.int .i64 A) (.int .i64 B) (.bool P) (.bool Q)); have Z := Lib.hid (And.intro z0 (And.intro z1 (And.intro z2 z3))); clear z0 z1 z2 z3; clear hk hB))
    | fail "none")
  obtain ⟨z0, z1, z2, z3⟩ := Z.out
  exact bodyPost_ret (v := .agg #[.int .i64 A, .int .i64 B, .bool P, .bool Q]) (by simp [results, Tryz.results22, go_sem, z0, z1, z2, z3]) rfl ⟨rfl, HBZ.out⟩
set_option maxRecDepth 100000 in
set_option maxHeartbeats 600000 in
theorem swap_many_16_out (lo hi : Int) (p q : Bool) (E F A B : Int) (P Q : Bool) (hrd : ∀ w, Calls Tryz.prog 29 #[.agg #[.int .i64 lo, .int .i64 hi, .bool p, .bool q]] w (Ret w (.agg #[.int .i64 E, .int .i64 F]))) (hsi : (∀ w, Calls Tryz.prog 30 #[.agg #[.int .i64 E, .int .i64 F]] w (Ret w (.bool false)))) (hin : (∀ w, Calls Tryz.prog 50 #[.agg #[.int .i64 E, .int .i64 F], .int .i64 0, .int .i64 65535] w (Ret w (.bool false)))) (hfin : (∀ w, Calls Tryz.prog 14 #[.int .i64 0, .int .i64 65535] w (Ret w (.agg #[.int .i64 A, .int .i64 B, .bool P, .bool Q])))) (w : World) :
    Calls Tryz.prog 22 #[.int .i64 16, .bool false, .agg #[.int .i64 lo, .int .i64 hi, .bool p, .bool q]] w (Ret w (.agg #[.int .i64 A, .int .i64 B, .bool P, .bool Q])) := by
  have HRD := Lib.hid hrd
  have Hhsi := Lib.hid hsi
  have Hhin := Lib.hid hin
  have Hhfin := Lib.hid hfin
  clear hrd hsi hin hfin
  have r1 : Row ((w.alloc (.cells #[.int .i64 lo, .int .i64 hi, .bool p, .bool q] 23)).alloc (.cells #[.int .i64 0, .int .i64 0, .bool false, .bool false] 23)) w.heap.size 23 (spc lo hi p q) := (Row.made w (spc lo hi p q) 23).alloc _
  have r2 : Row ((w.alloc (.cells #[.int .i64 lo, .int .i64 hi, .bool p, .bool q] 23)).alloc (.cells #[.int .i64 0, .int .i64 0, .bool false, .bool false] 23)) (w.heap.size + 1) 23 (spc 0 0 false false) := row2 w _ (spc 0 0 false false) _
  have b3 : Below w.heap.size w ((w.alloc (.cells #[.int .i64 lo, .int .i64 hi, .bool p, .bool q] 23)).alloc (.cells #[.int .i64 0, .int .i64 0, .bool false, .bool false] 23)) := (below_map w _).alloc (by simp) _
  have HR := Lib.hid (And.intro r1 (And.intro r2 b3))
  clear r1 r2 b3
  go_enter Tryz.func22, Tryz.ntmps22
  go_upto_region 2 with (go_at_call 29; refine (HRD.out _).mono ?_; rintro e w1 ⟨rfl, hB⟩)
  have hk : SK w w1.heap.size 47 E F lo hi p q (w1.alloc (.cells #[.int .i64 E, .int .i64 F] 47)) :=
    ⟨(HR.out.1.below hB HR.out.1.lt).alloc _, (HR.out.2.1.below hB HR.out.2.1.lt).alloc _, Row.made w1 (edc E F) 47, (HR.out.2.2.trans (hB.mono HR.out.2.2.size)).trans ((below_map w1 _).mono (Nat.le_trans HR.out.2.2.size hB.size))⟩
  clear hB
  obtain ⟨b, hb⟩ : ∃ b, b = w1.heap.size := ⟨_, rfl⟩
  rw [← hb] at hk
  simp only [← hb]
  clear hb
  generalize World.alloc _ _ = wc at hk ⊢
  have HK := Lib.hid hk
  obtain ⟨⟨x0, x1⟩, ⟨a0, a1, a2, a3⟩, ⟨q0, q1, q2, q3⟩, f0, f1, f2, f3⟩ := hk.all
  clear hk HR
  go_wp2_with (first
    | (go_at_call 30; (refine (Hhsi.out _).mono ?_; rintro e w' ⟨rfl, hB⟩; have hk := HK.out.below hB; have HK := Lib.hid hk; obtain ⟨⟨x0, x1⟩, ⟨a0, a1, a2, a3⟩, ⟨q0, q1, q2, q3⟩, f0, f1, f2, f3⟩ := hk.all; clear hk hB))
    | (go_at_call 50; (refine (Hhin.out _).mono ?_; rintro e w' ⟨rfl, hB⟩; have hk := HK.out.below hB; have HK := Lib.hid hk; obtain ⟨⟨x0, x1⟩, ⟨a0, a1, a2, a3⟩, ⟨q0, q1, q2, q3⟩, f0, f1, f2, f3⟩ := hk.all; clear hk hB))
    | (go_at_call 14; (refine (Hhfin.out _).mono ?_; rintro e w' ⟨rfl, hB⟩; have hk := HK.out.below hB; have HK := Lib.hid hk; obtain ⟨⟨x0, x1⟩, ⟨a0, a1, a2, a3⟩, ⟨q0, q1, q2, q3⟩, f0, f1, f2, f3⟩ := hk.all; obtain ⟨⟨z0, z1, z2, z3⟩, _⟩ := spc_row (spc_put hk.res A B P Q); have HBZ := Lib.hid (below_set4 hk.bel (Nat.le_succ w.heap.size) (.int .i64 A) (.int .i64 B) (.bool P) (.bool Q)); have Z := Lib.hid (And.intro z0 (And.intro z1 (And.intro z2 z3))); clear z0 z1 z2 z3; clear hk hB))
    | fail "none")
  obtain ⟨z0, z1, z2, z3⟩ := Z.out
  exact bodyPost_ret (v := .agg #[.int .i64 A, .int .i64 B, .bool P, .bool Q]) (by simp [results, Tryz.results22, go_sem, z0, z1, z2, z3]) rfl ⟨rfl, HBZ.out⟩
set_option maxRecDepth 100000 in
set_option maxHeartbeats 600000 in
theorem swap_one_16_true (s : Int) (lo hi : Int) (p q : Bool) (E F A B : Int) (P Q : Bool) (hrd : ∀ w, Calls Tryz.prog 29 #[.agg #[.int .i64 lo, .int .i64 hi, .bool p, .bool q]] w (Ret w (.agg #[.int .i64 E, .int .i64 F]))) (hsi : (∀ w, Calls Tryz.prog 30 #[.agg #[.int .i64 E, .int .i64 F]] w (Ret w (.bool true)))) (hw : (∀ w, Calls Tryz.prog 48 #[.int .i64 16, .bool true, .int .i64 E] w (Ret w (.int .i64 s)))) (hfin : (∀ w, Calls Tryz.prog 14 #[.int .i64 s, .int .i64 s] w (Ret w (.agg #[.int .i64 A, .int .i64 B, .bool P, .bool Q])))) (w : World) :
    Calls Tryz.prog 22 #[.int .i64 16, .bool true, .agg #[.int .i64 lo, .int .i64 hi, .bool p, .bool q]] w (Ret w (.agg #[.int .i64 A, .int .i64 B, .bool P, .bool Q])) := by
  have HRD := Lib.hid hrd
  have Hhsi := Lib.hid hsi
  have Hhw := Lib.hid hw
  have Hhfin := Lib.hid hfin
  clear hrd hsi hw hfin
  have r1 : Row ((w.alloc (.cells #[.int .i64 lo, .int .i64 hi, .bool p, .bool q] 23)).alloc (.cells #[.int .i64 0, .int .i64 0, .bool false, .bool false] 23)) w.heap.size 23 (spc lo hi p q) := (Row.made w (spc lo hi p q) 23).alloc _
  have r2 : Row ((w.alloc (.cells #[.int .i64 lo, .int .i64 hi, .bool p, .bool q] 23)).alloc (.cells #[.int .i64 0, .int .i64 0, .bool false, .bool false] 23)) (w.heap.size + 1) 23 (spc 0 0 false false) := row2 w _ (spc 0 0 false false) _
  have b3 : Below w.heap.size w ((w.alloc (.cells #[.int .i64 lo, .int .i64 hi, .bool p, .bool q] 23)).alloc (.cells #[.int .i64 0, .int .i64 0, .bool false, .bool false] 23)) := (below_map w _).alloc (by simp) _
  have HR := Lib.hid (And.intro r1 (And.intro r2 b3))
  clear r1 r2 b3
  go_enter Tryz.func22, Tryz.ntmps22
  go_upto_region 2 with (go_at_call 29; refine (HRD.out _).mono ?_; rintro e w1 ⟨rfl, hB⟩)
  have hk : SK w w1.heap.size 47 E F lo hi p q (w1.alloc (.cells #[.int .i64 E, .int .i64 F] 47)) :=
    ⟨(HR.out.1.below hB HR.out.1.lt).alloc _, (HR.out.2.1.below hB HR.out.2.1.lt).alloc _, Row.made w1 (edc E F) 47, (HR.out.2.2.trans (hB.mono HR.out.2.2.size)).trans ((below_map w1 _).mono (Nat.le_trans HR.out.2.2.size hB.size))⟩
  clear hB
  obtain ⟨b, hb⟩ : ∃ b, b = w1.heap.size := ⟨_, rfl⟩
  rw [← hb] at hk
  simp only [← hb]
  clear hb
  generalize World.alloc _ _ = wc at hk ⊢
  have HK := Lib.hid hk
  obtain ⟨⟨x0, x1⟩, ⟨a0, a1, a2, a3⟩, ⟨q0, q1, q2, q3⟩, f0, f1, f2, f3⟩ := hk.all
  clear hk HR
  go_wp2_with (first
    | (go_at_call 30; (refine (Hhsi.out _).mono ?_; rintro e w' ⟨rfl, hB⟩; have hk := HK.out.below hB; have HK := Lib.hid hk; obtain ⟨⟨x0, x1⟩, ⟨a0, a1, a2, a3⟩, ⟨q0, q1, q2, q3⟩, f0, f1, f2, f3⟩ := hk.all; clear hk hB))
    | (go_at_call 48; (refine (Hhw.out _).mono ?_; rintro e w' ⟨rfl, hB⟩; have hk := HK.out.below hB; have HK := Lib.hid hk; obtain ⟨⟨x0, x1⟩, ⟨a0, a1, a2, a3⟩, ⟨q0, q1, q2, q3⟩, f0, f1, f2, f3⟩ := hk.all; clear hk hB))
    | (go_at_call 14; (refine (Hhfin.out _).mono ?_; rintro e w' ⟨rfl, hB⟩; have hk := HK.out.below hB; have HK := Lib.hid hk; obtain ⟨⟨x0, x1⟩, ⟨a0, a1, a2, a3⟩, ⟨q0, q1, q2, q3⟩, f0, f1, f2, f3⟩ := hk.all; obtain ⟨⟨z0, z1, z2, z3⟩, _⟩ := spc_row (spc_put hk.res A B P Q); have HBZ := Lib.hid (below_set4 hk.bel (Nat.le_succ w.heap.size) (.int .i64 A) (.int .i64 B) (.bool P) (.bool Q)); have Z := Lib.hid (And.intro z0 (And.intro z1 (And.intro z2 z3))); clear z0 z1 z2 z3; clear hk hB))
    | fail "none")
  obtain ⟨z0, z1, z2, z3⟩ := Z.out
  exact bodyPost_ret (v := .agg #[.int .i64 A, .int .i64 B, .bool P, .bool Q]) (by simp [results, Tryz.results22, go_sem, z0, z1, z2, z3]) rfl ⟨rfl, HBZ.out⟩
set_option maxRecDepth 100000 in
set_option maxHeartbeats 600000 in
theorem swap_many_16_true (lo hi : Int) (p q : Bool) (E F A B : Int) (P Q : Bool) (hrd : ∀ w, Calls Tryz.prog 29 #[.agg #[.int .i64 lo, .int .i64 hi, .bool p, .bool q]] w (Ret w (.agg #[.int .i64 E, .int .i64 F]))) (hsi : (∀ w, Calls Tryz.prog 30 #[.agg #[.int .i64 E, .int .i64 F]] w (Ret w (.bool false)))) (hfin : (∀ w, Calls Tryz.prog 14 #[.int .i64 0, .int .i64 65535] w (Ret w (.agg #[.int .i64 A, .int .i64 B, .bool P, .bool Q])))) (w : World) :
    Calls Tryz.prog 22 #[.int .i64 16, .bool true, .agg #[.int .i64 lo, .int .i64 hi, .bool p, .bool q]] w (Ret w (.agg #[.int .i64 A, .int .i64 B, .bool P, .bool Q])) := by
  have HRD := Lib.hid hrd
  have Hhsi := Lib.hid hsi
  have Hhfin := Lib.hid hfin
  clear hrd hsi hfin
  have r1 : Row ((w.alloc (.cells #[.int .i64 lo, .int .i64 hi, .bool p, .bool q] 23)).alloc (.cells #[.int .i64 0, .int .i64 0, .bool false, .bool false] 23)) w.heap.size 23 (spc lo hi p q) := (Row.made w (spc lo hi p q) 23).alloc _
  have r2 : Row ((w.alloc (.cells #[.int .i64 lo, .int .i64 hi, .bool p, .bool q] 23)).alloc (.cells #[.int .i64 0, .int .i64 0, .bool false, .bool false] 23)) (w.heap.size + 1) 23 (spc 0 0 false false) := row2 w _ (spc 0 0 false false) _
  have b3 : Below w.heap.size w ((w.alloc (.cells #[.int .i64 lo, .int .i64 hi, .bool p, .bool q] 23)).alloc (.cells #[.int .i64 0, .int .i64 0, .bool false, .bool false] 23)) := (below_map w _).alloc (by simp) _
  have HR := Lib.hid (And.intro r1 (And.intro r2 b3))
  clear r1 r2 b3
  go_enter Tryz.func22, Tryz.ntmps22
  go_upto_region 2 with (go_at_call 29; refine (HRD.out _).mono ?_; rintro e w1 ⟨rfl, hB⟩)
  have hk : SK w w1.heap.size 47 E F lo hi p q (w1.alloc (.cells #[.int .i64 E, .int .i64 F] 47)) :=
    ⟨(HR.out.1.below hB HR.out.1.lt).alloc _, (HR.out.2.1.below hB HR.out.2.1.lt).alloc _, Row.made w1 (edc E F) 47, (HR.out.2.2.trans (hB.mono HR.out.2.2.size)).trans ((below_map w1 _).mono (Nat.le_trans HR.out.2.2.size hB.size))⟩
  clear hB
  obtain ⟨b, hb⟩ : ∃ b, b = w1.heap.size := ⟨_, rfl⟩
  rw [← hb] at hk
  simp only [← hb]
  clear hb
  generalize World.alloc _ _ = wc at hk ⊢
  have HK := Lib.hid hk
  obtain ⟨⟨x0, x1⟩, ⟨a0, a1, a2, a3⟩, ⟨q0, q1, q2, q3⟩, f0, f1, f2, f3⟩ := hk.all
  clear hk HR
  go_wp2_with (first
    | (go_at_call 30; (refine (Hhsi.out _).mono ?_; rintro e w' ⟨rfl, hB⟩; have hk := HK.out.below hB; have HK := Lib.hid hk; obtain ⟨⟨x0, x1⟩, ⟨a0, a1, a2, a3⟩, ⟨q0, q1, q2, q3⟩, f0, f1, f2, f3⟩ := hk.all; clear hk hB))
    | (go_at_call 14; (refine (Hhfin.out _).mono ?_; rintro e w' ⟨rfl, hB⟩; have hk := HK.out.below hB; have HK := Lib.hid hk; obtain ⟨⟨x0, x1⟩, ⟨a0, a1, a2, a3⟩, ⟨q0, q1, q2, q3⟩, f0, f1, f2, f3⟩ := hk.all; obtain ⟨⟨z0, z1, z2, z3⟩, _⟩ := spc_row (spc_put hk.res A B P Q); have HBZ := Lib.hid (below_set4 hk.bel (Nat.le_succ w.heap.size) (.int .i64 A) (.int .i64 B) (.bool P) (.bool Q)); have Z := Lib.hid (And.intro z0 (And.intro z1 (And.intro z2 z3))); clear z0 z1 z2 z3; clear hk hB))
    | fail "none")
  obtain ⟨z0, z1, z2, z3⟩ := Z.out
  exact bodyPost_ret (v := .agg #[.int .i64 A, .int .i64 B, .bool P, .bool Q]) (by simp [results, Tryz.results22, go_sem, z0, z1, z2, z3]) rfl ⟨rfl, HBZ.out⟩
set_option maxRecDepth 100000 in
set_option maxHeartbeats 600000 in
theorem swap_one_32_false (s : Int) (lo hi : Int) (p q : Bool) (E F A B : Int) (P Q : Bool) (hrd : ∀ w, Calls Tryz.prog 29 #[.agg #[.int .i64 lo, .int .i64 hi, .bool p, .bool q]] w (Ret w (.agg #[.int .i64 E, .int .i64 F]))) (hsi : (∀ w, Calls Tryz.prog 30 #[.agg #[.int .i64 E, .int .i64 F]] w (Ret w (.bool true)))) (hw : (∀ w, Calls Tryz.prog 48 #[.int .i64 32, .bool false, .int .i64 E] w (Ret w (.int .i64 s)))) (hfin : (∀ w, Calls Tryz.prog 14 #[.int .i64 s, .int .i64 s] w (Ret w (.agg #[.int .i64 A, .int .i64 B, .bool P, .bool Q])))) (w : World) :
    Calls Tryz.prog 22 #[.int .i64 32, .bool false, .agg #[.int .i64 lo, .int .i64 hi, .bool p, .bool q]] w (Ret w (.agg #[.int .i64 A, .int .i64 B, .bool P, .bool Q])) := by
  have HRD := Lib.hid hrd
  have Hhsi := Lib.hid hsi
  have Hhw := Lib.hid hw
  have Hhfin := Lib.hid hfin
  clear hrd hsi hw hfin
  have r1 : Row ((w.alloc (.cells #[.int .i64 lo, .int .i64 hi, .bool p, .bool q] 23)).alloc (.cells #[.int .i64 0, .int .i64 0, .bool false, .bool false] 23)) w.heap.size 23 (spc lo hi p q) := (Row.made w (spc lo hi p q) 23).alloc _
  have r2 : Row ((w.alloc (.cells #[.int .i64 lo, .int .i64 hi, .bool p, .bool q] 23)).alloc (.cells #[.int .i64 0, .int .i64 0, .bool false, .bool false] 23)) (w.heap.size + 1) 23 (spc 0 0 false false) := row2 w _ (spc 0 0 false false) _
  have b3 : Below w.heap.size w ((w.alloc (.cells #[.int .i64 lo, .int .i64 hi, .bool p, .bool q] 23)).alloc (.cells #[.int .i64 0, .int .i64 0, .bool false, .bool false] 23)) := (below_map w _).alloc (by simp) _
  have HR := Lib.hid (And.intro r1 (And.intro r2 b3))
  clear r1 r2 b3
  go_enter Tryz.func22, Tryz.ntmps22
  go_upto_region 2 with (go_at_call 29; refine (HRD.out _).mono ?_; rintro e w1 ⟨rfl, hB⟩)
  have hk : SK w w1.heap.size 47 E F lo hi p q (w1.alloc (.cells #[.int .i64 E, .int .i64 F] 47)) :=
    ⟨(HR.out.1.below hB HR.out.1.lt).alloc _, (HR.out.2.1.below hB HR.out.2.1.lt).alloc _, Row.made w1 (edc E F) 47, (HR.out.2.2.trans (hB.mono HR.out.2.2.size)).trans ((below_map w1 _).mono (Nat.le_trans HR.out.2.2.size hB.size))⟩
  clear hB
  obtain ⟨b, hb⟩ : ∃ b, b = w1.heap.size := ⟨_, rfl⟩
  rw [← hb] at hk
  simp only [← hb]
  clear hb
  generalize World.alloc _ _ = wc at hk ⊢
  have HK := Lib.hid hk
  obtain ⟨⟨x0, x1⟩, ⟨a0, a1, a2, a3⟩, ⟨q0, q1, q2, q3⟩, f0, f1, f2, f3⟩ := hk.all
  clear hk HR
  go_wp2_with (first
    | (go_at_call 30; (refine (Hhsi.out _).mono ?_; rintro e w' ⟨rfl, hB⟩; have hk := HK.out.below hB; have HK := Lib.hid hk; obtain ⟨⟨x0, x1⟩, ⟨a0, a1, a2, a3⟩, ⟨q0, q1, q2, q3⟩, f0, f1, f2, f3⟩ := hk.all; clear hk hB))
    | (go_at_call 48; (refine (Hhw.out _).mono ?_; rintro e w' ⟨rfl, hB⟩; have hk := HK.out.below hB; have HK := Lib.hid hk; obtain ⟨⟨x0, x1⟩, ⟨a0, a1, a2, a3⟩, ⟨q0, q1, q2, q3⟩, f0, f1, f2, f3⟩ := hk.all; clear hk hB))
    | (go_at_call 14; (refine (Hhfin.out _).mono ?_; rintro e w' ⟨rfl, hB⟩; have hk := HK.out.below hB; have HK := Lib.hid hk; obtain ⟨⟨x0, x1⟩, ⟨a0, a1, a2, a3⟩, ⟨q0, q1, q2, q3⟩, f0, f1, f2, f3⟩ := hk.all; obtain ⟨⟨z0, z1, z2, z3⟩, _⟩ := spc_row (spc_put hk.res A B P Q); have HBZ := Lib.hid (below_set4 hk.bel (Nat.le_succ w.heap.size) (.int .i64 A) (.int .i64 B) (.bool P) (.bool Q)); have Z := Lib.hid (And.intro z0 (And.intro z1 (And.intro z2 z3))); clear z0 z1 z2 z3; clear hk hB))
    | fail "none")
  obtain ⟨z0, z1, z2, z3⟩ := Z.out
  exact bodyPost_ret (v := .agg #[.int .i64 A, .int .i64 B, .bool P, .bool Q]) (by simp [results, Tryz.results22, go_sem, z0, z1, z2, z3]) rfl ⟨rfl, HBZ.out⟩
set_option maxRecDepth 100000 in
set_option maxHeartbeats 600000 in
theorem swap_many_32_false (C D : Int) (lo hi : Int) (p q : Bool) (E F A B : Int) (P Q : Bool) (hrd : ∀ w, Calls Tryz.prog 29 #[.agg #[.int .i64 lo, .int .i64 hi, .bool p, .bool q]] w (Ret w (.agg #[.int .i64 E, .int .i64 F]))) (hsi : (∀ w, Calls Tryz.prog 30 #[.agg #[.int .i64 E, .int .i64 F]] w (Ret w (.bool false)))) (hlw : (∀ w, Calls Tryz.prog 45 #[.agg #[.int .i64 E, .int .i64 F]] w (Ret w (.agg #[.int .i64 C, .int .i64 D])))) (hfin : (∀ w, Calls Tryz.prog 49 #[.agg #[.int .i64 C, .int .i64 D]] w (Ret w (.agg #[.int .i64 A, .int .i64 B, .bool P, .bool Q])))) (w : World) :
    Calls Tryz.prog 22 #[.int .i64 32, .bool false, .agg #[.int .i64 lo, .int .i64 hi, .bool p, .bool q]] w (Ret w (.agg #[.int .i64 A, .int .i64 B, .bool P, .bool Q])) := by
  have HRD := Lib.hid hrd
  have Hhsi := Lib.hid hsi
  have Hhlw := Lib.hid hlw
  have Hhfin := Lib.hid hfin
  clear hrd hsi hlw hfin
  have r1 : Row ((w.alloc (.cells #[.int .i64 lo, .int .i64 hi, .bool p, .bool q] 23)).alloc (.cells #[.int .i64 0, .int .i64 0, .bool false, .bool false] 23)) w.heap.size 23 (spc lo hi p q) := (Row.made w (spc lo hi p q) 23).alloc _
  have r2 : Row ((w.alloc (.cells #[.int .i64 lo, .int .i64 hi, .bool p, .bool q] 23)).alloc (.cells #[.int .i64 0, .int .i64 0, .bool false, .bool false] 23)) (w.heap.size + 1) 23 (spc 0 0 false false) := row2 w _ (spc 0 0 false false) _
  have b3 : Below w.heap.size w ((w.alloc (.cells #[.int .i64 lo, .int .i64 hi, .bool p, .bool q] 23)).alloc (.cells #[.int .i64 0, .int .i64 0, .bool false, .bool false] 23)) := (below_map w _).alloc (by simp) _
  have HR := Lib.hid (And.intro r1 (And.intro r2 b3))
  clear r1 r2 b3
  go_enter Tryz.func22, Tryz.ntmps22
  go_upto_region 2 with (go_at_call 29; refine (HRD.out _).mono ?_; rintro e w1 ⟨rfl, hB⟩)
  have hk : SK w w1.heap.size 47 E F lo hi p q (w1.alloc (.cells #[.int .i64 E, .int .i64 F] 47)) :=
    ⟨(HR.out.1.below hB HR.out.1.lt).alloc _, (HR.out.2.1.below hB HR.out.2.1.lt).alloc _, Row.made w1 (edc E F) 47, (HR.out.2.2.trans (hB.mono HR.out.2.2.size)).trans ((below_map w1 _).mono (Nat.le_trans HR.out.2.2.size hB.size))⟩
  clear hB
  obtain ⟨b, hb⟩ : ∃ b, b = w1.heap.size := ⟨_, rfl⟩
  rw [← hb] at hk
  simp only [← hb]
  clear hb
  generalize World.alloc _ _ = wc at hk ⊢
  have HK := Lib.hid hk
  obtain ⟨⟨x0, x1⟩, ⟨a0, a1, a2, a3⟩, ⟨q0, q1, q2, q3⟩, f0, f1, f2, f3⟩ := hk.all
  clear hk HR
  go_wp2_with (first
    | (go_at_call 30; (refine (Hhsi.out _).mono ?_; rintro e w' ⟨rfl, hB⟩; have hk := HK.out.below hB; have HK := Lib.hid hk; obtain ⟨⟨x0, x1⟩, ⟨a0, a1, a2, a3⟩, ⟨q0, q1, q2, q3⟩, f0, f1, f2, f3⟩ := hk.all; clear hk hB))
    | (go_at_call 45; (refine (Hhlw.out _).mono ?_; rintro e w' ⟨rfl, hB⟩; have hk := HK.out.below hB; have HK := Lib.hid hk; obtain ⟨⟨x0, x1⟩, ⟨a0, a1, a2, a3⟩, ⟨q0, q1, q2, q3⟩, f0, f1, f2, f3⟩ := hk.all; clear hk hB))
    | (go_at_call 49; (refine (Hhfin.out _).mono ?_; rintro e w' ⟨rfl, hB⟩; have hk := HK.out.below hB; have HK := Lib.hid hk; obtain ⟨⟨x0, x1⟩, ⟨a0, a1, a2, a3⟩, ⟨q0, q1, q2, q3⟩, f0, f1, f2, f3⟩ := hk.all; obtain ⟨⟨z0, z1, z2, z3⟩, _⟩ := spc_row (spc_put hk.res A B P Q); have HBZ := Lib.hid (below_set4 hk.bel (Nat.le_succ w.heap.size) (.int .i64 A) (.int .i64 B) (.bool P) (.bool Q)); have Z := Lib.hid (And.intro z0 (And.intro z1 (And.intro z2 z3))); clear z0 z1 z2 z3; clear hk hB))
    | fail "none")
  obtain ⟨z0, z1, z2, z3⟩ := Z.out
  exact bodyPost_ret (v := .agg #[.int .i64 A, .int .i64 B, .bool P, .bool Q]) (by simp [results, Tryz.results22, go_sem, z0, z1, z2, z3]) rfl ⟨rfl, HBZ.out⟩
set_option maxRecDepth 100000 in
set_option maxHeartbeats 600000 in
theorem swap_one_32_true (s : Int) (lo hi : Int) (p q : Bool) (E F A B : Int) (P Q : Bool) (hrd : ∀ w, Calls Tryz.prog 29 #[.agg #[.int .i64 lo, .int .i64 hi, .bool p, .bool q]] w (Ret w (.agg #[.int .i64 E, .int .i64 F]))) (hsi : (∀ w, Calls Tryz.prog 30 #[.agg #[.int .i64 E, .int .i64 F]] w (Ret w (.bool true)))) (hw : (∀ w, Calls Tryz.prog 48 #[.int .i64 32, .bool true, .int .i64 E] w (Ret w (.int .i64 s)))) (hfin : (∀ w, Calls Tryz.prog 14 #[.int .i64 s, .int .i64 s] w (Ret w (.agg #[.int .i64 A, .int .i64 B, .bool P, .bool Q])))) (w : World) :
    Calls Tryz.prog 22 #[.int .i64 32, .bool true, .agg #[.int .i64 lo, .int .i64 hi, .bool p, .bool q]] w (Ret w (.agg #[.int .i64 A, .int .i64 B, .bool P, .bool Q])) := by
  have HRD := Lib.hid hrd
  have Hhsi := Lib.hid hsi
  have Hhw := Lib.hid hw
  have Hhfin := Lib.hid hfin
  clear hrd hsi hw hfin
  have r1 : Row ((w.alloc (.cells #[.int .i64 lo, .int .i64 hi, .bool p, .bool q] 23)).alloc (.cells #[.int .i64 0, .int .i64 0, .bool false, .bool false] 23)) w.heap.size 23 (spc lo hi p q) := (Row.made w (spc lo hi p q) 23).alloc _
  have r2 : Row ((w.alloc (.cells #[.int .i64 lo, .int .i64 hi, .bool p, .bool q] 23)).alloc (.cells #[.int .i64 0, .int .i64 0, .bool false, .bool false] 23)) (w.heap.size + 1) 23 (spc 0 0 false false) := row2 w _ (spc 0 0 false false) _
  have b3 : Below w.heap.size w ((w.alloc (.cells #[.int .i64 lo, .int .i64 hi, .bool p, .bool q] 23)).alloc (.cells #[.int .i64 0, .int .i64 0, .bool false, .bool false] 23)) := (below_map w _).alloc (by simp) _
  have HR := Lib.hid (And.intro r1 (And.intro r2 b3))
  clear r1 r2 b3
  go_enter Tryz.func22, Tryz.ntmps22
  go_upto_region 2 with (go_at_call 29; refine (HRD.out _).mono ?_; rintro e w1 ⟨rfl, hB⟩)
  have hk : SK w w1.heap.size 47 E F lo hi p q (w1.alloc (.cells #[.int .i64 E, .int .i64 F] 47)) :=
    ⟨(HR.out.1.below hB HR.out.1.lt).alloc _, (HR.out.2.1.below hB HR.out.2.1.lt).alloc _, Row.made w1 (edc E F) 47, (HR.out.2.2.trans (hB.mono HR.out.2.2.size)).trans ((below_map w1 _).mono (Nat.le_trans HR.out.2.2.size hB.size))⟩
  clear hB
  obtain ⟨b, hb⟩ : ∃ b, b = w1.heap.size := ⟨_, rfl⟩
  rw [← hb] at hk
  simp only [← hb]
  clear hb
  generalize World.alloc _ _ = wc at hk ⊢
  have HK := Lib.hid hk
  obtain ⟨⟨x0, x1⟩, ⟨a0, a1, a2, a3⟩, ⟨q0, q1, q2, q3⟩, f0, f1, f2, f3⟩ := hk.all
  clear hk HR
  go_wp2_with (first
    | (go_at_call 30; (refine (Hhsi.out _).mono ?_; rintro e w' ⟨rfl, hB⟩; have hk := HK.out.below hB; have HK := Lib.hid hk; obtain ⟨⟨x0, x1⟩, ⟨a0, a1, a2, a3⟩, ⟨q0, q1, q2, q3⟩, f0, f1, f2, f3⟩ := hk.all; clear hk hB))
    | (go_at_call 48; (refine (Hhw.out _).mono ?_; rintro e w' ⟨rfl, hB⟩; have hk := HK.out.below hB; have HK := Lib.hid hk; obtain ⟨⟨x0, x1⟩, ⟨a0, a1, a2, a3⟩, ⟨q0, q1, q2, q3⟩, f0, f1, f2, f3⟩ := hk.all; clear hk hB))
    | (go_at_call 14; (refine (Hhfin.out _).mono ?_; rintro e w' ⟨rfl, hB⟩; have hk := HK.out.below hB; have HK := Lib.hid hk; obtain ⟨⟨x0, x1⟩, ⟨a0, a1, a2, a3⟩, ⟨q0, q1, q2, q3⟩, f0, f1, f2, f3⟩ := hk.all; obtain ⟨⟨z0, z1, z2, z3⟩, _⟩ := spc_row (spc_put hk.res A B P Q); have HBZ := Lib.hid (below_set4 hk.bel (Nat.le_succ w.heap.size) (.int .i64 A) (.int .i64 B) (.bool P) (.bool Q)); have Z := Lib.hid (And.intro z0 (And.intro z1 (And.intro z2 z3))); clear z0 z1 z2 z3; clear hk hB))
    | fail "none")
  obtain ⟨z0, z1, z2, z3⟩ := Z.out
  exact bodyPost_ret (v := .agg #[.int .i64 A, .int .i64 B, .bool P, .bool Q]) (by simp [results, Tryz.results22, go_sem, z0, z1, z2, z3]) rfl ⟨rfl, HBZ.out⟩
set_option maxRecDepth 100000 in
set_option maxHeartbeats 600000 in
theorem swap_many_32_true (lo hi : Int) (p q : Bool) (E F A B : Int) (P Q : Bool) (hrd : ∀ w, Calls Tryz.prog 29 #[.agg #[.int .i64 lo, .int .i64 hi, .bool p, .bool q]] w (Ret w (.agg #[.int .i64 E, .int .i64 F]))) (hsi : (∀ w, Calls Tryz.prog 30 #[.agg #[.int .i64 E, .int .i64 F]] w (Ret w (.bool false)))) (hfin : (∀ w, Calls Tryz.prog 14 #[.int .i64 0, .int .i64 4294967295] w (Ret w (.agg #[.int .i64 A, .int .i64 B, .bool P, .bool Q])))) (w : World) :
    Calls Tryz.prog 22 #[.int .i64 32, .bool true, .agg #[.int .i64 lo, .int .i64 hi, .bool p, .bool q]] w (Ret w (.agg #[.int .i64 A, .int .i64 B, .bool P, .bool Q])) := by
  have HRD := Lib.hid hrd
  have Hhsi := Lib.hid hsi
  have Hhfin := Lib.hid hfin
  clear hrd hsi hfin
  have r1 : Row ((w.alloc (.cells #[.int .i64 lo, .int .i64 hi, .bool p, .bool q] 23)).alloc (.cells #[.int .i64 0, .int .i64 0, .bool false, .bool false] 23)) w.heap.size 23 (spc lo hi p q) := (Row.made w (spc lo hi p q) 23).alloc _
  have r2 : Row ((w.alloc (.cells #[.int .i64 lo, .int .i64 hi, .bool p, .bool q] 23)).alloc (.cells #[.int .i64 0, .int .i64 0, .bool false, .bool false] 23)) (w.heap.size + 1) 23 (spc 0 0 false false) := row2 w _ (spc 0 0 false false) _
  have b3 : Below w.heap.size w ((w.alloc (.cells #[.int .i64 lo, .int .i64 hi, .bool p, .bool q] 23)).alloc (.cells #[.int .i64 0, .int .i64 0, .bool false, .bool false] 23)) := (below_map w _).alloc (by simp) _
  have HR := Lib.hid (And.intro r1 (And.intro r2 b3))
  clear r1 r2 b3
  go_enter Tryz.func22, Tryz.ntmps22
  go_upto_region 2 with (go_at_call 29; refine (HRD.out _).mono ?_; rintro e w1 ⟨rfl, hB⟩)
  have hk : SK w w1.heap.size 47 E F lo hi p q (w1.alloc (.cells #[.int .i64 E, .int .i64 F] 47)) :=
    ⟨(HR.out.1.below hB HR.out.1.lt).alloc _, (HR.out.2.1.below hB HR.out.2.1.lt).alloc _, Row.made w1 (edc E F) 47, (HR.out.2.2.trans (hB.mono HR.out.2.2.size)).trans ((below_map w1 _).mono (Nat.le_trans HR.out.2.2.size hB.size))⟩
  clear hB
  obtain ⟨b, hb⟩ : ∃ b, b = w1.heap.size := ⟨_, rfl⟩
  rw [← hb] at hk
  simp only [← hb]
  clear hb
  generalize World.alloc _ _ = wc at hk ⊢
  have HK := Lib.hid hk
  obtain ⟨⟨x0, x1⟩, ⟨a0, a1, a2, a3⟩, ⟨q0, q1, q2, q3⟩, f0, f1, f2, f3⟩ := hk.all
  clear hk HR
  go_wp2_with (first
    | (go_at_call 30; (refine (Hhsi.out _).mono ?_; rintro e w' ⟨rfl, hB⟩; have hk := HK.out.below hB; have HK := Lib.hid hk; obtain ⟨⟨x0, x1⟩, ⟨a0, a1, a2, a3⟩, ⟨q0, q1, q2, q3⟩, f0, f1, f2, f3⟩ := hk.all; clear hk hB))
    | (go_at_call 14; (refine (Hhfin.out _).mono ?_; rintro e w' ⟨rfl, hB⟩; have hk := HK.out.below hB; have HK := Lib.hid hk; obtain ⟨⟨x0, x1⟩, ⟨a0, a1, a2, a3⟩, ⟨q0, q1, q2, q3⟩, f0, f1, f2, f3⟩ := hk.all; obtain ⟨⟨z0, z1, z2, z3⟩, _⟩ := spc_row (spc_put hk.res A B P Q); have HBZ := Lib.hid (below_set4 hk.bel (Nat.le_succ w.heap.size) (.int .i64 A) (.int .i64 B) (.bool P) (.bool Q)); have Z := Lib.hid (And.intro z0 (And.intro z1 (And.intro z2 z3))); clear z0 z1 z2 z3; clear hk hB))
    | fail "none")
  obtain ⟨z0, z1, z2, z3⟩ := Z.out
  exact bodyPost_ret (v := .agg #[.int .i64 A, .int .i64 B, .bool P, .bool Q]) (by simp [results, Tryz.results22, go_sem, z0, z1, z2, z3]) rfl ⟨rfl, HBZ.out⟩
set_option maxRecDepth 100000 in
set_option maxHeartbeats 600000 in
theorem swap_one_64_false (s : Int) (lo hi : Int) (p q : Bool) (E F A B : Int) (P Q : Bool) (hrd : ∀ w, Calls Tryz.prog 29 #[.agg #[.int .i64 lo, .int .i64 hi, .bool p, .bool q]] w (Ret w (.agg #[.int .i64 E, .int .i64 F]))) (hsi : (∀ w, Calls Tryz.prog 30 #[.agg #[.int .i64 E, .int .i64 F]] w (Ret w (.bool true)))) (hw : (∀ w, Calls Tryz.prog 48 #[.int .i64 64, .bool false, .int .i64 E] w (Ret w (.int .i64 s)))) (hfin : (∀ w, Calls Tryz.prog 14 #[.int .i64 s, .int .i64 s] w (Ret w (.agg #[.int .i64 A, .int .i64 B, .bool P, .bool Q])))) (w : World) :
    Calls Tryz.prog 22 #[.int .i64 64, .bool false, .agg #[.int .i64 lo, .int .i64 hi, .bool p, .bool q]] w (Ret w (.agg #[.int .i64 A, .int .i64 B, .bool P, .bool Q])) := by
  have HRD := Lib.hid hrd
  have Hhsi := Lib.hid hsi
  have Hhw := Lib.hid hw
  have Hhfin := Lib.hid hfin
  clear hrd hsi hw hfin
  have r1 : Row ((w.alloc (.cells #[.int .i64 lo, .int .i64 hi, .bool p, .bool q] 23)).alloc (.cells #[.int .i64 0, .int .i64 0, .bool false, .bool false] 23)) w.heap.size 23 (spc lo hi p q) := (Row.made w (spc lo hi p q) 23).alloc _
  have r2 : Row ((w.alloc (.cells #[.int .i64 lo, .int .i64 hi, .bool p, .bool q] 23)).alloc (.cells #[.int .i64 0, .int .i64 0, .bool false, .bool false] 23)) (w.heap.size + 1) 23 (spc 0 0 false false) := row2 w _ (spc 0 0 false false) _
  have b3 : Below w.heap.size w ((w.alloc (.cells #[.int .i64 lo, .int .i64 hi, .bool p, .bool q] 23)).alloc (.cells #[.int .i64 0, .int .i64 0, .bool false, .bool false] 23)) := (below_map w _).alloc (by simp) _
  have HR := Lib.hid (And.intro r1 (And.intro r2 b3))
  clear r1 r2 b3
  go_enter Tryz.func22, Tryz.ntmps22
  go_upto_region 2 with (go_at_call 29; refine (HRD.out _).mono ?_; rintro e w1 ⟨rfl, hB⟩)
  have hk : SK w w1.heap.size 47 E F lo hi p q (w1.alloc (.cells #[.int .i64 E, .int .i64 F] 47)) :=
    ⟨(HR.out.1.below hB HR.out.1.lt).alloc _, (HR.out.2.1.below hB HR.out.2.1.lt).alloc _, Row.made w1 (edc E F) 47, (HR.out.2.2.trans (hB.mono HR.out.2.2.size)).trans ((below_map w1 _).mono (Nat.le_trans HR.out.2.2.size hB.size))⟩
  clear hB
  obtain ⟨b, hb⟩ : ∃ b, b = w1.heap.size := ⟨_, rfl⟩
  rw [← hb] at hk
  simp only [← hb]
  clear hb
  generalize World.alloc _ _ = wc at hk ⊢
  have HK := Lib.hid hk
  obtain ⟨⟨x0, x1⟩, ⟨a0, a1, a2, a3⟩, ⟨q0, q1, q2, q3⟩, f0, f1, f2, f3⟩ := hk.all
  clear hk HR
  go_wp2_with (first
    | (go_at_call 30; (refine (Hhsi.out _).mono ?_; rintro e w' ⟨rfl, hB⟩; have hk := HK.out.below hB; have HK := Lib.hid hk; obtain ⟨⟨x0, x1⟩, ⟨a0, a1, a2, a3⟩, ⟨q0, q1, q2, q3⟩, f0, f1, f2, f3⟩ := hk.all; clear hk hB))
    | (go_at_call 48; (refine (Hhw.out _).mono ?_; rintro e w' ⟨rfl, hB⟩; have hk := HK.out.below hB; have HK := Lib.hid hk; obtain ⟨⟨x0, x1⟩, ⟨a0, a1, a2, a3⟩, ⟨q0, q1, q2, q3⟩, f0, f1, f2, f3⟩ := hk.all; clear hk hB))
    | (go_at_call 14; (refine (Hhfin.out _).mono ?_; rintro e w' ⟨rfl, hB⟩; have hk := HK.out.below hB; have HK := Lib.hid hk; obtain ⟨⟨x0, x1⟩, ⟨a0, a1, a2, a3⟩, ⟨q0, q1, q2, q3⟩, f0, f1, f2, f3⟩ := hk.all; obtain ⟨⟨z0, z1, z2, z3⟩, _⟩ := spc_row (spc_put hk.res A B P Q); have HBZ := Lib.hid (below_set4 hk.bel (Nat.le_succ w.heap.size) (.int .i64 A) (.int .i64 B) (.bool P) (.bool Q)); have Z := Lib.hid (And.intro z0 (And.intro z1 (And.intro z2 z3))); clear z0 z1 z2 z3; clear hk hB))
    | fail "none")
  obtain ⟨z0, z1, z2, z3⟩ := Z.out
  exact bodyPost_ret (v := .agg #[.int .i64 A, .int .i64 B, .bool P, .bool Q]) (by simp [results, Tryz.results22, go_sem, z0, z1, z2, z3]) rfl ⟨rfl, HBZ.out⟩
set_option maxRecDepth 100000 in
set_option maxHeartbeats 600000 in
theorem swap_many_64_false (lo hi : Int) (p q : Bool) (E F A B : Int) (P Q : Bool) (hrd : ∀ w, Calls Tryz.prog 29 #[.agg #[.int .i64 lo, .int .i64 hi, .bool p, .bool q]] w (Ret w (.agg #[.int .i64 E, .int .i64 F]))) (hsi : (∀ w, Calls Tryz.prog 30 #[.agg #[.int .i64 E, .int .i64 F]] w (Ret w (.bool false)))) (hfin : (∀ w, Calls Tryz.prog 49 #[.agg #[.int .i64 E, .int .i64 F]] w (Ret w (.agg #[.int .i64 A, .int .i64 B, .bool P, .bool Q])))) (w : World) :
    Calls Tryz.prog 22 #[.int .i64 64, .bool false, .agg #[.int .i64 lo, .int .i64 hi, .bool p, .bool q]] w (Ret w (.agg #[.int .i64 A, .int .i64 B, .bool P, .bool Q])) := by
  have HRD := Lib.hid hrd
  have Hhsi := Lib.hid hsi
  have Hhfin := Lib.hid hfin
  clear hrd hsi hfin
  have r1 : Row ((w.alloc (.cells #[.int .i64 lo, .int .i64 hi, .bool p, .bool q] 23)).alloc (.cells #[.int .i64 0, .int .i64 0, .bool false, .bool false] 23)) w.heap.size 23 (spc lo hi p q) := (Row.made w (spc lo hi p q) 23).alloc _
  have r2 : Row ((w.alloc (.cells #[.int .i64 lo, .int .i64 hi, .bool p, .bool q] 23)).alloc (.cells #[.int .i64 0, .int .i64 0, .bool false, .bool false] 23)) (w.heap.size + 1) 23 (spc 0 0 false false) := row2 w _ (spc 0 0 false false) _
  have b3 : Below w.heap.size w ((w.alloc (.cells #[.int .i64 lo, .int .i64 hi, .bool p, .bool q] 23)).alloc (.cells #[.int .i64 0, .int .i64 0, .bool false, .bool false] 23)) := (below_map w _).alloc (by simp) _
  have HR := Lib.hid (And.intro r1 (And.intro r2 b3))
  clear r1 r2 b3
  go_enter Tryz.func22, Tryz.ntmps22
  go_upto_region 2 with (go_at_call 29; refine (HRD.out _).mono ?_; rintro e w1 ⟨rfl, hB⟩)
  have hk : SK w w1.heap.size 47 E F lo hi p q (w1.alloc (.cells #[.int .i64 E, .int .i64 F] 47)) :=
    ⟨(HR.out.1.below hB HR.out.1.lt).alloc _, (HR.out.2.1.below hB HR.out.2.1.lt).alloc _, Row.made w1 (edc E F) 47, (HR.out.2.2.trans (hB.mono HR.out.2.2.size)).trans ((below_map w1 _).mono (Nat.le_trans HR.out.2.2.size hB.size))⟩
  clear hB
  obtain ⟨b, hb⟩ : ∃ b, b = w1.heap.size := ⟨_, rfl⟩
  rw [← hb] at hk
  simp only [← hb]
  clear hb
  generalize World.alloc _ _ = wc at hk ⊢
  have HK := Lib.hid hk
  obtain ⟨⟨x0, x1⟩, ⟨a0, a1, a2, a3⟩, ⟨q0, q1, q2, q3⟩, f0, f1, f2, f3⟩ := hk.all
  clear hk HR
  go_wp2_with (first
    | (go_at_call 30; (refine (Hhsi.out _).mono ?_; rintro e w' ⟨rfl, hB⟩; have hk := HK.out.below hB; have HK := Lib.hid hk; obtain ⟨⟨x0, x1⟩, ⟨a0, a1, a2, a3⟩, ⟨q0, q1, q2, q3⟩, f0, f1, f2, f3⟩ := hk.all; clear hk hB))
    | (go_at_call 49; (refine (Hhfin.out _).mono ?_; rintro e w' ⟨rfl, hB⟩; have hk := HK.out.below hB; have HK := Lib.hid hk; obtain ⟨⟨x0, x1⟩, ⟨a0, a1, a2, a3⟩, ⟨q0, q1, q2, q3⟩, f0, f1, f2, f3⟩ := hk.all; obtain ⟨⟨z0, z1, z2, z3⟩, _⟩ := spc_row (spc_put hk.res A B P Q); have HBZ := Lib.hid (below_set4 hk.bel (Nat.le_succ w.heap.size) (.int .i64 A) (.int .i64 B) (.bool P) (.bool Q)); have Z := Lib.hid (And.intro z0 (And.intro z1 (And.intro z2 z3))); clear z0 z1 z2 z3; clear hk hB))
    | fail "none")
  obtain ⟨z0, z1, z2, z3⟩ := Z.out
  exact bodyPost_ret (v := .agg #[.int .i64 A, .int .i64 B, .bool P, .bool Q]) (by simp [results, Tryz.results22, go_sem, z0, z1, z2, z3]) rfl ⟨rfl, HBZ.out⟩
set_option maxRecDepth 100000 in
set_option maxHeartbeats 600000 in
theorem swap_one_64_true (s : Int) (lo hi : Int) (p q : Bool) (E F A B : Int) (P Q : Bool) (hrd : ∀ w, Calls Tryz.prog 29 #[.agg #[.int .i64 lo, .int .i64 hi, .bool p, .bool q]] w (Ret w (.agg #[.int .i64 E, .int .i64 F]))) (hsi : (∀ w, Calls Tryz.prog 30 #[.agg #[.int .i64 E, .int .i64 F]] w (Ret w (.bool true)))) (hw : (∀ w, Calls Tryz.prog 48 #[.int .i64 64, .bool true, .int .i64 E] w (Ret w (.int .i64 s)))) (hfin : (∀ w, Calls Tryz.prog 14 #[.int .i64 s, .int .i64 s] w (Ret w (.agg #[.int .i64 A, .int .i64 B, .bool P, .bool Q])))) (w : World) :
    Calls Tryz.prog 22 #[.int .i64 64, .bool true, .agg #[.int .i64 lo, .int .i64 hi, .bool p, .bool q]] w (Ret w (.agg #[.int .i64 A, .int .i64 B, .bool P, .bool Q])) := by
  have HRD := Lib.hid hrd
  have Hhsi := Lib.hid hsi
  have Hhw := Lib.hid hw
  have Hhfin := Lib.hid hfin
  clear hrd hsi hw hfin
  have r1 : Row ((w.alloc (.cells #[.int .i64 lo, .int .i64 hi, .bool p, .bool q] 23)).alloc (.cells #[.int .i64 0, .int .i64 0, .bool false, .bool false] 23)) w.heap.size 23 (spc lo hi p q) := (Row.made w (spc lo hi p q) 23).alloc _
  have r2 : Row ((w.alloc (.cells #[.int .i64 lo, .int .i64 hi, .bool p, .bool q] 23)).alloc (.cells #[.int .i64 0, .int .i64 0, .bool false, .bool false] 23)) (w.heap.size + 1) 23 (spc 0 0 false false) := row2 w _ (spc 0 0 false false) _
  have b3 : Below w.heap.size w ((w.alloc (.cells #[.int .i64 lo, .int .i64 hi, .bool p, .bool q] 23)).alloc (.cells #[.int .i64 0, .int .i64 0, .bool false, .bool false] 23)) := (below_map w _).alloc (by simp) _
  have HR := Lib.hid (And.intro r1 (And.intro r2 b3))
  clear r1 r2 b3
  go_enter Tryz.func22, Tryz.ntmps22
  go_upto_region 2 with (go_at_call 29; refine (HRD.out _).mono ?_; rintro e w1 ⟨rfl, hB⟩)
  have hk : SK w w1.heap.size 47 E F lo hi p q (w1.alloc (.cells #[.int .i64 E, .int .i64 F] 47)) :=
    ⟨(HR.out.1.below hB HR.out.1.lt).alloc _, (HR.out.2.1.below hB HR.out.2.1.lt).alloc _, Row.made w1 (edc E F) 47, (HR.out.2.2.trans (hB.mono HR.out.2.2.size)).trans ((below_map w1 _).mono (Nat.le_trans HR.out.2.2.size hB.size))⟩
  clear hB
  obtain ⟨b, hb⟩ : ∃ b, b = w1.heap.size := ⟨_, rfl⟩
  rw [← hb] at hk
  simp only [← hb]
  clear hb
  generalize World.alloc _ _ = wc at hk ⊢
  have HK := Lib.hid hk
  obtain ⟨⟨x0, x1⟩, ⟨a0, a1, a2, a3⟩, ⟨q0, q1, q2, q3⟩, f0, f1, f2, f3⟩ := hk.all
  clear hk HR
  go_wp2_with (first
    | (go_at_call 30; (refine (Hhsi.out _).mono ?_; rintro e w' ⟨rfl, hB⟩; have hk := HK.out.below hB; have HK := Lib.hid hk; obtain ⟨⟨x0, x1⟩, ⟨a0, a1, a2, a3⟩, ⟨q0, q1, q2, q3⟩, f0, f1, f2, f3⟩ := hk.all; clear hk hB))
    | (go_at_call 48; (refine (Hhw.out _).mono ?_; rintro e w' ⟨rfl, hB⟩; have hk := HK.out.below hB; have HK := Lib.hid hk; obtain ⟨⟨x0, x1⟩, ⟨a0, a1, a2, a3⟩, ⟨q0, q1, q2, q3⟩, f0, f1, f2, f3⟩ := hk.all; clear hk hB))
    | (go_at_call 14; (refine (Hhfin.out _).mono ?_; rintro e w' ⟨rfl, hB⟩; have hk := HK.out.below hB; have HK := Lib.hid hk; obtain ⟨⟨x0, x1⟩, ⟨a0, a1, a2, a3⟩, ⟨q0, q1, q2, q3⟩, f0, f1, f2, f3⟩ := hk.all; obtain ⟨⟨z0, z1, z2, z3⟩, _⟩ := spc_row (spc_put hk.res A B P Q); have HBZ := Lib.hid (below_set4 hk.bel (Nat.le_succ w.heap.size) (.int .i64 A) (.int .i64 B) (.bool P) (.bool Q)); have Z := Lib.hid (And.intro z0 (And.intro z1 (And.intro z2 z3))); clear z0 z1 z2 z3; clear hk hB))
    | fail "none")
  obtain ⟨z0, z1, z2, z3⟩ := Z.out
  exact bodyPost_ret (v := .agg #[.int .i64 A, .int .i64 B, .bool P, .bool Q]) (by simp [results, Tryz.results22, go_sem, z0, z1, z2, z3]) rfl ⟨rfl, HBZ.out⟩
set_option maxRecDepth 100000 in
set_option maxHeartbeats 600000 in
theorem swap_many_64_true (lo hi : Int) (p q : Bool) (E F A B : Int) (P Q : Bool) (hrd : ∀ w, Calls Tryz.prog 29 #[.agg #[.int .i64 lo, .int .i64 hi, .bool p, .bool q]] w (Ret w (.agg #[.int .i64 E, .int .i64 F]))) (hsi : (∀ w, Calls Tryz.prog 30 #[.agg #[.int .i64 E, .int .i64 F]] w (Ret w (.bool false)))) (hfin : (∀ w, Calls Tryz.prog 19 #[] w (Ret w (.agg #[.int .i64 A, .int .i64 B, .bool P, .bool Q])))) (w : World) :
    Calls Tryz.prog 22 #[.int .i64 64, .bool true, .agg #[.int .i64 lo, .int .i64 hi, .bool p, .bool q]] w (Ret w (.agg #[.int .i64 A, .int .i64 B, .bool P, .bool Q])) := by
  have HRD := Lib.hid hrd
  have Hhsi := Lib.hid hsi
  have Hhfin := Lib.hid hfin
  clear hrd hsi hfin
  have r1 : Row ((w.alloc (.cells #[.int .i64 lo, .int .i64 hi, .bool p, .bool q] 23)).alloc (.cells #[.int .i64 0, .int .i64 0, .bool false, .bool false] 23)) w.heap.size 23 (spc lo hi p q) := (Row.made w (spc lo hi p q) 23).alloc _
  have r2 : Row ((w.alloc (.cells #[.int .i64 lo, .int .i64 hi, .bool p, .bool q] 23)).alloc (.cells #[.int .i64 0, .int .i64 0, .bool false, .bool false] 23)) (w.heap.size + 1) 23 (spc 0 0 false false) := row2 w _ (spc 0 0 false false) _
  have b3 : Below w.heap.size w ((w.alloc (.cells #[.int .i64 lo, .int .i64 hi, .bool p, .bool q] 23)).alloc (.cells #[.int .i64 0, .int .i64 0, .bool false, .bool false] 23)) := (below_map w _).alloc (by simp) _
  have HR := Lib.hid (And.intro r1 (And.intro r2 b3))
  clear r1 r2 b3
  go_enter Tryz.func22, Tryz.ntmps22
  go_upto_region 2 with (go_at_call 29; refine (HRD.out _).mono ?_; rintro e w1 ⟨rfl, hB⟩)
  have hk : SK w w1.heap.size 47 E F lo hi p q (w1.alloc (.cells #[.int .i64 E, .int .i64 F] 47)) :=
    ⟨(HR.out.1.below hB HR.out.1.lt).alloc _, (HR.out.2.1.below hB HR.out.2.1.lt).alloc _, Row.made w1 (edc E F) 47, (HR.out.2.2.trans (hB.mono HR.out.2.2.size)).trans ((below_map w1 _).mono (Nat.le_trans HR.out.2.2.size hB.size))⟩
  clear hB
  obtain ⟨b, hb⟩ : ∃ b, b = w1.heap.size := ⟨_, rfl⟩
  rw [← hb] at hk
  simp only [← hb]
  clear hb
  generalize World.alloc _ _ = wc at hk ⊢
  have HK := Lib.hid hk
  obtain ⟨⟨x0, x1⟩, ⟨a0, a1, a2, a3⟩, ⟨q0, q1, q2, q3⟩, f0, f1, f2, f3⟩ := hk.all
  clear hk HR
  go_wp2_with (first
    | (go_at_call 30; (refine (Hhsi.out _).mono ?_; rintro e w' ⟨rfl, hB⟩; have hk := HK.out.below hB; have HK := Lib.hid hk; obtain ⟨⟨x0, x1⟩, ⟨a0, a1, a2, a3⟩, ⟨q0, q1, q2, q3⟩, f0, f1, f2, f3⟩ := hk.all; clear hk hB))
    | (go_at_call 19; (refine (Hhfin.out _).mono ?_; rintro e w' ⟨rfl, hB⟩; have hk := HK.out.below hB; have HK := Lib.hid hk; obtain ⟨⟨x0, x1⟩, ⟨a0, a1, a2, a3⟩, ⟨q0, q1, q2, q3⟩, f0, f1, f2, f3⟩ := hk.all; obtain ⟨⟨z0, z1, z2, z3⟩, _⟩ := spc_row (spc_put hk.res A B P Q); have HBZ := Lib.hid (below_set4 hk.bel (Nat.le_succ w.heap.size) (.int .i64 A) (.int .i64 B) (.bool P) (.bool Q)); have Z := Lib.hid (And.intro z0 (And.intro z1 (And.intro z2 z3))); clear z0 z1 z2 z3; clear hk hB))
    | fail "none")
  obtain ⟨z0, z1, z2, z3⟩ := Z.out
  exact bodyPost_ret (v := .agg #[.int .i64 A, .int .i64 B, .bool P, .bool Q]) (by simp [results, Tryz.results22, go_sem, z0, z1, z2, z3]) rfl ⟨rfl, HBZ.out⟩
set_option maxRecDepth 100000 in
set_option maxHeartbeats 600000 in
theorem ext_leaf_other (size : Int) (t : Bool) (lo hi : Int) (p q : Bool) (E F A B : Int) (P Q : Bool) (hrd : ∀ w, Calls Tryz.prog 29 #[.agg #[.int .i64 lo, .int .i64 hi, .bool p, .bool q]] w (Ret w (.agg #[.int .i64 E, .int .i64 F]))) (n1 : (size != 8) = true) (n2 : (size != 16) = true) (n3 : (size != 32) = true) (hfin : (∀ w, Calls Tryz.prog 19 #[] w (Ret w (.agg #[.int .i64 A, .int .i64 B, .bool P, .bool Q])))) (w : World) :
    Calls Tryz.prog 24 #[.int .i64 size, .bool t, .agg #[.int .i64 lo, .int .i64 hi, .bool p, .bool q]] w (Ret w (.agg #[.int .i64 A, .int .i64 B, .bool P, .bool Q])) := by
  have HRD := Lib.hid hrd
  have Hhfin := Lib.hid hfin
  clear hrd hfin
  have r1 : Row ((w.alloc (.cells #[.int .i64 lo, .int .i64 hi, .bool p, .bool q] 23)).alloc (.cells #[.int .i64 0, .int .i64 0, .bool false, .bool false] 23)) w.heap.size 23 (spc lo hi p q) := (Row.made w (spc lo hi p q) 23).alloc _
  have r2 : Row ((w.alloc (.cells #[.int .i64 lo, .int .i64 hi, .bool p, .bool q] 23)).alloc (.cells #[.int .i64 0, .int .i64 0, .bool false, .bool false] 23)) (w.heap.size + 1) 23 (spc 0 0 false false) := row2 w _ (spc 0 0 false false) _
  have b3 : Below w.heap.size w ((w.alloc (.cells #[.int .i64 lo, .int .i64 hi, .bool p, .bool q] 23)).alloc (.cells #[.int .i64 0, .int .i64 0, .bool false, .bool false] 23)) := (below_map w _).alloc (by simp) _
  have HR := Lib.hid (And.intro r1 (And.intro r2 b3))
  clear r1 r2 b3
  go_enter Tryz.func24, Tryz.ntmps24
  go_upto_region 2 with (go_at_call 29; refine (HRD.out _).mono ?_; rintro e w1 ⟨rfl, hB⟩)
  have hk : SK w w1.heap.size 47 E F lo hi p q (w1.alloc (.cells #[.int .i64 E, .int .i64 F] 47)) :=
    ⟨(HR.out.1.below hB HR.out.1.lt).alloc _, (HR.out.2.1.below hB HR.out.2.1.lt).alloc _, Row.made w1 (edc E F) 47, (HR.out.2.2.trans (hB.mono HR.out.2.2.size)).trans ((below_map w1 _).mono (Nat.le_trans HR.out.2.2.size hB.size))⟩
  clear hB
  obtain ⟨b, hb⟩ : ∃ b, b = w1.heap.size := ⟨_, rfl⟩
  rw [← hb] at hk
  simp only [← hb]
  clear hb
  generalize World.alloc _ _ = wc at hk ⊢
  have HK := Lib.hid hk
  obtain ⟨⟨x0, x1⟩, ⟨a0, a1, a2, a3⟩, ⟨q0, q1, q2, q3⟩, f0, f1, f2, f3⟩ := hk.all
  clear hk HR
  go_wp2_with (first
    | (go_at_call 19; (refine (Hhfin.out _).mono ?_; rintro e w' ⟨rfl, hB⟩; have hk := HK.out.below hB; have HK := Lib.hid hk; obtain ⟨⟨x0, x1⟩, ⟨a0, a1, a2, a3⟩, ⟨q0, q1, q2, q3⟩, f0, f1, f2, f3⟩ := hk.all; obtain ⟨⟨z0, z1, z2, z3⟩, _⟩ := spc_row (spc_put hk.res A B P Q); have HBZ := Lib.hid (below_set4 hk.bel (Nat.le_succ w.heap.size) (.int .i64 A) (.int .i64 B) (.bool P) (.bool Q)); have Z := Lib.hid (And.intro z0 (And.intro z1 (And.intro z2 z3))); clear z0 z1 z2 z3; clear hk hB))
    | fail "none")
  obtain ⟨z0, z1, z2, z3⟩ := Z.out
  exact bodyPost_ret (v := .agg #[.int .i64 A, .int .i64 B, .bool P, .bool Q]) (by simp [results, Tryz.results24, go_sem, z0, z1, z2, z3]) rfl ⟨rfl, HBZ.out⟩
set_option maxRecDepth 100000 in
set_option maxHeartbeats 600000 in
theorem ext_leaf_32t (lo hi : Int) (p q : Bool) (E F A B : Int) (P Q : Bool) (hrd : ∀ w, Calls Tryz.prog 29 #[.agg #[.int .i64 lo, .int .i64 hi, .bool p, .bool q]] w (Ret w (.agg #[.int .i64 E, .int .i64 F]))) (hfin : (∀ w, Calls Tryz.prog 19 #[] w (Ret w (.agg #[.int .i64 A, .int .i64 B, .bool P, .bool Q])))) (w : World) :
    Calls Tryz.prog 24 #[.int .i64 32, .bool true, .agg #[.int .i64 lo, .int .i64 hi, .bool p, .bool q]] w (Ret w (.agg #[.int .i64 A, .int .i64 B, .bool P, .bool Q])) := by
  have HRD := Lib.hid hrd
  have Hhfin := Lib.hid hfin
  clear hrd hfin
  have r1 : Row ((w.alloc (.cells #[.int .i64 lo, .int .i64 hi, .bool p, .bool q] 23)).alloc (.cells #[.int .i64 0, .int .i64 0, .bool false, .bool false] 23)) w.heap.size 23 (spc lo hi p q) := (Row.made w (spc lo hi p q) 23).alloc _
  have r2 : Row ((w.alloc (.cells #[.int .i64 lo, .int .i64 hi, .bool p, .bool q] 23)).alloc (.cells #[.int .i64 0, .int .i64 0, .bool false, .bool false] 23)) (w.heap.size + 1) 23 (spc 0 0 false false) := row2 w _ (spc 0 0 false false) _
  have b3 : Below w.heap.size w ((w.alloc (.cells #[.int .i64 lo, .int .i64 hi, .bool p, .bool q] 23)).alloc (.cells #[.int .i64 0, .int .i64 0, .bool false, .bool false] 23)) := (below_map w _).alloc (by simp) _
  have HR := Lib.hid (And.intro r1 (And.intro r2 b3))
  clear r1 r2 b3
  go_enter Tryz.func24, Tryz.ntmps24
  go_upto_region 2 with (go_at_call 29; refine (HRD.out _).mono ?_; rintro e w1 ⟨rfl, hB⟩)
  have hk : SK w w1.heap.size 47 E F lo hi p q (w1.alloc (.cells #[.int .i64 E, .int .i64 F] 47)) :=
    ⟨(HR.out.1.below hB HR.out.1.lt).alloc _, (HR.out.2.1.below hB HR.out.2.1.lt).alloc _, Row.made w1 (edc E F) 47, (HR.out.2.2.trans (hB.mono HR.out.2.2.size)).trans ((below_map w1 _).mono (Nat.le_trans HR.out.2.2.size hB.size))⟩
  clear hB
  obtain ⟨b, hb⟩ : ∃ b, b = w1.heap.size := ⟨_, rfl⟩
  rw [← hb] at hk
  simp only [← hb]
  clear hb
  generalize World.alloc _ _ = wc at hk ⊢
  have HK := Lib.hid hk
  obtain ⟨⟨x0, x1⟩, ⟨a0, a1, a2, a3⟩, ⟨q0, q1, q2, q3⟩, f0, f1, f2, f3⟩ := hk.all
  clear hk HR
  go_wp2_with (first
    | (go_at_call 19; (refine (Hhfin.out _).mono ?_; rintro e w' ⟨rfl, hB⟩; have hk := HK.out.below hB; have HK := Lib.hid hk; obtain ⟨⟨x0, x1⟩, ⟨a0, a1, a2, a3⟩, ⟨q0, q1, q2, q3⟩, f0, f1, f2, f3⟩ := hk.all; obtain ⟨⟨z0, z1, z2, z3⟩, _⟩ := spc_row (spc_put hk.res A B P Q); have HBZ := Lib.hid (below_set4 hk.bel (Nat.le_succ w.heap.size) (.int .i64 A) (.int .i64 B) (.bool P) (.bool Q)); have Z := Lib.hid (And.intro z0 (And.intro z1 (And.intro z2 z3))); clear z0 z1 z2 z3; clear hk hB))
    | fail "none")
  obtain ⟨z0, z1, z2, z3⟩ := Z.out
  exact bodyPost_ret (v := .agg #[.int .i64 A, .int .i64 B, .bool P, .bool Q]) (by simp [results, Tryz.results24, go_sem, z0, z1, z2, z3]) rfl ⟨rfl, HBZ.out⟩
set_option maxRecDepth 100000 in
set_option maxHeartbeats 600000 in
theorem ext_one_8_false (s : Int) (lo hi : Int) (p q : Bool) (E F A B : Int) (P Q : Bool) (hrd : ∀ w, Calls Tryz.prog 29 #[.agg #[.int .i64 lo, .int .i64 hi, .bool p, .bool q]] w (Ret w (.agg #[.int .i64 E, .int .i64 F]))) (hsi : (∀ w, Calls Tryz.prog 30 #[.agg #[.int .i64 E, .int .i64 F]] w (Ret w (.bool true)))) (hw : (∀ w, Calls Tryz.prog 56 #[.int .i64 8, .bool false, .int .i64 E] w (Ret w (.int .i64 s)))) (hfin : (∀ w, Calls Tryz.prog 14 #[.int .i64 s, .int .i64 s] w (Ret w (.agg #[.int .i64 A, .int .i64 B, .bool P, .bool Q])))) (w : World) :
    Calls Tryz.prog 24 #[.int .i64 8, .bool false, .agg #[.int .i64 lo, .int .i64 hi, .bool p, .bool q]] w (Ret w (.agg #[.int .i64 A, .int .i64 B, .bool P, .bool Q])) := by
  have HRD := Lib.hid hrd
  have Hhsi := Lib.hid hsi
  have Hhw := Lib.hid hw
  have Hhfin := Lib.hid hfin
  clear hrd hsi hw hfin
  have r1 : Row ((w.alloc (.cells #[.int .i64 lo, .int .i64 hi, .bool p, .bool q] 23)).alloc (.cells #[.int .i64 0, .int .i64 0, .bool false, .bool false] 23)) w.heap.size 23 (spc lo hi p q) := (Row.made w (spc lo hi p q) 23).alloc _
  have r2 : Row ((w.alloc (.cells #[.int .i64 lo, .int .i64 hi, .bool p, .bool q] 23)).alloc (.cells #[.int .i64 0, .int .i64 0, .bool false, .bool false] 23)) (w.heap.size + 1) 23 (spc 0 0 false false) := row2 w _ (spc 0 0 false false) _
  have b3 : Below w.heap.size w ((w.alloc (.cells #[.int .i64 lo, .int .i64 hi, .bool p, .bool q] 23)).alloc (.cells #[.int .i64 0, .int .i64 0, .bool false, .bool false] 23)) := (below_map w _).alloc (by simp) _
  have HR := Lib.hid (And.intro r1 (And.intro r2 b3))
  clear r1 r2 b3
  go_enter Tryz.func24, Tryz.ntmps24
  go_upto_region 2 with (go_at_call 29; refine (HRD.out _).mono ?_; rintro e w1 ⟨rfl, hB⟩)
  have hk : SK w w1.heap.size 47 E F lo hi p q (w1.alloc (.cells #[.int .i64 E, .int .i64 F] 47)) :=
    ⟨(HR.out.1.below hB HR.out.1.lt).alloc _, (HR.out.2.1.below hB HR.out.2.1.lt).alloc _, Row.made w1 (edc E F) 47, (HR.out.2.2.trans (hB.mono HR.out.2.2.size)).trans ((below_map w1 _).mono (Nat.le_trans HR.out.2.2.size hB.size))⟩
  clear hB
  obtain ⟨b, hb⟩ : ∃ b, b = w1.heap.size := ⟨_, rfl⟩
  rw [← hb] at hk
  simp only [← hb]
  clear hb
  generalize World.alloc _ _ = wc at hk ⊢
  have HK := Lib.hid hk
  obtain ⟨⟨x0, x1⟩, ⟨a0, a1, a2, a3⟩, ⟨q0, q1, q2, q3⟩, f0, f1, f2, f3⟩ := hk.all
  clear hk HR
  go_wp2_with (first
    | (go_at_call 30; (refine (Hhsi.out _).mono ?_; rintro e w' ⟨rfl, hB⟩; have hk := HK.out.below hB; have HK := Lib.hid hk; obtain ⟨⟨x0, x1⟩, ⟨a0, a1, a2, a3⟩, ⟨q0, q1, q2, q3⟩, f0, f1, f2, f3⟩ := hk.all; clear hk hB))
    | (go_at_call 56; (refine (Hhw.out _).mono ?_; rintro e w' ⟨rfl, hB⟩; have hk := HK.out.below hB; have HK := Lib.hid hk; obtain ⟨⟨x0, x1⟩, ⟨a0, a1, a2, a3⟩, ⟨q0, q1, q2, q3⟩, f0, f1, f2, f3⟩ := hk.all; clear hk hB))
    | (go_at_call 14; (refine (Hhfin.out _).mono ?_; rintro e w' ⟨rfl, hB⟩; have hk := HK.out.below hB; have HK := Lib.hid hk; obtain ⟨⟨x0, x1⟩, ⟨a0, a1, a2, a3⟩, ⟨q0, q1, q2, q3⟩, f0, f1, f2, f3⟩ := hk.all; obtain ⟨⟨z0, z1, z2, z3⟩, _⟩ := spc_row (spc_put hk.res A B P Q); have HBZ := Lib.hid (below_set4 hk.bel (Nat.le_succ w.heap.size) (.int .i64 A) (.int .i64 B) (.bool P) (.bool Q)); have Z := Lib.hid (And.intro z0 (And.intro z1 (And.intro z2 z3))); clear z0 z1 z2 z3; clear hk hB))
    | fail "none")
  obtain ⟨z0, z1, z2, z3⟩ := Z.out
  exact bodyPost_ret (v := .agg #[.int .i64 A, .int .i64 B, .bool P, .bool Q]) (by simp [results, Tryz.results24, go_sem, z0, z1, z2, z3]) rfl ⟨rfl, HBZ.out⟩
set_option maxRecDepth 100000 in
set_option maxHeartbeats 600000 in
theorem ext_in_8_false (lo hi : Int) (p q : Bool) (E F A B : Int) (P Q : Bool) (hrd : ∀ w, Calls Tryz.prog 29 #[.agg #[.int .i64 lo, .int .i64 hi, .bool p, .bool q]] w (Ret w (.agg #[.int .i64 E, .int .i64 F]))) (hsi : (∀ w, Calls Tryz.prog 30 #[.agg #[.int .i64 E, .int .i64 F]] w (Ret w (.bool false)))) (hin : (∀ w, Calls Tryz.prog 50 #[.agg #[.int .i64 E, .int .i64 F], .int .i64 (-128), .int .i64 127] w (Ret w (.bool true)))) (hfin : (∀ w, Calls Tryz.prog 49 #[.agg #[.int .i64 E, .int .i64 F]] w (Ret w (.agg #[.int .i64 A, .int .i64 B, .bool P, .bool Q])))) (w : World) :
    Calls Tryz.prog 24 #[.int .i64 8, .bool false, .agg #[.int .i64 lo, .int .i64 hi, .bool p, .bool q]] w (Ret w (.agg #[.int .i64 A, .int .i64 B, .bool P, .bool Q])) := by
  have HRD := Lib.hid hrd
  have Hhsi := Lib.hid hsi
  have Hhin := Lib.hid hin
  have Hhfin := Lib.hid hfin
  clear hrd hsi hin hfin
  have r1 : Row ((w.alloc (.cells #[.int .i64 lo, .int .i64 hi, .bool p, .bool q] 23)).alloc (.cells #[.int .i64 0, .int .i64 0, .bool false, .bool false] 23)) w.heap.size 23 (spc lo hi p q) := (Row.made w (spc lo hi p q) 23).alloc _
  have r2 : Row ((w.alloc (.cells #[.int .i64 lo, .int .i64 hi, .bool p, .bool q] 23)).alloc (.cells #[.int .i64 0, .int .i64 0, .bool false, .bool false] 23)) (w.heap.size + 1) 23 (spc 0 0 false false) := row2 w _ (spc 0 0 false false) _
  have b3 : Below w.heap.size w ((w.alloc (.cells #[.int .i64 lo, .int .i64 hi, .bool p, .bool q] 23)).alloc (.cells #[.int .i64 0, .int .i64 0, .bool false, .bool false] 23)) := (below_map w _).alloc (by simp) _
  have HR := Lib.hid (And.intro r1 (And.intro r2 b3))
  clear r1 r2 b3
  go_enter Tryz.func24, Tryz.ntmps24
  go_upto_region 2 with (go_at_call 29; refine (HRD.out _).mono ?_; rintro e w1 ⟨rfl, hB⟩)
  have hk : SK w w1.heap.size 47 E F lo hi p q (w1.alloc (.cells #[.int .i64 E, .int .i64 F] 47)) :=
    ⟨(HR.out.1.below hB HR.out.1.lt).alloc _, (HR.out.2.1.below hB HR.out.2.1.lt).alloc _, Row.made w1 (edc E F) 47, (HR.out.2.2.trans (hB.mono HR.out.2.2.size)).trans ((below_map w1 _).mono (Nat.le_trans HR.out.2.2.size hB.size))⟩
  clear hB
  obtain ⟨b, hb⟩ : ∃ b, b = w1.heap.size := ⟨_, rfl⟩
  rw [← hb] at hk
  simp only [← hb]
  clear hb
  generalize World.alloc _ _ = wc at hk ⊢
  have HK := Lib.hid hk
  obtain ⟨⟨x0, x1⟩, ⟨a0, a1, a2, a3⟩, ⟨q0, q1, q2, q3⟩, f0, f1, f2, f3⟩ := hk.all
  clear hk HR
  go_wp2_with (first
    | (go_at_call 30; (refine (Hhsi.out _).mono ?_; rintro e w' ⟨rfl, hB⟩; have hk := HK.out.below hB; have HK := Lib.hid hk; obtain ⟨⟨x0, x1⟩, ⟨a0, a1, a2, a3⟩, ⟨q0, q1, q2, q3⟩, f0, f1, f2, f3⟩ := hk.all; clear hk hB))
    | (go_at_call 50; (refine (Hhin.out _).mono ?_; rintro e w' ⟨rfl, hB⟩; have hk := HK.out.below hB; have HK := Lib.hid hk; obtain ⟨⟨x0, x1⟩, ⟨a0, a1, a2, a3⟩, ⟨q0, q1, q2, q3⟩, f0, f1, f2, f3⟩ := hk.all; clear hk hB))
    | (go_at_call 49; (refine (Hhfin.out _).mono ?_; rintro e w' ⟨rfl, hB⟩; have hk := HK.out.below hB; have HK := Lib.hid hk; obtain ⟨⟨x0, x1⟩, ⟨a0, a1, a2, a3⟩, ⟨q0, q1, q2, q3⟩, f0, f1, f2, f3⟩ := hk.all; obtain ⟨⟨z0, z1, z2, z3⟩, _⟩ := spc_row (spc_put hk.res A B P Q); have HBZ := Lib.hid (below_set4 hk.bel (Nat.le_succ w.heap.size) (.int .i64 A) (.int .i64 B) (.bool P) (.bool Q)); have Z := Lib.hid (And.intro z0 (And.intro z1 (And.intro z2 z3))); clear z0 z1 z2 z3; clear hk hB))
    | fail "none")
  obtain ⟨z0, z1, z2, z3⟩ := Z.out
  exact bodyPost_ret (v := .agg #[.int .i64 A, .int .i64 B, .bool P, .bool Q]) (by simp [results, Tryz.results24, go_sem, z0, z1, z2, z3]) rfl ⟨rfl, HBZ.out⟩
set_option maxRecDepth 100000 in
set_option maxHeartbeats 600000 in
theorem ext_out_8_false_below (e1 e2 f1 f2 : Int) (lo hi : Int) (p q : Bool) (E F A B : Int) (P Q : Bool) (hrd : ∀ w, Calls Tryz.prog 29 #[.agg #[.int .i64 lo, .int .i64 hi, .bool p, .bool q]] w (Ret w (.agg #[.int .i64 E, .int .i64 F]))) (g1 : wrap64 (E + 4294967295) = e1) (g2 : wrap64 (e1 + 1) = e2) (g3 : wrap64 (F + 4294967295) = f1) (g4 : wrap64 (f1 + 1) = f2) (hsi : (∀ w, Calls Tryz.prog 30 #[.agg #[.int .i64 E, .int .i64 F]] w (Ret w (.bool false)))) (iv : Int → Bool) (i1 : iv 127 = false) (i2 : iv (-1) = true) (hin2 : ∀ (b : Int) w, Calls Tryz.prog 50 #[.agg #[.int .i64 E, .int .i64 F], .int .i64 (-128), .int .i64 b] w (Ret w (.bool (iv b)))) (hfin : (∀ w, Calls Tryz.prog 14 #[.int .i64 e2, .int .i64 f2] w (Ret w (.agg #[.int .i64 A, .int .i64 B, .bool P, .bool Q])))) (w : World) :
    Calls Tryz.prog 24 #[.int .i64 8, .bool false, .agg #[.int .i64 lo, .int .i64 hi, .bool p, .bool q]] w (Ret w (.agg #[.int .i64 A, .int .i64 B, .bool P, .bool Q])) := by
  have HRD := Lib.hid hrd
  have Hhsi := Lib.hid hsi
  have Hhin2 := Lib.hid hin2
  have Hhfin := Lib.hid hfin
  clear hrd hsi hin2 hfin
  have r1 : Row ((w.alloc (.cells #[.int .i64 lo, .int .i64 hi, .bool p, .bool q] 23)).alloc (.cells #[.int .i64 0, .int .i64 0, .bool false, .bool false] 23)) w.heap.size 23 (spc lo hi p q) := (Row.made w (spc lo hi p q) 23).alloc _
  have r2 : Row ((w.alloc (.cells #[.int .i64 lo, .int .i64 hi, .bool p, .bool q] 23)).alloc (.cells #[.int .i64 0, .int .i64 0, .bool false, .bool false] 23)) (w.heap.size + 1) 23 (spc 0 0 false false) := row2 w _ (spc 0 0 false false) _
  have b3 : Below w.heap.size w ((w.alloc (.cells #[.int .i64 lo, .int .i64 hi, .bool p, .bool q] 23)).alloc (.cells #[.int .i64 0, .int .i64 0, .bool false, .bool false] 23)) := (below_map w _).alloc (by simp) _
  have HR := Lib.hid (And.intro r1 (And.intro r2 b3))
  clear r1 r2 b3
  go_enter Tryz.func24, Tryz.ntmps24
  go_upto_region 2 with (go_at_call 29; refine (HRD.out _).mono ?_; rintro e w1 ⟨rfl, hB⟩)
  have hk : SK w w1.heap.size 47 E F lo hi p q (w1.alloc (.cells #[.int .i64 E, .int .i64 F] 47)) :=
    ⟨(HR.out.1.below hB HR.out.1.lt).alloc _, (HR.out.2.1.below hB HR.out.2.1.lt).alloc _, Row.made w1 (edc E F) 47, (HR.out.2.2.trans (hB.mono HR.out.2.2.size)).trans ((below_map w1 _).mono (Nat.le_trans HR.out.2.2.size hB.size))⟩
  clear hB
  obtain ⟨b, hb⟩ : ∃ b, b = w1.heap.size := ⟨_, rfl⟩
  rw [← hb] at hk
  simp only [← hb]
  clear hb
  generalize World.alloc _ _ = wc at hk ⊢
  have HK := Lib.hid hk
  obtain ⟨⟨x0, x1⟩, ⟨a0, a1, a2, a3⟩, ⟨q0, q1, q2, q3⟩, f0, f1, f2, f3⟩ := hk.all
  clear hk HR
  go_wp2_with (first
    | (go_at_call 30; (refine (Hhsi.out _).mono ?_; rintro e w' ⟨rfl, hB⟩; have hk := HK.out.below hB; have HK := Lib.hid hk; obtain ⟨⟨x0, x1⟩, ⟨a0, a1, a2, a3⟩, ⟨q0, q1, q2, q3⟩, f0, f1, f2, f3⟩ := hk.all; clear hk hB))
    | (go_at_call 50; (refine (Hhin2.out _ _).mono ?_; rintro e w' ⟨rfl, hB⟩; (first | rw [i1] | rw [i2]); have hk := HK.out.below hB; have HK := Lib.hid hk; obtain ⟨⟨x0, x1⟩, ⟨a0, a1, a2, a3⟩, ⟨q0, q1, q2, q3⟩, f0, f1, f2, f3⟩ := hk.all; clear hk hB))
    | (go_at_call 14; (refine (Hhfin.out _).mono ?_; rintro e w' ⟨rfl, hB⟩; have hk := HK.out.below hB; have HK := Lib.hid hk; obtain ⟨⟨x0, x1⟩, ⟨a0, a1, a2, a3⟩, ⟨q0, q1, q2, q3⟩, f0, f1, f2, f3⟩ := hk.all; obtain ⟨⟨z0, z1, z2, z3⟩, _⟩ := spc_row (spc_put hk.res A B P Q); have HBZ := Lib.hid (below_set4 hk.bel (Nat.le_succ w.heap.size) (.int .i64 A) (.int .i64 B) (.bool P) (.bool Q)); have Z := Lib.hid (And.intro z0 (And.intro z1 (And.intro z2 z3))); clear z0 z1 z2 z3; clear hk hB))
    | fail "none")
  obtain ⟨z0, z1, z2, z3⟩ := Z.out
  exact bodyPost_ret (v := .agg #[.int .i64 A, .int .i64 B, .bool P, .bool Q]) (by simp [results, Tryz.results24, go_sem, z0, z1, z2, z3]) rfl ⟨rfl, HBZ.out⟩
set_option maxRecDepth 100000 in
set_option maxHeartbeats 600000 in
theorem ext_out_8_false_any (lo hi : Int) (p q : Bool) (E F A B : Int) (P Q : Bool) (hrd : ∀ w, Calls Tryz.prog 29 #[.agg #[.int .i64 lo, .int .i64 hi, .bool p, .bool q]] w (Ret w (.agg #[.int .i64 E, .int .i64 F]))) (hsi : (∀ w, Calls Tryz.prog 30 #[.agg #[.int .i64 E, .int .i64 F]] w (Ret w (.bool false)))) (iv : Int → Bool) (i1 : iv 127 = false) (i2 : iv (-1) = false) (hin2 : ∀ (b : Int) w, Calls Tryz.prog 50 #[.agg #[.int .i64 E, .int .i64 F], .int .i64 (-128), .int .i64 b] w (Ret w (.bool (iv b)))) (hfin : (∀ w, Calls Tryz.prog 14 #[.int .i64 (-128), .int .i64 127] w (Ret w (.agg #[.int .i64 A, .int .i64 B, .bool P, .bool Q])))) (w : World) :
    Calls Tryz.prog 24 #[.int .i64 8, .bool false, .agg #[.int .i64 lo, .int .i64 hi, .bool p, .bool q]] w (Ret w (.agg #[.int .i64 A, .int .i64 B, .bool P, .bool Q])) := by
  have HRD := Lib.hid hrd
  have Hhsi := Lib.hid hsi
  have Hhin2 := Lib.hid hin2
  have Hhfin := Lib.hid hfin
  clear hrd hsi hin2 hfin
  have r1 : Row ((w.alloc (.cells #[.int .i64 lo, .int .i64 hi, .bool p, .bool q] 23)).alloc (.cells #[.int .i64 0, .int .i64 0, .bool false, .bool false] 23)) w.heap.size 23 (spc lo hi p q) := (Row.made w (spc lo hi p q) 23).alloc _
  have r2 : Row ((w.alloc (.cells #[.int .i64 lo, .int .i64 hi, .bool p, .bool q] 23)).alloc (.cells #[.int .i64 0, .int .i64 0, .bool false, .bool false] 23)) (w.heap.size + 1) 23 (spc 0 0 false false) := row2 w _ (spc 0 0 false false) _
  have b3 : Below w.heap.size w ((w.alloc (.cells #[.int .i64 lo, .int .i64 hi, .bool p, .bool q] 23)).alloc (.cells #[.int .i64 0, .int .i64 0, .bool false, .bool false] 23)) := (below_map w _).alloc (by simp) _
  have HR := Lib.hid (And.intro r1 (And.intro r2 b3))
  clear r1 r2 b3
  go_enter Tryz.func24, Tryz.ntmps24
  go_upto_region 2 with (go_at_call 29; refine (HRD.out _).mono ?_; rintro e w1 ⟨rfl, hB⟩)
  have hk : SK w w1.heap.size 47 E F lo hi p q (w1.alloc (.cells #[.int .i64 E, .int .i64 F] 47)) :=
    ⟨(HR.out.1.below hB HR.out.1.lt).alloc _, (HR.out.2.1.below hB HR.out.2.1.lt).alloc _, Row.made w1 (edc E F) 47, (HR.out.2.2.trans (hB.mono HR.out.2.2.size)).trans ((below_map w1 _).mono (Nat.le_trans HR.out.2.2.size hB.size))⟩
  clear hB
  obtain ⟨b, hb⟩ : ∃ b, b = w1.heap.size := ⟨_, rfl⟩
  rw [← hb] at hk
  simp only [← hb]
  clear hb
  generalize World.alloc _ _ = wc at hk ⊢
  have HK := Lib.hid hk
  obtain ⟨⟨x0, x1⟩, ⟨a0, a1, a2, a3⟩, ⟨q0, q1, q2, q3⟩, f0, f1, f2, f3⟩ := hk.all
  clear hk HR
  go_wp2_with (first
    | (go_at_call 30; (refine (Hhsi.out _).mono ?_; rintro e w' ⟨rfl, hB⟩; have hk := HK.out.below hB; have HK := Lib.hid hk; obtain ⟨⟨x0, x1⟩, ⟨a0, a1, a2, a3⟩, ⟨q0, q1, q2, q3⟩, f0, f1, f2, f3⟩ := hk.all; clear hk hB))
    | (go_at_call 50; (refine (Hhin2.out _ _).mono ?_; rintro e w' ⟨rfl, hB⟩; (first | rw [i1] | rw [i2]); have hk := HK.out.below hB; have HK := Lib.hid hk; obtain ⟨⟨x0, x1⟩, ⟨a0, a1, a2, a3⟩, ⟨q0, q1, q2, q3⟩, f0, f1, f2, f3⟩ := hk.all; clear hk hB))
    | (go_at_call 14; (refine (Hhfin.out _).mono ?_; rintro e w' ⟨rfl, hB⟩; have hk := HK.out.below hB; have HK := Lib.hid hk; obtain ⟨⟨x0, x1⟩, ⟨a0, a1, a2, a3⟩, ⟨q0, q1, q2, q3⟩, f0, f1, f2, f3⟩ := hk.all; obtain ⟨⟨z0, z1, z2, z3⟩, _⟩ := spc_row (spc_put hk.res A B P Q); have HBZ := Lib.hid (below_set4 hk.bel (Nat.le_succ w.heap.size) (.int .i64 A) (.int .i64 B) (.bool P) (.bool Q)); have Z := Lib.hid (And.intro z0 (And.intro z1 (And.intro z2 z3))); clear z0 z1 z2 z3; clear hk hB))
    | fail "none")
  obtain ⟨z0, z1, z2, z3⟩ := Z.out
  exact bodyPost_ret (v := .agg #[.int .i64 A, .int .i64 B, .bool P, .bool Q]) (by simp [results, Tryz.results24, go_sem, z0, z1, z2, z3]) rfl ⟨rfl, HBZ.out⟩
set_option maxRecDepth 100000 in
set_option maxHeartbeats 600000 in
theorem ext_one_8_true (s : Int) (lo hi : Int) (p q : Bool) (E F A B : Int) (P Q : Bool) (hrd : ∀ w, Calls Tryz.prog 29 #[.agg #[.int .i64 lo, .int .i64 hi, .bool p, .bool q]] w (Ret w (.agg #[.int .i64 E, .int .i64 F]))) (hsi : (∀ w, Calls Tryz.prog 30 #[.agg #[.int .i64 E, .int .i64 F]] w (Ret w (.bool true)))) (hw : (∀ w, Calls Tryz.prog 56 #[.int .i64 8, .bool true, .int .i64 E] w (Ret w (.int .i64 s)))) (hfin : (∀ w, Calls Tryz.prog 14 #[.int .i64 s, .int .i64 s] w (Ret w (.agg #[.int .i64 A, .int .i64 B, .bool P, .bool Q])))) (w : World) :
    Calls Tryz.prog 24 #[.int .i64 8, .bool true, .agg #[.int .i64 lo, .int .i64 hi, .bool p, .bool q]] w (Ret w (.agg #[.int .i64 A, .int .i64 B, .bool P, .bool Q])) := by
  have HRD := Lib.hid hrd
  have Hhsi := Lib.hid hsi
  have Hhw := Lib.hid hw
  have Hhfin := Lib.hid hfin
  clear hrd hsi hw hfin
  have r1 : Row ((w.alloc (.cells #[.int .i64 lo, .int .i64 hi, .bool p, .bool q] 23)).alloc (.cells #[.int .i64 0, .int .i64 0, .bool false, .bool false] 23)) w.heap.size 23 (spc lo hi p q) := (Row.made w (spc lo hi p q) 23).alloc _
  have r2 : Row ((w.alloc (.cells #[.int .i64 lo, .int .i64 hi, .bool p, .bool q] 23)).alloc (.cells #[.int .i64 0, .int .i64 0, .bool false, .bool false] 23)) (w.heap.size + 1) 23 (spc 0 0 false false) := row2 w _ (spc 0 0 false false) _
  have b3 : Below w.heap.size w ((w.alloc (.cells #[.int .i64 lo, .int .i64 hi, .bool p, .bool q] 23)).alloc (.cells #[.int .i64 0, .int .i64 0, .bool false, .bool false] 23)) := (below_map w _).alloc (by simp) _
  have HR := Lib.hid (And.intro r1 (And.intro r2 b3))
  clear r1 r2 b3
  go_enter Tryz.func24, Tryz.ntmps24
  go_upto_region 2 with (go_at_call 29; refine (HRD.out _).mono ?_; rintro e w1 ⟨rfl, hB⟩)
  have hk : SK w w1.heap.size 47 E F lo hi p q (w1.alloc (.cells #[.int .i64 E, .int .i64 F] 47)) :=
    ⟨(HR.out.1.below hB HR.out.1.lt).alloc _, (HR.out.2.1.below hB HR.out.2.1.lt).alloc _, Row.made w1 (edc E F) 47, (HR.out.2.2.trans (hB.mono HR.out.2.2.size)).trans ((below_map w1 _).mono (Nat.le_trans HR.out.2.2.size hB.size))⟩
  clear hB
  obtain ⟨b, hb⟩ : ∃ b, b = w1.heap.size := ⟨_, rfl⟩
  rw [← hb] at hk
  simp only [← hb]
  clear hb
  generalize World.alloc _ _ = wc at hk ⊢
  have HK := Lib.hid hk
  obtain ⟨⟨x0, x1⟩, ⟨a0, a1, a2, a3⟩, ⟨q0, q1, q2, q3⟩, f0, f1, f2, f3⟩ := hk.all
  clear hk HR
  go_wp2_with (first
    | (go_at_call 30; (refine (Hhsi.out _).mono ?_; rintro e w' ⟨rfl, hB⟩; have hk := HK.out.below hB; have HK := Lib.hid hk; obtain ⟨⟨x0, x1⟩, ⟨a0, a1, a2, a3⟩, ⟨q0, q1, q2, q3⟩, f0, f1, f2, f3⟩ := hk.all; clear hk hB))
    | (go_at_call 56; (refine (Hhw.out _).mono ?_; rintro e w' ⟨rfl, hB⟩; have hk := HK.out.below hB; have HK := Lib.hid hk; obtain ⟨⟨x0, x1⟩, ⟨a0, a1, a2, a3⟩, ⟨q0, q1, q2, q3⟩, f0, f1, f2, f3⟩ := hk.all; clear hk hB))
    | (go_at_call 14; (refine (Hhfin.out _).mono ?_; rintro e w' ⟨rfl, hB⟩; have hk := HK.out.below hB; have HK := Lib.hid hk; obtain ⟨⟨x0, x1⟩, ⟨a0, a1, a2, a3⟩, ⟨q0, q1, q2, q3⟩, f0, f1, f2, f3⟩ := hk.all; obtain ⟨⟨z0, z1, z2, z3⟩, _⟩ := spc_row (spc_put hk.res A B P Q); have HBZ := Lib.hid (below_set4 hk.bel (Nat.le_succ w.heap.size) (.int .i64 A) (.int .i64 B) (.bool P) (.bool Q)); have Z := Lib.hid (And.intro z0 (And.intro z1 (And.intro z2 z3))); clear z0 z1 z2 z3; clear hk hB))
    | fail "none")
  obtain ⟨z0, z1, z2, z3⟩ := Z.out
  exact bodyPost_ret (v := .agg #[.int .i64 A, .int .i64 B, .bool P, .bool Q]) (by simp [results, Tryz.results24, go_sem, z0, z1, z2, z3]) rfl ⟨rfl, HBZ.out⟩
set_option maxRecDepth 100000 in
set_option maxHeartbeats 600000 in
theorem ext_in_8_true (lo hi : Int) (p q : Bool) (E F A B : Int) (P Q : Bool) (hrd : ∀ w, Calls Tryz.prog 29 #[.agg #[.int .i64 lo, .int .i64 hi, .bool p, .bool q]] w (Ret w (.agg #[.int .i64 E, .int .i64 F]))) (h0 : decide (0 ≤ E) = true) (hsi : (∀ w, Calls Tryz.prog 30 #[.agg #[.int .i64 E, .int .i64 F]] w (Ret w (.bool false)))) (hin : (∀ w, Calls Tryz.prog 50 #[.agg #[.int .i64 E, .int .i64 F], .int .i64 (-128), .int .i64 127] w (Ret w (.bool true)))) (hfin : (∀ w, Calls Tryz.prog 49 #[.agg #[.int .i64 E, .int .i64 F]] w (Ret w (.agg #[.int .i64 A, .int .i64 B, .bool P, .bool Q])))) (w : World) :
    Calls Tryz.prog 24 #[.int .i64 8, .bool true, .agg #[.int .i64 lo, .int .i64 hi, .bool p, .bool q]] w (Ret w (.agg #[.int .i64 A, .int .i64 B, .bool P, .bool Q])) := by
  have HRD := Lib.hid hrd
  have Hhsi := Lib.hid hsi
  have Hhin := Lib.hid hin
  have Hhfin := Lib.hid hfin
  clear hrd hsi hin hfin
  have r1 : Row ((w.alloc (.cells #[.int .i64 lo, .int .i64 hi, .bool p, .bool q] 23)).alloc (.cells #[.int .i64 0, .int .i64 0, .bool false, .bool false] 23)) w.heap.size 23 (spc lo hi p q) := (Row.made w (spc lo hi p q) 23).alloc _
  have r2 : Row ((w.alloc (.cells #[.int .i64 lo, .int .i64 hi, .bool p, .bool q] 23)).alloc (.cells #[.int .i64 0, .int .i64 0, .bool false, .bool false] 23)) (w.heap.size + 1) 23 (spc 0 0 false false) := row2 w _ (spc 0 0 false false) _
  have b3 : Below w.heap.size w ((w.alloc (.cells #[.int .i64 lo, .int .i64 hi, .bool p, .bool q] 23)).alloc (.cells #[.int .i64 0, .int .i64 0, .bool false, .bool false] 23)) := (below_map w _).alloc (by simp) _
  have HR := Lib.hid (And.intro r1 (And.intro r2 b3))
  clear r1 r2 b3
  go_enter Tryz.func24, Tryz.ntmps24
  go_upto_region 2 with (go_at_call 29; refine (HRD.out _).mono ?_; rintro e w1 ⟨rfl, hB⟩)
  have hk : SK w w1.heap.size 47 E F lo hi p q (w1.alloc (.cells #[.int .i64 E, .int .i64 F] 47)) :=
    ⟨(HR.out.1.below hB HR.out.1.lt).alloc _, (HR.out.2.1.below hB HR.out.2.1.lt).alloc _, Row.made w1 (edc E F) 47, (HR.out.2.2.trans (hB.mono HR.out.2.2.size)).trans ((below_map w1 _).mono (Nat.le_trans HR.out.2.2.size hB.size))⟩
  clear hB
  obtain ⟨b, hb⟩ : ∃ b, b = w1.heap.size := ⟨_, rfl⟩
  rw [← hb] at hk
  simp only [← hb]
  clear hb
  generalize World.alloc _ _ = wc at hk ⊢
  have HK := Lib.hid hk
  obtain ⟨⟨x0, x1⟩, ⟨a0, a1, a2, a3⟩, ⟨q0, q1, q2, q3⟩, f0, f1, f2, f3⟩ := hk.all
  clear hk HR
  go_wp2_with (first
    | (go_at_call 30; (refine (Hhsi.out _).mono ?_; rintro e w' ⟨rfl, hB⟩; have hk := HK.out.below hB; have HK := Lib.hid hk; obtain ⟨⟨x0, x1⟩, ⟨a0, a1, a2, a3⟩, ⟨q0, q1, q2, q3⟩, f0, f1, f2, f3⟩ := hk.all; clear hk hB))
    | (go_at_call 50; (refine (Hhin.out _).mono ?_; rintro e w' ⟨rfl, hB⟩; have hk := HK.out.below hB; have HK := Lib.hid hk; obtain ⟨⟨x0, x1⟩, ⟨a0, a1, a2, a3⟩, ⟨q0, q1, q2, q3⟩, f0, f1, f2, f3⟩ := hk.all; clear hk hB))
    | (go_at_call 49; (refine (Hhfin.out _).mono ?_; rintro e w' ⟨rfl, hB⟩; have hk := HK.out.below hB; have HK := Lib.hid hk; obtain ⟨⟨x0, x1⟩, ⟨a0, a1, a2, a3⟩, ⟨q0, q1, q2, q3⟩, f0, f1, f2, f3⟩ := hk.all; obtain ⟨⟨z0, z1, z2, z3⟩, _⟩ := spc_row (spc_put hk.res A B P Q); have HBZ := Lib.hid (below_set4 hk.bel (Nat.le_succ w.heap.size) (.int .i64 A) (.int .i64 B) (.bool P) (.bool Q)); have Z := Lib.hid (And.intro z0 (And.intro z1 (And.intro z2 z3))); clear z0 z1 z2 z3; clear hk hB))
    | fail "none")
  obtain ⟨z0, z1, z2, z3⟩ := Z.out
  exact bodyPost_ret (v := .agg #[.int .i64 A, .int .i64 B, .bool P, .bool Q]) (by simp [results, Tryz.results24, go_sem, z0, z1, z2, z3]) rfl ⟨rfl, HBZ.out⟩
set_option maxRecDepth 100000 in
set_option maxHeartbeats 600000 in
theorem ext_out_8_true_below (e1 e2 f1 f2 : Int) (lo hi : Int) (p q : Bool) (E F A B : Int) (P Q : Bool) (hrd : ∀ w, Calls Tryz.prog 29 #[.agg #[.int .i64 lo, .int .i64 hi, .bool p, .bool q]] w (Ret w (.agg #[.int .i64 E, .int .i64 F]))) (g1 : wrap64 (E + 4294967295) = e1) (g2 : wrap64 (e1 + 1) = e2) (g3 : wrap64 (F + 4294967295) = f1) (g4 : wrap64 (f1 + 1) = f2) (hsi : (∀ w, Calls Tryz.prog 30 #[.agg #[.int .i64 E, .int .i64 F]] w (Ret w (.bool false)))) (iv : Int → Bool) (i1 : iv 127 = false) (i2 : iv (-1) = true) (hin2 : ∀ (b : Int) w, Calls Tryz.prog 50 #[.agg #[.int .i64 E, .int .i64 F], .int .i64 (-128), .int .i64 b] w (Ret w (.bool (iv b)))) (hfin : (∀ w, Calls Tryz.prog 14 #[.int .i64 e2, .int .i64 f2] w (Ret w (.agg #[.int .i64 A, .int .i64 B, .bool P, .bool Q])))) (w : World) :
    Calls Tryz.prog 24 #[.int .i64 8, .bool true, .agg #[.int .i64 lo, .int .i64 hi, .bool p, .bool q]] w (Ret w (.agg #[.int .i64 A, .int .i64 B, .bool P, .bool Q])) := by
  have HRD := Lib.hid hrd
  have Hhsi := Lib.hid hsi
  have Hhin2 := Lib.hid hin2
  have Hhfin := Lib.hid hfin
  clear hrd hsi hin2 hfin
  have r1 : Row ((w.alloc (.cells #[.int .i64 lo, .int .i64 hi, .bool p, .bool q] 23)).alloc (.cells #[.int .i64 0, .int .i64 0, .bool false, .bool false] 23)) w.heap.size 23 (spc lo hi p q) := (Row.made w (spc lo hi p q) 23).alloc _
  have r2 : Row ((w.alloc (.cells #[.int .i64 lo, .int .i64 hi, .bool p, .bool q] 23)).alloc (.cells #[.int .i64 0, .int .i64 0, .bool false, .bool false] 23)) (w.heap.size + 1) 23 (spc 0 0 false false) := row2 w _ (spc 0 0 false false) _
  have b3 : Below w.heap.size w ((w.alloc (.cells #[.int .i64 lo, .int .i64 hi, .bool p, .bool q] 23)).alloc (.cells #[.int .i64 0, .int .i64 0, .bool false, .bool false] 23)) := (below_map w _).alloc (by simp) _
  have HR := Lib.hid (And.intro r1 (And.intro r2 b3))
  clear r1 r2 b3
  go_enter Tryz.func24, Tryz.ntmps24
  go_upto_region 2 with (go_at_call 29; refine (HRD.out _).mono ?_; rintro e w1 ⟨rfl, hB⟩)
  have hk : SK w w1.heap.size 47 E F lo hi p q (w1.alloc (.cells #[.int .i64 E, .int .i64 F] 47)) :=
    ⟨(HR.out.1.below hB HR.out.1.lt).alloc _, (HR.out.2.1.below hB HR.out.2.1.lt).alloc _, Row.made w1 (edc E F) 47, (HR.out.2.2.trans (hB.mono HR.out.2.2.size)).trans ((below_map w1 _).mono (Nat.le_trans HR.out.2.2.size hB.size))⟩
  clear hB
  obtain ⟨b, hb⟩ : ∃ b, b = w1.heap.size := ⟨_, rfl⟩
  rw [← hb] at hk
  simp only [← hb]
  clear hb
  generalize World.alloc _ _ = wc at hk ⊢
  have HK := Lib.hid hk
  obtain ⟨⟨x0, x1⟩, ⟨a0, a1, a2, a3⟩, ⟨q0, q1, q2, q3⟩, f0, f1, f2, f3⟩ := hk.all
  clear hk HR
  go_wp2_with (first
    | (go_at_call 30; (refine (Hhsi.out _).mono ?_; rintro e w' ⟨rfl, hB⟩; have hk := HK.out.below hB; have HK := Lib.hid hk; obtain ⟨⟨x0, x1⟩, ⟨a0, a1, a2, a3⟩, ⟨q0, q1, q2, q3⟩, f0, f1, f2, f3⟩ := hk.all; clear hk hB))
    | (go_at_call 50; (refine (Hhin2.out _ _).mono ?_; rintro e w' ⟨rfl, hB⟩; (first | rw [i1] | rw [i2]); have hk := HK.out.below hB; have HK := Lib.hid hk; obtain ⟨⟨x0, x1⟩, ⟨a0, a1, a2, a3⟩, ⟨q0, q1, q2, q3⟩, f0, f1, f2, f3⟩ := hk.all; clear hk hB))
    | (go_at_call 14; (refine (Hhfin.out _).mono ?_; rintro e w' ⟨rfl, hB⟩; have hk := HK.out.below hB; have HK := Lib.hid hk; obtain ⟨⟨x0, x1⟩, ⟨a0, a1, a2, a3⟩, ⟨q0, q1, q2, q3⟩, f0, f1, f2, f3⟩ := hk.all; obtain ⟨⟨z0, z1, z2, z3⟩, _⟩ := spc_row (spc_put hk.res A B P Q); have HBZ := Lib.hid (below_set4 hk.bel (Nat.le_succ w.heap.size) (.int .i64 A) (.int .i64 B) (.bool P) (.bool Q)); have Z := Lib.hid (And.intro z0 (And.intro z1 (And.intro z2 z3))); clear z0 z1 z2 z3; clear hk hB))
    | fail "none")
  obtain ⟨z0, z1, z2, z3⟩ := Z.out
  exact bodyPost_ret (v := .agg #[.int .i64 A, .int .i64 B, .bool P, .bool Q]) (by simp [results, Tryz.results24, go_sem, z0, z1, z2, z3]) rfl ⟨rfl, HBZ.out⟩
set_option maxRecDepth 100000 in
set_option maxHeartbeats 600000 in
theorem ext_out_8_true_any (lo hi : Int) (p q : Bool) (E F A B : Int) (P Q : Bool) (hrd : ∀ w, Calls Tryz.prog 29 #[.agg #[.int .i64 lo, .int .i64 hi, .bool p, .bool q]] w (Ret w (.agg #[.int .i64 E, .int .i64 F]))) (hsi : (∀ w, Calls Tryz.prog 30 #[.agg #[.int .i64 E, .int .i64 F]] w (Ret w (.bool false)))) (iv : Int → Bool) (i1 : iv 127 = false) (i2 : iv (-1) = false) (hin2 : ∀ (b : Int) w, Calls Tryz.prog 50 #[.agg #[.int .i64 E, .int .i64 F], .int .i64 (-128), .int .i64 b] w (Ret w (.bool (iv b)))) (hfin : (∀ w, Calls Tryz.prog 14 #[.int .i64 0, .int .i64 4294967295] w (Ret w (.agg #[.int .i64 A, .int .i64 B, .bool P, .bool Q])))) (w : World) :
    Calls Tryz.prog 24 #[.int .i64 8, .bool true, .agg #[.int .i64 lo, .int .i64 hi, .bool p, .bool q]] w (Ret w (.agg #[.int .i64 A, .int .i64 B, .bool P, .bool Q])) := by
  have HRD := Lib.hid hrd
  have Hhsi := Lib.hid hsi
  have Hhin2 := Lib.hid hin2
  have Hhfin := Lib.hid hfin
  clear hrd hsi hin2 hfin
  have r1 : Row ((w.alloc (.cells #[.int .i64 lo, .int .i64 hi, .bool p, .bool q] 23)).alloc (.cells #[.int .i64 0, .int .i64 0, .bool false, .bool false] 23)) w.heap.size 23 (spc lo hi p q) := (Row.made w (spc lo hi p q) 23).alloc _
  have r2 : Row ((w.alloc (.cells #[.int .i64 lo, .int .i64 hi, .bool p, .bool q] 23)).alloc (.cells #[.int .i64 0, .int .i64 0, .bool false, .bool false] 23)) (w.heap.size + 1) 23 (spc 0 0 false false) := row2 w _ (spc 0 0 false false) _
  have b3 : Below w.heap.size w ((w.alloc (.cells #[.int .i64 lo, .int .i64 hi, .bool p, .bool q] 23)).alloc (.cells #[.int .i64 0, .int .i64 0, .bool false, .bool false] 23)) := (below_map w _).alloc (by simp) _
  have HR := Lib.hid (And.intro r1 (And.intro r2 b3))
  clear r1 r2 b3
  go_enter Tryz.func24, Tryz.ntmps24
  go_upto_region 2 with (go_at_call 29; refine (HRD.out _).mono ?_; rintro e w1 ⟨rfl, hB⟩)
  have hk : SK w w1.heap.size 47 E F lo hi p q (w1.alloc (.cells #[.int .i64 E, .int .i64 F] 47)) :=
    ⟨(HR.out.1.below hB HR.out.1.lt).alloc _, (HR.out.2.1.below hB HR.out.2.1.lt).alloc _, Row.made w1 (edc E F) 47, (HR.out.2.2.trans (hB.mono HR.out.2.2.size)).trans ((below_map w1 _).mono (Nat.le_trans HR.out.2.2.size hB.size))⟩
  clear hB
  obtain ⟨b, hb⟩ : ∃ b, b = w1.heap.size := ⟨_, rfl⟩
  rw [← hb] at hk
  simp only [← hb]
  clear hb
  generalize World.alloc _ _ = wc at hk ⊢
  have HK := Lib.hid hk
  obtain ⟨⟨x0, x1⟩, ⟨a0, a1, a2, a3⟩, ⟨q0, q1, q2, q3⟩, f0, f1, f2, f3⟩ := hk.all
  clear hk HR
  go_wp2_with (first
    | (go_at_call 30; (refine (Hhsi.out _).mono ?_; rintro e w' ⟨rfl, hB⟩; have hk := HK.out.below hB; have HK := Lib.hid hk; obtain ⟨⟨x0, x1⟩, ⟨a0, a1, a2, a3⟩, ⟨q0, q1, q2, q3⟩, f0, f1, f2, f3⟩ := hk.all; clear hk hB))
    | (go_at_call 50; (refine (Hhin2.out _ _).mono ?_; rintro e w' ⟨rfl, hB⟩; (first | rw [i1] | rw [i2]); have hk := HK.out.below hB; have HK := Lib.hid hk; obtain ⟨⟨x0, x1⟩, ⟨a0, a1, a2, a3⟩, ⟨q0, q1, q2, q3⟩, f0, f1, f2, f3⟩ := hk.all; clear hk hB))
    | (go_at_call 14; (refine (Hhfin.out _).mono ?_; rintro e w' ⟨rfl, hB⟩; have hk := HK.out.below hB; have HK := Lib.hid hk; obtain ⟨⟨x0, x1⟩, ⟨a0, a1, a2, a3⟩, ⟨q0, q1, q2, q3⟩, f0, f1, f2, f3⟩ := hk.all; obtain ⟨⟨z0, z1, z2, z3⟩, _⟩ := spc_row (spc_put hk.res A B P Q); have HBZ := Lib.hid (below_set4 hk.bel (Nat.le_succ w.heap.size) (.int .i64 A) (.int .i64 B) (.bool P) (.bool Q)); have Z := Lib.hid (And.intro z0 (And.intro z1 (And.intro z2 z3))); clear z0 z1 z2 z3; clear hk hB))
    | fail "none")
  obtain ⟨z0, z1, z2, z3⟩ := Z.out
  exact bodyPost_ret (v := .agg #[.int .i64 A, .int .i64 B, .bool P, .bool Q]) (by simp [results, Tryz.results24, go_sem, z0, z1, z2, z3]) rfl ⟨rfl, HBZ.out⟩
set_option maxRecDepth 100000 in
set_option maxHeartbeats 600000 in
theorem ext_neg_8_true_below (e1 e2 f1 f2 : Int) (lo hi : Int) (p q : Bool) (E F A B : Int) (P Q : Bool) (hrd : ∀ w, Calls Tryz.prog 29 #[.agg #[.int .i64 lo, .int .i64 hi, .bool p, .bool q]] w (Ret w (.agg #[.int .i64 E, .int .i64 F]))) (h0 : decide (0 ≤ E) = false) (g1 : wrap64 (E + 4294967295) = e1) (g2 : wrap64 (e1 + 1) = e2) (g3 : wrap64 (F + 4294967295) = f1) (g4 : wrap64 (f1 + 1) = f2) (hsi : (∀ w, Calls Tryz.prog 30 #[.agg #[.int .i64 E, .int .i64 F]] w (Ret w (.bool false)))) (iv : Int → Bool) (i1 : iv 127 = true) (i2 : iv (-1) = true) (hin2 : ∀ (b : Int) w, Calls Tryz.prog 50 #[.agg #[.int .i64 E, .int .i64 F], .int .i64 (-128), .int .i64 b] w (Ret w (.bool (iv b)))) (hfin : (∀ w, Calls Tryz.prog 14 #[.int .i64 e2, .int .i64 f2] w (Ret w (.agg #[.int .i64 A, .int .i64 B, .bool P, .bool Q])))) (w : World) :
    Calls Tryz.prog 24 #[.int .i64 8, .bool true, .agg #[.int .i64 lo, .int .i64 hi, .bool p, .bool q]] w (Ret w (.agg #[.int .i64 A, .int .i64 B, .bool P, .bool Q])) := by
  have HRD := Lib.hid hrd
  have Hhsi := Lib.hid hsi
  have Hhin2 := Lib.hid hin2
  have Hhfin := Lib.hid hfin
  clear hrd hsi hin2 hfin
  have r1 : Row ((w.alloc (.cells #[.int .i64 lo, .int .i64 hi, .bool p, .bool q] 23)).alloc (.cells #[.int .i64 0, .int .i64 0, .bool false, .bool false] 23)) w.heap.size 23 (spc lo hi p q) := (Row.made w (spc lo hi p q) 23).alloc _
  have r2 : Row ((w.alloc (.cells #[.int .i64 lo, .int .i64 hi, .bool p, .bool q] 23)).alloc (.cells #[.int .i64 0, .int .i64 0, .bool false, .bool false] 23)) (w.heap.size + 1) 23 (spc 0 0 false false) := row2 w _ (spc 0 0 false false) _
  have b3 : Below w.heap.size w ((w.alloc (.cells #[.int .i64 lo, .int .i64 hi, .bool p, .bool q] 23)).alloc (.cells #[.int .i64 0, .int .i64 0, .bool false, .bool false] 23)) := (below_map w _).alloc (by simp) _
  have HR := Lib.hid (And.intro r1 (And.intro r2 b3))
  clear r1 r2 b3
  go_enter Tryz.func24, Tryz.ntmps24
  go_upto_region 2 with (go_at_call 29; refine (HRD.out _).mono ?_; rintro e w1 ⟨rfl, hB⟩)
  have hk : SK w w1.heap.size 47 E F lo hi p q (w1.alloc (.cells #[.int .i64 E, .int .i64 F] 47)) :=
    ⟨(HR.out.1.below hB HR.out.1.lt).alloc _, (HR.out.2.1.below hB HR.out.2.1.lt).alloc _, Row.made w1 (edc E F) 47, (HR.out.2.2.trans (hB.mono HR.out.2.2.size)).trans ((below_map w1 _).mono (Nat.le_trans HR.out.2.2.size hB.size))⟩
  clear hB
  obtain ⟨b, hb⟩ : ∃ b, b = w1.heap.size := ⟨_, rfl⟩
  rw [← hb] at hk
  simp only [← hb]
  clear hb
  generalize World.alloc _ _ = wc at hk ⊢
  have HK := Lib.hid hk
  obtain ⟨⟨x0, x1⟩, ⟨a0, a1, a2, a3⟩, ⟨q0, q1, q2, q3⟩, f0, f1, f2, f3⟩ := hk.all
  clear hk HR
  go_wp2_with (first
    | (go_at_call 30; (refine (Hhsi.out _).mono ?_; rintro e w' ⟨rfl, hB⟩; have hk := HK.out.below hB; have HK := Lib.hid hk; obtain ⟨⟨x0, x1⟩, ⟨a0, a1, a2, a3⟩, ⟨q0, q1, q2, q3⟩, f0, f1, f2, f3⟩ := hk.all; clear hk hB))
    | (go_at_call 50; (refine (Hhin2.out _ _).mono ?_; rintro e w' ⟨rfl, hB⟩; (first | rw [i1] | rw [i2]); have hk := HK.out.below hB; have HK := Lib.hid hk; obtain ⟨⟨x0, x1⟩, ⟨a0, a1, a2, a3⟩, ⟨q0, q1, q2, q3⟩, f0, f1, f2, f3⟩ := hk.all; clear hk hB))
    | (go_at_call 14; (refine (Hhfin.out _).mono ?_; rintro e w' ⟨rfl, hB⟩; have hk := HK.out.below hB; have HK := Lib.hid hk; obtain ⟨⟨x0, x1⟩, ⟨a0, a1, a2, a3⟩, ⟨q0, q1, q2, q3⟩, f0, f1, f2, f3⟩ := hk.all; obtain ⟨⟨z0, z1, z2, z3⟩, _⟩ := spc_row (spc_put hk.res A B P Q); have HBZ := Lib.hid (below_set4 hk.bel (Nat.le_succ w.heap.size) (.int .i64 A) (.int .i64 B) (.bool P) (.bool Q)); have Z := Lib.hid (And.intro z0 (And.intro z1 (And.intro z2 z3))); clear z0 z1 z2 z3; clear hk hB))
    | fail "none")
  obtain ⟨z0, z1, z2, z3⟩ := Z.out
  exact bodyPost_ret (v := .agg #[.int .i64 A, .int .i64 B, .bool P, .bool Q]) (by simp [results, Tryz.results24, go_sem, z0, z1, z2, z3]) rfl ⟨rfl, HBZ.out⟩
set_option maxRecDepth 100000 in
set_option maxHeartbeats 600000 in
theorem ext_neg_8_true_any (lo hi : Int) (p q : Bool) (E F A B : Int) (P Q : Bool) (hrd : ∀ w, Calls Tryz.prog 29 #[.agg #[.int .i64 lo, .int .i64 hi, .bool p, .bool q]] w (Ret w (.agg #[.int .i64 E, .int .i64 F]))) (h0 : decide (0 ≤ E) = false) (hsi : (∀ w, Calls Tryz.prog 30 #[.agg #[.int .i64 E, .int .i64 F]] w (Ret w (.bool false)))) (iv : Int → Bool) (i1 : iv 127 = true) (i2 : iv (-1) = false) (hin2 : ∀ (b : Int) w, Calls Tryz.prog 50 #[.agg #[.int .i64 E, .int .i64 F], .int .i64 (-128), .int .i64 b] w (Ret w (.bool (iv b)))) (hfin : (∀ w, Calls Tryz.prog 14 #[.int .i64 0, .int .i64 4294967295] w (Ret w (.agg #[.int .i64 A, .int .i64 B, .bool P, .bool Q])))) (w : World) :
    Calls Tryz.prog 24 #[.int .i64 8, .bool true, .agg #[.int .i64 lo, .int .i64 hi, .bool p, .bool q]] w (Ret w (.agg #[.int .i64 A, .int .i64 B, .bool P, .bool Q])) := by
  have HRD := Lib.hid hrd
  have Hhsi := Lib.hid hsi
  have Hhin2 := Lib.hid hin2
  have Hhfin := Lib.hid hfin
  clear hrd hsi hin2 hfin
  have r1 : Row ((w.alloc (.cells #[.int .i64 lo, .int .i64 hi, .bool p, .bool q] 23)).alloc (.cells #[.int .i64 0, .int .i64 0, .bool false, .bool false] 23)) w.heap.size 23 (spc lo hi p q) := (Row.made w (spc lo hi p q) 23).alloc _
  have r2 : Row ((w.alloc (.cells #[.int .i64 lo, .int .i64 hi, .bool p, .bool q] 23)).alloc (.cells #[.int .i64 0, .int .i64 0, .bool false, .bool false] 23)) (w.heap.size + 1) 23 (spc 0 0 false false) := row2 w _ (spc 0 0 false false) _
  have b3 : Below w.heap.size w ((w.alloc (.cells #[.int .i64 lo, .int .i64 hi, .bool p, .bool q] 23)).alloc (.cells #[.int .i64 0, .int .i64 0, .bool false, .bool false] 23)) := (below_map w _).alloc (by simp) _
  have HR := Lib.hid (And.intro r1 (And.intro r2 b3))
  clear r1 r2 b3
  go_enter Tryz.func24, Tryz.ntmps24
  go_upto_region 2 with (go_at_call 29; refine (HRD.out _).mono ?_; rintro e w1 ⟨rfl, hB⟩)
  have hk : SK w w1.heap.size 47 E F lo hi p q (w1.alloc (.cells #[.int .i64 E, .int .i64 F] 47)) :=
    ⟨(HR.out.1.below hB HR.out.1.lt).alloc _, (HR.out.2.1.below hB HR.out.2.1.lt).alloc _, Row.made w1 (edc E F) 47, (HR.out.2.2.trans (hB.mono HR.out.2.2.size)).trans ((below_map w1 _).mono (Nat.le_trans HR.out.2.2.size hB.size))⟩
  clear hB
  obtain ⟨b, hb⟩ : ∃ b, b = w1.heap.size := ⟨_, rfl⟩
  rw [← hb] at hk
  simp only [← hb]
  clear hb
  generalize World.alloc _ _ = wc at hk ⊢
  have HK := Lib.hid hk
  obtain ⟨⟨x0, x1⟩, ⟨a0, a1, a2, a3⟩, ⟨q0, q1, q2, q3⟩, f0, f1, f2, f3⟩ := hk.all
  clear hk HR
  go_wp2_with (first
    | (go_at_call 30; (refine (Hhsi.out _).mono ?_; rintro e w' ⟨rfl, hB⟩; have hk := HK.out.below hB; have HK := Lib.hid hk; obtain ⟨⟨x0, x1⟩, ⟨a0, a1, a2, a3⟩, ⟨q0, q1, q2, q3⟩, f0, f1, f2, f3⟩ := hk.all; clear hk hB))
    | (go_at_call 50; (refine (Hhin2.out _ _).mono ?_; rintro e w' ⟨rfl, hB⟩; (first | rw [i1] | rw [i2]); have hk := HK.out.below hB; have HK := Lib.hid hk; obtain ⟨⟨x0, x1⟩, ⟨a0, a1, a2, a3⟩, ⟨q0, q1, q2, q3⟩, f0, f1, f2, f3⟩ := hk.all; clear hk hB))
    | (go_at_call 14; (refine (Hhfin.out _).mono ?_; rintro e w' ⟨rfl, hB⟩; have hk := HK.out.below hB; have HK := Lib.hid hk; obtain ⟨⟨x0, x1⟩, ⟨a0, a1, a2, a3⟩, ⟨q0, q1, q2, q3⟩, f0, f1, f2, f3⟩ := hk.all; obtain ⟨⟨z0, z1, z2, z3⟩, _⟩ := spc_row (spc_put hk.res A B P Q); have HBZ := Lib.hid (below_set4 hk.bel (Nat.le_succ w.heap.size) (.int .i64 A) (.int .i64 B) (.bool P) (.bool Q)); have Z := Lib.hid (And.intro z0 (And.intro z1 (And.intro z2 z3))); clear z0 z1 z2 z3; clear hk hB))
    | fail "none")
  obtain ⟨z0, z1, z2, z3⟩ := Z.out
  exact bodyPost_ret (v := .agg #[.int .i64 A, .int .i64 B, .bool P, .bool Q]) (by simp [results, Tryz.results24, go_sem, z0, z1, z2, z3]) rfl ⟨rfl, HBZ.out⟩
set_option maxRecDepth 100000 in
set_option maxHeartbeats 600000 in
theorem ext_one_16_false (s : Int) (lo hi : Int) (p q : Bool) (E F A B : Int) (P Q : Bool) (hrd : ∀ w, Calls Tryz.prog 29 #[.agg #[.int .i64 lo, .int .i64 hi, .bool p, .bool q]] w (Ret w (.agg #[.int .i64 E, .int .i64 F]))) (hsi : (∀ w, Calls Tryz.prog 30 #[.agg #[.int .i64 E, .int .i64 F]] w (Ret w (.bool true)))) (hw : (∀ w, Calls Tryz.prog 56 #[.int .i64 16, .bool false, .int .i64 E] w (Ret w (.int .i64 s)))) (hfin : (∀ w, Calls Tryz.prog 14 #[.int .i64 s, .int .i64 s] w (Ret w (.agg #[.int .i64 A, .int .i64 B, .bool P, .bool Q])))) (w : World) :
    Calls Tryz.prog 24 #[.int .i64 16, .bool false, .agg #[.int .i64 lo, .int .i64 hi, .bool p, .bool q]] w (Ret w (.agg #[.int .i64 A, .int .i64 B, .bool P, .bool Q])) := by
  have HRD := Lib.hid hrd
  have Hhsi := Lib.hid hsi
  have Hhw := Lib.hid hw
  have Hhfin := Lib.hid hfin
  clear hrd hsi hw hfin
  have r1 : Row ((w.alloc (.cells #[.int .i64 lo, .int .i64 hi, .bool p, .bool q] 23)).alloc (.cells #[.int .i64 0, .int .i64 0, .bool false, .bool false] 23)) w.heap.size 23 (spc lo hi p q) := (Row.made w (spc lo hi p q) 23).alloc _
  have r2 : Row ((w.alloc (.cells #[.int .i64 lo, .int .i64 hi, .bool p, .bool q] 23)).alloc (.cells #[.int .i64 0, .int .i64 0, .bool false, .bool false] 23)) (w.heap.size + 1) 23 (spc 0 0 false false) := row2 w _ (spc 0 0 false false) _
  have b3 : Below w.heap.size w ((w.alloc (.cells #[.int .i64 lo, .int .i64 hi, .bool p, .bool q] 23)).alloc (.cells #[.int .i64 0, .int .i64 0, .bool false, .bool false] 23)) := (below_map w _).alloc (by simp) _
  have HR := Lib.hid (And.intro r1 (And.intro r2 b3))
  clear r1 r2 b3
  go_enter Tryz.func24, Tryz.ntmps24
  go_upto_region 2 with (go_at_call 29; refine (HRD.out _).mono ?_; rintro e w1 ⟨rfl, hB⟩)
  have hk : SK w w1.heap.size 47 E F lo hi p q (w1.alloc (.cells #[.int .i64 E, .int .i64 F] 47)) :=
    ⟨(HR.out.1.below hB HR.out.1.lt).alloc _, (HR.out.2.1.below hB HR.out.2.1.lt).alloc _, Row.made w1 (edc E F) 47, (HR.out.2.2.trans (hB.mono HR.out.2.2.size)).trans ((below_map w1 _).mono (Nat.le_trans HR.out.2.2.size hB.size))⟩
  clear hB
  obtain ⟨b, hb⟩ : ∃ b, b = w1.heap.size := ⟨_, rfl⟩
  rw [← hb] at hk
  simp only [← hb]
  clear hb
  generalize World.alloc _ _ = wc at hk ⊢
  have HK := Lib.hid hk
  obtain ⟨⟨x0, x1⟩, ⟨a0, a1, a2, a3⟩, ⟨q0, q1, q2, q3⟩, f0, f1, f2, f3⟩ := hk.all
  clear hk HR
  go_wp2_with (first
    | (go_at_call 30; (refine (Hhsi.out _).mono ?_; rintro e w' ⟨rfl, hB⟩; have hk := HK.out.below hB; have HK := Lib.hid hk; obtain ⟨⟨x0, x1⟩, ⟨a0, a1, a2, a3⟩, ⟨q0, q1, q2, q3⟩, f0, f1, f2, f3⟩ := hk.all; clear hk hB))
    | (go_at_call 56; (refine (Hhw.out _).mono ?_; rintro e w' ⟨rfl, hB⟩; have hk := HK.out.below hB; have HK := Lib.hid hk; obtain ⟨⟨x0, x1⟩, ⟨a0, a1, a2, a3⟩, ⟨q0, q1, q2, q3⟩, f0, f1, f2, f3⟩ := hk.all; clear hk hB))
    | (go_at_call 14; (refine (Hhfin.out _).mono ?_; rintro e w' ⟨rfl, hB⟩; have hk := HK.out.below hB; have HK := Lib.hid hk; obtain ⟨⟨x0, x1⟩, ⟨a0, a1, a2, a3⟩, ⟨q0, q1, q2, q3⟩, f0, f1, f2, f3⟩ := hk.all; obtain ⟨⟨z0, z1, z2, z3⟩, _⟩ := spc_row (spc_put hk.res A B P Q); have HBZ := Lib.hid (below_set4 hk.bel (Nat.le_succ w.heap.size) (.int .i64 A) (.int .i64 B) (.bool P) (.bool Q)); have Z := Lib.hid (And.intro z0 (And.intro z1 (And.intro z2 z3))); clear z0 z1 z2 z3; clear hk hB))
    | fail "none")
  obtain ⟨z0, z1, z2, z3⟩ := Z.out
  exact bodyPost_ret (v := .agg #[.int .i64 A, .int .i64 B, .bool P, .bool Q]) (by simp [results, Tryz.results24, go_sem, z0, z1, z2, z3]) rfl ⟨rfl, HBZ.out⟩
set_option maxRecDepth 100000 in
set_option maxHeartbeats 600000 in
theorem ext_in_16_false (lo hi : Int) (p q : Bool) (E F A B : Int) (P Q : Bool) (hrd : ∀ w, Calls Tryz.prog 29 #[.agg #[.int .i64 lo, .int .i64 hi, .bool p, .bool q]] w (Ret w (.agg #[.int .i64 E, .int .i64 F]))) (hsi : (∀ w, Calls Tryz.prog 30 #[.agg #[.int .i64 E, .int .i64 F]] w (Ret w (.bool false)))) (hin : (∀ w, Calls Tryz.prog 50 #[.agg #[.int .i64 E, .int .i64 F], .int .i64 (-32768), .int .i64 32767] w (Ret w (.bool true)))) (hfin : (∀ w, Calls Tryz.prog 49 #[.agg #[.int .i64 E, .int .i64 F]] w (Ret w (.agg #[.int .i64 A, .int .i64 B, .bool P, .bool Q])))) (w : World) :
    Calls Tryz.prog 24 #[.int .i64 16, .bool false, .agg #[.int .i64 lo, .int .i64 hi, .bool p, .bool q]] w (Ret w (.agg #[.int .i64 A, .int .i64 B, .bool P, .bool Q])) := by
  have HRD := Lib.hid hrd
  have Hhsi := Lib.hid hsi
  have Hhin := Lib.hid hin
  have Hhfin := Lib.hid hfin
  clear hrd hsi hin hfin
  have r1 : Row ((w.alloc (.cells #[.int .i64 lo, .int .i64 hi, .bool p, .bool q] 23)).alloc (.cells #[.int .i64 0, .int .i64 0, .bool false, .bool false] 23)) w.heap.size 23 (spc lo hi p q) := (Row.made w (spc lo hi p q) 23).alloc _
  have r2 : Row ((w.alloc (.cells #[.int .i64 lo, .int .i64 hi, .bool p, .bool q] 23)).alloc (.cells #[.int .i64 0, .int .i64 0, .bool false, .bool false] 23)) (w.heap.size + 1) 23 (spc 0 0 false false) := row2 w _ (spc 0 0 false false) _
  have b3 : Below w.heap.size w ((w.alloc (.cells #[.int .i64 lo, .int .i64 hi, .bool p, .bool q] 23)).alloc (.cells #[.int .i64 0, .int .i64 0, .bool false, .bool false] 23)) := (below_map w _).alloc (by simp) _
  have HR := Lib.hid (And.intro r1 (And.intro r2 b3))
  clear r1 r2 b3
  go_enter Tryz.func24, Tryz.ntmps24
  go_upto_region 2 with (go_at_call 29; refine (HRD.out _).mono ?_; rintro e w1 ⟨rfl, hB⟩)
  have hk : SK w w1.heap.size 47 E F lo hi p q (w1.alloc (.cells #[.int .i64 E, .int .i64 F] 47)) :=
    ⟨(HR.out.1.below hB HR.out.1.lt).alloc _, (HR.out.2.1.below hB HR.out.2.1.lt).alloc _, Row.made w1 (edc E F) 47, (HR.out.2.2.trans (hB.mono HR.out.2.2.size)).trans ((below_map w1 _).mono (Nat.le_trans HR.out.2.2.size hB.size))⟩
  clear hB
  obtain ⟨b, hb⟩ : ∃ b, b = w1.heap.size := ⟨_, rfl⟩
  rw [← hb] at hk
  simp only [← hb]
  clear hb
  generalize World.alloc _ _ = wc at hk ⊢
  have HK := Lib.hid hk
  obtain ⟨⟨x0, x1⟩, ⟨a0, a1, a2, a3⟩, ⟨q0, q1, q2, q3⟩, f0, f1, f2, f3⟩ := hk.all
  clear hk HR
  go_wp2_with (first
    | (go_at_call 30; (refine (Hhsi.out _).mono ?_; rintro e w' ⟨rfl, hB⟩; have hk := HK.out.below hB; have HK := Lib.hid hk; obtain ⟨⟨x0, x1⟩, ⟨a0, a1, a2, a3⟩, ⟨q0, q1, q2, q3⟩, f0, f1, f2, f3⟩ := hk.all; clear hk hB))
    | (go_at_call 50; (refine (Hhin.out _).mono ?_; rintro e w' ⟨rfl, hB⟩; have hk := HK.out.below hB; have HK := Lib.hid hk; obtain ⟨⟨x0, x1⟩, ⟨a0, a1, a2, a3⟩, ⟨q0, q1, q2, q3⟩, f0, f1, f2, f3⟩ := hk.all; clear hk hB))
    | (go_at_call 49; (refine (Hhfin.out _).mono ?_; rintro e w' ⟨rfl, hB⟩; have hk := HK.out.below hB; have HK := Lib.hid hk; obtain ⟨⟨x0, x1⟩, ⟨a0, a1, a2, a3⟩, ⟨q0, q1, q2, q3⟩, f0, f1, f2, f3⟩ := hk.all; obtain ⟨⟨z0, z1, z2, z3⟩, _⟩ := spc_row (spc_put hk.res A B P Q); have HBZ := Lib.hid (below_set4 hk.bel (Nat.le_succ w.heap.size) (.int .i64 A) (.int .i64 B) (.bool P) (.bool Q)); have Z := Lib.hid (And.intro z0 (And.intro z1 (And.intro z2 z3))); clear z0 z1 z2 z3; clear hk hB))
    | fail "none")
  obtain ⟨z0, z1, z2, z3⟩ := Z.out
  exact bodyPost_ret (v := .agg #[.int .i64 A, .int .i64 B, .bool P, .bool Q]) (by simp [results, Tryz.results24, go_sem, z0, z1, z2, z3]) rfl ⟨rfl, HBZ.out⟩
set_option maxRecDepth 100000 in
set_option maxHeartbeats 600000 in
theorem ext_out_16_false_below (e1 e2 f1 f2 : Int) (lo hi : Int) (p q : Bool) (E F A B : Int) (P Q : Bool) (hrd : ∀ w, Calls Tryz.prog 29 #[.agg #[.int .i64 lo, .int .i64 hi, .bool p, .bool q]] w (Ret w (.agg #[.int .i64 E, .int .i64 F]))) (g1 : wrap64 (E + 4294967295) = e1) (g2 : wrap64 (e1 + 1) = e2) (g3 : wrap64 (F + 4294967295) = f1) (g4 : wrap64 (f1 + 1) = f2) (hsi : (∀ w, Calls Tryz.prog 30 #[.agg #[.int .i64 E, .int .i64 F]] w (Ret w (.bool false)))) (iv : Int → Bool) (i1 : iv 32767 = false) (i2 : iv (-1) = true) (hin2 : ∀ (b : Int) w, Calls Tryz.prog 50 #[.agg #[.int .i64 E, .int .i64 F], .int .i64 (-32768), .int .i64 b] w (Ret w (.bool (iv b)))) (hfin : (∀ w, Calls Tryz.prog 14 #[.int .i64 e2, .int .i64 f2] w (Ret w (.agg #[.int .i64 A, .int .i64 B, .bool P, .bool Q])))) (w : World) :
    Calls Tryz.prog 24 #[.int .i64 16, .bool false, .agg #[.int .i64 lo, .int .i64 hi, .bool p, .bool q]] w (Ret w (.agg #[.int .i64 A, .int .i64 B, .bool P, .bool Q])) := by
  have HRD := Lib.hid hrd
  have Hhsi := Lib.hid hsi
  have Hhin2 := Lib.hid hin2
  have Hhfin := Lib.hid hfin
  clear hrd hsi hin2 hfin
  have r1 : Row ((w.alloc (.cells #[.int .i64 lo, .int .i64 hi, .bool p, .bool q] 23)).alloc (.cells #[.int .i64 0, .int .i64 0, .bool false, .bool false] 23)) w.heap.size 23 (spc lo hi p q) := (Row.made w (spc lo hi p q) 23).alloc _
  have r2 : Row ((w.alloc (.cells #[.int .i64 lo, .int .i64 hi, .bool p, .bool q] 23)).alloc (.cells #[.int .i64 0, .int .i64 0, .bool false, .bool false] 23)) (w.heap.size + 1) 23 (spc 0 0 false false) := row2 w _ (spc 0 0 false false) _
  have b3 : Below w.heap.size w ((w.alloc (.cells #[.int .i64 lo, .int .i64 hi, .bool p, .bool q] 23)).alloc (.cells #[.int .i64 0, .int .i64 0, .bool false, .bool false] 23)) := (below_map w _).alloc (by simp) _
  have HR := Lib.hid (And.intro r1 (And.intro r2 b3))
  clear r1 r2 b3
  go_enter Tryz.func24, Tryz.ntmps24
  go_upto_region 2 with (go_at_call 29; refine (HRD.out _).mono ?_; rintro e w1 ⟨rfl, hB⟩)
  have hk : SK w w1.heap.size 47 E F lo hi p q (w1.alloc (.cells #[.int .i64 E, .int .i64 F] 47)) :=
    ⟨(HR.out.1.below hB HR.out.1.lt).alloc _, (HR.out.2.1.below hB HR.out.2.1.lt).alloc _, Row.made w1 (edc E F) 47, (HR.out.2.2.trans (hB.mono HR.out.2.2.size)).trans ((below_map w1 _).mono (Nat.le_trans HR.out.2.2.size hB.size))⟩
  clear hB
  obtain ⟨b, hb⟩ : ∃ b, b = w1.heap.size := ⟨_, rfl⟩
  rw [← hb] at hk
  simp only [← hb]
  clear hb
  generalize World.alloc _ _ = wc at hk ⊢
  have HK := Lib.hid hk
  obtain ⟨⟨x0, x1⟩, ⟨a0, a1, a2, a3⟩, ⟨q0, q1, q2, q3⟩, f0, f1, f2, f3⟩ := hk.all
  clear hk HR
  go_wp2_with (first
    | (go_at_call 30; (refine (Hhsi.out _).mono ?_; rintro e w' ⟨rfl, hB⟩; have hk := HK.out.below hB; have HK := Lib.hid hk; obtain ⟨⟨x0, x1⟩, ⟨a0, a1, a2, a3⟩, ⟨q0, q1, q2, q3⟩, f0, f1, f2, f3⟩ := hk.all; clear hk hB))
    | (go_at_call 50; (refine (Hhin2.out _ _).mono ?_; rintro e w' ⟨rfl, hB⟩; (first | rw [i1] | rw [i2]); have hk := HK.out.below hB; have HK := Lib.hid hk; obtain ⟨⟨x0, x1⟩, ⟨a0, a1, a2, a3⟩, ⟨q0, q1, q2, q3⟩, f0, f1, f2, f3⟩ := hk.all; clear hk hB))
    | (go_at_call 14; (refine (Hhfin.out _).mono ?_; rintro e w' ⟨rfl, hB⟩; have hk := HK.out.below hB; have HK := Lib.hid hk; obtain ⟨⟨x0, x1⟩, ⟨a0, a1, a2, a3⟩, ⟨q0, q1, q2, q3⟩, f0, f1, f2, f3⟩ := hk.all; obtain ⟨⟨z0, z1, z2, z3⟩, _⟩ := spc_row (spc_put hk.res A B P Q); have HBZ := Lib.hid (below_set4 hk.bel (Nat.le_succ w.heap.size) (.int .i64 A) (.int .i64 B) (.bool P) (.bool Q)); have Z := Lib.hid (And.intro z0 (And.intro z1 (And.intro z2 z3))); clear z0 z1 z2 z3; clear hk hB))
    | fail "none")
  obtain ⟨z0, z1, z2, z3⟩ := Z.out
  exact bodyPost_ret (v := .agg #[.int .i64 A, .int .i64 B, .bool P, .bool Q]) (by simp [results, Tryz.results24, go_sem, z0, z1, z2, z3]) rfl ⟨rfl, HBZ.out⟩
set_option maxRecDepth 100000 in
set_option maxHeartbeats 600000 in
theorem ext_out_16_false_any (lo hi : Int) (p q : Bool) (E F A B : Int) (P Q : Bool) (hrd : ∀ w, Calls Tryz.prog 29 #[.agg #[.int .i64 lo, .int .i64 hi, .bool p, .bool q]] w (Ret w (.agg #[.int .i64 E, .int .i64 F]))) (hsi : (∀ w, Calls Tryz.prog 30 #[.agg #[.int .i64 E, .int .i64 F]] w (Ret w (.bool false)))) (iv : Int → Bool) (i1 : iv 32767 = false) (i2 : iv (-1) = false) (hin2 : ∀ (b : Int) w, Calls Tryz.prog 50 #[.agg #[.int .i64 E, .int .i64 F], .int .i64 (-32768), .int .i64 b] w (Ret w (.bool (iv b)))) (hfin : (∀ w, Calls Tryz.prog 14 #[.int .i64 (-32768), .int .i64 32767] w (Ret w (.agg #[.int .i64 A, .int .i64 B, .bool P, .bool Q])))) (w : World) :
    Calls Tryz.prog 24 #[.int .i64 16, .bool false, .agg #[.int .i64 lo, .int .i64 hi, .bool p, .bool q]] w (Ret w (.agg #[.int .i64 A, .int .i64 B, .bool P, .bool Q])) := by
  have HRD := Lib.hid hrd
  have Hhsi := Lib.hid hsi
  have Hhin2 := Lib.hid hin2
  have Hhfin := Lib.hid hfin
  clear hrd hsi hin2 hfin
  have r1 : Row ((w.alloc (.cells #[.int .i64 lo, .int .i64 hi, .bool p, .bool q] 23)).alloc (.cells #[.int .i64 0, .int .i64 0, .bool false, .bool false] 23)) w.heap.size 23 (spc lo hi p q) := (Row.made w (spc lo hi p q) 23).alloc _
  have r2 : Row ((w.alloc (.cells #[.int .i64 lo, .int .i64 hi, .bool p, .bool q] 23)).alloc (.cells #[.int .i64 0, .int .i64 0, .bool false, .bool false] 23)) (w.heap.size + 1) 23 (spc 0 0 false false) := row2 w _ (spc 0 0 false false) _
  have b3 : Below w.heap.size w ((w.alloc (.cells #[.int .i64 lo, .int .i64 hi, .bool p, .bool q] 23)).alloc (.cells #[.int .i64 0, .int .i64 0, .bool false, .bool false] 23)) := (below_map w _).alloc (by simp) _
  have HR := Lib.hid (And.intro r1 (And.intro r2 b3))
  clear r1 r2 b3
  go_enter Tryz.func24, Tryz.ntmps24
  go_upto_region 2 with (go_at_call 29; refine (HRD.out _).mono ?_; rintro e w1 ⟨rfl, hB⟩)
  have hk : SK w w1.heap.size 47 E F lo hi p q (w1.alloc (.cells #[.int .i64 E, .int .i64 F] 47)) :=
    ⟨(HR.out.1.below hB HR.out.1.lt).alloc _, (HR.out.2.1.below hB HR.out.2.1.lt).alloc _, Row.made w1 (edc E F) 47, (HR.out.2.2.trans (hB.mono HR.out.2.2.size)).trans ((below_map w1 _).mono (Nat.le_trans HR.out.2.2.size hB.size))⟩
  clear hB
  obtain ⟨b, hb⟩ : ∃ b, b = w1.heap.size := ⟨_, rfl⟩
  rw [← hb] at hk
  simp only [← hb]
  clear hb
  generalize World.alloc _ _ = wc at hk ⊢
  have HK := Lib.hid hk
  obtain ⟨⟨x0, x1⟩, ⟨a0, a1, a2, a3⟩, ⟨q0, q1, q2, q3⟩, f0, f1, f2, f3⟩ := hk.all
  clear hk HR
  go_wp2_with (first
    | (go_at_call 30; (refine (Hhsi.out _).mono ?_; rintro e w' ⟨rfl, hB⟩; have hk := HK.out.below hB; have HK := Lib.hid hk; obtain ⟨⟨x0, x1⟩, ⟨a0, a1, a2, a3⟩, ⟨q0, q1, q2, q3⟩, f0, f1, f2, f3⟩ := hk.all; clear hk hB))
    | (go_at_call 50; (refine (Hhin2.out _ _).mono ?_; rintro e w' ⟨rfl, hB⟩; (first | rw [i1] | rw [i2]); have hk := HK.out.below hB; have HK := Lib.hid hk; obtain ⟨⟨x0, x1⟩, ⟨a0, a1, a2, a3⟩, ⟨q0, q1, q2, q3⟩, f0, f1, f2, f3⟩ := hk.all; clear hk hB))
    | (go_at_call 14; (refine (Hhfin.out _).mono ?_; rintro e w' ⟨rfl, hB⟩; have hk := HK.out.below hB; have HK := Lib.hid hk; obtain ⟨⟨x0, x1⟩, ⟨a0, a1, a2, a3⟩, ⟨q0, q1, q2, q3⟩, f0, f1, f2, f3⟩ := hk.all; obtain ⟨⟨z0, z1, z2, z3⟩, _⟩ := spc_row (spc_put hk.res A B P Q); have HBZ := Lib.hid (below_set4 hk.bel (Nat.le_succ w.heap.size) (.int .i64 A) (.int .i64 B) (.bool P) (.bool Q)); have Z := Lib.hid (And.intro z0 (And.intro z1 (And.intro z2 z3))); clear z0 z1 z2 z3; clear hk hB))
    | fail "none")
  obtain ⟨z0, z1, z2, z3⟩ := Z.out
  exact bodyPost_ret (v := .agg #[.int .i64 A, .int .i64 B, .bool P, .bool Q]) (by simp [results, Tryz.results24, go_sem, z0, z1, z2, z3]) rfl ⟨rfl, HBZ.out⟩
set_option maxRecDepth 100000 in
set_option maxHeartbeats 600000 in
theorem ext_one_16_true (s : Int) (lo hi : Int) (p q : Bool) (E F A B : Int) (P Q : Bool) (hrd : ∀ w, Calls Tryz.prog 29 #[.agg #[.int .i64 lo, .int .i64 hi, .bool p, .bool q]] w (Ret w (.agg #[.int .i64 E, .int .i64 F]))) (hsi : (∀ w, Calls Tryz.prog 30 #[.agg #[.int .i64 E, .int .i64 F]] w (Ret w (.bool true)))) (hw : (∀ w, Calls Tryz.prog 56 #[.int .i64 16, .bool true, .int .i64 E] w (Ret w (.int .i64 s)))) (hfin : (∀ w, Calls Tryz.prog 14 #[.int .i64 s, .int .i64 s] w (Ret w (.agg #[.int .i64 A, .int .i64 B, .bool P, .bool Q])))) (w : World) :
    Calls Tryz.prog 24 #[.int .i64 16, .bool true, .agg #[.int .i64 lo, .int .i64 hi, .bool p, .bool q]] w (Ret w (.agg #[.int .i64 A, .int .i64 B, .bool P, .bool Q])) := by
  have HRD := Lib.hid hrd
  have Hhsi := Lib.hid hsi
  have Hhw := Lib.hid hw
  have Hhfin := Lib.hid hfin
  clear hrd hsi hw hfin
  have r1 : Row ((w.alloc (.cells #[.int .i64 lo, .int .i64 hi, .bool p, .bool q] 23)).alloc (.cells #[.int .i64 0, .int .i64 0, .bool false, .bool false] 23)) w.heap.size 23 (spc lo hi p q) := (Row.made w (spc lo hi p q) 23).alloc _
  have r2 : Row ((w.alloc (.cells #[.int .i64 lo, .int .i64 hi, .bool p, .bool q] 23)).alloc (.cells #[.int .i64 0, .int .i64 0, .bool false, .bool false] 23)) (w.heap.size + 1) 23 (spc 0 0 false false) := row2 w _ (spc 0 0 false false) _
  have b3 : Below w.heap.size w ((w.alloc (.cells #[.int .i64 lo, .int .i64 hi, .bool p, .bool q] 23)).alloc (.cells #[.int .i64 0, .int .i64 0, .bool false, .bool false] 23)) := (below_map w _).alloc (by simp) _
  have HR := Lib.hid (And.intro r1 (And.intro r2 b3))
  clear r1 r2 b3
  go_enter Tryz.func24, Tryz.ntmps24
  go_upto_region 2 with (go_at_call 29; refine (HRD.out _).mono ?_; rintro e w1 ⟨rfl, hB⟩)
  have hk : SK w w1.heap.size 47 E F lo hi p q (w1.alloc (.cells #[.int .i64 E, .int .i64 F] 47)) :=
    ⟨(HR.out.1.below hB HR.out.1.lt).alloc _, (HR.out.2.1.below hB HR.out.2.1.lt).alloc _, Row.made w1 (edc E F) 47, (HR.out.2.2.trans (hB.mono HR.out.2.2.size)).trans ((below_map w1 _).mono (Nat.le_trans HR.out.2.2.size hB.size))⟩
  clear hB
  obtain ⟨b, hb⟩ : ∃ b, b = w1.heap.size := ⟨_, rfl⟩
  rw [← hb] at hk
  simp only [← hb]
  clear hb
  generalize World.alloc _ _ = wc at hk ⊢
  have HK := Lib.hid hk
  obtain ⟨⟨x0, x1⟩, ⟨a0, a1, a2, a3⟩, ⟨q0, q1, q2, q3⟩, f0, f1, f2, f3⟩ := hk.all
  clear hk HR
  go_wp2_with (first
    | (go_at_call 30; (refine (Hhsi.out _).mono ?_; rintro e w' ⟨rfl, hB⟩; have hk := HK.out.below hB; have HK := Lib.hid hk; obtain ⟨⟨x0, x1⟩, ⟨a0, a1, a2, a3⟩, ⟨q0, q1, q2, q3⟩, f0, f1, f2, f3⟩ := hk.all; clear hk hB))
    | (go_at_call 56; (refine (Hhw.out _).mono ?_; rintro e w' ⟨rfl, hB⟩; have hk := HK.out.below hB; have HK := Lib.hid hk; obtain ⟨⟨x0, x1⟩, ⟨a0, a1, a2, a3⟩, ⟨q0, q1, q2, q3⟩, f0, f1, f2, f3⟩ := hk.all; clear hk hB))
    | (go_at_call 14; (refine (Hhfin.out _).mono ?_; rintro e w' ⟨rfl, hB⟩; have hk := HK.out.below hB; have HK := Lib.hid hk; obtain ⟨⟨x0, x1⟩, ⟨a0, a1, a2, a3⟩, ⟨q0, q1, q2, q3⟩, f0, f1, f2, f3⟩ := hk.all; obtain ⟨⟨z0, z1, z2, z3⟩, _⟩ := spc_row (spc_put hk.res A B P Q); have HBZ := Lib.hid (below_set4 hk.bel (Nat.le_succ w.heap.size) (.int .i64 A) (.int .i64 B) (.bool P) (.bool Q)); have Z := Lib.hid (And.intro z0 (And.intro z1 (And.intro z2 z3))); clear z0 z1 z2 z3; clear hk hB))
    | fail "none")
  obtain ⟨z0, z1, z2, z3⟩ := Z.out
  exact bodyPost_ret (v := .agg #[.int .i64 A, .int .i64 B, .bool P, .bool Q]) (by simp [results, Tryz.results24, go_sem, z0, z1, z2, z3]) rfl ⟨rfl, HBZ.out⟩
set_option maxRecDepth 100000 in
set_option maxHeartbeats 600000 in
theorem ext_in_16_true (lo hi : Int) (p q : Bool) (E F A B : Int) (P Q : Bool) (hrd : ∀ w, Calls Tryz.prog 29 #[.agg #[.int .i64 lo, .int .i64 hi, .bool p, .bool q]] w (Ret w (.agg #[.int .i64 E, .int .i64 F]))) (h0 : decide (0 ≤ E) = true) (hsi : (∀ w, Calls Tryz.prog 30 #[.agg #[.int .i64 E, .int .i64 F]] w (Ret w (.bool false)))) (hin : (∀ w, Calls Tryz.prog 50 #[.agg #[.int .i64 E, .int .i64 F], .int .i64 (-32768), .int .i64 32767] w (Ret w (.bool true)))) (hfin : (∀ w, Calls Tryz.prog 49 #[.agg #[.int .i64 E, .int .i64 F]] w (Ret w (.agg #[.int .i64 A, .int .i64 B, .bool P, .bool Q])))) (w : World) :
    Calls Tryz.prog 24 #[.int .i64 16, .bool true, .agg #[.int .i64 lo, .int .i64 hi, .bool p, .bool q]] w (Ret w (.agg #[.int .i64 A, .int .i64 B, .bool P, .bool Q])) := by
  have HRD := Lib.hid hrd
  have Hhsi := Lib.hid hsi
  have Hhin := Lib.hid hin
  have Hhfin := Lib.hid hfin
  clear hrd hsi hin hfin
  have r1 : Row ((w.alloc (.cells #[.int .i64 lo, .int .i64 hi, .bool p, .bool q] 23)).alloc (.cells #[.int .i64 0, .int .i64 0, .bool false, .bool false] 23)) w.heap.size 23 (spc lo hi p q) := (Row.made w (spc lo hi p q) 23).alloc _
  have r2 : Row ((w.alloc (.cells #[.int .i64 lo, .int .i64 hi, .bool p, .bool q] 23)).alloc (.cells #[.int .i64 0, .int .i64 0, .bool false, .bool false] 23)) (w.heap.size + 1) 23 (spc 0 0 false false) := row2 w _ (spc 0 0 false false) _
  have b3 : Below w.heap.size w ((w.alloc (.cells #[.int .i64 lo, .int .i64 hi, .bool p, .bool q] 23)).alloc (.cells #[.int .i64 0, .int .i64 0, .bool false, .bool false] 23)) := (below_map w _).alloc (by simp) _
  have HR := Lib.hid (And.intro r1 (And.intro r2 b3))
  clear r1 r2 b3
  go_enter Tryz.func24, Tryz.ntmps24
  go_upto_region 2 with (go_at_call 29; refine (HRD.out _).mono ?_; rintro e w1 ⟨rfl, hB⟩)
  have hk : SK w w1.heap.size 47 E F lo hi p q (w1.alloc (.cells #[.int .i64 E, .int .i64 F] 47)) :=
    ⟨(HR.out.1.below hB HR.out.1.lt).alloc _, (HR.out.2.1.below hB HR.out.2.1.lt).alloc _, Row.made w1 (edc E F) 47, (HR.out.2.2.trans (hB.mono HR.out.2.2.size)).trans ((below_map w1 _).mono (Nat.le_trans HR.out.2.2.size hB.size))⟩
  clear hB
  obtain ⟨b, hb⟩ : ∃ b, b = w1.heap.size := ⟨_, rfl⟩
  rw [← hb] at hk
  simp only [← hb]
  clear hb
  generalize World.alloc _ _ = wc at hk ⊢
  have HK := Lib.hid hk
  obtain ⟨⟨x0, x1⟩, ⟨a0, a1, a2, a3⟩, ⟨q0, q1, q2, q3⟩, f0, f1, f2, f3⟩ := hk.all
  clear hk HR
  go_wp2_with (first
    | (go_at_call 30; (refine (Hhsi.out _).mono ?_; rintro e w' ⟨rfl, hB⟩; have hk := HK.out.below hB; have HK := Lib.hid hk; obtain ⟨⟨x0, x1⟩, ⟨a0, a1, a2, a3⟩, ⟨q0, q1, q2, q3⟩, f0, f1, f2, f3⟩ := hk.all; clear hk hB))
    | (go_at_call 50; (refine (Hhin.out _).mono ?_; rintro e w' ⟨rfl, hB⟩; have hk := HK.out.below hB; have HK := Lib.hid hk; obtain ⟨⟨x0, x1⟩, ⟨a0, a1, a2, a3⟩, ⟨q0, q1, q2, q3⟩, f0, f1, f2, f3⟩ := hk.all; clear hk hB))
    | (go_at_call 49; (refine (Hhfin.out _).mono ?_; rintro e w' ⟨rfl, hB⟩; have hk := HK.out.below hB; have HK := Lib.hid hk; obtain ⟨⟨x0, x1⟩, ⟨a0, a1, a2, a3⟩, ⟨q0, q1, q2, q3⟩, f0, f1, f2, f3⟩ := hk.all; obtain ⟨⟨z0, z1, z2, z3⟩, _⟩ := spc_row (spc_put hk.res A B P Q); have HBZ := Lib.hid (below_set4 hk.bel (Nat.le_succ w.heap.size) (.int .i64 A) (.int .i64 B) (.bool P) (.bool Q)); have Z := Lib.hid (And.intro z0 (And.intro z1 (And.intro z2 z3))); clear z0 z1 z2 z3; clear hk hB))
    | fail "none")
  obtain ⟨z0, z1, z2, z3⟩ := Z.out
  exact bodyPost_ret (v := .agg #[.int .i64 A, .int .i64 B, .bool P, .bool Q]) (by simp [results, Tryz.results24, go_sem, z0, z1, z2, z3]) rfl ⟨rfl, HBZ.out⟩
set_option maxRecDepth 100000 in
set_option maxHeartbeats 600000 in
theorem ext_out_16_true_below (e1 e2 f1 f2 : Int) (lo hi : Int) (p q : Bool) (E F A B : Int) (P Q : Bool) (hrd : ∀ w, Calls Tryz.prog 29 #[.agg #[.int .i64 lo, .int .i64 hi, .bool p, .bool q]] w (Ret w (.agg #[.int .i64 E, .int .i64 F]))) (g1 : wrap64 (E + 4294967295) = e1) (g2 : wrap64 (e1 + 1) = e2) (g3 : wrap64 (F + 4294967295) = f1) (g4 : wrap64 (f1 + 1) = f2) (hsi : (∀ w, Calls Tryz.prog 30 #[.agg #[.int .i64 E, .int .i64 F]] w (Ret w (.bool false)))) (iv : Int → Bool) (i1 : iv 32767 = false) (i2 : iv (-1) = true) (hin2 : ∀ (b : Int) w, Calls Tryz.prog 50 #[.agg #[.int .i64 E, .int .i64 F], .int .i64 (-32768), .int .i64 b] w (Ret w (.bool (iv b)))) (hfin : (∀ w, Calls Tryz.prog 14 #[.int .i64 e2, .int .i64 f2] w (Ret w (.agg #[.int .i64 A, .int .i64 B, .bool P, .bool Q])))) (w : World) :
    Calls Tryz.prog 24 #[.int .i64 16, .bool true, .agg #[.int .i64 lo, .int .i64 hi, .bool p, .bool q]] w (Ret w (.agg #[.int .i64 A, .int .i64 B, .bool P, .bool Q])) := by
  have HRD := Lib.hid hrd
  have Hhsi := Lib.hid hsi
  have Hhin2 := Lib.hid hin2
  have Hhfin := Lib.hid hfin
  clear hrd hsi hin2 hfin
  have r1 : Row ((w.alloc (.cells #[.int .i64 lo, .int .i64 hi, .bool p, .bool q] 23)).alloc (.cells #[.int .i64 0, .int .i64 0, .bool false, .bool false] 23)) w.heap.size 23 (spc lo hi p q) := (Row.made w (spc lo hi p q) 23).alloc _
  have r2 : Row ((w.alloc (.cells #[.int .i64 lo, .int .i64 hi, .bool p, .bool q] 23)).alloc (.cells #[.int .i64 0, .int .i64 0, .bool false, .bool false] 23)) (w.heap.size + 1) 23 (spc 0 0 false false) := row2 w _ (spc 0 0 false false) _
  have b3 : Below w.heap.size w ((w.alloc (.cells #[.int .i64 lo, .int .i64 hi, .bool p, .bool q] 23)).alloc (.cells #[.int .i64 0, .int .i64 0, .bool false, .bool false] 23)) := (below_map w _).alloc (by simp) _
  have HR := Lib.hid (And.intro r1 (And.intro r2 b3))
  clear r1 r2 b3
  go_enter Tryz.func24, Tryz.ntmps24
  go_upto_region 2 with (go_at_call 29; refine (HRD.out _).mono ?_; rintro e w1 ⟨rfl, hB⟩)
  have hk : SK w w1.heap.size 47 E F lo hi p q (w1.alloc (.cells #[.int .i64 E, .int .i64 F] 47)) :=
    ⟨(HR.out.1.below hB HR.out.1.lt).alloc _, (HR.out.2.1.below hB HR.out.2.1.lt).alloc _, Row.made w1 (edc E F) 47, (HR.out.2.2.trans (hB.mono HR.out.2.2.size)).trans ((below_map w1 _).mono (Nat.le_trans HR.out.2.2.size hB.size))⟩
  clear hB
  obtain ⟨b, hb⟩ : ∃ b, b = w1.heap.size := ⟨_, rfl⟩
  rw [← hb] at hk
  simp only [← hb]
  clear hb
  generalize World.alloc _ _ = wc at hk ⊢
  have HK := Lib.hid hk
  obtain ⟨⟨x0, x1⟩, ⟨a0, a1, a2, a3⟩, ⟨q0, q1, q2, q3⟩, f0, f1, f2, f3⟩ := hk.all
  clear hk HR
  go_wp2_with (first
    | (go_at_call 30; (refine (Hhsi.out _).mono ?_; rintro e w' ⟨rfl, hB⟩; have hk := HK.out.below hB; have HK := Lib.hid hk; obtain ⟨⟨x0, x1⟩, ⟨a0, a1, a2, a3⟩, ⟨q0, q1, q2, q3⟩, f0, f1, f2, f3⟩ := hk.all; clear hk hB))
    | (go_at_call 50; (refine (Hhin2.out _ _).mono ?_; rintro e w' ⟨rfl, hB⟩; (first | rw [i1] | rw [i2]); have hk := HK.out.below hB; have HK := Lib.hid hk; obtain ⟨⟨x0, x1⟩, ⟨a0, a1, a2, a3⟩, ⟨q0, q1, q2, q3⟩, f0, f1, f2, f3⟩ := hk.all; clear hk hB))
    | (go_at_call 14; (refine (Hhfin.out _).mono ?_; rintro e w' ⟨rfl, hB⟩; have hk := HK.out.below hB; have HK := Lib.hid hk; obtain ⟨⟨x0, x1⟩, ⟨a0, a1, a2, a3⟩, ⟨q0, q1, q2, q3⟩, f0, f1, f2, f3⟩ := hk.all; obtain ⟨⟨z0, z1, z2, z3⟩, _⟩ := spc_row (spc_put hk.res A B P Q); have HBZ := Lib.hid (below_set4 hk.bel (Nat.le_succ w.heap.size) (.int .i64 A) (.int .i64 B) (.bool P) (.bool Q)); have Z := Lib.hid (And.intro z0 (And.intro z1 (And.intro z2 z3))); clear z0 z1 z2 z3; clear hk hB))
    | fail "none")
  obtain ⟨z0, z1, z2, z3⟩ := Z.out
  exact bodyPost_ret (v := .agg #[.int .i64 A, .int .i64 B, .bool P, .bool Q]) (by simp [results, Tryz.results24, go_sem, z0, z1, z2, z3]) rfl ⟨rfl, HBZ.out⟩
set_option maxRecDepth 100000 in
set_option maxHeartbeats 600000 in
theorem ext_out_16_true_any (lo hi : Int) (p q : Bool) (E F A B : Int) (P Q : Bool) (hrd : ∀ w, Calls Tryz.prog 29 #[.agg #[.int .i64 lo, .int .i64 hi, .bool p, .bool q]] w (Ret w (.agg #[.int .i64 E, .int .i64 F]))) (hsi : (∀ w, Calls Tryz.prog 30 #[.agg #[.int .i64 E, .int .i64 F]] w (Ret w (.bool false)))) (iv : Int → Bool) (i1 : iv 32767 = false) (i2 : iv (-1) = false) (hin2 : ∀ (b : Int) w, Calls Tryz.prog 50 #[.agg #[.int .i64 E, .int .i64 F], .int .i64 (-32768), .int .i64 b] w (Ret w (.bool (iv b)))) (hfin : (∀ w, Calls Tryz.prog 14 #[.int .i64 0, .int .i64 4294967295] w (Ret w (.agg #[.int .i64 A, .int .i64 B, .bool P, .bool Q])))) (w : World) :
    Calls Tryz.prog 24 #[.int .i64 16, .bool true, .agg #[.int .i64 lo, .int .i64 hi, .bool p, .bool q]] w (Ret w (.agg #[.int .i64 A, .int .i64 B, .bool P, .bool Q])) := by
  have HRD := Lib.hid hrd
  have Hhsi := Lib.hid hsi
  have Hhin2 := Lib.hid hin2
  have Hhfin := Lib.hid hfin
  clear hrd hsi hin2 hfin
  have r1 : Row ((w.alloc (.cells #[.int .i64 lo, .int .i64 hi, .bool p, .bool q] 23)).alloc (.cells #[.int .i64 0, .int .i64 0, .bool false, .bool false] 23)) w.heap.size 23 (spc lo hi p q) := (Row.made w (spc lo hi p q) 23).alloc _
  have r2 : Row ((w.alloc (.cells #[.int .i64 lo, .int .i64 hi, .bool p, .bool q] 23)).alloc (.cells #[.int .i64 0, .int .i64 0, .bool false, .bool false] 23)) (w.heap.size + 1) 23 (spc 0 0 false false) := row2 w _ (spc 0 0 false false) _
  have b3 : Below w.heap.size w ((w.alloc (.cells #[.int .i64 lo, .int .i64 hi, .bool p, .bool q] 23)).alloc (.cells #[.int .i64 0, .int .i64 0, .bool false, .bool false] 23)) := (below_map w _).alloc (by simp) _
  have HR := Lib.hid (And.intro r1 (And.intro r2 b3))
  clear r1 r2 b3
  go_enter Tryz.func24, Tryz.ntmps24
  go_upto_region 2 with (go_at_call 29; refine (HRD.out _).mono ?_; rintro e w1 ⟨rfl, hB⟩)
  have hk : SK w w1.heap.size 47 E F lo hi p q (w1.alloc (.cells #[.int .i64 E, .int .i64 F] 47)) :=
    ⟨(HR.out.1.below hB HR.out.1.lt).alloc _, (HR.out.2.1.below hB HR.out.2.1.lt).alloc _, Row.made w1 (edc E F) 47, (HR.out.2.2.trans (hB.mono HR.out.2.2.size)).trans ((below_map w1 _).mono (Nat.le_trans HR.out.2.2.size hB.size))⟩
  clear hB
  obtain ⟨b, hb⟩ : ∃ b, b = w1.heap.size := ⟨_, rfl⟩
  rw [← hb] at hk
  simp only [← hb]
  clear hb
  generalize World.alloc _ _ = wc at hk ⊢
  have HK := Lib.hid hk
  obtain ⟨⟨x0, x1⟩, ⟨a0, a1, a2, a3⟩, ⟨q0, q1, q2, q3⟩, f0, f1, f2, f3⟩ := hk.all
  clear hk HR
  go_wp2_with (first
    | (go_at_call 30; (refine (Hhsi.out _).mono ?_; rintro e w' ⟨rfl, hB⟩; have hk := HK.out.below hB; have HK := Lib.hid hk; obtain ⟨⟨x0, x1⟩, ⟨a0, a1, a2, a3⟩, ⟨q0, q1, q2, q3⟩, f0, f1, f2, f3⟩ := hk.all; clear hk hB))
    | (go_at_call 50; (refine (Hhin2.out _ _).mono ?_; rintro e w' ⟨rfl, hB⟩; (first | rw [i1] | rw [i2]); have hk := HK.out.below hB; have HK := Lib.hid hk; obtain ⟨⟨x0, x1⟩, ⟨a0, a1, a2, a3⟩, ⟨q0, q1, q2, q3⟩, f0, f1, f2, f3⟩ := hk.all; clear hk hB))
    | (go_at_call 14; (refine (Hhfin.out _).mono ?_; rintro e w' ⟨rfl, hB⟩; have hk := HK.out.below hB; have HK := Lib.hid hk; obtain ⟨⟨x0, x1⟩, ⟨a0, a1, a2, a3⟩, ⟨q0, q1, q2, q3⟩, f0, f1, f2, f3⟩ := hk.all; obtain ⟨⟨z0, z1, z2, z3⟩, _⟩ := spc_row (spc_put hk.res A B P Q); have HBZ := Lib.hid (below_set4 hk.bel (Nat.le_succ w.heap.size) (.int .i64 A) (.int .i64 B) (.bool P) (.bool Q)); have Z := Lib.hid (And.intro z0 (And.intro z1 (And.intro z2 z3))); clear z0 z1 z2 z3; clear hk hB))
    | fail "none")
  obtain ⟨z0, z1, z2, z3⟩ := Z.out
  exact bodyPost_ret (v := .agg #[.int .i64 A, .int .i64 B, .bool P, .bool Q]) (by simp [results, Tryz.results24, go_sem, z0, z1, z2, z3]) rfl ⟨rfl, HBZ.out⟩
set_option maxRecDepth 100000 in
set_option maxHeartbeats 600000 in
theorem ext_neg_16_true_below (e1 e2 f1 f2 : Int) (lo hi : Int) (p q : Bool) (E F A B : Int) (P Q : Bool) (hrd : ∀ w, Calls Tryz.prog 29 #[.agg #[.int .i64 lo, .int .i64 hi, .bool p, .bool q]] w (Ret w (.agg #[.int .i64 E, .int .i64 F]))) (h0 : decide (0 ≤ E) = false) (g1 : wrap64 (E + 4294967295) = e1) (g2 : wrap64 (e1 + 1) = e2) (g3 : wrap64 (F + 4294967295) = f1) (g4 : wrap64 (f1 + 1) = f2) (hsi : (∀ w, Calls Tryz.prog 30 #[.agg #[.int .i64 E, .int .i64 F]] w (Ret w (.bool false)))) (iv : Int → Bool) (i1 : iv 32767 = true) (i2 : iv (-1) = true) (hin2 : ∀ (b : Int) w, Calls Tryz.prog 50 #[.agg #[.int .i64 E, .int .i64 F], .int .i64 (-32768), .int .i64 b] w (Ret w (.bool (iv b)))) (hfin : (∀ w, Calls Tryz.prog 14 #[.int .i64 e2, .int .i64 f2] w (Ret w (.agg #[.int .i64 A, .int .i64 B, .bool P, .bool Q])))) (w : World) :
    Calls Tryz.prog 24 #[.int .i64 16, .bool true, .agg #[.int .i64 lo, .int .i64 hi, .bool p, .bool q]] w (Ret w (.agg #[.int .i64 A, .int .i64 B, .bool P, .bool Q])) := by
  have HRD := Lib.hid hrd
  have Hhsi := Lib.hid hsi
  have Hhin2 := Lib.hid hin2
  have Hhfin := Lib.hid hfin
  clear hrd hsi hin2 hfin
  have r1 : Row ((w.alloc (.cells #[.int .i64 lo, .int .i64 hi, .bool p, .bool q] 23)).alloc (.cells #[.int .i64 0, .int .i64 0, .bool false, .bool false] 23)) w.heap.size 23 (spc lo hi p q) := (Row.made w (spc lo hi p q) 23).alloc _
  have r2 : Row ((w.alloc (.cells #[.int .i64 lo, .int .i64 hi, .bool p, .bool q] 23)).alloc (.cells #[.int .i64 0, .int .i64 0, .bool false, .bool false] 23)) (w.heap.size + 1) 23 (spc 0 0 false false) := row2 w _ (spc 0 0 false false) _
  have b3 : Below w.heap.size w ((w.alloc (.cells #[.int .i64 lo, .int .i64 hi, .bool p, .bool q] 23)).alloc (.cells #[.int .i64 0, .int .i64 0, .bool false, .bool false] 23)) := (below_map w _).alloc (by simp) _
  have HR := Lib.hid (And.intro r1 (And.intro r2 b3))
  clear r1 r2 b3
  go_enter Tryz.func24, Tryz.ntmps24
  go_upto_region 2 with (go_at_call 29; refine (HRD.out _).mono ?_; rintro e w1 ⟨rfl, hB⟩)
  have hk : SK w w1.heap.size 47 E F lo hi p q (w1.alloc (.cells #[.int .i64 E, .int .i64 F] 47)) :=
    ⟨(HR.out.1.below hB HR.out.1.lt).alloc _, (HR.out.2.1.below hB HR.out.2.1.lt).alloc _, Row.made w1 (edc E F) 47, (HR.out.2.2.trans (hB.mono HR.out.2.2.size)).trans ((below_map w1 _).mono (Nat.le_trans HR.out.2.2.size hB.size))⟩
  clear hB
  obtain ⟨b, hb⟩ : ∃ b, b = w1.heap.size := ⟨_, rfl⟩
  rw [← hb] at hk
  simp only [← hb]
  clear hb
  generalize World.alloc _ _ = wc at hk ⊢
  have HK := Lib.hid hk
  obtain ⟨⟨x0, x1⟩, ⟨a0, a1, a2, a3⟩, ⟨q0, q1, q2, q3⟩, f0, f1, f2, f3⟩ := hk.all
  clear hk HR
  go_wp2_with (first
    | (go_at_call 30; (refine (Hhsi.out _).mono ?_; rintro e w' ⟨rfl, hB⟩; have hk := HK.out.below hB; have HK := Lib.hid hk; obtain ⟨⟨x0, x1⟩, ⟨a0, a1, a2, a3⟩, ⟨q0, q1, q2, q3⟩, f0, f1, f2, f3⟩ := hk.all; clear hk hB))
    | (go_at_call 50; (refine (Hhin2.out _ _).mono ?_; rintro e w' ⟨rfl, hB⟩; (first | rw [i1] | rw [i2]); have hk := HK.out.below hB; have HK := Lib.hid hk; obtain ⟨⟨x0, x1⟩, ⟨a0, a1, a2, a3⟩, ⟨q0, q1, q2, q3⟩, f0, f1, f2, f3⟩ := hk.all; clear hk hB))
    | (go_at_call 14; (refine (Hhfin.out _).mono ?_; rintro e w' ⟨rfl, hB⟩; have hk := HK.out.below hB; have HK := Lib.hid hk; obtain ⟨⟨x0, x1⟩, ⟨a0, a1, a2, a3⟩, ⟨q0, q1, q2, q3⟩, f0, f1, f2, f3⟩ := hk.all; obtain ⟨⟨z0, z1, z2, z3⟩, _⟩ := spc_row (spc_put hk.res A B P Q); have HBZ := Lib.hid (below_set4 hk.bel (Nat.le_succ w.heap.size) (.int .i64 A) (.int .i64 B) (.bool P) (.bool Q)); have Z := Lib.hid (And.intro z0 (And.intro z1 (And.intro z2 z3))); clear z0 z1 z2 z3; clear hk hB))
    | fail "none")
  obtain ⟨z0, z1, z2, z3⟩ := Z.out
  exact bodyPost_ret (v := .agg #[.int .i64 A, .int .i64 B, .bool P, .bool Q]) (by simp [results, Tryz.results24, go_sem, z0, z1, z2, z3]) rfl ⟨rfl, HBZ.out⟩
set_option maxRecDepth 100000 in
set_option maxHeartbeats 600000 in
theorem ext_neg_16_true_any (lo hi : Int) (p q : Bool) (E F A B : Int) (P Q : Bool) (hrd : ∀ w, Calls Tryz.prog 29 #[.agg #[.int .i64 lo, .int .i64 hi, .bool p, .bool q]] w (Ret w (.agg #[.int .i64 E, .int .i64 F]))) (h0 : decide (0 ≤ E) = false) (hsi : (∀ w, Calls Tryz.prog 30 #[.agg #[.int .i64 E, .int .i64 F]] w (Ret w (.bool false)))) (iv : Int → Bool) (i1 : iv 32767 = true) (i2 : iv (-1) = false) (hin2 : ∀ (b : Int) w, Calls Tryz.prog 50 #[.agg #[.int .i64 E, .int .i64 F], .int .i64 (-32768), .int .i64 b] w (Ret w (.bool (iv b)))) (hfin : (∀ w, Calls Tryz.prog 14 #[.int .i64 0, .int .i64 4294967295] w (Ret w (.agg #[.int .i64 A, .int .i64 B, .bool P, .bool Q])))) (w : World) :
    Calls Tryz.prog 24 #[.int .i64 16, .bool true, .agg #[.int .i64 lo, .int .i64 hi, .bool p, .bool q]] w (Ret w (.agg #[.int .i64 A, .int .i64 B, .bool P, .bool Q])) := by
  have HRD := Lib.hid hrd
  have Hhsi := Lib.hid hsi
  have Hhin2 := Lib.hid hin2
  have Hhfin := Lib.hid hfin
  clear hrd hsi hin2 hfin
  have r1 : Row ((w.alloc (.cells #[.int .i64 lo, .int .i64 hi, .bool p, .bool q] 23)).alloc (.cells #[.int .i64 0, .int .i64 0, .bool false, .bool false] 23)) w.heap.size 23 (spc lo hi p q) := (Row.made w (spc lo hi p q) 23).alloc _
  have r2 : Row ((w.alloc (.cells #[.int .i64 lo, .int .i64 hi, .bool p, .bool q] 23)).alloc (.cells #[.int .i64 0, .int .i64 0, .bool false, .bool false] 23)) (w.heap.size + 1) 23 (spc 0 0 false false) := row2 w _ (spc 0 0 false false) _
  have b3 : Below w.heap.size w ((w.alloc (.cells #[.int .i64 lo, .int .i64 hi, .bool p, .bool q] 23)).alloc (.cells #[.int .i64 0, .int .i64 0, .bool false, .bool false] 23)) := (below_map w _).alloc (by simp) _
  have HR := Lib.hid (And.intro r1 (And.intro r2 b3))
  clear r1 r2 b3
  go_enter Tryz.func24, Tryz.ntmps24
  go_upto_region 2 with (go_at_call 29; refine (HRD.out _).mono ?_; rintro e w1 ⟨rfl, hB⟩)
  have hk : SK w w1.heap.size 47 E F lo hi p q (w1.alloc (.cells #[.int .i64 E, .int .i64 F] 47)) :=
    ⟨(HR.out.1.below hB HR.out.1.lt).alloc _, (HR.out.2.1.below hB HR.out.2.1.lt).alloc _, Row.made w1 (edc E F) 47, (HR.out.2.2.trans (hB.mono HR.out.2.2.size)).trans ((below_map w1 _).mono (Nat.le_trans HR.out.2.2.size hB.size))⟩
  clear hB
  obtain ⟨b, hb⟩ : ∃ b, b = w1.heap.size := ⟨_, rfl⟩
  rw [← hb] at hk
  simp only [← hb]
  clear hb
  generalize World.alloc _ _ = wc at hk ⊢
  have HK := Lib.hid hk
  obtain ⟨⟨x0, x1⟩, ⟨a0, a1, a2, a3⟩, ⟨q0, q1, q2, q3⟩, f0, f1, f2, f3⟩ := hk.all
  clear hk HR
  go_wp2_with (first
    | (go_at_call 30; (refine (Hhsi.out _).mono ?_; rintro e w' ⟨rfl, hB⟩; have hk := HK.out.below hB; have HK := Lib.hid hk; obtain ⟨⟨x0, x1⟩, ⟨a0, a1, a2, a3⟩, ⟨q0, q1, q2, q3⟩, f0, f1, f2, f3⟩ := hk.all; clear hk hB))
    | (go_at_call 50; (refine (Hhin2.out _ _).mono ?_; rintro e w' ⟨rfl, hB⟩; (first | rw [i1] | rw [i2]); have hk := HK.out.below hB; have HK := Lib.hid hk; obtain ⟨⟨x0, x1⟩, ⟨a0, a1, a2, a3⟩, ⟨q0, q1, q2, q3⟩, f0, f1, f2, f3⟩ := hk.all; clear hk hB))
    | (go_at_call 14; (refine (Hhfin.out _).mono ?_; rintro e w' ⟨rfl, hB⟩; have hk := HK.out.below hB; have HK := Lib.hid hk; obtain ⟨⟨x0, x1⟩, ⟨a0, a1, a2, a3⟩, ⟨q0, q1, q2, q3⟩, f0, f1, f2, f3⟩ := hk.all; obtain ⟨⟨z0, z1, z2, z3⟩, _⟩ := spc_row (spc_put hk.res A B P Q); have HBZ := Lib.hid (below_set4 hk.bel (Nat.le_succ w.heap.size) (.int .i64 A) (.int .i64 B) (.bool P) (.bool Q)); have Z := Lib.hid (And.intro z0 (And.intro z1 (And.intro z2 z3))); clear z0 z1 z2 z3; clear hk hB))
    | fail "none")
  obtain ⟨z0, z1, z2, z3⟩ := Z.out
  exact bodyPost_ret (v := .agg #[.int .i64 A, .int .i64 B, .bool P, .bool Q]) (by simp [results, Tryz.results24, go_sem, z0, z1, z2, z3]) rfl ⟨rfl, HBZ.out⟩
set_option maxRecDepth 100000 in
set_option maxHeartbeats 600000 in
theorem ext_one_32_false (s : Int) (lo hi : Int) (p q : Bool) (E F A B : Int) (P Q : Bool) (hrd : ∀ w, Calls Tryz.prog 29 #[.agg #[.int .i64 lo, .int .i64 hi, .bool p, .bool q]] w (Ret w (.agg #[.int .i64 E, .int .i64 F]))) (hsi : (∀ w, Calls Tryz.prog 30 #[.agg #[.int .i64 E, .int .i64 F]] w (Ret w (.bool true)))) (hw : (∀ w, Calls Tryz.prog 56 #[.int .i64 32, .bool false, .int .i64 E] w (Ret w (.int .i64 s)))) (hfin : (∀ w, Calls Tryz.prog 14 #[.int .i64 s, .int .i64 s] w (Ret w (.agg #[.int .i64 A, .int .i64 B, .bool P, .bool Q])))) (w : World) :
    Calls Tryz.prog 24 #[.int .i64 32, .bool false, .agg #[.int .i64 lo, .int .i64 hi, .bool p, .bool q]] w (Ret w (.agg #[.int .i64 A, .int .i64 B, .bool P, .bool Q])) := by
  have HRD := Lib.hid hrd
  have Hhsi := Lib.hid hsi
  have Hhw := Lib.hid hw
  have Hhfin := Lib.hid hfin
  clear hrd hsi hw hfin
  have r1 : Row ((w.alloc (.cells #[.int .i64 lo, .int .i64 hi, .bool p, .bool q] 23)).alloc (.cells #[.int .i64 0, .int .i64 0, .bool false, .bool false] 23)) w.heap.size 23 (spc lo hi p q) := (Row.made w (spc lo hi p q) 23).alloc _
  have r2 : Row ((w.alloc (.cells #[.int .i64 lo, .int .i64 hi, .bool p, .bool q] 23)).alloc (.cells #[.int .i64 0, .int .i64 0, .bool false, .bool false] 23)) (w.heap.size + 1) 23 (spc 0 0 false false) := row2 w _ (spc 0 0 false false) _
  have b3 : Below w.heap.size w ((w.alloc (.cells #[.int .i64 lo, .int .i64 hi, .bool p, .bool q] 23)).alloc (.cells #[.int .i64 0, .int .i64 0, .bool false, .bool false] 23)) := (below_map w _).alloc (by simp) _
  have HR := Lib.hid (And.intro r1 (And.intro r2 b3))
  clear r1 r2 b3
  go_enter Tryz.func24, Tryz.ntmps24
  go_upto_region 2 with (go_at_call 29; refine (HRD.out _).mono ?_; rintro e w1 ⟨rfl, hB⟩)
  have hk : SK w w1.heap.size 47 E F lo hi p q (w1.alloc (.cells #[.int .i64 E, .int .i64 F] 47)) :=
    ⟨(HR.out.1.below hB HR.out.1.lt).alloc _, (HR.out.2.1.below hB HR.out.2.1.lt).alloc _, Row.made w1 (edc E F) 47, (HR.out.2.2.trans (hB.mono HR.out.2.2.size)).trans ((below_map w1 _).mono (Nat.le_trans HR.out.2.2.size hB.size))⟩
  clear hB
  obtain ⟨b, hb⟩ : ∃ b, b = w1.heap.size := ⟨_, rfl⟩
  rw [← hb] at hk
  simp only [← hb]
  clear hb
  generalize World.alloc _ _ = wc at hk ⊢
  have HK := Lib.hid hk
  obtain ⟨⟨x0, x1⟩, ⟨a0, a1, a2, a3⟩, ⟨q0, q1, q2, q3⟩, f0, f1, f2, f3⟩ := hk.all
  clear hk HR
  go_wp2_with (first
    | (go_at_call 30; (refine (Hhsi.out _).mono ?_; rintro e w' ⟨rfl, hB⟩; have hk := HK.out.below hB; have HK := Lib.hid hk; obtain ⟨⟨x0, x1⟩, ⟨a0, a1, a2, a3⟩, ⟨q0, q1, q2, q3⟩, f0, f1, f2, f3⟩ := hk.all; clear hk hB))
    | (go_at_call 56; (refine (Hhw.out _).mono ?_; rintro e w' ⟨rfl, hB⟩; have hk := HK.out.below hB; have HK := Lib.hid hk; obtain ⟨⟨x0, x1⟩, ⟨a0, a1, a2, a3⟩, ⟨q0, q1, q2, q3⟩, f0, f1, f2, f3⟩ := hk.all; clear hk hB))
    | (go_at_call 14; (refine (Hhfin.out _).mono ?_; rintro e w' ⟨rfl, hB⟩; have hk := HK.out.below hB; have HK := Lib.hid hk; obtain ⟨⟨x0, x1⟩, ⟨a0, a1, a2, a3⟩, ⟨q0, q1, q2, q3⟩, f0, f1, f2, f3⟩ := hk.all; obtain ⟨⟨z0, z1, z2, z3⟩, _⟩ := spc_row (spc_put hk.res A B P Q); have HBZ := Lib.hid (below_set4 hk.bel (Nat.le_succ w.heap.size) (.int .i64 A) (.int .i64 B) (.bool P) (.bool Q)); have Z := Lib.hid (And.intro z0 (And.intro z1 (And.intro z2 z3))); clear z0 z1 z2 z3; clear hk hB))
    | fail "none")
  obtain ⟨z0, z1, z2, z3⟩ := Z.out
  exact bodyPost_ret (v := .agg #[.int .i64 A, .int .i64 B, .bool P, .bool Q]) (by simp [results, Tryz.results24, go_sem, z0, z1, z2, z3]) rfl ⟨rfl, HBZ.out⟩
set_option maxRecDepth 100000 in
set_option maxHeartbeats 600000 in
theorem ext_in_32_false (lo hi : Int) (p q : Bool) (E F A B : Int) (P Q : Bool) (hrd : ∀ w, Calls Tryz.prog 29 #[.agg #[.int .i64 lo, .int .i64 hi, .bool p, .bool q]] w (Ret w (.agg #[.int .i64 E, .int .i64 F]))) (hsi : (∀ w, Calls Tryz.prog 30 #[.agg #[.int .i64 E, .int .i64 F]] w (Ret w (.bool false)))) (hin : (∀ w, Calls Tryz.prog 50 #[.agg #[.int .i64 E, .int .i64 F], .int .i64 (-2147483648), .int .i64 2147483647] w (Ret w (.bool true)))) (hfin : (∀ w, Calls Tryz.prog 49 #[.agg #[.int .i64 E, .int .i64 F]] w (Ret w (.agg #[.int .i64 A, .int .i64 B, .bool P, .bool Q])))) (w : World) :
    Calls Tryz.prog 24 #[.int .i64 32, .bool false, .agg #[.int .i64 lo, .int .i64 hi, .bool p, .bool q]] w (Ret w (.agg #[.int .i64 A, .int .i64 B, .bool P, .bool Q])) := by
  have HRD := Lib.hid hrd
  have Hhsi := Lib.hid hsi
  have Hhin := Lib.hid hin
  have Hhfin := Lib.hid hfin
  clear hrd hsi hin hfin
  have r1 : Row ((w.alloc (.cells #[.int .i64 lo, .int .i64 hi, .bool p, .bool q] 23)).alloc (.cells #[.int .i64 0, .int .i64 0, .bool false, .bool false] 23)) w.heap.size 23 (spc lo hi p q) := (Row.made w (spc lo hi p q) 23).alloc _
  have r2 : Row ((w.alloc (.cells #[.int .i64 lo, .int .i64 hi, .bool p, .bool q] 23)).alloc (.cells #[.int .i64 0, .int .i64 0, .bool false, .bool false] 23)) (w.heap.size + 1) 23 (spc 0 0 false false) := row2 w _ (spc 0 0 false false) _
  have b3 : Below w.heap.size w ((w.alloc (.cells #[.int .i64 lo, .int .i64 hi, .bool p, .bool q] 23)).alloc (.cells #[.int .i64 0, .int .i64 0, .bool false, .bool false] 23)) := (below_map w _).alloc (by simp) _
  have HR := Lib.hid (And.intro r1 (And.intro r2 b3))
  clear r1 r2 b3
  go_enter Tryz.func24, Tryz.ntmps24
  go_upto_region 2 with (go_at_call 29; refine (HRD.out _).mono ?_; rintro e w1 ⟨rfl, hB⟩)
  have hk : SK w w1.heap.size 47 E F lo hi p q (w1.alloc (.cells #[.int .i64 E, .int .i64 F] 47)) :=
    ⟨(HR.out.1.below hB HR.out.1.lt).alloc _, (HR.out.2.1.below hB HR.out.2.1.lt).alloc _, Row.made w1 (edc E F) 47, (HR.out.2.2.trans (hB.mono HR.out.2.2.size)).trans ((below_map w1 _).mono (Nat.le_trans HR.out.2.2.size hB.size))⟩
  clear hB
  obtain ⟨b, hb⟩ : ∃ b, b = w1.heap.size := ⟨_, rfl⟩
  rw [← hb] at hk
  simp only [← hb]
  clear hb
  generalize World.alloc _ _ = wc at hk ⊢
  have HK := Lib.hid hk
  obtain ⟨⟨x0, x1⟩, ⟨a0, a1, a2, a3⟩, ⟨q0, q1, q2, q3⟩, f0, f1, f2, f3⟩ := hk.all
  clear hk HR
  go_wp2_with (first
    | (go_at_call 30; (refine (Hhsi.out _).mono ?_; rintro e w' ⟨rfl, hB⟩; have hk := HK.out.below hB; have HK := Lib.hid hk; obtain ⟨⟨x0, x1⟩, ⟨a0, a1, a2, a3⟩, ⟨q0, q1, q2, q3⟩, f0, f1, f2, f3⟩ := hk.all; clear hk hB))
    | (go_at_call 50; (refine (Hhin.out _).mono ?_; rintro e w' ⟨rfl, hB⟩; have hk := HK.out.below hB; have HK := Lib.hid hk; obtain ⟨⟨x0, x1⟩, ⟨a0, a1, a2, a3⟩, ⟨q0, q1, q2, q3⟩, f0, f1, f2, f3⟩ := hk.all; clear hk hB))
    | (go_at_call 49; (refine (Hhfin.out _).mono ?_; rintro e w' ⟨rfl, hB⟩; have hk := HK.out.below hB; have HK := Lib.hid hk; obtain ⟨⟨x0, x1⟩, ⟨a0, a1, a2, a3⟩, ⟨q0, q1, q2, q3⟩, f0, f1, f2, f3⟩ := hk.all; obtain ⟨⟨z0, z1, z2, z3⟩, _⟩ := spc_row (spc_put hk.res A B P Q); have HBZ := Lib.hid (below_set4 hk.bel (Nat.le_succ w.heap.size) (.int .i64 A) (.int .i64 B) (.bool P) (.bool Q)); have Z := Lib.hid (And.intro z0 (And.intro z1 (And.intro z2 z3))); clear z0 z1 z2 z3; clear hk hB))
    | fail "none")
  obtain ⟨z0, z1, z2, z3⟩ := Z.out
  exact bodyPost_ret (v := .agg #[.int .i64 A, .int .i64 B, .bool P, .bool Q]) (by simp [results, Tryz.results24, go_sem, z0, z1, z2, z3]) rfl ⟨rfl, HBZ.out⟩
set_option maxRecDepth 100000 in
set_option maxHeartbeats 600000 in
theorem ext_out_32_false_below (e1 e2 f1 f2 : Int) (lo hi : Int) (p q : Bool) (E F A B : Int) (P Q : Bool) (hrd : ∀ w, Calls Tryz.prog 29 #[.agg #[.int .i64 lo, .int .i64 hi, .bool p, .bool q]] w (Ret w (.agg #[.int .i64 E, .int .i64 F]))) (g1 : wrap64 (E + 4294967295) = e1) (g2 : wrap64 (e1 + 1) = e2) (g3 : wrap64 (F + 4294967295) = f1) (g4 : wrap64 (f1 + 1) = f2) (hsi : (∀ w, Calls Tryz.prog 30 #[.agg #[.int .i64 E, .int .i64 F]] w (Ret w (.bool false)))) (iv : Int → Bool) (i1 : iv 2147483647 = false) (i2 : iv (-1) = true) (hin2 : ∀ (b : Int) w, Calls Tryz.prog 50 #[.agg #[.int .i64 E, .int .i64 F], .int .i64 (-2147483648), .int .i64 b] w (Ret w (.bool (iv b)))) (hfin : (∀ w, Calls Tryz.prog 14 #[.int .i64 e2, .int .i64 f2] w (Ret w (.agg #[.int .i64 A, .int .i64 B, .bool P, .bool Q])))) (w : World) :
    Calls Tryz.prog 24 #[.int .i64 32, .bool false, .agg #[.int .i64 lo, .int .i64 hi, .bool p, .bool q]] w (Ret w (.agg #[.int .i64 A, .int .i64 B, .bool P, .bool Q])) := by
  have HRD := Lib.hid hrd
  have Hhsi := Lib.hid hsi
  have Hhin2 := Lib.hid hin2
  have Hhfin := Lib.hid hfin
  clear hrd hsi hin2 hfin
  have r1 : Row ((w.alloc (.cells #[.int .i64 lo, .int .i64 hi, .bool p, .bool q] 23)).alloc (.cells #[.int .i64 0, .int .i64 0, .bool false, .bool false] 23)) w.heap.size 23 (spc lo hi p q) := (Row.made w (spc lo hi p q) 23).alloc _
  have r2 : Row ((w.alloc (.cells #[.int .i64 lo, .int .i64 hi, .bool p, .bool q] 23)).alloc (.cells #[.int .i64 0, .int .i64 0, .bool false, .bool false] 23)) (w.heap.size + 1) 23 (spc 0 0 false false) := row2 w _ (spc 0 0 false false) _
  have b3 : Below w.heap.size w ((w.alloc (.cells #[.int .i64 lo, .int .i64 hi, .bool p, .bool q] 23)).alloc (.cells #[.int .i64 0, .int .i64 0, .bool false, .bool false] 23)) := (below_map w _).alloc (by simp) _
  have HR := Lib.hid (And.intro r1 (And.intro r2 b3))
  clear r1 r2 b3
  go_enter Tryz.func24, Tryz.ntmps24
  go_upto_region 2 with (go_at_call 29; refine (HRD.out _).mono ?_; rintro e w1 ⟨rfl, hB⟩)
  have hk : SK w w1.heap.size 47 E F lo hi p q (w1.alloc (.cells #[.int .i64 E, .int .i64 F] 47)) :=
    ⟨(HR.out.1.below hB HR.out.1.lt).alloc _, (HR.out.2.1.below hB HR.out.2.1.lt).alloc _, Row.made w1 (edc E F) 47, (HR.out.2.2.trans (hB.mono HR.out.2.2.size)).trans ((below_map w1 _).mono (Nat.le_trans HR.out.2.2.size hB.size))⟩
  clear hB
  obtain ⟨b, hb⟩ : ∃ b, b = w1.heap.size := ⟨_, rfl⟩
  rw [← hb] at hk
  simp only [← hb]
  clear hb
  generalize World.alloc _ _ = wc at hk ⊢
  have HK := Lib.hid hk
  obtain ⟨⟨x0, x1⟩, ⟨a0, a1, a2, a3⟩, ⟨q0, q1, q2, q3⟩, f0, f1, f2, f3⟩ := hk.all
  clear hk HR
  go_wp2_with (first
    | (go_at_call 30; (refine (Hhsi.out _).mono ?_; rintro e w' ⟨rfl, hB⟩; have hk := HK.out.below hB; have HK := Lib.hid hk; obtain ⟨⟨x0, x1⟩, ⟨a0, a1, a2, a3⟩, ⟨q0, q1, q2, q3⟩, f0, f1, f2, f3⟩ := hk.all; clear hk hB))
    | (go_at_call 50; (refine (Hhin2.out _ _).mono ?_; rintro e w' ⟨rfl, hB⟩; (first | rw [i1] | rw [i2]); have hk := HK.out.below hB; have HK := Lib.hid hk; obtain ⟨⟨x0, x1⟩, ⟨a0, a1, a2, a3⟩, ⟨q0, q1, q2, q3⟩, f0, f1, f2, f3⟩ := hk.all; clear hk hB))
    | (go_at_call 14; (refine (Hhfin.out _).mono ?_; rintro e w' ⟨rfl, hB⟩; have hk := HK.out.below hB; have HK := Lib.hid hk; obtain ⟨⟨x0, x1⟩, ⟨a0, a1, a2, a3⟩, ⟨q0, q1, q2, q3⟩, f0, f1, f2, f3⟩ := hk.all; obtain ⟨⟨z0, z1, z2, z3⟩, _⟩ := spc_row (spc_put hk.res A B P Q); have HBZ := Lib.hid (below_set4 hk.bel (Nat.le_succ w.heap.size) (.int .i64 A) (.int .i64 B) (.bool P) (.bool Q)); have Z := Lib.hid (And.intro z0 (And.intro z1 (And.intro z2 z3))); clear z0 z1 z2 z3; clear hk hB))
    | fail "none")
  obtain ⟨z0, z1, z2, z3⟩ := Z.out
  exact bodyPost_ret (v := .agg #[.int .i64 A, .int .i64 B, .bool P, .bool Q]) (by simp [results, Tryz.results24, go_sem, z0, z1, z2, z3]) rfl ⟨rfl, HBZ.out⟩
set_option maxRecDepth 100000 in
set_option maxHeartbeats 600000 in
theorem ext_out_32_false_any (lo hi : Int) (p q : Bool) (E F A B : Int) (P Q : Bool) (hrd : ∀ w, Calls Tryz.prog 29 #[.agg #[.int .i64 lo, .int .i64 hi, .bool p, .bool q]] w (Ret w (.agg #[.int .i64 E, .int .i64 F]))) (hsi : (∀ w, Calls Tryz.prog 30 #[.agg #[.int .i64 E, .int .i64 F]] w (Ret w (.bool false)))) (iv : Int → Bool) (i1 : iv 2147483647 = false) (i2 : iv (-1) = false) (hin2 : ∀ (b : Int) w, Calls Tryz.prog 50 #[.agg #[.int .i64 E, .int .i64 F], .int .i64 (-2147483648), .int .i64 b] w (Ret w (.bool (iv b)))) (hfin : (∀ w, Calls Tryz.prog 14 #[.int .i64 (-2147483648), .int .i64 2147483647] w (Ret w (.agg #[.int .i64 A, .int .i64 B, .bool P, .bool Q])))) (w : World) :
    Calls Tryz.prog 24 #[.int .i64 32, .bool false, .agg #[.int .i64 lo, .int .i64 hi, .bool p, .bool q]] w (Ret w (.agg #[.int .i64 A, .int .i64 B, .bool P, .bool Q])) := by
  have HRD := Lib.hid hrd
  have Hhsi := Lib.hid hsi
  have Hhin2 := Lib.hid hin2
  have Hhfin := Lib.hid hfin
  clear hrd hsi hin2 hfin
  have r1 : Row ((w.alloc (.cells #[.int .i64 lo, .int .i64 hi, .bool p, .bool q] 23)).alloc (.cells #[.int .i64 0, .int .i64 0, .bool false, .bool false] 23)) w.heap.size 23 (spc lo hi p q) := (Row.made w (spc lo hi p q) 23).alloc _
  have r2 : Row ((w.alloc (.cells #[.int .i64 lo, .int .i64 hi, .bool p, .bool q] 23)).alloc (.cells #[.int .i64 0, .int .i64 0, .bool false, .bool false] 23)) (w.heap.size + 1) 23 (spc 0 0 false false) := row2 w _ (spc 0 0 false false) _
  have b3 : Below w.heap.size w ((w.alloc (.cells #[.int .i64 lo, .int .i64 hi, .bool p, .bool q] 23)).alloc (.cells #[.int .i64 0, .int .i64 0, .bool false, .bool false] 23)) := (below_map w _).alloc (by simp) _
  have HR := Lib.hid (And.intro r1 (And.intro r2 b3))
  clear r1 r2 b3
  go_enter Tryz.func24, Tryz.ntmps24
  go_upto_region 2 with (go_at_call 29; refine (HRD.out _).mono ?_; rintro e w1 ⟨rfl, hB⟩)
  have hk : SK w w1.heap.size 47 E F lo hi p q (w1.alloc (.cells #[.int .i64 E, .int .i64 F] 47)) :=
    ⟨(HR.out.1.below hB HR.out.1.lt).alloc _, (HR.out.2.1.below hB HR.out.2.1.lt).alloc _, Row.made w1 (edc E F) 47, (HR.out.2.2.trans (hB.mono HR.out.2.2.size)).trans ((below_map w1 _).mono (Nat.le_trans HR.out.2.2.size hB.size))⟩
  clear hB
  obtain ⟨b, hb⟩ : ∃ b, b = w1.heap.size := ⟨_, rfl⟩
  rw [← hb] at hk
  simp only [← hb]
  clear hb
  generalize World.alloc _ _ = wc at hk ⊢
  have HK := Lib.hid hk
  obtain ⟨⟨x0, x1⟩, ⟨a0, a1, a2, a3⟩, ⟨q0, q1, q2, q3⟩, f0, f1, f2, f3⟩ := hk.all
  clear hk HR
  go_wp2_with (first
    | (go_at_call 30; (refine (Hhsi.out _).mono ?_; rintro e w' ⟨rfl, hB⟩; have hk := HK.out.below hB; have HK := Lib.hid hk; obtain ⟨⟨x0, x1⟩, ⟨a0, a1, a2, a3⟩, ⟨q0, q1, q2, q3⟩, f0, f1, f2, f3⟩ := hk.all; clear hk hB))
    | (go_at_call 50; (refine (Hhin2.out _ _).mono ?_; rintro e w' ⟨rfl, hB⟩; (first | rw [i1] | rw [i2]); have hk := HK.out.below hB; have HK := Lib.hid hk; obtain ⟨⟨x0, x1⟩, ⟨a0, a1, a2, a3⟩, ⟨q0, q1, q2, q3⟩, f0, f1, f2, f3⟩ := hk.all; clear hk hB))
    | (go_at_call 14; (refine (Hhfin.out _).mono ?_; rintro e w' ⟨rfl, hB⟩; have hk := HK.out.below hB; have HK := Lib.hid hk; obtain ⟨⟨x0, x1⟩, ⟨a0, a1, a2, a3⟩, ⟨q0, q1, q2, q3⟩, f0, f1, f2, f3⟩ := hk.all; obtain ⟨⟨z0, z1, z2, z3⟩, _⟩ := spc_row (spc_put hk.res A B P Q); have HBZ := Lib.hid (below_set4 hk.bel (Nat.le_succ w.heap.size) (.int .i64 A) (.int .i64 B) (.bool P) (.bool Q)); have Z := Lib.hid (And.intro z0 (And.intro z1 (And.intro z2 z3))); clear z0 z1 z2 z3; clear hk hB))
    | fail "none")
  obtain ⟨z0, z1, z2, z3⟩ := Z.out
  exact bodyPost_ret (v := .agg #[.int .i64 A, .int .i64 B, .bool P, .bool Q]) (by simp [results, Tryz.results24, go_sem, z0, z1, z2, z3]) rfl ⟨rfl, HBZ.out⟩
end Go.Proofs.YtcmplcdbkoodpaaGreatDoor
