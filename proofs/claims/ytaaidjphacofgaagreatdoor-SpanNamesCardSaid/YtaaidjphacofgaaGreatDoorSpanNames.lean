/-
  SpanNames: the spans' names and answers at some values; no condition, no parameter.
-/
import Derived.Test.YtaaidjphacofgaaGreatDoorBigR
import Derived.Test.YtaaidjphacofgaaGreatDoorBigP
import Derived.Test.YtaaidjphacofgaaGreatDoorFacts
import Derived.Test.YtaaidjphacofgaaGreatDoorTie
import Derived.Test.YtaaidjphacofgaaGreatDoorCards
import Derived.SevenTiedAt
import Derived.ProofKit
import Derived.LaidMore
import Derived.OpenShut
import Derived.Lib.SmallJoins
import Derived.Deep.Cut
namespace Go.Proofs.YtaaidjphacofgaaGreatDoor.spanNames
open Go.Joins Go.ChangeShapes Go.WideShapes Go.ChangeAt Go.RowKit
set_option linter.unusedVariables false
set_option linter.unusedSimpArgs false

/-- What a walk over a span keeps: the argument's box, the result's, the ends. -/
structure SK (w : World) (b : Nat) (et : TypeId) (E F lo hi : Int) (p q : Bool) (c : World) : Prop where
  src : Row c w.heap.size 23 (spc lo hi p q)
  res : Row c (w.heap.size + 1) 23 (spc 0 0 false false)
  ends : Row c b et (edc E F)
  bel : Below w.heap.size w c
theorem SK.below {w : World} {b : Nat} {et : TypeId} {E F lo hi : Int} {p q : Bool} {c c' : World} (h : SK w b et E F lo hi p q c) (hB : Below c.heap.size c c') : SK w b et E F lo hi p q c' :=
  ⟨h.src.below hB h.src.lt, h.res.below hB h.res.lt, h.ends.below hB h.ends.lt, h.bel.trans (hB.mono h.bel.size)⟩
theorem SK.all {w : World} {b : Nat} {et : TypeId} {E F lo hi : Int} {p q : Bool} {c : World} (h : SK w b et E F lo hi p q c) :
    (c.cell? ⟨b, 0, none⟩ = some (.int .i64 E) ∧ c.cell? ⟨b, 1, none⟩ = some (.int .i64 F)) ∧
    (c.cell? ⟨w.heap.size, 0, none⟩ = some (.int .i64 lo) ∧ c.cell? ⟨w.heap.size, 1, none⟩ = some (.int .i64 hi) ∧ c.cell? ⟨w.heap.size, 2, none⟩ = some (.bool p) ∧ c.cell? ⟨w.heap.size, 3, none⟩ = some (.bool q)) ∧
    (c.cell? ⟨w.heap.size + 1, 0, none⟩ = some (.int .i64 0) ∧ c.cell? ⟨w.heap.size + 1, 1, none⟩ = some (.int .i64 0) ∧ c.cell? ⟨w.heap.size + 1, 2, none⟩ = some (.bool false) ∧ c.cell? ⟨w.heap.size + 1, 3, none⟩ = some (.bool false)) ∧
    c.frozen? ⟨w.heap.size + 1, 0, none⟩ = false ∧ c.frozen? ⟨w.heap.size + 1, 1, none⟩ = false ∧ c.frozen? ⟨w.heap.size + 1, 2, none⟩ = false ∧ c.frozen? ⟨w.heap.size + 1, 3, none⟩ = false := by
  obtain ⟨e0, e1⟩ := (edc_row h.ends).1
  exact ⟨⟨e0, e1⟩, (spc_row h.src).1, (spc_row h.res)⟩
set_option maxRecDepth 100000 in
set_option maxHeartbeats 600000 in
theorem swap_one_16_true (s : Int) (lo hi : Int) (p q : Bool) (E F A B : Int) (P Q : Bool) (hrd : ∀ w, Calls Tryz.prog 14 #[.agg #[.int .i64 lo, .int .i64 hi, .bool p, .bool q]] w (Ret w (.agg #[.int .i64 E, .int .i64 F]))) (hsi : (∀ w, Calls Tryz.prog 17 #[.agg #[.int .i64 E, .int .i64 F]] w (Ret w (.bool true)))) (hw : (∀ w, Calls Tryz.prog 22 #[.int .i64 16, .bool true, .int .i64 E] w (Ret w (.int .i64 s)))) (hfin : (∀ w, Calls Tryz.prog 6 #[.int .i64 s, .int .i64 s] w (Ret w (.agg #[.int .i64 A, .int .i64 B, .bool P, .bool Q])))) (w : World) :
    Calls Tryz.prog 12 #[.int .i64 16, .bool true, .agg #[.int .i64 lo, .int .i64 hi, .bool p, .bool q]] w (Ret w (.agg #[.int .i64 A, .int .i64 B, .bool P, .bool Q])) := by
  have HRD := Lib.hid hrd
  have Hhsi := Lib.hid hsi
  have Hhw := Lib.hid hw
  have Hhfin := Lib.hid hfin
  clear hrd hsi hw hfin
  have r1 : Row ((w.alloc (.cells #[.int .i64 lo, .int .i64 hi, .bool p, .bool q] 23)).alloc (.cells #[.int .i64 0, .int .i64 0, .bool false, .bool false] 23)) w.heap.size 23 (spc lo hi p q) := (Row.made w (spc lo hi p q) 23).alloc _
  have r2 : Row ((w.alloc (.cells #[.int .i64 lo, .int .i64 hi, .bool p, .bool q] 23)).alloc (.cells #[.int .i64 0, .int .i64 0, .bool false, .bool false] 23)) (w.heap.size + 1) 23 (spc 0 0 false false) := row2 w _ (spc 0 0 false false) _
  have b3 : Below w.heap.size w ((w.alloc (.cells #[.int .i64 lo, .int .i64 hi, .bool p, .bool q] 23)).alloc (.cells #[.int .i64 0, .int .i64 0, .bool false, .bool false] 23)) := (below_map w _).alloc (by simp) _
  have HR := Lib.hid (And.intro r1 (And.intro r2 b3))
  clear r1 r2 b3
  go_enter Tryz.func12, Tryz.ntmps12
  go_upto_region 2 with (go_at_call 14; refine (HRD.out _).mono ?_; rintro e w1 ⟨rfl, hB⟩)
  have hk : SK w w1.heap.size 34 E F lo hi p q (w1.alloc (.cells #[.int .i64 E, .int .i64 F] 34)) :=
    ⟨(HR.out.1.below hB HR.out.1.lt).alloc _, (HR.out.2.1.below hB HR.out.2.1.lt).alloc _, Row.made w1 (edc E F) 34, (HR.out.2.2.trans (hB.mono HR.out.2.2.size)).trans ((below_map w1 _).mono (Nat.le_trans HR.out.2.2.size hB.size))⟩
  clear hB
  obtain ⟨b, hb⟩ : ∃ b, b = w1.heap.size := ⟨_, rfl⟩
  rw [← hb] at hk
  simp only [← hb]
  clear hb
  generalize World.alloc _ _ = wc at hk ⊢
  have HK := Lib.hid hk
  obtain ⟨⟨x0, x1⟩, ⟨a0, a1, a2, a3⟩, ⟨q0, q1, q2, q3⟩, f0, f1, f2, f3⟩ := hk.all
  clear hk HR
  go_wp2_with (first
    | (go_at_call 17; (refine (Hhsi.out _).mono ?_; rintro e w' ⟨rfl, hB⟩; have hk := HK.out.below hB; have HK := Lib.hid hk; obtain ⟨⟨x0, x1⟩, ⟨a0, a1, a2, a3⟩, ⟨q0, q1, q2, q3⟩, f0, f1, f2, f3⟩ := hk.all; clear hk hB))
    | (go_at_call 22; (refine (Hhw.out _).mono ?_; rintro e w' ⟨rfl, hB⟩; have hk := HK.out.below hB; have HK := Lib.hid hk; obtain ⟨⟨x0, x1⟩, ⟨a0, a1, a2, a3⟩, ⟨q0, q1, q2, q3⟩, f0, f1, f2, f3⟩ := hk.all; clear hk hB))
    | (go_at_call 6; (refine (Hhfin.out _).mono ?_; rintro e w' ⟨rfl, hB⟩; have hk := HK.out.below hB; have HK := Lib.hid hk; obtain ⟨⟨x0, x1⟩, ⟨a0, a1, a2, a3⟩, ⟨q0, q1, q2, q3⟩, f0, f1, f2, f3⟩ := hk.all; obtain ⟨⟨z0, z1, z2, z3⟩, _⟩ := spc_row (spc_put hk.res A B P Q); have HBZ := Lib.hid (below_set4 hk.bel (Nat.le_succ w.heap.size) (.int .i64 A) (.int .i64 B) (.bool P) (.bool Q)); have Z := Lib.hid (And.intro z0 (And.intro z1 (And.intro z2 z3))); clear z0 z1 z2 z3; clear hk hB))
    | fail "none")
  obtain ⟨z0, z1, z2, z3⟩ := Z.out
  exact bodyPost_ret (v := .agg #[.int .i64 A, .int .i64 B, .bool P, .bool Q]) (by simp [results, Tryz.results12, go_sem, z0, z1, z2, z3]) rfl ⟨rfl, HBZ.out⟩
set_option maxRecDepth 100000 in
set_option maxHeartbeats 600000 in
theorem ext_neg_8_true_below (e1 e2 f1 f2 : Int) (lo hi : Int) (p q : Bool) (E F A B : Int) (P Q : Bool) (hrd : ∀ w, Calls Tryz.prog 14 #[.agg #[.int .i64 lo, .int .i64 hi, .bool p, .bool q]] w (Ret w (.agg #[.int .i64 E, .int .i64 F]))) (h0 : decide (0 ≤ E) = false) (g1 : wrap64 (E + 4294967295) = e1) (g2 : wrap64 (e1 + 1) = e2) (g3 : wrap64 (F + 4294967295) = f1) (g4 : wrap64 (f1 + 1) = f2) (hsi : (∀ w, Calls Tryz.prog 17 #[.agg #[.int .i64 E, .int .i64 F]] w (Ret w (.bool false)))) (iv : Int → Bool) (i1 : iv 127 = true) (i2 : iv (-1) = true) (hin2 : ∀ (b : Int) w, Calls Tryz.prog 23 #[.agg #[.int .i64 E, .int .i64 F], .int .i64 (-128), .int .i64 b] w (Ret w (.bool (iv b)))) (hfin : (∀ w, Calls Tryz.prog 6 #[.int .i64 e2, .int .i64 f2] w (Ret w (.agg #[.int .i64 A, .int .i64 B, .bool P, .bool Q])))) (w : World) :
    Calls Tryz.prog 13 #[.int .i64 8, .bool true, .agg #[.int .i64 lo, .int .i64 hi, .bool p, .bool q]] w (Ret w (.agg #[.int .i64 A, .int .i64 B, .bool P, .bool Q])) := by
  have HRD := Lib.hid hrd
  have Hhsi := Lib.hid hsi
  have Hhin2 := Lib.hid hin2
  have Hhfin := Lib.hid hfin
  clear hrd hsi hin2 hfin
  have r1 : Row ((w.alloc (.cells #[.int .i64 lo, .int .i64 hi, .bool p, .bool q] 23)).alloc (.cells #[.int .i64 0, .int .i64 0, .bool false, .bool false] 23)) w.heap.size 23 (spc lo hi p q) := (Row.made w (spc lo hi p q) 23).alloc _
  have r2 : Row ((w.alloc (.cells #[.int .i64 lo, .int .i64 hi, .bool p, .bool q] 23)).alloc (.cells #[.int .i64 0, .int .i64 0, .bool false, .bool false] 23)) (w.heap.size + 1) 23 (spc 0 0 false false) := row2 w _ (spc 0 0 false false) _
  have b3 : Below w.heap.size w ((w.alloc (.cells #[.int .i64 lo, .int .i64 hi, .bool p, .bool q] 23)).alloc (.cells #[.int .i64 0, .int .i64 0, .bool false, .bool false] 23)) := (below_map w _).alloc (by simp) _
  have HR := Lib.hid (And.intro r1 (And.intro r2 b3))
  clear r1 r2 b3
  go_enter Tryz.func13, Tryz.ntmps13
  go_upto_region 2 with (go_at_call 14; refine (HRD.out _).mono ?_; rintro e w1 ⟨rfl, hB⟩)
  have hk : SK w w1.heap.size 34 E F lo hi p q (w1.alloc (.cells #[.int .i64 E, .int .i64 F] 34)) :=
    ⟨(HR.out.1.below hB HR.out.1.lt).alloc _, (HR.out.2.1.below hB HR.out.2.1.lt).alloc _, Row.made w1 (edc E F) 34, (HR.out.2.2.trans (hB.mono HR.out.2.2.size)).trans ((below_map w1 _).mono (Nat.le_trans HR.out.2.2.size hB.size))⟩
  clear hB
  obtain ⟨b, hb⟩ : ∃ b, b = w1.heap.size := ⟨_, rfl⟩
  rw [← hb] at hk
  simp only [← hb]
  clear hb
  generalize World.alloc _ _ = wc at hk ⊢
  have HK := Lib.hid hk
  obtain ⟨⟨x0, x1⟩, ⟨a0, a1, a2, a3⟩, ⟨q0, q1, q2, q3⟩, f0, f1, f2, f3⟩ := hk.all
  clear hk HR
  go_wp2_with (first
    | (go_at_call 17; (refine (Hhsi.out _).mono ?_; rintro e w' ⟨rfl, hB⟩; have hk := HK.out.below hB; have HK := Lib.hid hk; obtain ⟨⟨x0, x1⟩, ⟨a0, a1, a2, a3⟩, ⟨q0, q1, q2, q3⟩, f0, f1, f2, f3⟩ := hk.all; clear hk hB))
    | (go_at_call 23; (refine (Hhin2.out _ _).mono ?_; rintro e w' ⟨rfl, hB⟩; (first | rw [i1] | rw [i2]); have hk := HK.out.below hB; have HK := Lib.hid hk; obtain ⟨⟨x0, x1⟩, ⟨a0, a1, a2, a3⟩, ⟨q0, q1, q2, q3⟩, f0, f1, f2, f3⟩ := hk.all; clear hk hB))
    | (go_at_call 6; (refine (Hhfin.out _).mono ?_; rintro e w' ⟨rfl, hB⟩; have hk := HK.out.below hB; have HK := Lib.hid hk; obtain ⟨⟨x0, x1⟩, ⟨a0, a1, a2, a3⟩, ⟨q0, q1, q2, q3⟩, f0, f1, f2, f3⟩ := hk.all; obtain ⟨⟨z0, z1, z2, z3⟩, _⟩ := spc_row (spc_put hk.res A B P Q); have HBZ := Lib.hid (below_set4 hk.bel (Nat.le_succ w.heap.size) (.int .i64 A) (.int .i64 B) (.bool P) (.bool Q)); have Z := Lib.hid (And.intro z0 (And.intro z1 (And.intro z2 z3))); clear z0 z1 z2 z3; clear hk hB))
    | fail "none")
  obtain ⟨z0, z1, z2, z3⟩ := Z.out
  exact bodyPost_ret (v := .agg #[.int .i64 A, .int .i64 B, .bool P, .bool Q]) (by simp [results, Tryz.results13, go_sem, z0, z1, z2, z3]) rfl ⟨rfl, HBZ.out⟩

def Kp (w wx : World) : Prop := Row wx w.heap.size 23 (spc 0 0 true true) ∧ Below w.heap.size w wx
theorem Kp.below {w a b : World} (h : Kp w a) (hB : Below a.heap.size a b) : Kp w b := ⟨h.1.below hB h.1.lt, h.2.trans (hB.mono h.2.size)⟩
theorem Kp.drew {w a : World} (h : Kp w a) : Kp w a.drew := ⟨Row.drew h.1, h.2.drew⟩
theorem Kp.cells {w a : World} (h : Kp w a) : a.cell? ⟨w.heap.size, 0, none⟩ = some (.int .i64 0) ∧ a.cell? ⟨w.heap.size, 1, none⟩ = some (.int .i64 0) ∧ a.cell? ⟨w.heap.size, 2, none⟩ = some (.bool true) ∧ a.cell? ⟨w.heap.size, 3, none⟩ = some (.bool true) := by
  obtain ⟨q, _⟩ := spc_row h.1
  exact q
theorem rev16_1 (w : World) : Calls Tryz.prog 48 #[.int .u16 1] w fun e w' => e = .returned (.int .u16 256) ∧ w = w' := by
  go_enter Tryz.func48, Tryz.ntmps48
  go_wp2
  go_ret
  exact ⟨rfl, rfl⟩
theorem wswap (w : World) : Calls Tryz.prog 22 #[.int .i64 16, .bool true, .int .i64 1] w (Ret w (.int .i64 256)) := by
  go_enter Tryz.func22, Tryz.ntmps22
  go_wp2_with fail
  refine (rev16_1 _).mono ?_
  rintro e w1 ⟨rfl, rfl⟩
  go_wp2
  go_ret
  exact ⟨rfl, Below.refl _ _⟩
theorem swap_n (w : World) : Calls Tryz.prog 12 #[.int .i64 16, .bool true, .agg #[.int .i64 1, .int .i64 1, .bool false, .bool false]] w (Ret w (.agg #[.int .i64 256, .int .i64 256, .bool false, .bool false])) :=
  swap_one_16_true 256 1 1 false false 1 1 256 256 false false (fun w => read_of 1 1 false false w) (fun w => single_of 1 1 w) (fun w => wswap w) (fun w => of_of 256 256 w) w
theorem ext_n (w : World) : Calls Tryz.prog 13 #[.int .i64 8, .bool true, .agg #[.int .i64 (-2), .int .i64 (-1), .bool false, .bool false]] w (Ret w (.agg #[.int .i64 4294967294, .int .i64 4294967295, .bool false, .bool false])) :=
  ext_neg_8_true_below 4294967293 4294967294 4294967294 4294967295 (-2) (-1) false false (-2) (-1) 4294967294 4294967295 false false (fun w => read_of (-2) (-1) false false w) (by decide) (by unfold wrap64; omega) (by unfold wrap64; omega) (by unfold wrap64; omega) (by unfold wrap64; omega) (fun w => single_of (-2) (-1) w) (fun b => decide (-128 ≤ (-2 : Int)) && decide (-1 ≤ b)) (by decide) (by decide) (fun b w => in_of (-2) (-1) (-128) b w) (fun w => of_of 4294967294 4294967295 w) w

set_option maxRecDepth 100000 in
set_option maxHeartbeats 16000000 in
theorem walk (w : World) : Calls Tryz.prog 3 #[] w fun e w' => e = .returned (.bool true) ∧ Below w.heap.size w w' := by
  have haw : ∀ w, Calls Tryz.prog 4 #[] w (Ret w (.bool true)) := fun w => awake_of w
  have Haw := Lib.hid haw
  clear haw
  have hfu : ∀ w, Calls Tryz.prog 5 #[] w (Ret w (.agg #[.int .i64 0, .int .i64 0, .bool true, .bool true])) := fun w => full_of w
  have Hfu := Lib.hid hfu
  clear hfu
  have ho1 : ∀ w, Calls Tryz.prog 6 #[.int .i64 1, .int .i64 5] w (Ret w (.agg #[.int .i64 1, .int .i64 5, .bool false, .bool false])) := fun w => of_of 1 5 w
  have Ho1 := Lib.hid ho1
  clear ho1
  have ho2 : ∀ w, Calls Tryz.prog 6 #[.int .i64 5, .int .i64 1] w (Ret w (.agg #[.int .i64 0, .int .i64 0, .bool true, .bool true])) := fun w => of_of 5 1 w
  have Ho2 := Lib.hid ho2
  clear ho2
  have ho3 : ∀ w, Calls Tryz.prog 6 #[.int .i64 (-4611686018427387904), .int .i64 3] w (Ret w (.agg #[.int .i64 0, .int .i64 3, .bool true, .bool false])) := fun w => of_of (-4611686018427387904) 3 w
  have Ho3 := Lib.hid ho3
  clear ho3
  have ho4 : ∀ w, Calls Tryz.prog 6 #[.int .i64 4611686018427387904, .int .i64 4611686018427387904] w (Ret w (.agg #[.int .i64 1152921504606846976, .int .i64 0, .bool false, .bool true])) := fun w => of_of 4611686018427387904 4611686018427387904 w
  have Ho4 := Lib.hid ho4
  clear ho4
  have hh1 : ∀ w, Calls Tryz.prog 7 #[.agg #[.int .i64 3, .int .i64 1, .bool false, .bool false], .int .i64 9] w (Ret w (.bool true)) := fun w => has_of 3 1 false false 9 w
  have Hh1 := Lib.hid hh1
  clear hh1
  have hh2 : ∀ w, Calls Tryz.prog 7 #[.agg #[.int .i64 0, .int .i64 3, .bool true, .bool false], .int .i64 (-9223372036854775808)] w (Ret w (.bool true)) := fun w => has_of 0 3 true false (-9223372036854775808) w
  have Hh2 := Lib.hid hh2
  clear hh2
  have hh3 : ∀ w, Calls Tryz.prog 7 #[.agg #[.int .i64 1, .int .i64 3, .bool false, .bool false], .int .i64 4] w (Ret w (.bool false)) := fun w => has_of 1 3 false false 4 w
  have Hh3 := Lib.hid hh3
  clear hh3
  have hl1 : ∀ w, Calls Tryz.prog 8 #[.agg #[.int .i64 (-3), .int .i64 (-1), .bool false, .bool false]] w (Ret w (.agg #[.int .i64 4294967293, .int .i64 4294967295, .bool false, .bool false])) := fun w => slow_of (-3) (-1) false false w
  have Hl1 := Lib.hid hl1
  clear hl1
  have hl2 : ∀ w, Calls Tryz.prog 8 #[.agg #[.int .i64 (-1), .int .i64 1, .bool false, .bool false]] w (Ret w (.agg #[.int .i64 0, .int .i64 4294967295, .bool false, .bool false])) := fun w => slow_of (-1) 1 false false w
  have Hl2 := Lib.hid hl2
  clear hl2
  have hn1 : ∀ w, Calls Tryz.prog 9 #[.bool false, .agg #[.int .i64 1, .int .i64 9, .bool false, .bool false]] w (Ret w (.bool true)) := fun w => notzero_of false 1 9 false false w
  have Hn1 := Lib.hid hn1
  clear hn1
  have hn2 : ∀ w, Calls Tryz.prog 9 #[.bool true, .agg #[.int .i64 4294967296, .int .i64 4294967297, .bool false, .bool false]] w (Ret w (.bool false)) := fun w => notzero_of true 4294967296 4294967297 false false w
  have Hn2 := Lib.hid hn2
  clear hn2
  have hn3 : ∀ w, Calls Tryz.prog 9 #[.bool true, .agg #[.int .i64 (-9), .int .i64 (-1), .bool false, .bool false]] w (Ret w (.bool true)) := fun w => notzero_of true (-9) (-1) false false w
  have Hn3 := Lib.hid hn3
  clear hn3
  have ha1 : ∀ w, Calls Tryz.prog 10 #[.int .i64 1, .bool false, .agg #[.int .i64 0, .int .i64 5, .bool true, .bool false], .agg #[.int .i64 3, .int .i64 3, .bool false, .bool false]] w (Ret w (.agg #[.int .i64 0, .int .i64 8, .bool true, .bool false])) := fun w => alu_n1 w
  have Ha1 := Lib.hid ha1
  clear ha1
  have ha5 : ∀ w, Calls Tryz.prog 10 #[.int .i64 5, .bool false, .agg #[.int .i64 0, .int .i64 0, .bool true, .bool true], .agg #[.int .i64 1, .int .i64 8, .bool false, .bool false]] w (Ret w (.agg #[.int .i64 0, .int .i64 7, .bool false, .bool false])) := fun w => alu_n5 w
  have Ha5 := Lib.hid ha5
  clear ha5
  have ha13 : ∀ w, Calls Tryz.prog 10 #[.int .i64 13, .bool false, .agg #[.int .i64 (-8), .int .i64 8, .bool false, .bool false], .agg #[.int .i64 1, .int .i64 2, .bool false, .bool false]] w (Ret w (.agg #[.int .i64 (-4), .int .i64 4, .bool false, .bool false])) := fun w => alu_n13 w
  have Ha13 := Lib.hid ha13
  clear ha13
  have ha2 : ∀ w, Calls Tryz.prog 10 #[.int .i64 2, .bool true, .agg #[.int .i64 0, .int .i64 2, .bool false, .bool false], .agg #[.int .i64 1, .int .i64 1, .bool false, .bool false]] w (Ret w (.agg #[.int .i64 0, .int .i64 4294967295, .bool false, .bool false])) := fun w => alu_n2 w
  have Ha2 := Lib.hid ha2
  clear ha2
  have hb2 : ∀ w, Calls Tryz.prog 11 #[.int .i64 2, .bool false] w (Ret w (.agg #[.int .i64 0, .int .i64 65535, .bool false, .bool false])) := fun w => sbytes_of 2 false w
  have Hb2 := Lib.hid hb2
  clear hb2
  have hb3 : ∀ w, Calls Tryz.prog 11 #[.int .i64 3, .bool false] w (Ret w (.agg #[.int .i64 0, .int .i64 0, .bool true, .bool true])) := fun w => sbytes_of 3 false w
  have Hb3 := Lib.hid hb3
  clear hb3
  have hsw : ∀ w, Calls Tryz.prog 12 #[.int .i64 16, .bool true, .agg #[.int .i64 1, .int .i64 1, .bool false, .bool false]] w (Ret w (.agg #[.int .i64 256, .int .i64 256, .bool false, .bool false])) := fun w => swap_n w
  have Hsw := Lib.hid hsw
  clear hsw
  have hex : ∀ w, Calls Tryz.prog 13 #[.int .i64 8, .bool true, .agg #[.int .i64 (-2), .int .i64 (-1), .bool false, .bool false]] w (Ret w (.agg #[.int .i64 4294967294, .int .i64 4294967295, .bool false, .bool false])) := fun w => ext_n w
  have Hex := Lib.hid hex
  clear hex
  have k0 : Kp w (w.alloc (.cells #[.int .i64 0, .int .i64 0, .bool true, .bool true] 23)) := ⟨Row.made w (spc 0 0 true true) _, below_map _ _⟩
  have HK := Lib.hid k0
  clear k0
  go_enter Tryz.func3, Tryz.ntmps3
  go_upto_region 2 with fail
  generalize World.alloc _ _ = wa at HK ⊢
  go_cut [29] from 3 to 29 (fun s wx => s = .bool false ∧ Kp w wx)
  case first =>
    have HK0 := HK
    replace HK := Lib.hid HK.out.drew
    refine wp_region_held_drew (S := fun w' => w'.cell? ⟨w.heap.size, 0, none⟩ = some (.int .i64 0) ∧ w'.cell? ⟨w.heap.size, 1, none⟩ = some (.int .i64 0) ∧ w'.cell? ⟨w.heap.size, 2, none⟩ = some (.bool true) ∧ w'.cell? ⟨w.heap.size, 3, none⟩ = some (.bool true)) (by kernel_rfl) ?_ (fun hHeld => ?_)
    · (try dsimp only); exact HK.out.cells
    refine wpAnyH_ready (rs := [0]) (by kernel_rfl) (by simp) ?_
    refine AllReadyH.cons (o := ⟨some 3, _, _, _, _, _⟩) rfl (fun K hK => ?_) AllReadyH.nil
    go_simp
    go_at_call 4
    refine (Haw.out _).mono ?_
    rintro e wn ⟨rfl, hB⟩
    replace HK := Lib.hid (HK.out.below hB)
    clear hB
    refine hK.out _ _ ?_ (fun hHeld => ?_)
    · (try dsimp only); exact HK.out.cells
    clear hK K
    try simp only [Act.put, List.setIfInBounds_toArray, List.set_cons_zero, List.set_cons_succ]
    refine tkw 1 4 ?_
    refine tkw 2 5 ?_
    refine tkw 4 7 ?_
    refine wpAnyH_ready (rs := [3]) (by kernel_rfl) (by simp) ?_
    refine AllReadyH.cons (o := ⟨some 6, _, _, _, _, _⟩) rfl (fun K hK => ?_) AllReadyH.nil
    go_simp
    go_at_call 5
    refine (Hfu.out _).mono ?_
    rintro e wn ⟨rfl, hB⟩
    replace HK := Lib.hid (HK.out.below hB)
    clear hB
    refine hK.out _ _ ?_ (fun hHeld => ?_)
    · (try dsimp only); exact HK.out.cells
    clear hK K
    try simp only [Act.put, List.setIfInBounds_toArray, List.set_cons_zero, List.set_cons_succ]
    refine tkw 5 8 ?_
    refine tkw 6 9 ?_
    refine tkw 7 10 ?_
    refine tkw 9 12 ?_
    refine wpAnyH_ready (rs := [8]) (by kernel_rfl) (by simp) ?_
    refine AllReadyH.cons (o := ⟨some 11, _, _, _, _, _⟩) rfl (fun K hK => ?_) AllReadyH.nil
    go_simp
    go_at_call 6
    refine (Ho1.out _).mono ?_
    rintro e wn ⟨rfl, hB⟩
    replace HK := Lib.hid (HK.out.below hB)
    clear hB
    refine hK.out _ _ ?_ (fun hHeld => ?_)
    · (try dsimp only); exact HK.out.cells
    clear hK K
    try simp only [Act.put, List.setIfInBounds_toArray, List.set_cons_zero, List.set_cons_succ]
    refine tkw 10 13 ?_
    refine tkw 11 14 ?_
    refine tkw 12 15 ?_
    refine tkw 14 17 ?_
    refine wpAnyH_ready (rs := [13]) (by kernel_rfl) (by simp) ?_
    refine AllReadyH.cons (o := ⟨some 16, _, _, _, _, _⟩) rfl (fun K hK => ?_) AllReadyH.nil
    go_simp
    go_at_call 6
    refine (Ho2.out _).mono ?_
    rintro e wn ⟨rfl, hB⟩
    replace HK := Lib.hid (HK.out.below hB)
    clear hB
    refine hK.out _ _ ?_ (fun hHeld => ?_)
    · (try dsimp only); exact HK.out.cells
    clear hK K
    try simp only [Act.put, List.setIfInBounds_toArray, List.set_cons_zero, List.set_cons_succ]
    refine tkw 15 18 ?_
    refine tkw 16 19 ?_
    refine tkw 17 20 ?_
    refine tkw 19 22 ?_
    refine wpAnyH_ready (rs := [18]) (by kernel_rfl) (by simp) ?_
    refine AllReadyH.cons (o := ⟨some 21, _, _, _, _, _⟩) rfl (fun K hK => ?_) AllReadyH.nil
    go_simp
    go_at_call 6
    refine (Ho3.out _).mono ?_
    rintro e wn ⟨rfl, hB⟩
    replace HK := Lib.hid (HK.out.below hB)
    clear hB
    refine hK.out _ _ ?_ (fun hHeld => ?_)
    · (try dsimp only); exact HK.out.cells
    clear hK K
    try simp only [Act.put, List.setIfInBounds_toArray, List.set_cons_zero, List.set_cons_succ]
    refine tkw 20 23 ?_
    refine tkw 21 24 ?_
    refine tkw 22 25 ?_
    refine tkw 24 27 ?_
    refine wpAnyH_ready (rs := [23]) (by kernel_rfl) (by simp) ?_
    refine AllReadyH.cons (o := ⟨some 26, _, _, _, _, _⟩) rfl (fun K hK => ?_) AllReadyH.nil
    go_simp
    go_at_call 6
    refine (Ho4.out _).mono ?_
    rintro e wn ⟨rfl, hB⟩
    replace HK := Lib.hid (HK.out.below hB)
    clear hB
    refine hK.out _ _ ?_ (fun hHeld => ?_)
    · (try dsimp only); exact HK.out.cells
    clear hK K
    try simp only [Act.put, List.setIfInBounds_toArray, List.set_cons_zero, List.set_cons_succ]
    refine tkw 25 28 ?_
    refine tkw 26 29 ?_
    refine wpAnyH_done (by kernel_rfl) ?_ _
    clear hHeld
    go_wp2_with fail
    go_meet
    case rel => exact ⟨rfl, HK.out⟩
  case rest =>
    obtain ⟨rfl, hk⟩ := hcut
    clear HK
    have HK := Lib.hid hk
    obtain ⟨q0, q1, q2, q3⟩ := hk.cells
    clear hk
    go_upto_region 10 with ((first
      | (go_at_call 4; with_reducible refine (Haw.out _).mono ?_)
      | (go_at_call 5; with_reducible refine (Hfu.out _).mono ?_)
      | (go_at_call 6; with_reducible refine (Ho1.out _).mono ?_)
      | (go_at_call 6; with_reducible refine (Ho2.out _).mono ?_)
      | (go_at_call 6; with_reducible refine (Ho3.out _).mono ?_)
      | (go_at_call 6; with_reducible refine (Ho4.out _).mono ?_)
      | (go_at_call 7; with_reducible refine (Hh1.out _).mono ?_)
      | (go_at_call 7; with_reducible refine (Hh2.out _).mono ?_)
      | (go_at_call 7; with_reducible refine (Hh3.out _).mono ?_)
      | (go_at_call 8; with_reducible refine (Hl1.out _).mono ?_)
      | (go_at_call 8; with_reducible refine (Hl2.out _).mono ?_)
      | (go_at_call 9; with_reducible refine (Hn1.out _).mono ?_)
      | (go_at_call 9; with_reducible refine (Hn2.out _).mono ?_)
      | (go_at_call 9; with_reducible refine (Hn3.out _).mono ?_)
      | (go_at_call 10; with_reducible refine (Ha1.out _).mono ?_)
      | (go_at_call 10; with_reducible refine (Ha5.out _).mono ?_)
      | (go_at_call 10; with_reducible refine (Ha13.out _).mono ?_)
      | (go_at_call 10; with_reducible refine (Ha2.out _).mono ?_)
      | (go_at_call 11; with_reducible refine (Hb2.out _).mono ?_)
      | (go_at_call 11; with_reducible refine (Hb3.out _).mono ?_)
      | (go_at_call 12; with_reducible refine (Hsw.out _).mono ?_)
      | (go_at_call 13; with_reducible refine (Hex.out _).mono ?_)); rintro e wn ⟨rfl, hB⟩; have hk := HK.out.below hB; have HK := Lib.hid hk; obtain ⟨q0, q1, q2, q3⟩ := hk.cells; clear hk hB)
    go_cut [99] from 85 to 99 (fun s wx => s = .bool false ∧ Kp w wx)
    case first =>
      replace HK := Lib.hid HK.out.drew
      refine wp_region_held_drew (S := fun w' => w'.cell? ⟨w.heap.size, 0, none⟩ = some (.int .i64 0) ∧ w'.cell? ⟨w.heap.size, 1, none⟩ = some (.int .i64 0) ∧ w'.cell? ⟨w.heap.size, 2, none⟩ = some (.bool true) ∧ w'.cell? ⟨w.heap.size, 3, none⟩ = some (.bool true)) (by kernel_rfl) ?_ (fun hHeld => ?_)
      · (try dsimp only); exact HK.out.cells
      refine tkw 0 85 ?_
      refine tkw 1 86 ?_
      refine tkw 3 88 ?_
      refine wpAnyH_ready (rs := [2]) (by kernel_rfl) (by simp) ?_
      refine AllReadyH.cons (o := ⟨some 87, _, _, _, _, _⟩) rfl (fun K hK => ?_) AllReadyH.nil
      go_simp
      go_at_call 10
      refine (Ha2.out _).mono ?_
      rintro e wn ⟨rfl, hB⟩
      replace HK := Lib.hid (HK.out.below hB)
      clear hB
      refine hK.out _ _ ?_ (fun hHeld => ?_)
      · (try dsimp only); exact HK.out.cells
      clear hK K
      try simp only [Act.put, List.setIfInBounds_toArray, List.set_cons_zero, List.set_cons_succ]
      refine tkw 4 89 ?_
      refine tkw 5 90 ?_
      refine tkw 7 92 ?_
      refine wpAnyH_ready (rs := [6]) (by kernel_rfl) (by simp) ?_
      refine AllReadyH.cons (o := ⟨some 91, _, _, _, _, _⟩) rfl (fun K hK => ?_) AllReadyH.nil
      go_simp
      go_at_call 11
      refine (Hb2.out _).mono ?_
      rintro e wn ⟨rfl, hB⟩
      replace HK := Lib.hid (HK.out.below hB)
      clear hB
      refine hK.out _ _ ?_ (fun hHeld => ?_)
      · (try dsimp only); exact HK.out.cells
      clear hK K
      try simp only [Act.put, List.setIfInBounds_toArray, List.set_cons_zero, List.set_cons_succ]
      refine tkw 8 93 ?_
      refine tkw 9 94 ?_
      refine tkw 10 95 ?_
      refine tkw 12 97 ?_
      refine wpAnyH_ready (rs := [11]) (by kernel_rfl) (by simp) ?_
      refine AllReadyH.cons (o := ⟨some 96, _, _, _, _, _⟩) rfl (fun K hK => ?_) AllReadyH.nil
      go_simp
      go_at_call 11
      refine (Hb3.out _).mono ?_
      rintro e wn ⟨rfl, hB⟩
      replace HK := Lib.hid (HK.out.below hB)
      clear hB
      refine hK.out _ _ ?_ (fun hHeld => ?_)
      · (try dsimp only); exact HK.out.cells
      clear hK K
      try simp only [Act.put, List.setIfInBounds_toArray, List.set_cons_zero, List.set_cons_succ]
      refine tkw 13 98 ?_
      refine tkw 14 99 ?_
      refine wpAnyH_done (by kernel_rfl) ?_ _
      clear hHeld
      go_wp2_with fail
      go_meet
      case rel => exact ⟨rfl, HK.out⟩
    case rest =>
      obtain ⟨rfl, hk⟩ := hcut
      clear HK
      have HK := Lib.hid hk
      obtain ⟨q0, q1, q2, q3⟩ := hk.cells
      clear hk
      go_wp2_with ((first
      | (go_at_call 4; with_reducible refine (Haw.out _).mono ?_)
      | (go_at_call 5; with_reducible refine (Hfu.out _).mono ?_)
      | (go_at_call 6; with_reducible refine (Ho1.out _).mono ?_)
      | (go_at_call 6; with_reducible refine (Ho2.out _).mono ?_)
      | (go_at_call 6; with_reducible refine (Ho3.out _).mono ?_)
      | (go_at_call 6; with_reducible refine (Ho4.out _).mono ?_)
      | (go_at_call 7; with_reducible refine (Hh1.out _).mono ?_)
      | (go_at_call 7; with_reducible refine (Hh2.out _).mono ?_)
      | (go_at_call 7; with_reducible refine (Hh3.out _).mono ?_)
      | (go_at_call 8; with_reducible refine (Hl1.out _).mono ?_)
      | (go_at_call 8; with_reducible refine (Hl2.out _).mono ?_)
      | (go_at_call 9; with_reducible refine (Hn1.out _).mono ?_)
      | (go_at_call 9; with_reducible refine (Hn2.out _).mono ?_)
      | (go_at_call 9; with_reducible refine (Hn3.out _).mono ?_)
      | (go_at_call 10; with_reducible refine (Ha1.out _).mono ?_)
      | (go_at_call 10; with_reducible refine (Ha5.out _).mono ?_)
      | (go_at_call 10; with_reducible refine (Ha13.out _).mono ?_)
      | (go_at_call 10; with_reducible refine (Ha2.out _).mono ?_)
      | (go_at_call 11; with_reducible refine (Hb2.out _).mono ?_)
      | (go_at_call 11; with_reducible refine (Hb3.out _).mono ?_)
      | (go_at_call 12; with_reducible refine (Hsw.out _).mono ?_)
      | (go_at_call 13; with_reducible refine (Hex.out _).mono ?_)); rintro e wn ⟨rfl, hB⟩; have hk := HK.out.below hB; have HK := Lib.hid hk; obtain ⟨q0, q1, q2, q3⟩ := hk.cells; clear hk hB)
      go_ret
      exact ⟨rfl, HK.out.2⟩

theorem fact_wf : (Rows.spanNamesRow.wf (OpenSpec.ofChange Rows.spanNamesSpec)) = true := by kernel_rfl
theorem fact_rd : (Tryz.f3.params.all ((Tryz.prog).readableRec ·)) = true := by kernel_rfl
theorem fact_nt : (namedTie (Tryz.prog) Rows.spanNamesRow.named Rows.spanNamesSpec.vars) = true := by kernel_rfl
theorem fact_s1 : ((Rows.spanNamesRow.stops == [])) = true := by kernel_rfl
theorem fact_k1 : ((Rows.spanNamesRow.knobs == [])) = true := by kernel_rfl
theorem fact_ip : ((Rows.spanNamesRow.inPlace == (Tryz.prog).inPlace 3)) = true := by kernel_rfl
theorem fact_uf : ((Rows.spanNamesRow.unfollowed == (Tryz.prog).unfollowed 3)) = true := by kernel_rfl
theorem fact_rc : ((Rows.spanNamesRow.recurses == (Tryz.prog).recurses 3)) = true := by kernel_rfl
theorem fact_nm : ((Rows.spanNamesRow.named == (Tryz.prog).varsNamed 3)) = true := by kernel_rfl
theorem fact_mp : ((Rows.spanNamesRow.maps == (Tryz.f3.params.toList ++ Rows.spanNamesSpec.plain.varTypes (Tryz.prog)).any ((Tryz.prog).mapsRec ·))) = true := by kernel_rfl
theorem fact_if : ((Rows.spanNamesRow.ifaces == (Tryz.f3.params.toList ++ Rows.spanNamesSpec.plain.varTypes (Tryz.prog)).any ((Tryz.prog).ifacesRec ·))) = true := by kernel_rfl
theorem fact_mo : ((Rows.spanNamesRow.mapsOut == (Tryz.prog).mapsAmong Tryz.f3.resultTypes.toList)) = true := by kernel_rfl
theorem fact_lp : ((Rows.spanNamesRow.loops == (Tryz.f3.params.toList ++ Rows.spanNamesSpec.plain.varTypes (Tryz.prog)).any ((Tryz.prog).loopsFrom ·))) = true := by kernel_rfl
theorem fact_wk : ((Rows.spanNamesRow.wideKeys == (Tryz.f3.params.toList ++ Rows.spanNamesSpec.plain.varTypes (Tryz.prog) ++ Tryz.f3.resultTypes.toList).any ((Tryz.prog).wideKeysFrom ·))) = true := by kernel_rfl
theorem fact_vr : (Rows.spanNamesSpec.vars.all ((Tryz.prog).varReadable ·)) = true := by kernel_rfl
theorem fact_rr : (Tryz.f3.resultTypes.all (fun t => (Tryz.prog).readableRec t && decide (t < (Tryz.prog).types.size))) = true := by kernel_rfl
theorem fact_io : ((Rows.spanNamesRow.ifacesOut == Tryz.f3.resultTypes.toList.any ((Tryz.prog).ifacesRec ·))) = true := by kernel_rfl
theorem fact_ol : ((Rows.spanNamesRow.loopsOut == Tryz.f3.resultTypes.toList.any ((Tryz.prog).loopsFrom ·))) = true := by kernel_rfl
theorem fact_pk : ((Rows.spanNamesRow.plainKeys == (Tryz.prog).plainKeys)) = true := by kernel_rfl
theorem fact_st : (Rows.spanNamesRow.shortTexts.isNone) = true := by kernel_rfl
theorem fact_lf : ((Rows.spanNamesRow.lifted == (Tryz.prog).liftsFinal)) = true := by kernel_rfl
theorem fact_mk : (((Tryz.prog).make == some Rows.spanNamesRow.make)) = true := by kernel_rfl
theorem fact_kd : ((Rows.spanNamesRow.kinds == (if Rows.spanNamesRow.domain.isEmpty then [] else Tryz.f3.params.toList.map fun t => match (Tryz.prog).underlying t with | some (.int k) => some k | _ => none))) = true := by kernel_rfl
theorem fact_pn : ((Rows.spanNamesRow.pinned == Rows.spanNamesRow.pinnedBy)) = true := by kernel_rfl
theorem fact_vl : ((Rows.spanNamesRow.veiled == (Tryz.f3.params.toList ++ Rows.spanNamesSpec.plain.varTypes (Tryz.prog) ++ Tryz.f3.resultTypes.toList).any ((Tryz.prog).veiledRec ·))) = true := by kernel_rfl
theorem fact_vf : (Rows.spanNamesRow.veiledFits (Tryz.prog) Tryz.f3.params.toList (Tryz.f3.params.toList ++ Rows.spanNamesSpec.plain.varTypes (Tryz.prog) ++ Tryz.f3.resultTypes.toList)) = true := by kernel_rfl
set_option maxRecDepth 100000 in
theorem closed : joinedFacts Tryz.prog 3 Tryz.f3 Rows.spanNamesSpec Rows.spanNamesRow = true :=
  closed_of fact_wf fact_lo fact_mr fact_rd fact_nt fact_s1 fact_s2 fact_k1 fact_k2 fact_ip fact_uf fact_rc fact_nm fact_mp fact_if fact_mo fact_lp fact_wk fact_vr fact_rr fact_io fact_ol fact_pk fact_st fact_sh fact_me fact_lf fact_mk fact_kd fact_pn fact_vl fact_vf

theorem own : ownKnob Tryz.prog.godebug = none := by kernel_rfl
abbrev laidL : List (String × DataW Unit) := Rows.spanNamesRow.laid
theorem door_met (os : Os) (args : Array Value) : laidMetH Tryz.prog laidL ((World.doorLaid Tryz.prog 39 os).forCall (fun _ _ => 0) ⟨#[], args, []⟩).memory :=
  laidMetH_of_parts3 (fuel := 8) (laidMet_of_run' 8 (by kernel_rfl) (by kernel_rfl)) (by kernel_rfl) (by kernel_rfl)
set_option maxRecDepth 100000 in
theorem lifted (os : Os) (started : os.Started) (H : Type) (enc : TypeId × Value → H) :
    ReturnsInHanded {} Tryz.checked os 3 .any (fun w args => (Rows.spanNamesSpec.pre enc Tryz.prog Tryz.f3 [] false w args ∧ laidMetH Tryz.prog laidL w) ∧ sizedMet enc Tryz.prog Tryz.f3 (OpenSpec.ofChange Rows.spanNamesSpec) false w args)
      (Rows.spanNamesSpec.post enc Tryz.prog Tryz.f3 false true false false) := by
  refine returnsInHanded_of_change_and (C := Tryz.checked) (X := fun w _ => laidMetH Tryz.prog laidL w) (fun _ _ _ hh h => h.of_heap hh) own started (by kernel_rfl) Tryz.func3
    (ChangeSpec.witness_shaped (enc := enc) (C := Tryz.checked) (os := os) (X := fun w _ => laidMetH Tryz.prog laidL w) false (World.doorLaid Tryz.prog 39 os) #[] 8 rfl (World.shaped_of_RefB (by kernel_rfl) (by kernel_rfl)) (by kernel_rfl) (by kernel_rfl) (by kernel_rfl) (door_met os _)) ?_
  intro W base args ds gs before hval0 hW _ hsz0 hL0 _
  clear hL0
  have hval : ∀ (j : Nat) t v, Tryz.f3.params[j]? = some t → args[j]? = some v → Value.okWide Tryz.prog W .any base t v := hval0
  have hW' := hW
  obtain ⟨p, q, hA0, hV, rfl, hfz, hnd⟩ := hW
  have hA : DataW.TrodAll enc Tryz.prog W 0 (fun _ => true) true Tryz.f3.params.toList args.toList ds p := hA0
  rw [Tryz.params3] at hA hval
  obtain ⟨hargs, rfl, rfl⟩ := trodAll_nil hA
  obtain rfl : args = #[] := by cases args; simp_all
  refine (walk  W).mono fun e W' ⟨he, hb⟩ => ?_
  subst he
  exact ⟨_, rfl, law_post (tb := 4) (by kernel_rfl) (by kernel_rfl) rfl Tryz.underlying4 rfl (fun h => by subst h; rfl) hW' hb⟩

theorem proved : Rows.SpanNamesSaid :=
  OpenClaim.holds_of_wide 3 Tryz.f3 rfl rfl rfl rfl rfl rfl rfl ⟨rfl, rfl, rfl, rfl, rfl⟩ rfl rfl rfl rfl rfl (by kernel_rfl) Tryz.func3 closed
    (of_decide_eq_true (by kernel_rfl)) (by unfold Func.isWrapper; first | (rw [if_pos (by decide +kernel)]; kernel_rfl) | (rw [if_neg (by decide +kernel)]; exact ⟨rfl, rfl⟩))
    (fun os started H enc _ => lifted os started H enc)

theorem card : Rows.SpanNamesCardSaid :=
  Claim7.holds_tied_plain_at .later [] [.data, .data, .data, .data, .data, .data, .data] true Rows.spanNamesCard.stood.harness true
    proved (fun _ h => by cases h) (by as_aux_lemma => kernel_rfl) (fun _ h => by cases h) spanNames_row_tie rfl ⟨rfl, rfl⟩ (by as_aux_lemma => kernel_rfl) rfl
    (fun f fn hf hfn => by
      obtain rfl : f = 3 := Option.some.inj ((show Tryz.prog.funcNamed "warrant/warrantlaw06.SpanNames" = some 3 by as_aux_lemma => kernel_rfl).symm.trans hf) |>.symm
      obtain rfl : fn = Tryz.f3 := (Option.some.inj (Tryz.func3.symm.trans hfn)).symm
      exact ⟨by as_aux_lemma => kernel_rfl, fun j t ht => by
        rw [Tryz.params3] at ht
        simp at ht⟩)
    (by as_aux_lemma => kernel_rfl)
#print axioms card

end Go.Proofs.YtaaidjphacofgaaGreatDoor.spanNames
