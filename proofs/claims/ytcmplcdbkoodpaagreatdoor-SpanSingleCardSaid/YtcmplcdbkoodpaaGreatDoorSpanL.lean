/-
  Spans: the reference's from.
-/
import Derived.Test.YtcmplcdbkoodpaaGreatDoorSpanK
import Derived.Deep.Cut
namespace Go.Proofs.YtcmplcdbkoodpaaGreatDoor
open Go.RowKit
set_option linter.unusedVariables false

/-- The boxes that from has: its two numbers, its result, its span. -/
structure FW (b s : Nat) (w : World) (A : Bool) (a0 a1 : Int) (B : Bool) (b0 b1 : Int) (x y : Int) (p q : Bool) (w' : World) : Prop where
  rl : Row w' b 97 (wdc A a0 a1)
  rh : Row w' (b + 1) 97 (wdc B b0 b1)
  rr : Row w' (b + 2) 23 (spc 0 0 false false)
  rs : Row w' s 23 (spc x y p q)
  bel : Below b w w'
  lt : b + 2 < s
theorem FW.below {b s : Nat} {w w1 : World} {A : Bool} {a0 a1 : Int} {B : Bool} {b0 b1 : Int} {x y : Int} {p q : Bool} {w2 : World} (h : FW b s w A a0 a1 B b0 b1 x y p q w1) (hB : Below w1.heap.size w1 w2) : FW b s w A a0 a1 B b0 b1 x y p q w2 :=
  ⟨h.rl.below hB h.rl.lt, h.rh.below hB h.rh.lt, h.rr.below hB h.rr.lt, h.rs.below hB h.rs.lt, h.bel.trans (hB.mono (Nat.le_of_lt h.rl.lt)), h.lt⟩
theorem FW.drew {b s : Nat} {w w1 : World} {A : Bool} {a0 a1 : Int} {B : Bool} {b0 b1 : Int} {x y : Int} {p q : Bool} (h : FW b s w A a0 a1 B b0 b1 x y p q w1) : FW b s w A a0 a1 B b0 b1 x y p q w1.drew := h.below (Below.refl _ _).drew
theorem FW.set0 {b s : Nat} {w w1 : World} {A : Bool} {a0 a1 : Int} {B : Bool} {b0 b1 : Int} {x y : Int} {p q : Bool} (h : FW b s w A a0 a1 B b0 b1 x y p q w1) (v : Int) : FW b s w A a0 a1 B b0 b1 v y p q (w1.setCell ⟨s, 0, none⟩ (.int .i64 v)) :=
  ⟨h.rl.other _ _ (by have := h.lt; show b ≠ s; omega), h.rh.other _ _ (by have := h.lt; show b + 1 ≠ s; omega), h.rr.other _ _ (by have := h.lt; show b + 2 ≠ s; omega), h.rs.put 0 (.int .i64 v), h.bel.setCell (by have := h.lt; show b ≤ s; omega) _, h.lt⟩
theorem FW.set1 {b s : Nat} {w w1 : World} {A : Bool} {a0 a1 : Int} {B : Bool} {b0 b1 : Int} {x y : Int} {p q : Bool} (h : FW b s w A a0 a1 B b0 b1 x y p q w1) (v : Int) : FW b s w A a0 a1 B b0 b1 x v p q (w1.setCell ⟨s, 1, none⟩ (.int .i64 v)) :=
  ⟨h.rl.other _ _ (by have := h.lt; show b ≠ s; omega), h.rh.other _ _ (by have := h.lt; show b + 1 ≠ s; omega), h.rr.other _ _ (by have := h.lt; show b + 2 ≠ s; omega), h.rs.put 1 (.int .i64 v), h.bel.setCell (by have := h.lt; show b ≤ s; omega) _, h.lt⟩
theorem FW.set2 {b s : Nat} {w w1 : World} {A : Bool} {a0 a1 : Int} {B : Bool} {b0 b1 : Int} {x y : Int} {p q : Bool} (h : FW b s w A a0 a1 B b0 b1 x y p q w1) (v : Bool) : FW b s w A a0 a1 B b0 b1 x y v q (w1.setCell ⟨s, 2, none⟩ (.bool v)) :=
  ⟨h.rl.other _ _ (by have := h.lt; show b ≠ s; omega), h.rh.other _ _ (by have := h.lt; show b + 1 ≠ s; omega), h.rr.other _ _ (by have := h.lt; show b + 2 ≠ s; omega), h.rs.put 2 (.bool v), h.bel.setCell (by have := h.lt; show b ≤ s; omega) _, h.lt⟩
theorem FW.set3 {b s : Nat} {w w1 : World} {A : Bool} {a0 a1 : Int} {B : Bool} {b0 b1 : Int} {x y : Int} {p q : Bool} (h : FW b s w A a0 a1 B b0 b1 x y p q w1) (v : Bool) : FW b s w A a0 a1 B b0 b1 x y p v (w1.setCell ⟨s, 3, none⟩ (.bool v)) :=
  ⟨h.rl.other _ _ (by have := h.lt; show b ≠ s; omega), h.rh.other _ _ (by have := h.lt; show b + 1 ≠ s; omega), h.rr.other _ _ (by have := h.lt; show b + 2 ≠ s; omega), h.rs.put 3 (.bool v), h.bel.setCell (by have := h.lt; show b ≤ s; omega) _, h.lt⟩
theorem FW.lk {b s : Nat} {w w1 : World} {A : Bool} {a0 a1 : Int} {B : Bool} {b0 b1 : Int} {x y : Int} {p q : Bool} (h : FW b s w A a0 a1 B b0 b1 x y p q w1) : w1.cell? ⟨b, 0, none⟩ = some (.bool A) ∧ w1.cell? ⟨b, 1, none⟩ = some (.int .u32 a0) ∧ w1.cell? ⟨b, 2, none⟩ = some (.int .u32 a1) ∧ w1.cell? ⟨b, 3, none⟩ = some (.int .u32 0) ∧ w1.cell? ⟨b, 4, none⟩ = some (.int .u32 0) ∧ ∃ x, FW b s w A a0 a1 B b0 b1 x y p q w1 :=
  let ⟨⟨q0, q1, q2, q3, q4⟩, _⟩ := wdc_row h.rl
  ⟨q0, q1, q2, q3, q4, _, h⟩
theorem FW.hk {b s : Nat} {w w1 : World} {A : Bool} {a0 a1 : Int} {B : Bool} {b0 b1 : Int} {x y : Int} {p q : Bool} (h : FW b s w A a0 a1 B b0 b1 x y p q w1) : w1.cell? ⟨b + 1, 0, none⟩ = some (.bool B) ∧ w1.cell? ⟨b + 1, 1, none⟩ = some (.int .u32 b0) ∧ w1.cell? ⟨b + 1, 2, none⟩ = some (.int .u32 b1) ∧ w1.cell? ⟨b + 1, 3, none⟩ = some (.int .u32 0) ∧ w1.cell? ⟨b + 1, 4, none⟩ = some (.int .u32 0) ∧ ∃ y, FW b s w A a0 a1 B b0 b1 x y p q w1 :=
  let ⟨⟨q0, q1, q2, q3, q4⟩, _⟩ := wdc_row h.rh
  ⟨q0, q1, q2, q3, q4, _, h⟩
theorem FW.lo {b s : Nat} {w w1 : World} {A : Bool} {a0 a1 : Int} {B : Bool} {b0 b1 : Int} {y : Int} {p q : Bool} (h : w1.cell? ⟨b, 0, none⟩ = some (.bool A) ∧ w1.cell? ⟨b, 1, none⟩ = some (.int .u32 a0) ∧ w1.cell? ⟨b, 2, none⟩ = some (.int .u32 a1) ∧ w1.cell? ⟨b, 3, none⟩ = some (.int .u32 0) ∧ w1.cell? ⟨b, 4, none⟩ = some (.int .u32 0) ∧ ∃ x, FW b s w A a0 a1 B b0 b1 x y p q w1) : ∃ x, FW b s w A a0 a1 B b0 b1 x y p q w1 := h.2.2.2.2.2
theorem FW.ho {b s : Nat} {w w1 : World} {A : Bool} {a0 a1 : Int} {B : Bool} {b0 b1 : Int} {x : Int} {p q : Bool} (h : w1.cell? ⟨b + 1, 0, none⟩ = some (.bool B) ∧ w1.cell? ⟨b + 1, 1, none⟩ = some (.int .u32 b0) ∧ w1.cell? ⟨b + 1, 2, none⟩ = some (.int .u32 b1) ∧ w1.cell? ⟨b + 1, 3, none⟩ = some (.int .u32 0) ∧ w1.cell? ⟨b + 1, 4, none⟩ = some (.int .u32 0) ∧ ∃ y, FW b s w A a0 a1 B b0 b1 x y p q w1) : ∃ y, FW b s w A a0 a1 B b0 b1 x y p q w1 := h.2.2.2.2.2
theorem FW.lb {b s : Nat} {w w1 : World} {A : Bool} {a0 a1 : Int} {B : Bool} {b0 b1 : Int} {y : Int} {p q : Bool} {w2 : World} (h : w1.cell? ⟨b, 0, none⟩ = some (.bool A) ∧ w1.cell? ⟨b, 1, none⟩ = some (.int .u32 a0) ∧ w1.cell? ⟨b, 2, none⟩ = some (.int .u32 a1) ∧ w1.cell? ⟨b, 3, none⟩ = some (.int .u32 0) ∧ w1.cell? ⟨b, 4, none⟩ = some (.int .u32 0) ∧ ∃ x, FW b s w A a0 a1 B b0 b1 x y p q w1) (hB : Below w1.heap.size w1 w2) : w2.cell? ⟨b, 0, none⟩ = some (.bool A) ∧ w2.cell? ⟨b, 1, none⟩ = some (.int .u32 a0) ∧ w2.cell? ⟨b, 2, none⟩ = some (.int .u32 a1) ∧ w2.cell? ⟨b, 3, none⟩ = some (.int .u32 0) ∧ w2.cell? ⟨b, 4, none⟩ = some (.int .u32 0) ∧ ∃ x, FW b s w A a0 a1 B b0 b1 x y p q w2 := let ⟨_, h⟩ := h.2.2.2.2.2; (h.below hB).lk
theorem FW.hb {b s : Nat} {w w1 : World} {A : Bool} {a0 a1 : Int} {B : Bool} {b0 b1 : Int} {x : Int} {p q : Bool} {w2 : World} (h : w1.cell? ⟨b + 1, 0, none⟩ = some (.bool B) ∧ w1.cell? ⟨b + 1, 1, none⟩ = some (.int .u32 b0) ∧ w1.cell? ⟨b + 1, 2, none⟩ = some (.int .u32 b1) ∧ w1.cell? ⟨b + 1, 3, none⟩ = some (.int .u32 0) ∧ w1.cell? ⟨b + 1, 4, none⟩ = some (.int .u32 0) ∧ ∃ y, FW b s w A a0 a1 B b0 b1 x y p q w1) (hB : Below w1.heap.size w1 w2) : w2.cell? ⟨b + 1, 0, none⟩ = some (.bool B) ∧ w2.cell? ⟨b + 1, 1, none⟩ = some (.int .u32 b0) ∧ w2.cell? ⟨b + 1, 2, none⟩ = some (.int .u32 b1) ∧ w2.cell? ⟨b + 1, 3, none⟩ = some (.int .u32 0) ∧ w2.cell? ⟨b + 1, 4, none⟩ = some (.int .u32 0) ∧ ∃ y, FW b s w A a0 a1 B b0 b1 x y p q w2 := let ⟨_, h⟩ := h.2.2.2.2.2; (h.below hB).hk
theorem FW.lkx {b s : Nat} {w w1 : World} {A : Bool} {a0 a1 : Int} {B : Bool} {b0 b1 : Int} {x y : Int} {p q : Bool} (h : FW b s w A a0 a1 B b0 b1 x y p q w1) : w1.cell? ⟨b, 0, none⟩ = some (.bool A) ∧ w1.cell? ⟨b, 1, none⟩ = some (.int .u32 a0) ∧ w1.cell? ⟨b, 2, none⟩ = some (.int .u32 a1) ∧ w1.cell? ⟨b, 3, none⟩ = some (.int .u32 0) ∧ w1.cell? ⟨b, 4, none⟩ = some (.int .u32 0) ∧ FW b s w A a0 a1 B b0 b1 x y p q w1 :=
  let ⟨⟨q0, q1, q2, q3, q4⟩, _⟩ := wdc_row h.rl
  ⟨q0, q1, q2, q3, q4, h⟩
theorem FW.hkx {b s : Nat} {w w1 : World} {A : Bool} {a0 a1 : Int} {B : Bool} {b0 b1 : Int} {x y : Int} {p q : Bool} (h : FW b s w A a0 a1 B b0 b1 x y p q w1) : w1.cell? ⟨b + 1, 0, none⟩ = some (.bool B) ∧ w1.cell? ⟨b + 1, 1, none⟩ = some (.int .u32 b0) ∧ w1.cell? ⟨b + 1, 2, none⟩ = some (.int .u32 b1) ∧ w1.cell? ⟨b + 1, 3, none⟩ = some (.int .u32 0) ∧ w1.cell? ⟨b + 1, 4, none⟩ = some (.int .u32 0) ∧ FW b s w A a0 a1 B b0 b1 x y p q w1 :=
  let ⟨⟨q0, q1, q2, q3, q4⟩, _⟩ := wdc_row h.rh
  ⟨q0, q1, q2, q3, q4, h⟩
theorem FW.lox {b s : Nat} {w w1 : World} {A : Bool} {a0 a1 : Int} {B : Bool} {b0 b1 : Int} {x y : Int} {p q : Bool} (h : w1.cell? ⟨b, 0, none⟩ = some (.bool A) ∧ w1.cell? ⟨b, 1, none⟩ = some (.int .u32 a0) ∧ w1.cell? ⟨b, 2, none⟩ = some (.int .u32 a1) ∧ w1.cell? ⟨b, 3, none⟩ = some (.int .u32 0) ∧ w1.cell? ⟨b, 4, none⟩ = some (.int .u32 0) ∧ FW b s w A a0 a1 B b0 b1 x y p q w1) : FW b s w A a0 a1 B b0 b1 x y p q w1 := h.2.2.2.2.2
theorem FW.hox {b s : Nat} {w w1 : World} {A : Bool} {a0 a1 : Int} {B : Bool} {b0 b1 : Int} {x y : Int} {p q : Bool} (h : w1.cell? ⟨b + 1, 0, none⟩ = some (.bool B) ∧ w1.cell? ⟨b + 1, 1, none⟩ = some (.int .u32 b0) ∧ w1.cell? ⟨b + 1, 2, none⟩ = some (.int .u32 b1) ∧ w1.cell? ⟨b + 1, 3, none⟩ = some (.int .u32 0) ∧ w1.cell? ⟨b + 1, 4, none⟩ = some (.int .u32 0) ∧ FW b s w A a0 a1 B b0 b1 x y p q w1) : FW b s w A a0 a1 B b0 b1 x y p q w1 := h.2.2.2.2.2
theorem FW.lbx {b s : Nat} {w w1 : World} {A : Bool} {a0 a1 : Int} {B : Bool} {b0 b1 : Int} {x y : Int} {p q : Bool} {w2 : World} (h : w1.cell? ⟨b, 0, none⟩ = some (.bool A) ∧ w1.cell? ⟨b, 1, none⟩ = some (.int .u32 a0) ∧ w1.cell? ⟨b, 2, none⟩ = some (.int .u32 a1) ∧ w1.cell? ⟨b, 3, none⟩ = some (.int .u32 0) ∧ w1.cell? ⟨b, 4, none⟩ = some (.int .u32 0) ∧ FW b s w A a0 a1 B b0 b1 x y p q w1) (hB : Below w1.heap.size w1 w2) : w2.cell? ⟨b, 0, none⟩ = some (.bool A) ∧ w2.cell? ⟨b, 1, none⟩ = some (.int .u32 a0) ∧ w2.cell? ⟨b, 2, none⟩ = some (.int .u32 a1) ∧ w2.cell? ⟨b, 3, none⟩ = some (.int .u32 0) ∧ w2.cell? ⟨b, 4, none⟩ = some (.int .u32 0) ∧ FW b s w A a0 a1 B b0 b1 x y p q w2 := (h.2.2.2.2.2.below hB).lkx
theorem FW.hbx {b s : Nat} {w w1 : World} {A : Bool} {a0 a1 : Int} {B : Bool} {b0 b1 : Int} {x y : Int} {p q : Bool} {w2 : World} (h : w1.cell? ⟨b + 1, 0, none⟩ = some (.bool B) ∧ w1.cell? ⟨b + 1, 1, none⟩ = some (.int .u32 b0) ∧ w1.cell? ⟨b + 1, 2, none⟩ = some (.int .u32 b1) ∧ w1.cell? ⟨b + 1, 3, none⟩ = some (.int .u32 0) ∧ w1.cell? ⟨b + 1, 4, none⟩ = some (.int .u32 0) ∧ FW b s w A a0 a1 B b0 b1 x y p q w1) (hB : Below w1.heap.size w1 w2) : w2.cell? ⟨b + 1, 0, none⟩ = some (.bool B) ∧ w2.cell? ⟨b + 1, 1, none⟩ = some (.int .u32 b0) ∧ w2.cell? ⟨b + 1, 2, none⟩ = some (.int .u32 b1) ∧ w2.cell? ⟨b + 1, 3, none⟩ = some (.int .u32 0) ∧ w2.cell? ⟨b + 1, 4, none⟩ = some (.int .u32 0) ∧ FW b s w A a0 a1 B b0 b1 x y p q w2 := (h.2.2.2.2.2.below hB).hkx
set_option maxRecDepth 100000 in
set_option maxHeartbeats 16000000 in
theorem from_00 (A : Bool) (a0 a1 : Int) (B : Bool) (b0 b1 C1 C2 V1 V2 : Int) (hV1 : -9223372036854775808 ≤ V1 ∧ V1 ≤ 9223372036854775807) (hV2 : -9223372036854775808 ≤ V2 ∧ V2 ≤ 9223372036854775807)
    (hc1 : decide (0 ≤ C1) = false) (hc2 : decide (C2 ≤ 0) = false)
    (k1 : ∀ w, Calls Tryz.prog 149 #[.agg #[.bool A, .int .u32 a0, .int .u32 a1, .int .u32 0, .int .u32 0], wd (-1152921504606846976)] w (Ret w (.int .i64 C1)))
    (k2 : ∀ w, Calls Tryz.prog 149 #[.agg #[.bool B, .int .u32 b0, .int .u32 b1, .int .u32 0, .int .u32 0], wd 1152921504606846976] w (Ret w (.int .i64 C2)))
    (l1 : ∀ w, Calls Tryz.prog 151 #[.agg #[.bool A, .int .u32 a0, .int .u32 a1, .int .u32 0, .int .u32 0], wd 1152921504606846976] w (Ret w (wd V1)))
    (l2 : ∀ w, Calls Tryz.prog 152 #[.agg #[.bool B, .int .u32 b0, .int .u32 b1, .int .u32 0, .int .u32 0], wd (-1152921504606846976)] w (Ret w (wd V2))) (w : World) :
    Calls Tryz.prog 81 #[.agg #[.bool A, .int .u32 a0, .int .u32 a1, .int .u32 0, .int .u32 0], .agg #[.bool B, .int .u32 b0, .int .u32 b1, .int .u32 0, .int .u32 0]] w (Ret w (.agg #[.int .i64 0, .int .i64 0, .bool true, .bool true])) := by
  have hr0 : Row (((w.alloc (.cells #[.bool A, .int .u32 a0, .int .u32 a1, .int .u32 0, .int .u32 0] 97)).alloc (.cells #[.bool B, .int .u32 b0, .int .u32 b1, .int .u32 0, .int .u32 0] 97)).alloc (.cells #[.int .i64 0, .int .i64 0, .bool false, .bool false] 23)) w.heap.size 97 (wdc A a0 a1) := ((Row.made w (wdc A a0 a1) 97).alloc _).alloc _
  have hr1 : Row (((w.alloc (.cells #[.bool A, .int .u32 a0, .int .u32 a1, .int .u32 0, .int .u32 0] 97)).alloc (.cells #[.bool B, .int .u32 b0, .int .u32 b1, .int .u32 0, .int .u32 0] 97)).alloc (.cells #[.int .i64 0, .int .i64 0, .bool false, .bool false] 23)) (w.heap.size + 1) 97 (wdc B b0 b1) := (row2c w _ (wdc B b0 b1) _).alloc _
  have hr2 : Row (((w.alloc (.cells #[.bool A, .int .u32 a0, .int .u32 a1, .int .u32 0, .int .u32 0] 97)).alloc (.cells #[.bool B, .int .u32 b0, .int .u32 b1, .int .u32 0, .int .u32 0] 97)).alloc (.cells #[.int .i64 0, .int .i64 0, .bool false, .bool false] 23)) (w.heap.size + 2) 23 (spc 0 0 false false) := row3c w _ _ (spc 0 0 false false) _
  have hB0 : Below w.heap.size w (((w.alloc (.cells #[.bool A, .int .u32 a0, .int .u32 a1, .int .u32 0, .int .u32 0] 97)).alloc (.cells #[.bool B, .int .u32 b0, .int .u32 b1, .int .u32 0, .int .u32 0] 97)).alloc (.cells #[.int .i64 0, .int .i64 0, .bool false, .bool false] 23)) := (((Below.refl _ _).alloc (Nat.le_refl _) _).alloc (by simp) _).alloc (by simp; omega) _
  have HR0 := Lib.hid hr0
  have HR1 := Lib.hid hr1
  have HR2 := Lib.hid hr2
  have HB0 := Lib.hid hB0
  have K1 := Lib.hid k1
  have K2 := Lib.hid k2
  have L1 := Lib.hid l1
  have L2 := Lib.hid l2
  have HV1 := Lib.hid hV1
  have HV2 := Lib.hid hV2
  clear hr0 hr1 hr2 hB0 k1 k2 l1 l2 hV1 hV2
  go_enter Tryz.func81, Tryz.ntmps81
  go_wp2_with fail
  refine (reffull_of _).mono ?_
  rintro e w1 ⟨rfl, hB⟩
  have hfw : FW w.heap.size w1.heap.size w A a0 a1 B b0 b1 0 0 true true (w1.alloc (.cells #[.int .i64 0, .int .i64 0, .bool true, .bool true] 23)) :=
    ⟨(HR0.out.below hB HR0.out.lt).alloc _, (HR1.out.below hB HR1.out.lt).alloc _, (HR2.out.below hB HR2.out.lt).alloc _, Row.made w1 (spc 0 0 true true) _, (HB0.out.trans (hB.mono HB0.out.size)).alloc (Nat.le_of_lt (HR0.out.below hB HR0.out.lt).lt) _, (HR2.out.below hB HR2.out.lt).lt⟩
  have HF := Lib.hid hfw
  clear hB hfw
  go_upto_region 2 with fail
  generalize w1.alloc (.cells #[.int .i64 0, .int .i64 0, .bool true, .bool true] 23) = w2 at HF ⊢
  generalize w1.heap.size = s at HF ⊢
  have hks := HF.out.drew.lkx
  go_region_held3 (fun w' => w'.cell? ⟨w.heap.size, 0, none⟩ = some (.bool A) ∧ w'.cell? ⟨w.heap.size, 1, none⟩ = some (.int .u32 a0) ∧ w'.cell? ⟨w.heap.size, 2, none⟩ = some (.int .u32 a1) ∧ w'.cell? ⟨w.heap.size, 3, none⟩ = some (.int .u32 0) ∧ w'.cell? ⟨w.heap.size, 4, none⟩ = some (.int .u32 0) ∧ FW w.heap.size s w A a0 a1 B b0 b1 0 0 true true w') (first | assumption | exact FW.lbx (by assumption) hb)
    (first
      | (go_at_call 80; refine (wide_of _ (by decide) _).mono ?_; rintro e w' ⟨rfl, hb⟩)
      | (go_at_call 149; refine (K1.out _).mono ?_; rintro e w' ⟨rfl, hb⟩))
  rename_i hheld
  have HF := Lib.hid (FW.lox hheld)
  clear hks hheld
  obtain ⟨⟨c0, c1, c2, c3⟩, g0, g1, g2, g3⟩ := spc_row HF.out.rs
  clear c0 c1 c2 c3 g0 g1 g2 g3
  go_upto_region 5 with fail
  have hks := HF.out.drew.hkx
  go_region_held3 (fun w' => w'.cell? ⟨w.heap.size + 1, 0, none⟩ = some (.bool B) ∧ w'.cell? ⟨w.heap.size + 1, 1, none⟩ = some (.int .u32 b0) ∧ w'.cell? ⟨w.heap.size + 1, 2, none⟩ = some (.int .u32 b1) ∧ w'.cell? ⟨w.heap.size + 1, 3, none⟩ = some (.int .u32 0) ∧ w'.cell? ⟨w.heap.size + 1, 4, none⟩ = some (.int .u32 0) ∧ FW w.heap.size s w A a0 a1 B b0 b1 0 0 true true w') (first | assumption | exact FW.hbx (by assumption) hb)
    (first
      | (go_at_call 80; refine (wide_of _ (by decide) _).mono ?_; rintro e w' ⟨rfl, hb⟩)
      | (go_at_call 149; refine (K2.out _).mono ?_; rintro e w' ⟨rfl, hb⟩))
  rename_i hheld
  have HF := Lib.hid (FW.hox hheld)
  clear hks hheld
  obtain ⟨⟨c0, c1, c2, c3⟩, g0, g1, g2, g3⟩ := spc_row HF.out.rs
  obtain ⟨⟨d0, d1, d2, d3⟩, e0, e1, e2, e3⟩ := spc_row HF.out.rr
  obtain ⟨⟨z0, z1, z2, z3⟩, _⟩ := spc_row (spc_put HF.out.rr 0 0 true true)
  have HBZ := Lib.hid (below_set4 HF.out.bel (show w.heap.size ≤ w.heap.size + 2 by omega) (.int .i64 0) (.int .i64 0) (.bool true) (.bool true))
  have Z := Lib.hid (And.intro z0 (And.intro z1 (And.intro z2 z3)))
  clear HF z0 z1 z2 z3
  go_wp2
  obtain ⟨z0, z1, z2, z3⟩ := Z.out
  exact bodyPost_ret (v := .agg #[.int .i64 0, .int .i64 0, .bool true, .bool true]) (by simp [results, Tryz.results81, go_sem, z0, z1, z2, z3]) rfl ⟨rfl, HBZ.out⟩
set_option maxRecDepth 100000 in
set_option maxHeartbeats 16000000 in
theorem from_01 (A : Bool) (a0 a1 : Int) (B : Bool) (b0 b1 C1 C2 V1 V2 : Int) (hV1 : -9223372036854775808 ≤ V1 ∧ V1 ≤ 9223372036854775807) (hV2 : -9223372036854775808 ≤ V2 ∧ V2 ≤ 9223372036854775807)
    (hc1 : decide (0 ≤ C1) = false) (hc2 : decide (C2 ≤ 0) = true)
    (k1 : ∀ w, Calls Tryz.prog 149 #[.agg #[.bool A, .int .u32 a0, .int .u32 a1, .int .u32 0, .int .u32 0], wd (-1152921504606846976)] w (Ret w (.int .i64 C1)))
    (k2 : ∀ w, Calls Tryz.prog 149 #[.agg #[.bool B, .int .u32 b0, .int .u32 b1, .int .u32 0, .int .u32 0], wd 1152921504606846976] w (Ret w (.int .i64 C2)))
    (l1 : ∀ w, Calls Tryz.prog 151 #[.agg #[.bool A, .int .u32 a0, .int .u32 a1, .int .u32 0, .int .u32 0], wd 1152921504606846976] w (Ret w (wd V1)))
    (l2 : ∀ w, Calls Tryz.prog 152 #[.agg #[.bool B, .int .u32 b0, .int .u32 b1, .int .u32 0, .int .u32 0], wd (-1152921504606846976)] w (Ret w (wd V2))) (w : World) :
    Calls Tryz.prog 81 #[.agg #[.bool A, .int .u32 a0, .int .u32 a1, .int .u32 0, .int .u32 0], .agg #[.bool B, .int .u32 b0, .int .u32 b1, .int .u32 0, .int .u32 0]] w (Ret w (.agg #[.int .i64 0, .int .i64 V2, .bool true, .bool false])) := by
  have hr0 : Row (((w.alloc (.cells #[.bool A, .int .u32 a0, .int .u32 a1, .int .u32 0, .int .u32 0] 97)).alloc (.cells #[.bool B, .int .u32 b0, .int .u32 b1, .int .u32 0, .int .u32 0] 97)).alloc (.cells #[.int .i64 0, .int .i64 0, .bool false, .bool false] 23)) w.heap.size 97 (wdc A a0 a1) := ((Row.made w (wdc A a0 a1) 97).alloc _).alloc _
  have hr1 : Row (((w.alloc (.cells #[.bool A, .int .u32 a0, .int .u32 a1, .int .u32 0, .int .u32 0] 97)).alloc (.cells #[.bool B, .int .u32 b0, .int .u32 b1, .int .u32 0, .int .u32 0] 97)).alloc (.cells #[.int .i64 0, .int .i64 0, .bool false, .bool false] 23)) (w.heap.size + 1) 97 (wdc B b0 b1) := (row2c w _ (wdc B b0 b1) _).alloc _
  have hr2 : Row (((w.alloc (.cells #[.bool A, .int .u32 a0, .int .u32 a1, .int .u32 0, .int .u32 0] 97)).alloc (.cells #[.bool B, .int .u32 b0, .int .u32 b1, .int .u32 0, .int .u32 0] 97)).alloc (.cells #[.int .i64 0, .int .i64 0, .bool false, .bool false] 23)) (w.heap.size + 2) 23 (spc 0 0 false false) := row3c w _ _ (spc 0 0 false false) _
  have hB0 : Below w.heap.size w (((w.alloc (.cells #[.bool A, .int .u32 a0, .int .u32 a1, .int .u32 0, .int .u32 0] 97)).alloc (.cells #[.bool B, .int .u32 b0, .int .u32 b1, .int .u32 0, .int .u32 0] 97)).alloc (.cells #[.int .i64 0, .int .i64 0, .bool false, .bool false] 23)) := (((Below.refl _ _).alloc (Nat.le_refl _) _).alloc (by simp) _).alloc (by simp; omega) _
  have HR0 := Lib.hid hr0
  have HR1 := Lib.hid hr1
  have HR2 := Lib.hid hr2
  have HB0 := Lib.hid hB0
  have K1 := Lib.hid k1
  have K2 := Lib.hid k2
  have L1 := Lib.hid l1
  have L2 := Lib.hid l2
  have HV1 := Lib.hid hV1
  have HV2 := Lib.hid hV2
  clear hr0 hr1 hr2 hB0 k1 k2 l1 l2 hV1 hV2
  go_enter Tryz.func81, Tryz.ntmps81
  go_wp2_with fail
  refine (reffull_of _).mono ?_
  rintro e w1 ⟨rfl, hB⟩
  have hfw : FW w.heap.size w1.heap.size w A a0 a1 B b0 b1 0 0 true true (w1.alloc (.cells #[.int .i64 0, .int .i64 0, .bool true, .bool true] 23)) :=
    ⟨(HR0.out.below hB HR0.out.lt).alloc _, (HR1.out.below hB HR1.out.lt).alloc _, (HR2.out.below hB HR2.out.lt).alloc _, Row.made w1 (spc 0 0 true true) _, (HB0.out.trans (hB.mono HB0.out.size)).alloc (Nat.le_of_lt (HR0.out.below hB HR0.out.lt).lt) _, (HR2.out.below hB HR2.out.lt).lt⟩
  have HF := Lib.hid hfw
  clear hB hfw
  go_upto_region 2 with fail
  generalize w1.alloc (.cells #[.int .i64 0, .int .i64 0, .bool true, .bool true] 23) = w2 at HF ⊢
  generalize w1.heap.size = s at HF ⊢
  have hks := HF.out.drew.lkx
  go_region_held3 (fun w' => w'.cell? ⟨w.heap.size, 0, none⟩ = some (.bool A) ∧ w'.cell? ⟨w.heap.size, 1, none⟩ = some (.int .u32 a0) ∧ w'.cell? ⟨w.heap.size, 2, none⟩ = some (.int .u32 a1) ∧ w'.cell? ⟨w.heap.size, 3, none⟩ = some (.int .u32 0) ∧ w'.cell? ⟨w.heap.size, 4, none⟩ = some (.int .u32 0) ∧ FW w.heap.size s w A a0 a1 B b0 b1 0 0 true true w') (first | assumption | exact FW.lbx (by assumption) hb)
    (first
      | (go_at_call 80; refine (wide_of _ (by decide) _).mono ?_; rintro e w' ⟨rfl, hb⟩)
      | (go_at_call 149; refine (K1.out _).mono ?_; rintro e w' ⟨rfl, hb⟩))
  rename_i hheld
  have HF := Lib.hid (FW.lox hheld)
  clear hks hheld
  obtain ⟨⟨c0, c1, c2, c3⟩, g0, g1, g2, g3⟩ := spc_row HF.out.rs
  clear c0 c1 c2 c3 g0 g1 g2 g3
  go_upto_region 5 with fail
  have hks := HF.out.drew.hkx
  go_region_held3 (fun w' => w'.cell? ⟨w.heap.size + 1, 0, none⟩ = some (.bool B) ∧ w'.cell? ⟨w.heap.size + 1, 1, none⟩ = some (.int .u32 b0) ∧ w'.cell? ⟨w.heap.size + 1, 2, none⟩ = some (.int .u32 b1) ∧ w'.cell? ⟨w.heap.size + 1, 3, none⟩ = some (.int .u32 0) ∧ w'.cell? ⟨w.heap.size + 1, 4, none⟩ = some (.int .u32 0) ∧ FW w.heap.size s w A a0 a1 B b0 b1 0 0 true true w') (first | assumption | exact FW.hbx (by assumption) hb)
    (first
      | (go_at_call 80; refine (wide_of _ (by decide) _).mono ?_; rintro e w' ⟨rfl, hb⟩)
      | (go_at_call 149; refine (K2.out _).mono ?_; rintro e w' ⟨rfl, hb⟩))
  rename_i hheld
  have HF := Lib.hid (FW.hox hheld)
  clear hks hheld
  obtain ⟨⟨c0, c1, c2, c3⟩, g0, g1, g2, g3⟩ := spc_row HF.out.rs
  go_upto_region 7 with fail
  clear c0 c1 c2 c3 g0 g1 g2 g3
  have HF := Lib.hid (HF.out.set3 false)
  generalize World.setCell _ _ _ = w3 at HF ⊢
  have hks := HF.out.drew.hk
  go_region_held3 (fun w' => w'.cell? ⟨w.heap.size + 1, 0, none⟩ = some (.bool B) ∧ w'.cell? ⟨w.heap.size + 1, 1, none⟩ = some (.int .u32 b0) ∧ w'.cell? ⟨w.heap.size + 1, 2, none⟩ = some (.int .u32 b1) ∧ w'.cell? ⟨w.heap.size + 1, 3, none⟩ = some (.int .u32 0) ∧ w'.cell? ⟨w.heap.size + 1, 4, none⟩ = some (.int .u32 0) ∧ ∃ y, FW w.heap.size s w A a0 a1 B b0 b1 0 y true false w') (first | assumption | exact FW.hb (by assumption) hb | exact hstored)
    (first
      | (go_at_call 80; refine (wide_of _ (by decide) _).mono ?_; rintro e w' ⟨rfl, hb⟩)
      | (go_at_call 152; refine (L2.out _).mono ?_; rintro e w' ⟨rfl, hb⟩)
      | (go_at_call 150; refine (number_of _ HV2.out _).mono ?_; rintro e w' ⟨rfl, hb⟩; obtain ⟨xx, hl⟩ := FW.ho (FW.hb (by assumption) hb); have hstored := (hl.set1 V2).hk; obtain ⟨⟨c0, c1, c2, c3⟩, g0, g1, g2, g3⟩ := spc_row hl.rs))
  rename_i hheld
  have HF := Lib.hid (hl.set1 V2)
  clear hheld hstored hks c0 c1 c2 c3 g0 g1 g2 g3 hl
  generalize World.setCell _ _ _ = w4 at HF ⊢
  obtain ⟨⟨c0, c1, c2, c3⟩, g0, g1, g2, g3⟩ := spc_row HF.out.rs
  obtain ⟨⟨d0, d1, d2, d3⟩, e0, e1, e2, e3⟩ := spc_row HF.out.rr
  obtain ⟨⟨z0, z1, z2, z3⟩, _⟩ := spc_row (spc_put HF.out.rr 0 V2 true false)
  have HBZ := Lib.hid (below_set4 HF.out.bel (show w.heap.size ≤ w.heap.size + 2 by omega) (.int .i64 0) (.int .i64 V2) (.bool true) (.bool false))
  have Z := Lib.hid (And.intro z0 (And.intro z1 (And.intro z2 z3)))
  clear HF z0 z1 z2 z3
  go_wp2
  obtain ⟨z0, z1, z2, z3⟩ := Z.out
  exact bodyPost_ret (v := .agg #[.int .i64 0, .int .i64 V2, .bool true, .bool false]) (by simp [results, Tryz.results81, go_sem, z0, z1, z2, z3]) rfl ⟨rfl, HBZ.out⟩
set_option maxRecDepth 100000 in
set_option maxHeartbeats 16000000 in
theorem from_10 (A : Bool) (a0 a1 : Int) (B : Bool) (b0 b1 C1 C2 V1 V2 : Int) (hV1 : -9223372036854775808 ≤ V1 ∧ V1 ≤ 9223372036854775807) (hV2 : -9223372036854775808 ≤ V2 ∧ V2 ≤ 9223372036854775807)
    (hc1 : decide (0 ≤ C1) = true) (hc2 : decide (C2 ≤ 0) = false)
    (k1 : ∀ w, Calls Tryz.prog 149 #[.agg #[.bool A, .int .u32 a0, .int .u32 a1, .int .u32 0, .int .u32 0], wd (-1152921504606846976)] w (Ret w (.int .i64 C1)))
    (k2 : ∀ w, Calls Tryz.prog 149 #[.agg #[.bool B, .int .u32 b0, .int .u32 b1, .int .u32 0, .int .u32 0], wd 1152921504606846976] w (Ret w (.int .i64 C2)))
    (l1 : ∀ w, Calls Tryz.prog 151 #[.agg #[.bool A, .int .u32 a0, .int .u32 a1, .int .u32 0, .int .u32 0], wd 1152921504606846976] w (Ret w (wd V1)))
    (l2 : ∀ w, Calls Tryz.prog 152 #[.agg #[.bool B, .int .u32 b0, .int .u32 b1, .int .u32 0, .int .u32 0], wd (-1152921504606846976)] w (Ret w (wd V2))) (w : World) :
    Calls Tryz.prog 81 #[.agg #[.bool A, .int .u32 a0, .int .u32 a1, .int .u32 0, .int .u32 0], .agg #[.bool B, .int .u32 b0, .int .u32 b1, .int .u32 0, .int .u32 0]] w (Ret w (.agg #[.int .i64 V1, .int .i64 0, .bool false, .bool true])) := by
  have hr0 : Row (((w.alloc (.cells #[.bool A, .int .u32 a0, .int .u32 a1, .int .u32 0, .int .u32 0] 97)).alloc (.cells #[.bool B, .int .u32 b0, .int .u32 b1, .int .u32 0, .int .u32 0] 97)).alloc (.cells #[.int .i64 0, .int .i64 0, .bool false, .bool false] 23)) w.heap.size 97 (wdc A a0 a1) := ((Row.made w (wdc A a0 a1) 97).alloc _).alloc _
  have hr1 : Row (((w.alloc (.cells #[.bool A, .int .u32 a0, .int .u32 a1, .int .u32 0, .int .u32 0] 97)).alloc (.cells #[.bool B, .int .u32 b0, .int .u32 b1, .int .u32 0, .int .u32 0] 97)).alloc (.cells #[.int .i64 0, .int .i64 0, .bool false, .bool false] 23)) (w.heap.size + 1) 97 (wdc B b0 b1) := (row2c w _ (wdc B b0 b1) _).alloc _
  have hr2 : Row (((w.alloc (.cells #[.bool A, .int .u32 a0, .int .u32 a1, .int .u32 0, .int .u32 0] 97)).alloc (.cells #[.bool B, .int .u32 b0, .int .u32 b1, .int .u32 0, .int .u32 0] 97)).alloc (.cells #[.int .i64 0, .int .i64 0, .bool false, .bool false] 23)) (w.heap.size + 2) 23 (spc 0 0 false false) := row3c w _ _ (spc 0 0 false false) _
  have hB0 : Below w.heap.size w (((w.alloc (.cells #[.bool A, .int .u32 a0, .int .u32 a1, .int .u32 0, .int .u32 0] 97)).alloc (.cells #[.bool B, .int .u32 b0, .int .u32 b1, .int .u32 0, .int .u32 0] 97)).alloc (.cells #[.int .i64 0, .int .i64 0, .bool false, .bool false] 23)) := (((Below.refl _ _).alloc (Nat.le_refl _) _).alloc (by simp) _).alloc (by simp; omega) _
  have HR0 := Lib.hid hr0
  have HR1 := Lib.hid hr1
  have HR2 := Lib.hid hr2
  have HB0 := Lib.hid hB0
  have K1 := Lib.hid k1
  have K2 := Lib.hid k2
  have L1 := Lib.hid l1
  have L2 := Lib.hid l2
  have HV1 := Lib.hid hV1
  have HV2 := Lib.hid hV2
  clear hr0 hr1 hr2 hB0 k1 k2 l1 l2 hV1 hV2
  go_enter Tryz.func81, Tryz.ntmps81
  go_wp2_with fail
  refine (reffull_of _).mono ?_
  rintro e w1 ⟨rfl, hB⟩
  have hfw : FW w.heap.size w1.heap.size w A a0 a1 B b0 b1 0 0 true true (w1.alloc (.cells #[.int .i64 0, .int .i64 0, .bool true, .bool true] 23)) :=
    ⟨(HR0.out.below hB HR0.out.lt).alloc _, (HR1.out.below hB HR1.out.lt).alloc _, (HR2.out.below hB HR2.out.lt).alloc _, Row.made w1 (spc 0 0 true true) _, (HB0.out.trans (hB.mono HB0.out.size)).alloc (Nat.le_of_lt (HR0.out.below hB HR0.out.lt).lt) _, (HR2.out.below hB HR2.out.lt).lt⟩
  have HF := Lib.hid hfw
  clear hB hfw
  go_upto_region 2 with fail
  generalize w1.alloc (.cells #[.int .i64 0, .int .i64 0, .bool true, .bool true] 23) = w2 at HF ⊢
  generalize w1.heap.size = s at HF ⊢
  have hks := HF.out.drew.lkx
  go_region_held3 (fun w' => w'.cell? ⟨w.heap.size, 0, none⟩ = some (.bool A) ∧ w'.cell? ⟨w.heap.size, 1, none⟩ = some (.int .u32 a0) ∧ w'.cell? ⟨w.heap.size, 2, none⟩ = some (.int .u32 a1) ∧ w'.cell? ⟨w.heap.size, 3, none⟩ = some (.int .u32 0) ∧ w'.cell? ⟨w.heap.size, 4, none⟩ = some (.int .u32 0) ∧ FW w.heap.size s w A a0 a1 B b0 b1 0 0 true true w') (first | assumption | exact FW.lbx (by assumption) hb)
    (first
      | (go_at_call 80; refine (wide_of _ (by decide) _).mono ?_; rintro e w' ⟨rfl, hb⟩)
      | (go_at_call 149; refine (K1.out _).mono ?_; rintro e w' ⟨rfl, hb⟩))
  rename_i hheld
  have HF := Lib.hid (FW.lox hheld)
  clear hks hheld
  obtain ⟨⟨c0, c1, c2, c3⟩, g0, g1, g2, g3⟩ := spc_row HF.out.rs
  go_upto_region 4 with fail
  clear c0 c1 c2 c3 g0 g1 g2 g3
  have HF := Lib.hid (HF.out.set2 false)
  generalize World.setCell _ _ _ = w3 at HF ⊢
  have hks := HF.out.drew.lk
  go_region_held3 (fun w' => w'.cell? ⟨w.heap.size, 0, none⟩ = some (.bool A) ∧ w'.cell? ⟨w.heap.size, 1, none⟩ = some (.int .u32 a0) ∧ w'.cell? ⟨w.heap.size, 2, none⟩ = some (.int .u32 a1) ∧ w'.cell? ⟨w.heap.size, 3, none⟩ = some (.int .u32 0) ∧ w'.cell? ⟨w.heap.size, 4, none⟩ = some (.int .u32 0) ∧ ∃ x, FW w.heap.size s w A a0 a1 B b0 b1 x 0 false true w') (first | assumption | exact FW.lb (by assumption) hb | exact hstored)
    (first
      | (go_at_call 80; refine (wide_of _ (by decide) _).mono ?_; rintro e w' ⟨rfl, hb⟩)
      | (go_at_call 151; refine (L1.out _).mono ?_; rintro e w' ⟨rfl, hb⟩)
      | (go_at_call 150; refine (number_of _ HV1.out _).mono ?_; rintro e w' ⟨rfl, hb⟩; obtain ⟨xx, hl⟩ := FW.lo (FW.lb (by assumption) hb); have hstored := (hl.set0 V1).lk; obtain ⟨⟨c0, c1, c2, c3⟩, g0, g1, g2, g3⟩ := spc_row hl.rs))
  rename_i hheld
  have HF := Lib.hid (hl.set0 V1)
  clear hheld hstored hks c0 c1 c2 c3 g0 g1 g2 g3 hl
  generalize World.setCell _ _ _ = w4 at HF ⊢
  go_upto_region 5 with fail
  have hks := HF.out.drew.hkx
  go_region_held3 (fun w' => w'.cell? ⟨w.heap.size + 1, 0, none⟩ = some (.bool B) ∧ w'.cell? ⟨w.heap.size + 1, 1, none⟩ = some (.int .u32 b0) ∧ w'.cell? ⟨w.heap.size + 1, 2, none⟩ = some (.int .u32 b1) ∧ w'.cell? ⟨w.heap.size + 1, 3, none⟩ = some (.int .u32 0) ∧ w'.cell? ⟨w.heap.size + 1, 4, none⟩ = some (.int .u32 0) ∧ FW w.heap.size s w A a0 a1 B b0 b1 V1 0 false true w') (first | assumption | exact FW.hbx (by assumption) hb)
    (first
      | (go_at_call 80; refine (wide_of _ (by decide) _).mono ?_; rintro e w' ⟨rfl, hb⟩)
      | (go_at_call 149; refine (K2.out _).mono ?_; rintro e w' ⟨rfl, hb⟩))
  rename_i hheld
  have HF := Lib.hid (FW.hox hheld)
  clear hks hheld
  obtain ⟨⟨c0, c1, c2, c3⟩, g0, g1, g2, g3⟩ := spc_row HF.out.rs
  obtain ⟨⟨d0, d1, d2, d3⟩, e0, e1, e2, e3⟩ := spc_row HF.out.rr
  obtain ⟨⟨z0, z1, z2, z3⟩, _⟩ := spc_row (spc_put HF.out.rr V1 0 false true)
  have HBZ := Lib.hid (below_set4 HF.out.bel (show w.heap.size ≤ w.heap.size + 2 by omega) (.int .i64 V1) (.int .i64 0) (.bool false) (.bool true))
  have Z := Lib.hid (And.intro z0 (And.intro z1 (And.intro z2 z3)))
  clear HF z0 z1 z2 z3
  go_wp2
  obtain ⟨z0, z1, z2, z3⟩ := Z.out
  exact bodyPost_ret (v := .agg #[.int .i64 V1, .int .i64 0, .bool false, .bool true]) (by simp [results, Tryz.results81, go_sem, z0, z1, z2, z3]) rfl ⟨rfl, HBZ.out⟩
set_option maxRecDepth 100000 in
set_option maxHeartbeats 16000000 in
theorem from_11 (A : Bool) (a0 a1 : Int) (B : Bool) (b0 b1 C1 C2 V1 V2 : Int) (hV1 : -9223372036854775808 ≤ V1 ∧ V1 ≤ 9223372036854775807) (hV2 : -9223372036854775808 ≤ V2 ∧ V2 ≤ 9223372036854775807)
    (hc1 : decide (0 ≤ C1) = true) (hc2 : decide (C2 ≤ 0) = true)
    (k1 : ∀ w, Calls Tryz.prog 149 #[.agg #[.bool A, .int .u32 a0, .int .u32 a1, .int .u32 0, .int .u32 0], wd (-1152921504606846976)] w (Ret w (.int .i64 C1)))
    (k2 : ∀ w, Calls Tryz.prog 149 #[.agg #[.bool B, .int .u32 b0, .int .u32 b1, .int .u32 0, .int .u32 0], wd 1152921504606846976] w (Ret w (.int .i64 C2)))
    (l1 : ∀ w, Calls Tryz.prog 151 #[.agg #[.bool A, .int .u32 a0, .int .u32 a1, .int .u32 0, .int .u32 0], wd 1152921504606846976] w (Ret w (wd V1)))
    (l2 : ∀ w, Calls Tryz.prog 152 #[.agg #[.bool B, .int .u32 b0, .int .u32 b1, .int .u32 0, .int .u32 0], wd (-1152921504606846976)] w (Ret w (wd V2))) (w : World) :
    Calls Tryz.prog 81 #[.agg #[.bool A, .int .u32 a0, .int .u32 a1, .int .u32 0, .int .u32 0], .agg #[.bool B, .int .u32 b0, .int .u32 b1, .int .u32 0, .int .u32 0]] w (Ret w (.agg #[.int .i64 V1, .int .i64 V2, .bool false, .bool false])) := by
  have hr0 : Row (((w.alloc (.cells #[.bool A, .int .u32 a0, .int .u32 a1, .int .u32 0, .int .u32 0] 97)).alloc (.cells #[.bool B, .int .u32 b0, .int .u32 b1, .int .u32 0, .int .u32 0] 97)).alloc (.cells #[.int .i64 0, .int .i64 0, .bool false, .bool false] 23)) w.heap.size 97 (wdc A a0 a1) := ((Row.made w (wdc A a0 a1) 97).alloc _).alloc _
  have hr1 : Row (((w.alloc (.cells #[.bool A, .int .u32 a0, .int .u32 a1, .int .u32 0, .int .u32 0] 97)).alloc (.cells #[.bool B, .int .u32 b0, .int .u32 b1, .int .u32 0, .int .u32 0] 97)).alloc (.cells #[.int .i64 0, .int .i64 0, .bool false, .bool false] 23)) (w.heap.size + 1) 97 (wdc B b0 b1) := (row2c w _ (wdc B b0 b1) _).alloc _
  have hr2 : Row (((w.alloc (.cells #[.bool A, .int .u32 a0, .int .u32 a1, .int .u32 0, .int .u32 0] 97)).alloc (.cells #[.bool B, .int .u32 b0, .int .u32 b1, .int .u32 0, .int .u32 0] 97)).alloc (.cells #[.int .i64 0, .int .i64 0, .bool false, .bool false] 23)) (w.heap.size + 2) 23 (spc 0 0 false false) := row3c w _ _ (spc 0 0 false false) _
  have hB0 : Below w.heap.size w (((w.alloc (.cells #[.bool A, .int .u32 a0, .int .u32 a1, .int .u32 0, .int .u32 0] 97)).alloc (.cells #[.bool B, .int .u32 b0, .int .u32 b1, .int .u32 0, .int .u32 0] 97)).alloc (.cells #[.int .i64 0, .int .i64 0, .bool false, .bool false] 23)) := (((Below.refl _ _).alloc (Nat.le_refl _) _).alloc (by simp) _).alloc (by simp; omega) _
  have HR0 := Lib.hid hr0
  have HR1 := Lib.hid hr1
  have HR2 := Lib.hid hr2
  have HB0 := Lib.hid hB0
  have K1 := Lib.hid k1
  have K2 := Lib.hid k2
  have L1 := Lib.hid l1
  have L2 := Lib.hid l2
  have HV1 := Lib.hid hV1
  have HV2 := Lib.hid hV2
  clear hr0 hr1 hr2 hB0 k1 k2 l1 l2 hV1 hV2
  go_enter Tryz.func81, Tryz.ntmps81
  go_wp2_with fail
  refine (reffull_of _).mono ?_
  rintro e w1 ⟨rfl, hB⟩
  have hfw : FW w.heap.size w1.heap.size w A a0 a1 B b0 b1 0 0 true true (w1.alloc (.cells #[.int .i64 0, .int .i64 0, .bool true, .bool true] 23)) :=
    ⟨(HR0.out.below hB HR0.out.lt).alloc _, (HR1.out.below hB HR1.out.lt).alloc _, (HR2.out.below hB HR2.out.lt).alloc _, Row.made w1 (spc 0 0 true true) _, (HB0.out.trans (hB.mono HB0.out.size)).alloc (Nat.le_of_lt (HR0.out.below hB HR0.out.lt).lt) _, (HR2.out.below hB HR2.out.lt).lt⟩
  have HF := Lib.hid hfw
  clear hB hfw
  go_upto_region 2 with fail
  generalize w1.alloc (.cells #[.int .i64 0, .int .i64 0, .bool true, .bool true] 23) = w2 at HF ⊢
  generalize w1.heap.size = s at HF ⊢
  have hks := HF.out.drew.lkx
  go_region_held3 (fun w' => w'.cell? ⟨w.heap.size, 0, none⟩ = some (.bool A) ∧ w'.cell? ⟨w.heap.size, 1, none⟩ = some (.int .u32 a0) ∧ w'.cell? ⟨w.heap.size, 2, none⟩ = some (.int .u32 a1) ∧ w'.cell? ⟨w.heap.size, 3, none⟩ = some (.int .u32 0) ∧ w'.cell? ⟨w.heap.size, 4, none⟩ = some (.int .u32 0) ∧ FW w.heap.size s w A a0 a1 B b0 b1 0 0 true true w') (first | assumption | exact FW.lbx (by assumption) hb)
    (first
      | (go_at_call 80; refine (wide_of _ (by decide) _).mono ?_; rintro e w' ⟨rfl, hb⟩)
      | (go_at_call 149; refine (K1.out _).mono ?_; rintro e w' ⟨rfl, hb⟩))
  rename_i hheld
  have HF := Lib.hid (FW.lox hheld)
  clear hks hheld
  obtain ⟨⟨c0, c1, c2, c3⟩, g0, g1, g2, g3⟩ := spc_row HF.out.rs
  go_upto_region 4 with fail
  clear c0 c1 c2 c3 g0 g1 g2 g3
  have HF := Lib.hid (HF.out.set2 false)
  generalize World.setCell _ _ _ = w3 at HF ⊢
  have hks := HF.out.drew.lk
  go_region_held3 (fun w' => w'.cell? ⟨w.heap.size, 0, none⟩ = some (.bool A) ∧ w'.cell? ⟨w.heap.size, 1, none⟩ = some (.int .u32 a0) ∧ w'.cell? ⟨w.heap.size, 2, none⟩ = some (.int .u32 a1) ∧ w'.cell? ⟨w.heap.size, 3, none⟩ = some (.int .u32 0) ∧ w'.cell? ⟨w.heap.size, 4, none⟩ = some (.int .u32 0) ∧ ∃ x, FW w.heap.size s w A a0 a1 B b0 b1 x 0 false true w') (first | assumption | exact FW.lb (by assumption) hb | exact hstored)
    (first
      | (go_at_call 80; refine (wide_of _ (by decide) _).mono ?_; rintro e w' ⟨rfl, hb⟩)
      | (go_at_call 151; refine (L1.out _).mono ?_; rintro e w' ⟨rfl, hb⟩)
      | (go_at_call 150; refine (number_of _ HV1.out _).mono ?_; rintro e w' ⟨rfl, hb⟩; obtain ⟨xx, hl⟩ := FW.lo (FW.lb (by assumption) hb); have hstored := (hl.set0 V1).lk; obtain ⟨⟨c0, c1, c2, c3⟩, g0, g1, g2, g3⟩ := spc_row hl.rs))
  rename_i hheld
  have HF := Lib.hid (hl.set0 V1)
  clear hheld hstored hks c0 c1 c2 c3 g0 g1 g2 g3 hl
  generalize World.setCell _ _ _ = w4 at HF ⊢
  go_upto_region 5 with fail
  have hks := HF.out.drew.hkx
  go_region_held3 (fun w' => w'.cell? ⟨w.heap.size + 1, 0, none⟩ = some (.bool B) ∧ w'.cell? ⟨w.heap.size + 1, 1, none⟩ = some (.int .u32 b0) ∧ w'.cell? ⟨w.heap.size + 1, 2, none⟩ = some (.int .u32 b1) ∧ w'.cell? ⟨w.heap.size + 1, 3, none⟩ = some (.int .u32 0) ∧ w'.cell? ⟨w.heap.size + 1, 4, none⟩ = some (.int .u32 0) ∧ FW w.heap.size s w A a0 a1 B b0 b1 V1 0 false true w') (first | assumption | exact FW.hbx (by assumption) hb)
    (first
      | (go_at_call 80; refine (wide_of _ (by decide) _).mono ?_; rintro e w' ⟨rfl, hb⟩)
      | (go_at_call 149; refine (K2.out _).mono ?_; rintro e w' ⟨rfl, hb⟩))
  rename_i hheld
  have HF := Lib.hid (FW.hox hheld)
  clear hks hheld
  obtain ⟨⟨c0, c1, c2, c3⟩, g0, g1, g2, g3⟩ := spc_row HF.out.rs
  go_upto_region 7 with fail
  clear c0 c1 c2 c3 g0 g1 g2 g3
  have HF := Lib.hid (HF.out.set3 false)
  generalize World.setCell _ _ _ = w3 at HF ⊢
  have hks := HF.out.drew.hk
  go_region_held3 (fun w' => w'.cell? ⟨w.heap.size + 1, 0, none⟩ = some (.bool B) ∧ w'.cell? ⟨w.heap.size + 1, 1, none⟩ = some (.int .u32 b0) ∧ w'.cell? ⟨w.heap.size + 1, 2, none⟩ = some (.int .u32 b1) ∧ w'.cell? ⟨w.heap.size + 1, 3, none⟩ = some (.int .u32 0) ∧ w'.cell? ⟨w.heap.size + 1, 4, none⟩ = some (.int .u32 0) ∧ ∃ y, FW w.heap.size s w A a0 a1 B b0 b1 V1 y false false w') (first | assumption | exact FW.hb (by assumption) hb | exact hstored)
    (first
      | (go_at_call 80; refine (wide_of _ (by decide) _).mono ?_; rintro e w' ⟨rfl, hb⟩)
      | (go_at_call 152; refine (L2.out _).mono ?_; rintro e w' ⟨rfl, hb⟩)
      | (go_at_call 150; refine (number_of _ HV2.out _).mono ?_; rintro e w' ⟨rfl, hb⟩; obtain ⟨xx, hl⟩ := FW.ho (FW.hb (by assumption) hb); have hstored := (hl.set1 V2).hk; obtain ⟨⟨c0, c1, c2, c3⟩, g0, g1, g2, g3⟩ := spc_row hl.rs))
  rename_i hheld
  have HF := Lib.hid (hl.set1 V2)
  clear hheld hstored hks c0 c1 c2 c3 g0 g1 g2 g3 hl
  generalize World.setCell _ _ _ = w4 at HF ⊢
  obtain ⟨⟨c0, c1, c2, c3⟩, g0, g1, g2, g3⟩ := spc_row HF.out.rs
  obtain ⟨⟨d0, d1, d2, d3⟩, e0, e1, e2, e3⟩ := spc_row HF.out.rr
  obtain ⟨⟨z0, z1, z2, z3⟩, _⟩ := spc_row (spc_put HF.out.rr V1 V2 false false)
  have HBZ := Lib.hid (below_set4 HF.out.bel (show w.heap.size ≤ w.heap.size + 2 by omega) (.int .i64 V1) (.int .i64 V2) (.bool false) (.bool false))
  have Z := Lib.hid (And.intro z0 (And.intro z1 (And.intro z2 z3)))
  clear HF z0 z1 z2 z3
  go_wp2
  obtain ⟨z0, z1, z2, z3⟩ := Z.out
  exact bodyPost_ret (v := .agg #[.int .i64 V1, .int .i64 V2, .bool false, .bool false]) (by simp [results, Tryz.results81, go_sem, z0, z1, z2, z3]) rfl ⟨rfl, HBZ.out⟩
end Go.Proofs.YtcmplcdbkoodpaaGreatDoor
