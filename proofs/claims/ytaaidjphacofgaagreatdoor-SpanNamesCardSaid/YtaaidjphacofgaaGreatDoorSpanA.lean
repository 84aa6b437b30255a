/-
  Spans: the program's Full, Of, read, Has.
-/
import Derived.Test.YtaaidjphacofgaaGreatDoorRows
import Derived.Test.YtaaidjphacofgaaGreatDoorBase
import Derived.Test.YtaaidjphacofgaaGreatDoorBits
import Derived.WalkSpells
import Derived.WalkLawsBesides
import Derived.Lib.Hide
import Derived.BigQuiet
namespace Go.Proofs.YtaaidjphacofgaaGreatDoor
open Go.RowKit
set_option linter.unusedVariables false

/-- The call returned v, in a world that is as it was below its old size. -/
def Ret (w : World) (v : Value) (e : Ending) (w' : World) : Prop := e = .returned v ∧ Below w.heap.size w w'
/-- A span as a value. -/
def spc (lo hi : Int) (p q : Bool) : List Value := [.int .i64 lo, .int .i64 hi, .bool p, .bool q]
theorem spc_row {w : World} {b : Nat} {e : TypeId} {lo hi : Int} {p q : Bool} (h : Row w b e (spc lo hi p q)) :
    (w.cell? ⟨b, 0, none⟩ = some (.int .i64 lo) ∧ w.cell? ⟨b, 1, none⟩ = some (.int .i64 hi) ∧ w.cell? ⟨b, 2, none⟩ = some (.bool p) ∧ w.cell? ⟨b, 3, none⟩ = some (.bool q)) ∧
    (w.frozen? ⟨b, 0, none⟩ = false ∧ w.frozen? ⟨b, 1, none⟩ = false ∧ w.frozen? ⟨b, 2, none⟩ = false ∧ w.frozen? ⟨b, 3, none⟩ = false) :=
  ⟨⟨by rw [h.cell]; rfl, by rw [h.cell]; rfl, by rw [h.cell]; rfl, by rw [h.cell]; rfl⟩, h.free _, h.free _, h.free _, h.free _⟩
/-- A span that is stored: the cells behind. -/
theorem spc_put {w : World} {b : Nat} {e : TypeId} {lo hi : Int} {p q : Bool} (h : Row w b e (spc lo hi p q)) (lo' hi' : Int) (p' q' : Bool) :
    Row ((((w.setCell ⟨b, 0, none⟩ (.int .i64 lo')).setCell ⟨b, 1, none⟩ (.int .i64 hi')).setCell ⟨b, 2, none⟩ (.bool p')).setCell ⟨b, 3, none⟩ (.bool q')) b e (spc lo' hi' p' q') :=
  (((h.put 0 (.int .i64 lo')).put 1 (.int .i64 hi')).put 2 (.bool p')).put 3 (.bool q')
theorem below_set4 {w0 w : World} {B b : Nat} (h : Below B w0 w) (hb : B ≤ b) (x0 x1 x2 x3 : Value) : Below B w0 ((((w.setCell ⟨b, 0, none⟩ x0).setCell ⟨b, 1, none⟩ x1).setCell ⟨b, 2, none⟩ x2).setCell ⟨b, 3, none⟩ x3) :=
  (((h.setCell hb _).setCell hb _).setCell hb _).setCell hb _

theorem full_of (w : World) : Calls Tryz.prog 5 #[] w (Ret w (.agg #[.int .i64 0, .int .i64 0, .bool true, .bool true])) := by
  go_enter Tryz.func5, Tryz.ntmps5
  go_wp2
  exact bodyPost_ret (v := .agg #[.int .i64 0, .int .i64 0, .bool true, .bool true]) (by simp [results, Tryz.results5, go_sem]) rfl ⟨rfl, (Below.refl _ _).alloc (Nat.le_refl _) _⟩
/-- The span from lo to hi. -/
def oflo (lo : Int) : Int := if lo < -1152921504606846976 then 0 else if 1152921504606846976 < lo then 1152921504606846976 else lo
def ofhi (hi : Int) : Int := if 1152921504606846976 < hi then 0 else if hi < -1152921504606846976 then -1152921504606846976 else hi
def ofs (lo hi : Int) : Value :=
  if hi < lo then .agg #[.int .i64 0, .int .i64 0, .bool true, .bool true]
  else .agg #[.int .i64 (oflo lo), .int .i64 (ofhi hi), .bool (decide (lo < -1152921504606846976)), .bool (decide (1152921504606846976 < hi))]

set_option maxRecDepth 100000 in
set_option maxHeartbeats 1600000 in
theorem of_of (lo hi : Int) (w : World) : Calls Tryz.prog 6 #[.int .i64 lo, .int .i64 hi] w (Ret w (ofs lo hi)) := by
  obtain ⟨P, hP⟩ : ∃ P, decide (lo < -1152921504606846976) = P := ⟨_, rfl⟩
  obtain ⟨Q, hQ⟩ : ∃ Q, decide (1152921504606846976 < hi) = Q := ⟨_, rfl⟩
  by_cases h : hi < lo
  · have HV := Lib.hid (show ofs lo hi = .agg #[.int .i64 0, .int .i64 0, .bool true, .bool true] by unfold ofs; rw [if_pos h])
    have hr0 : Row ((w.alloc (.cells #[.int .i64 0, .int .i64 0, .bool false, .bool false] 23)).alloc (.cells #[.int .i64 0, .int .i64 0, .bool P, .bool Q] 23)) w.heap.size 23 (spc 0 0 false false) := (Row.made w (spc 0 0 false false) 23).alloc _
    have hB0 : Below w.heap.size w ((w.alloc (.cells #[.int .i64 0, .int .i64 0, .bool false, .bool false] 23)).alloc (.cells #[.int .i64 0, .int .i64 0, .bool P, .bool Q] 23)) := ((Below.refl _ _).alloc (Nat.le_refl _) _).alloc (by simp) _
    have HR0 := Lib.hid hr0
    have HB0 := Lib.hid hB0
    clear hr0 hB0
    go_enter Tryz.func6, Tryz.ntmps6
    go_wp2_with fail
    refine (full_of _).mono ?_
    rintro e w1 ⟨rfl, hB⟩
    have hr1 := HR0.out.below hB HR0.out.lt
    have hB1 := HB0.out.trans (hB.mono HB0.out.size)
    obtain ⟨⟨q0, q1, q2, q3⟩, f0, f1, f2, f3⟩ := spc_row hr1
    obtain ⟨⟨z0, z1, z2, z3⟩, _⟩ := spc_row (spc_put hr1 0 0 true true)
    have HB1 := Lib.hid (below_set4 hB1 (Nat.le_refl w.heap.size) (.int .i64 0) (.int .i64 0) (.bool true) (.bool true))
    have Z := Lib.hid (And.intro z0 (And.intro z1 (And.intro z2 z3)))
    clear hB hr1 hB1 z0 z1 z2 z3
    go_wp2
    obtain ⟨z0, z1, z2, z3⟩ := Z.out
    exact bodyPost_ret (v := .agg #[.int .i64 0, .int .i64 0, .bool true, .bool true]) (by simp [results, Tryz.results6, go_sem, z0, z1, z2, z3]) rfl ⟨by rw [HV.out], HB1.out⟩
  · have h' : ¬ (hi < lo) := h
    obtain ⟨L, hL⟩ : ∃ L, L = oflo lo := ⟨_, rfl⟩
    obtain ⟨H, hH⟩ : ∃ H, H = ofhi hi := ⟨_, rfl⟩
    have HV := Lib.hid (show ofs lo hi = .agg #[.int .i64 L, .int .i64 H, .bool P, .bool Q] by unfold ofs; rw [if_neg h, hP, hQ, ← hL, ← hH])
    cases P
    · cases Q
      · have hlp : ¬ (lo < -1152921504606846976) := by simpa using hP
        have hmin : ∀ (ts : Array TypeId) (t : TypeId) (W : World), (Builtin.min_ ts t #[.int .i64 lo, .int .i64 1152921504606846976]).run Tryz.prog W = .ok (.int .i64 L) W := fun ts t W => by rw [run_min_int2, hL]; unfold oflo; rw [if_neg hlp]
        have hhq : ¬ (1152921504606846976 < hi) := by simpa using hQ
        have hmax : ∀ (ts : Array TypeId) (t : TypeId) (W : World), (Builtin.max_ ts t #[.int .i64 hi, .int .i64 (-1152921504606846976)]).run Tryz.prog W = .ok (.int .i64 H) W := fun ts t W => by rw [run_max_int2, hH]; unfold ofhi; rw [if_neg hhq]
        clear hL hH
        go_enter Tryz.func6, Tryz.ntmps6
        go_wp2
        exact bodyPost_ret (v := .agg #[.int .i64 L, .int .i64 H, .bool false, .bool false]) (by simp [results, Tryz.results6, go_sem]) rfl ⟨by rw [HV.out], ((Below.refl _ _).alloc (Nat.le_refl _) _).alloc (by simp) _⟩
      · have hlp : ¬ (lo < -1152921504606846976) := by simpa using hP
        have hmin : ∀ (ts : Array TypeId) (t : TypeId) (W : World), (Builtin.min_ ts t #[.int .i64 lo, .int .i64 1152921504606846976]).run Tryz.prog W = .ok (.int .i64 L) W := fun ts t W => by rw [run_min_int2, hL]; unfold oflo; rw [if_neg hlp]
        obtain rfl : H = 0 := by rw [hH]; unfold ofhi; rw [if_pos (by simpa using hQ)]
        clear hL hH
        go_enter Tryz.func6, Tryz.ntmps6
        go_wp2
        exact bodyPost_ret (v := .agg #[.int .i64 L, .int .i64 0, .bool false, .bool true]) (by simp [results, Tryz.results6, go_sem]) rfl ⟨by rw [HV.out], ((Below.refl _ _).alloc (Nat.le_refl _) _).alloc (by simp) _⟩
    · cases Q
      · obtain rfl : L = 0 := by rw [hL]; unfold oflo; rw [if_pos (by simpa using hP)]
        have hhq : ¬ (1152921504606846976 < hi) := by simpa using hQ
        have hmax : ∀ (ts : Array TypeId) (t : TypeId) (W : World), (Builtin.max_ ts t #[.int .i64 hi, .int .i64 (-1152921504606846976)]).run Tryz.prog W = .ok (.int .i64 H) W := fun ts t W => by rw [run_max_int2, hH]; unfold ofhi; rw [if_neg hhq]
        clear hL hH
        go_enter Tryz.func6, Tryz.ntmps6
        go_wp2
        exact bodyPost_ret (v := .agg #[.int .i64 0, .int .i64 H, .bool true, .bool false]) (by simp [results, Tryz.results6, go_sem]) rfl ⟨by rw [HV.out], ((Below.refl _ _).alloc (Nat.le_refl _) _).alloc (by simp) _⟩
      · obtain rfl : L = 0 := by rw [hL]; unfold oflo; rw [if_pos (by simpa using hP)]
        obtain rfl : H = 0 := by rw [hH]; unfold ofhi; rw [if_pos (by simpa using hQ)]
        clear hL hH
        go_enter Tryz.func6, Tryz.ntmps6
        go_wp2
        exact bodyPost_ret (v := .agg #[.int .i64 0, .int .i64 0, .bool true, .bool true]) (by simp [results, Tryz.results6, go_sem]) rfl ⟨by rw [HV.out], ((Below.refl _ _).alloc (Nat.le_refl _) _).alloc (by simp) _⟩
end Go.Proofs.YtaaidjphacofgaaGreatDoor
