/-
  The program's own words: tables of operations.
-/
import Derived.Test.YtbkcpepalicbjaaGreatRows
import Derived.Test.YtbkcpepalicbjaaGreatBase
import Derived.Test.YtbkcpepalicbjaaGreatBits
import Derived.WalkSpells
import Derived.WalkLawsBesides
import Derived.Lib.Hide
namespace Go.Proofs.YtbkcpepalicbjaaGreat
open Go.RowKit
set_option linter.unusedVariables false

theorem check_int {P : Program} {kt : TypeId} (hk : P.underlying kt = some (.int .i64)) (e : Bool) (k : Int) (w : World) : (Instr.checkKey e 10000 kt (.int .i64 k)).run P w = .ok () w :=
  MapKept.run_checkKey (d := .int .i64) hk (show MapKept.IsKey (.int .i64) (.int .i64 k) from rfl) e 9999

/-- A store of a new key into a map of ints. -/
theorem run_put {P : Program} {t kt et : TypeId} (hm : P.underlying t = some (.map kt et)) (hk : P.underlying kt = some (.int .i64)) (w : World) (es : Array MapEntry) (c : Nat) (k : Int) (v : Value)
    (hf : Instr.findNow (.int .i64) (.int .i64 k) es.toList 0 = some none) :
    (Instr.mapUpdate t (.map (some w.heap.size)) (.int .i64 k) v).run P (w.alloc (.map es c)) = .ok () (w.alloc (.map (es.push { key := .int .i64 k, val := v, born := c }) (c + 1))) := by
  have h1 : (w.alloc (.map es c)).heap[w.heap.size]? = some (.map es c) := heap_alloc_new w _
  simp [Instr.mapUpdate, run_underlying hm, MapKept.run_getObj_map h1, check_int hk, MapKept.run_findKey hk hf, MapKept.run_setObj_map _ h1, Result.andThen]
  show (⟨_, _, _, _, _⟩ : World) = ⟨_, _, _, _, _⟩
  congr 1
  show (w.heap.push _).setIfInBounds w.heap.size _ = w.heap.push _
  apply Array.toList_inj.1
  rw [Array.toList_setIfInBounds, Array.toList_push, Array.toList_push, ← Array.length_toList, List.set_append_right _ _ (Nat.le_refl _), Nat.sub_self]
  rfl

/-- A look into a map of ints at a key that is there. -/
theorem run_look {P : Program} {t kt et : TypeId} (hm : P.underlying t = some (.map kt et)) (hk : P.underlying kt = some (.int .i64)) (w : World) (b : Nat) (es : Array MapEntry) (c : Nat) (hb : w.heap[b]? = some (.map es c)) (k : Int) (i : Nat) (v : Value)
    (hf : Instr.findNow (.int .i64) (.int .i64 k) es.toList 0 = some (some (i, v))) (ok : Bool) :
    (Instr.lookup t (.map (some b)) (.int .i64 k) ok).run P w = .ok (if ok then .tuple #[v, .bool true] else v) w := by
  cases ok <;> simp [Instr.lookup, run_underlying hm, MapKept.run_getObj_map hb, check_int hk, MapKept.run_findKey hk hf, Result.andThen]
/-- A look at a key that is not there. -/
theorem run_look_none {P : Program} {t kt et : TypeId} (hm : P.underlying t = some (.map kt et)) (hk : P.underlying kt = some (.int .i64)) (w : World) (b : Nat) (es : Array MapEntry) (c : Nat) (hb : w.heap[b]? = some (.map es c)) (k : Int) (z : Value)
    (hf : Instr.findNow (.int .i64) (.int .i64 k) es.toList 0 = some none) (hz : (zeroValue et).run P w = .ok z w) (ok : Bool) :
    (Instr.lookup t (.map (some b)) (.int .i64 k) ok).run P w = .ok (if ok then .tuple #[z, .bool false] else z) w := by
  cases ok <;> simp [Instr.lookup, run_underlying hm, MapKept.run_getObj_map hb, check_int hk, MapKept.run_findKey hk hf, hz, Result.andThen]

/-- The entries of wide's table. -/
def wideL : List MapEntry := [⟨.int .i64 1, .func (.func 107) #[] #[], 0⟩, ⟨.int .i64 2, .func (.func 108) #[] #[], 1⟩, ⟨.int .i64 3, .func (.func 109) #[] #[], 2⟩, ⟨.int .i64 4, .func (.func 110) #[] #[], 3⟩, ⟨.int .i64 5, .func (.func 111) #[] #[], 4⟩, ⟨.int .i64 6, .func (.func 112) #[] #[], 5⟩, ⟨.int .i64 7, .func (.func 113) #[] #[], 6⟩, ⟨.int .i64 8, .func (.func 114) #[] #[], 7⟩, ⟨.int .i64 9, .func (.func 115) #[] #[], 8⟩, ⟨.int .i64 10, .func (.func 116) #[] #[], 9⟩, ⟨.int .i64 11, .func (.func 117) #[] #[], 10⟩, ⟨.int .i64 12, .func (.func 118) #[] #[], 11⟩, ⟨.int .i64 13, .func (.func 119) #[] #[], 12⟩, ⟨.int .i64 14, .func (.func 120) #[] #[], 13⟩, ⟨.int .i64 15, .func (.func 121) #[] #[], 14⟩]
def wideE (i : Nat) : Array MapEntry := (wideL.take i).toArray
theorem wide_put0 (w : World) : (Instr.mapUpdate 124 (.map (some w.heap.size)) (.int .i64 1) (.func (.func 107) #[] #[])).run Tryz.prog (w.alloc (.map #[] 0)) = .ok () (w.alloc (.map (wideE 1) 1)) :=
  run_put Tryz.underlying124 Tryz.underlying3 w #[] 0 1 _ rfl
theorem wide_put1 (w : World) : (Instr.mapUpdate 124 (.map (some w.heap.size)) (.int .i64 2) (.func (.func 108) #[] #[])).run Tryz.prog (w.alloc (.map (wideE 1) 1)) = .ok () (w.alloc (.map (wideE 2) 2)) :=
  run_put Tryz.underlying124 Tryz.underlying3 w (wideE 1) 1 2 _ rfl
theorem wide_put2 (w : World) : (Instr.mapUpdate 124 (.map (some w.heap.size)) (.int .i64 3) (.func (.func 109) #[] #[])).run Tryz.prog (w.alloc (.map (wideE 2) 2)) = .ok () (w.alloc (.map (wideE 3) 3)) :=
  run_put Tryz.underlying124 Tryz.underlying3 w (wideE 2) 2 3 _ rfl
theorem wide_put3 (w : World) : (Instr.mapUpdate 124 (.map (some w.heap.size)) (.int .i64 4) (.func (.func 110) #[] #[])).run Tryz.prog (w.alloc (.map (wideE 3) 3)) = .ok () (w.alloc (.map (wideE 4) 4)) :=
  run_put Tryz.underlying124 Tryz.underlying3 w (wideE 3) 3 4 _ rfl
theorem wide_put4 (w : World) : (Instr.mapUpdate 124 (.map (some w.heap.size)) (.int .i64 5) (.func (.func 111) #[] #[])).run Tryz.prog (w.alloc (.map (wideE 4) 4)) = .ok () (w.alloc (.map (wideE 5) 5)) :=
  run_put Tryz.underlying124 Tryz.underlying3 w (wideE 4) 4 5 _ rfl
theorem wide_put5 (w : World) : (Instr.mapUpdate 124 (.map (some w.heap.size)) (.int .i64 6) (.func (.func 112) #[] #[])).run Tryz.prog (w.alloc (.map (wideE 5) 5)) = .ok () (w.alloc (.map (wideE 6) 6)) :=
  run_put Tryz.underlying124 Tryz.underlying3 w (wideE 5) 5 6 _ rfl
theorem wide_put6 (w : World) : (Instr.mapUpdate 124 (.map (some w.heap.size)) (.int .i64 7) (.func (.func 113) #[] #[])).run Tryz.prog (w.alloc (.map (wideE 6) 6)) = .ok () (w.alloc (.map (wideE 7) 7)) :=
  run_put Tryz.underlying124 Tryz.underlying3 w (wideE 6) 6 7 _ rfl
theorem wide_put7 (w : World) : (Instr.mapUpdate 124 (.map (some w.heap.size)) (.int .i64 8) (.func (.func 114) #[] #[])).run Tryz.prog (w.alloc (.map (wideE 7) 7)) = .ok () (w.alloc (.map (wideE 8) 8)) :=
  run_put Tryz.underlying124 Tryz.underlying3 w (wideE 7) 7 8 _ rfl
theorem wide_put8 (w : World) : (Instr.mapUpdate 124 (.map (some w.heap.size)) (.int .i64 9) (.func (.func 115) #[] #[])).run Tryz.prog (w.alloc (.map (wideE 8) 8)) = .ok () (w.alloc (.map (wideE 9) 9)) :=
  run_put Tryz.underlying124 Tryz.underlying3 w (wideE 8) 8 9 _ rfl
theorem wide_put9 (w : World) : (Instr.mapUpdate 124 (.map (some w.heap.size)) (.int .i64 10) (.func (.func 116) #[] #[])).run Tryz.prog (w.alloc (.map (wideE 9) 9)) = .ok () (w.alloc (.map (wideE 10) 10)) :=
  run_put Tryz.underlying124 Tryz.underlying3 w (wideE 9) 9 10 _ rfl
theorem wide_put10 (w : World) : (Instr.mapUpdate 124 (.map (some w.heap.size)) (.int .i64 11) (.func (.func 117) #[] #[])).run Tryz.prog (w.alloc (.map (wideE 10) 10)) = .ok () (w.alloc (.map (wideE 11) 11)) :=
  run_put Tryz.underlying124 Tryz.underlying3 w (wideE 10) 10 11 _ rfl
theorem wide_put11 (w : World) : (Instr.mapUpdate 124 (.map (some w.heap.size)) (.int .i64 12) (.func (.func 118) #[] #[])).run Tryz.prog (w.alloc (.map (wideE 11) 11)) = .ok () (w.alloc (.map (wideE 12) 12)) :=
  run_put Tryz.underlying124 Tryz.underlying3 w (wideE 11) 11 12 _ rfl
theorem wide_put12 (w : World) : (Instr.mapUpdate 124 (.map (some w.heap.size)) (.int .i64 13) (.func (.func 119) #[] #[])).run Tryz.prog (w.alloc (.map (wideE 12) 12)) = .ok () (w.alloc (.map (wideE 13) 13)) :=
  run_put Tryz.underlying124 Tryz.underlying3 w (wideE 12) 12 13 _ rfl
theorem wide_put13 (w : World) : (Instr.mapUpdate 124 (.map (some w.heap.size)) (.int .i64 14) (.func (.func 120) #[] #[])).run Tryz.prog (w.alloc (.map (wideE 13) 13)) = .ok () (w.alloc (.map (wideE 14) 14)) :=
  run_put Tryz.underlying124 Tryz.underlying3 w (wideE 13) 13 14 _ rfl
theorem wide_put14 (w : World) : (Instr.mapUpdate 124 (.map (some w.heap.size)) (.int .i64 15) (.func (.func 121) #[] #[])).run Tryz.prog (w.alloc (.map (wideE 14) 14)) = .ok () (w.alloc (.map (wideE 15) 15)) :=
  run_put Tryz.underlying124 Tryz.underlying3 w (wideE 14) 14 15 _ rfl

set_option maxHeartbeats 800000 in
theorem wide_any (w : World) : Calls Tryz.prog 70 #[] w fun e w' => ∃ b, e = .returned (.map (some b)) ∧ w'.heap[b]? = some (.map (wideE 15) 15) ∧ Below w.heap.size w w' := by
  have hmm := @run_makeMap Tryz.prog
  have p0 := wide_put0
  have p1 := wide_put1
  have p2 := wide_put2
  have p3 := wide_put3
  have p4 := wide_put4
  have p5 := wide_put5
  have p6 := wide_put6
  have p7 := wide_put7
  have p8 := wide_put8
  have p9 := wide_put9
  have p10 := wide_put10
  have p11 := wide_put11
  have p12 := wide_put12
  have p13 := wide_put13
  have p14 := wide_put14
  go_enter Tryz.func70, Tryz.ntmps70
  go_wp2
  go_ret
  exact ⟨_, rfl, heap_alloc_new w _, (Below.refl _ _).alloc (Nat.le_refl _) _⟩
theorem wide_look1 (w : World) (b : Nat) (h : w.heap[b]? = some (.map (wideE 15) 15)) (ok : Bool) : (Instr.lookup 124 (.map (some b)) (.int .i64 1) ok).run Tryz.prog w = .ok (if ok then .tuple #[.func (.func 107) #[] #[], .bool true] else .func (.func 107) #[] #[]) w :=
  run_look Tryz.underlying124 Tryz.underlying3 w b (wideE 15) 15 h 1 0 _ rfl ok
theorem wide_look2 (w : World) (b : Nat) (h : w.heap[b]? = some (.map (wideE 15) 15)) (ok : Bool) : (Instr.lookup 124 (.map (some b)) (.int .i64 2) ok).run Tryz.prog w = .ok (if ok then .tuple #[.func (.func 108) #[] #[], .bool true] else .func (.func 108) #[] #[]) w :=
  run_look Tryz.underlying124 Tryz.underlying3 w b (wideE 15) 15 h 2 1 _ rfl ok
theorem wide_look3 (w : World) (b : Nat) (h : w.heap[b]? = some (.map (wideE 15) 15)) (ok : Bool) : (Instr.lookup 124 (.map (some b)) (.int .i64 3) ok).run Tryz.prog w = .ok (if ok then .tuple #[.func (.func 109) #[] #[], .bool true] else .func (.func 109) #[] #[]) w :=
  run_look Tryz.underlying124 Tryz.underlying3 w b (wideE 15) 15 h 3 2 _ rfl ok
theorem wide_look4 (w : World) (b : Nat) (h : w.heap[b]? = some (.map (wideE 15) 15)) (ok : Bool) : (Instr.lookup 124 (.map (some b)) (.int .i64 4) ok).run Tryz.prog w = .ok (if ok then .tuple #[.func (.func 110) #[] #[], .bool true] else .func (.func 110) #[] #[]) w :=
  run_look Tryz.underlying124 Tryz.underlying3 w b (wideE 15) 15 h 4 3 _ rfl ok
theorem wide_look5 (w : World) (b : Nat) (h : w.heap[b]? = some (.map (wideE 15) 15)) (ok : Bool) : (Instr.lookup 124 (.map (some b)) (.int .i64 5) ok).run Tryz.prog w = .ok (if ok then .tuple #[.func (.func 111) #[] #[], .bool true] else .func (.func 111) #[] #[]) w :=
  run_look Tryz.underlying124 Tryz.underlying3 w b (wideE 15) 15 h 5 4 _ rfl ok
theorem wide_look6 (w : World) (b : Nat) (h : w.heap[b]? = some (.map (wideE 15) 15)) (ok : Bool) : (Instr.lookup 124 (.map (some b)) (.int .i64 6) ok).run Tryz.prog w = .ok (if ok then .tuple #[.func (.func 112) #[] #[], .bool true] else .func (.func 112) #[] #[]) w :=
  run_look Tryz.underlying124 Tryz.underlying3 w b (wideE 15) 15 h 6 5 _ rfl ok
theorem wide_look7 (w : World) (b : Nat) (h : w.heap[b]? = some (.map (wideE 15) 15)) (ok : Bool) : (Instr.lookup 124 (.map (some b)) (.int .i64 7) ok).run Tryz.prog w = .ok (if ok then .tuple #[.func (.func 113) #[] #[], .bool true] else .func (.func 113) #[] #[]) w :=
  run_look Tryz.underlying124 Tryz.underlying3 w b (wideE 15) 15 h 7 6 _ rfl ok
theorem wide_look8 (w : World) (b : Nat) (h : w.heap[b]? = some (.map (wideE 15) 15)) (ok : Bool) : (Instr.lookup 124 (.map (some b)) (.int .i64 8) ok).run Tryz.prog w = .ok (if ok then .tuple #[.func (.func 114) #[] #[], .bool true] else .func (.func 114) #[] #[]) w :=
  run_look Tryz.underlying124 Tryz.underlying3 w b (wideE 15) 15 h 8 7 _ rfl ok
theorem wide_look9 (w : World) (b : Nat) (h : w.heap[b]? = some (.map (wideE 15) 15)) (ok : Bool) : (Instr.lookup 124 (.map (some b)) (.int .i64 9) ok).run Tryz.prog w = .ok (if ok then .tuple #[.func (.func 115) #[] #[], .bool true] else .func (.func 115) #[] #[]) w :=
  run_look Tryz.underlying124 Tryz.underlying3 w b (wideE 15) 15 h 9 8 _ rfl ok
theorem wide_look10 (w : World) (b : Nat) (h : w.heap[b]? = some (.map (wideE 15) 15)) (ok : Bool) : (Instr.lookup 124 (.map (some b)) (.int .i64 10) ok).run Tryz.prog w = .ok (if ok then .tuple #[.func (.func 116) #[] #[], .bool true] else .func (.func 116) #[] #[]) w :=
  run_look Tryz.underlying124 Tryz.underlying3 w b (wideE 15) 15 h 10 9 _ rfl ok
theorem wide_look11 (w : World) (b : Nat) (h : w.heap[b]? = some (.map (wideE 15) 15)) (ok : Bool) : (Instr.lookup 124 (.map (some b)) (.int .i64 11) ok).run Tryz.prog w = .ok (if ok then .tuple #[.func (.func 117) #[] #[], .bool true] else .func (.func 117) #[] #[]) w :=
  run_look Tryz.underlying124 Tryz.underlying3 w b (wideE 15) 15 h 11 10 _ rfl ok
theorem wide_look12 (w : World) (b : Nat) (h : w.heap[b]? = some (.map (wideE 15) 15)) (ok : Bool) : (Instr.lookup 124 (.map (some b)) (.int .i64 12) ok).run Tryz.prog w = .ok (if ok then .tuple #[.func (.func 118) #[] #[], .bool true] else .func (.func 118) #[] #[]) w :=
  run_look Tryz.underlying124 Tryz.underlying3 w b (wideE 15) 15 h 12 11 _ rfl ok
theorem wide_look13 (w : World) (b : Nat) (h : w.heap[b]? = some (.map (wideE 15) 15)) (ok : Bool) : (Instr.lookup 124 (.map (some b)) (.int .i64 13) ok).run Tryz.prog w = .ok (if ok then .tuple #[.func (.func 119) #[] #[], .bool true] else .func (.func 119) #[] #[]) w :=
  run_look Tryz.underlying124 Tryz.underlying3 w b (wideE 15) 15 h 13 12 _ rfl ok
theorem wide_look14 (w : World) (b : Nat) (h : w.heap[b]? = some (.map (wideE 15) 15)) (ok : Bool) : (Instr.lookup 124 (.map (some b)) (.int .i64 14) ok).run Tryz.prog w = .ok (if ok then .tuple #[.func (.func 120) #[] #[], .bool true] else .func (.func 120) #[] #[]) w :=
  run_look Tryz.underlying124 Tryz.underlying3 w b (wideE 15) 15 h 14 13 _ rfl ok
theorem wide_look15 (w : World) (b : Nat) (h : w.heap[b]? = some (.map (wideE 15) 15)) (ok : Bool) : (Instr.lookup 124 (.map (some b)) (.int .i64 15) ok).run Tryz.prog w = .ok (if ok then .tuple #[.func (.func 121) #[] #[], .bool true] else .func (.func 121) #[] #[]) w :=
  run_look Tryz.underlying124 Tryz.underlying3 w b (wideE 15) 15 h 15 14 _ rfl ok

/-- The entries of narrow's table. -/
def narrowL : List MapEntry := [⟨.int .i64 4, .func (.func 122) #[] #[], 0⟩, ⟨.int .i64 5, .func (.func 123) #[] #[], 1⟩, ⟨.int .i64 6, .func (.func 124) #[] #[], 2⟩, ⟨.int .i64 7, .func (.func 125) #[] #[], 3⟩, ⟨.int .i64 11, .func (.func 126) #[] #[], 4⟩, ⟨.int .i64 12, .func (.func 127) #[] #[], 5⟩, ⟨.int .i64 13, .func (.func 128) #[] #[], 6⟩]
def narrowE (i : Nat) : Array MapEntry := (narrowL.take i).toArray
theorem narrow_put0 (w : World) : (Instr.mapUpdate 124 (.map (some w.heap.size)) (.int .i64 4) (.func (.func 122) #[] #[])).run Tryz.prog (w.alloc (.map #[] 0)) = .ok () (w.alloc (.map (narrowE 1) 1)) :=
  run_put Tryz.underlying124 Tryz.underlying3 w #[] 0 4 _ rfl
theorem narrow_put1 (w : World) : (Instr.mapUpdate 124 (.map (some w.heap.size)) (.int .i64 5) (.func (.func 123) #[] #[])).run Tryz.prog (w.alloc (.map (narrowE 1) 1)) = .ok () (w.alloc (.map (narrowE 2) 2)) :=
  run_put Tryz.underlying124 Tryz.underlying3 w (narrowE 1) 1 5 _ rfl
theorem narrow_put2 (w : World) : (Instr.mapUpdate 124 (.map (some w.heap.size)) (.int .i64 6) (.func (.func 124) #[] #[])).run Tryz.prog (w.alloc (.map (narrowE 2) 2)) = .ok () (w.alloc (.map (narrowE 3) 3)) :=
  run_put Tryz.underlying124 Tryz.underlying3 w (narrowE 2) 2 6 _ rfl
theorem narrow_put3 (w : World) : (Instr.mapUpdate 124 (.map (some w.heap.size)) (.int .i64 7) (.func (.func 125) #[] #[])).run Tryz.prog (w.alloc (.map (narrowE 3) 3)) = .ok () (w.alloc (.map (narrowE 4) 4)) :=
  run_put Tryz.underlying124 Tryz.underlying3 w (narrowE 3) 3 7 _ rfl
theorem narrow_put4 (w : World) : (Instr.mapUpdate 124 (.map (some w.heap.size)) (.int .i64 11) (.func (.func 126) #[] #[])).run Tryz.prog (w.alloc (.map (narrowE 4) 4)) = .ok () (w.alloc (.map (narrowE 5) 5)) :=
  run_put Tryz.underlying124 Tryz.underlying3 w (narrowE 4) 4 11 _ rfl
theorem narrow_put5 (w : World) : (Instr.mapUpdate 124 (.map (some w.heap.size)) (.int .i64 12) (.func (.func 127) #[] #[])).run Tryz.prog (w.alloc (.map (narrowE 5) 5)) = .ok () (w.alloc (.map (narrowE 6) 6)) :=
  run_put Tryz.underlying124 Tryz.underlying3 w (narrowE 5) 5 12 _ rfl
theorem narrow_put6 (w : World) : (Instr.mapUpdate 124 (.map (some w.heap.size)) (.int .i64 13) (.func (.func 128) #[] #[])).run Tryz.prog (w.alloc (.map (narrowE 6) 6)) = .ok () (w.alloc (.map (narrowE 7) 7)) :=
  run_put Tryz.underlying124 Tryz.underlying3 w (narrowE 6) 6 13 _ rfl

set_option maxHeartbeats 800000 in
theorem narrow_any (w : World) : Calls Tryz.prog 71 #[] w fun e w' => ∃ b, e = .returned (.map (some b)) ∧ w'.heap[b]? = some (.map (narrowE 7) 7) ∧ Below w.heap.size w w' := by
  have hmm := @run_makeMap Tryz.prog
  have p0 := narrow_put0
  have p1 := narrow_put1
  have p2 := narrow_put2
  have p3 := narrow_put3
  have p4 := narrow_put4
  have p5 := narrow_put5
  have p6 := narrow_put6
  go_enter Tryz.func71, Tryz.ntmps71
  go_wp2
  go_ret
  exact ⟨_, rfl, heap_alloc_new w _, (Below.refl _ _).alloc (Nat.le_refl _) _⟩
theorem narrow_look4 (w : World) (b : Nat) (h : w.heap[b]? = some (.map (narrowE 7) 7)) (ok : Bool) : (Instr.lookup 124 (.map (some b)) (.int .i64 4) ok).run Tryz.prog w = .ok (if ok then .tuple #[.func (.func 122) #[] #[], .bool true] else .func (.func 122) #[] #[]) w :=
  run_look Tryz.underlying124 Tryz.underlying3 w b (narrowE 7) 7 h 4 0 _ rfl ok
theorem narrow_look5 (w : World) (b : Nat) (h : w.heap[b]? = some (.map (narrowE 7) 7)) (ok : Bool) : (Instr.lookup 124 (.map (some b)) (.int .i64 5) ok).run Tryz.prog w = .ok (if ok then .tuple #[.func (.func 123) #[] #[], .bool true] else .func (.func 123) #[] #[]) w :=
  run_look Tryz.underlying124 Tryz.underlying3 w b (narrowE 7) 7 h 5 1 _ rfl ok
theorem narrow_look6 (w : World) (b : Nat) (h : w.heap[b]? = some (.map (narrowE 7) 7)) (ok : Bool) : (Instr.lookup 124 (.map (some b)) (.int .i64 6) ok).run Tryz.prog w = .ok (if ok then .tuple #[.func (.func 124) #[] #[], .bool true] else .func (.func 124) #[] #[]) w :=
  run_look Tryz.underlying124 Tryz.underlying3 w b (narrowE 7) 7 h 6 2 _ rfl ok
theorem narrow_look7 (w : World) (b : Nat) (h : w.heap[b]? = some (.map (narrowE 7) 7)) (ok : Bool) : (Instr.lookup 124 (.map (some b)) (.int .i64 7) ok).run Tryz.prog w = .ok (if ok then .tuple #[.func (.func 125) #[] #[], .bool true] else .func (.func 125) #[] #[]) w :=
  run_look Tryz.underlying124 Tryz.underlying3 w b (narrowE 7) 7 h 7 3 _ rfl ok
theorem narrow_look11 (w : World) (b : Nat) (h : w.heap[b]? = some (.map (narrowE 7) 7)) (ok : Bool) : (Instr.lookup 124 (.map (some b)) (.int .i64 11) ok).run Tryz.prog w = .ok (if ok then .tuple #[.func (.func 126) #[] #[], .bool true] else .func (.func 126) #[] #[]) w :=
  run_look Tryz.underlying124 Tryz.underlying3 w b (narrowE 7) 7 h 11 4 _ rfl ok
theorem narrow_look12 (w : World) (b : Nat) (h : w.heap[b]? = some (.map (narrowE 7) 7)) (ok : Bool) : (Instr.lookup 124 (.map (some b)) (.int .i64 12) ok).run Tryz.prog w = .ok (if ok then .tuple #[.func (.func 127) #[] #[], .bool true] else .func (.func 127) #[] #[]) w :=
  run_look Tryz.underlying124 Tryz.underlying3 w b (narrowE 7) 7 h 12 5 _ rfl ok
theorem narrow_look13 (w : World) (b : Nat) (h : w.heap[b]? = some (.map (narrowE 7) 7)) (ok : Bool) : (Instr.lookup 124 (.map (some b)) (.int .i64 13) ok).run Tryz.prog w = .ok (if ok then .tuple #[.func (.func 128) #[] #[], .bool true] else .func (.func 128) #[] #[]) w :=
  run_look Tryz.underlying124 Tryz.underlying3 w b (narrowE 7) 7 h 13 6 _ rfl ok
theorem narrow_look1 (w : World) (b : Nat) (h : w.heap[b]? = some (.map (narrowE 7) 7)) (ok : Bool) : (Instr.lookup 124 (.map (some b)) (.int .i64 1) ok).run Tryz.prog w = .ok (if ok then .tuple #[.nilFunc, .bool false] else .nilFunc) w :=
  run_look_none Tryz.underlying124 Tryz.underlying3 w b (narrowE 7) 7 h 1 .nilFunc rfl (by kernel_rfl) ok
theorem narrow_look2 (w : World) (b : Nat) (h : w.heap[b]? = some (.map (narrowE 7) 7)) (ok : Bool) : (Instr.lookup 124 (.map (some b)) (.int .i64 2) ok).run Tryz.prog w = .ok (if ok then .tuple #[.nilFunc, .bool false] else .nilFunc) w :=
  run_look_none Tryz.underlying124 Tryz.underlying3 w b (narrowE 7) 7 h 2 .nilFunc rfl (by kernel_rfl) ok
theorem narrow_look3 (w : World) (b : Nat) (h : w.heap[b]? = some (.map (narrowE 7) 7)) (ok : Bool) : (Instr.lookup 124 (.map (some b)) (.int .i64 3) ok).run Tryz.prog w = .ok (if ok then .tuple #[.nilFunc, .bool false] else .nilFunc) w :=
  run_look_none Tryz.underlying124 Tryz.underlying3 w b (narrowE 7) 7 h 3 .nilFunc rfl (by kernel_rfl) ok
theorem narrow_look8 (w : World) (b : Nat) (h : w.heap[b]? = some (.map (narrowE 7) 7)) (ok : Bool) : (Instr.lookup 124 (.map (some b)) (.int .i64 8) ok).run Tryz.prog w = .ok (if ok then .tuple #[.nilFunc, .bool false] else .nilFunc) w :=
  run_look_none Tryz.underlying124 Tryz.underlying3 w b (narrowE 7) 7 h 8 .nilFunc rfl (by kernel_rfl) ok
theorem narrow_look9 (w : World) (b : Nat) (h : w.heap[b]? = some (.map (narrowE 7) 7)) (ok : Bool) : (Instr.lookup 124 (.map (some b)) (.int .i64 9) ok).run Tryz.prog w = .ok (if ok then .tuple #[.nilFunc, .bool false] else .nilFunc) w :=
  run_look_none Tryz.underlying124 Tryz.underlying3 w b (narrowE 7) 7 h 9 .nilFunc rfl (by kernel_rfl) ok
theorem narrow_look10 (w : World) (b : Nat) (h : w.heap[b]? = some (.map (narrowE 7) 7)) (ok : Bool) : (Instr.lookup 124 (.map (some b)) (.int .i64 10) ok).run Tryz.prog w = .ok (if ok then .tuple #[.nilFunc, .bool false] else .nilFunc) w :=
  run_look_none Tryz.underlying124 Tryz.underlying3 w b (narrowE 7) 7 h 10 .nilFunc rfl (by kernel_rfl) ok
theorem narrow_look14 (w : World) (b : Nat) (h : w.heap[b]? = some (.map (narrowE 7) 7)) (ok : Bool) : (Instr.lookup 124 (.map (some b)) (.int .i64 14) ok).run Tryz.prog w = .ok (if ok then .tuple #[.nilFunc, .bool false] else .nilFunc) w :=
  run_look_none Tryz.underlying124 Tryz.underlying3 w b (narrowE 7) 7 h 14 .nilFunc rfl (by kernel_rfl) ok
theorem narrow_look15 (w : World) (b : Nat) (h : w.heap[b]? = some (.map (narrowE 7) 7)) (ok : Bool) : (Instr.lookup 124 (.map (some b)) (.int .i64 15) ok).run Tryz.prog w = .ok (if ok then .tuple #[.nilFunc, .bool false] else .nilFunc) w :=
  run_look_none Tryz.underlying124 Tryz.underlying3 w b (narrowE 7) 7 h 15 .nilFunc rfl (by kernel_rfl) ok
end Go.Proofs.YtbkcpepalicbjaaGreat
