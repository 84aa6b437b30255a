import Derived.Test.YtcmplcdbkoodpaaGreatDoorRows
import Derived.Test.YtcmplcdbkoodpaaGreatDoorBase
import Derived.Test.YtcmplcdbkoodpaaGreatDoorBits
import Derived.WalkSpells
import Derived.WalkLawsBesides
import Derived.Lib.Hide
import Derived.Test.YtcmplcdbkoodpaaGreatDoorSgn
set_option maxHeartbeats 800000
namespace Go.Proofs.YtcmplcdbkoodpaaGreatDoor
open Go.RowKit
set_option linter.unusedVariables false
theorem check_int {P : Program} {kt : TypeId} (hk : P.underlying kt = some (.int .i64)) (e : Bool) (k : Int) (w : World) : (Instr.checkKey e 10000 kt (.int .i64 k)).run P w = .ok () w :=
 MapKept.run_checkKey (d := .int .i64) hk (show MapKept.IsKey (.int .i64) (.int .i64 k) from rfl) e 9999
theorem run_put {P : Program} {t kt et : TypeId} (hm : P.underlying t = some (.map kt et)) (hk : P.underlying kt = some (.int .i64)) (w : World) (es : Array MapEntry) (c : Nat) (k : Int) (v : Value)
 (hf : Instr.findNow (.int .i64) (.int .i64 k) es.toList 0 = some none) :
 (Instr.mapUpdate t (.map (some w.heap.size)) (.int .i64 k) v).run P (w.alloc (.map es c)) = .ok () (w.alloc (.map (es.push { key := .int .i64 k, val := v, born := c }) (c + 1))) := by
 have h1 : (w.alloc (.map es c)).heap[w.heap.size]? = some (.map es c) := heap_alloc_new w _
 simp [Instr.mapUpdate, run_underlying hm, MapKept.run_getObj_map h1, check_int hk, MapKept.run_findKey hk hf, MapKept.run_setObj_map _ h1, Result.andThen]
 show (⟨_, _, _, _, _⟩ : World) = ⟨_, _, _, _, _⟩
 congr 1
 show (w.heap.push _).setIfInBounds w.heap.size _ = w.heap.push _
 apply Array.toList_inj.1
 rw [Array.toList_setIfInBounds, Array.toList_push, Array.toList_push, <- Array.length_toList, List.set_append_right _ _ (Nat.le_refl _), Nat.sub_self]
 rfl
theorem run_look {P : Program} {t kt et : TypeId} (hm : P.underlying t = some (.map kt et)) (hk : P.underlying kt = some (.int .i64)) (w : World) (b : Nat) (es : Array MapEntry) (c : Nat) (hb : w.heap[b]? = some (.map es c)) (k : Int) (i : Nat) (v : Value)
 (hf : Instr.findNow (.int .i64) (.int .i64 k) es.toList 0 = some (some (i, v))) (ok : Bool) :
 (Instr.lookup t (.map (some b)) (.int .i64 k) ok).run P w = .ok (if ok then .tuple #[v, .bool true] else v) w := by
 cases ok <;> simp [Instr.lookup, run_underlying hm, MapKept.run_getObj_map hb, check_int hk, MapKept.run_findKey hk hf, Result.andThen]
theorem run_look_none {P : Program} {t kt et : TypeId} (hm : P.underlying t = some (.map kt et)) (hk : P.underlying kt = some (.int .i64)) (w : World) (b : Nat) (es : Array MapEntry) (c : Nat) (hb : w.heap[b]? = some (.map es c)) (k : Int) (z : Value)
 (hf : Instr.findNow (.int .i64) (.int .i64 k) es.toList 0 = some none) (hz : (zeroValue et).run P w = .ok z w) (ok : Bool) :
 (Instr.lookup t (.map (some b)) (.int .i64 k) ok).run P w = .ok (if ok then .tuple #[z, .bool false] else z) w := by
 cases ok <;> simp [Instr.lookup, run_underlying hm, MapKept.run_getObj_map hb, check_int hk, MapKept.run_findKey hk hf, hz, Result.andThen]
def wideL : List MapEntry := [⟨.int .i64 1, .func (.func 105) #[] #[], 0⟩, ⟨.int .i64 2, .func (.func 106) #[] #[], 1⟩, ⟨.int .i64 3, .func (.func 107) #[] #[], 2⟩, ⟨.int .i64 4, .func (.func 108) #[] #[], 3⟩, ⟨.int .i64 5, .func (.func 109) #[] #[], 4⟩, ⟨.int .i64 6, .func (.func 110) #[] #[], 5⟩, ⟨.int .i64 7, .func (.func 111) #[] #[], 6⟩, ⟨.int .i64 8, .func (.func 112) #[] #[], 7⟩, ⟨.int .i64 9, .func (.func 113) #[] #[], 8⟩, ⟨.int .i64 10, .func (.func 114) #[] #[], 9⟩, ⟨.int .i64 11, .func (.func 115) #[] #[], 10⟩, ⟨.int .i64 12, .func (.func 116) #[] #[], 11⟩, ⟨.int .i64 13, .func (.func 117) #[] #[], 12⟩, ⟨.int .i64 14, .func (.func 118) #[] #[], 13⟩, ⟨.int .i64 15, .func (.func 119) #[] #[], 14⟩]
def wideE (i : Nat) : Array MapEntry := (wideL.take i).toArray
theorem wide_put0 (w : World) : (Instr.mapUpdate 82 (.map (some w.heap.size)) (.int .i64 1) (.func (.func 105) #[] #[])).run Tryz.prog (w.alloc (.map #[] 0)) = .ok () (w.alloc (.map (wideE 1) 1)) :=
 run_put Tryz.underlying82 Tryz.underlying3 w #[] 0 1 _ rfl
theorem wide_put1 (w : World) : (Instr.mapUpdate 82 (.map (some w.heap.size)) (.int .i64 2) (.func (.func 106) #[] #[])).run Tryz.prog (w.alloc (.map (wideE 1) 1)) = .ok () (w.alloc (.map (wideE 2) 2)) :=
 run_put Tryz.underlying82 Tryz.underlying3 w (wideE 1) 1 2 _ rfl
theorem wide_put2 (w : World) : (Instr.mapUpdate 82 (.map (some w.heap.size)) (.int .i64 3) (.func (.func 107) #[] #[])).run Tryz.prog (w.alloc (.map (wideE 2) 2)) = .ok () (w.alloc (.map (wideE 3) 3)) :=
 run_put Tryz.underlying82 Tryz.underlying3 w (wideE 2) 2 3 _ rfl
theorem wide_put3 (w : World) : (Instr.mapUpdate 82 (.map (some w.heap.size)) (.int .i64 4) (.func (.func 108) #[] #[])).run Tryz.prog (w.alloc (.map (wideE 3) 3)) = .ok () (w.alloc (.map (wideE 4) 4)) :=
 run_put Tryz.underlying82 Tryz.underlying3 w (wideE 3) 3 4 _ rfl
theorem wide_put4 (w : World) : (Instr.mapUpdate 82 (.map (some w.heap.size)) (.int .i64 5) (.func (.func 109) #[] #[])).run Tryz.prog (w.alloc (.map (wideE 4) 4)) = .ok () (w.alloc (.map (wideE 5) 5)) :=
 run_put Tryz.underlying82 Tryz.underlying3 w (wideE 4) 4 5 _ rfl
theorem wide_put5 (w : World) : (Instr.mapUpdate 82 (.map (some w.heap.size)) (.int .i64 6) (.func (.func 110) #[] #[])).run Tryz.prog (w.alloc (.map (wideE 5) 5)) = .ok () (w.alloc (.map (wideE 6) 6)) :=
 run_put Tryz.underlying82 Tryz.underlying3 w (wideE 5) 5 6 _ rfl
theorem wide_put6 (w : World) : (Instr.mapUpdate 82 (.map (some w.heap.size)) (.int .i64 7) (.func (.func 111) #[] #[])).run Tryz.prog (w.alloc (.map (wideE 6) 6)) = .ok () (w.alloc (.map (wideE 7) 7)) :=
 run_put Tryz.underlying82 Tryz.underlying3 w (wideE 6) 6 7 _ rfl
theorem wide_put7 (w : World) : (Instr.mapUpdate 82 (.map (some w.heap.size)) (.int .i64 8) (.func (.func 112) #[] #[])).run Tryz.prog (w.alloc (.map (wideE 7) 7)) = .ok () (w.alloc (.map (wideE 8) 8)) :=
 run_put Tryz.underlying82 Tryz.underlying3 w (wideE 7) 7 8 _ rfl
theorem wide_put8 (w : World) : (Instr.mapUpdate 82 (.map (some w.heap.size)) (.int .i64 9) (.func (.func 113) #[] #[])).run Tryz.prog (w.alloc (.map (wideE 8) 8)) = .ok () (w.alloc (.map (wideE 9) 9)) :=
 run_put Tryz.underlying82 Tryz.underlying3 w (wideE 8) 8 9 _ rfl
theorem wide_put9 (w : World) : (Instr.mapUpdate 82 (.map (some w.heap.size)) (.int .i64 10) (.func (.func 114) #[] #[])).run Tryz.prog (w.alloc (.map (wideE 9) 9)) = .ok () (w.alloc (.map (wideE 10) 10)) :=
 run_put Tryz.underlying82 Tryz.underlying3 w (wideE 9) 9 10 _ rfl
theorem wide_put10 (w : World) : (Instr.mapUpdate 82 (.map (some w.heap.size)) (.int .i64 11) (.func (.func 115) #[] #[])).run Tryz.prog (w.alloc (.map (wideE 10) 10)) = .ok () (w.alloc (.map (wideE 11) 11)) :=
 run_put Tryz.underlying82 Tryz.underlying3 w (wideE 10) 10 11 _ rfl
theorem wide_put11 (w : World) : (Instr.mapUpdate 82 (.map (some w.heap.size)) (.int .i64 12) (.func (.func 116) #[] #[])).run Tryz.prog (w.alloc (.map (wideE 11) 11)) = .ok () (w.alloc (.map (wideE 12) 12)) :=
 run_put Tryz.underlying82 Tryz.underlying3 w (wideE 11) 11 12 _ rfl
theorem wide_put12 (w : World) : (Instr.mapUpdate 82 (.map (some w.heap.size)) (.int .i64 13) (.func (.func 117) #[] #[])).run Tryz.prog (w.alloc (.map (wideE 12) 12)) = .ok () (w.alloc (.map (wideE 13) 13)) :=
 run_put Tryz.underlying82 Tryz.underlying3 w (wideE 12) 12 13 _ rfl
theorem wide_put13 (w : World) : (Instr.mapUpdate 82 (.map (some w.heap.size)) (.int .i64 14) (.func (.func 118) #[] #[])).run Tryz.prog (w.alloc (.map (wideE 13) 13)) = .ok () (w.alloc (.map (wideE 14) 14)) :=
 run_put Tryz.underlying82 Tryz.underlying3 w (wideE 13) 13 14 _ rfl
theorem wide_put14 (w : World) : (Instr.mapUpdate 82 (.map (some w.heap.size)) (.int .i64 15) (.func (.func 119) #[] #[])).run Tryz.prog (w.alloc (.map (wideE 14) 14)) = .ok () (w.alloc (.map (wideE 15) 15)) :=
 run_put Tryz.underlying82 Tryz.underlying3 w (wideE 14) 14 15 _ rfl
theorem wide_any (w : World) : Calls Tryz.prog 59 #[] w fun e w' => ∃ b, e = .returned (.map (some b)) /\ w'.heap[b]? = some (.map (wideE 15) 15) /\ Below w.heap.size w w' := by
 have hmm := @run_makeMap Tryz.prog
 have p0 := wide_put0
 have p1 := wide_put1
 have p2 := wide_put2
 have p3 := wide_put3
 have p4 := wide_put4
 have p5 := wide_put5
 have p6 := wide_put6
 have p7 := wide_put7
 have p8 := wide_put8
 have p9 := wide_put9
 have p10 := wide_put10
 have p11 := wide_put11
 have p12 := wide_put12
 have p13 := wide_put13
 have p14 := wide_put14
 go_enter Tryz.func59, Tryz.ntmps59
 go_wp2
 go_ret
 exact ⟨_, rfl, heap_alloc_new w _, (Below.refl _ _).alloc (Nat.le_refl _) _⟩
theorem wide_look1 (w : World) (b : Nat) (h : w.heap[b]? = some (.map (wideE 15) 15)) (ok : Bool) : (Instr.lookup 82 (.map (some b)) (.int .i64 1) ok).run Tryz.prog w = .ok (if ok then .tuple #[.func (.func 105) #[] #[], .bool true] else .func (.func 105) #[] #[]) w :=
 run_look Tryz.underlying82 Tryz.underlying3 w b (wideE 15) 15 h 1 0 _ rfl ok
theorem wide_look2 (w : World) (b : Nat) (h : w.heap[b]? = some (.map (wideE 15) 15)) (ok : Bool) : (Instr.lookup 82 (.map (some b)) (.int .i64 2) ok).run Tryz.prog w = .ok (if ok then .tuple #[.func (.func 106) #[] #[], .bool true] else .func (.func 106) #[] #[]) w :=
 run_look Tryz.underlying82 Tryz.underlying3 w b (wideE 15) 15 h 2 1 _ rfl ok
theorem wide_look3 (w : World) (b : Nat) (h : w.heap[b]? = some (.map (wideE 15) 15)) (ok : Bool) : (Instr.lookup 82 (.map (some b)) (.int .i64 3) ok).run Tryz.prog w = .ok (if ok then .tuple #[.func (.func 107) #[] #[], .bool true] else .func (.func 107) #[] #[]) w :=
 run_look Tryz.underlying82 Tryz.underlying3 w b (wideE 15) 15 h 3 2 _ rfl ok
theorem wide_look4 (w : World) (b : Nat) (h : w.heap[b]? = some (.map (wideE 15) 15)) (ok : Bool) : (Instr.lookup 82 (.map (some b)) (.int .i64 4) ok).run Tryz.prog w = .ok (if ok then .tuple #[.func (.func 108) #[] #[], .bool true] else .func (.func 108) #[] #[]) w :=
 run_look Tryz.underlying82 Tryz.underlying3 w b (wideE 15) 15 h 4 3 _ rfl ok
theorem wide_look5 (w : World) (b : Nat) (h : w.heap[b]? = some (.map (wideE 15) 15)) (ok : Bool) : (Instr.lookup 82 (.map (some b)) (.int .i64 5) ok).run Tryz.prog w = .ok (if ok then .tuple #[.func (.func 109) #[] #[], .bool true] else .func (.func 109) #[] #[]) w :=
 run_look Tryz.underlying82 Tryz.underlying3 w b (wideE 15) 15 h 5 4 _ rfl ok
theorem wide_look6 (w : World) (b : Nat) (h : w.heap[b]? = some (.map (wideE 15) 15)) (ok : Bool) : (Instr.lookup 82 (.map (some b)) (.int .i64 6) ok).run Tryz.prog w = .ok (if ok then .tuple #[.func (.func 110) #[] #[], .bool true] else .func (.func 110) #[] #[]) w :=
 run_look Tryz.underlying82 Tryz.underlying3 w b (wideE 15) 15 h 6 5 _ rfl ok
theorem wide_look7 (w : World) (b : Nat) (h : w.heap[b]? = some (.map (wideE 15) 15)) (ok : Bool) : (Instr.lookup 82 (.map (some b)) (.int .i64 7) ok).run Tryz.prog w = .ok (if ok then .tuple #[.func (.func 111) #[] #[], .bool true] else .func (.func 111) #[] #[]) w :=
 run_look Tryz.underlying82 Tryz.underlying3 w b (wideE 15) 15 h 7 6 _ rfl ok
theorem wide_look8 (w : World) (b : Nat) (h : w.heap[b]? = some (.map (wideE 15) 15)) (ok : Bool) : (Instr.lookup 82 (.map (some b)) (.int .i64 8) ok).run Tryz.prog w = .ok (if ok then .tuple #[.func (.func 112) #[] #[], .bool true] else .func (.func 112) #[] #[]) w :=
 run_look Tryz.underlying82 Tryz.underlying3 w b (wideE 15) 15 h 8 7 _ rfl ok
theorem wide_look9 (w : World) (b : Nat) (h : w.heap[b]? = some (.map (wideE 15) 15)) (ok : Bool) : (Instr.lookup 82 (.map (some b)) (.int .i64 9) ok).run Tryz.prog w = .ok (if ok then .tuple #[.func (.func 113) #[] #[], .bool true] else .func (.func 113) #[] #[]) w :=
 run_look Tryz.underlying82 Tryz.underlying3 w b (wideE 15) 15 h 9 8 _ rfl ok
theorem wide_look10 (w : World) (b : Nat) (h : w.heap[b]? = some (.map (wideE 15) 15)) (ok : Bool) : (Instr.lookup 82 (.map (some b)) (.int .i64 10) ok).run Tryz.prog w = .ok (if ok then .tuple #[.func (.func 114) #[] #[], .bool true] else .func (.func 114) #[] #[]) w :=
 run_look Tryz.underlying82 Tryz.underlying3 w b (wideE 15) 15 h 10 9 _ rfl ok
theorem wide_look11 (w : World) (b : Nat) (h : w.heap[b]? = some (.map (wideE 15) 15)) (ok : Bool) : (Instr.lookup 82 (.map (some b)) (.int .i64 11) ok).run Tryz.prog w = .ok (if ok then .tuple #[.func (.func 115) #[] #[], .bool true] else .func (.func 115) #[] #[]) w :=
 run_look Tryz.underlying82 Tryz.underlying3 w b (wideE 15) 15 h 11 10 _ rfl ok
theorem wide_look12 (w : World) (b : Nat) (h : w.heap[b]? = some (.map (wideE 15) 15)) (ok : Bool) : (Instr.lookup 82 (.map (some b)) (.int .i64 12) ok).run Tryz.prog w = .ok (if ok then .tuple #[.func (.func 116) #[] #[], .bool true] else .func (.func 116) #[] #[]) w :=
 run_look Tryz.underlying82 Tryz.underlying3 w b (wideE 15) 15 h 12 11 _ rfl ok
theorem wide_look13 (w : World) (b : Nat) (h : w.heap[b]? = some (.map (wideE 15) 15)) (ok : Bool) : (Instr.lookup 82 (.map (some b)) (.int .i64 13) ok).run Tryz.prog w = .ok (if ok then .tuple #[.func (.func 117) #[] #[], .bool true] else .func (.func 117) #[] #[]) w :=
 run_look Tryz.underlying82 Tryz.underlying3 w b (wideE 15) 15 h 13 12 _ rfl ok
theorem wide_look14 (w : World) (b : Nat) (h : w.heap[b]? = some (.map (wideE 15) 15)) (ok : Bool) : (Instr.lookup 82 (.map (some b)) (.int .i64 14) ok).run Tryz.prog w = .ok (if ok then .tuple #[.func (.func 118) #[] #[], .bool true] else .func (.func 118) #[] #[]) w :=
 run_look Tryz.underlying82 Tryz.underlying3 w b (wideE 15) 15 h 14 13 _ rfl ok
theorem wide_look15 (w : World) (b : Nat) (h : w.heap[b]? = some (.map (wideE 15) 15)) (ok : Bool) : (Instr.lookup 82 (.map (some b)) (.int .i64 15) ok).run Tryz.prog w = .ok (if ok then .tuple #[.func (.func 119) #[] #[], .bool true] else .func (.func 119) #[] #[]) w :=
 run_look Tryz.underlying82 Tryz.underlying3 w b (wideE 15) 15 h 15 14 _ rfl ok
def narrowL : List MapEntry := [⟨.int .i64 4, .func (.func 120) #[] #[], 0⟩, ⟨.int .i64 5, .func (.func 121) #[] #[], 1⟩, ⟨.int .i64 6, .func (.func 122) #[] #[], 2⟩, ⟨.int .i64 7, .func (.func 123) #[] #[], 3⟩, ⟨.int .i64 11, .func (.func 124) #[] #[], 4⟩, ⟨.int .i64 12, .func (.func 125) #[] #[], 5⟩, ⟨.int .i64 13, .func (.func 126) #[] #[], 6⟩]
def narrowE (i : Nat) : Array MapEntry := (narrowL.take i).toArray
theorem narrow_put0 (w : World) : (Instr.mapUpdate 82 (.map (some w.heap.size)) (.int .i64 4) (.func (.func 120) #[] #[])).run Tryz.prog (w.alloc (.map #[] 0)) = .ok () (w.alloc (.map (narrowE 1) 1)) :=
 run_put Tryz.underlying82 Tryz.underlying3 w #[] 0 4 _ rfl
theorem narrow_put1 (w : World) : (Instr.mapUpdate 82 (.map (some w.heap.size)) (.int .i64 5) (.func (.func 121) #[] #[])).run Tryz.prog (w.alloc (.map (narrowE 1) 1)) = .ok () (w.alloc (.map (narrowE 2) 2)) :=
 run_put Tryz.underlying82 Tryz.underlying3 w (narrowE 1) 1 5 _ rfl
theorem narrow_put2 (w : World) : (Instr.mapUpdate 82 (.map (some w.heap.size)) (.int .i64 6) (.func (.func 122) #[] #[])).run Tryz.prog (w.alloc (.map (narrowE 2) 2)) = .ok () (w.alloc (.map (narrowE 3) 3)) :=
 run_put Tryz.underlying82 Tryz.underlying3 w (narrowE 2) 2 6 _ rfl
theorem narrow_put3 (w : World) : (Instr.mapUpdate 82 (.map (some w.heap.size)) (.int .i64 7) (.func (.func 123) #[] #[])).run Tryz.prog (w.alloc (.map (narrowE 3) 3)) = .ok () (w.alloc (.map (narrowE 4) 4)) :=
 run_put Tryz.underlying82 Tryz.underlying3 w (narrowE 3) 3 7 _ rfl
theorem narrow_put4 (w : World) : (Instr.mapUpdate 82 (.map (some w.heap.size)) (.int .i64 11) (.func (.func 124) #[] #[])).run Tryz.prog (w.alloc (.map (narrowE 4) 4)) = .ok () (w.alloc (.map (narrowE 5) 5)) :=
 run_put Tryz.underlying82 Tryz.underlying3 w (narrowE 4) 4 11 _ rfl
theorem narrow_put5 (w : World) : (Instr.mapUpdate 82 (.map (some w.heap.size)) (.int .i64 12) (.func (.func 125) #[] #[])).run Tryz.prog (w.alloc (.map (narrowE 5) 5)) = .ok () (w.alloc (.map (narrowE 6) 6)) :=
 run_put Tryz.underlying82 Tryz.underlying3 w (narrowE 5) 5 12 _ rfl
theorem narrow_put6 (w : World) : (Instr.mapUpdate 82 (.map (some w.heap.size)) (.int .i64 13) (.func (.func 126) #[] #[])).run Tryz.prog (w.alloc (.map (narrowE 6) 6)) = .ok () (w.alloc (.map (narrowE 7) 7)) :=
 run_put Tryz.underlying82 Tryz.underlying3 w (narrowE 6) 6 13 _ rfl
theorem narrow_any (w : World) : Calls Tryz.prog 60 #[] w fun e w' => ∃ b, e = .returned (.map (some b)) /\ w'.heap[b]? = some (.map (narrowE 7) 7) /\ Below w.heap.size w w' := by
 have hmm := @run_makeMap Tryz.prog
 have p0 := narrow_put0
 have p1 := narrow_put1
 have p2 := narrow_put2
 have p3 := narrow_put3
 have p4 := narrow_put4
 have p5 := narrow_put5
 have p6 := narrow_put6
 go_enter Tryz.func60, Tryz.ntmps60
 go_wp2
 go_ret
 exact ⟨_, rfl, heap_alloc_new w _, (Below.refl _ _).alloc (Nat.le_refl _) _⟩
theorem narrow_look4 (w : World) (b : Nat) (h : w.heap[b]? = some (.map (narrowE 7) 7)) (ok : Bool) : (Instr.lookup 82 (.map (some b)) (.int .i64 4) ok).run Tryz.prog w = .ok (if ok then .tuple #[.func (.func 120) #[] #[], .bool true] else .func (.func 120) #[] #[]) w :=
 run_look Tryz.underlying82 Tryz.underlying3 w b (narrowE 7) 7 h 4 0 _ rfl ok
theorem narrow_look5 (w : World) (b : Nat) (h : w.heap[b]? = some (.map (narrowE 7) 7)) (ok : Bool) : (Instr.lookup 82 (.map (some b)) (.int .i64 5) ok).run Tryz.prog w = .ok (if ok then .tuple #[.func (.func 121) #[] #[], .bool true] else .func (.func 121) #[] #[]) w :=
 run_look Tryz.underlying82 Tryz.underlying3 w b (narrowE 7) 7 h 5 1 _ rfl ok
theorem narrow_look6 (w : World) (b : Nat) (h : w.heap[b]? = some (.map (narrowE 7) 7)) (ok : Bool) : (Instr.lookup 82 (.map (some b)) (.int .i64 6) ok).run Tryz.prog w = .ok (if ok then .tuple #[.func (.func 122) #[] #[], .bool true] else .func (.func 122) #[] #[]) w :=
 run_look Tryz.underlying82 Tryz.underlying3 w b (narrowE 7) 7 h 6 2 _ rfl ok
theorem narrow_look7 (w : World) (b : Nat) (h : w.heap[b]? = some (.map (narrowE 7) 7)) (ok : Bool) : (Instr.lookup 82 (.map (some b)) (.int .i64 7) ok).run Tryz.prog w = .ok (if ok then .tuple #[.func (.func 123) #[] #[], .bool true] else .func (.func 123) #[] #[]) w :=
 run_look Tryz.underlying82 Tryz.underlying3 w b (narrowE 7) 7 h 7 3 _ rfl ok
theorem narrow_look11 (w : World) (b : Nat) (h : w.heap[b]? = some (.map (narrowE 7) 7)) (ok : Bool) : (Instr.lookup 82 (.map (some b)) (.int .i64 11) ok).run Tryz.prog w = .ok (if ok then .tuple #[.func (.func 124) #[] #[], .bool true] else .func (.func 124) #[] #[]) w :=
 run_look Tryz.underlying82 Tryz.underlying3 w b (narrowE 7) 7 h 11 4 _ rfl ok
theorem narrow_look12 (w : World) (b : Nat) (h : w.heap[b]? = some (.map (narrowE 7) 7)) (ok : Bool) : (Instr.lookup 82 (.map (some b)) (.int .i64 12) ok).run Tryz.prog w = .ok (if ok then .tuple #[.func (.func 125) #[] #[], .bool true] else .func (.func 125) #[] #[]) w :=
 run_look Tryz.underlying82 Tryz.underlying3 w b (narrowE 7) 7 h 12 5 _ rfl ok
theorem narrow_look13 (w : World) (b : Nat) (h : w.heap[b]? = some (.map (narrowE 7) 7)) (ok : Bool) : (Instr.lookup 82 (.map (some b)) (.int .i64 13) ok).run Tryz.prog w = .ok (if ok then .tuple #[.func (.func 126) #[] #[], .bool true] else .func (.func 126) #[] #[]) w :=
 run_look Tryz.underlying82 Tryz.underlying3 w b (narrowE 7) 7 h 13 6 _ rfl ok
theorem narrow_look1 (w : World) (b : Nat) (h : w.heap[b]? = some (.map (narrowE 7) 7)) (ok : Bool) : (Instr.lookup 82 (.map (some b)) (.int .i64 1) ok).run Tryz.prog w = .ok (if ok then .tuple #[.nilFunc, .bool false] else .nilFunc) w :=
 run_look_none Tryz.underlying82 Tryz.underlying3 w b (narrowE 7) 7 h 1 .nilFunc rfl (by kernel_rfl) ok
theorem narrow_look2 (w : World) (b : Nat) (h : w.heap[b]? = some (.map (narrowE 7) 7)) (ok : Bool) : (Instr.lookup 82 (.map (some b)) (.int .i64 2) ok).run Tryz.prog w = .ok (if ok then .tuple #[.nilFunc, .bool false] else .nilFunc) w :=
 run_look_none Tryz.underlying82 Tryz.underlying3 w b (narrowE 7) 7 h 2 .nilFunc rfl (by kernel_rfl) ok
theorem narrow_look3 (w : World) (b : Nat) (h : w.heap[b]? = some (.map (narrowE 7) 7)) (ok : Bool) : (Instr.lookup 82 (.map (some b)) (.int .i64 3) ok).run Tryz.prog w = .ok (if ok then .tuple #[.nilFunc, .bool false] else .nilFunc) w :=
 run_look_none Tryz.underlying82 Tryz.underlying3 w b (narrowE 7) 7 h 3 .nilFunc rfl (by kernel_rfl) ok
theorem narrow_look8 (w : World) (b : Nat) (h : w.heap[b]? = some (.map (narrowE 7) 7)) (ok : Bool) : (Instr.lookup 82 (.map (some b)) (.int .i64 8) ok).run Tryz.prog w = .ok (if ok then .tuple #[.nilFunc, .bool false] else .nilFunc) w :=
 run_look_none Tryz.underlying82 Tryz.underlying3 w b (narrowE 7) 7 h 8 .nilFunc rfl (by kernel_rfl) ok
theorem narrow_look9 (w : World) (b : Nat) (h : w.heap[b]? = some (.map (narrowE 7) 7)) (ok : Bool) : (Instr.lookup 82 (.map (some b)) (.int .i64 9) ok).run Tryz.prog w = .ok (if ok then .tuple #[.nilFunc, .bool false] else .nilFunc) w :=
 run_look_none Tryz.underlying82 Tryz.underlying3 w b (narrowE 7) 7 h 9 .nilFunc rfl (by kernel_rfl) ok
theorem narrow_look10 (w : World) (b : Nat) (h : w.heap[b]? = some (.map (narrowE 7) 7)) (ok : Bool) : (Instr.lookup 82 (.map (some b)) (.int .i64 10) ok).run Tryz.prog w = .ok (if ok then .tuple #[.nilFunc, .bool false] else .nilFunc) w :=
 run_look_none Tryz.underlying82 Tryz.underlying3 w b (narrowE 7) 7 h 10 .nilFunc rfl (by kernel_rfl) ok
theorem narrow_look14 (w : World) (b : Nat) (h : w.heap[b]? = some (.map (narrowE 7) 7)) (ok : Bool) : (Instr.lookup 82 (.map (some b)) (.int .i64 14) ok).run Tryz.prog w = .ok (if ok then .tuple #[.nilFunc, .bool false] else .nilFunc) w :=
 run_look_none Tryz.underlying82 Tryz.underlying3 w b (narrowE 7) 7 h 14 .nilFunc rfl (by kernel_rfl) ok
theorem narrow_look15 (w : World) (b : Nat) (h : w.heap[b]? = some (.map (narrowE 7) 7)) (ok : Bool) : (Instr.lookup 82 (.map (some b)) (.int .i64 15) ok).run Tryz.prog w = .ok (if ok then .tuple #[.nilFunc, .bool false] else .nilFunc) w :=
 run_look_none Tryz.underlying82 Tryz.underlying3 w b (narrowE 7) 7 h 15 .nilFunc rfl (by kernel_rfl) ok
def w_add (n x y : Nat) : Nat := (x + y) % 2 ^ n
def w_sub (n x y : Nat) : Nat := (x + (2 ^ n - y)) % 2 ^ n
def w_mul (n x y : Nat) : Nat := x * y % 2 ^ n
def w_div (n x y : Nat) : Nat := x / y
def w_mod (n x y : Nat) : Nat := x % y
def w_sdiv (n x y : Nat) : Nat := ((sgn n x).tdiv (sgn n y) % 2 ^ n).toNat
def w_smod (n x y : Nat) : Nat := ((sgn n x).tmod (sgn n y) % 2 ^ n).toNat
def w_or (n x y : Nat) : Nat := x ||| y
def w_and (n x y : Nat) : Nat := x &&& y
def w_xor (n x y : Nat) : Nat := x ^^^ y
def w_lsh (n x y : Nat) : Nat := x * 2 ^ (y % n) % 2 ^ n
def w_rsh (n x y : Nat) : Nat := x / 2 ^ (y % n)
def w_arsh (n x y : Nat) : Nat := (sgn n x / 2 ^ (y % n) % 2 ^ n).toNat
def w_neg (n x y : Nat) : Nat := (2 ^ n - x) % 2 ^ n
def w_mov (n x y : Nat) : Nat := y
theorem mask63 (y : Nat) (hy : y < 18446744073709551616) : bits BinOp.and IntKind.u64 (y : Int) 63 = ((y % 64 : Nat) : Int) := by
 have := bits_and_u64_nat y 63 hy (by decide)
 rw [nat_mask6] at this
 exact this
theorem mask31 (y : Nat) (hy : y < 18446744073709551616) : bits BinOp.and IntKind.u64 (y : Int) 31 = ((y % 32 : Nat) : Int) := by
 have := bits_and_u64_nat y 31 hy (by decide)
 rw [nat_mask5] at this
 exact this
theorem maskLow (y : Nat) (hy : y < 18446744073709551616) : bits BinOp.and IntKind.u64 (y : Int) 4294967295 = ((y % 4294967296 : Nat) : Int) := by
 have := bits_and_u64_nat y 4294967295 hy (by decide)
 rw [nat_mask32] at this
 exact this
theorem low_any (x : Nat) (hx : x < 18446744073709551616) (w : World) : Calls Tryz.prog 57 #[.int .u64 x] w fun e w' => e = .returned (.int .u64 ((x % 2 ^ 32 : Nat) : Int)) /\ w = w' := by
 have hm := maskLow x hx
 go_enter Tryz.func57, Tryz.ntmps57
 go_wp2
 go_ret
 exact ⟨ret_int (by simp), rfl⟩
theorem u64_nat {x : Nat} {z : Int} (h : z = ((x : Nat) : Int)) : IntKind.u64.wrap z = ((x % 2 ^ 64 : Nat) : Int) := by
 subst h; rw [IntKind.wrap_u64]; omega
theorem u64_toNat (z : Int) : IntKind.u64.wrap z = (((z % 2 ^ 64).toNat : Nat) : Int) := by
 rw [IntKind.wrap_u64]
 have e : (2 : Int) ^ 64 = 18446744073709551616 := rfl
 rw [e]; omega
theorem u64_wrap64 (z : Int) : IntKind.u64.wrap (wrap64 z) = IntKind.u64.wrap z := by
 rw [IntKind.wrap_u64, IntKind.wrap_u64]; unfold wrap64; omega
theorem low_toNat (z : Int) : z % 4294967296 = (((z % 2 ^ 32).toNat : Nat) : Int) := by
 have e : (2 : Int) ^ 32 = 4294967296 := rfl
 rw [e]; omega
theorem wrap32_mod (z : Int) : wrap32 z % 4294967296 = z % 4294967296 := by unfold wrap32; omega
theorem Add_any (x y : Nat) (hx : x < 18446744073709551616) (hy : y < 18446744073709551616) (w : World) : Calls Tryz.prog 105 #[.int .u64 x, .int .u64 y] w fun e w' => e = .returned (.int .u64 ((w_add 64 x y : Nat) : Int)) /\ w = w' := by
 go_enter Tryz.func105, Tryz.ntmps105
 go_wp2
 go_ret
 exact ⟨ret_int (u64_nat (by simp)), rfl⟩
theorem Sub_any (x y : Nat) (hx : x < 18446744073709551616) (hy : y < 18446744073709551616) (w : World) : Calls Tryz.prog 106 #[.int .u64 x, .int .u64 y] w fun e w' => e = .returned (.int .u64 ((w_sub 64 x y : Nat) : Int)) /\ w = w' := by
 go_enter Tryz.func106, Tryz.ntmps106
 go_wp2
 go_ret
 exact ⟨ret_int (by rw [IntKind.wrap_u64]; unfold w_sub; omega), rfl⟩
theorem Mul_any (x y : Nat) (hx : x < 18446744073709551616) (hy : y < 18446744073709551616) (w : World) : Calls Tryz.prog 107 #[.int .u64 x, .int .u64 y] w fun e w' => e = .returned (.int .u64 ((w_mul 64 x y : Nat) : Int)) /\ w = w' := by
 go_enter Tryz.func107, Tryz.ntmps107
 go_wp2
 go_ret
 exact ⟨ret_int (u64_nat (by simp)), rfl⟩
theorem Div_any (x y : Nat) (hx : x < 18446744073709551616) (hy : y < 18446744073709551616) (h0 : y ≠ 0) (w : World) : Calls Tryz.prog 108 #[.int .u64 x, .int .u64 y] w fun e w' => e = .returned (.int .u64 ((w_div 64 x y : Nat) : Int)) /\ w = w' := by
 go_enter Tryz.func108, Tryz.ntmps108
 go_wp2
 go_ret
 exact ⟨ret_int (by have hq := Nat.div_le_self x y; rw [u64_nat (x := x / y) (by simp), Nat.mod_eq_of_lt (show x / y < 2 ^ 64 by omega)]; rfl), rfl⟩
theorem Mod_any (x y : Nat) (hx : x < 18446744073709551616) (hy : y < 18446744073709551616) (h0 : y ≠ 0) (w : World) : Calls Tryz.prog 109 #[.int .u64 x, .int .u64 y] w fun e w' => e = .returned (.int .u64 ((w_mod 64 x y : Nat) : Int)) /\ w = w' := by
 go_enter Tryz.func109, Tryz.ntmps109
 go_wp2
 go_ret
 exact ⟨ret_int (by simp [w_mod]), rfl⟩
theorem Sdiv_any (x y : Nat) (hx : x < 18446744073709551616) (hy : y < 18446744073709551616) (h0 : y ≠ 0) (w : World) : Calls Tryz.prog 110 #[.int .u64 x, .int .u64 y] w fun e w' => e = .returned (.int .u64 ((w_sdiv 64 x y : Nat) : Int)) /\ w = w' := by
 have hs : ¬ wrap64 (y : Int) = 0 := by unfold wrap64; omega
 go_enter Tryz.func110, Tryz.ntmps110
 go_wp2
 go_ret
 exact ⟨ret_int (by rw [u64_wrap64, u64_toNat]; unfold w_sdiv; rw [sgn64 hx, sgn64 hy]), rfl⟩
theorem Smod_any (x y : Nat) (hx : x < 18446744073709551616) (hy : y < 18446744073709551616) (h0 : y ≠ 0) (w : World) : Calls Tryz.prog 111 #[.int .u64 x, .int .u64 y] w fun e w' => e = .returned (.int .u64 ((w_smod 64 x y : Nat) : Int)) /\ w = w' := by
 have hs : ¬ wrap64 (y : Int) = 0 := by unfold wrap64; omega
 go_enter Tryz.func111, Tryz.ntmps111
 go_wp2
 go_ret
 exact ⟨ret_int (by rw [u64_toNat]; unfold w_smod; rw [sgn64 hx, sgn64 hy]), rfl⟩
theorem Or_any (x y : Nat) (hx : x < 18446744073709551616) (hy : y < 18446744073709551616) (w : World) : Calls Tryz.prog 112 #[.int .u64 x, .int .u64 y] w fun e w' => e = .returned (.int .u64 ((w_or 64 x y : Nat) : Int)) /\ w = w' := by
 go_enter Tryz.func112, Tryz.ntmps112
 go_wp2
 go_ret
 exact ⟨ret_int (bits_or_u64_nat x y hx hy), rfl⟩
theorem And_any (x y : Nat) (hx : x < 18446744073709551616) (hy : y < 18446744073709551616) (w : World) : Calls Tryz.prog 113 #[.int .u64 x, .int .u64 y] w fun e w' => e = .returned (.int .u64 ((w_and 64 x y : Nat) : Int)) /\ w = w' := by
 go_enter Tryz.func113, Tryz.ntmps113
 go_wp2
 go_ret
 exact ⟨ret_int (bits_and_u64_nat x y hx hy), rfl⟩
theorem Xor_any (x y : Nat) (hx : x < 18446744073709551616) (hy : y < 18446744073709551616) (w : World) : Calls Tryz.prog 114 #[.int .u64 x, .int .u64 y] w fun e w' => e = .returned (.int .u64 ((w_xor 64 x y : Nat) : Int)) /\ w = w' := by
 go_enter Tryz.func114, Tryz.ntmps114
 go_wp2
 go_ret
 exact ⟨ret_int (bits_xor_u64_nat x y hx hy), rfl⟩
theorem Lsh_any (x y : Nat) (hx : x < 18446744073709551616) (hy : y < 18446744073709551616) (w : World) : Calls Tryz.prog 115 #[.int .u64 x, .int .u64 y] w fun e w' => e = .returned (.int .u64 ((w_lsh 64 x y : Nat) : Int)) /\ w = w' := by
 have hm := mask63 y hy
 have hk : y % 64 < 64 := Nat.mod_lt _ (by decide)
 obtain ⟨k, hke⟩ : ∃ k, k = y % 64 := ⟨_, rfl⟩
 rw [<- hke] at hm hk
 have HK := Lib.hid hke
 clear hke
 go_enter Tryz.func115, Tryz.ntmps115
 go_wp2
 go_ret
 exact ⟨ret_int (by unfold w_lsh; rw [<- HK.out]; exact u64_nat (by simp)), rfl⟩
theorem Rsh_any (x y : Nat) (hx : x < 18446744073709551616) (hy : y < 18446744073709551616) (w : World) : Calls Tryz.prog 116 #[.int .u64 x, .int .u64 y] w fun e w' => e = .returned (.int .u64 ((w_rsh 64 x y : Nat) : Int)) /\ w = w' := by
 have hm := mask63 y hy
 have hk : y % 64 < 64 := Nat.mod_lt _ (by decide)
 obtain ⟨k, hke⟩ : ∃ k, k = y % 64 := ⟨_, rfl⟩
 rw [<- hke] at hm hk
 have HK := Lib.hid hke
 clear hke
 go_enter Tryz.func116, Tryz.ntmps116
 go_wp2
 go_ret
 exact ⟨ret_int (by unfold w_rsh; rw [<- HK.out]; simp), rfl⟩
theorem Arsh_any (x y : Nat) (hx : x < 18446744073709551616) (hy : y < 18446744073709551616) (w : World) : Calls Tryz.prog 117 #[.int .u64 x, .int .u64 y] w fun e w' => e = .returned (.int .u64 ((w_arsh 64 x y : Nat) : Int)) /\ w = w' := by
 have hm := mask63 y hy
 have hk : y % 64 < 64 := Nat.mod_lt _ (by decide)
 obtain ⟨k, hke⟩ : ∃ k, k = y % 64 := ⟨_, rfl⟩
 rw [<- hke] at hm hk
 have HK := Lib.hid hke
 clear hke
 go_enter Tryz.func117, Tryz.ntmps117
 go_wp2
 go_ret
 exact ⟨ret_int (by unfold w_arsh; rw [<- HK.out, u64_toNat, sgn64 hx]), rfl⟩
theorem Neg_any (x y : Nat) (hx : x < 18446744073709551616) (hy : y < 18446744073709551616) (w : World) : Calls Tryz.prog 118 #[.int .u64 x, .int .u64 y] w fun e w' => e = .returned (.int .u64 ((w_neg 64 x y : Nat) : Int)) /\ w = w' := by
 go_enter Tryz.func118, Tryz.ntmps118
 go_wp2
 go_ret
 exact ⟨ret_int (by rw [IntKind.wrap_u64]; unfold w_neg; omega), rfl⟩
theorem Mov_any (x y : Nat) (hx : x < 18446744073709551616) (hy : y < 18446744073709551616) (w : World) : Calls Tryz.prog 119 #[.int .u64 x, .int .u64 y] w fun e w' => e = .returned (.int .u64 ((w_mov 64 x y : Nat) : Int)) /\ w = w' := by
 go_enter Tryz.func119, Tryz.ntmps119
 go_wp2
 go_ret
 exact ⟨ret_int (rfl), rfl⟩
theorem Div32_any (x y : Nat) (hx : x < 4294967296) (hy : y < 4294967296) (h0 : y ≠ 0) (w : World) : Calls Tryz.prog 120 #[.int .u64 x, .int .u64 y] w fun e w' => e = .returned (.int .u64 ((w_div 32 x y : Nat) : Int)) /\ w = w' := by
 have hlx : bits BinOp.and IntKind.u64 (x : Int) 4294967295 = x := by rw [maskLow x (by omega)]; omega
 have hly : bits BinOp.and IntKind.u64 (y : Int) 4294967295 = y := by rw [maskLow y (by omega)]; omega
 go_enter Tryz.func120, Tryz.ntmps120
 go_wp2
 go_ret
 exact ⟨ret_int (by have hq := Nat.div_le_self x y; rw [u64_nat (x := x / y) (by simp), Nat.mod_eq_of_lt (show x / y < 2 ^ 64 by omega)]; rfl), rfl⟩
theorem Mod32_any (x y : Nat) (hx : x < 4294967296) (hy : y < 4294967296) (h0 : y ≠ 0) (w : World) : Calls Tryz.prog 121 #[.int .u64 x, .int .u64 y] w fun e w' => e = .returned (.int .u64 ((w_mod 32 x y : Nat) : Int)) /\ w = w' := by
 have hlx : bits BinOp.and IntKind.u64 (x : Int) 4294967295 = x := by rw [maskLow x (by omega)]; omega
 have hly : bits BinOp.and IntKind.u64 (y : Int) 4294967295 = y := by rw [maskLow y (by omega)]; omega
 go_enter Tryz.func121, Tryz.ntmps121
 go_wp2
 go_ret
 exact ⟨ret_int (by simp [w_mod]), rfl⟩
theorem Sdiv32_any (x y : Nat) (hx : x < 4294967296) (hy : y < 4294967296) (h0 : y ≠ 0) (w : World) : Calls Tryz.prog 122 #[.int .u64 x, .int .u64 y] w fun e w' => e = .returned (.int .u64 ((w_sdiv 32 x y : Nat) : Int)) /\ w = w' := by
 have hs : ¬ wrap32 (y : Int) = 0 := by unfold wrap32; omega
 go_enter Tryz.func122, Tryz.ntmps122
 go_wp2
 go_ret
 exact ⟨ret_int (by rw [wrap32_mod, low_toNat]; unfold w_sdiv; rw [sgn32 hx, sgn32 hy]), rfl⟩
theorem Smod32_any (x y : Nat) (hx : x < 4294967296) (hy : y < 4294967296) (h0 : y ≠ 0) (w : World) : Calls Tryz.prog 123 #[.int .u64 x, .int .u64 y] w fun e w' => e = .returned (.int .u64 ((w_smod 32 x y : Nat) : Int)) /\ w = w' := by
 have hs : ¬ wrap32 (y : Int) = 0 := by unfold wrap32; omega
 go_enter Tryz.func123, Tryz.ntmps123
 go_wp2
 go_ret
 exact ⟨ret_int (by rw [low_toNat]; unfold w_smod; rw [sgn32 hx, sgn32 hy]), rfl⟩
theorem Lsh32_any (x y : Nat) (hx : x < 4294967296) (hy : y < 4294967296) (w : World) : Calls Tryz.prog 124 #[.int .u64 x, .int .u64 y] w fun e w' => e = .returned (.int .u64 ((x * 2 ^ (y % 32) % 2 ^ 64 : Nat) : Int)) /\ w = w' := by
 have hm := mask31 y (by omega)
 have hk : y % 32 < 32 := Nat.mod_lt _ (by decide)
 obtain ⟨k, hke⟩ : ∃ k, k = y % 32 := ⟨_, rfl⟩
 rw [<- hke] at hm hk
 have HK := Lib.hid hke
 clear hke
 go_enter Tryz.func124, Tryz.ntmps124
 go_wp2
 go_ret
 exact ⟨ret_int (by rw [<- HK.out]; exact u64_nat (by simp)), rfl⟩
theorem Rsh32_any (x y : Nat) (hx : x < 4294967296) (hy : y < 4294967296) (w : World) : Calls Tryz.prog 125 #[.int .u64 x, .int .u64 y] w fun e w' => e = .returned (.int .u64 ((w_rsh 32 x y : Nat) : Int)) /\ w = w' := by
 have hm := mask31 y (by omega)
 have hk : y % 32 < 32 := Nat.mod_lt _ (by decide)
 obtain ⟨k, hke⟩ : ∃ k, k = y % 32 := ⟨_, rfl⟩
 rw [<- hke] at hm hk
 have HK := Lib.hid hke
 clear hke
 have hlx : bits BinOp.and IntKind.u64 (x : Int) 4294967295 = x := by rw [maskLow x (by omega)]; omega
 go_enter Tryz.func125, Tryz.ntmps125
 go_wp2
 go_ret
 exact ⟨ret_int (by unfold w_rsh; rw [<- HK.out]; simp), rfl⟩
theorem Arsh32_any (x y : Nat) (hx : x < 4294967296) (hy : y < 4294967296) (w : World) : Calls Tryz.prog 126 #[.int .u64 x, .int .u64 y] w fun e w' => e = .returned (.int .u64 ((w_arsh 32 x y : Nat) : Int)) /\ w = w' := by
 have hm := mask31 y (by omega)
 have hk : y % 32 < 32 := Nat.mod_lt _ (by decide)
 obtain ⟨k, hke⟩ : ∃ k, k = y % 32 := ⟨_, rfl⟩
 rw [<- hke] at hm hk
 have HK := Lib.hid hke
 clear hke
 go_enter Tryz.func126, Tryz.ntmps126
 go_wp2
 go_ret
 exact ⟨ret_int (by unfold w_arsh; rw [<- HK.out, low_toNat, sgn32 hx]), rfl⟩
end Go.Proofs.YtcmplcdbkoodpaaGreatDoor
