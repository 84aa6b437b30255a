/-
  Maps of ints: a store of a new key, a look. No program is named here.
-/
import Derived.WalkKit
import Derived.WalkSpells
import Derived.WalkLawsBesides
import Derived.Maps.Own
namespace Go.Proofs.YtbkcpepalicbjaaGreat
open Go.RowKit
set_option linter.unusedVariables false

theorem check_int {P : Program} {kt : TypeId} (hk : P.underlying kt = some (.int .i64)) (e : Bool) (k : Int) (w : World) : (Instr.checkKey e 10000 kt (.int .i64 k)).run P w = .ok () w :=
  MapKept.run_checkKey (d := .int .i64) hk (show MapKept.IsKey (.int .i64) (.int .i64 k) from rfl) e 9999

/-- A store of a new key into a map of ints. -/
theorem run_put {P : Program} {t kt et : TypeId} (hm : P.underlying t = some (.map kt et)) (hk : P.underlying kt = some (.int .i64)) (w : World) (es : Array MapEntry) (c : Nat) (k : Int) (v : Value)
    (hf : Instr.findNow (.int .i64) (.int .i64 k) es.toList 0 = some none) :
    (Instr.mapUpdate t (.map (some w.heap.size)) (.int .i64 k) v).run P (w.alloc (.map es c)) = .ok () (w.alloc (.map (es.push { key := .int .i64 k, val := v, born := c }) (c + 1))) := by
  have h1 : (w.alloc (.map es c)).heap[w.heap.size]? = some (.map es c) := heap_alloc_new w _
  simp [Instr.mapUpdate, run_underlying hm, MapKept.run_getObj_map h1, check_int hk, MapKept.run_findKey hk hf, MapKept.run_setObj_map _ h1, Result.andThen]
  show (⟨_, _, _, _, _⟩ : World) = ⟨_, _, _, _, _⟩
  congr 1
  show (w.heap.push _).setIfInBounds w.heap.size _ = w.heap.push _
  apply Array.toList_inj.1
  rw [Array.toList_setIfInBounds, Array.toList_push, Array.toList_push, ← Array.length_toList, List.set_append_right _ _ (Nat.le_refl _), Nat.sub_self]
  rfl

/-- A look into a map of ints at a key that is there. -/
theorem run_look {P : Program} {t kt et : TypeId} (hm : P.underlying t = some (.map kt et)) (hk : P.underlying kt = some (.int .i64)) (w : World) (b : Nat) (es : Array MapEntry) (c : Nat) (hb : w.heap[b]? = some (.map es c)) (k : Int) (i : Nat) (v : Value)
    (hf : Instr.findNow (.int .i64) (.int .i64 k) es.toList 0 = some (some (i, v))) (ok : Bool) :
    (Instr.lookup t (.map (some b)) (.int .i64 k) ok).run P w = .ok (if ok then .tuple #[v, .bool true] else v) w := by
  cases ok <;> simp [Instr.lookup, run_underlying hm, MapKept.run_getObj_map hb, check_int hk, MapKept.run_findKey hk hf, Result.andThen]
/-- A look at a key that is not there. -/
theorem run_look_none {P : Program} {t kt et : TypeId} (hm : P.underlying t = some (.map kt et)) (hk : P.underlying kt = some (.int .i64)) (w : World) (b : Nat) (es : Array MapEntry) (c : Nat) (hb : w.heap[b]? = some (.map es c)) (k : Int) (z : Value)
    (hf : Instr.findNow (.int .i64) (.int .i64 k) es.toList 0 = some none) (hz : (zeroValue et).run P w = .ok z w) (ok : Bool) :
    (Instr.lookup t (.map (some b)) (.int .i64 k) ok).run P w = .ok (if ok then .tuple #[z, .bool false] else z) w := by
  cases ok <;> simp [Instr.lookup, run_underlying hm, MapKept.run_getObj_map hb, check_int hk, MapKept.run_findKey hk hf, hz, Result.andThen]

end Go.Proofs.YtbkcpepalicbjaaGreat
