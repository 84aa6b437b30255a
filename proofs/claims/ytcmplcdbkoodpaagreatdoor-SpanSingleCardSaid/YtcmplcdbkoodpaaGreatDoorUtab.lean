/-
  Rows of bytes that a function says.
-/
import Derived.Test.YtcmplcdbkoodpaaGreatDoorBytes
namespace Go.Proofs.YtcmplcdbkoodpaaGreatDoor
open Go.RowKit
set_option linter.unusedVariables false

def utab (n : Nat) (g : Nat → Int) : List Value := (List.range n).map fun i => Value.int .u8 (g i)
theorem utab_get {n : Nat} (g : Nat → Int) {i : Nat} (h : i < n) : (utab n g)[i]? = some (.int .u8 (g i)) := by
  simp [utab, h]
theorem utab_congr {n : Nat} {g h : Nat → Int} (e : ∀ t, t < n → g t = h t) : utab n g = utab n h := by
  unfold utab; refine List.map_congr_left fun t ht => ?_; rw [e t (List.mem_range.1 ht)]
theorem utab_set (n : Nat) (g : Nat → Int) (j : Nat) (v : Int) : (utab n g).set j (.int .u8 v) = utab n (fun t => if t = j then v else g t) := by
  apply List.ext_getElem?
  intro i
  rw [List.getElem?_set]
  by_cases hi : i < n
  · by_cases hj : j = i
    · subst hj; simp [utab, hi]
    · simp [utab, hi, hj, Ne.symm hj]
  · simp [utab, hi]
    intro h; omega
theorem utab_zero (n : Nat) : (madeCells #[Value.int .u8 0] n).toList = utab n (fun _ => 0) := by
  simp [madeCells, utab]
  intro a _
  rw [Nat.mod_one]; rfl
theorem make_bytes (n : Nat) (hn : n ≤ 140737488355328) (w : World) : (Instr.makeSlice 34 (.int .i64 n) (.int .i64 n)).run Tryz.prog w =
    .ok (.slice (some ⟨w.heap.size, 0, none⟩) n n) (w.alloc (.cells (utab n (fun _ => 0)).toArray 5)) := by
  obtain ⟨i, hi, hz, hs, hb⟩ := info_parts info_u8
  have h := run_make (P := Tryz.prog) w 34 5 i (.int .u8 0) Tryz.underlying34 hi hz .i64 .i64 n n (by omega) (by omega) (by rw [hb]; omega) (by omega)
  rw [h]
  simp only [Int.toNat_natCast, hs, Nat.mul_one, Value.cells]
  rw [← utab_zero]

theorem ufill {wr : World} {n i b : Nat} {e : TypeId} {g : Nat → Int} {v : Int} (hR : Row wr b e (utab n fun t => if t < i then g t else 0)) (hv : v = g i) :
    Row (wr.setCell ⟨b, i, none⟩ (.int .u8 v)) b e (utab n fun t => if t < i + 1 then g t else 0) := by
  have h := hR.put i (.int .u8 v)
  rw [utab_set] at h
  rwa [utab_congr (h := fun t => if t < i + 1 then g t else 0)] at h
  intro t _
  by_cases ht : t = i
  · subst ht; simp [hv]
  · have e2 : (t < i) ↔ (t < i + 1) := by omega
    simp [ht, e2]
theorem ufill_end {wr : World} {n b : Nat} {e : TypeId} {g : Nat → Int} (hR : Row wr b e (utab n fun t => if t < n then g t else 0)) : Row wr b e (utab n g) := by
  rwa [utab_congr (h := g) (fun t ht => if_pos ht)] at hR
theorem ufill_start (w : World) (n : Nat) (e : TypeId) (g : Nat → Int) : Row (w.alloc (.cells (utab n fun _ => 0).toArray e)) w.heap.size e (utab n fun t => if t < 0 then g t else 0) := by
  rw [utab_congr (h := fun _ => 0) (fun t _ => if_neg (by omega))]; exact Row.made _ _ _
end Go.Proofs.YtcmplcdbkoodpaaGreatDoor
