/-
  The reference's Sig; Sig of any number.
-/
import Derived.Test.YtcjomhmpebhhlaaHelpD
import Derived.Test.YtcjomhmpebhhlaaLedE
namespace Go.Proofs.Ytcjomhmpebhhlaa
open Go.RowKit
set_option linter.unusedVariables false

/-- What a Sig answers: a list of its own. -/
def SigR (xs : List Int) (lo hi : Int) (p q ok : Bool) (w : World) (e : Ending) (w' : World) : Prop :=
  ∃ v, e = .returned (.tuple #[.agg #[v, .int .i64 lo, .int .i64 hi, .bool p, .bool q], .bool ok]) ∧ w'.ownsRow w.heap.size 3 1 v xs.length (xs.map (Value.int .i64)) ∧ Below w.heap.size w w'
theorem own_of_row {w : World} {base g : Nat} {e : TypeId} {cs : List Value} (hR : Row w g e cs) (hb : base ≤ g) (hl : cs.length ≤ maxLen) : w.ownsRow base e 1 (.slice (some ⟨g, 0, none⟩) cs.length cs.length) cs.length cs :=
  ⟨by simp, Or.inr ⟨g, cs.length, cs.toArray, rfl, hb, hR, Nat.le_refl _, hl, by simp, by simp⟩⟩
theorem own_at3 (w : World) (a b c : Obj) (xs : List Int) (hl : xs.length = 5) : ((((w.alloc a).alloc b).alloc c).alloc (.cells (xs.map (Value.int .i64)).toArray 3)).ownsRow w.heap.size 3 1 (.slice (some ⟨w.heap.size + 1 + 1 + 1, 0, none⟩) 5 5) xs.length (xs.map (Value.int .i64)) := by
  have h := own_of_row (base := w.heap.size) (Row.made (((w.alloc a).alloc b).alloc c) (xs.map (Value.int .i64)) 3) (by simp; omega) (by rw [List.length_map, hl]; decide)
  rw [List.length_map, hl] at h
  rw [hl]
  simpa using h
theorem own_at1 (w : World) (a b : Obj) (xs : List Int) (_ : Unit) (hl : xs.length = 5) : (((w.alloc a).alloc (.cells (xs.map (Value.int .i64)).toArray 3)).alloc b).ownsRow w.heap.size 3 1 (.slice (some ⟨w.heap.size + 1, 0, none⟩) 5 5) xs.length (xs.map (Value.int .i64)) := by
  have h := own_of_row (base := w.heap.size) ((Row.made (w.alloc a) (xs.map (Value.int .i64)) 3).alloc b) (by simp) (by rw [List.length_map, hl]; decide)
  rw [List.length_map, hl] at h
  rw [hl]
  simpa using h
theorem sigr_of {xs : List Int} {lo hi : Int} {p q : Bool} {w : World} {e : Ending} {w' : World} (hl : xs.length = 5) (h : SigOf xs lo hi p q w e w') : SigR xs lo hi p q true w e w' := by
  obtain ⟨g, he, hg, hR, hB⟩ := h
  have := own_of_row hR hg (by rw [List.length_map, hl]; decide)
  rw [List.length_map, hl] at this
  exact ⟨_, he, by rw [hl]; exact this, hB⟩

set_option maxRecDepth 100000 in
set_option maxHeartbeats 1600000 in
theorem refsig1 (w : World) : Calls Try.prog 32 #[.int .i64 1] w (SigR [2, 4, 1, 0, 0] 0 65535 false false true w) := by
  go_enter Try.func32, Try.ntmps32
  go_wp2
  exact bodyPost_ret (v := .tuple #[.agg #[.slice (some ⟨w.heap.size + 1 + 1 + 1, 0, none⟩) 5 5, .int .i64 0, .int .i64 65535, .bool false, .bool false], .bool true]) (by simp [results, Try.results32, go_sem]) rfl ⟨_, rfl, own_at3 _ _ _ _ _ (by rfl), ((((Below.refl w.heap.size w).alloc (Nat.le_refl _) _).alloc (by simp) _).alloc (by simp; omega) _).alloc (by simp; omega) _⟩

set_option maxRecDepth 100000 in
set_option maxHeartbeats 1600000 in
theorem refsig2 (w : World) : Calls Try.prog 32 #[.int .i64 2] w (SigR [3, 2, 4, 0, 0] 0 0 false false true w) := by
  go_enter Try.func32, Try.ntmps32
  go_wp2
  exact bodyPost_ret (v := .tuple #[.agg #[.slice (some ⟨w.heap.size + 1 + 1 + 1, 0, none⟩) 5 5, .int .i64 0, .int .i64 0, .bool false, .bool false], .bool true]) (by simp [results, Try.results32, go_sem]) rfl ⟨_, rfl, own_at3 _ _ _ _ _ (by rfl), ((((Below.refl w.heap.size w).alloc (Nat.le_refl _) _).alloc (by simp) _).alloc (by simp; omega) _).alloc (by simp; omega) _⟩

set_option maxRecDepth 100000 in
set_option maxHeartbeats 1600000 in
theorem refsig3 (w : World) : Calls Try.prog 32 #[.int .i64 3] w (SigR [3, 1, 4, 0, 0] 0 0 false false true w) := by
  go_enter Try.func32, Try.ntmps32
  go_wp2
  exact bodyPost_ret (v := .tuple #[.agg #[.slice (some ⟨w.heap.size + 1 + 1 + 1, 0, none⟩) 5 5, .int .i64 0, .int .i64 0, .bool false, .bool false], .bool true]) (by simp [results, Try.results32, go_sem]) rfl ⟨_, rfl, own_at3 _ _ _ _ _ (by rfl), ((((Below.refl w.heap.size w).alloc (Nat.le_refl _) _).alloc (by simp) _).alloc (by simp; omega) _).alloc (by simp; omega) _⟩

set_option maxRecDepth 100000 in
set_option maxHeartbeats 1600000 in
theorem refsig4 (w : World) : Calls Try.prog 32 #[.int .i64 4] w (SigR [2, 2, 4, 0, 0] (-1) 1 false false true w) := by
  go_enter Try.func32, Try.ntmps32
  go_wp2
  exact bodyPost_ret (v := .tuple #[.agg #[.slice (some ⟨w.heap.size + 1 + 1 + 1, 0, none⟩) 5 5, .int .i64 (-1), .int .i64 1, .bool false, .bool false], .bool true]) (by simp [results, Try.results32, go_sem]) rfl ⟨_, rfl, own_at3 _ _ _ _ _ (by rfl), ((((Below.refl w.heap.size w).alloc (Nat.le_refl _) _).alloc (by simp) _).alloc (by simp; omega) _).alloc (by simp; omega) _⟩

set_option maxRecDepth 100000 in
set_option maxHeartbeats 1600000 in
theorem refsig5 (w : World) : Calls Try.prog 32 #[.int .i64 5] w (SigR [2, 4, 1, 0, 0] (-1) 65534 false false true w) := by
  go_enter Try.func32, Try.ntmps32
  go_wp2
  exact bodyPost_ret (v := .tuple #[.agg #[.slice (some ⟨w.heap.size + 1 + 1 + 1, 0, none⟩) 5 5, .int .i64 (-1), .int .i64 65534, .bool false, .bool false], .bool true]) (by simp [results, Try.results32, go_sem]) rfl ⟨_, rfl, own_at3 _ _ _ _ _ (by rfl), ((((Below.refl w.heap.size w).alloc (Nat.le_refl _) _).alloc (by simp) _).alloc (by simp; omega) _).alloc (by simp; omega) _⟩

set_option maxRecDepth 100000 in
set_option maxHeartbeats 1600000 in
theorem refsig6 (w : World) : Calls Try.prog 32 #[.int .i64 6] w (SigR [1, 0, 0, 0, 0] (-1) 0 false false true w) := by
  go_enter Try.func32, Try.ntmps32
  go_wp2
  exact bodyPost_ret (v := .tuple #[.agg #[.slice (some ⟨w.heap.size + 1, 0, none⟩) 5 5, .int .i64 (-1), .int .i64 0, .bool false, .bool false], .bool true]) (by simp [results, Try.results32, go_sem]) rfl ⟨_, rfl, own_at1 _ _ _ _ () (by rfl), (((Below.refl w.heap.size w).alloc (Nat.le_refl _) _).alloc (by simp) _).alloc (by simp; omega) _⟩

set_option maxRecDepth 100000 in
set_option maxHeartbeats 1600000 in
theorem refsig7 (w : World) : Calls Try.prog 32 #[.int .i64 7] w (SigR [1, 1, 0, 0, 0] 0 0 false false true w) := by
  go_enter Try.func32, Try.ntmps32
  go_wp2
  exact bodyPost_ret (v := .tuple #[.agg #[.slice (some ⟨w.heap.size + 1, 0, none⟩) 5 5, .int .i64 0, .int .i64 0, .bool false, .bool false], .bool true]) (by simp [results, Try.results32, go_sem]) rfl ⟨_, rfl, own_at1 _ _ _ _ () (by rfl), (((Below.refl w.heap.size w).alloc (Nat.le_refl _) _).alloc (by simp) _).alloc (by simp; omega) _⟩

set_option maxRecDepth 100000 in
set_option maxHeartbeats 1600000 in
theorem refsig8 (w : World) : Calls Try.prog 32 #[.int .i64 8] w (SigR [1, 1, 0, 0, 0] 0 0 true true true w) := by
  go_enter Try.func32, Try.ntmps32
  go_wp2
  exact bodyPost_ret (v := .tuple #[.agg #[.slice (some ⟨w.heap.size + 1, 0, none⟩) 5 5, .int .i64 0, .int .i64 0, .bool true, .bool true], .bool true]) (by simp [results, Try.results32, go_sem]) rfl ⟨_, rfl, own_at1 _ _ _ _ () (by rfl), (((Below.refl w.heap.size w).alloc (Nat.le_refl _) _).alloc (by simp) _).alloc (by simp; omega) _⟩

set_option maxHeartbeats 1600000 in
theorem refsig_none (id : Int) (h : id < 1 ∨ 8 < id) (w : World) : Calls Try.prog 32 #[.int .i64 id] w (SigR [] 0 0 false false false w) := by
  have t1 : (id == 1) = false := beq_eq_false_iff_ne.2 (by omega)
  have t2 : (id == 2) = false := beq_eq_false_iff_ne.2 (by omega)
  have t3 : (id == 3) = false := beq_eq_false_iff_ne.2 (by omega)
  have t4 : (id == 4) = false := beq_eq_false_iff_ne.2 (by omega)
  have t5 : (id == 5) = false := beq_eq_false_iff_ne.2 (by omega)
  have t6 : (id == 6) = false := beq_eq_false_iff_ne.2 (by omega)
  have t7 : (id == 7) = false := beq_eq_false_iff_ne.2 (by omega)
  have t8 : (id == 8) = false := beq_eq_false_iff_ne.2 (by omega)
  clear h
  go_enter Try.func32, Try.ntmps32
  go_wp2
  exact bodyPost_ret (v := .tuple #[.agg #[.slice none 0 0, .int .i64 0, .int .i64 0, .bool false, .bool false], .bool false]) (by simp [results, Try.results32, go_sem]) rfl ⟨_, rfl, World.ownsRow_nil _ _ _ _, (((Below.refl w.heap.size w).alloc (Nat.le_refl _) _).alloc (by simp) _).alloc (by simp; omega) _⟩
/-- Sig of any number: the program's and the reference's. -/
theorem sig_any (id : Int) : ∃ (xs : List Int) (lo hi : Int) (p q ok : Bool), xs.length ≤ 5 ∧ (∀ w, Calls Try.prog 33 #[.int .i64 id] w (SigR xs lo hi p q ok w)) ∧ (∀ w, Calls Try.prog 32 #[.int .i64 id] w (SigR xs lo hi p q ok w)) := by
  by_cases h : id < 1 ∨ 8 < id
  · exact ⟨[], 0, 0, false, false, false, by decide, fun w => (sig_none id (looks_none id h) w).mono fun e w' ⟨he, hB⟩ => ⟨_, he, World.ownsRow_nil _ _ _ _, hB⟩, refsig_none id h⟩
  · have hh : id = 1 ∨ id = 2 ∨ id = 3 ∨ id = 4 ∨ id = 5 ∨ id = 6 ∨ id = 7 ∨ id = 8 := by omega
    rcases hh with rfl | rfl | rfl | rfl | rfl | rfl | rfl | rfl
    · exact ⟨_, _, _, _, _, _, by decide, fun w => (sig1 w).mono fun e w' h => sigr_of rfl h, refsig1⟩
    · exact ⟨_, _, _, _, _, _, by decide, fun w => (sig2 w).mono fun e w' h => sigr_of rfl h, refsig2⟩
    · exact ⟨_, _, _, _, _, _, by decide, fun w => (sig3 w).mono fun e w' h => sigr_of rfl h, refsig3⟩
    · exact ⟨_, _, _, _, _, _, by decide, fun w => (sig4 w).mono fun e w' h => sigr_of rfl h, refsig4⟩
    · exact ⟨_, _, _, _, _, _, by decide, fun w => (sig5 w).mono fun e w' h => sigr_of rfl h, refsig5⟩
    · exact ⟨_, _, _, _, _, _, by decide, fun w => (sig6 w).mono fun e w' h => sigr_of rfl h, refsig6⟩
    · exact ⟨_, _, _, _, _, _, by decide, fun w => (sig7 w).mono fun e w' h => sigr_of rfl h, refsig7⟩
    · exact ⟨_, _, _, _, _, _, by decide, fun w => (sig8 w).mono fun e w' h => sigr_of rfl h, refsig8⟩
end Go.Proofs.Ytcjomhmpebhhlaa
