/-
  known: the chapter's examples hold.
-/
import Derived.Test.YtcjomhmpebhhlaaHelpB
import Derived.Test.YtcjomhmpebhhlaaHelpC
namespace Go.Proofs.Ytcjomhmpebhhlaa
open Go.RowKit
set_option linter.unusedVariables false

theorem sum_12 : sumv [1, 2] 0 = 258 := by decide
theorem sum_ff : sumv [255, 255, 0, 1] 0 = 1 := by decide
theorem sum_nil : sumv [] (-1) = 65535 := by decide
theorem cmp_10 : cmpv [1] [1, 0] = -1 := by decide
theorem find_5 : findv [5, 6, 5] (261 % 256) = 0 := by decide
theorem mix_00 : wrap64 ((mixv (un 0) (un 0) : Nat) : Int) = 0 := by
  have e : mixv (un 0) (un 0) = 0 := by decide
  rw [e]
  unfold wrap64
  decide
theorem held_of {w : World} {b : Nat} {e : TypeId} (xs : List Int) (hR : Row w b e (xs.map (Value.int .u8))) (hx : IsBytes xs) (hl : xs.length ≤ maxLen) : Held w (.slice (some ⟨b, 0, none⟩) xs.length xs.length) xs :=
  held_row hR hx (Nat.le_refl _) hl (fun i hi => by simp [List.getD, hi])
theorem sum_at (xs : List Int) (n : Nat) (hn : n = xs.length) (hx : IsBytes xs) (hl : xs.length ≤ 100) (seed v : Int) (hv : sumv xs seed = v) (b : Nat) (e : TypeId) (w : World) (hR : Row w b e (xs.map (Value.int .u8))) :
    Calls Try.prog 37 #[.slice (some ⟨b, 0, none⟩) n n, .int .i64 seed] w fun e w' => e = .returned (.int .i64 v) ∧ Below w.heap.size w w' := by
  subst hn hv
  exact (sum_of _ xs (by omega) seed w (held_of xs hR hx (by unfold maxLen; omega))).mono fun e w' ⟨he, hw⟩ => ⟨he, hw ▸ Below.refl _ _⟩
theorem ints_map (xs : List Int) : ∀ i, i < xs.length → (xs.map (Value.int .i64))[i]? = some (.int .i64 (xs.getD i 0)) := fun i hi => by simp [List.getD, hi]
theorem row_new (w : World) (cs : List Value) (e : TypeId) : Row (w.alloc (.cells cs.toArray e)) w.heap.size e cs := Row.made w cs e

set_option maxRecDepth 100000 in
set_option maxHeartbeats 3200000 in
theorem known_any (w : World) : Calls Try.prog 31 #[] w fun e w' => e = .returned (.bool true) ∧ Below w.heap.size w w' := by
  go_enter Try.func31, Try.ntmps31
  go_wp2_with fail
  refine (sig2 _).mono ?_
  rintro e w1 ⟨g, rfl, hg, hG, hB⟩
  have hs := hB.size
  go_wp2_with fail
  have hgl := hG.lt
  have hG1 := hG.alloc (.cells #[.slice (some ⟨g, 0, none⟩) 5 5, .int .i64 0, .int .i64 0, .bool false, .bool false] 51)
  have hS1 := row_new w1 [.slice (some ⟨g, 0, none⟩) 5 5, .int .i64 0, .int .i64 0, .bool false, .bool false] 51
  have hB1 := hB.alloc hs (.cells #[.slice (some ⟨g, 0, none⟩) 5 5, .int .i64 0, .int .i64 0, .bool false, .bool false] 51)
  have hs1 := hB1.size
  refine (sig_none 0 (looks_none 0 (by decide)) _).mono ?_
  rintro e w2 ⟨rfl, hB2⟩
  have hG2 := hG1.below hB2 hG1.lt
  have hS2 := hS1.below hB2 hS1.lt
  have hB3 := hB1.trans (hB2.mono hs1)
  have hs3 := hB3.size
  have hG3 := hG2.alloc (.cells #[.slice none 0 0, .int .i64 0, .int .i64 0, .bool false, .bool false] 51)
  have hS3 := hS2.alloc (.cells #[.slice none 0 0, .int .i64 0, .int .i64 0, .bool false, .bool false] 51)
  have hB4 := hB3.alloc hs3 (.cells #[.slice none 0 0, .int .i64 0, .int .i64 0, .bool false, .bool false] 51)
  have q0 := hS3.cell 0
  simp only [List.getElem?_cons_zero] at q0
  have HS3 := Lib.hid hS3
  have HG3 := Lib.hid hG3
  have HB4 := Lib.hid hB4
  clear hG hB hs hgl hG1 hS1 hB1 hs1 hB2 hG2 hS2 hB3 hs3 hG3 hS3 hB4 hg
  go_wp2_with fail
  have hL := row2 w2 (.cells #[.slice none 0 0, .int .i64 0, .int .i64 0, .bool false, .bool false] 51) ([3, 2, 4, 0, 0].map (Value.int .i64)) 3
  have hB5 := HB4.out.alloc HB4.out.size (.cells ([3, 2, 4, 0, 0].map (Value.int .i64)).toArray 3)
  have hi1 : Ints (w2.alloc (.cells #[.slice none 0 0, .int .i64 0, .int .i64 0, .bool false, .bool false] 51) |>.alloc (.cells ([3, 2, 4, 0, 0].map (Value.int .i64)).toArray 3)) (.slice (some ⟨g, 0, none⟩) 5 5) [3, 2, 4, 0, 0] := ints_row (xs := [3, 2, 4, 0, 0]) (HG3.out.alloc _) (ints_map _)
  have hi2 := ints_row (xs := [3, 2, 4, 0, 0]) (cap := 5) hL (ints_map _)
  refine (ints_same _ _ [3, 2, 4, 0, 0] (by decide) _ hi1 hi2).mono ?_
  rintro e w3 ⟨rfl, n3, hw3⟩
  have hS4 := HS3.out.alloc (.cells ([3, 2, 4, 0, 0].map (Value.int .i64)).toArray 3)
  have hS5 : Row w3 w1.heap.size 51 [.slice (some ⟨g, 0, none⟩) 5 5, .int .i64 0, .int .i64 0, .bool false, .bool false] := by rw [hw3]; exact hS4.drewN n3
  have hB6 : Below w.heap.size w w3 := by rw [hw3]; exact below_drewN hB5 n3
  have q1 := hS5.cell 1
  have q2 := hS5.cell 2
  have q3 := hS5.cell 3
  have q4 := hS5.cell 4
  simp only [List.getElem?_cons_zero, List.getElem?_cons_succ] at q1 q2 q3 q4
  have HB6 := Lib.hid hB6
  clear hL hB5 hi1 hi2 hw3 hS4 hS5 hB6 q0
  go_wp2_with fail
  have hB7 := HB6.out.alloc HB6.out.size (.cells (([1, 2] : List Int).map (Value.int .u8)).toArray 5)
  have HB7 := Lib.hid hB7
  clear hB7
  refine (sum_at [1, 2] 2 rfl (by unfold IsBytes; decide) (by decide) 0 _ sum_12 _ 5 _ (row_new w3 _ _)).mono ?_
  rintro e w4 ⟨rfl, hB8⟩
  have HB6 := Lib.hid (HB7.out.trans (hB8.mono HB7.out.size))
  clear hB8 HB7
  go_wp2_with fail
  have hB7 := HB6.out.alloc HB6.out.size (.cells (([255, 255, 0, 1] : List Int).map (Value.int .u8)).toArray 5)
  have HB7 := Lib.hid hB7
  clear hB7
  refine (sum_at [255, 255, 0, 1] 4 rfl (by unfold IsBytes; decide) (by decide) 0 _ sum_ff _ 5 _ (row_new w4 _ _)).mono ?_
  rintro e w5 ⟨rfl, hB8⟩
  have HB6 := Lib.hid (HB7.out.trans (hB8.mono HB7.out.size))
  clear hB8 HB7
  go_wp2_with fail
  refine (sum_of (.slice none 0 0) [] (by decide) (-1) _ (held_nil w5)).mono ?_
  rintro e w6 ⟨rfl, rfl⟩
  rw [sum_nil]
  go_wp2_with fail
  have hB7 := (HB6.out.alloc HB6.out.size (.cells (([1] : List Int).map (Value.int .u8)).toArray 5)).alloc (by have := HB6.out.size; simp; omega) (.cells (([1, 0] : List Int).map (Value.int .u8)).toArray 5)
  have HB7 := Lib.hid hB7
  clear hB7
  refine (diff_of _ _ [1] [1, 0] _ (held_of [1] ((row_new w5 _ 5).alloc _) (by unfold IsBytes; decide) (by unfold maxLen; decide)) (held_of [1, 0] (row2 w5 _ _ 5) (by unfold IsBytes; decide) (by unfold maxLen; decide))).mono ?_
  rintro e w7 ⟨rfl, hw⟩
  rw [cmp_10]
  have HB6 := Lib.hid (show Below w.heap.size w w7 from hw ▸ HB7.out)
  clear hw HB7
  go_wp2_with fail
  have hB7 := HB6.out.alloc HB6.out.size (.cells (([5, 6, 5] : List Int).map (Value.int .u8)).toArray 5)
  have HB7 := Lib.hid hB7
  clear hB7
  refine (find_of _ [5, 6, 5] 261 _ (held_of [5, 6, 5] (row_new w7 _ 5) (by unfold IsBytes; decide) (by unfold maxLen; decide))).mono ?_
  rintro e w8 ⟨rfl, hw⟩
  rw [find_5]
  have HB6 := Lib.hid (show Below w.heap.size w w8 from hw ▸ HB7.out)
  clear hw HB7
  go_wp2_with fail
  refine (mix_of 0 0 _).mono ?_
  rintro e w9 ⟨rfl, rfl⟩
  rw [mix_00]
  go_wp2
  go_ret
  exact ⟨rfl, HB6.out⟩
end Go.Proofs.Ytcjomhmpebhhlaa
