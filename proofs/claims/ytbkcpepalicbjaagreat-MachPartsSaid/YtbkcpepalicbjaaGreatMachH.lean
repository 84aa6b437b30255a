/-
  Copies of lists: slices.Clone of bytes, numbers, instructions, tables.
-/
import Derived.Test.YtbkcpepalicbjaaGreatMachG
import Derived.Lib.SliceRun
namespace Go.Proofs.YtbkcpepalicbjaaGreat
open Go.RowKit
set_option linter.unusedVariables false
set_option linter.unusedSimpArgs false

theorem info_byte : (Tryz.prog.info? 5).map (fun i => (i.zero, i.size, i.bytes)) = some (some (.int .u8 0), 1, 1) := by kernel_rfl
set_option maxRecDepth 100000 in
set_option maxHeartbeats 3200000 in
theorem clone_byte (v : Value) (n : Nat) (cs : List Value) (w : World) (h : Reads w 1 v n cs) (hl : n * 1 ≤ 140737488355328) :
    Calls Tryz.prog 83 #[v] w fun e w' => ∃ v', e = .returned v' ∧ w'.ownsRow w.heap.size 5 1 v' n cs ∧ Below w.heap.size w w' := by
  obtain ⟨i0, hi0, hz0, hz1, hz2⟩ := info_split info_byte
  have qT : ∀ (w : World) (a : Option Addr) (n c n' c' : Nat), (binOp .eql 27 (.slice a n c) (.slice none n' c')).run Tryz.prog w = .ok (.bool a.isNone) w := fun w a n c n' c' => Lib.run_eql_slice_nil w _ _ a n c n' c' Tryz.underlying27
  obtain ⟨hcl, h1, h⟩ := h
  have ho0 := Lib.hid (World.ownsRow_lit (e := 5) (size := 1) (base := w.heap.size) w #[] 0 (Nat.le_refl _) (by decide) rfl)
  have hB0 := Lib.hid ((Below.refl w.heap.size w).alloc (Nat.le_refl _) (.cells #[] 5))
  obtain ⟨a, cap, rfl, hnone, hnews⟩ : ∃ a cap, v = .slice a n cap ∧ (a = none → n = 0) ∧ ∀ ad, a = some ad → ∀ j u, cs[j]? = some u → w.cell? (ad.add j) = some u := by
    rcases h with ⟨rfl, a, cap, rfl, _⟩ | ⟨hp, b, off, cap, rfl, hlt, hm, hc, hcell⟩
    · have : cs = [] := List.length_eq_zero_iff.1 (by simpa using hcl)
      subst this
      exact ⟨a, cap, rfl, fun _ => rfl, fun _ _ j u hj => by cases hj⟩
    · refine ⟨_, cap, rfl, (fun h => by cases h), fun ad had j u hj => ?_⟩
      cases had
      have hplain : (⟨b, off, none⟩ : Addr).add j = ⟨b, off + j, none⟩ := by unfold Addr.add; split <;> simp_all
      rw [hplain]
      exact hcell j u hj
  clear h
  cases a with
  | none =>
    obtain rfl := hnone rfl
    have : cs = [] := List.length_eq_zero_iff.1 (by simpa using hcl)
    subst this
    clear ho0 hB0
    go_enter Tryz.func83, Tryz.ntmps83
    go_wp2
    go_ret
    exact ⟨_, rfl, World.ownsRow_nil _ _ _ _, Below.refl _ _⟩
  | some ad =>
    have hn2 : ∀ j u, cs[j]? = some u → (w.alloc (.cells #[] 5)).cell? (ad.add j) = some u := fun j u hj =>
      (((Below.refl w.heap.size w).alloc (Nat.le_refl _) (.cells #[] 5)).cell (p := ad.add j) (World.block_lt_of_cell? _ _ (hnews ad rfl j u hj))).trans (hnews ad rfl j u hj)
    clear hnews hnone
    have hm1 : 0 + n ≤ maxLen := by unfold maxLen; omega
    have hm2 : (0 + n) * 1 ≤ 140737488355328 := by omega
    have hm3 : w.heap.size ≤ (w.alloc (.cells #[] 5)).heap.size := by simp
    go_enter Tryz.func83, Tryz.ntmps83
    go_wp2_with (at_builtin; refine wpList_append_own _ rfl (.tmp 5) (.tmp 6) 27 rfl w.heap.size 5 i0 (.int .u8 0) 1 1 Tryz.underlying27 hi0 hz0 hz1 hz2 rfl (by decide) (.slice (some ⟨w.heap.size, 0, none⟩) 0 0) 0 _ rfl ho0.out ad n cap cs rfl hcl hn2 h1 hm1 hm2 hm3 ?_; intro v1 w1 hown hgrow _)
    have hB := Below.grown hB0.out hgrow hm3 (fun k hk => (ho0.out.lt k hk).1)
    have HO := Lib.hid (show w1.ownsRow w.heap.size 5 1 v1 n cs by simpa using hown)
    clear hown hgrow
    go_wp2
    go_ret
    exact ⟨_, rfl, HO.out, hB⟩

theorem info_int : (Tryz.prog.info? 3).map (fun i => (i.zero, i.size, i.bytes)) = some (some (.int .i64 0), 1, 8) := by kernel_rfl
set_option maxRecDepth 100000 in
set_option maxHeartbeats 3200000 in
theorem clone_int (v : Value) (n : Nat) (cs : List Value) (w : World) (h : Reads w 1 v n cs) (hl : n * 8 ≤ 140737488355328) :
    Calls Tryz.prog 92 #[v] w fun e w' => ∃ v', e = .returned v' ∧ w'.ownsRow w.heap.size 3 1 v' n cs ∧ Below w.heap.size w w' := by
  obtain ⟨i0, hi0, hz0, hz1, hz2⟩ := info_split info_int
  have qT : ∀ (w : World) (a : Option Addr) (n c n' c' : Nat), (binOp .eql 29 (.slice a n c) (.slice none n' c')).run Tryz.prog w = .ok (.bool a.isNone) w := fun w a n c n' c' => Lib.run_eql_slice_nil w _ _ a n c n' c' Tryz.underlying29
  obtain ⟨hcl, h1, h⟩ := h
  have ho0 := Lib.hid (World.ownsRow_lit (e := 3) (size := 1) (base := w.heap.size) w #[] 0 (Nat.le_refl _) (by decide) rfl)
  have hB0 := Lib.hid ((Below.refl w.heap.size w).alloc (Nat.le_refl _) (.cells #[] 3))
  obtain ⟨a, cap, rfl, hnone, hnews⟩ : ∃ a cap, v = .slice a n cap ∧ (a = none → n = 0) ∧ ∀ ad, a = some ad → ∀ j u, cs[j]? = some u → w.cell? (ad.add j) = some u := by
    rcases h with ⟨rfl, a, cap, rfl, _⟩ | ⟨hp, b, off, cap, rfl, hlt, hm, hc, hcell⟩
    · have : cs = [] := List.length_eq_zero_iff.1 (by simpa using hcl)
      subst this
      exact ⟨a, cap, rfl, fun _ => rfl, fun _ _ j u hj => by cases hj⟩
    · refine ⟨_, cap, rfl, (fun h => by cases h), fun ad had j u hj => ?_⟩
      cases had
      have hplain : (⟨b, off, none⟩ : Addr).add j = ⟨b, off + j, none⟩ := by unfold Addr.add; split <;> simp_all
      rw [hplain]
      exact hcell j u hj
  clear h
  cases a with
  | none =>
    obtain rfl := hnone rfl
    have : cs = [] := List.length_eq_zero_iff.1 (by simpa using hcl)
    subst this
    clear ho0 hB0
    go_enter Tryz.func92, Tryz.ntmps92
    go_wp2
    go_ret
    exact ⟨_, rfl, World.ownsRow_nil _ _ _ _, Below.refl _ _⟩
  | some ad =>
    have hn2 : ∀ j u, cs[j]? = some u → (w.alloc (.cells #[] 3)).cell? (ad.add j) = some u := fun j u hj =>
      (((Below.refl w.heap.size w).alloc (Nat.le_refl _) (.cells #[] 3)).cell (p := ad.add j) (World.block_lt_of_cell? _ _ (hnews ad rfl j u hj))).trans (hnews ad rfl j u hj)
    clear hnews hnone
    have hm1 : 0 + n ≤ maxLen := by unfold maxLen; omega
    have hm2 : (0 + n) * 8 ≤ 140737488355328 := by omega
    have hm3 : w.heap.size ≤ (w.alloc (.cells #[] 3)).heap.size := by simp
    go_enter Tryz.func92, Tryz.ntmps92
    go_wp2_with (at_builtin; refine wpList_append_own _ rfl (.tmp 5) (.tmp 6) 29 rfl w.heap.size 3 i0 (.int .i64 0) 1 8 Tryz.underlying29 hi0 hz0 hz1 hz2 rfl (by decide) (.slice (some ⟨w.heap.size, 0, none⟩) 0 0) 0 _ rfl ho0.out ad n cap cs rfl hcl hn2 h1 hm1 hm2 hm3 ?_; intro v1 w1 hown hgrow _)
    have hB := Below.grown hB0.out hgrow hm3 (fun k hk => (ho0.out.lt k hk).1)
    have HO := Lib.hid (show w1.ownsRow w.heap.size 3 1 v1 n cs by simpa using hown)
    clear hown hgrow
    go_wp2
    go_ret
    exact ⟨_, rfl, HO.out, hB⟩

theorem info_ins : (Tryz.prog.info? 23).map (fun i => (i.zero, i.size, i.bytes)) = some (some (.agg #[.int .i64 0, .bool false, .bool false, .int .i64 0, .int .i64 0, .int .i64 0, .int .i64 0, .int .i64 0]), 8, 56) := by kernel_rfl
set_option maxRecDepth 100000 in
set_option maxHeartbeats 3200000 in
theorem clone_ins (v : Value) (n : Nat) (cs : List Value) (w : World) (h : Reads w 8 v n cs) (hl : n * 56 ≤ 140737488355328) :
    Calls Tryz.prog 81 #[v] w fun e w' => ∃ v', e = .returned v' ∧ w'.ownsRow w.heap.size 23 8 v' n cs ∧ Below w.heap.size w w' := by
  obtain ⟨i0, hi0, hz0, hz1, hz2⟩ := info_split info_ins
  have qT : ∀ (w : World) (a : Option Addr) (n c n' c' : Nat), (binOp .eql 35 (.slice a n c) (.slice none n' c')).run Tryz.prog w = .ok (.bool a.isNone) w := fun w a n c n' c' => Lib.run_eql_slice_nil w _ _ a n c n' c' Tryz.underlying35
  obtain ⟨hcl, h1, h⟩ := h
  have ho0 := Lib.hid (World.ownsRow_lit (e := 23) (size := 8) (base := w.heap.size) w #[] 0 (Nat.le_refl _) (by decide) rfl)
  have hB0 := Lib.hid ((Below.refl w.heap.size w).alloc (Nat.le_refl _) (.cells #[] 23))
  obtain ⟨a, cap, rfl, hnone, hnews⟩ : ∃ a cap, v = .slice a n cap ∧ (a = none → n = 0) ∧ ∀ ad, a = some ad → ∀ j u, cs[j]? = some u → w.cell? (ad.add j) = some u := by
    rcases h with ⟨rfl, a, cap, rfl, _⟩ | ⟨hp, b, off, cap, rfl, hlt, hm, hc, hcell⟩
    · have : cs = [] := List.length_eq_zero_iff.1 (by simpa using hcl)
      subst this
      exact ⟨a, cap, rfl, fun _ => rfl, fun _ _ j u hj => by cases hj⟩
    · refine ⟨_, cap, rfl, (fun h => by cases h), fun ad had j u hj => ?_⟩
      cases had
      have hplain : (⟨b, off, none⟩ : Addr).add j = ⟨b, off + j, none⟩ := by unfold Addr.add; split <;> simp_all
      rw [hplain]
      exact hcell j u hj
  clear h
  cases a with
  | none =>
    obtain rfl := hnone rfl
    have : cs = [] := List.length_eq_zero_iff.1 (by simpa using hcl)
    subst this
    clear ho0 hB0
    go_enter Tryz.func81, Tryz.ntmps81
    go_wp2
    go_ret
    exact ⟨_, rfl, World.ownsRow_nil _ _ _ _, Below.refl _ _⟩
  | some ad =>
    have hn2 : ∀ j u, cs[j]? = some u → (w.alloc (.cells #[] 23)).cell? (ad.add j) = some u := fun j u hj =>
      (((Below.refl w.heap.size w).alloc (Nat.le_refl _) (.cells #[] 23)).cell (p := ad.add j) (World.block_lt_of_cell? _ _ (hnews ad rfl j u hj))).trans (hnews ad rfl j u hj)
    clear hnews hnone
    have hm1 : 0 + n ≤ maxLen := by unfold maxLen; omega
    have hm2 : (0 + n) * 56 ≤ 140737488355328 := by omega
    have hm3 : w.heap.size ≤ (w.alloc (.cells #[] 23)).heap.size := by simp
    go_enter Tryz.func81, Tryz.ntmps81
    go_wp2_with (at_builtin; refine wpList_append_own _ rfl (.tmp 5) (.tmp 6) 35 rfl w.heap.size 23 i0 (.agg #[.int .i64 0, .bool false, .bool false, .int .i64 0, .int .i64 0, .int .i64 0, .int .i64 0, .int .i64 0]) 8 56 Tryz.underlying35 hi0 hz0 hz1 hz2 rfl (by decide) (.slice (some ⟨w.heap.size, 0, none⟩) 0 0) 0 _ rfl ho0.out ad n cap cs rfl hcl hn2 h1 hm1 hm2 hm3 ?_; intro v1 w1 hown hgrow _)
    have hB := Below.grown hB0.out hgrow hm3 (fun k hk => (ho0.out.lt k hk).1)
    have HO := Lib.hid (show w1.ownsRow w.heap.size 23 8 v1 n cs by simpa using hown)
    clear hown hgrow
    go_wp2
    go_ret
    exact ⟨_, rfl, HO.out, hB⟩

theorem info_tab : (Tryz.prog.info? 148).map (fun i => (i.zero, i.size, i.bytes)) = some (some (.agg #[.int .i64 0, .int .i64 0]), 2, 16) := by kernel_rfl
set_option maxRecDepth 100000 in
set_option maxHeartbeats 3200000 in
theorem clone_tab (v : Value) (n : Nat) (cs : List Value) (w : World) (h : Reads w 2 v n cs) (hl : n * 16 ≤ 140737488355328) :
    Calls Tryz.prog 85 #[v] w fun e w' => ∃ v', e = .returned v' ∧ w'.ownsRow w.heap.size 148 2 v' n cs ∧ Below w.heap.size w w' := by
  obtain ⟨i0, hi0, hz0, hz1, hz2⟩ := info_split info_tab
  have qT : ∀ (w : World) (a : Option Addr) (n c n' c' : Nat), (binOp .eql 58 (.slice a n c) (.slice none n' c')).run Tryz.prog w = .ok (.bool a.isNone) w := fun w a n c n' c' => Lib.run_eql_slice_nil w _ _ a n c n' c' Tryz.underlying58
  obtain ⟨hcl, h1, h⟩ := h
  have ho0 := Lib.hid (World.ownsRow_lit (e := 148) (size := 2) (base := w.heap.size) w #[] 0 (Nat.le_refl _) (by decide) rfl)
  have hB0 := Lib.hid ((Below.refl w.heap.size w).alloc (Nat.le_refl _) (.cells #[] 148))
  obtain ⟨a, cap, rfl, hnone, hnews⟩ : ∃ a cap, v = .slice a n cap ∧ (a = none → n = 0) ∧ ∀ ad, a = some ad → ∀ j u, cs[j]? = some u → w.cell? (ad.add j) = some u := by
    rcases h with ⟨rfl, a, cap, rfl, _⟩ | ⟨hp, b, off, cap, rfl, hlt, hm, hc, hcell⟩
    · have : cs = [] := List.length_eq_zero_iff.1 (by simpa using hcl)
      subst this
      exact ⟨a, cap, rfl, fun _ => rfl, fun _ _ j u hj => by cases hj⟩
    · refine ⟨_, cap, rfl, (fun h => by cases h), fun ad had j u hj => ?_⟩
      cases had
      have hplain : (⟨b, off, none⟩ : Addr).add j = ⟨b, off + j, none⟩ := by unfold Addr.add; split <;> simp_all
      rw [hplain]
      exact hcell j u hj
  clear h
  cases a with
  | none =>
    obtain rfl := hnone rfl
    have : cs = [] := List.length_eq_zero_iff.1 (by simpa using hcl)
    subst this
    clear ho0 hB0
    go_enter Tryz.func85, Tryz.ntmps85
    go_wp2
    go_ret
    exact ⟨_, rfl, World.ownsRow_nil _ _ _ _, Below.refl _ _⟩
  | some ad =>
    have hn2 : ∀ j u, cs[j]? = some u → (w.alloc (.cells #[] 148)).cell? (ad.add j) = some u := fun j u hj =>
      (((Below.refl w.heap.size w).alloc (Nat.le_refl _) (.cells #[] 148)).cell (p := ad.add j) (World.block_lt_of_cell? _ _ (hnews ad rfl j u hj))).trans (hnews ad rfl j u hj)
    clear hnews hnone
    have hm1 : 0 + n ≤ maxLen := by unfold maxLen; omega
    have hm2 : (0 + n) * 16 ≤ 140737488355328 := by omega
    have hm3 : w.heap.size ≤ (w.alloc (.cells #[] 148)).heap.size := by simp
    go_enter Tryz.func85, Tryz.ntmps85
    go_wp2_with (at_builtin; refine wpList_append_own _ rfl (.tmp 5) (.tmp 6) 58 rfl w.heap.size 148 i0 (.agg #[.int .i64 0, .int .i64 0]) 2 16 Tryz.underlying58 hi0 hz0 hz1 hz2 rfl (by decide) (.slice (some ⟨w.heap.size, 0, none⟩) 0 0) 0 _ rfl ho0.out ad n cap cs rfl hcl hn2 h1 hm1 hm2 hm3 ?_; intro v1 w1 hown hgrow _)
    have hB := Below.grown hB0.out hgrow hm3 (fun k hk => (ho0.out.lt k hk).1)
    have HO := Lib.hid (show w1.ownsRow w.heap.size 148 2 v1 n cs by simpa using hown)
    clear hown hgrow
    go_wp2
    go_ret
    exact ⟨_, rfl, HO.out, hB⟩

end Go.Proofs.YtbkcpepalicbjaaGreat
