/-
  Every Sig: what a helper is asked for, in new memory.
-/
import Derived.Test.YtdepknffpnnmmaaGreatHelpA
import Derived.Test.YtdepknffpnnmmaaGreatInts
namespace Go.Proofs.YtdepknffpnnmmaaGreat
open Go.RowKit
set_option linter.unusedVariables false

theorem meth_piece_args (cs : Array Value) (w : World) : (method 333 195 (.agg cs) "warrant/help.args").run Tryz.prog w = .ok (187, .agg cs) w := by kernel_rfl
theorem meth_piece_ret (cs : Array Value) (w : World) : (method 333 195 (.agg cs) "warrant/help.ret").run Tryz.prog w = .ok (188, .agg cs) w := by kernel_rfl
theorem meth_writer_args (cs : Array Value) (w : World) : (method 333 197 (.agg cs) "warrant/help.args").run Tryz.prog w = .ok (189, .agg cs) w := by kernel_rfl
theorem meth_writer_ret (cs : Array Value) (w : World) : (method 333 197 (.agg cs) "warrant/help.ret").run Tryz.prog w = .ok (190, .agg cs) w := by kernel_rfl
theorem meth_pair_args (cs : Array Value) (w : World) : (method 333 198 (.agg cs) "warrant/help.args").run Tryz.prog w = .ok (191, .agg cs) w := by kernel_rfl
theorem meth_pair_ret (cs : Array Value) (w : World) : (method 333 198 (.agg cs) "warrant/help.ret").run Tryz.prog w = .ok (192, .agg cs) w := by kernel_rfl
theorem meth_numbers_args (cs : Array Value) (w : World) : (method 333 200 (.agg cs) "warrant/help.args").run Tryz.prog w = .ok (193, .agg cs) w := by kernel_rfl
theorem meth_numbers_ret (cs : Array Value) (w : World) : (method 333 200 (.agg cs) "warrant/help.ret").run Tryz.prog w = .ok (194, .agg cs) w := by kernel_rfl

theorem row2 (w : World) (o : Obj) (cs : List Value) (e : TypeId) : Row ((w.alloc o).alloc (.cells cs.toArray e)) (w.heap.size + 1) e cs := by
  have := Row.made (w.alloc o) cs e
  simpa using this
/-- The call returned a new list of five numbers. -/
def Args5 (a0 a1 a2 a3 a4 : Int) (w : World) (e : Ending) (w' : World) : Prop :=
  ∃ g, e = .returned (.slice (some ⟨g, 0, none⟩) 5 5) ∧ w.heap.size ≤ g ∧ Row w' g 3 [.int .i64 a0, .int .i64 a1, .int .i64 a2, .int .i64 a3, .int .i64 a4] ∧ Below w.heap.size w w'

theorem piece_args (x y : Int) (w : World) : Calls Tryz.prog 187 #[.agg #[.int .i64 x, .int .i64 y]] w (Args5 2 4 1 0 0 w) := by
  go_enter Tryz.func187, Tryz.ntmps187
  go_wp2
  go_ret
  exact ⟨_, rfl, by first | omega | simp, row2 _ _ _ _, ((Below.refl _ _).alloc (Nat.le_refl _) _).alloc (by simp) _⟩
theorem piece_ret (x y : Int) (w : World) : Calls Tryz.prog 188 #[.agg #[.int .i64 x, .int .i64 y]] w fun e w' => e = .returned (.agg #[.int .i64 x, .int .i64 y, .bool false, .bool false]) ∧ Below w.heap.size w w' := by
  go_enter Tryz.func188, Tryz.ntmps188
  go_wp2
  exact bodyPost_ret (v := .agg #[.int .i64 x, .int .i64 y, .bool false, .bool false]) (by simp [results, Tryz.results188, go_sem]) rfl ⟨rfl, ((Below.refl _ _).alloc (Nat.le_refl _) _).alloc (by simp) _⟩
theorem writer_args (x : Int) (w : World) : Calls Tryz.prog 189 #[.agg #[.int .i64 x]] w (Args5 3 x 4 0 0 w) := by
  go_enter Tryz.func189, Tryz.ntmps189
  go_wp2
  go_ret
  exact ⟨_, rfl, by first | omega | simp, row2 _ _ _ _, ((Below.refl _ _).alloc (Nat.le_refl _) _).alloc (by simp) _⟩
theorem writer_ret (x : Int) (w : World) : Calls Tryz.prog 190 #[.agg #[.int .i64 x]] w fun e w' => e = .returned (.agg #[.int .i64 0, .int .i64 0, .bool false, .bool false]) ∧ Below w.heap.size w w' := by
  go_enter Tryz.func190, Tryz.ntmps190
  go_wp2
  exact bodyPost_ret (v := .agg #[.int .i64 0, .int .i64 0, .bool false, .bool false]) (by simp [results, Tryz.results190, go_sem]) rfl ⟨rfl, ((Below.refl _ _).alloc (Nat.le_refl _) _).alloc (by simp) _⟩
theorem pair_args (w : World) : Calls Tryz.prog 191 #[.agg #[]] w (Args5 2 2 4 0 0 w) := by
  go_enter Tryz.func191, Tryz.ntmps191
  go_wp2
  go_ret
  exact ⟨_, rfl, by first | omega | simp, row2 _ _ _ _, ((Below.refl _ _).alloc (Nat.le_refl _) _).alloc (by simp) _⟩
theorem pair_ret (w : World) : Calls Tryz.prog 192 #[.agg #[]] w fun e w' => e = .returned (.agg #[.int .i64 (-1), .int .i64 1, .bool false, .bool false]) ∧ Below w.heap.size w w' := by
  go_enter Tryz.func192, Tryz.ntmps192
  go_wp2
  exact bodyPost_ret (v := .agg #[.int .i64 (-1), .int .i64 1, .bool false, .bool false]) (by simp [results, Tryz.results192, go_sem]) rfl ⟨rfl, ((Below.refl _ _).alloc (Nat.le_refl _) _).alloc (by simp) _⟩
theorem make5 (w : World) : (Instr.makeSlice 23 (.int .i64 5) (.int .i64 5)).run Tryz.prog w =
    .ok (.slice (some ⟨w.heap.size, 0, none⟩) 5 5) (w.alloc (.cells (itab 5 (fun _ => 0)).toArray 3)) := by
  obtain ⟨i, hi, hz, hs, hb⟩ := info_parts (show (Tryz.prog.info? 3).map (fun i => (i.zero, i.size, i.bytes)) = some (some (.int .i64 0), 1, 8) by kernel_rfl)
  have h := run_make (P := Tryz.prog) w 23 3 i (.int .i64 0) Tryz.underlying23 hi hz .i64 .i64 5 5 (by omega) (by omega) (by rw [hb]; omega) (by omega)
  rw [h]
  simp only [hs, Nat.mul_one, Value.cells]
  rw [← itab_zero]
  rfl
set_option maxHeartbeats 800000 in
theorem numbers_args (m : Nat) (hm : m ≤ 5) (x y : Int) (p q : Bool) (w : World) : Calls Tryz.prog 193 #[.agg #[.int .i64 m, .int .i64 x, .int .i64 y, .bool p, .bool q]] w fun e w' =>
    ∃ g, e = .returned (.slice (some ⟨g, 0, none⟩) 5 5) ∧ w.heap.size ≤ g ∧ Row w' g 3 (itab 5 fun t => if t < m then 1 else 0) ∧ Below w.heap.size w w' := by
  have hmk := make5
  go_enter Tryz.func193, Tryz.ntmps193
  go_wp2
  go_loopw [8] (fun s wr => ∃ i : Nat, i ≤ m ∧ s = .int .i64 i ∧ Row wr (w.heap.size + 1) 3 (itab 5 fun t => if t < i then 1 else 0) ∧ Below w.heap.size w wr) (fun s _ => m - (intOf s).toNat)
  case atStart =>
    refine ⟨0, Nat.zero_le _, rfl, ?_, ((Below.refl _ _).alloc (Nat.le_refl _) _).alloc (by simp) _⟩
    have e : itab 5 (fun t => if t < 0 then (1 : Int) else 0) = itab 5 fun _ => 0 := itab_congr fun t _ => if_neg (by omega)
    rw [e]
    have := Row.made (w.alloc (.cells #[.int .i64 m, .int .i64 x, .int .i64 y, .bool p, .bool q] 200)) (itab 5 fun _ => 0) 3
    simpa using this
  case round =>
    obtain ⟨i, hi, rfl, hR, hB⟩ := hrel
    by_cases hlt : i < m
    · have hc := (hR.cell i).trans (itab_get _ (by omega))
      have hf := hR.free i
      have hn := hR.put i (.int .i64 1)
      rw [itab_set] at hn
      have hn2 : Row (wr.setCell ⟨w.heap.size + 1, i, none⟩ (.int .i64 1)) (w.heap.size + 1) 3 (itab 5 fun t => if t < i + 1 then 1 else 0) := by
        rwa [itab_congr (h := fun t => if t < i + 1 then 1 else 0)] at hn
        intro t _
        by_cases h1 : t = i
        · rw [if_pos h1, if_pos (by omega)]
        · rw [if_neg h1]
          by_cases h2 : t < i
          · rw [if_pos h2, if_pos (by omega)]
          · rw [if_neg h2, if_neg (by omega)]
      have HN := Lib.hid hn2
      clear hn hn2
      have hi5 : (i : Int) < 5 := by omega
      go_wp2
      go_roundw
      case rel => exact ⟨i + 1, hlt, by go_num, HN.out, hB.setCell (show w.heap.size ≤ w.heap.size + 1 by omega) _⟩
      case measure => simp [intOf]; omega
    · obtain rfl : i = m := by omega
      go_wp2
      go_ret
      exact ⟨_, rfl, by omega, hR, hB⟩
theorem numbers_ret (m x y : Int) (p q : Bool) (w : World) : Calls Tryz.prog 194 #[.agg #[.int .i64 m, .int .i64 x, .int .i64 y, .bool p, .bool q]] w fun e w' => e = .returned (.agg #[.int .i64 x, .int .i64 y, .bool p, .bool q]) ∧ Below w.heap.size w w' := by
  go_enter Tryz.func194, Tryz.ntmps194
  go_wp2
  exact bodyPost_ret (v := .agg #[.int .i64 x, .int .i64 y, .bool p, .bool q]) (by simp [results, Tryz.results194, go_sem]) rfl ⟨rfl, ((Below.refl _ _).alloc (Nat.le_refl _) _).alloc (by simp) _⟩

/-- What Sig answers: the list in new memory. -/
def SigOf (xs : List Int) (lo hi : Int) (p q : Bool) (w : World) (e : Ending) (w' : World) : Prop :=
  ∃ g, e = .returned (.tuple #[.agg #[.slice (some ⟨g, 0, none⟩) 5 5, .int .i64 lo, .int .i64 hi, .bool p, .bool q], .bool true]) ∧ w.heap.size ≤ g ∧ Row w' g 3 (xs.map (Value.int .i64)) ∧ Below w.heap.size w w'
set_option maxRecDepth 100000 in
set_option maxHeartbeats 1600000 in
theorem sig_at (id : Int) (T : TypeId) (cs : Array Value) (fa fr : FuncId) (xs : List Int) (lo hi : Int) (p q : Bool) (hlook : Looks id (.iface T (.agg cs)) true)
    (k1 : ∀ w, (callFunc fa #[.agg cs]).run Tryz.prog w = .ok (.enter fa #[.agg cs]) w) (k2 : ∀ w, (callFunc fr #[.agg cs]).run Tryz.prog w = .ok (.enter fr #[.agg cs]) w)
    (m1 : ∀ w, (method 333 T (.agg cs) "warrant/help.args").run Tryz.prog w = .ok (fa, .agg cs) w) (m2 : ∀ w, (method 333 T (.agg cs) "warrant/help.ret").run Tryz.prog w = .ok (fr, .agg cs) w)
    (hargs : ∀ w, Calls Tryz.prog fa #[.agg cs] w fun e w' => ∃ g, e = .returned (.slice (some ⟨g, 0, none⟩) 5 5) ∧ w.heap.size ≤ g ∧ Row w' g 3 (xs.map (Value.int .i64)) ∧ Below w.heap.size w w')
    (hret : ∀ w, Calls Tryz.prog fr #[.agg cs] w fun e w' => e = .returned (.agg #[.int .i64 lo, .int .i64 hi, .bool p, .bool q]) ∧ Below w.heap.size w w') (w : World) :
    Calls Tryz.prog 96 #[.int .i64 id] w (SigOf xs lo hi p q w) := by
  have HL := Lib.hid hlook
  have HA := Lib.hid hargs
  have HT := Lib.hid hret
  clear hlook hargs hret
  go_enter Tryz.func96, Tryz.ntmps96
  go_wp2_with fail
  have hB0 : Below w.heap.size w ((w.alloc (.cells #[.slice none 0 0, .int .i64 0, .int .i64 0, .bool false, .bool false] 136)).alloc (.cells #[.int .u32 0, .int .i32 0, .int .u32 0, .map none] 187)) := ((Below.refl _ _).alloc (Nat.le_refl _) _).alloc (by simp) _
  have hR0 : Row ((w.alloc (.cells #[.slice none 0 0, .int .i64 0, .int .i64 0, .bool false, .bool false] 136)).alloc (.cells #[.int .u32 0, .int .i32 0, .int .u32 0, .map none] 187)) w.heap.size 136 [.slice none 0 0, .int .i64 0, .int .i64 0, .bool false, .bool false] := (Row.made w [.slice none 0 0, .int .i64 0, .int .i64 0, .bool false, .bool false] 136).alloc _
  refine (get_at (w.heap.size + 1) id _ true HL.out _ _ (row2 w _ [.int .u32 0, .int .i32 0, .int .u32 0, .map none] 187)).mono ?_
  rintro e w1 ⟨rfl, hB1⟩
  have hR1 := hR0.below hB1 (Nat.lt_succ_self _)
  have hB := Lib.hid (hB0.trans (hB1.mono (Nat.le_succ _)))
  have HR := Lib.hid hR1
  clear hB0 hR0 hB1 hR1
  go_wp2_with fail
  refine (HA.out w1).mono ?_
  rintro e w2 ⟨g, rfl, hg, hG, hB1⟩
  have hR1 := HR.out.below hB1 HR.out.lt
  have hs := hB.out.size
  have hB2 := Lib.hid (hB.out.trans (hB1.mono hs))
  have HR1 := Lib.hid hR1
  have hgl := Nat.le_trans hs hg
  have HG := Lib.hid hG
  clear hB1 hR1 hs hG
  go_wp2_with fail
  refine (HT.out w2).mono ?_
  rintro e w3 ⟨rfl, hB1⟩
  have hR1 := HR1.out.below hB1 HR1.out.lt
  have hs := hB2.out.size
  have hB3 := Lib.hid (hB2.out.trans (hB1.mono hs))
  have hG1 := HG.out.below hB1 HG.out.lt
  have HG1 := Lib.hid hG1
  have q0 := hR1.cell 0
  have q1 := hR1.cell 1
  have q2 := hR1.cell 2
  have q3 := hR1.cell 3
  have q4 := hR1.cell 4
  have f0 := hR1.free 0
  have f1 := hR1.free 1
  have f2 := hR1.free 2
  have f3 := hR1.free 3
  have f4 := hR1.free 4
  simp only [List.getElem?_cons_zero, List.getElem?_cons_succ] at q0 q1 q2 q3 q4
  have hgb : g ≠ w.heap.size := by have := HR.out.lt; omega
  have hR5 := ((((hR1.put 0 (.slice (some ⟨g, 0, none⟩) 5 5)).put 1 (.int .i64 lo)).put 2 (.int .i64 hi)).put 3 (.bool p)).put 4 (.bool q)
  have z0 := hR5.cell 0
  have z1 := hR5.cell 1
  have z2 := hR5.cell 2
  have z3 := hR5.cell 3
  have z4 := hR5.cell 4
  simp only [List.set_cons_zero, List.set_cons_succ, List.getElem?_cons_zero, List.getElem?_cons_succ] at z0 z1 z2 z3 z4
  have Z := Lib.hid (And.intro z0 (And.intro z1 (And.intro z2 (And.intro z3 z4))))
  clear hB1 hR1 hs hG1 hR5 z0 z1 z2 z3 z4
  go_wp2
  obtain ⟨z0, z1, z2, z3, z4⟩ := Z.out
  refine bodyPost_ret (v := .tuple #[.agg #[.slice (some ⟨g, 0, none⟩) 5 5, .int .i64 lo, .int .i64 hi, .bool p, .bool q], .bool true]) (by simp [results, Tryz.results96, go_sem, z0, z1, z2, z3, z4]) rfl ⟨g, rfl, hgl, ?_, ?_⟩
  · exact ((((HG1.out.other _ _ hgb).other _ _ hgb).other _ _ hgb).other _ _ hgb).other _ _ hgb
  · exact ((((hB3.out.setCell (Nat.le_refl _) _).setCell (Nat.le_refl _) _).setCell (Nat.le_refl _) _).setCell (Nat.le_refl _) _).setCell (Nat.le_refl _) _

set_option maxRecDepth 100000 in
set_option maxHeartbeats 1600000 in
theorem sig_none (id : Int) (hlook : Looks id .nilIface false) (w : World) :
    Calls Tryz.prog 96 #[.int .i64 id] w fun e w' => e = .returned (.tuple #[.agg #[.slice none 0 0, .int .i64 0, .int .i64 0, .bool false, .bool false], .bool false]) ∧ Below w.heap.size w w' := by
  have HL := Lib.hid hlook
  clear hlook
  go_enter Tryz.func96, Tryz.ntmps96
  go_wp2_with fail
  have hB0 : Below w.heap.size w ((w.alloc (.cells #[.slice none 0 0, .int .i64 0, .int .i64 0, .bool false, .bool false] 136)).alloc (.cells #[.int .u32 0, .int .i32 0, .int .u32 0, .map none] 187)) := ((Below.refl _ _).alloc (Nat.le_refl _) _).alloc (by simp) _
  have hR0 : Row ((w.alloc (.cells #[.slice none 0 0, .int .i64 0, .int .i64 0, .bool false, .bool false] 136)).alloc (.cells #[.int .u32 0, .int .i32 0, .int .u32 0, .map none] 187)) w.heap.size 136 [.slice none 0 0, .int .i64 0, .int .i64 0, .bool false, .bool false] := (Row.made w [.slice none 0 0, .int .i64 0, .int .i64 0, .bool false, .bool false] 136).alloc _
  refine (get_at (w.heap.size + 1) id _ false HL.out _ _ (row2 w _ [.int .u32 0, .int .i32 0, .int .u32 0, .map none] 187)).mono ?_
  rintro e w1 ⟨rfl, hB1⟩
  have hR1 := hR0.below hB1 (Nat.lt_succ_self _)
  have hB := Lib.hid (hB0.trans (hB1.mono (Nat.le_succ _)))
  have q0 := hR1.cell 0
  have f0 := hR1.free 0
  have q1 := hR1.cell 1
  have f1 := hR1.free 1
  have q2 := hR1.cell 2
  have f2 := hR1.free 2
  have q3 := hR1.cell 3
  have f3 := hR1.free 3
  have q4 := hR1.cell 4
  have f4 := hR1.free 4
  simp only [List.getElem?_cons_zero, List.getElem?_cons_succ] at q0 q1 q2 q3 q4
  have hR5 := ((((hR1.put 0 (.slice none 0 0)).put 1 (.int .i64 0)).put 2 (.int .i64 0)).put 3 (.bool false)).put 4 (.bool false)
  have z0 := hR5.cell 0
  have z1 := hR5.cell 1
  have z2 := hR5.cell 2
  have z3 := hR5.cell 3
  have z4 := hR5.cell 4
  simp only [List.set_cons_zero, List.set_cons_succ, List.getElem?_cons_zero, List.getElem?_cons_succ] at z0 z1 z2 z3 z4
  have Z := Lib.hid (And.intro z0 (And.intro z1 (And.intro z2 (And.intro z3 z4))))
  clear hB0 hR0 hB1 hR1 hR5 z0 z1 z2 z3 z4
  go_wp2
  obtain ⟨z0, z1, z2, z3, z4⟩ := Z.out
  refine bodyPost_ret (v := .tuple #[.agg #[.slice none 0 0, .int .i64 0, .int .i64 0, .bool false, .bool false], .bool false]) (by simp [results, Tryz.results96, go_sem, z0, z1, z2, z3, z4]) rfl ⟨rfl, ?_⟩
  exact ((((hB.out.setCell (Nat.le_refl _) _).setCell (Nat.le_refl _) _).setCell (Nat.le_refl _) _).setCell (Nat.le_refl _) _).setCell (Nat.le_refl _) _

theorem args5 {a0 a1 a2 a3 a4 : Int} {w w' : World} {e : Ending} (h : Args5 a0 a1 a2 a3 a4 w e w') :
    ∃ g, e = .returned (.slice (some ⟨g, 0, none⟩) 5 5) ∧ w.heap.size ≤ g ∧ Row w' g 3 ([a0, a1, a2, a3, a4].map (Value.int .i64)) ∧ Below w.heap.size w w' := h
theorem sig1 (w : World) : Calls Tryz.prog 96 #[.int .i64 1] w (SigOf [2, 4, 1, 0, 0] (0) 65535 false false w) :=
  sig_at 1 195 _ 187 188 [2, 4, 1, 0, 0] (0) 65535 false false looks1 (fun w => by kernel_rfl) (fun w => by kernel_rfl) (meth_piece_args _) (meth_piece_ret _)
    (fun w => (piece_args _ _ w).mono fun e w2 h => args5 h) (fun w => piece_ret _ _ w) w
theorem sig2 (w : World) : Calls Tryz.prog 96 #[.int .i64 2] w (SigOf [3, 2, 4, 0, 0] (0) 0 false false w) :=
  sig_at 2 197 _ 189 190 [3, 2, 4, 0, 0] (0) 0 false false looks2 (fun w => by kernel_rfl) (fun w => by kernel_rfl) (meth_writer_args _) (meth_writer_ret _)
    (fun w => (writer_args _ w).mono fun e w2 h => args5 h) (fun w => writer_ret _ w) w
theorem sig3 (w : World) : Calls Tryz.prog 96 #[.int .i64 3] w (SigOf [3, 1, 4, 0, 0] (0) 0 false false w) :=
  sig_at 3 197 _ 189 190 [3, 1, 4, 0, 0] (0) 0 false false looks3 (fun w => by kernel_rfl) (fun w => by kernel_rfl) (meth_writer_args _) (meth_writer_ret _)
    (fun w => (writer_args _ w).mono fun e w2 h => args5 h) (fun w => writer_ret _ w) w
theorem sig4 (w : World) : Calls Tryz.prog 96 #[.int .i64 4] w (SigOf [2, 2, 4, 0, 0] (-1) 1 false false w) :=
  sig_at 4 198 _ 191 192 [2, 2, 4, 0, 0] (-1) 1 false false looks4 (fun w => by kernel_rfl) (fun w => by kernel_rfl) (meth_pair_args _) (meth_pair_ret _)
    (fun w => (pair_args  w).mono fun e w2 h => args5 h) (fun w => pair_ret  w) w
theorem sig5 (w : World) : Calls Tryz.prog 96 #[.int .i64 5] w (SigOf [2, 4, 1, 0, 0] (-1) 65534 false false w) :=
  sig_at 5 195 _ 187 188 [2, 4, 1, 0, 0] (-1) 65534 false false looks5 (fun w => by kernel_rfl) (fun w => by kernel_rfl) (meth_piece_args _) (meth_piece_ret _)
    (fun w => (piece_args _ _ w).mono fun e w2 h => args5 h) (fun w => piece_ret _ _ w) w
theorem sig6 (w : World) : Calls Tryz.prog 96 #[.int .i64 6] w (SigOf [1, 0, 0, 0, 0] (-1) 0 false false w) :=
  sig_at 6 200 _ 193 194 [1, 0, 0, 0, 0] (-1) 0 false false looks6 (fun w => by kernel_rfl) (fun w => by kernel_rfl) (meth_numbers_args _) (meth_numbers_ret _)
    (fun w => numbers_args 1 (by decide) _ _ _ _ w) (fun w => numbers_ret _ _ _ _ _ w) w
theorem sig7 (w : World) : Calls Tryz.prog 96 #[.int .i64 7] w (SigOf [1, 1, 0, 0, 0] (0) 0 false false w) :=
  sig_at 7 200 _ 193 194 [1, 1, 0, 0, 0] (0) 0 false false looks7 (fun w => by kernel_rfl) (fun w => by kernel_rfl) (meth_numbers_args _) (meth_numbers_ret _)
    (fun w => numbers_args 2 (by decide) _ _ _ _ w) (fun w => numbers_ret _ _ _ _ _ w) w
theorem sig8 (w : World) : Calls Tryz.prog 96 #[.int .i64 8] w (SigOf [1, 1, 0, 0, 0] (0) 0 true true w) :=
  sig_at 8 200 _ 193 194 [1, 1, 0, 0, 0] (0) 0 true true looks8 (fun w => by kernel_rfl) (fun w => by kernel_rfl) (meth_numbers_args _) (meth_numbers_ret _)
    (fun w => numbers_args 2 (by decide) _ _ _ _ w) (fun w => numbers_ret _ _ _ _ _ w) w

end Go.Proofs.YtdepknffpnnmmaaGreat
