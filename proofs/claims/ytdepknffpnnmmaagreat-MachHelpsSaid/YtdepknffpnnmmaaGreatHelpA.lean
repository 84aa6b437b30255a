/-
  The helpers' table: made once, under a sync.Once in new memory; one goroutine.
-/
import Derived.Test.YtdepknffpnnmmaaGreatRows
import Derived.Test.YtdepknffpnnmmaaGreatJ0a
import Derived.Lib.Hide
import Derived.Defers
import Derived.Laws.LoneSync
import Derived.RegionCalls
import Derived.ChangeAlike
namespace Go.Proofs.YtdepknffpnnmmaaGreat
open Go.RowKit
set_option linter.unusedVariables false

/-- The entries of the helpers' table. -/
def helpL : List MapEntry := [⟨.int .i64 1, .iface 195 (.agg #[.int .i64 0, .int .i64 65535]), 0⟩, ⟨.int .i64 2, .iface 197 (.agg #[.int .i64 2]), 1⟩, ⟨.int .i64 3, .iface 197 (.agg #[.int .i64 1]), 2⟩, ⟨.int .i64 4, .iface 198 (.agg #[]), 3⟩, ⟨.int .i64 5, .iface 195 (.agg #[.int .i64 (-1), .int .i64 65534]), 4⟩, ⟨.int .i64 6, .iface 200 (.agg #[.int .i64 1, .int .i64 (-1), .int .i64 0, .bool false, .bool false]), 5⟩, ⟨.int .i64 7, .iface 200 (.agg #[.int .i64 2, .int .i64 0, .int .i64 0, .bool false, .bool false]), 6⟩, ⟨.int .i64 8, .iface 200 (.agg #[.int .i64 2, .int .i64 0, .int .i64 0, .bool true, .bool true]), 7⟩]
def helpE (i : Nat) : Array MapEntry := (helpL.take i).toArray
theorem help_put1 (w : World) : (Instr.mapUpdate 185 (.map (some w.heap.size)) (.int .i64 1) (.iface 195 (.agg #[.int .i64 0, .int .i64 65535]))).run Tryz.prog (w.alloc (.map #[] 0)) = .ok () (w.alloc (.map (helpE 1) 1)) :=
  run_put Tryz.underlying185 Tryz.underlying3 w #[] 0 1 _ rfl
theorem help_put2 (w : World) : (Instr.mapUpdate 185 (.map (some w.heap.size)) (.int .i64 2) (.iface 197 (.agg #[.int .i64 2]))).run Tryz.prog (w.alloc (.map (helpE 1) 1)) = .ok () (w.alloc (.map (helpE 2) 2)) :=
  run_put Tryz.underlying185 Tryz.underlying3 w (helpE 1) 1 2 _ rfl
theorem help_put3 (w : World) : (Instr.mapUpdate 185 (.map (some w.heap.size)) (.int .i64 3) (.iface 197 (.agg #[.int .i64 1]))).run Tryz.prog (w.alloc (.map (helpE 2) 2)) = .ok () (w.alloc (.map (helpE 3) 3)) :=
  run_put Tryz.underlying185 Tryz.underlying3 w (helpE 2) 2 3 _ rfl
theorem help_put4 (w : World) : (Instr.mapUpdate 185 (.map (some w.heap.size)) (.int .i64 4) (.iface 198 (.agg #[]))).run Tryz.prog (w.alloc (.map (helpE 3) 3)) = .ok () (w.alloc (.map (helpE 4) 4)) :=
  run_put Tryz.underlying185 Tryz.underlying3 w (helpE 3) 3 4 _ rfl
theorem help_put5 (w : World) : (Instr.mapUpdate 185 (.map (some w.heap.size)) (.int .i64 5) (.iface 195 (.agg #[.int .i64 (-1), .int .i64 65534]))).run Tryz.prog (w.alloc (.map (helpE 4) 4)) = .ok () (w.alloc (.map (helpE 5) 5)) :=
  run_put Tryz.underlying185 Tryz.underlying3 w (helpE 4) 4 5 _ rfl
theorem help_put6 (w : World) : (Instr.mapUpdate 185 (.map (some w.heap.size)) (.int .i64 6) (.iface 200 (.agg #[.int .i64 1, .int .i64 (-1), .int .i64 0, .bool false, .bool false]))).run Tryz.prog (w.alloc (.map (helpE 5) 5)) = .ok () (w.alloc (.map (helpE 6) 6)) :=
  run_put Tryz.underlying185 Tryz.underlying3 w (helpE 5) 5 6 _ rfl
theorem help_put7 (w : World) : (Instr.mapUpdate 185 (.map (some w.heap.size)) (.int .i64 7) (.iface 200 (.agg #[.int .i64 2, .int .i64 0, .int .i64 0, .bool false, .bool false]))).run Tryz.prog (w.alloc (.map (helpE 6) 6)) = .ok () (w.alloc (.map (helpE 7) 7)) :=
  run_put Tryz.underlying185 Tryz.underlying3 w (helpE 6) 6 7 _ rfl
theorem help_put8 (w : World) : (Instr.mapUpdate 185 (.map (some w.heap.size)) (.int .i64 8) (.iface 200 (.agg #[.int .i64 2, .int .i64 0, .int .i64 0, .bool true, .bool true]))).run Tryz.prog (w.alloc (.map (helpE 7) 7)) = .ok () (w.alloc (.map (helpE 8) 8)) :=
  run_put Tryz.underlying185 Tryz.underlying3 w (helpE 7) 7 8 _ rfl

set_option maxRecDepth 100000 in
set_option maxHeartbeats 1600000 in
theorem fill_any (b : Nat) (c0 c1 c2 : Value) (w : World) (hR : Row w b 187 [c0, c1, c2, .map none]) :
    Calls Tryz.prog 145 #[.pointer (some ⟨b, 0, none⟩)] w fun e w' => e = .returned (.tuple #[]) ∧ ∃ m, b < m ∧ Row w' b 187 [c0, c1, c2, .map (some m)] ∧ w'.heap[m]? = some (.map (helpE 8) 8) ∧ Below b w w' := by
  have hmm := @run_makeMap Tryz.prog
  have p1 := help_put1
  have p2 := help_put2
  have p3 := help_put3
  have p4 := help_put4
  have p5 := help_put5
  have p6 := help_put6
  have p7 := help_put7
  have p8 := help_put8
  have hR2 := hR.alloc (.map (helpE 8) 8)
  have hc := hR2.cell 3
  have hf := hR2.free 3
  simp only [List.getElem?_cons_zero, List.getElem?_cons_succ] at hc
  go_enter Tryz.func145, Tryz.ntmps145
  iterate 6 (first | simp only [List.append_eq, List.cons_append, List.nil_append] | go_step)
  go_wp2
  go_end0
  have hlt := hR.lt
  refine ⟨rfl, w.heap.size, hlt, hR2.put 3 _, ?_, ((Below.refl b w).alloc (by omega) _).setCell (Nat.le_refl _) _⟩
  rw [Below.heap_setCell _ _ _ _ (show w.heap.size ≠ b by omega)]
  exact heap_alloc_new w _

/-! ### sync.Once -/
theorem disable (w : World) : (callFunc 156 #[]).run Tryz.prog w = .ok (.value (.tuple #[])) w := run_call_mark0 Tryz.func156 (by kernel_rfl) (by kernel_rfl) (by kernel_rfl) .disable (by kernel_rfl) w
theorem enable (w : World) : (callFunc 158 #[]).run Tryz.prog w = .ok (.value (.tuple #[])) w := run_call_mark0 Tryz.func158 (by kernel_rfl) (by kernel_rfl) (by kernel_rfl) .enable (by kernel_rfl) w
theorem acquire (a : Addr) (w : World) : (callFunc 159 #[.pointer (some a)]).run Tryz.prog w = .ok (.value (.tuple #[])) w := run_call_marked Tryz.func159 (by kernel_rfl) (by kernel_rfl) (by kernel_rfl) .acquire (by kernel_rfl) a w
theorem releaseMerge (a : Addr) (w : World) : (callFunc 161 #[.pointer (some a)]).run Tryz.prog w = .ok (.value (.tuple #[])) w := run_call_marked Tryz.func161 (by kernel_rfl) (by kernel_rfl) (by kernel_rfl) .releaseMerge (by kernel_rfl) a w

theorem store_deferred (a : Addr) (x : Value) (u : FrameMode) (w : World) (hc : w.cell? a = some x) (hz : w.frozen? a = false) :
    CallsD Tryz.prog 151 #[.pointer (some a), .bool true] u w fun e u' w' => u' = u ∧ (e = .returned (.tuple #[]) ∧ w' = w.drew.setCell a (.int .u32 1)) := by
  have hc' : w.drew.cell? a = some x := by go_simp
  have hz' : w.drew.frozen? a = false := by go_simp
  have hst := run_call_store (P := Tryz.prog) Tryz.func154 (by kernel_rfl) (by kernel_rfl) (by kernel_rfl) (by kernel_rfl) (k := .u32) (y := 1) hc' hz'
  go_enter_d Tryz.func151, Tryz.ntmps151
  go_wp2
  go_region_calls
  all_goals (go_end0; exact ⟨rfl, rfl⟩)

set_option maxRecDepth 100000 in
set_option maxHeartbeats 1600000 in
theorem unlock_deferred (a : Addr) (u : FrameMode) (w : World) (hc : w.cell? a = some (.int .i32 1)) (hz : w.frozen? a = false) :
    CallsD Tryz.prog 150 #[.pointer (some a)] u w fun e u' w' => u' = u ∧ (e = .returned (.tuple #[]) ∧ w' = w.setCell a (.int .i32 0)) := by
  have hd := disable
  have he := enable
  have hr := releaseMerge
  have hadd := run_call_add (P := Tryz.prog) Tryz.func162 (by kernel_rfl) (by kernel_rfl) (by kernel_rfl) .i32 (by kernel_rfl) (y := -1) (s := 0) hc hz (by simp [go_sem]; rfl)
  have hcv := run_convert_to_unsafe (P := Tryz.prog) (src := 208) (dst := 212) Tryz.underlying208 Tryz.underlying212 (by kernel_rfl) hc
  go_enter_d Tryz.func150, Tryz.ntmps150
  go_wp2
  go_end0
  go_wp2
  go_end0
  exact ⟨rfl, rfl⟩

set_option maxRecDepth 100000 in
set_option maxHeartbeats 1600000 in
theorem lock_free (a : Addr) (w : World) (hc : w.cell? a = some (.int .i32 0)) (hz : w.frozen? a = false) :
    Calls Tryz.prog 149 #[.pointer (some a)] w fun e w' => e = .returned (.tuple #[]) ∧ w' = w.setCell a (.int .i32 1) := by
  have hd := disable
  have he := enable
  have ha := acquire
  have hcas := run_call_cas_hit (P := Tryz.prog) Tryz.func157 (by kernel_rfl) (by kernel_rfl) (by kernel_rfl) .i32 (by kernel_rfl) (y := 1) hc hz
  have hc' : (w.setCell a (.int .i32 1)).cell? a = some (.int .i32 1) := World.cell?_setCell_same w a _ hc
  have hcv := run_convert_to_unsafe (P := Tryz.prog) (src := 208) (dst := 212) Tryz.underlying208 Tryz.underlying212 (by kernel_rfl) hc'
  go_enter Tryz.func149, Tryz.ntmps149
  go_wp2
  first | go_end0 | (simp only [Exit.inBlock, Exit.then]; refine bodyPost_ret (results_none rfl _ _ _) rfl ?_) | refine bodyPost_ret (results_none rfl _ _ _) rfl ?_
  go_wp2
  go_end0
  exact ⟨rfl, rfl⟩

/-- What the first call of Do leaves. -/
def Filled (b : Nat) (w w' : World) : Prop := ∃ m c2, b < m ∧ Row w' b 187 [.int .u32 1, .int .i32 0, c2, .map (some m)] ∧ w'.heap[m]? = some (.map (helpE 8) 8) ∧ Below b w w'

set_option maxRecDepth 100000 in
set_option maxHeartbeats 1600000 in
theorem slow_any (b : Nat) (c2 : Value) (w : World) (hR : Row w b 187 [.int .u32 0, .int .i32 0, c2, .map none]) :
    Calls Tryz.prog 147 #[.pointer (some ⟨b, 0, none⟩), .func (.func 145) #[.pointer (some ⟨b, 0, none⟩)] #[]] w fun e w' => e = .returned (.tuple #[]) ∧ Filled b w w' := by
  have hR1 : Row (w.setCell ⟨b, 1, none⟩ (.int .i32 1)) b 187 [.int .u32 0, .int .i32 1, c2, .map none] := hR.put 1 _
  have q1 := hR.cell 1
  have q2 := hR.free 1
  have q3 := hR1.cell 0
  simp only [List.getElem?_cons_zero, List.getElem?_cons_succ] at q1 q3
  have hl := run_call_load (P := Tryz.prog) Tryz.func148 (by kernel_rfl) (by kernel_rfl) (by kernel_rfl) .u32 (by kernel_rfl) (w := w.setCell ⟨b, 1, none⟩ (.int .i32 1)) (a := ⟨b, 0, none⟩) (x := 0) q3
  have hnot : ∀ (x : Bool) (w : World), (Op.unary .not (.bool x)).run Tryz.prog w = .ok (.bool (!x)) w := fun _ _ => rfl
  have HR1 := Lib.hid hR1
  have hB0 := Lib.hid (show Below b w (w.setCell ⟨b, 1, none⟩ (.int .i32 1)) from (Below.refl b w).setCell (Nat.le_refl b) _)
  clear hR1 hR
  go_enter_defers Tryz.func147, Tryz.ntmps147
  go_wp2_with (first | (go_at_call 149; refine (lock_free ⟨b, 1, none⟩ _ q1 q2).mono ?_; rintro e w' ⟨rfl, rfl⟩) | (go_at_call 146; go_in))
  refine (fill_any b _ _ _ _ HR1.out).mono ?_
  rintro e w1 ⟨rfl, m, hm, hR, hmap, hB⟩
  have s0 := hR.cell 0
  have f0 := hR.free 0
  have hR2 : Row (w1.drew.setCell ⟨b, 0, none⟩ (.int .u32 1)) b 187 [.int .u32 1, .int .i32 1, c2, .map (some m)] := hR.drew.put 0 _
  have s1 := hR2.cell 1
  have f1 := hR2.free 1
  simp only [List.getElem?_cons_zero, List.getElem?_cons_succ] at s0 s1
  have HR2 := Lib.hid hR2
  have HM := Lib.hid hmap
  have HB := Lib.hid (hB0.out.trans hB)
  clear hR hR2 hmap hB
  go_wp2
  refine leaves_cons (f := 151) (args := #[.pointer (some ⟨b, 0, none⟩), .bool true]) (by simp) (by simp [go_sem]) ?_
  refine (store_deferred ⟨b, 0, none⟩ (.int .u32 0) .returning _ s0 f0).mono ?_
  rintro e u' w'' ⟨rfl, rfl, rfl⟩
  refine leaves_cons (f := 150) (args := #[.pointer (some ⟨b, 1, none⟩)]) (by simp [settle]) (by simp [go_sem]) ?_
  refine (unlock_deferred ⟨b, 1, none⟩ _ _ s1 f1).mono ?_
  rintro e u' w'' ⟨rfl, rfl, rfl⟩
  have fin : Filled b w ((w1.drew.setCell ⟨b, 0, none⟩ (.int .u32 1)).setCell ⟨b, 1, none⟩ (.int .i32 0)) := by
    refine ⟨m, c2, hm, HR2.out.put 1 _, ?_, ((HB.out.drew).setCell (Nat.le_refl b) _).setCell (Nat.le_refl b) _⟩
    rw [Below.heap_setCell _ _ _ _ (show m ≠ b by omega), Below.heap_setCell _ _ _ _ (show m ≠ b by omega)]
    exact HM.out
  simp [Leaves, settle, results, Tryz.results147, fin]

set_option maxRecDepth 100000 in
set_option maxHeartbeats 1600000 in
theorem do_first (b : Nat) (c2 : Value) (w : World) (hR : Row w b 187 [.int .u32 0, .int .i32 0, c2, .map none]) :
    Calls Tryz.prog 144 #[.pointer (some ⟨b, 0, none⟩), .func (.func 145) #[.pointer (some ⟨b, 0, none⟩)] #[]] w fun e w' => e = .returned (.tuple #[]) ∧ Filled b w w' := by
  have q0 := hR.cell 0
  simp only [List.getElem?_cons_zero] at q0
  have hl := run_call_load (P := Tryz.prog) Tryz.func148 (by kernel_rfl) (by kernel_rfl) (by kernel_rfl) .u32 (by kernel_rfl) q0
  have hnot : ∀ (x : Bool) (w : World), (Op.unary .not (.bool x)).run Tryz.prog w = .ok (.bool (!x)) w := fun _ _ => rfl
  have HR := Lib.hid hR
  clear hR
  go_enter Tryz.func144, Tryz.ntmps144
  go_wp2_with (go_at_call 146; go_in)
  refine (slow_any b _ _ HR.out).mono ?_
  rintro e w1 ⟨rfl, hF⟩
  have HF := Lib.hid hF
  clear hF
  go_wp2
  go_end0
  exact ⟨rfl, HF.out⟩

/-- What the table holds at a number. -/
def Looks (id : Int) (v : Value) (ok : Bool) : Prop := ∀ (w : World) (m : Nat), w.heap[m]? = some (.map (helpE 8) 8) → (Instr.lookup 185 (.map (some m)) (.int .i64 id) true).run Tryz.prog w = .ok (.tuple #[v, .bool ok]) w

set_option maxHeartbeats 1600000 in
theorem get_at (b : Nat) (id : Int) (v : Value) (ok : Bool) (hlook : Looks id v ok) (c2 : Value) (w : World) (hR : Row w b 187 [.int .u32 0, .int .i32 0, c2, .map none]) :
    Calls Tryz.prog 119 #[.pointer (some ⟨b, 0, none⟩), .int .i64 id] w fun e w' => e = .returned (.tuple #[v, .bool ok]) ∧ Below b w w' := by
  have hmf : ∀ (fn : Fn) (first cap : Array Value) (w : World), (Instr.makeFunc fn first cap).run Tryz.prog w = .ok (.func fn first cap) w := fun _ _ _ _ => rfl
  have HR := Lib.hid hR
  have HL := Lib.hid hlook
  clear hR hlook
  go_enter Tryz.func119, Tryz.ntmps119
  go_wp2_with fail
  refine (do_first b c2 _ HR.out).mono ?_
  rintro e w1 ⟨rfl, m, c3, hm, hR1, hmap, hB⟩
  have q3 := hR1.cell 3
  simp only [List.getElem?_cons_zero, List.getElem?_cons_succ] at q3
  have hl := HL.out w1 m hmap
  have HB := Lib.hid hB
  clear hR1 hmap hB
  go_wp2
  go_ret2
  exact ⟨rfl, HB.out⟩

theorem looks1 : Looks 1 (.iface 195 (.agg #[.int .i64 0, .int .i64 65535])) true := fun w m h =>
  run_look Tryz.underlying185 Tryz.underlying3 w m (helpE 8) 8 h 1 0 _ rfl true
theorem looks2 : Looks 2 (.iface 197 (.agg #[.int .i64 2])) true := fun w m h =>
  run_look Tryz.underlying185 Tryz.underlying3 w m (helpE 8) 8 h 2 1 _ rfl true
theorem looks3 : Looks 3 (.iface 197 (.agg #[.int .i64 1])) true := fun w m h =>
  run_look Tryz.underlying185 Tryz.underlying3 w m (helpE 8) 8 h 3 2 _ rfl true
theorem looks4 : Looks 4 (.iface 198 (.agg #[])) true := fun w m h =>
  run_look Tryz.underlying185 Tryz.underlying3 w m (helpE 8) 8 h 4 3 _ rfl true
theorem looks5 : Looks 5 (.iface 195 (.agg #[.int .i64 (-1), .int .i64 65534])) true := fun w m h =>
  run_look Tryz.underlying185 Tryz.underlying3 w m (helpE 8) 8 h 5 4 _ rfl true
theorem looks6 : Looks 6 (.iface 200 (.agg #[.int .i64 1, .int .i64 (-1), .int .i64 0, .bool false, .bool false])) true := fun w m h =>
  run_look Tryz.underlying185 Tryz.underlying3 w m (helpE 8) 8 h 6 5 _ rfl true
theorem looks7 : Looks 7 (.iface 200 (.agg #[.int .i64 2, .int .i64 0, .int .i64 0, .bool false, .bool false])) true := fun w m h =>
  run_look Tryz.underlying185 Tryz.underlying3 w m (helpE 8) 8 h 7 6 _ rfl true
theorem looks8 : Looks 8 (.iface 200 (.agg #[.int .i64 2, .int .i64 0, .int .i64 0, .bool true, .bool true])) true := fun w m h =>
  run_look Tryz.underlying185 Tryz.underlying3 w m (helpE 8) 8 h 8 7 _ rfl true
theorem looks_none (id : Int) (h : id < 1 ∨ 8 < id) : Looks id .nilIface false := fun w m hm => by
  have hs : ∀ k : Int, id ≠ k → Instr.sameNow (.int .i64) (.int .i64 id) (.int .i64 k) = some false := fun k hk => by
    simp [Instr.sameNow, hk]
  have hf : Instr.findNow (.int .i64) (.int .i64 id) (helpE 8).toList 0 = some none := by
    show Instr.findNow _ _ helpL 0 = _
    simp only [helpL, Instr.findNow, hs 1 (by omega), hs 2 (by omega), hs 3 (by omega), hs 4 (by omega), hs 5 (by omega), hs 6 (by omega), hs 7 (by omega), hs 8 (by omega)]
  exact run_look_none Tryz.underlying185 Tryz.underlying3 w m (helpE 8) 8 hm id .nilIface hf (by kernel_rfl) true
end Go.Proofs.YtdepknffpnnmmaaGreat
