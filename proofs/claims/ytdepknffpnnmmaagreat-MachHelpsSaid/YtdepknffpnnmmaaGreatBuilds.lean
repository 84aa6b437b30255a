/-
  Instructions built out of some of their fields.
-/
import Derived.Test.YtdepknffpnnmmaaGreatMachX
namespace Go.Proofs.YtdepknffpnnmmaaGreat
open Go.RowKit
set_option linter.unusedVariables false

set_option maxRecDepth 100000 in
theorem built_i0 (x0 : Int) : Tryz.prog.built 25 [(0, .int .i64 x0)] = some #[.int .i64 x0, .bool false, .bool false, .int .i64 0, .int .i64 0, .int .i64 0, .int .i64 0, .int .i64 0] := by kernel_rfl
theorem run_i0 (x0 : Int) (w : World) : (Instr.build 25 #[(0, .int .i64 x0)]).run Tryz.prog w = .ok (.agg #[.int .i64 x0, .bool false, .bool false, .int .i64 0, .int .i64 0, .int .i64 0, .int .i64 0, .int .i64 0]) w := run_build w _ _ _ (built_i0 x0)
set_option maxRecDepth 100000 in
theorem built_i04 (x0 : Int) (x4 : Int) : Tryz.prog.built 25 [(0, .int .i64 x0), (4, .int .i64 x4)] = some #[.int .i64 x0, .bool false, .bool false, .int .i64 0, .int .i64 x4, .int .i64 0, .int .i64 0, .int .i64 0] := by kernel_rfl
theorem run_i04 (x0 : Int) (x4 : Int) (w : World) : (Instr.build 25 #[(0, .int .i64 x0), (4, .int .i64 x4)]).run Tryz.prog w = .ok (.agg #[.int .i64 x0, .bool false, .bool false, .int .i64 0, .int .i64 x4, .int .i64 0, .int .i64 0, .int .i64 0]) w := run_build w _ _ _ (built_i04 x0 x4)
set_option maxRecDepth 100000 in
theorem built_i06 (x0 : Int) (x6 : Int) : Tryz.prog.built 25 [(0, .int .i64 x0), (6, .int .i64 x6)] = some #[.int .i64 x0, .bool false, .bool false, .int .i64 0, .int .i64 0, .int .i64 0, .int .i64 x6, .int .i64 0] := by kernel_rfl
theorem run_i06 (x0 : Int) (x6 : Int) (w : World) : (Instr.build 25 #[(0, .int .i64 x0), (6, .int .i64 x6)]).run Tryz.prog w = .ok (.agg #[.int .i64 x0, .bool false, .bool false, .int .i64 0, .int .i64 0, .int .i64 0, .int .i64 x6, .int .i64 0]) w := run_build w _ _ _ (built_i06 x0 x6)
set_option maxRecDepth 100000 in
theorem built_i07 (x0 : Int) (x7 : Int) : Tryz.prog.built 25 [(0, .int .i64 x0), (7, .int .i64 x7)] = some #[.int .i64 x0, .bool false, .bool false, .int .i64 0, .int .i64 0, .int .i64 0, .int .i64 0, .int .i64 x7] := by kernel_rfl
theorem run_i07 (x0 : Int) (x7 : Int) (w : World) : (Instr.build 25 #[(0, .int .i64 x0), (7, .int .i64 x7)]).run Tryz.prog w = .ok (.agg #[.int .i64 x0, .bool false, .bool false, .int .i64 0, .int .i64 0, .int .i64 0, .int .i64 0, .int .i64 x7]) w := run_build w _ _ _ (built_i07 x0 x7)
set_option maxRecDepth 100000 in
theorem built_i047 (x0 : Int) (x4 : Int) (x7 : Int) : Tryz.prog.built 25 [(0, .int .i64 x0), (4, .int .i64 x4), (7, .int .i64 x7)] = some #[.int .i64 x0, .bool false, .bool false, .int .i64 0, .int .i64 x4, .int .i64 0, .int .i64 0, .int .i64 x7] := by kernel_rfl
theorem run_i047 (x0 : Int) (x4 : Int) (x7 : Int) (w : World) : (Instr.build 25 #[(0, .int .i64 x0), (4, .int .i64 x4), (7, .int .i64 x7)]).run Tryz.prog w = .ok (.agg #[.int .i64 x0, .bool false, .bool false, .int .i64 0, .int .i64 x4, .int .i64 0, .int .i64 0, .int .i64 x7]) w := run_build w _ _ _ (built_i047 x0 x4 x7)
set_option maxRecDepth 100000 in
theorem built_i0245 (x0 : Int) (x2 : Bool) (x4 : Int) (x5 : Int) : Tryz.prog.built 25 [(0, .int .i64 x0), (2, .bool x2), (4, .int .i64 x4), (5, .int .i64 x5)] = some #[.int .i64 x0, .bool false, .bool x2, .int .i64 0, .int .i64 x4, .int .i64 x5, .int .i64 0, .int .i64 0] := by kernel_rfl
theorem run_i0245 (x0 : Int) (x2 : Bool) (x4 : Int) (x5 : Int) (w : World) : (Instr.build 25 #[(0, .int .i64 x0), (2, .bool x2), (4, .int .i64 x4), (5, .int .i64 x5)]).run Tryz.prog w = .ok (.agg #[.int .i64 x0, .bool false, .bool x2, .int .i64 0, .int .i64 x4, .int .i64 x5, .int .i64 0, .int .i64 0]) w := run_build w _ _ _ (built_i0245 x0 x2 x4 x5)
set_option maxRecDepth 100000 in
theorem built_i02456 (x0 : Int) (x2 : Bool) (x4 : Int) (x5 : Int) (x6 : Int) : Tryz.prog.built 25 [(0, .int .i64 x0), (2, .bool x2), (4, .int .i64 x4), (5, .int .i64 x5), (6, .int .i64 x6)] = some #[.int .i64 x0, .bool false, .bool x2, .int .i64 0, .int .i64 x4, .int .i64 x5, .int .i64 x6, .int .i64 0] := by kernel_rfl
theorem run_i02456 (x0 : Int) (x2 : Bool) (x4 : Int) (x5 : Int) (x6 : Int) (w : World) : (Instr.build 25 #[(0, .int .i64 x0), (2, .bool x2), (4, .int .i64 x4), (5, .int .i64 x5), (6, .int .i64 x6)]).run Tryz.prog w = .ok (.agg #[.int .i64 x0, .bool false, .bool x2, .int .i64 0, .int .i64 x4, .int .i64 x5, .int .i64 x6, .int .i64 0]) w := run_build w _ _ _ (built_i02456 x0 x2 x4 x5 x6)
set_option maxRecDepth 100000 in
theorem built_i0425 (x0 : Int) (x4 : Int) (x2 : Bool) (x5 : Int) : Tryz.prog.built 25 [(0, .int .i64 x0), (4, .int .i64 x4), (2, .bool x2), (5, .int .i64 x5)] = some #[.int .i64 x0, .bool false, .bool x2, .int .i64 0, .int .i64 x4, .int .i64 x5, .int .i64 0, .int .i64 0] := by kernel_rfl
theorem run_i0425 (x0 : Int) (x4 : Int) (x2 : Bool) (x5 : Int) (w : World) : (Instr.build 25 #[(0, .int .i64 x0), (4, .int .i64 x4), (2, .bool x2), (5, .int .i64 x5)]).run Tryz.prog w = .ok (.agg #[.int .i64 x0, .bool false, .bool x2, .int .i64 0, .int .i64 x4, .int .i64 x5, .int .i64 0, .int .i64 0]) w := run_build w _ _ _ (built_i0425 x0 x4 x2 x5)
set_option maxRecDepth 100000 in
theorem built_i014256 (x0 : Int) (x1 : Bool) (x4 : Int) (x2 : Bool) (x5 : Int) (x6 : Int) : Tryz.prog.built 25 [(0, .int .i64 x0), (1, .bool x1), (4, .int .i64 x4), (2, .bool x2), (5, .int .i64 x5), (6, .int .i64 x6)] = some #[.int .i64 x0, .bool x1, .bool x2, .int .i64 0, .int .i64 x4, .int .i64 x5, .int .i64 x6, .int .i64 0] := by kernel_rfl
theorem run_i014256 (x0 : Int) (x1 : Bool) (x4 : Int) (x2 : Bool) (x5 : Int) (x6 : Int) (w : World) : (Instr.build 25 #[(0, .int .i64 x0), (1, .bool x1), (4, .int .i64 x4), (2, .bool x2), (5, .int .i64 x5), (6, .int .i64 x6)]).run Tryz.prog w = .ok (.agg #[.int .i64 x0, .bool x1, .bool x2, .int .i64 0, .int .i64 x4, .int .i64 x5, .int .i64 x6, .int .i64 0]) w := run_build w _ _ _ (built_i014256 x0 x1 x4 x2 x5 x6)
set_option maxRecDepth 100000 in
theorem built_i01476 (x0 : Int) (x1 : Bool) (x4 : Int) (x7 : Int) (x6 : Int) : Tryz.prog.built 25 [(0, .int .i64 x0), (1, .bool x1), (4, .int .i64 x4), (7, .int .i64 x7), (6, .int .i64 x6)] = some #[.int .i64 x0, .bool x1, .bool false, .int .i64 0, .int .i64 x4, .int .i64 0, .int .i64 x6, .int .i64 x7] := by kernel_rfl
theorem run_i01476 (x0 : Int) (x1 : Bool) (x4 : Int) (x7 : Int) (x6 : Int) (w : World) : (Instr.build 25 #[(0, .int .i64 x0), (1, .bool x1), (4, .int .i64 x4), (7, .int .i64 x7), (6, .int .i64 x6)]).run Tryz.prog w = .ok (.agg #[.int .i64 x0, .bool x1, .bool false, .int .i64 0, .int .i64 x4, .int .i64 0, .int .i64 x6, .int .i64 x7]) w := run_build w _ _ _ (built_i01476 x0 x1 x4 x7 x6)
set_option maxRecDepth 100000 in
theorem built_i034625 (x0 : Int) (x3 : Int) (x4 : Int) (x6 : Int) (x2 : Bool) (x5 : Int) : Tryz.prog.built 25 [(0, .int .i64 x0), (3, .int .i64 x3), (4, .int .i64 x4), (6, .int .i64 x6), (2, .bool x2), (5, .int .i64 x5)] = some #[.int .i64 x0, .bool false, .bool x2, .int .i64 x3, .int .i64 x4, .int .i64 x5, .int .i64 x6, .int .i64 0] := by kernel_rfl
theorem run_i034625 (x0 : Int) (x3 : Int) (x4 : Int) (x6 : Int) (x2 : Bool) (x5 : Int) (w : World) : (Instr.build 25 #[(0, .int .i64 x0), (3, .int .i64 x3), (4, .int .i64 x4), (6, .int .i64 x6), (2, .bool x2), (5, .int .i64 x5)]).run Tryz.prog w = .ok (.agg #[.int .i64 x0, .bool false, .bool x2, .int .i64 x3, .int .i64 x4, .int .i64 x5, .int .i64 x6, .int .i64 0]) w := run_build w _ _ _ (built_i034625 x0 x3 x4 x6 x2 x5)
set_option maxRecDepth 100000 in
theorem built_i03456 (x0 : Int) (x3 : Int) (x4 : Int) (x5 : Int) (x6 : Int) : Tryz.prog.built 25 [(0, .int .i64 x0), (3, .int .i64 x3), (4, .int .i64 x4), (5, .int .i64 x5), (6, .int .i64 x6)] = some #[.int .i64 x0, .bool false, .bool false, .int .i64 x3, .int .i64 x4, .int .i64 x5, .int .i64 x6, .int .i64 0] := by kernel_rfl
theorem run_i03456 (x0 : Int) (x3 : Int) (x4 : Int) (x5 : Int) (x6 : Int) (w : World) : (Instr.build 25 #[(0, .int .i64 x0), (3, .int .i64 x3), (4, .int .i64 x4), (5, .int .i64 x5), (6, .int .i64 x6)]).run Tryz.prog w = .ok (.agg #[.int .i64 x0, .bool false, .bool false, .int .i64 x3, .int .i64 x4, .int .i64 x5, .int .i64 x6, .int .i64 0]) w := run_build w _ _ _ (built_i03456 x0 x3 x4 x5 x6)
set_option maxRecDepth 100000 in
theorem built_i03467 (x0 : Int) (x3 : Int) (x4 : Int) (x6 : Int) (x7 : Int) : Tryz.prog.built 25 [(0, .int .i64 x0), (3, .int .i64 x3), (4, .int .i64 x4), (6, .int .i64 x6), (7, .int .i64 x7)] = some #[.int .i64 x0, .bool false, .bool false, .int .i64 x3, .int .i64 x4, .int .i64 0, .int .i64 x6, .int .i64 x7] := by kernel_rfl
theorem run_i03467 (x0 : Int) (x3 : Int) (x4 : Int) (x6 : Int) (x7 : Int) (w : World) : (Instr.build 25 #[(0, .int .i64 x0), (3, .int .i64 x3), (4, .int .i64 x4), (6, .int .i64 x6), (7, .int .i64 x7)]).run Tryz.prog w = .ok (.agg #[.int .i64 x0, .bool false, .bool false, .int .i64 x3, .int .i64 x4, .int .i64 0, .int .i64 x6, .int .i64 x7]) w := run_build w _ _ _ (built_i03467 x0 x3 x4 x6 x7)
set_option maxRecDepth 100000 in
theorem built_i03457 (x0 : Int) (x3 : Int) (x4 : Int) (x5 : Int) (x7 : Int) : Tryz.prog.built 25 [(0, .int .i64 x0), (3, .int .i64 x3), (4, .int .i64 x4), (5, .int .i64 x5), (7, .int .i64 x7)] = some #[.int .i64 x0, .bool false, .bool false, .int .i64 x3, .int .i64 x4, .int .i64 x5, .int .i64 0, .int .i64 x7] := by kernel_rfl
theorem run_i03457 (x0 : Int) (x3 : Int) (x4 : Int) (x5 : Int) (x7 : Int) (w : World) : (Instr.build 25 #[(0, .int .i64 x0), (3, .int .i64 x3), (4, .int .i64 x4), (5, .int .i64 x5), (7, .int .i64 x7)]).run Tryz.prog w = .ok (.agg #[.int .i64 x0, .bool false, .bool false, .int .i64 x3, .int .i64 x4, .int .i64 x5, .int .i64 0, .int .i64 x7]) w := run_build w _ _ _ (built_i03457 x0 x3 x4 x5 x7)
set_option maxRecDepth 100000 in
theorem built_i0345 (x0 : Int) (x3 : Int) (x4 : Int) (x5 : Int) : Tryz.prog.built 25 [(0, .int .i64 x0), (3, .int .i64 x3), (4, .int .i64 x4), (5, .int .i64 x5)] = some #[.int .i64 x0, .bool false, .bool false, .int .i64 x3, .int .i64 x4, .int .i64 x5, .int .i64 0, .int .i64 0] := by kernel_rfl
theorem run_i0345 (x0 : Int) (x3 : Int) (x4 : Int) (x5 : Int) (w : World) : (Instr.build 25 #[(0, .int .i64 x0), (3, .int .i64 x3), (4, .int .i64 x4), (5, .int .i64 x5)]).run Tryz.prog w = .ok (.agg #[.int .i64 x0, .bool false, .bool false, .int .i64 x3, .int .i64 x4, .int .i64 x5, .int .i64 0, .int .i64 0]) w := run_build w _ _ _ (built_i0345 x0 x3 x4 x5)
/-- Code in a new block. -/
theorem coded_new (l : List Ins) (hn : 0 < l.length) (hm : l.length ≤ 4096) (w : World) : Coded (w.alloc (.cells (codec l).toArray 25)) (.slice (some ⟨w.heap.size, 0, none⟩) l.length l.length) l := coded_row (l := l) (Row.made w (codec l) _) hn hm
theorem coded_new2 (l : List Ins) (hn : 0 < l.length) (hm : l.length ≤ 4096) (w : World) (o : Obj) : Coded ((w.alloc o).alloc (.cells (codec l).toArray 25)) (.slice (some ⟨w.heap.size + 1, 0, none⟩) l.length l.length) l := coded_row (l := l) (box2 w o (codec l) _) hn hm
end Go.Proofs.YtdepknffpnnmmaaGreat
