import Derived.Test.YtdepknffpnnmmaaGreatMachDC
set_option maxRecDepth 100000
namespace Go.Proofs.YtdepknffpnnmmaaGreat
open Go.RowKit
set_option linter.unusedVariables false
set_option linter.unusedSimpArgs false
def stG (ctx : List Int) (rows : List (List Int)) : Mst := ⟨List.replicate 32 noslot, rg0 ctx.length, ctx, rows, [], 0, 0, false⟩
theorem new_G (lo hi : Int) (data : List Int) (tabs : List (Int × Int)) (code : List Ins) (da ta ca xa ra : Option Addr) (dc tc cc xc rc : Nat) (ctx : List Int) (vals : List Value) (rows : List (List Int))
 (hmd : (Prg.mk lo hi data tabs code).made) (hft : fitsP lo hi tabs ctx.length rows) (w : World)
 (hd : Held w (.slice da data.length dc) data) (ht : Tabs w (.slice ta tabs.length tc) tabs) (hc : Coded w (.slice ca code.length cc) code)
 (hx : Held w (.slice xa ctx.length xc) ctx) (hr : Rowed w (.slice ra rows.length rc) vals rows) :
 Calls Tryz.prog 18 #[.agg #[.int .i64 lo, .int .i64 hi, .slice da data.length dc, .slice ta tabs.length tc, .slice ca code.length cc], .agg #[.slice xa ctx.length xc, .slice ra rows.length rc]] w fun e w' =>
  ∃ bx v, e = .returned (.tuple #[.pointer (some ⟨bx, 0, none⟩), .int .i64 0]) /\ MS w.heap.size w ⟨data, tabs, code⟩ (stG ctx rows) bx v w' := by
 refine (new_ok lo hi data tabs code da ta ca xa ra dc tc cc xc rc ctx vals rows hmd hft w hd ht hc hx hr (fun _ => 0)).mono ?_
 rintro e w' ⟨bx, mb, cv', uv', xv', tv', dv', zv', vals', ρ', rfl, hM, hX, hT, hD, hZ⟩
 refine ⟨bx, ⟨ρ', mb, xv', tv', dv', zv', cv', uv', nils, vals'⟩, rfl, ⟨hM.nb.bel, by have hb := hM.box; rw [<- (show stc (List.replicate 32 noslot) = zstack from rfl)] at hb; exact hb, by have := hM.le; omega, hM.rb, hM.codeS, hM.unitsS, ⟨hM.begin'.at', by show w.heap.size <= mb; have := hM.begin'.le; omega, hM.begin'.role⟩, hX, hT, hD, hZ, ⟨World.ownsRow_nil _ _ _ _, fun b hb => by cases hb⟩, slots_zero, rfl⟩⟩
theorem store_state' {s : Mst} (h1 : (regc s.rg).length = 44) (h2 : s.st.length = 416) (a b c : Option Addr) (n1 c1 n2 c2 n3 c3 : Nat) (w : World) :
 (storeCells ⟨w.heap.size, 0, none⟩ (statec s (.slice a n1 c1) (.slice b n2 c2) (.slice c n3 c3))).run Tryz.prog (w.alloc (.cells Tryz.zeroCells62 62)) = .ok () (w.alloc (.cells (statec s (.slice a n1 c1) (.slice b n2 c2) (.slice c n3 c3)).toArray 62)) := by
 have hX := statec_len h1 h2 (.slice a n1 c1) (.slice b n2 c2) (.slice c n3 c3)
 have := run_storeCells_new (P := Tryz.prog) w 62 Tryz.zeroCells62 (statec s (.slice a n1 c1) (.slice b n2 c2) (.slice c n3 c3)).toArray (by rw [List.size_toArray, hX]; exact info_state) (zstate_size.trans (by rw [List.size_toArray]; exact hX.symm)) (all_oneCell_toArray (statec_one a b c n1 c1 n2 c2 n3 c3))
 rw [List.toList_toArray] at this
 exact this
theorem state_box' {s : Mst} (h1 : (regc s.rg).length = 44) (h2 : s.st.length = 416) (xv tv sv : Value) (w : World) (A S : Int) (D : Bool) (hA : (s.at' : Int) = A) (hS : s.steps = S) (hD : s.done = D) :
 (w.alloc (.cells (statec s xv tv sv).toArray 62)).cell? ⟨w.heap.size, 463, none⟩ = some (.int .i64 A) /\ (w.alloc (.cells (statec s xv tv sv).toArray 62)).cell? ⟨w.heap.size, 464, none⟩ = some (.int .i64 S) /\
 (w.alloc (.cells (statec s xv tv sv).toArray 62)).cell? ⟨w.heap.size, 465, none⟩ = some (.bool D) := by
 have hr := Row.made w (statec s xv tv sv) 62
 obtain ⟨t1, t2, t3⟩ := statec_tail h1 h2 xv tv sv
 rw [hA] at t1
 rw [hS] at t2
 rw [hD] at t3
 exact ⟨(hr.cell 463).trans t1, (hr.cell 464).trans t2, (hr.cell 465).trans t3⟩
theorem built_prgA (h : Int) (a : Option Addr) (n c : Nat) : Tryz.prog.built 44 [(1, .int .i64 h), (4, .slice a n c)] = some #[.int .i64 0, .int .i64 h, .slice none 0 0, .slice none 0 0, .slice a n c] := by kernel_rfl
theorem run_prgA (h : Int) (a : Option Addr) (n c : Nat) (w : World) : (Instr.build 44 #[(1, .int .i64 h), (4, .slice a n c)]).run Tryz.prog w = .ok (.agg #[.int .i64 0, .int .i64 h, .slice none 0 0, .slice none 0 0, .slice a n c]) w := run_build w _ _ _ (built_prgA h a n c)
theorem built_inpA (a : Option Addr) (n c : Nat) : Tryz.prog.built 46 [(0, .slice a n c)] = some #[.slice a n c, .slice none 0 0] := by kernel_rfl
theorem run_inpA (a : Option Addr) (n c : Nat) (w : World) : (Instr.build 46 #[(0, .slice a n c)]).run Tryz.prog w = .ok (.agg #[.slice a n c, .slice none 0 0]) w := run_build w _ _ _ (built_inpA a n c)
theorem built_insL (x0 x3 x4 x5 x6 : Int) : Tryz.prog.built 25 [(0, .int .i64 x0), (3, .int .i64 x3), (4, .int .i64 x4), (5, .int .i64 x5), (6, .int .i64 x6)] = some #[.int .i64 x0, .bool false, .bool false, .int .i64 x3, .int .i64 x4, .int .i64 x5, .int .i64 x6, .int .i64 0] := by kernel_rfl
theorem run_insL (x0 x3 x4 x5 x6 : Int) (w : World) : (Instr.build 25 #[(0, .int .i64 x0), (3, .int .i64 x3), (4, .int .i64 x4), (5, .int .i64 x5), (6, .int .i64 x6)]).run Tryz.prog w = .ok (.agg #[.int .i64 x0, .bool false, .bool false, .int .i64 x3, .int .i64 x4, .int .i64 x5, .int .i64 x6, .int .i64 0]) w := run_build w _ _ _ (built_insL x0 x3 x4 x5 x6)
theorem built_insA (x0 : Int) (x2 : Bool) (x4 x5 : Int) : Tryz.prog.built 25 [(0, .int .i64 x0), (2, .bool x2), (4, .int .i64 x4), (5, .int .i64 x5)] = some #[.int .i64 x0, .bool false, .bool x2, .int .i64 0, .int .i64 x4, .int .i64 x5, .int .i64 0, .int .i64 0] := by kernel_rfl
theorem run_insA (x0 : Int) (x2 : Bool) (x4 x5 : Int) (w : World) : (Instr.build 25 #[(0, .int .i64 x0), (2, .bool x2), (4, .int .i64 x4), (5, .int .i64 x5)]).run Tryz.prog w = .ok (.agg #[.int .i64 x0, .bool false, .bool x2, .int .i64 0, .int .i64 x4, .int .i64 x5, .int .i64 0, .int .i64 0]) w := run_build w _ _ _ (built_insA x0 x2 x4 x5)
theorem built_insE (x0 : Int) : Tryz.prog.built 25 [(0, .int .i64 x0)] = some #[.int .i64 x0, .bool false, .bool false, .int .i64 0, .int .i64 0, .int .i64 0, .int .i64 0, .int .i64 0] := by kernel_rfl
theorem run_insE (x0 : Int) (w : World) : (Instr.build 25 #[(0, .int .i64 x0)]).run Tryz.prog w = .ok (.agg #[.int .i64 x0, .bool false, .bool false, .int .i64 0, .int .i64 0, .int .i64 0, .int .i64 0, .int .i64 0]) w := run_build w _ _ _ (built_insE x0)
def awkC : List Ins := [⟨22, false, false, 1, 0, 1, 1, 0⟩, ⟨1, false, true, 0, 0, 2, 0, 0⟩, ⟨39, false, false, 0, 0, 0, 0, 0⟩]
def awkX : Mfix := ⟨[], [], awkC⟩
def awkS : Mst := (runF awkX 9 (stG [3, 250, 7] [])).2
theorem awk_made : (Prg.mk 0 9 [] [] awkC).made := by
 refine ⟨⟨by show (0 : Int) <= 0; decide, by show (0 : Int) <= 9; decide, by show (9 : Int) <= 65535; decide, by show (0 : Nat) <= 4096; decide, by show (0 : Nat) <= 8; decide, by show 0 < 3; decide⟩, fun i hi => absurd hi (by simp), ⟨by show 3 <= 4096; decide, fun i hi => ?_⟩, fun i hi ho => ?_⟩
 ·have hc : i = 0 \/ i = 1 \/ i = 2 := by have : i < 3 := hi; omega
  rcases hc with rfl | rfl | rfl <;> first | rfl | kernel_rfl
 ·have hc : i = 0 \/ i = 1 \/ i = 2 := by have : i < 3 := hi; omega
  rcases hc with rfl | rfl | rfl
  ·exact absurd (show (22 : Int) = 21 from ho) (by decide)
  ·exact absurd (show (1 : Int) = 21 from ho) (by decide)
  ·exact absurd (show (39 : Int) = 21 from ho) (by decide)
theorem awk_code : CodeG awkX := by
 refine ⟨by show 3 <= 4096; decide, fun i hi => ?_, by show 0 <= 8; decide⟩
 have hi' : i ∈ awkC := hi
 simp only [awkC, List.mem_cons, List.not_mem_nil, or_false] at hi'
 rcases hi' with rfl | rfl | rfl
 all_goals exact insOK_of_right _ _ (by decide) (by unfold i64r; decide) (fun h => absurd h (by decide))
theorem awk_sane : Sane awkX (stG [3, 250, 7] []) := ⟨good0 awkC [3, 250, 7] (fun x hx => by simp at hx; omega) (by decide), by show 0 < 3; decide, by show (0 : Int) <= 0; decide⟩
theorem awk_run : (runF awkX 9 (stG [3, 250, 7] [])).1 = 0 := by kernel_rfl
theorem awk_r0 : (awkS.rg[0]?).map Val.x = some 253 := by kernel_rfl
theorem awk_end : awkS.at' = 2 /\ awkS.steps = 3 /\ awkS.done = true /\ awkS.ctx.length = 3 /\ awkS.sent.length = 0 /\ awkS.rows = [] := ⟨by kernel_rfl, by kernel_rfl, by kernel_rfl, by kernel_rfl, by kernel_rfl, by kernel_rfl⟩
end Go.Proofs.YtdepknffpnnmmaaGreat
