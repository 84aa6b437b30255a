/-
  The doer constant.
  The machine: runs, of a program without data and tables.
  The machine: runs of single instructions.
  The machine: the runs of MachAlu.
  What the machine's laws need: programs in boxes, boxes of outputs.
-/
import Derived.Test.YtdepknffpnnmmaaGreatJ0a
import Derived.Test.YtdepknffpnnmmaaGreatMachU
import Derived.Test.YtdepknffpnnmmaaGreatMachM
import Derived.Test.YtdepknffpnnmmaaGreatMachS
import Derived.Deep.LoopGhost
import Derived.Deep.DeepCutAuto
namespace Go.Proofs.YtdepknffpnnmmaaGreat
open Go.RowKit
set_option linter.unusedVariables false
set_option linter.unusedSimpArgs false

set_option maxRecDepth 100000 in
set_option maxHeartbeats 1600000 in
theorem constant_wide (nar reg : Bool) (size src off imm : Int) (d : Nat) (hd : d < 11) (bx : Nat) (cs : List Value) (w : World) (hl : cs.length = 471) (h : Row w bx 99 cs) :
    Calls Tryz.prog 69 #[.pointer (some ⟨bx, 0, none⟩), .agg #[.int .i64 20, .bool nar, .bool reg, .int .i64 size, .int .i64 d, .int .i64 src, .int .i64 off, .int .i64 imm]] w (Wrote w bx (set4 cs (423 + d * 4) (.int .i64 1) (.int .i64 0) (.int .i64 0) (.int .i64 imm)) 0 0) := by
  have hj1 : (0 : Int) ≤ (d : Int) := by omega
  have hj2 : (d : Int) < 11 := by omega
  have HF := Lib.hid (FM.begin h 20 nar reg size d src off imm)
  clear h
  go_enter Tryz.func69, Tryz.ntmps69
  go_upto_region 1 with fail
  generalize World.alloc _ _ = w1 at HF ⊢
  have hks := (show FX w bx w.heap.size 20 nar reg size d src off imm w1 from ⟨_, HF.out, hl⟩).next (Below.refl _ _).drew
  replace hks := hks.k47
  go_region_held3 (fun w' => w'.cell? ⟨w.heap.size, 4, none⟩ = some (.int .i64 d) ∧ w'.cell? ⟨w.heap.size, 7, none⟩ = some (.int .i64 imm) ∧ FX w bx w.heap.size 20 nar reg size d src off imm w')
    (first | assumption | exact FX.n47 (by assumption) hb | exact (FX.set4 (FX.n47 (by assumption) hb).2.2 _ _ _ _ _).k47 | exact (FX.set4 (by assumption) _ _ _ _ _).k47)
    (first
      | (go_at_call 50; refine (num_of _ _).mono ?_; rintro e w' ⟨rfl, hb⟩; have hFc := HF.out.drew.next hb; obtain ⟨_, _, _, _, ⟨_, _, _, _⟩, _, _, _, _⟩ := hFc.row4 hl d hd))
  rename_i hheld
  have HF2 := Lib.hid (hFc.set4 (423 + d * 4) (.int .i64 1) (.int .i64 0) (.int .i64 0) (.int .i64 imm))
  clear hheld hks hFc
  generalize World.setCell _ _ _ = w2 at HF2 ⊢
  obtain ⟨c0, _⟩ := HF2.out.cells
  go_wp2
  exact bodyPost_ret (v := .tuple #[.int .i64 0, .int .i64 0]) (by simp [results, Tryz.results69, go_sem]) rfl ⟨rfl, HF2.out.mod, HF2.out.mach⟩
end Go.Proofs.YtdepknffpnnmmaaGreat

namespace Go.Proofs.YtdepknffpnnmmaaGreat
open Go.RowKit
set_option linter.unusedVariables false
set_option linter.unusedSimpArgs false

/-- The registers at a run's beginning. -/
def rg0 (nx : Nat) : List Val := [noval, ⟨3, 0, 0, 0⟩, nval nx, noval, noval, noval, noval, noval, noval, noval, ⟨2, 0, 0, 256⟩]
/-- The machine at a run's beginning. -/
def st0 (ctx : List Int) : Mst := ⟨List.replicate 32 noslot, rg0 ctx.length, ctx, [], [], 0, 0, false⟩
theorem regc_rg0 (nx : Nat) : regc (rg0 nx) = regs0 nx := rfl
set_option maxRecDepth 100000 in
theorem new_run (code : List Ins) (ctx : List Int) (ca xa : Option Addr) (cc xc : Nat) (hmd : (Prg.mk 0 65535 [] [] code).made) (hcl : ctx.length ≤ 65535) (w : World) (hc : Coded w (.slice ca code.length cc) code) (hx : Held w (.slice xa ctx.length xc) ctx) :
    Calls Tryz.prog 18 #[.agg #[.int .i64 0, .int .i64 65535, .slice none 0 0, .slice none 0 0, .slice ca code.length cc], .agg #[.slice xa ctx.length xc, .slice none 0 0]] w fun e w' =>
      ∃ bx v, e = .returned (.tuple #[.pointer (some ⟨bx, 0, none⟩), .int .i64 0]) ∧ MS w.heap.size w ⟨[], [], code⟩ (st0 ctx) bx v w' := by
  have hft : fitsP 0 65535 [] ctx.length [] := ⟨⟨by omega, by omega, rfl⟩, fun i h => absurd h (by simp)⟩
  have h1 : Held w (.slice none ([] : List Int).length 0) [] := ⟨fun x hx => (by cases hx), Or.inl ⟨rfl, Or.inl rfl⟩⟩
  have h2 : Tabs w (.slice none ([] : List (Int × Int)).length 0) [] := ⟨rfl, fun u hu => (by cases hu), Or.inl ⟨rfl, _, _, rfl, by decide⟩⟩
  have h3 : Rowed w (.slice none ([] : List (List Int)).length 0) [] [] := ⟨⟨rfl, fun u hu => (by cases hu), Or.inl ⟨rfl, _, _, rfl, by decide⟩⟩, fun i h => absurd h (by simp)⟩
  refine (new_ok 0 65535 [] [] code none none ca xa none 0 0 cc xc 0 ctx [] [] hmd hft w h1 h2 hc hx h3 (fun _ => 0)).mono ?_
  rintro e w' ⟨bx, mb, cv', uv', xv', tv', dv', zv', vals', ρ', rfl, hM, hX, hT, hD, hZ⟩
  refine ⟨bx, ⟨ρ', mb, xv', tv', dv', zv', cv', uv', nils, vals'⟩, rfl, ⟨hM.nb.bel, by have hb := hM.box; rw [← stc_zero] at hb; exact hb, by have := hM.le; omega, hM.rb, hM.codeS, hM.unitsS, ⟨hM.begin'.at', by show w.heap.size ≤ mb; have := hM.begin'.le; omega, hM.begin'.role⟩, hX, hT, hD, hZ, ⟨World.ownsRow_nil _ _ _ _, fun b hb => by cases hb⟩, slots_zero, rfl⟩⟩
set_option maxRecDepth 100000 in
theorem built_prg (a : Option Addr) (n c : Nat) : Tryz.prog.built 44 [(0, .int .i64 0), (1, .int .i64 65535), (4, .slice a n c)] = some #[.int .i64 0, .int .i64 65535, .slice none 0 0, .slice none 0 0, .slice a n c] := by kernel_rfl
set_option maxRecDepth 100000 in
theorem built_inp (a : Option Addr) (n c : Nat) : Tryz.prog.built 46 [(0, .slice a n c)] = some #[.slice a n c, .slice none 0 0] := by kernel_rfl
theorem run_prg (a : Option Addr) (n c : Nat) (w : World) : (Instr.build 44 #[(0, .int .i64 0), (1, .int .i64 65535), (4, .slice a n c)]).run Tryz.prog w = .ok (.agg #[.int .i64 0, .int .i64 65535, .slice none 0 0, .slice none 0 0, .slice a n c]) w := run_build w _ _ _ (built_prg a n c)
theorem run_inp (a : Option Addr) (n c : Nat) (w : World) : (Instr.build 46 #[(0, .slice a n c)]).run Tryz.prog w = .ok (.agg #[.slice a n c, .slice none 0 0]) w := run_build w _ _ _ (built_inp a n c)
/-- What runs answers. -/
def RunsSays (w : World) (er : Int) (s2 : Mst) : Ending → World → Prop := fun e w' => ∃ r0 a1 n1 c1 a2 n2 c2 a3 n3 c3, e = .returned (.tuple #[.agg #[.int .i64 r0, .slice a1 n1 c1, .slice a2 n2 c2, .slice a3 n3 c3], .int .i64 er]) ∧
  OutS w.heap.size er s2 r0 (.slice a1 n1 c1) (.slice a2 n2 c2) (.slice a3 n3 c3) w' ∧ Below w.heap.size w w'
set_option maxRecDepth 100000 in
set_option maxHeartbeats 4000000 in
theorem runs_of (code : List Ins) (ctx : List Int) (ca : Option Addr) (cc : Nat) (xv : Value) (hmd : (Prg.mk 0 65535 [] [] code).made) (hcl : ctx.length ≤ 65535) (er : Int) (s2 : Mst) (hr : Runs ⟨[], [], code⟩ (st0 ctx) 1048576 er s2)
    (hrows : s2.rows = []) (hcl2 : s2.ctx.length ≤ 65535) (hsl : s2.sent.length ≤ 100000) (w : World) (hc : Coded w (.slice ca code.length cc) code) (hx : Held w xv ctx) :
    Calls Tryz.prog 9 #[.slice ca code.length cc, xv] w (RunsSays w er s2) := by
  have hb0 := run_out0
  have hbp := run_prg
  have hbi := run_inp
  have hcopy := copy_of xv ctx (w.alloc (.cells #[.int .i64 0, .slice none 0 0, .slice none 0 0, .slice none 0 0] 30)) (hx.below (below_map w _) (Nat.le_refl _)) (by omega)
  have hnew := fun aC kC w' (h1 : Coded w' (.slice ca code.length cc) code) (h2 : Held w' (.slice aC ctx.length kC) ctx) => new_run code ctx ca aC cc kC hmd hcl w' h1 h2
  have hrun := fun base w0 bx v w' (h : MS base w0 ⟨[], [], code⟩ (st0 ctx) bx v w') => run_of ⟨[], [], code⟩ (st0 ctx) 1048576 (by decide) er s2 hr hrows hcl2 hsl base w0 bx v w' h
  rw [show ((1048576 : Nat) : Int) = 1048576 from rfl] at hrun
  obtain ⟨nc, hnc⟩ : ∃ n, n = code.length := ⟨_, rfl⟩
  obtain ⟨nx, hnx⟩ : ∃ n, n = ctx.length := ⟨_, rfl⟩
  have hcd := hc.below (below_map w (.cells #[.int .i64 0, .slice none 0 0, .slice none 0 0, .slice none 0 0] 30)) (Nat.le_refl _)
  have hrow := Row.made w [.int .i64 0, .slice none 0 0, .slice none 0 0, .slice none 0 0] 30
  have HBY := Lib.hid hx.1
  rw [← hnc] at hnew hcd ⊢
  rw [← hnx] at hcopy hnew
  have HCOPY := Lib.hid hcopy
  have HNEW := Lib.hid hnew
  have HRUN := Lib.hid hrun
  have HCD := Lib.hid hcd
  have HROW := Lib.hid hrow
  have HNX := Lib.hid hnx
  have HB := Lib.hid (below_map w (.cells #[.int .i64 0, .slice none 0 0, .slice none 0 0, .slice none 0 0] 30))
  clear hcopy hnew hrun hcd hrow hc hx hr hmd hnc hnx
  go_enter Tryz.func9, Tryz.ntmps9
  go_wp2_with (first
    | (go_at_call 11; refine (HCOPY.out).mono ?_; rintro e wC ⟨vC, rfl, hown, hbC⟩; obtain ⟨aC, kC, rfl⟩ := own_slice hown)
    | (go_at_call 18; refine (HNEW.out _ _ _ (HCD.out.below hbC (Nat.le_refl _)) (held_of_own hown HBY.out HNX.out)).mono ?_; rintro e wN ⟨bx, v, rfl, hM⟩)
    | (go_at_call 21; refine (HRUN.out _ _ _ _ _ hM).mono ?_; rintro e wR ⟨r0, xv', tv', sv', rfl, hO, v', hM', hf, hro⟩; obtain ⟨a1, n1, c1, rfl⟩ := hO.shx; obtain ⟨a2, n2, c2, rfl⟩ := hO.sht; obtain ⟨a3, n3, c3, rfl⟩ := hO.shs; have hrw := (HROW.out.below hbC HROW.out.lt).below hM'.bel (HROW.out.below hbC HROW.out.lt).lt; obtain ⟨⟨_, _, _, _⟩, _, _, _, _⟩ := hrw.four))
  have hsz : w.heap.size < (w.alloc (.cells #[.int .i64 0, .slice none 0 0, .slice none 0 0, .slice none 0 0] 30)).heap.size := HROW.out.lt
  have hsC := hbC.size
  have hBel : Below w.heap.size w wR := (HB.out.trans (hbC.mono (Nat.le_of_lt hsz))).trans (hM'.bel.mono (by omega))
  have hput : w.heap.size < wN.heap.size := by have := hM.bel.size; omega
  have hBF := bel_put4 hBel (Nat.le_refl w.heap.size) 0 (.int .i64 r0) (.slice a1 n1 c1) (.slice a2 n2 c2) (.slice a3 n3 c3)
  simp only [Nat.zero_add] at hBF
  have hrF := hrw.put4 (.int .i64 r0) (.slice a1 n1 c1) (.slice a2 n2 c2) (.slice a3 n3 c3)
  have hc1 := fun h => own_low (own_put4 (hO.ctx h) hput (.int .i64 r0) (.slice a1 n1 c1) (.slice a2 n2 c2) (.slice a3 n3 c3)) (Nat.le_of_lt hput)
  have hc2 := fun h => own_low (own_put4 (hO.sent h) hput (.int .i64 r0) (.slice a1 n1 c1) (.slice a2 n2 c2) (.slice a3 n3 c3)) (Nat.le_of_lt hput)
  obtain ⟨⟨d0, d1, d2, d3⟩, _⟩ := hrF.four
  generalize World.setCell _ _ _ = wF at hBF hc1 hc2 d0 d1 d2 d3 ⊢
  exact bodyPost_ret (v := .tuple #[.agg #[.int .i64 r0, .slice a1 n1 c1, .slice a2 n2 c2, .slice a3 n3 c3], .int .i64 er]) (by simp [results, Tryz.results9, go_sem, d0, d1, d2, d3]) rfl
    ⟨r0, _, _, _, _, _, _, _, _, _, rfl, ⟨hO.shx, hO.sht, hO.shs, hO.fail, hO.r0, hc1, hc2⟩, hBF⟩
end Go.Proofs.YtdepknffpnnmmaaGreat

namespace Go.Proofs.YtdepknffpnnmmaaGreat
open Go.RowKit
set_option linter.unusedVariables false
set_option linter.unusedSimpArgs false

theorem right_wide0 (v : Int) : (Ins.mk 20 false false 0 0 0 0 v).right = 0 := by simp [Ins.right, rightc, formedv, sizesv, secondv, usesD, usesS, usesO, usesI, immFitsv, isRegv, writesDstv, writesSrcv]
theorem right_wide3 (v : Int) : (Ins.mk 20 false false 0 3 0 0 v).right = 0 := by simp [Ins.right, rightc, formedv, sizesv, secondv, usesD, usesS, usesO, usesI, immFitsv, isRegv, writesDstv, writesSrcv]
theorem right_exit : (Ins.mk 39 false false 0 0 0 0 0).right = 0 := by decide
theorem right_neg (nar : Bool) : (Ins.mk 14 nar false 0 0 0 0 0).right = 0 := by cases nar <;> decide
theorem op15 {op : Int} (h : 1 ≤ op ∧ op ≤ 15) : op = 1 ∨ op = 2 ∨ op = 3 ∨ op = 4 ∨ op = 5 ∨ op = 6 ∨ op = 7 ∨ op = 8 ∨ op = 9 ∨ op = 10 ∨ op = 11 ∨ op = 12 ∨ op = 13 ∨ op = 14 ∨ op = 15 := by omega
theorem right_areg (op : Int) (nar : Bool) (h : 1 ≤ op ∧ op ≤ 15) (h14 : op ≠ 14) : (Ins.mk op nar true 0 0 3 0 0).right = 0 := by
  rcases op15 h with rfl | rfl | rfl | rfl | rfl | rfl | rfl | rfl | rfl | rfl | rfl | rfl | rfl | rfl | rfl
  all_goals first | (exact absurd rfl h14) | (cases nar <;> decide)
theorem right_aimm (op : Int) (nar : Bool) (y : Int) (h : 1 ≤ op ∧ op ≤ 15) (h14 : op ≠ 14) (hy : -2147483648 ≤ y ∧ y ≤ 2147483647) (h0 : 4 ≤ op ∧ op ≤ 7 → y ≠ 0) (hs : 11 ≤ op ∧ op ≤ 13 → 0 ≤ y ∧ y < 32) : (Ins.mk op nar false 0 0 0 0 y).right = 0 := by
  have hM : immFitsv op nar y = true := by
    unfold immFitsv
    rw [if_neg (by omega), if_neg (by omega)]
    split
    · rename_i h4
      simp
      exact h0 (by omega)
    · split
      · rename_i h5
        have := hs (by omega)
        simp
        omega
      · rw [if_neg (by omega), if_neg (by omega)]
  unfold Ins.right
  simp only [hM]
  rcases op15 h with rfl | rfl | rfl | rfl | rfl | rfl | rfl | rfl | rfl | rfl | rfl | rfl | rfl | rfl | rfl
  all_goals first | (exact absurd rfl h14) | (cases nar <;> simp [rightc, formedv, sizesv, secondv, usesD, usesS, usesO, usesI, isRegv, writesDstv, writesSrcv])
theorem made_four (i0 i1 i2 i3 : Ins) (h0 : i0.right = 0) (h1 : i1.right = 0) (h2 : i2.right = 0) (h3 : i3.right = 0) (hd : i0.op ≠ 21 ∧ i1.op ≠ 21 ∧ i2.op ≠ 21 ∧ i3.op ≠ 21) : (Prg.mk 0 65535 [] [] [i0, i1, i2, i3]).made := by
  refine ⟨⟨by simp, by simp, by simp, by simp, by simp, by simp⟩, fun i h => absurd h (by simp), ⟨by simp, ?_⟩, ?_⟩
  · intro i h
    rcases i with _ | _ | _ | _ | i
    · exact h0
    · exact h1
    · exact h2
    · exact h3
    · simp at h; omega
  · intro i h ho
    rcases i with _ | _ | _ | _ | i
    · exact absurd ho hd.1
    · exact absurd ho hd.2.1
    · exact absurd ho hd.2.2.1
    · exact absurd ho hd.2.2.2
    · simp at h; omega

/-- A step to the next instruction. -/
theorem step_seq (fx : Mfix) (s s1 : Mst) (k : Nat) (i : Ins) (hk : k + 1 < fx.code.length) (hat : s.at' = k) (hd : s.done = false) (hi : fx.code[k]? = some i) (hlen : fx.code.length ≤ 4096) (hdo : DoR (doerF i.op) fx s i 0 0 s1)
    (hat1 : s1.at' = k) (hd1 : s1.done = false) (hst : 0 ≤ s1.steps ∧ s1.steps < 4611686018427387904) : StepR fx s 0 { s1 with at' := k + 1, steps := s1.steps + 1 } := by
  obtain ⟨op, nar, reg, size, dst, src, off, imm⟩ := i
  have hi' : fx.code[k]'(by omega) = ⟨op, nar, reg, size, dst, src, off, imm⟩ := by
    rw [List.getElem?_eq_getElem (by omega)] at hi
    exact Option.some.inj hi
  exact step_of fx s k (by omega) hat hd op nar reg size dst src off imm hi' hlen 0 0 s1 hdo (Or.inr (Or.inr (by omega))) hat1 hst (by decide) 0 _ (Or.inr (Or.inr (Or.inl ⟨rfl, hd1, k + 1, hk, by omega, rfl, rfl⟩)))
theorem step_trap (fx : Mfix) (s s1 : Mst) (k : Nat) (i : Ins) (er : Int) (hk : k + 1 < fx.code.length) (hat : s.at' = k) (hd : s.done = false) (hi : fx.code[k]? = some i) (hlen : fx.code.length ≤ 4096) (by' : Int) (hby : -4611686018427387904 ≤ by' ∧ by' ≤ 4611686018427387904) (hdo : DoR (doerF i.op) fx s i by' er s1) (he : er ≠ 0)
    (hat1 : s1.at' = k) (hst : 0 ≤ s1.steps ∧ s1.steps < 4611686018427387904) : StepR fx s er s1 := by
  obtain ⟨op, nar, reg, size, dst, src, off, imm⟩ := i
  have hi' : fx.code[k]'(by omega) = ⟨op, nar, reg, size, dst, src, off, imm⟩ := by
    rw [List.getElem?_eq_getElem (by omega)] at hi
    exact Option.some.inj hi
  exact step_of fx s k (by omega) hat hd op nar reg size dst src off imm hi' hlen by' er s1 hdo (Or.inr (Or.inr (by omega))) hat1 hst hby er _ (Or.inl ⟨he, rfl, rfl⟩)
theorem do_leave (fx : Mfix) (s : Mst) (u : Val) (hu : s.rg[0]? = some u) (hk : u.k = 1) : DoR (doerF 39) fx s ⟨39, false, false, 0, 0, 0, 0, 0⟩ 0 0 { s with done := true } :=
  do_done fun bx cs w hl hr hl2 h => (leave_of 39 false false 0 0 0 0 0 bx cs hl u (by have := hr 0 (by decide) hl2; rw [List.getElem?_eq_getElem (by omega)] at hu; rw [← Option.some.inj hu]; exact this) w h).mono fun e w' hw => by rw [if_pos hk] at hw; exact hw
theorem step_exit (fx : Mfix) (s : Mst) (k : Nat) (hk : k < fx.code.length) (hat : s.at' = k) (hd : s.done = false) (hi : fx.code[k]? = some ⟨39, false, false, 0, 0, 0, 0, 0⟩) (hlen : fx.code.length ≤ 4096) (u : Val) (hu : s.rg[0]? = some u) (hk1 : u.k = 1)
    (hst : 0 ≤ s.steps ∧ s.steps < 4611686018427387904) : StepR fx s 0 { s with done := true, steps := s.steps + 1 } := by
  have hi' : fx.code[k] = ⟨39, false, false, 0, 0, 0, 0, 0⟩ := by
    rw [List.getElem?_eq_getElem hk] at hi
    exact Option.some.inj hi
  exact step_of fx s k hk hat hd 39 false false 0 0 0 0 0 hi' hlen 0 0 { s with done := true } (do_leave fx s u hu hk1) (Or.inr (Or.inl rfl)) hat hst (by decide) 0 _ (Or.inr (Or.inl ⟨rfl, rfl, rfl, rfl⟩))
theorem do_wide (fx : Mfix) (s : Mst) (v : Int) (d : Nat) (hd : d < 11) : DoR (doerF 20) fx s ⟨20, false, false, 0, d, 0, 0, v⟩ 0 0 { s with rg := s.rg.set d (nval v) } :=
  do_set d hd (nval v) fun bx cs w hl hr hl2 h => constant_wide false false 0 0 0 v d hd bx cs w hl h
/-- The second operand is a number. -/
def Second (s : Mst) (reg : Bool) (src imm y : Int) : Prop := (reg = true ∧ ∃ r : Nat, r < 11 ∧ src = r ∧ s.rg[r]? = some (nval y)) ∨ (reg = false ∧ imm = y)
/-- What arithmetic makes of two numbers. -/
def arithF (op : Int) (nar : Bool) (x y : Int) : Int × Int := if op = 15 ∧ nar = false then (y, 0) else aluF op nar (if op = 15 then 0 else x) (if op = 14 then 0 else y)
theorem second_of' {s : Mst} {reg : Bool} {src imm y : Int} (h : Second s reg src imm y) (op : Int) (nar : Bool) (size dst off : Int) (bx : Nat) (cs : List Value) (hr : ∀ r (hr : r < 11) (hl : s.rg.length = 11), RegC cs r (s.rg[r]'(by rw [hl]; exact hr))) (hl : s.rg.length = 11) (w : World) (hw : Row w bx 99 cs) :
    Calls Tryz.prog 81 #[.pointer (some ⟨bx, 0, none⟩), .agg #[.int .i64 op, .bool nar, .bool reg, .int .i64 size, .int .i64 dst, .int .i64 src, .int .i64 off, .int .i64 imm]] w (Ret w (.agg #[.int .i64 1, .int .i64 0, .int .i64 0, .int .i64 y])) := by
  rcases h with ⟨rfl, r, hr11, rfl, hu⟩ | ⟨rfl, rfl⟩
  · rw [List.getElem?_eq_getElem (by omega)] at hu
    have hc := hr r hr11 hl
    rw [Option.some.inj hu] at hc
    exact second_reg op nar size dst off imm r hr11 bx cs (nval y) hc w hw
  · exact second_imm op nar size dst src off imm bx w
theorem doerF_arith {op : Int} (h : op ≤ 15) : doerF op = 67 := if_pos h
theorem do_arith (fx : Mfix) (s : Mst) (op : Int) (nar reg : Bool) (size src off imm x y : Int) (d : Nat) (hd : d < 11) (hop : 1 ≤ op ∧ op ≤ 15) (hx : s.rg[d]? = some (nval x)) (hs : Second s reg src imm y) :
    DoR (doerF op) fx s ⟨op, nar, reg, size, d, src, off, imm⟩ 0 (arithF op nar x y).2 (if (arithF op nar x y).2 = 0 then { s with rg := s.rg.set d (nval (arithF op nar x y).1) } else s) := by
  rw [doerF_arith hop.2]
  have key : ∀ (bx : Nat) (cs : List Value) (w : World), cs.length = 471 → (∀ r (hr : r < 11) (hl : s.rg.length = 11), RegC cs r (s.rg[r]'(by rw [hl]; exact hr))) → s.rg.length = 11 → Row w bx 99 cs →
      Calls Tryz.prog 67 #[.pointer (some ⟨bx, 0, none⟩), (Ins.mk op nar reg size d src off imm).agg] w (fun e w' => if (arithF op nar x y).2 = 0 then Wrote w bx (set4 cs (423 + d * 4) (.int .i64 1) (.int .i64 0) (.int .i64 0) (.int .i64 (arithF op nar x y).1)) 0 0 e w' else Wrote w bx cs 0 (arithF op nar x y).2 e w') := by
    intro bx cs w hl hr hl2 hw
    have hu : RegC cs d ⟨1, 0, 0, x⟩ := by
      rw [List.getElem?_eq_getElem (by omega)] at hx
      have hc := hr d hd hl2
      rw [Option.some.inj hx] at hc
      exact hc
    have hsec := fun w' h' => second_of' hs op nar size d off bx cs hr hl2 w' h'
    by_cases h15 : op = 15 ∧ nar = false
    · obtain ⟨rfl, rfl⟩ := h15
      have h := arith_of 15 false reg size src off imm d hd bx cs hl 1 0 0 x 1 0 0 y hu hsec 1 0 0 0 1 0 0 y 0 0 (Or.inr ⟨by decide, rfl, rfl, rfl, rfl⟩) (Or.inl ⟨rfl, rfl, rfl, rfl, rfl⟩) rfl (Or.inl ⟨rfl, rfl, by decide⟩) w hw
      exact h.mono fun e w' hh => hh
    · have ha : arithF op nar x y = aluF op nar (if op = 15 then 0 else x) (if op = 14 then 0 else y) := if_neg h15
      rw [ha]
      have h := arith_of op nar reg size src off imm d hd bx cs hl 1 0 0 x 1 0 0 y hu hsec 1 0 0 (if op = 15 then 0 else x) 1 0 0 (if op = 14 then 0 else y) (aluF op nar (if op = 15 then 0 else x) (if op = 14 then 0 else y)).1 (aluF op nar (if op = 15 then 0 else x) (if op = 14 then 0 else y)).2
        (by by_cases h : op = 14
            · exact Or.inl ⟨h, rfl, rfl, rfl, if_pos h⟩
            · exact Or.inr ⟨h, rfl, rfl, rfl, if_neg h⟩)
        (by by_cases h : op = 15
            · exact Or.inl ⟨h, rfl, rfl, rfl, if_pos h⟩
            · exact Or.inr ⟨h, rfl, rfl, rfl, if_neg h⟩) rfl
        (Or.inr ⟨fun h => by cases nar with
          | false => exact absurd ⟨h, rfl⟩ h15
          | true => rfl, rfl, (alu_gives op nar _ _ hop).1⟩) w hw
      exact h.mono fun e w' hh => by rw [if_neg h15] at hh; exact hh
  by_cases hg : (arithF op nar x y).2 = 0
  · rw [if_pos hg, hg]
    exact do_set d hd (nval _) fun bx cs w hl hr hl2 hw => (key bx cs w hl hr hl2 hw).mono fun e w' hh => by rw [if_pos hg] at hh; exact hh
  · rw [if_neg hg]
    exact do_same fun bx cs w hl hr hl2 hw => (key bx cs w hl hr hl2 hw).mono fun e w' hh => by rw [if_neg hg] at hh; exact hh
end Go.Proofs.YtdepknffpnnmmaaGreat

namespace Go.Proofs.YtdepknffpnnmmaaGreat
open Go.RowKit
set_option linter.unusedVariables false
set_option linter.unusedSimpArgs false

theorem mov64_same (x y : Int) (hy : i64r y) : wrap64 ((w_mov 64 (un x) (un y) : Nat) : Int) = y := by
  have h : w_mov 64 (un x) (un y) = un y := by unfold w_mov; rfl
  rw [h, un_cast]
  unfold i64r at hy
  unfold wrap64
  omega
theorem wneg_same (n x y z : Nat) : w_neg n x y = w_neg n x z := by unfold w_neg; rfl
theorem wmov_same (n x y z : Nat) : w_mov n x z = w_mov n y z := by unfold w_mov; rfl
theorem aluF_wide (op x y : Int) : aluF op false x y = alu64F op x y := by unfold aluF; rw [if_neg (by decide)]
theorem aluF_nar (op x y : Int) : aluF op true x y = alu32F op x y := by unfold aluF; rw [if_pos rfl]
theorem arithF_alu (op : Int) (nar : Bool) (x y : Int) (hop : 1 ≤ op ∧ op ≤ 15) (hy : i64r y) : arithF op nar x y = aluF op nar x y := by
  unfold arithF
  by_cases h15 : op = 15
  · subst h15
    cases nar with
    | false => rw [if_pos ⟨rfl, rfl⟩, aluF_wide, aluf64_mov, mov64_same x y hy]
    | true => rw [if_neg (by decide), if_pos rfl, if_neg (by decide), aluF_nar, aluF_nar, aluf32_mov, aluf32_mov, wmov_same 32 (lowN 32 0) (lowN 32 x)]
  · rw [if_neg (fun h => h15 h.1), if_neg h15]
    by_cases h14 : op = 14
    · subst h14
      rw [if_pos rfl]
      cases nar with
      | false => rw [aluF_wide, aluF_wide, aluf64_neg, aluf64_neg, wneg_same 64 (un x) (un 0) (un y)]
      | true => rw [aluF_nar, aluF_nar, aluf32_neg, aluf32_neg, wneg_same 32 (lowN 32 x) (lowN 32 0) (lowN 32 y)]
    · rw [if_neg h14]
theorem aluF_fail (op : Int) (nar : Bool) (x y : Int) (hop : 1 ≤ op ∧ op ≤ 15) : (aluF op nar x y).2 ≠ 0 → (aluF op nar x y).1 = 0 := by
  cases nar
  · show (alu64F op x y).2 ≠ 0 → (alu64F op x y).1 = 0
    rcases op15 hop with rfl | rfl | rfl | rfl | rfl | rfl | rfl | rfl | rfl | rfl | rfl | rfl | rfl | rfl | rfl
    · rw [aluf64_add]; exact fun h => absurd rfl h
    · rw [aluf64_sub]; exact fun h => absurd rfl h
    · rw [aluf64_mul]; exact fun h => absurd rfl h
    · by_cases h0 : un y = 0
      · rw [aluf64_div0 _ _ h0]; exact fun _ => rfl
      · rw [aluf64_div _ _ h0]; exact fun h => absurd rfl h
    · by_cases h0 : un y = 0
      · rw [aluf64_mod0 _ _ h0]; exact fun _ => rfl
      · rw [aluf64_mod _ _ h0]; exact fun h => absurd rfl h
    · by_cases h0 : un y = 0
      · rw [aluf64_sdiv0 _ _ h0]; exact fun _ => rfl
      · rw [aluf64_sdiv _ _ h0]; exact fun h => absurd rfl h
    · by_cases h0 : un y = 0
      · rw [aluf64_smod0 _ _ h0]; exact fun _ => rfl
      · rw [aluf64_smod _ _ h0]; exact fun h => absurd rfl h
    · rw [aluf64_or]; exact fun h => absurd rfl h
    · rw [aluf64_and]; exact fun h => absurd rfl h
    · rw [aluf64_xor]; exact fun h => absurd rfl h
    · rw [aluf64_lsh]; exact fun h => absurd rfl h
    · rw [aluf64_rsh]; exact fun h => absurd rfl h
    · rw [aluf64_arsh]; exact fun h => absurd rfl h
    · rw [aluf64_neg]; exact fun h => absurd rfl h
    · rw [aluf64_mov]; exact fun h => absurd rfl h
  · show (alu32F op x y).2 ≠ 0 → (alu32F op x y).1 = 0
    rcases op15 hop with rfl | rfl | rfl | rfl | rfl | rfl | rfl | rfl | rfl | rfl | rfl | rfl | rfl | rfl | rfl
    · rw [aluf32_add]; exact fun h => absurd rfl h
    · rw [aluf32_sub]; exact fun h => absurd rfl h
    · rw [aluf32_mul]; exact fun h => absurd rfl h
    · by_cases h0 : lowN 32 y = 0
      · rw [aluf32_div0 _ _ h0]; exact fun _ => rfl
      · rw [aluf32_div _ _ h0]; exact fun h => absurd rfl h
    · by_cases h0 : lowN 32 y = 0
      · rw [aluf32_mod0 _ _ h0]; exact fun _ => rfl
      · rw [aluf32_mod _ _ h0]; exact fun h => absurd rfl h
    · by_cases h0 : lowN 32 y = 0
      · rw [aluf32_sdiv0 _ _ h0]; exact fun _ => rfl
      · rw [aluf32_sdiv _ _ h0]; exact fun h => absurd rfl h
    · by_cases h0 : lowN 32 y = 0
      · rw [aluf32_smod0 _ _ h0]; exact fun _ => rfl
      · rw [aluf32_smod _ _ h0]; exact fun h => absurd rfl h
    · rw [aluf32_or]; exact fun h => absurd rfl h
    · rw [aluf32_and]; exact fun h => absurd rfl h
    · rw [aluf32_xor]; exact fun h => absurd rfl h
    · rw [aluf32_lsh]; exact fun h => absurd rfl h
    · rw [aluf32_rsh]; exact fun h => absurd rfl h
    · rw [aluf32_arsh]; exact fun h => absurd rfl h
    · rw [aluf32_neg]; exact fun h => absurd rfl h
    · rw [aluf32_mov]; exact fun h => absurd rfl h
/-- The four instructions of MachAlu. -/
def four (a y : Int) (i : Ins) : List Ins := [⟨20, false, false, 0, 0, 0, 0, a⟩, ⟨20, false, false, 0, 3, 0, 0, y⟩, i, ⟨39, false, false, 0, 0, 0, 0, 0⟩]
def fx4 (a y : Int) (i : Ins) : Mfix := ⟨[], [], four a y i⟩
def s1F (a : Int) : Mst := { st0 [] with rg := (rg0 0).set 0 (nval a), at' := 1, steps := 1 }
def s2F (a y : Int) : Mst := { st0 [] with rg := ((rg0 0).set 0 (nval a)).set 3 (nval y), at' := 2, steps := 2 }
theorem two_steps (a y : Int) (i : Ins) (n : Nat) (er : Int) (s : Mst) (h : Runs (fx4 a y i) (s2F a y) n er s) : Runs (fx4 a y i) (st0 []) (n + 2) er s :=
  Runs.step _ (s1F a) _ (n + 1) _ rfl (step_seq (fx4 a y i) (st0 []) { st0 [] with rg := (rg0 0).set 0 (nval a) } 0 ⟨20, false, false, 0, 0, 0, 0, a⟩ (by simp [fx4, four]) rfl rfl rfl (by simp [fx4, four]) (do_wide _ _ a 0 (by decide)) rfl rfl (by simp [st0]))
    (Runs.step _ (s2F a y) _ n _ rfl (step_seq (fx4 a y i) (s1F a) { s1F a with rg := ((rg0 0).set 0 (nval a)).set 3 (nval y) } 1 ⟨20, false, false, 0, 3, 0, 0, y⟩ (by simp [fx4, four]) rfl rfl rfl (by simp [fx4, four]) (do_wide _ _ y 3 (by decide)) rfl rfl (by simp [s1F])) h)
theorem alu_runs (op : Int) (nar reg : Bool) (src imm a y z : Int) (hop : 1 ≤ op ∧ op ≤ 15) (hs : Second (s2F a y) reg src imm z) (n : Nat) :
    ∃ s, Runs (fx4 a y ⟨op, nar, reg, 0, 0, src, 0, imm⟩) (s2F a y) (n + 2) (arithF op nar a z).2 s ∧ s.rows = [] ∧ s.ctx = [] ∧ s.sent = [] ∧ ((arithF op nar a z).2 = 0 → s.rg[0]? = some (nval (arithF op nar a z).1)) := by
  have hdo := do_arith (fx4 a y ⟨op, nar, reg, 0, 0, src, 0, imm⟩) (s2F a y) op nar reg 0 src 0 imm a z 0 (by decide) hop rfl hs
  by_cases hg : (arithF op nar a z).2 = 0
  · rw [if_pos hg, hg] at hdo
    rw [hg]
    have st1 := step_seq (fx4 a y ⟨op, nar, reg, 0, 0, src, 0, imm⟩) (s2F a y) _ 2 ⟨op, nar, reg, 0, 0, src, 0, imm⟩ (by simp [fx4, four]) rfl rfl rfl (by simp [fx4, four]) hdo rfl rfl (by simp [s2F])
    refine ⟨_, Runs.step _ _ _ _ _ rfl st1 (Runs.step _ _ _ _ _ rfl (step_exit _ _ 3 (by simp [fx4, four]) rfl rfl rfl (by simp [fx4, four]) (nval (arithF op nar a z).1) rfl rfl (by simp [s2F])) (Runs.done _ _ rfl)), rfl, rfl, rfl, fun _ => rfl⟩
  · rw [if_neg hg] at hdo
    have st1 := step_trap (fx4 a y ⟨op, nar, reg, 0, 0, src, 0, imm⟩) (s2F a y) _ 2 ⟨op, nar, reg, 0, 0, src, 0, imm⟩ _ (by simp [fx4, four]) rfl rfl rfl (by simp [fx4, four]) 0 (by decide) hdo hg rfl (by simp [s2F])
    exact ⟨_, Runs.trap _ _ _ _ rfl st1 hg, rfl, rfl, rfl, fun h => absurd h hg⟩
/-- What the law sees of an output. -/
def SeenR (w : World) (er r0 : Int) : Ending → World → Prop := fun e w' => ∃ a1 n1 c1 a2 n2 c2 a3 n3 c3, e = .returned (.tuple #[.agg #[.int .i64 r0, .slice a1 n1 c1, .slice a2 n2 c2, .slice a3 n3 c3], .int .i64 er]) ∧ Below w.heap.size w w'
/-- The law's four instructions do what word says. -/
def Good4 (op : Int) (nar : Bool) (a y : Int) (reg : Bool) (src imm : Int) : Prop := ∀ (ca : Option Addr) (cc : Nat) (w : World), Coded w (.slice ca 4 cc) (four a y ⟨op, nar, reg, 0, 0, src, 0, imm⟩) →
    Calls Tryz.prog 9 #[.slice ca 4 cc, .slice none 0 0] w (SeenR w (aluF op nar a y).2 (aluF op nar a y).1)
theorem runs_alu (op : Int) (nar reg : Bool) (src imm a y z : Int) (hop : 1 ≤ op ∧ op ≤ 15) (hz : i64r z) (hyz : aluF op nar a z = aluF op nar a y) (hs : Second (s2F a y) reg src imm z) (hr : (Ins.mk op nar reg 0 0 src 0 imm).right = 0) : Good4 op nar a y reg src imm := by
  intro ca cc w hc
  obtain ⟨s, hrun, h1, h2, h3, h4⟩ := alu_runs op nar reg src imm a y z hop hs 1048572
  have hruns := two_steps a y _ _ _ _ hrun
  rw [arithF_alu op nar a z hop hz, hyz] at hruns h4
  refine (runs_of (four a y ⟨op, nar, reg, 0, 0, src, 0, imm⟩) [] ca cc (.slice none 0 0) (made_four _ _ _ _ (right_wide0 a) (right_wide3 y) hr right_exit ⟨by simp, by simp, by show op ≠ 21; omega, by simp⟩) (by simp) _ s hruns h1 (by rw [h2]; simp) (by rw [h3]; simp) w hc ⟨fun x hx => (by cases hx), Or.inl ⟨rfl, Or.inl rfl⟩⟩).mono ?_
  rintro e w' ⟨r0, a1, n1, c1, a2, n2, c2, a3, n3, c3, rfl, hO, hB⟩
  have hr0 : r0 = (aluF op nar a y).1 := by
    by_cases hg : (aluF op nar a y).2 = 0
    · exact hO.r0 hg _ (h4 hg)
    · rw [aluF_fail _ _ _ _ hop hg]; exact (hO.fail hg).1
  subst hr0
  exact ⟨_, _, _, _, _, _, _, _, _, rfl, hB⟩
theorem good_reg (op : Int) (nar : Bool) (a y : Int) (hop : 1 ≤ op ∧ op ≤ 15) (h14 : op ≠ 14) (hy : i64r y) : Good4 op nar a y true 3 0 :=
  runs_alu op nar true 3 0 a y y hop hy rfl (Or.inl ⟨rfl, 3, by decide, rfl, rfl⟩) (right_areg op nar hop h14)
theorem good_neg (nar : Bool) (a y : Int) : Good4 14 nar a y false 0 0 :=
  runs_alu 14 nar false 0 0 a y 0 (by decide) zero_r (by
    cases nar with
    | false => rw [aluF_wide, aluF_wide, aluf64_neg, aluf64_neg, wneg_same 64 (un a) (un 0) (un y)]
    | true => rw [aluF_nar, aluF_nar, aluf32_neg, aluf32_neg, wneg_same 32 (lowN 32 a) (lowN 32 0) (lowN 32 y)]) (Or.inr ⟨rfl, rfl⟩) (right_neg nar)
theorem good_imm (op : Int) (nar : Bool) (a y : Int) (hop : 1 ≤ op ∧ op ≤ 15) (h14 : op ≠ 14) (hy : -2147483648 ≤ y ∧ y ≤ 2147483647) (h0 : 4 ≤ op ∧ op ≤ 7 → y ≠ 0) (hs : 11 ≤ op ∧ op ≤ 13 → 0 ≤ y ∧ y < 32) : Good4 op nar a y false 0 y :=
  runs_alu op nar false 0 y a y y hop (by unfold i64r; omega) rfl (Or.inr ⟨rfl, rfl⟩) (right_aimm op nar y hop h14 hy h0 hs)
/-- The last: a sum. -/
def three (a : Int) (i : Ins) : List Ins := [⟨20, false, false, 0, 0, 0, 0, a⟩, i, ⟨39, false, false, 0, 0, 0, 0, 0⟩]
end Go.Proofs.YtdepknffpnnmmaaGreat

namespace Go.Proofs.YtdepknffpnnmmaaGreat
open Go.RowKit
set_option linter.unusedVariables false
set_option linter.unusedSimpArgs false

theorem coded_row {w : World} {b : Nat} {e : TypeId} {l : List Ins} (h : Row w b e (codec l)) (hn : 0 < l.length) (hm : l.length ≤ 4096) : Coded w (.slice (some ⟨b, 0, none⟩) l.length l.length) l :=
  ⟨codec_len l, codec_one l, Or.inr ⟨hn, b, 0, _, rfl, h.lt, Nat.le_trans hm (by decide), Nat.le_refl _, fun j u hj => by rw [Nat.zero_add, h.cell]; exact hj⟩⟩
set_option maxRecDepth 100000 in
theorem built_wide (r v : Int) : Tryz.prog.built 25 [(0, .int .i64 20), (4, .int .i64 r), (7, .int .i64 v)] = some #[.int .i64 20, .bool false, .bool false, .int .i64 0, .int .i64 r, .int .i64 0, .int .i64 0, .int .i64 v] := by kernel_rfl
theorem run_wide (r v : Int) (w : World) : (Instr.build 25 #[(0, .int .i64 20), (4, .int .i64 r), (7, .int .i64 v)]).run Tryz.prog w = .ok (.agg #[.int .i64 20, .bool false, .bool false, .int .i64 0, .int .i64 r, .int .i64 0, .int .i64 0, .int .i64 v]) w := run_build w _ _ _ (built_wide r v)
set_option maxRecDepth 100000 in
theorem built_areg (op : Int) (nar : Bool) : Tryz.prog.built 25 [(0, .int .i64 op), (1, .bool nar), (4, .int .i64 0), (2, .bool true), (5, .int .i64 3)] = some #[.int .i64 op, .bool nar, .bool true, .int .i64 0, .int .i64 0, .int .i64 3, .int .i64 0, .int .i64 0] := by kernel_rfl
theorem run_areg (op : Int) (nar : Bool) (w : World) : (Instr.build 25 #[(0, .int .i64 op), (1, .bool nar), (4, .int .i64 0), (2, .bool true), (5, .int .i64 3)]).run Tryz.prog w = .ok (.agg #[.int .i64 op, .bool nar, .bool true, .int .i64 0, .int .i64 0, .int .i64 3, .int .i64 0, .int .i64 0]) w := run_build w _ _ _ (built_areg op nar)
set_option maxRecDepth 100000 in
theorem built_aimm (op : Int) (nar : Bool) (y : Int) : Tryz.prog.built 25 [(0, .int .i64 op), (1, .bool nar), (4, .int .i64 0), (7, .int .i64 y)] = some #[.int .i64 op, .bool nar, .bool false, .int .i64 0, .int .i64 0, .int .i64 0, .int .i64 0, .int .i64 y] := by kernel_rfl
theorem run_aimm (op : Int) (nar : Bool) (y : Int) (w : World) : (Instr.build 25 #[(0, .int .i64 op), (1, .bool nar), (4, .int .i64 0), (7, .int .i64 y)]).run Tryz.prog w = .ok (.agg #[.int .i64 op, .bool nar, .bool false, .int .i64 0, .int .i64 0, .int .i64 0, .int .i64 0, .int .i64 y]) w := run_build w _ _ _ (built_aimm op nar y)
set_option maxRecDepth 100000 in
theorem built_add3 : Tryz.prog.built 25 [(0, .int .i64 1), (4, .int .i64 0), (7, .int .i64 3)] = some #[.int .i64 1, .bool false, .bool false, .int .i64 0, .int .i64 0, .int .i64 0, .int .i64 0, .int .i64 3] := by kernel_rfl
theorem run_add3 (w : World) : (Instr.build 25 #[(0, .int .i64 1), (4, .int .i64 0), (7, .int .i64 3)]).run Tryz.prog w = .ok (.agg #[.int .i64 1, .bool false, .bool false, .int .i64 0, .int .i64 0, .int .i64 0, .int .i64 0, .int .i64 3]) w := run_build w _ _ _ built_add3
set_option maxRecDepth 100000 in
theorem built_exit : Tryz.prog.built 25 [(0, .int .i64 39)] = some #[.int .i64 39, .bool false, .bool false, .int .i64 0, .int .i64 0, .int .i64 0, .int .i64 0, .int .i64 0] := by kernel_rfl
theorem run_exit (w : World) : (Instr.build 25 #[(0, .int .i64 39)]).run Tryz.prog w = .ok (.agg #[.int .i64 39, .bool false, .bool false, .int .i64 0, .int .i64 0, .int .i64 0, .int .i64 0, .int .i64 0]) w := run_build w _ _ _ built_exit
set_option maxRecDepth 100000 in
set_option maxHeartbeats 1600000 in
theorem wide_of (r v : Int) (w : World) : Calls Tryz.prog 8 #[.int .i64 r, .int .i64 v] w (Ret w (.agg #[.int .i64 20, .bool false, .bool false, .int .i64 0, .int .i64 r, .int .i64 0, .int .i64 0, .int .i64 v])) := by
  have hb := run_wide
  go_enter Tryz.func8, Tryz.ntmps8
  go_wp2
  exact bodyPost_ret (v := .agg #[.int .i64 20, .bool false, .bool false, .int .i64 0, .int .i64 r, .int .i64 0, .int .i64 0, .int .i64 v]) (by simp [results, Tryz.results8, go_sem]) rfl ⟨rfl, (Below.refl _ _).alloc (Nat.le_refl _) _⟩

theorem coded4 (w : World) (a y op : Int) (nar reg : Bool) (src imm : Int) : Coded (w.alloc (.cells #[.int .i64 20, .bool false, .bool false, .int .i64 0, .int .i64 0, .int .i64 0, .int .i64 0, .int .i64 a, .int .i64 20, .bool false, .bool false, .int .i64 0, .int .i64 3, .int .i64 0, .int .i64 0, .int .i64 y, .int .i64 op, .bool nar, .bool reg, .int .i64 0, .int .i64 0, .int .i64 src, .int .i64 0, .int .i64 imm, .int .i64 39, .bool false, .bool false, .int .i64 0, .int .i64 0, .int .i64 0, .int .i64 0, .int .i64 0] 25)) (.slice (some ⟨w.heap.size, 0, none⟩) 4 4) (four a y ⟨op, nar, reg, 0, 0, src, 0, imm⟩) :=
  coded_row (l := four a y ⟨op, nar, reg, 0, 0, src, 0, imm⟩) (Row.made w (codec (four a y ⟨op, nar, reg, 0, 0, src, 0, imm⟩)) 25) (by simp [four]) (by simp [four])
theorem coded4n (w : World) (o : Obj) (a y op : Int) (nar reg : Bool) (src imm : Int) : Coded ((w.alloc o).alloc (.cells #[.int .i64 20, .bool false, .bool false, .int .i64 0, .int .i64 0, .int .i64 0, .int .i64 0, .int .i64 a, .int .i64 20, .bool false, .bool false, .int .i64 0, .int .i64 3, .int .i64 0, .int .i64 0, .int .i64 y, .int .i64 op, .bool nar, .bool reg, .int .i64 0, .int .i64 0, .int .i64 src, .int .i64 0, .int .i64 imm, .int .i64 39, .bool false, .bool false, .int .i64 0, .int .i64 0, .int .i64 0, .int .i64 0, .int .i64 0] 25)) (.slice (some ⟨w.heap.size + 1, 0, none⟩) 4 4) (four a y ⟨op, nar, reg, 0, 0, src, 0, imm⟩) :=
  coded_row (l := four a y ⟨op, nar, reg, 0, 0, src, 0, imm⟩) (box2 w o (codec (four a y ⟨op, nar, reg, 0, 0, src, 0, imm⟩)) 25) (by simp [four]) (by simp [four])
/-- A law's box with an instruction; nothing below has changed. -/
structure KB (w : World) (ib : Nat) (cs : List Value) (w1 : World) : Prop where
  row : Row w1 ib 25 cs
  bel : Below w.heap.size w w1
  lb : w.heap.size ≤ ib
section
variable {w w1 w2 : World} {ib : Nat} {op : Int} {nar reg : Bool} {size dst src off imm : Int}
theorem KB.next {cs : List Value} (h : KB w ib cs w1) (hb : Below w1.heap.size w1 w2) : KB w ib cs w2 := ⟨h.row.below hb h.row.lt, h.bel.trans (hb.mono h.bel.size), h.lb⟩
theorem KB.k (h : KB w ib (insc op nar reg size dst src off imm) w1) : w1.cell? ⟨ib, 0, none⟩ = some (.int .i64 op) ∧ w1.cell? ⟨ib, 1, none⟩ = some (.bool nar) ∧ w1.cell? ⟨ib, 2, none⟩ = some (.bool reg) ∧ w1.cell? ⟨ib, 3, none⟩ = some (.int .i64 size) ∧ w1.cell? ⟨ib, 4, none⟩ = some (.int .i64 dst) ∧ w1.cell? ⟨ib, 5, none⟩ = some (.int .i64 src) ∧ w1.cell? ⟨ib, 6, none⟩ = some (.int .i64 off) ∧ w1.cell? ⟨ib, 7, none⟩ = some (.int .i64 imm) ∧ KB w ib (insc op nar reg size dst src off imm) w1 :=
  ⟨by rw [h.row.cell]; rfl, by rw [h.row.cell]; rfl, by rw [h.row.cell]; rfl, by rw [h.row.cell]; rfl, by rw [h.row.cell]; rfl, by rw [h.row.cell]; rfl, by rw [h.row.cell]; rfl, by rw [h.row.cell]; rfl, h⟩
theorem KB.n (h : w1.cell? ⟨ib, 0, none⟩ = some (.int .i64 op) ∧ w1.cell? ⟨ib, 1, none⟩ = some (.bool nar) ∧ w1.cell? ⟨ib, 2, none⟩ = some (.bool reg) ∧ w1.cell? ⟨ib, 3, none⟩ = some (.int .i64 size) ∧ w1.cell? ⟨ib, 4, none⟩ = some (.int .i64 dst) ∧ w1.cell? ⟨ib, 5, none⟩ = some (.int .i64 src) ∧ w1.cell? ⟨ib, 6, none⟩ = some (.int .i64 off) ∧ w1.cell? ⟨ib, 7, none⟩ = some (.int .i64 imm) ∧ KB w ib (insc op nar reg size dst src off imm) w1) (hb : Below w1.heap.size w1 w2) :
    w2.cell? ⟨ib, 0, none⟩ = some (.int .i64 op) ∧ w2.cell? ⟨ib, 1, none⟩ = some (.bool nar) ∧ w2.cell? ⟨ib, 2, none⟩ = some (.bool reg) ∧ w2.cell? ⟨ib, 3, none⟩ = some (.int .i64 size) ∧ w2.cell? ⟨ib, 4, none⟩ = some (.int .i64 dst) ∧ w2.cell? ⟨ib, 5, none⟩ = some (.int .i64 src) ∧ w2.cell? ⟨ib, 6, none⟩ = some (.int .i64 off) ∧ w2.cell? ⟨ib, 7, none⟩ = some (.int .i64 imm) ∧ KB w ib (insc op nar reg size dst src off imm) w2 := (h.2.2.2.2.2.2.2.2.next hb).k
end
/-- A box for an output, empty, behind the instruction's. -/
structure Box0 (ib : Nat) (w : World) (q : Nat) : Prop where
  row : Row w q 30 [.int .i64 0, .slice none 0 0, .slice none 0 0, .slice none 0 0]
  lt : ib < q
theorem Row.apart {w : World} {b q : Nat} {e f : TypeId} {cs ds : List Value} (h : Row w b e cs) (k : Row w q f ds) (hl : cs.length ≠ ds.length) : b ≠ q := fun hc => by
  subst hc
  unfold Row at h k
  rw [h] at k
  have := Option.some.inj k
  injection this with h1
  exact hl (by have := congrArg Array.size h1; simpa using this)
theorem box_at {ib : Nat} {cs : List Value} {W1 : World} (hr : Row W1 ib 25 cs) (hl : cs.length = 8) {q : Nat} (hq : Row W1 q 30 [.int .i64 0, .slice none 0 0, .slice none 0 0, .slice none 0 0]) (hle : ib ≤ q) : ib < q := by
  have := hr.apart hq (by rw [hl]; decide)
  omega
section
variable {w W w1 w' : World} {ib q : Nat} {o : Obj} {op : Int} {nar reg : Bool} {size dst src off imm : Int}
theorem box_new (h : (W.alloc (.cells #[.int .i64 0, .slice none 0 0, .slice none 0 0, .slice none 0 0] 30)).cell? ⟨ib, 0, none⟩ = some (.int .i64 op) ∧ (W.alloc (.cells #[.int .i64 0, .slice none 0 0, .slice none 0 0, .slice none 0 0] 30)).cell? ⟨ib, 1, none⟩ = some (.bool nar) ∧ (W.alloc (.cells #[.int .i64 0, .slice none 0 0, .slice none 0 0, .slice none 0 0] 30)).cell? ⟨ib, 2, none⟩ = some (.bool reg) ∧ (W.alloc (.cells #[.int .i64 0, .slice none 0 0, .slice none 0 0, .slice none 0 0] 30)).cell? ⟨ib, 3, none⟩ = some (.int .i64 size) ∧ (W.alloc (.cells #[.int .i64 0, .slice none 0 0, .slice none 0 0, .slice none 0 0] 30)).cell? ⟨ib, 4, none⟩ = some (.int .i64 dst) ∧ (W.alloc (.cells #[.int .i64 0, .slice none 0 0, .slice none 0 0, .slice none 0 0] 30)).cell? ⟨ib, 5, none⟩ = some (.int .i64 src) ∧ (W.alloc (.cells #[.int .i64 0, .slice none 0 0, .slice none 0 0, .slice none 0 0] 30)).cell? ⟨ib, 6, none⟩ = some (.int .i64 off) ∧ (W.alloc (.cells #[.int .i64 0, .slice none 0 0, .slice none 0 0, .slice none 0 0] 30)).cell? ⟨ib, 7, none⟩ = some (.int .i64 imm) ∧ KB w ib (insc op nar reg size dst src off imm) (W.alloc (.cells #[.int .i64 0, .slice none 0 0, .slice none 0 0, .slice none 0 0] 30))) (hb : Below (W.alloc (.cells #[.int .i64 0, .slice none 0 0, .slice none 0 0, .slice none 0 0] 30)).heap.size (W.alloc (.cells #[.int .i64 0, .slice none 0 0, .slice none 0 0, .slice none 0 0] 30)) w') : Box0 ib w' W.heap.size :=
  ⟨(Row.made W [.int .i64 0, .slice none 0 0, .slice none 0 0, .slice none 0 0] 30).below hb (Row.made W [.int .i64 0, .slice none 0 0, .slice none 0 0, .slice none 0 0] 30).lt, box_at h.2.2.2.2.2.2.2.2.row rfl (Row.made W [.int .i64 0, .slice none 0 0, .slice none 0 0, .slice none 0 0] 30) (by have := h.2.2.2.2.2.2.2.2.row.lt; simp at this; omega)⟩
theorem box_newd (h : (W.alloc (.cells #[.int .i64 0, .slice none 0 0, .slice none 0 0, .slice none 0 0] 30)).drew.cell? ⟨ib, 0, none⟩ = some (.int .i64 op) ∧ (W.alloc (.cells #[.int .i64 0, .slice none 0 0, .slice none 0 0, .slice none 0 0] 30)).drew.cell? ⟨ib, 1, none⟩ = some (.bool nar) ∧ (W.alloc (.cells #[.int .i64 0, .slice none 0 0, .slice none 0 0, .slice none 0 0] 30)).drew.cell? ⟨ib, 2, none⟩ = some (.bool reg) ∧ (W.alloc (.cells #[.int .i64 0, .slice none 0 0, .slice none 0 0, .slice none 0 0] 30)).drew.cell? ⟨ib, 3, none⟩ = some (.int .i64 size) ∧ (W.alloc (.cells #[.int .i64 0, .slice none 0 0, .slice none 0 0, .slice none 0 0] 30)).drew.cell? ⟨ib, 4, none⟩ = some (.int .i64 dst) ∧ (W.alloc (.cells #[.int .i64 0, .slice none 0 0, .slice none 0 0, .slice none 0 0] 30)).drew.cell? ⟨ib, 5, none⟩ = some (.int .i64 src) ∧ (W.alloc (.cells #[.int .i64 0, .slice none 0 0, .slice none 0 0, .slice none 0 0] 30)).drew.cell? ⟨ib, 6, none⟩ = some (.int .i64 off) ∧ (W.alloc (.cells #[.int .i64 0, .slice none 0 0, .slice none 0 0, .slice none 0 0] 30)).drew.cell? ⟨ib, 7, none⟩ = some (.int .i64 imm) ∧ KB w ib (insc op nar reg size dst src off imm) (W.alloc (.cells #[.int .i64 0, .slice none 0 0, .slice none 0 0, .slice none 0 0] 30)).drew) (hb : Below (W.alloc (.cells #[.int .i64 0, .slice none 0 0, .slice none 0 0, .slice none 0 0] 30)).drew.heap.size (W.alloc (.cells #[.int .i64 0, .slice none 0 0, .slice none 0 0, .slice none 0 0] 30)).drew w') : Box0 ib w' W.heap.size :=
  ⟨(Row.made W [.int .i64 0, .slice none 0 0, .slice none 0 0, .slice none 0 0] 30).drew.below hb (Row.made W [.int .i64 0, .slice none 0 0, .slice none 0 0, .slice none 0 0] 30).lt, box_at h.2.2.2.2.2.2.2.2.row rfl (Row.made W [.int .i64 0, .slice none 0 0, .slice none 0 0, .slice none 0 0] 30).drew (by have := h.2.2.2.2.2.2.2.2.row.lt; simp at this; omega)⟩
theorem box_new2 (h : ((W.alloc o).alloc (.cells #[.int .i64 0, .slice none 0 0, .slice none 0 0, .slice none 0 0] 30)).cell? ⟨ib, 0, none⟩ = some (.int .i64 op) ∧ ((W.alloc o).alloc (.cells #[.int .i64 0, .slice none 0 0, .slice none 0 0, .slice none 0 0] 30)).cell? ⟨ib, 1, none⟩ = some (.bool nar) ∧ ((W.alloc o).alloc (.cells #[.int .i64 0, .slice none 0 0, .slice none 0 0, .slice none 0 0] 30)).cell? ⟨ib, 2, none⟩ = some (.bool reg) ∧ ((W.alloc o).alloc (.cells #[.int .i64 0, .slice none 0 0, .slice none 0 0, .slice none 0 0] 30)).cell? ⟨ib, 3, none⟩ = some (.int .i64 size) ∧ ((W.alloc o).alloc (.cells #[.int .i64 0, .slice none 0 0, .slice none 0 0, .slice none 0 0] 30)).cell? ⟨ib, 4, none⟩ = some (.int .i64 dst) ∧ ((W.alloc o).alloc (.cells #[.int .i64 0, .slice none 0 0, .slice none 0 0, .slice none 0 0] 30)).cell? ⟨ib, 5, none⟩ = some (.int .i64 src) ∧ ((W.alloc o).alloc (.cells #[.int .i64 0, .slice none 0 0, .slice none 0 0, .slice none 0 0] 30)).cell? ⟨ib, 6, none⟩ = some (.int .i64 off) ∧ ((W.alloc o).alloc (.cells #[.int .i64 0, .slice none 0 0, .slice none 0 0, .slice none 0 0] 30)).cell? ⟨ib, 7, none⟩ = some (.int .i64 imm) ∧ KB w ib (insc op nar reg size dst src off imm) ((W.alloc o).alloc (.cells #[.int .i64 0, .slice none 0 0, .slice none 0 0, .slice none 0 0] 30))) (hb : Below ((W.alloc o).alloc (.cells #[.int .i64 0, .slice none 0 0, .slice none 0 0, .slice none 0 0] 30)).heap.size ((W.alloc o).alloc (.cells #[.int .i64 0, .slice none 0 0, .slice none 0 0, .slice none 0 0] 30)) w') : Box0 ib w' (W.heap.size + 1) :=
  ⟨(box2 W o [.int .i64 0, .slice none 0 0, .slice none 0 0, .slice none 0 0] 30).below hb (box2 W o [.int .i64 0, .slice none 0 0, .slice none 0 0, .slice none 0 0] 30).lt, box_at h.2.2.2.2.2.2.2.2.row rfl (box2 W o [.int .i64 0, .slice none 0 0, .slice none 0 0, .slice none 0 0] 30) (by have := h.2.2.2.2.2.2.2.2.row.lt; simp at this; omega)⟩
theorem box_newo (h : ((W.alloc (.cells #[.int .i64 0, .slice none 0 0, .slice none 0 0, .slice none 0 0] 30)).alloc o).cell? ⟨ib, 0, none⟩ = some (.int .i64 op) ∧ ((W.alloc (.cells #[.int .i64 0, .slice none 0 0, .slice none 0 0, .slice none 0 0] 30)).alloc o).cell? ⟨ib, 1, none⟩ = some (.bool nar) ∧ ((W.alloc (.cells #[.int .i64 0, .slice none 0 0, .slice none 0 0, .slice none 0 0] 30)).alloc o).cell? ⟨ib, 2, none⟩ = some (.bool reg) ∧ ((W.alloc (.cells #[.int .i64 0, .slice none 0 0, .slice none 0 0, .slice none 0 0] 30)).alloc o).cell? ⟨ib, 3, none⟩ = some (.int .i64 size) ∧ ((W.alloc (.cells #[.int .i64 0, .slice none 0 0, .slice none 0 0, .slice none 0 0] 30)).alloc o).cell? ⟨ib, 4, none⟩ = some (.int .i64 dst) ∧ ((W.alloc (.cells #[.int .i64 0, .slice none 0 0, .slice none 0 0, .slice none 0 0] 30)).alloc o).cell? ⟨ib, 5, none⟩ = some (.int .i64 src) ∧ ((W.alloc (.cells #[.int .i64 0, .slice none 0 0, .slice none 0 0, .slice none 0 0] 30)).alloc o).cell? ⟨ib, 6, none⟩ = some (.int .i64 off) ∧ ((W.alloc (.cells #[.int .i64 0, .slice none 0 0, .slice none 0 0, .slice none 0 0] 30)).alloc o).cell? ⟨ib, 7, none⟩ = some (.int .i64 imm) ∧ KB w ib (insc op nar reg size dst src off imm) ((W.alloc (.cells #[.int .i64 0, .slice none 0 0, .slice none 0 0, .slice none 0 0] 30)).alloc o)) (hi : ib < W.heap.size) (hb : Below ((W.alloc (.cells #[.int .i64 0, .slice none 0 0, .slice none 0 0, .slice none 0 0] 30)).alloc o).heap.size ((W.alloc (.cells #[.int .i64 0, .slice none 0 0, .slice none 0 0, .slice none 0 0] 30)).alloc o) w') : Box0 ib w' W.heap.size :=
  ⟨((Row.made W [.int .i64 0, .slice none 0 0, .slice none 0 0, .slice none 0 0] 30).alloc o).below hb ((Row.made W [.int .i64 0, .slice none 0 0, .slice none 0 0, .slice none 0 0] 30).alloc o).lt, hi⟩
theorem Box0.old (h : Box0 ib W q) (hb : Below W.heap.size W w') : Box0 ib w' q := ⟨h.row.below hb h.row.lt, h.lt⟩
theorem Box0.oldo (h : Box0 ib W q) (hb : Below (W.alloc o).heap.size (W.alloc o) w') : Box0 ib w' q := ⟨(h.row.alloc o).below hb (h.row.alloc o).lt, h.lt⟩
theorem Box0.four (h : Box0 ib W q) : q < W.heap.size ∧ (W.cell? ⟨q, 0, none⟩ = some (.int .i64 0) ∧ W.cell? ⟨q, 1, none⟩ = some (.slice none 0 0) ∧ W.cell? ⟨q, 2, none⟩ = some (.slice none 0 0) ∧ W.cell? ⟨q, 3, none⟩ = some (.slice none 0 0)) ∧
    W.frozen? ⟨q, 0, none⟩ = false ∧ W.frozen? ⟨q, 1, none⟩ = false ∧ W.frozen? ⟨q, 2, none⟩ = false ∧ W.frozen? ⟨q, 3, none⟩ = false := ⟨h.row.lt, h.row.four⟩
theorem KB.put {cs : List Value} (h : KB w ib cs w1) (hb : Box0 ib w1 q) (x0 x1 x2 x3 : Value) : KB w ib cs ((((w1.setCell ⟨q, 0, none⟩ x0).setCell ⟨q, 1, none⟩ x1).setCell ⟨q, 2, none⟩ x2).setCell ⟨q, 3, none⟩ x3) :=
  ⟨h.row.put4o (by have := hb.lt; omega) x0 x1 x2 x3, by
    have hq : w.heap.size ≤ q := Nat.le_trans h.lb (Nat.le_of_lt hb.lt)
    have := bel_put4 (b := q) h.bel hq 0 x0 x1 x2 x3
    simpa using this, h.lb⟩
theorem KB.p (h : w1.cell? ⟨ib, 0, none⟩ = some (.int .i64 op) ∧ w1.cell? ⟨ib, 1, none⟩ = some (.bool nar) ∧ w1.cell? ⟨ib, 2, none⟩ = some (.bool reg) ∧ w1.cell? ⟨ib, 3, none⟩ = some (.int .i64 size) ∧ w1.cell? ⟨ib, 4, none⟩ = some (.int .i64 dst) ∧ w1.cell? ⟨ib, 5, none⟩ = some (.int .i64 src) ∧ w1.cell? ⟨ib, 6, none⟩ = some (.int .i64 off) ∧ w1.cell? ⟨ib, 7, none⟩ = some (.int .i64 imm) ∧ KB w ib (insc op nar reg size dst src off imm) w1) (hb : Box0 ib w1 q) (x0 x1 x2 x3 : Value) : ((((w1.setCell ⟨q, 0, none⟩ x0).setCell ⟨q, 1, none⟩ x1).setCell ⟨q, 2, none⟩ x2).setCell ⟨q, 3, none⟩ x3).cell? ⟨ib, 0, none⟩ = some (.int .i64 op) ∧ ((((w1.setCell ⟨q, 0, none⟩ x0).setCell ⟨q, 1, none⟩ x1).setCell ⟨q, 2, none⟩ x2).setCell ⟨q, 3, none⟩ x3).cell? ⟨ib, 1, none⟩ = some (.bool nar) ∧ ((((w1.setCell ⟨q, 0, none⟩ x0).setCell ⟨q, 1, none⟩ x1).setCell ⟨q, 2, none⟩ x2).setCell ⟨q, 3, none⟩ x3).cell? ⟨ib, 2, none⟩ = some (.bool reg) ∧ ((((w1.setCell ⟨q, 0, none⟩ x0).setCell ⟨q, 1, none⟩ x1).setCell ⟨q, 2, none⟩ x2).setCell ⟨q, 3, none⟩ x3).cell? ⟨ib, 3, none⟩ = some (.int .i64 size) ∧ ((((w1.setCell ⟨q, 0, none⟩ x0).setCell ⟨q, 1, none⟩ x1).setCell ⟨q, 2, none⟩ x2).setCell ⟨q, 3, none⟩ x3).cell? ⟨ib, 4, none⟩ = some (.int .i64 dst) ∧ ((((w1.setCell ⟨q, 0, none⟩ x0).setCell ⟨q, 1, none⟩ x1).setCell ⟨q, 2, none⟩ x2).setCell ⟨q, 3, none⟩ x3).cell? ⟨ib, 5, none⟩ = some (.int .i64 src) ∧ ((((w1.setCell ⟨q, 0, none⟩ x0).setCell ⟨q, 1, none⟩ x1).setCell ⟨q, 2, none⟩ x2).setCell ⟨q, 3, none⟩ x3).cell? ⟨ib, 6, none⟩ = some (.int .i64 off) ∧ ((((w1.setCell ⟨q, 0, none⟩ x0).setCell ⟨q, 1, none⟩ x1).setCell ⟨q, 2, none⟩ x2).setCell ⟨q, 3, none⟩ x3).cell? ⟨ib, 7, none⟩ = some (.int .i64 imm) ∧ KB w ib (insc op nar reg size dst src off imm) ((((w1.setCell ⟨q, 0, none⟩ x0).setCell ⟨q, 1, none⟩ x1).setCell ⟨q, 2, none⟩ x2).setCell ⟨q, 3, none⟩ x3) := (h.2.2.2.2.2.2.2.2.put hb x0 x1 x2 x3).k
end
/-- Nothing below has changed. -/
structure KL (w w1 : World) : Prop where
  bel : Below w.heap.size w w1
theorem KL.next {w w1 w2 : World} (h : KL w w1) (hb : Below w1.heap.size w1 w2) : KL w w2 := ⟨h.bel.trans (hb.mono h.bel.size)⟩
/-- A box for an output, empty, not below block m. -/
structure BoxO (m : Nat) (w : World) (q : Nat) : Prop where
  row : Row w q 30 [.int .i64 0, .slice none 0 0, .slice none 0 0, .slice none 0 0]
  lb : m ≤ q
section
variable {w W w1 w' : World} {m q : Nat} {o : Obj}
theorem bo_new (hW : m ≤ W.heap.size) (hb : Below (W.alloc (.cells #[.int .i64 0, .slice none 0 0, .slice none 0 0, .slice none 0 0] 30)).heap.size (W.alloc (.cells #[.int .i64 0, .slice none 0 0, .slice none 0 0, .slice none 0 0] 30)) w') : BoxO m w' W.heap.size := ⟨(Row.made W [.int .i64 0, .slice none 0 0, .slice none 0 0, .slice none 0 0] _).below hb (Row.made W [.int .i64 0, .slice none 0 0, .slice none 0 0, .slice none 0 0] _).lt, hW⟩
theorem bo_newd (hW : m ≤ W.heap.size) (hb : Below (W.alloc (.cells #[.int .i64 0, .slice none 0 0, .slice none 0 0, .slice none 0 0] 30)).drew.heap.size (W.alloc (.cells #[.int .i64 0, .slice none 0 0, .slice none 0 0, .slice none 0 0] 30)).drew w') : BoxO m w' W.heap.size := ⟨(Row.made W [.int .i64 0, .slice none 0 0, .slice none 0 0, .slice none 0 0] _).drew.below hb (Row.made W [.int .i64 0, .slice none 0 0, .slice none 0 0, .slice none 0 0] _).lt, hW⟩
theorem bo_new2 (hW : m ≤ W.heap.size) (hb : Below ((W.alloc o).alloc (.cells #[.int .i64 0, .slice none 0 0, .slice none 0 0, .slice none 0 0] 30)).heap.size ((W.alloc o).alloc (.cells #[.int .i64 0, .slice none 0 0, .slice none 0 0, .slice none 0 0] 30)) w') : BoxO m w' (W.heap.size + 1) := ⟨(box2 W o [.int .i64 0, .slice none 0 0, .slice none 0 0, .slice none 0 0] _).below hb (box2 W o [.int .i64 0, .slice none 0 0, .slice none 0 0, .slice none 0 0] _).lt, by omega⟩
theorem bo_newo (hW : m ≤ W.heap.size) (hb : Below ((W.alloc (.cells #[.int .i64 0, .slice none 0 0, .slice none 0 0, .slice none 0 0] 30)).alloc o).heap.size ((W.alloc (.cells #[.int .i64 0, .slice none 0 0, .slice none 0 0, .slice none 0 0] 30)).alloc o) w') : BoxO m w' W.heap.size := ⟨((Row.made W [.int .i64 0, .slice none 0 0, .slice none 0 0, .slice none 0 0] _).alloc o).below hb ((Row.made W [.int .i64 0, .slice none 0 0, .slice none 0 0, .slice none 0 0] _).alloc o).lt, hW⟩
theorem BoxO.old (h : BoxO m W q) (hb : Below W.heap.size W w') : BoxO m w' q := ⟨h.row.below hb h.row.lt, h.lb⟩
theorem BoxO.oldo (h : BoxO m W q) (hb : Below (W.alloc o).heap.size (W.alloc o) w') : BoxO m w' q := ⟨(h.row.alloc o).below hb (h.row.alloc o).lt, h.lb⟩
theorem BoxO.four (h : BoxO m W q) : q < W.heap.size ∧ (W.cell? ⟨q, 0, none⟩ = some (.int .i64 0) ∧ W.cell? ⟨q, 1, none⟩ = some (.slice none 0 0) ∧ W.cell? ⟨q, 2, none⟩ = some (.slice none 0 0) ∧ W.cell? ⟨q, 3, none⟩ = some (.slice none 0 0)) ∧
    W.frozen? ⟨q, 0, none⟩ = false ∧ W.frozen? ⟨q, 1, none⟩ = false ∧ W.frozen? ⟨q, 2, none⟩ = false ∧ W.frozen? ⟨q, 3, none⟩ = false := ⟨h.row.lt, h.row.four⟩
theorem KL.put (h : KL w w1) (hb : BoxO w.heap.size w1 q) (x0 x1 x2 x3 : Value) : KL w ((((w1.setCell ⟨q, 0, none⟩ x0).setCell ⟨q, 1, none⟩ x1).setCell ⟨q, 2, none⟩ x2).setCell ⟨q, 3, none⟩ x3) := ⟨by
  have := bel_put4 (b := q) h.bel hb.lb 0 x0 x1 x2 x3
  simpa using this⟩
end
/-- The last program: a sum. -/
def sum3 : List Ins := [⟨20, false, false, 0, 0, 0, 0, 2⟩, ⟨1, false, false, 0, 0, 0, 0, 3⟩, ⟨39, false, false, 0, 0, 0, 0, 0⟩]
theorem coded3 (w : World) : Coded (w.alloc (.cells (codec sum3).toArray 25)) (.slice (some ⟨w.heap.size, 0, none⟩) 3 3) sum3 := coded_row (l := sum3) (Row.made w (codec sum3) _) (by simp [sum3]) (by simp [sum3])
theorem coded3n (w : World) (o : Obj) : Coded ((w.alloc o).alloc (.cells (codec sum3).toArray 25)) (.slice (some ⟨w.heap.size + 1, 0, none⟩) 3 3) sum3 := coded_row (l := sum3) (box2 w o (codec sum3) _) (by simp [sum3]) (by simp [sum3])
theorem good3 (ca : Option Addr) (cc : Nat) (w : World) (hc : Coded w (.slice ca 3 cc) sum3) : Calls Tryz.prog 9 #[.slice ca 3 cc, .slice none 0 0] w (SeenR w 0 5) := by
  have hm : (Prg.mk 0 65535 [] [] sum3).made := by
    refine ⟨⟨by simp, by simp, by simp, by simp, by simp, by simp [sum3]⟩, fun i h => absurd h (by simp), ⟨by simp [sum3], ?_⟩, ?_⟩
    · intro i h
      rcases i with _ | _ | _ | i
      · exact right_wide0 2
      · exact right_aimm 1 false 3 (by decide) (by decide) (by decide) (fun h => by omega) (fun h => by omega)
      · exact right_exit
      · simp [sum3] at h; omega
    · intro i h ho
      rcases i with _ | _ | _ | i
      · exact absurd (show (20 : Int) = 21 from ho) (by decide)
      · exact absurd (show (1 : Int) = 21 from ho) (by decide)
      · exact absurd (show (39 : Int) = 21 from ho) (by decide)
      · simp [sum3] at h; omega
  have hA : arithF 1 false 2 3 = (5, 0) := by
    rw [arithF_alu 1 false 2 3 (by decide) (by unfold i64r; omega), aluF_wide, aluf64_add]
    simp [w_add, un, wrap64]
  have hdo := do_arith ⟨[], [], sum3⟩ (s1F 2) 1 false false 0 0 0 3 2 3 0 (by decide) (by decide) rfl (Or.inr ⟨rfl, rfl⟩)
  rw [hA] at hdo
  have hr : Runs ⟨[], [], sum3⟩ (st0 []) 1048576 0 _ :=
    Runs.step _ (s1F 2) _ 1048575 _ rfl (step_seq ⟨[], [], sum3⟩ (st0 []) { st0 [] with rg := (rg0 0).set 0 (nval 2) } 0 ⟨20, false, false, 0, 0, 0, 0, 2⟩ (by simp [sum3]) rfl rfl rfl (by simp [sum3]) (do_wide _ _ 2 0 (by decide)) rfl rfl (by simp [st0]))
      (Runs.step _ _ _ 1048574 _ rfl (step_seq ⟨[], [], sum3⟩ (s1F 2) { s1F 2 with rg := ((rg0 0).set 0 (nval 2)).set 0 (nval 5) } 1 ⟨1, false, false, 0, 0, 0, 0, 3⟩ (by simp [sum3]) rfl rfl rfl (by simp [sum3]) hdo rfl rfl (by simp [s1F]))
        (Runs.step _ _ _ 1048573 _ rfl (step_exit _ _ 2 (by simp [sum3]) rfl rfl rfl (by simp [sum3]) (nval 5) rfl rfl (by simp [s1F])) (Runs.done _ _ rfl)))
  refine (runs_of sum3 [] ca cc (.slice none 0 0) hm (by simp) _ _ hr rfl (by simp [s1F, st0]) (by simp [s1F, st0]) w hc ⟨fun x hx => (by cases hx), Or.inl ⟨rfl, Or.inl rfl⟩⟩).mono ?_
  rintro e w' ⟨r0, a1, n1, c1, a2, n2, c2, a3, n3, c3, rfl, hO, hB⟩
  obtain rfl : r0 = 5 := hO.r0 rfl (nval 5) rfl
  exact ⟨_, _, _, _, _, _, _, _, _, rfl, hB⟩
theorem and31 (b : Int) : bits .and .i64 b 31 = b % 32 := by
  have h := i64_and_mask b 5 (by decide)
  have e : (2 : Int) ^ 5 = 32 := rfl
  rw [e] at h
  exact h
end Go.Proofs.YtdepknffpnnmmaaGreat

