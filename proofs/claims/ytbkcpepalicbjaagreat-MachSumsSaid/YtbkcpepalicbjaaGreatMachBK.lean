/-
  The programs of MachJumps, run.
-/
import Derived.Test.YtbkcpepalicbjaaGreatMachBE
namespace Go.Proofs.YtbkcpepalicbjaaGreat
open Go.RowKit
set_option linter.unusedVariables false
set_option linter.unusedSimpArgs false

/-- A conditional jump that the law makes: with a register (3 and 4) or with a number. -/
structure JIns (op : Int) (nar : Bool) (off y : Int) (i : Ins) : Prop where
  hop : 27 ≤ op ∧ op ≤ 37
  hoff : -32768 ≤ off ∧ off < 32768
  shape : i = ⟨op, nar, true, 0, 3, 4, off, 0⟩ ∨ (-2147483648 ≤ y ∧ y ≤ 2147483647) ∧ i = ⟨op, nar, false, 0, 3, 0, off, y⟩
theorem JIns.right {op : Int} {nar : Bool} {off y : Int} {i : Ins} (h : JIns op nar off y i) : i.right = 0 := by
  rcases h.shape with rfl | ⟨hy, rfl⟩
  · exact right_jr op nar 3 4 off h.hop (by decide) (by decide) h.hoff
  · exact right_ji op nar 3 off y h.hop (by decide) h.hoff hy
theorem JIns.imm {op : Int} {nar : Bool} {off y : Int} {i : Ins} (h : JIns op nar off y i) : i64r i.imm := by
  rcases h.shape with rfl | ⟨hy, rfl⟩
  · exact zero_r
  · show i64r y; unfold i64r; omega
theorem JIns.op' {op : Int} {nar : Bool} {off y : Int} {i : Ins} (h : JIns op nar off y i) : i.op = op ∧ i.nar = nar ∧ i.dst = 3 ∧ i.off = off := by
  rcases h.shape with rfl | ⟨hy, rfl⟩ <;> exact ⟨rfl, rfl, rfl, rfl⟩
/-- What the jump finds, where r3 is a and r4 is y. -/
theorem JIns.branch {op : Int} {nar : Bool} {off y : Int} {i : Ins} (h : JIns op nar off y i) (a : Int) (sl : List Slot) (ctx : List Int) (rg : List Val) (k : Nat) (n : Int) (h3 : (stm sl ctx rg k n).reg 3 = nval a) (h4 : (stm sl ctx rg k n).reg 4 = nval y) :
    branchV i ((stm sl ctx rg k n).reg i.dst) ((stm sl ctx rg k n).sec i) = (holdF op nar a y, 0) := by
  have hs : (stm sl ctx rg k n).sec i = nval y := by
    rcases h.shape with rfl | ⟨hy, rfl⟩
    · exact h4
    · rfl
  obtain ⟨h1, h2, h5, _⟩ := h.op'
  rw [hs, h5, h3]
  unfold branchV
  rw [if_pos ⟨rfl, rfl⟩, h1, h2]
  rfl
def jcode (i : Ins) (a y : Int) : List Ins := [insWide 3 a, insWide 4 y, insMovi 0 1, i, insWide 0 2, insMovi 5 9, insExit]
theorem jcode_ok {op : Int} {nar : Bool} {off y : Int} {i : Ins} (h : JIns op nar off y i) (a : Int) (ha : i64r a) (hy : i64r y) : ProgOK (jcode i a y) := by
  refine ⟨⟨by simp [jcode], by simp [jcode]⟩, fun j hj => ?_, fun k j hj hk => ?_⟩
  · simp only [jcode, List.mem_cons, List.not_mem_nil, or_false] at hj
    rcases hj with rfl | rfl | rfl | rfl | rfl | rfl | rfl
    · exact ⟨right_wide 3 a (by decide), ha, Or.inr (Or.inl rfl)⟩
    · exact ⟨right_wide 4 y (by decide), hy, Or.inr (Or.inl rfl)⟩
    · exact ⟨right_addi 15 0 1 (Or.inr (Or.inr rfl)) (by decide) (by decide), by show i64r 1; unfold i64r; decide, Or.inl (by show (15 : Int) ≤ 15; decide)⟩
    · exact ⟨h.right, h.imm, Or.inr (Or.inr (Or.inr (Or.inl (by rw [h.op'.1]; have := h.hop; omega))))⟩
    · exact ⟨right_wide 0 2 (by decide), by show i64r 2; unfold i64r; decide, Or.inr (Or.inl rfl)⟩
    · exact ⟨right_addi 15 5 9 (Or.inr (Or.inr rfl)) (by decide) (by decide), by show i64r 9; unfold i64r; decide, Or.inl (by show (15 : Int) ≤ 15; decide)⟩
    · exact ⟨right_exit, zero_r, Or.inr (Or.inr (Or.inr (Or.inr rfl)))⟩
  · have : k = 6 := by simp [jcode] at hk; omega
    subst this
    have : j = insExit := by simpa [jcode] using hj.symm
    subst this
    exact Or.inr rfl
theorem j_run {op : Int} {nar : Bool} {y : Int} {i : Ins} (h : JIns op nar 3 y i) (a : Int) :
    ∃ s2, runF ⟨[], [], jcode i a y⟩ 1048576 (st0 []) = (0, s2) ∧ (s2.reg 0).x = (if holdF op nar a y then 1 else 2) := by
  obtain ⟨h1, h2, h5, h6⟩ := h.op'
  have hop := h.hop
  have hw : wideop i.op = false := by unfold wideop; simp; omega
  have e0 : runF ⟨[], [], jcode i a y⟩ 1048576 (stq (rg0 0) 0 0) = runF ⟨[], [], jcode i a y⟩ 1048575 (stq ((rg0 0).set 3 (nval a)) 1 1) :=
    q_wide (m := 1048575) (d := 3) (y := a) rfl (by simp [jcode])
  have e1 : runF ⟨[], [], jcode i a y⟩ 1048575 (stq ((rg0 0).set 3 (nval a)) 1 1) = runF ⟨[], [], jcode i a y⟩ 1048574 (stq (((rg0 0).set 3 (nval a)).set 4 (nval y)) 2 2) :=
    q_wide (m := 1048574) (d := 4) (y := y) rfl (by simp [jcode])
  have e2 : runF ⟨[], [], jcode i a y⟩ 1048574 (stq (((rg0 0).set 3 (nval a)).set 4 (nval y)) 2 2) = runF ⟨[], [], jcode i a y⟩ 1048573 (stq ((((rg0 0).set 3 (nval a)).set 4 (nval y)).set 0 (nval 1)) 3 3) :=
    q_arith (m := 1048573) (i := insMovi 0 1) (v := nval 1) rfl (by show (15 : Int) ≤ 15; decide) (av_mov _ (nval 1) (by decide)) (by simp [jcode])
  have hbr := h.branch a (List.replicate 32 noslot) [] ((((rg0 0).set 3 (nval a)).set 4 (nval y)).set 0 (nval 1)) 3 3 rfl rfl
  cases hh : holdF op nar a y with
  | true =>
    rw [hh] at hbr
    have hu : (unitAt (jcode i a y) 6 : Int) = (unitAt (jcode i a y) 4 : Int) + i.off := by
      rw [h6]
      simp [unitAt, jcode, insMovi, insWide, wideop]
      omega
    have e3 := q_jump (fx := ⟨[], [], jcode i a y⟩) (sl := List.replicate 32 noslot) (ctx := []) (rg := (((rg0 0).set 3 (nval a)).set 4 (nval y)).set 0 (nval 1)) (k := 3) (n := 3) (m := 1048572) (i := i) rfl (by omega) hbr 6 (by simp [jcode]) hu
    have e4 := q_exit (fx := ⟨[], [], jcode i a y⟩) (sl := List.replicate 32 noslot) (ctx := []) (rg := (((rg0 0).set 3 (nval a)).set 4 (nval y)).set 0 (nval 1)) (k := 6) (n := 3 + 1) (m := 1048571) rfl rfl
    exact ⟨_, e0.trans (e1.trans (e2.trans (e3.trans e4))), rfl⟩
  | false =>
    rw [hh] at hbr
    have e3 := q_stay (fx := ⟨[], [], jcode i a y⟩) (sl := List.replicate 32 noslot) (ctx := []) (rg := (((rg0 0).set 3 (nval a)).set 4 (nval y)).set 0 (nval 1)) (k := 3) (n := 3) (m := 1048572) (i := i) rfl (by omega) hbr (by simp [jcode])
    have e4 := q_wide (fx := ⟨[], [], jcode i a y⟩) (sl := List.replicate 32 noslot) (ctx := []) (rg := (((rg0 0).set 3 (nval a)).set 4 (nval y)).set 0 (nval 1)) (k := 4) (n := 3 + 1) (m := 1048571) (d := 0) (y := 2) rfl (by simp [jcode])
    have e5 := q_arith (fx := ⟨[], [], jcode i a y⟩) (sl := List.replicate 32 noslot) (ctx := []) (rg := ((((rg0 0).set 3 (nval a)).set 4 (nval y)).set 0 (nval 1)).set 0 (nval 2)) (k := 5) (n := 3 + 1 + 1) (m := 1048570) (i := insMovi 5 9) (v := nval 9) rfl (by show (15 : Int) ≤ 15; decide) (av_mov _ (nval 9) (by decide)) (by simp [jcode])
    have e6 := q_exit (fx := ⟨[], [], jcode i a y⟩) (sl := List.replicate 32 noslot) (ctx := []) (rg := (((((rg0 0).set 3 (nval a)).set 4 (nval y)).set 0 (nval 1)).set 0 (nval 2)).set 5 (nval 9)) (k := 6) (n := 3 + 1 + 1 + 1) (m := 1048569) rfl rfl
    exact ⟨_, e0.trans (e1.trans (e2.trans (e3.trans (e4.trans (e5.trans e6))))), rfl⟩
theorem j_runs {op : Int} {nar : Bool} {y : Int} {i : Ins} (h : JIns op nar 3 y i) (a : Int) (ha : i64r a) (hy : i64r y) (ca : Option Addr) (cc : Nat) (w : World) (hc : Coded w (.slice ca 7 cc) (jcode i a y)) :
    Calls Tryz.prog 20 #[.slice ca 7 cc, .slice none 0 0] w (SeenR w 0 (if holdF op nar a y then 1 else 2)) := by
  obtain ⟨s2, h1, h2⟩ := j_run h a
  exact runs_r0 (jcode i a y) (jcode_ok h a ha hy) _ s2 h1 _ (fun _ => h2) (fun h => absurd rfl h) ca cc 7 rfl w hc
/-- The program of nowhere. -/
def ncode (i : Ins) (a y : Int) : List Ins := [insWide 3 a, insWide 4 y, i, insWide 0 2, insExit]
theorem ncode_ok {op : Int} {nar : Bool} {off y : Int} {i : Ins} (h : JIns op nar off y i) (a : Int) (ha : i64r a) (hy : i64r y) : ProgOK (ncode i a y) := by
  refine ⟨⟨by simp [ncode], by simp [ncode]⟩, fun j hj => ?_, fun k j hj hk => ?_⟩
  · simp only [ncode, List.mem_cons, List.not_mem_nil, or_false] at hj
    rcases hj with rfl | rfl | rfl | rfl | rfl
    · exact ⟨right_wide 3 a (by decide), ha, Or.inr (Or.inl rfl)⟩
    · exact ⟨right_wide 4 y (by decide), hy, Or.inr (Or.inl rfl)⟩
    · exact ⟨h.right, h.imm, Or.inr (Or.inr (Or.inr (Or.inl (by rw [h.op'.1]; have := h.hop; omega))))⟩
    · exact ⟨right_wide 0 2 (by decide), by show i64r 2; unfold i64r; decide, Or.inr (Or.inl rfl)⟩
    · exact ⟨right_exit, zero_r, Or.inr (Or.inr (Or.inr (Or.inr rfl)))⟩
  · have : k = 4 := by simp [ncode] at hk; omega
    subst this
    have : j = insExit := by simpa [ncode] using hj.symm
    subst this
    exact Or.inr rfl
/-- The state behind it, and the trap. -/
def nowS (a y : Int) (taken : Bool) : Mst := if taken then stq (((rg0 0).set 3 (nval a)).set 4 (nval y)) 2 2 else { stq ((((rg0 0).set 3 (nval a)).set 4 (nval y)).set 0 (nval 2)) 4 4 with done := true, steps := 5 }
theorem n_run {op : Int} {nar : Bool} {off y : Int} {i : Ins} (h : JIns op nar off y i) (ho : off = 1 ∨ off = 40) (a : Int) (hi : Int) :
    runF ⟨[], [], ncode i a y⟩ 9 (st0 []) = (if holdF op nar a y then 89 else 0, nowS a y (holdF op nar a y)) := by
  obtain ⟨h1, h2, h5, h6⟩ := h.op'
  have hop := h.hop
  have hw : wideop i.op = false := by unfold wideop; simp; omega
  have e0 : runF ⟨[], [], ncode i a y⟩ 9 (stq (rg0 0) 0 0) = runF ⟨[], [], ncode i a y⟩ 8 (stq ((rg0 0).set 3 (nval a)) 1 1) :=
    q_wide (m := 8) (d := 3) (y := a) rfl (by simp [ncode])
  have e1 : runF ⟨[], [], ncode i a y⟩ 8 (stq ((rg0 0).set 3 (nval a)) 1 1) = runF ⟨[], [], ncode i a y⟩ 7 (stq (((rg0 0).set 3 (nval a)).set 4 (nval y)) 2 2) :=
    q_wide (m := 7) (d := 4) (y := y) rfl (by simp [ncode])
  have hbr := h.branch a (List.replicate 32 noslot) [] (((rg0 0).set 3 (nval a)).set 4 (nval y)) 2 2 rfl rfl
  cases hh : holdF op nar a y with
  | true =>
    rw [hh] at hbr
    have hu : ∀ j < (ncode i a y).length, (unitAt (ncode i a y) j : Int) ≠ (unitAt (ncode i a y) 3 : Int) + i.off := by
      rw [h6]
      intro j hj
      have hj' : j = 0 ∨ j = 1 ∨ j = 2 ∨ j = 3 ∨ j = 4 := by simp [ncode] at hj; omega
      rcases hj' with rfl | rfl | rfl | rfl | rfl
      all_goals
        simp [unitAt, ncode, insMovi, insWide, wideop, hw]
        omega
    have e2 : runF ⟨[], [], ncode i a y⟩ 7 (stq (((rg0 0).set 3 (nval a)).set 4 (nval y)) 2 2) = (89, stq (((rg0 0).set 3 (nval a)).set 4 (nval y)) 2 2) :=
      runF_trap (n := 6) rfl (step_nowhere (s' := stq (((rg0 0).set 3 (nval a)).set 4 (nval y)) 2 2) i.off (i := i) rfl rfl (by omega) ((doF_branch (by omega) hbr).trans (by rw [if_pos ⟨rfl, rfl⟩])) hu) (by decide)
    exact e0.trans (e1.trans e2)
  | false =>
    rw [hh] at hbr
    have e3 := q_stay (fx := ⟨[], [], ncode i a y⟩) (sl := List.replicate 32 noslot) (ctx := []) (rg := ((rg0 0).set 3 (nval a)).set 4 (nval y)) (k := 2) (n := 2) (m := 6) (i := i) rfl (by omega) hbr (by simp [ncode])
    have e4 := q_wide (fx := ⟨[], [], ncode i a y⟩) (sl := List.replicate 32 noslot) (ctx := []) (rg := ((rg0 0).set 3 (nval a)).set 4 (nval y)) (k := 3) (n := 2 + 1) (m := 5) (d := 0) (y := 2) rfl (by simp [ncode])
    have e5 := q_exit (fx := ⟨[], [], ncode i a y⟩) (sl := List.replicate 32 noslot) (ctx := []) (rg := (((rg0 0).set 3 (nval a)).set 4 (nval y)).set 0 (nval 2)) (k := 4) (n := 2 + 1 + 1) (m := 4) rfl rfl
    exact e0.trans (e1.trans (e3.trans (e4.trans e5)))
end Go.Proofs.YtbkcpepalicbjaaGreat
