/-
  The programs of MachOffsets, run.
-/
import Derived.Test.YtdepknffpnnmmaaGreatJ6a
namespace Go.Proofs.YtdepknffpnnmmaaGreat
open Go.RowKit
set_option linter.unusedVariables false
set_option linter.unusedSimpArgs false

theorem av_mov (a b : Val) (hk : b.k ≠ 0) : arithV 15 false a b = (b, 0) := by
  unfold arithV
  rw [if_pos ⟨rfl, rfl, hk⟩]
theorem av_addp (a b : Val) (ha : 2 ≤ a.k) (hb : b.k = 1) : arithV 1 false a b = movedF a b.x := by
  unfold arithV
  simp only [if_neg (show ¬((1 : Int) = 15) by decide), if_neg (show ¬((1 : Int) = 14) by decide)]
  rw [if_neg (fun h => absurd h.1 (by decide)), if_neg (by omega), if_neg (by simp; omega)]
  unfold sumF
  rw [if_pos ⟨rfl, ha, hb⟩]
theorem av_subp (a b : Val) (ha : 2 ≤ a.k) (hb : b.k = 1) : arithV 2 false a b = if b.x < -2097152 then (a, 85) else movedF a (-b.x) := by
  unfold arithV
  simp only [if_neg (show ¬((2 : Int) = 15) by decide), if_neg (show ¬((2 : Int) = 14) by decide)]
  rw [if_neg (fun h => absurd h.1 (by decide)), if_neg (by omega), if_neg (by simp; omega)]
  unfold sumF
  rw [if_neg (fun h => absurd h.1 (by decide)), if_neg (fun h => absurd h.1 (by decide)), if_pos ⟨rfl, ha, hb⟩]
theorem av_subd (a b : Val) (hal : alikeF a b = true) : arithV 2 false a b = (nval (a.x - b.x), 0) := by
  have hal' := hal
  unfold alikeF at hal'
  simp only [Bool.and_eq_true, decide_eq_true_eq, beq_iff_eq] at hal'
  unfold arithV
  simp only [if_neg (show ¬((2 : Int) = 15) by decide), if_neg (show ¬((2 : Int) = 14) by decide)]
  rw [if_neg (fun h => absurd h.1 (by decide)), if_neg (by omega), if_neg (by simp; omega)]
  unfold sumF
  rw [if_neg (fun h => absurd h.1 (by decide)), if_neg (fun h => absurd h.1 (by decide)), if_neg (by omega), if_pos ⟨rfl, hal⟩]
theorem moved_in (v : Val) (n : Int) (h : -1048576 ≤ v.x + n ∧ v.x + n ≤ 1048576) (h2 : -2097152 ≤ n ∧ n ≤ 2097152) : movedF v n = (⟨v.k, v.t, v.o, v.x + n⟩, 0) := by
  unfold movedF
  rw [if_neg (by omega)]
theorem moved_out (v : Val) (n : Int) (h : n < -2097152 ∨ 2097152 < n ∨ v.x + n < -1048576 ∨ 1048576 < v.x + n) : movedF v n = (v, 85) := by
  unfold movedF
  rw [if_pos h]
theorem right_movr (d s : Int) (hd : 0 ≤ d ∧ d ≤ 9) (hs : 0 ≤ s ∧ s ≤ 10) : (Ins.mk 15 false true 0 d s 0 0).right = 0 := by
  simp [Ins.right, rightc, formedv, sizesv, secondv, usesD, usesS, usesO, usesI, immFitsv, isRegv, writesDstv, writesSrcv]
  omega
theorem right_add2 (op d s : Int) (hop : op = 1 ∨ op = 2) (hd : 0 ≤ d ∧ d ≤ 9) (hs : 0 ≤ s ∧ s ≤ 10) : (Ins.mk op false true 0 d s 0 0).right = 0 := by
  rcases hop with rfl | rfl
  all_goals
    simp [Ins.right, rightc, formedv, sizesv, secondv, usesD, usesS, usesO, usesI, immFitsv, isRegv, writesDstv, writesSrcv]
    omega
theorem right_addi (op d y : Int) (hop : op = 1 ∨ op = 2 ∨ op = 15) (hd : 0 ≤ d ∧ d ≤ 9) (hy : -2147483648 ≤ y ∧ y ≤ 2147483647) : (Ins.mk op false false 0 d 0 0 y).right = 0 := by
  rcases hop with rfl | rfl | rfl
  all_goals
    simp [Ins.right, rightc, formedv, sizesv, secondv, usesD, usesS, usesO, usesI, immFitsv, isRegv, writesDstv, writesSrcv]
    omega
theorem right_wide (d y : Int) (hd : 0 ≤ d ∧ d ≤ 9) : (Ins.mk 20 false false 0 d 0 0 y).right = 0 := by
  simp [Ins.right, rightc, formedv, sizesv, secondv, usesD, usesS, usesO, usesI, immFitsv, isRegv, writesDstv, writesSrcv]
  omega
theorem right_jr (op : Int) (nar : Bool) (d s off : Int) (hop : 27 ≤ op ∧ op ≤ 37) (hd : 0 ≤ d ∧ d ≤ 10) (hs : 0 ≤ s ∧ s ≤ 10) (ho : -32768 ≤ off ∧ off < 32768) : (Ins.mk op nar true 0 d s off 0).right = 0 := by
  have hc : op = 27 ∨ op = 28 ∨ op = 29 ∨ op = 30 ∨ op = 31 ∨ op = 32 ∨ op = 33 ∨ op = 34 ∨ op = 35 ∨ op = 36 ∨ op = 37 := by omega
  rcases hc with rfl | rfl | rfl | rfl | rfl | rfl | rfl | rfl | rfl | rfl | rfl
  all_goals
    simp [Ins.right, rightc, formedv, sizesv, secondv, usesD, usesS, usesO, usesI, immFitsv, isRegv, writesDstv, writesSrcv]
    omega
theorem right_ji (op : Int) (nar : Bool) (d off imm : Int) (hop : 27 ≤ op ∧ op ≤ 37) (hd : 0 ≤ d ∧ d ≤ 10) (ho : -32768 ≤ off ∧ off < 32768) (hi : -2147483648 ≤ imm ∧ imm ≤ 2147483647) : (Ins.mk op nar false 0 d 0 off imm).right = 0 := by
  have hc : op = 27 ∨ op = 28 ∨ op = 29 ∨ op = 30 ∨ op = 31 ∨ op = 32 ∨ op = 33 ∨ op = 34 ∨ op = 35 ∨ op = 36 ∨ op = 37 := by omega
  rcases hc with rfl | rfl | rfl | rfl | rfl | rfl | rfl | rfl | rfl | rfl | rfl
  all_goals
    simp [Ins.right, rightc, formedv, sizesv, secondv, usesD, usesS, usesO, usesI, immFitsv, isRegv, writesDstv, writesSrcv]
    omega
/-- A machine without tables, that has sent nothing. -/
def stm (sl : List Slot) (ctx : List Int) (rg : List Val) (k : Nat) (n : Int) : Mst := ⟨sl, rg, ctx, [], [], k, n, false⟩
/-- A machine without memory. -/
abbrev stq (rg : List Val) (k : Nat) (n : Int) : Mst := stm (List.replicate 32 noslot) [] rg k n
def insMov (d s : Int) : Ins := ⟨15, false, true, 0, d, s, 0, 0⟩
def insMovi (d y : Int) : Ins := ⟨15, false, false, 0, d, 0, 0, y⟩
def insOp (op d s : Int) : Ins := ⟨op, false, true, 0, d, s, 0, 0⟩
def insOpi (op d y : Int) : Ins := ⟨op, false, false, 0, d, 0, 0, y⟩
def insWide (d y : Int) : Ins := ⟨20, false, false, 0, d, 0, 0, y⟩
def insExit : Ins := ⟨39, false, false, 0, 0, 0, 0, 0⟩
section
variable {fx : Mfix} {sl : List Slot} {ctx : List Int} {rg : List Val} {k : Nat} {n : Int}
/-- The steps of a machine without memory. -/
theorem q_arith {i : Ins} {v : Val} {m : Nat} (hg : fx.code[k]? = some i) (hop : i.op ≤ 15) (ha : arithV i.op i.nar ((stm sl ctx rg k n).reg i.dst) ((stm sl ctx rg k n).sec i) = (v, 0)) (hk : k + 1 < fx.code.length) :
    runF fx (m + 1) (stm sl ctx rg k n) = runF fx m (stm sl ctx (rg.set i.dst.toNat v) (k + 1) (n + 1)) :=
  runF_go rfl (step_next (s' := (stm sl ctx rg k n).setr i.dst v) k rfl hg rfl (by omega) ((doF_arith hop ha).trans (by rw [if_pos rfl])) hk)
theorem q_trap {i : Ins} {v : Val} {m : Nat} {er : Int} (hg : fx.code[k]? = some i) (hop : i.op ≤ 15) (ha : arithV i.op i.nar ((stm sl ctx rg k n).reg i.dst) ((stm sl ctx rg k n).sec i) = (v, er)) (he : er ≠ 0) :
    runF fx (m + 1) (stm sl ctx rg k n) = (er, stm sl ctx rg k n) :=
  runF_trap rfl (step_err er hg rfl (by rw [doF_arith hop ha]) he) he
theorem q_wide {d y : Int} {m : Nat} (hg : fx.code[k]? = some (insWide d y)) (hk : k + 1 < fx.code.length) : runF fx (m + 1) (stm sl ctx rg k n) = runF fx m (stm sl ctx (rg.set d.toNat (nval y)) (k + 1) (n + 1)) :=
  runF_go rfl (step_next (s' := (stm sl ctx rg k n).setr d (nval y)) k rfl hg rfl (by show (20 : Int) ≠ 39; decide) (doF_wide rfl) hk)
theorem q_exit {m : Nat} (hg : fx.code[k]? = some insExit) (h0 : ((stm sl ctx rg k n).reg 0).k = 1) : runF fx (m + 1) (stm sl ctx rg k n) = (0, { stm sl ctx rg k n with done := true, steps := n + 1 }) :=
  (runF_go (s1 := { stm sl ctx rg k n with done := true, steps := n + 1 }) rfl (step_leave hg rfl rfl h0)).trans (runF_done rfl)
theorem q_leak {m : Nat} (hg : fx.code[k]? = some insExit) (h0 : ((stm sl ctx rg k n).reg 0).k ≠ 1) : runF fx (m + 1) (stm sl ctx rg k n) = (86, stm sl ctx rg k n) :=
  runF_trap rfl (step_leak hg rfl rfl h0) (by decide)
theorem q_jump {i : Ins} {m : Nat} (hg : fx.code[k]? = some i) (hop : 27 ≤ i.op ∧ i.op ≤ 37) (hb : branchV i ((stm sl ctx rg k n).reg i.dst) ((stm sl ctx rg k n).sec i) = (true, 0)) (j : Nat) (hj : j < fx.code.length) (hu : (unitAt fx.code j : Int) = (unitAt fx.code (k + 1) : Int) + i.off) :
    runF fx (m + 1) (stm sl ctx rg k n) = runF fx m (stm sl ctx rg j (n + 1)) :=
  runF_go rfl (step_to (s' := stm sl ctx rg k n) i.off j hg rfl (by omega) ((doF_branch hop hb).trans (by rw [if_pos ⟨rfl, rfl⟩])) hj hu)
theorem q_stay {i : Ins} {m : Nat} (hg : fx.code[k]? = some i) (hop : 27 ≤ i.op ∧ i.op ≤ 37) (hb : branchV i ((stm sl ctx rg k n).reg i.dst) ((stm sl ctx rg k n).sec i) = (false, 0)) (hj : k + 1 < fx.code.length) :
    runF fx (m + 1) (stm sl ctx rg k n) = runF fx m (stm sl ctx rg (k + 1) (n + 1)) :=
  runF_go rfl (step_next (s' := stm sl ctx rg k n) k rfl hg rfl (by omega) ((doF_branch hop hb).trans (by rw [if_neg (fun h => by cases h.2)])) hj)
end
/-- The program of moves. -/
def mvc (a b : Int) : List Ins := [insMov 4 1, insWide 3 a, insOp 1 4 3, insWide 3 b, insOp 2 4 3, insOp 2 4 1, insMov 0 4, insExit]
def farF (x : Int) : Prop := x < -1048576 ∨ 1048576 < x
theorem mvc_ok (a b : Int) (ha : i64r a) (hb : i64r b) : ProgOK (mvc a b) := by
  refine ⟨⟨by simp [mvc], by simp [mvc]⟩, fun i hi => ?_, fun k i hi hk => ?_⟩
  · simp only [mvc, List.mem_cons, List.not_mem_nil, or_false] at hi
    rcases hi with rfl | rfl | rfl | rfl | rfl | rfl | rfl | rfl
    · exact ⟨right_movr 4 1 (by decide) (by decide), zero_r, Or.inl (by decide)⟩
    · exact ⟨right_wide 3 a (by decide), ha, Or.inr (Or.inl rfl)⟩
    · exact ⟨right_add2 1 4 3 (Or.inl rfl) (by decide) (by decide), zero_r, Or.inl (by decide)⟩
    · exact ⟨right_wide 3 b (by decide), hb, Or.inr (Or.inl rfl)⟩
    · exact ⟨right_add2 2 4 3 (Or.inr rfl) (by decide) (by decide), zero_r, Or.inl (by decide)⟩
    · exact ⟨right_add2 2 4 1 (Or.inr rfl) (by decide) (by decide), zero_r, Or.inl (by decide)⟩
    · exact ⟨right_movr 0 4 (by decide) (by decide), zero_r, Or.inl (by decide)⟩
    · exact ⟨right_exit, zero_r, Or.inr (Or.inr (Or.inr (Or.inr rfl)))⟩
  · have : k = 7 := by simp [mvc] at hk; omega
    subst this
    have : i = insExit := by simpa [mvc] using hi.symm
    subst this
    exact Or.inr rfl
/-- What moves answers: the number, the trap. -/
def movesF (a b : Int) : Int × Int := if a < -1048576 ∨ 1048576 < a then (0, 85) else if b < -4194304 ∨ 4194304 < b ∨ a - b < -1048576 ∨ 1048576 < a - b then (0, 85) else (a - b, 0)
theorem moves_run (a b : Int) : ∃ s2, runF ⟨[], [], mvc a b⟩ 1048576 (st0 []) = ((movesF a b).2, s2) ∧ ((movesF a b).2 = 0 → (s2.reg 0).x = (movesF a b).1) := by
  have e0 : runF ⟨[], [], mvc a b⟩ 1048576 (stq (rg0 0) 0 0) = runF ⟨[], [], mvc a b⟩ 1048575 (stq ((rg0 0).set 4 ⟨3, 0, 0, 0⟩) 1 1) :=
    q_arith (m := 1048575) (i := insMov 4 1) (v := ⟨3, 0, 0, 0⟩) rfl (by decide) (av_mov _ _ (by decide)) (by simp [mvc])
  have e1 : runF ⟨[], [], mvc a b⟩ 1048575 (stq ((rg0 0).set 4 ⟨3, 0, 0, 0⟩) 1 1) = runF ⟨[], [], mvc a b⟩ 1048574 (stq (((rg0 0).set 4 ⟨3, 0, 0, 0⟩).set 3 (nval a)) 2 2) :=
    q_wide (m := 1048574) (d := 3) (y := a) rfl (by simp [mvc])
  unfold movesF
  by_cases ha : a < -1048576 ∨ 1048576 < a
  · rw [if_pos ha]
    have e2 : runF ⟨[], [], mvc a b⟩ 1048574 (stq (((rg0 0).set 4 ⟨3, 0, 0, 0⟩).set 3 (nval a)) 2 2) = (85, stq (((rg0 0).set 4 ⟨3, 0, 0, 0⟩).set 3 (nval a)) 2 2) :=
      q_trap (m := 1048573) (i := insOp 1 4 3) (v := ⟨3, 0, 0, 0⟩) rfl (by decide) ((av_addp ⟨3, 0, 0, 0⟩ (nval a) (by decide) rfl).trans (moved_out _ _ (by show a < _ ∨ _ < a ∨ 0 + a < _ ∨ _ < 0 + a; omega))) (by decide)
    exact ⟨_, e0.trans (e1.trans e2), fun h => absurd h (by decide)⟩
  · rw [if_neg ha]
    have e2 : runF ⟨[], [], mvc a b⟩ 1048574 (stq (((rg0 0).set 4 ⟨3, 0, 0, 0⟩).set 3 (nval a)) 2 2) = runF ⟨[], [], mvc a b⟩ 1048573 (stq ((((rg0 0).set 4 ⟨3, 0, 0, 0⟩).set 3 (nval a)).set 4 ⟨3, 0, 0, 0 + a⟩) 3 3) :=
      q_arith (m := 1048573) (i := insOp 1 4 3) (v := ⟨3, 0, 0, 0 + a⟩) rfl (by decide) ((av_addp ⟨3, 0, 0, 0⟩ (nval a) (by decide) rfl).trans (moved_in _ _ (by show _ ≤ 0 + a ∧ 0 + a ≤ _; omega) (by show _ ≤ a ∧ a ≤ _; omega))) (by simp [mvc])
    have e3 : runF ⟨[], [], mvc a b⟩ 1048573 (stq ((((rg0 0).set 4 ⟨3, 0, 0, 0⟩).set 3 (nval a)).set 4 ⟨3, 0, 0, 0 + a⟩) 3 3) = runF ⟨[], [], mvc a b⟩ 1048572 (stq (((((rg0 0).set 4 ⟨3, 0, 0, 0⟩).set 3 (nval a)).set 4 ⟨3, 0, 0, 0 + a⟩).set 3 (nval b)) 4 4) :=
      q_wide (m := 1048572) (d := 3) (y := b) rfl (by simp [mvc])
    have hsub := av_subp ⟨3, 0, 0, 0 + a⟩ (nval b) (by show (2 : Int) ≤ 3; decide) rfl
    by_cases hb : b < -4194304 ∨ 4194304 < b ∨ a - b < -1048576 ∨ 1048576 < a - b
    · rw [if_pos hb]
      have e4 : runF ⟨[], [], mvc a b⟩ 1048572 (stq (((((rg0 0).set 4 ⟨3, 0, 0, 0⟩).set 3 (nval a)).set 4 ⟨3, 0, 0, 0 + a⟩).set 3 (nval b)) 4 4) = (85, stq (((((rg0 0).set 4 ⟨3, 0, 0, 0⟩).set 3 (nval a)).set 4 ⟨3, 0, 0, 0 + a⟩).set 3 (nval b)) 4 4) := by
        refine q_trap (m := 1048571) (i := insOp 2 4 3) (v := ⟨3, 0, 0, 0 + a⟩) rfl (by decide) (hsub.trans ?_) (by decide)
        show (if b < -2097152 then _ else movedF _ (-b)) = _
        split
        · rfl
        · exact moved_out _ _ (by show -b < _ ∨ _ < -b ∨ 0 + a + -b < _ ∨ _ < 0 + a + -b; omega)
      exact ⟨_, e0.trans (e1.trans (e2.trans (e3.trans e4))), fun h => absurd h (by decide)⟩
    · rw [if_neg hb]
      have e4 : runF ⟨[], [], mvc a b⟩ 1048572 (stq (((((rg0 0).set 4 ⟨3, 0, 0, 0⟩).set 3 (nval a)).set 4 ⟨3, 0, 0, 0 + a⟩).set 3 (nval b)) 4 4) = runF ⟨[], [], mvc a b⟩ 1048571 (stq ((((((rg0 0).set 4 ⟨3, 0, 0, 0⟩).set 3 (nval a)).set 4 ⟨3, 0, 0, 0 + a⟩).set 3 (nval b)).set 4 ⟨3, 0, 0, 0 + a + -b⟩) 5 5) := by
        refine q_arith (m := 1048571) (i := insOp 2 4 3) (v := ⟨3, 0, 0, 0 + a + -b⟩) rfl (by decide) (hsub.trans ?_) (by simp [mvc])
        show (if b < -2097152 then _ else movedF _ (-b)) = _
        rw [if_neg (by omega)]
        exact moved_in _ _ (by show _ ≤ 0 + a + -b ∧ 0 + a + -b ≤ _; omega) (by show _ ≤ -b ∧ -b ≤ _; omega)
      have e5 : runF ⟨[], [], mvc a b⟩ 1048571 (stq ((((((rg0 0).set 4 ⟨3, 0, 0, 0⟩).set 3 (nval a)).set 4 ⟨3, 0, 0, 0 + a⟩).set 3 (nval b)).set 4 ⟨3, 0, 0, 0 + a + -b⟩) 5 5) = runF ⟨[], [], mvc a b⟩ 1048570 (stq (((((((rg0 0).set 4 ⟨3, 0, 0, 0⟩).set 3 (nval a)).set 4 ⟨3, 0, 0, 0 + a⟩).set 3 (nval b)).set 4 ⟨3, 0, 0, 0 + a + -b⟩).set 4 (nval (0 + a + -b - 0))) 6 6) :=
        q_arith (m := 1048570) (i := insOp 2 4 1) (v := nval (0 + a + -b - 0)) rfl (by decide) (av_subd ⟨3, 0, 0, 0 + a + -b⟩ ⟨3, 0, 0, 0⟩ rfl) (by simp [mvc])
      have e6 : runF ⟨[], [], mvc a b⟩ 1048570 (stq (((((((rg0 0).set 4 ⟨3, 0, 0, 0⟩).set 3 (nval a)).set 4 ⟨3, 0, 0, 0 + a⟩).set 3 (nval b)).set 4 ⟨3, 0, 0, 0 + a + -b⟩).set 4 (nval (0 + a + -b - 0))) 6 6) = runF ⟨[], [], mvc a b⟩ 1048569 (stq ((((((((rg0 0).set 4 ⟨3, 0, 0, 0⟩).set 3 (nval a)).set 4 ⟨3, 0, 0, 0 + a⟩).set 3 (nval b)).set 4 ⟨3, 0, 0, 0 + a + -b⟩).set 4 (nval (0 + a + -b - 0))).set 0 (nval (0 + a + -b - 0))) 7 7) :=
        q_arith (m := 1048569) (i := insMov 0 4) (v := nval (0 + a + -b - 0)) rfl (by decide) (av_mov _ (nval (0 + a + -b - 0)) (by show (1 : Int) ≠ 0; decide)) (by simp [mvc])
      have e7 := q_exit (fx := ⟨[], [], mvc a b⟩) (sl := List.replicate 32 noslot) (ctx := []) (rg := (((((((rg0 0).set 4 ⟨3, 0, 0, 0⟩).set 3 (nval a)).set 4 ⟨3, 0, 0, 0 + a⟩).set 3 (nval b)).set 4 ⟨3, 0, 0, 0 + a + -b⟩).set 4 (nval (0 + a + -b - 0))).set 0 (nval (0 + a + -b - 0))) (k := 7) (n := 7) (m := 1048568) rfl rfl
      exact ⟨_, e0.trans (e1.trans (e2.trans (e3.trans (e4.trans (e5.trans (e6.trans e7)))))), fun _ => by show 0 + a + -b - 0 = a - b; omega⟩
theorem moves_runs (a b : Int) (ha : i64r a) (hb : i64r b) (ca : Option Addr) (cc : Nat) (w : World) (hc : Coded w (.slice ca 8 cc) (mvc a b)) : Calls Tryz.prog 9 #[.slice ca 8 cc, .slice none 0 0] w (SeenR w (movesF a b).2 (movesF a b).1) := by
  obtain ⟨s2, h1, h2⟩ := moves_run a b
  refine runs_r0 (mvc a b) (mvc_ok a b ha hb) _ s2 h1 _ h2 (fun h => ?_) ca cc 8 rfl w hc
  unfold movesF at h ⊢
  split
  · rfl
  · split
    · rfl
    · rename_i h1 h2
      rw [if_neg h1, if_neg h2] at h
      exact absurd rfl h
/-- The program that holds two pointers against each other. -/
def odc (op a b : Int) : List Ins := [insMov 4 1, insOpi 1 4 a, insOpi 1 1 b, insMovi 0 1, ⟨op, false, true, 0, 4, 1, 1, 0⟩, insMovi 0 0, insExit]
theorem odc_ok (op a b : Int) (hop : 27 ≤ op ∧ op ≤ 37) (ha : -1048576 ≤ a ∧ a ≤ 1048576) (hb : -1048576 ≤ b ∧ b ≤ 1048576) : ProgOK (odc op a b) := by
  refine ⟨⟨by simp [odc], by simp [odc]⟩, fun i hi => ?_, fun k i hi hk => ?_⟩
  · simp only [odc, List.mem_cons, List.not_mem_nil, or_false] at hi
    rcases hi with rfl | rfl | rfl | rfl | rfl | rfl | rfl
    · exact ⟨right_movr 4 1 (by decide) (by decide), zero_r, Or.inl (by decide)⟩
    · exact ⟨right_addi 1 4 a (Or.inl rfl) (by decide) (by omega), by show i64r a; unfold i64r; omega, Or.inl (by show (1 : Int) ≤ 15; decide)⟩
    · exact ⟨right_addi 1 1 b (Or.inl rfl) (by decide) (by omega), by show i64r b; unfold i64r; omega, Or.inl (by show (1 : Int) ≤ 15; decide)⟩
    · exact ⟨right_addi 15 0 1 (Or.inr (Or.inr rfl)) (by decide) (by decide), by show i64r 1; unfold i64r; decide, Or.inl (by show (15 : Int) ≤ 15; decide)⟩
    · exact ⟨right_jr op false 4 1 1 hop (by decide) (by decide) (by decide), zero_r, Or.inr (Or.inr (Or.inr (Or.inl (by show 26 ≤ op ∧ op ≤ 37; omega))))⟩
    · exact ⟨right_addi 15 0 0 (Or.inr (Or.inr rfl)) (by decide) (by decide), zero_r, Or.inl (by show (15 : Int) ≤ 15; decide)⟩
    · exact ⟨right_exit, zero_r, Or.inr (Or.inr (Or.inr (Or.inr rfl)))⟩
  · have : k = 6 := by simp [odc] at hk; omega
    subst this
    have : i = insExit := by simpa [odc] using hi.symm
    subst this
    exact Or.inr rfl
def sgnOp (op : Int) : Int := if 29 ≤ op ∧ op ≤ 32 then op + 4 else op
theorem od_run (op a b : Int) (hop : 27 ≤ op ∧ op ≤ 36) (ha : -1048576 ≤ a ∧ a ≤ 1048576) (hb : -1048576 ≤ b ∧ b ≤ 1048576) :
    ∃ s2, runF ⟨[], [], odc op a b⟩ 1048576 (st0 []) = (0, s2) ∧ (s2.reg 0).x = (if holdF (sgnOp op) false a b then 1 else 0) := by
  have hw : wideop op = false := by unfold wideop; simp; omega
  have e0 : runF ⟨[], [], odc op a b⟩ 1048576 (stq (rg0 0) 0 0) = runF ⟨[], [], odc op a b⟩ 1048575 (stq ((rg0 0).set 4 ⟨3, 0, 0, 0⟩) 1 1) :=
    q_arith (m := 1048575) (i := insMov 4 1) (v := ⟨3, 0, 0, 0⟩) rfl (by decide) (av_mov _ _ (by decide)) (by simp [odc])
  have e1 : runF ⟨[], [], odc op a b⟩ 1048575 (stq ((rg0 0).set 4 ⟨3, 0, 0, 0⟩) 1 1) = runF ⟨[], [], odc op a b⟩ 1048574 (stq (((rg0 0).set 4 ⟨3, 0, 0, 0⟩).set 4 ⟨3, 0, 0, 0 + a⟩) 2 2) :=
    q_arith (m := 1048574) (i := insOpi 1 4 a) (v := ⟨3, 0, 0, 0 + a⟩) rfl (by show (1 : Int) ≤ 15; decide) ((av_addp ⟨3, 0, 0, 0⟩ (nval a) (by decide) rfl).trans (moved_in _ _ (by show _ ≤ 0 + a ∧ 0 + a ≤ _; omega) (by show _ ≤ a ∧ a ≤ _; omega))) (by simp [odc])
  have e2 : runF ⟨[], [], odc op a b⟩ 1048574 (stq (((rg0 0).set 4 ⟨3, 0, 0, 0⟩).set 4 ⟨3, 0, 0, 0 + a⟩) 2 2) = runF ⟨[], [], odc op a b⟩ 1048573 (stq ((((rg0 0).set 4 ⟨3, 0, 0, 0⟩).set 4 ⟨3, 0, 0, 0 + a⟩).set 1 ⟨3, 0, 0, 0 + b⟩) 3 3) :=
    q_arith (m := 1048573) (i := insOpi 1 1 b) (v := ⟨3, 0, 0, 0 + b⟩) rfl (by show (1 : Int) ≤ 15; decide) ((av_addp ⟨3, 0, 0, 0⟩ (nval b) (by decide) rfl).trans (moved_in _ _ (by show _ ≤ 0 + b ∧ 0 + b ≤ _; omega) (by show _ ≤ b ∧ b ≤ _; omega))) (by simp [odc])
  have e3 : runF ⟨[], [], odc op a b⟩ 1048573 (stq ((((rg0 0).set 4 ⟨3, 0, 0, 0⟩).set 4 ⟨3, 0, 0, 0 + a⟩).set 1 ⟨3, 0, 0, 0 + b⟩) 3 3) = runF ⟨[], [], odc op a b⟩ 1048572 (stq (((((rg0 0).set 4 ⟨3, 0, 0, 0⟩).set 4 ⟨3, 0, 0, 0 + a⟩).set 1 ⟨3, 0, 0, 0 + b⟩).set 0 (nval 1)) 4 4) :=
    q_arith (m := 1048572) (i := insMovi 0 1) (v := nval 1) rfl (by show (15 : Int) ≤ 15; decide) (av_mov _ (nval 1) (by decide)) (by simp [odc])
  have hbr : branchV ⟨op, false, true, 0, 4, 1, 1, 0⟩ ⟨3, 0, 0, 0 + a⟩ ⟨3, 0, 0, 0 + b⟩ = (holdF (sgnOp op) false a b, 0) := by
    unfold branchV
    rw [if_neg (fun h => absurd (show (3 : Int) = 1 from h.1) (by decide)), if_neg (by rintro (h | h | h); exact Bool.false_ne_true h; exact absurd (show (3 : Int) = 0 from h) (by decide); exact absurd (show (3 : Int) = 0 from h) (by decide)), if_pos ⟨rfl, by show op ≠ 37; omega⟩]
    show (holdF (sgnOp op) false (0 + a) (0 + b), (0 : Int)) = _
    rw [Int.zero_add, Int.zero_add]
  cases hh : holdF (sgnOp op) false a b with
  | true =>
    rw [hh] at hbr
    have hu : (unitAt (odc op a b) 6 : Int) = (unitAt (odc op a b) 5 : Int) + 1 := by
      simp [unitAt, odc, insMovi, wideop]
    have e4 := q_jump (fx := ⟨[], [], odc op a b⟩) (sl := List.replicate 32 noslot) (ctx := []) (rg := ((((rg0 0).set 4 ⟨3, 0, 0, 0⟩).set 4 ⟨3, 0, 0, 0 + a⟩).set 1 ⟨3, 0, 0, 0 + b⟩).set 0 (nval 1)) (k := 4) (n := 4) (m := 1048571) (i := ⟨op, false, true, 0, 4, 1, 1, 0⟩) rfl (by show 27 ≤ op ∧ op ≤ 37; omega) hbr 6 (by simp [odc]) hu
    have e5 := q_exit (fx := ⟨[], [], odc op a b⟩) (sl := List.replicate 32 noslot) (ctx := []) (rg := ((((rg0 0).set 4 ⟨3, 0, 0, 0⟩).set 4 ⟨3, 0, 0, 0 + a⟩).set 1 ⟨3, 0, 0, 0 + b⟩).set 0 (nval 1)) (k := 6) (n := 4 + 1) (m := 1048570) rfl rfl
    exact ⟨_, e0.trans (e1.trans (e2.trans (e3.trans (e4.trans e5)))), rfl⟩
  | false =>
    rw [hh] at hbr
    have e4 := q_stay (fx := ⟨[], [], odc op a b⟩) (sl := List.replicate 32 noslot) (ctx := []) (rg := ((((rg0 0).set 4 ⟨3, 0, 0, 0⟩).set 4 ⟨3, 0, 0, 0 + a⟩).set 1 ⟨3, 0, 0, 0 + b⟩).set 0 (nval 1)) (k := 4) (n := 4) (m := 1048571) (i := ⟨op, false, true, 0, 4, 1, 1, 0⟩) rfl (by show 27 ≤ op ∧ op ≤ 37; omega) hbr (by simp [odc])
    have e5 := q_arith (fx := ⟨[], [], odc op a b⟩) (sl := List.replicate 32 noslot) (ctx := []) (rg := ((((rg0 0).set 4 ⟨3, 0, 0, 0⟩).set 4 ⟨3, 0, 0, 0 + a⟩).set 1 ⟨3, 0, 0, 0 + b⟩).set 0 (nval 1)) (k := 5) (n := 4 + 1) (m := 1048570) (i := insMovi 0 0) (v := nval 0) rfl (by show (15 : Int) ≤ 15; decide) (av_mov _ (nval 0) (by decide)) (by simp [odc])
    have e6 := q_exit (fx := ⟨[], [], odc op a b⟩) (sl := List.replicate 32 noslot) (ctx := []) (rg := (((((rg0 0).set 4 ⟨3, 0, 0, 0⟩).set 4 ⟨3, 0, 0, 0 + a⟩).set 1 ⟨3, 0, 0, 0 + b⟩).set 0 (nval 1)).set 0 (nval 0)) (k := 6) (n := 4 + 1 + 1) (m := 1048569) rfl rfl
    exact ⟨_, e0.trans (e1.trans (e2.trans (e3.trans (e4.trans (e5.trans e6))))), rfl⟩
theorem od_runs (op a b : Int) (hop : 27 ≤ op ∧ op ≤ 36) (ha : -1048576 ≤ a ∧ a ≤ 1048576) (hb : -1048576 ≤ b ∧ b ≤ 1048576) (ca : Option Addr) (cc : Nat) (w : World) (hc : Coded w (.slice ca 7 cc) (odc op a b)) :
    Calls Tryz.prog 9 #[.slice ca 7 cc, .slice none 0 0] w (SeenR w 0 (if holdF (sgnOp op) false a b then 1 else 0)) := by
  obtain ⟨s2, h1, h2⟩ := od_run op a b hop ha hb
  exact runs_r0 (odc op a b) (odc_ok op a b (by omega) ha hb) _ s2 h1 _ (fun _ => h2) (fun h => absurd rfl h) ca cc 7 rfl w hc
end Go.Proofs.YtdepknffpnnmmaaGreat

