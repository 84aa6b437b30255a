/-
  MachPointers' programs, run.
-/
import Derived.Test.YtdepknffpnnmmaaGreatMachBN
import Derived.Test.YtdepknffpnnmmaaGreatBackA
namespace Go.Proofs.YtdepknffpnnmmaaGreat
open Go.RowKit
set_option linter.unusedVariables false
set_option linter.unusedSimpArgs false

/-- Which registers hold a pointer, and which. -/
def SrcM (src : Int) : Prop := src = 1 ∨ src = 10 ∨ src = 4
def pvF (src o : Int) : Val := if src = 1 then ⟨3, 0, 0, 0⟩ else if src = 10 then ⟨2, 0, 0, 256⟩ else ⟨2, 0, 0, 256 + -o⟩
/-- The registers behind the first two instructions. -/
def rgp (n : Nat) (o : Int) : List Val := ((rg0 n).set 4 ⟨2, 0, 0, 256⟩).set 4 ⟨2, 0, 0, 256 + -o⟩
abbrev rep0 : List Slot := List.replicate 32 noslot
theorem pv_reg {src o : Int} (h : SrcM src) (sl : List Slot) (ctx : List Int) (n k : Nat) (m : Int) : (stm sl ctx (rgp n o) k m).reg src = pvF src o := by
  rcases h with rfl | rfl | rfl <;> rfl
theorem pv_reg5 {src o : Int} (h : SrcM src) (v : Val) (sl : List Slot) (ctx : List Int) (n k : Nat) (m : Int) : (stm sl ctx ((rgp n o).set 5 v) k m).reg src = pvF src o := by
  rcases h with rfl | rfl | rfl <;> rfl
theorem pv_k {src : Int} (o : Int) (h : SrcM src) : (pvF src o).k = 2 ∨ (pvF src o).k = 3 := by
  rcases h with rfl | rfl | rfl
  · exact Or.inr rfl
  · exact Or.inl rfl
  · exact Or.inl rfl
theorem pv_alike {src : Int} (o : Int) (h : SrcM src) : alikeF (pvF src o) (pvF src o) = true := by
  rcases h with rfl | rfl | rfl <;> rfl
def slp (k : Nat) (src o : Int) : List Slot := rep0.set k ⟨pvF src o, [0, 0, 0, 0, 0, 0, 0, 0], 0⟩
section
variable {fx : Mfix} {src o : Int} {ctx : List Int}
theorem spill2 (ho : 0 ≤ o ∧ o ≤ 999) (h0 : fx.code[0]? = some (insMov 4 10)) (h1 : fx.code[1]? = some (insOpi 1 4 (-o))) (hl : 2 < fx.code.length) :
    runF fx 1048576 (st0 ctx) = runF fx 1048574 (stm rep0 ctx (rgp ctx.length o) 2 2) := by
  have e0 : runF fx 1048576 (stm rep0 ctx (rg0 ctx.length) 0 0) = runF fx 1048575 (stm rep0 ctx ((rg0 ctx.length).set 4 ⟨2, 0, 0, 256⟩) 1 1) :=
    q_arith (m := 1048575) (i := insMov 4 10) (v := ⟨2, 0, 0, 256⟩) h0 (by decide) (av_mov _ ⟨2, 0, 0, 256⟩ (by decide)) (by omega)
  have e1 : runF fx 1048575 (stm rep0 ctx ((rg0 ctx.length).set 4 ⟨2, 0, 0, 256⟩) 1 1) = runF fx 1048574 (stm rep0 ctx (rgp ctx.length o) 2 2) :=
    q_arith (m := 1048574) (i := insOpi 1 4 (-o)) (v := ⟨2, 0, 0, 256 + -o⟩) h1 (by show (1 : Int) ≤ 15; decide) ((av_addp ⟨2, 0, 0, 256⟩ (nval (-o)) (by decide) rfl).trans (moved_in _ _ (by show _ ≤ 256 + -o ∧ 256 + -o ≤ _; omega) (by show _ ≤ -o ∧ -o ≤ _; omega))) (by omega)
  exact e0.trans e1
theorem win10 (sl : List Slot) (c : List Int) (rg : List Val) (j : Nat) (n q sz : Int) : withinF fx (stm sl c rg j n) ⟨2, 0, 0, 256⟩ (256 + q) sz = (decide (0 ≤ 256 + q) && decide (256 + q + sz ≤ 256)) := rfl
theorem win10t (sl : List Slot) (c : List Int) (rg : List Val) (j : Nat) (n q sz : Int) (h : 0 ≤ 256 + q ∧ 256 + q + sz ≤ 256) : withinF fx (stm sl c rg j n) ⟨2, 0, 0, 256⟩ (256 + q) sz = true := by
  rw [win10, decide_eq_true h.1, decide_eq_true h.2]
  rfl
theorem pv_sec (hs : SrcM src) (sl : List Slot) (n k : Nat) (m sz dd off : Int) : (stm sl ctx (rgp n o) k m).sec ⟨24, false, true, sz, dd, src, off, 0⟩ = pvF src o := pv_reg hs _ _ _ _ _
theorem spill3 (hs : SrcM src) (ho : 0 ≤ o ∧ o ≤ 999) (k : Nat) (hk : k < 32) (h0 : fx.code[0]? = some (insMov 4 10)) (h1 : fx.code[1]? = some (insOpi 1 4 (-o))) (h2 : fx.code[2]? = some (insStore 8 10 src (8 * (k : Int) - 256))) (hl : 3 < fx.code.length) :
    runF fx 1048576 (st0 ctx) = runF fx 1048573 (stm (slp k src o) ctx (rgp ctx.length o) 3 3) := by
  refine (spill2 ho h0 h1 (by omega)).trans ?_
  refine q_store (m := 1048573) (i := insStore 8 10 src (8 * (k : Int) - 256)) h2 rfl ?_ hl
  have hpk := pv_k o hs
  refine (store_ptr ⟨2, 0, 0, 256⟩ (pvF src o) rfl (pv_sec hs _ _ _ _ _ _ _) rfl (by omega) rfl (by show (256 + (8 * (k : Int) - 256)) % 8 = 0; omega) (win10t _ _ _ _ _ (8 * (k : Int) - 256) 8 (by omega))).trans ?_
  show Did.mk 0 0 { stm _ _ _ _ _ with sl := rep0.set ((256 + (8 * (k : Int) - 256)).toNat / 8) _ } = _
  rw [show (256 + (8 * (k : Int) - 256)).toNat / 8 = k by omega]
  rfl
end
theorem slp_slot (k : Nat) (hk : k < 32) (src o : Int) (j : Nat) : slotF (slp k src o) j = if j / 8 = k then ⟨pvF src o, [0, 0, 0, 0, 0, 0, 0, 0], 0⟩ else noslot := by
  unfold slp
  rw [slotF_set _ _ _ _ (by simp; exact hk)]
  split
  · rfl
  · unfold slotF
    rw [List.getD_eq_getElem?_getD]
    by_cases h : j / 8 < 32
    · rw [List.getElem?_replicate, if_pos h]; rfl
    · rw [List.getElem?_replicate, if_neg h]; rfl
/-- Written over by bytes. -/
theorem slp_over (k : Nat) (hk : k < 32) (src o : Int) (hs : SrcM src) (a : Nat) (ha : a / 8 = k) (c : Int) (b : List Int) : wrF (slp k src o) a (c :: b) = wrF rep0 a (c :: b) := by
  have hpk := pv_k o hs
  unfold slp
  rw [wrF_ptr rep0 k a _ c b (by show (pvF src o).k ≠ 0; omega) ha (by simp; exact hk)]
  have e : rep0.set k noslot = rep0 := by
    apply List.ext_getElem
    · simp
    · intro i h1 h2
      rw [List.getElem_set]
      split
      · rw [List.getElem_replicate]
      · rfl
  rw [e]
/-- Touched by parts. -/
theorem slp_kind (k : Nat) (hk : k < 32) (src o : Int) (hs : SrcM src) (a n i : Nat) (hi : i < n) (ha : (a + i) / 8 = k) : readyF (slp k src o) a n = 80 := by
  have hpk := pv_k o hs
  unfold readyF
  rw [if_pos]
  rw [List.any_eq_true]
  refine ⟨i, List.mem_range.2 hi, ?_⟩
  rw [slp_slot k hk, if_pos ha]
  show ((pvF src o).k != 0) = true
  rw [bne_iff_ne]
  omega
/-- The programs. -/
def pb (src o a : Int) : List Ins := [insMov 4 10, insOpi 1 4 (-o), insStore 8 10 src a, insLoad 22 8 5 10 a, insOp 2 5 src, insMov 0 5, insExit]
def po (src o a : Int) (x y : Ins) : List Ins := [insMov 4 10, insOpi 1 4 (-o), insStore 8 10 src a, x, y, insExit]
def pl (o : Int) (x : Ins) : List Ins := [insMov 4 10, insOpi 1 4 (-o), x, insMovi 0 1, insExit]
def pt (src o : Int) : List Ins := [insMov 4 10, insOpi 1 4 (-o), insMov 0 src, insExit]
def insStorei (k : Nat) (d off imm : Int) : Ins := ⟨24, false, false, k, d, 0, off, imm⟩
def GI (i : Ins) : Prop := i.right = 0 ∧ i64r i.imm ∧ Known i.op
theorem gi_movr (d s : Int) (hd : 0 ≤ d ∧ d ≤ 9) (hs : 0 ≤ s ∧ s ≤ 10) : GI (insMov d s) := ⟨right_movr d s hd hs, zero_r, Or.inl (by show (15 : Int) ≤ 15; decide)⟩
theorem gi_addi (o : Int) (ho : 0 ≤ o ∧ o ≤ 999) : GI (insOpi 1 4 (-o)) := ⟨right_addi 1 4 (-o) (Or.inl rfl) (by decide) (by omega), by unfold i64r insOpi; simp only; omega, Or.inl (by show (1 : Int) ≤ 15; decide)⟩
theorem gi_store (k : Nat) (d s off : Int) (hk : SizeM k) (hd : 0 ≤ d ∧ d ≤ 10) (hs : 0 ≤ s ∧ s ≤ 10) (ho : -32768 ≤ off ∧ off < 32768) : GI (insStore k d s off) :=
  ⟨right_store k d s off (by unfold SizeM at hk; omega) hd hs ho, zero_r, Or.inr (Or.inr (Or.inl (by show (22 : Int) ≤ 24 ∧ (24 : Int) ≤ 24; decide)))⟩
theorem gi_storei (k : Nat) (d off imm : Int) (hk : SizeM k) (hd : 0 ≤ d ∧ d ≤ 10) (ho : -32768 ≤ off ∧ off < 32768) (hi : -2147483648 ≤ imm ∧ imm ≤ 2147483647) : GI (insStorei k d off imm) :=
  ⟨right_storei k d off imm (by unfold SizeM at hk; omega) hd ho hi, by unfold i64r insStorei; simp only; omega, Or.inr (Or.inr (Or.inl (by show (22 : Int) ≤ 24 ∧ (24 : Int) ≤ 24; decide)))⟩
theorem gi_load (k : Nat) (d s off : Int) (hk : SizeM k) (hd : 0 ≤ d ∧ d ≤ 9) (hs : 0 ≤ s ∧ s ≤ 10) (ho : -32768 ≤ off ∧ off < 32768) : GI (insLoad 22 k d s off) :=
  ⟨right_load 22 k d s off (Or.inl ⟨rfl, by unfold SizeM at hk; omega⟩) hd hs ho, zero_r, Or.inr (Or.inr (Or.inl (by show (22 : Int) ≤ 22 ∧ (22 : Int) ≤ 24; decide)))⟩
theorem gi_sub (src : Int) (hs : SrcM src) : GI (insOp 2 5 src) := ⟨right_add2 2 5 src (Or.inr rfl) (by decide) (by unfold SrcM at hs; omega), zero_r, Or.inl (by show (2 : Int) ≤ 15; decide)⟩
theorem gi_movi (d y : Int) (hd : 0 ≤ d ∧ d ≤ 9) (hy : -2147483648 ≤ y ∧ y ≤ 2147483647) : GI (insMovi d y) := ⟨right_addi 15 d y (Or.inr (Or.inr rfl)) hd hy, by unfold i64r insMovi; simp only; omega, Or.inl (by show (15 : Int) ≤ 15; decide)⟩
theorem gi_exit : GI insExit := ⟨right_exit, zero_r, Or.inr (Or.inr (Or.inr (Or.inr rfl)))⟩
theorem prog_ok (l : List Ins) (hl : l.length < 4096) (h : ∀ i ∈ l, GI i) : ProgOK (l ++ [insExit]) := by
  refine ⟨⟨by simp, by simp; omega⟩, fun i hi => ?_, fun j i hi hj => ?_⟩
  · rcases List.mem_append.1 hi with h' | h'
    · exact h i h'
    · rw [List.mem_singleton.1 h']; exact gi_exit
  · have : j = l.length := by simp at hj; omega
    subst this
    rw [List.getElem?_append_right (Nat.le_refl _), Nat.sub_self] at hi
    have : i = insExit := by simpa using hi.symm
    subst this
    exact Or.inr rfl
theorem SrcM.r {src : Int} (h : SrcM src) : 0 ≤ src ∧ src ≤ 10 := by unfold SrcM at h; omega
theorem pb_ok {src o a : Int} (hs : SrcM src) (ho : 0 ≤ o ∧ o ≤ 999) (ha : -32768 ≤ a ∧ a < 32768) : ProgOK (pb src o a) := by
  refine prog_ok [insMov 4 10, insOpi 1 4 (-o), insStore 8 10 src a, insLoad 22 8 5 10 a, insOp 2 5 src, insMov 0 5] (by simp) fun i hi => ?_
  simp only [List.mem_cons, List.not_mem_nil, or_false] at hi
  rcases hi with rfl | rfl | rfl | rfl | rfl | rfl
  · exact gi_movr 4 10 (by decide) (by decide)
  · exact gi_addi o ho
  · exact gi_store 8 10 src a (by unfold SizeM; omega) (by decide) hs.r ha
  · exact gi_load 8 5 10 a (by unfold SizeM; omega) (by decide) (by decide) ha
  · exact gi_sub src hs
  · exact gi_movr 0 5 (by decide) (by decide)
theorem po_ok {src o a : Int} {x y : Ins} (hs : SrcM src) (ho : 0 ≤ o ∧ o ≤ 999) (ha : -32768 ≤ a ∧ a < 32768) (hx : GI x) (hy : GI y) : ProgOK (po src o a x y) := by
  refine prog_ok [insMov 4 10, insOpi 1 4 (-o), insStore 8 10 src a, x, y] (by simp) fun i hi => ?_
  simp only [List.mem_cons, List.not_mem_nil, or_false] at hi
  rcases hi with rfl | rfl | rfl | rfl | rfl
  · exact gi_movr 4 10 (by decide) (by decide)
  · exact gi_addi o ho
  · exact gi_store 8 10 src a (by unfold SizeM; omega) (by decide) hs.r ha
  · exact hx
  · exact hy
theorem pl_ok {o : Int} {x : Ins} (ho : 0 ≤ o ∧ o ≤ 999) (hx : GI x) : ProgOK (pl o x) := by
  refine prog_ok [insMov 4 10, insOpi 1 4 (-o), x, insMovi 0 1] (by simp) fun i hi => ?_
  simp only [List.mem_cons, List.not_mem_nil, or_false] at hi
  rcases hi with rfl | rfl | rfl | rfl
  · exact gi_movr 4 10 (by decide) (by decide)
  · exact gi_addi o ho
  · exact hx
  · exact gi_movi 0 1 (by decide) (by decide)
theorem pt_ok {src o : Int} (hs : SrcM src) (ho : 0 ≤ o ∧ o ≤ 999) : ProgOK (pt src o) := by
  refine prog_ok [insMov 4 10, insOpi 1 4 (-o), insMov 0 src] (by simp) fun i hi => ?_
  simp only [List.mem_cons, List.not_mem_nil, or_false] at hi
  rcases hi with rfl | rfl | rfl
  · exact gi_movr 4 10 (by decide) (by decide)
  · exact gi_addi o ho
  · exact gi_movr 0 src (by decide) hs.r
/-- There and back. -/
theorem pb_run {src o : Int} (hs : SrcM src) (ho : 0 ≤ o ∧ o ≤ 999) (k : Nat) (hk : k < 32) (ctx : List Int) :
    ∃ s2, runF ⟨[], [], pb src o (8 * (k : Int) - 256)⟩ 1048576 (st0 ctx) = (0, s2) ∧ (s2.reg 0).x = 0 ∧ s2.ctx = ctx := by
  obtain ⟨fx, hfx⟩ : ∃ fx : Mfix, fx = ⟨[], [], pb src o (8 * (k : Int) - 256)⟩ := ⟨_, rfl⟩
  have hc : fx.code = pb src o (8 * (k : Int) - 256) := by rw [hfx]
  have hcl : fx.code.length = 7 := by rw [hc]; rfl
  rw [← hfx]
  have hpk := pv_k o hs
  have e0 := spill3 (ctx := ctx) hs ho k hk (show fx.code[0]? = some (insMov 4 10) by rw [hc]; rfl) (show fx.code[1]? = _ by rw [hc]; rfl) (show fx.code[2]? = _ by rw [hc]; rfl) (by omega)
  have hsl : (slotF (slp k src o) (256 + (8 * (k : Int) - 256)).toNat).p = pvF src o := by
    rw [slp_slot k hk, if_pos (by omega)]
  have e1 : runF fx 1048573 (stm (slp k src o) ctx (rgp ctx.length o) 3 3) = runF fx 1048572 (stm (slp k src o) ctx ((rgp ctx.length o).set 5 (pvF src o)) 4 4) := by
    refine q_load (m := 1048572) (i := insLoad 22 8 5 10 (8 * (k : Int) - 256)) (by rw [hc]; rfl) (Or.inl rfl) ?_ (by omega)
    refine (load_ptr ⟨2, 0, 0, 256⟩ rfl rfl rfl rfl (by show (256 + (8 * (k : Int) - 256)) % 8 = 0; omega) (win10t _ _ _ _ _ (8 * (k : Int) - 256) 8 (by omega)) (by show 2 ≤ (slotF (slp k src o) (256 + (8 * (k : Int) - 256)).toNat).p.k; rw [hsl]; omega)).trans ?_
    show Did.mk 0 0 ((stm _ _ _ _ _).setr 5 (slotF (slp k src o) (256 + (8 * (k : Int) - 256)).toNat).p) = _
    rw [hsl]
    rfl
  have e2 : runF fx 1048572 (stm (slp k src o) ctx ((rgp ctx.length o).set 5 (pvF src o)) 4 4) = runF fx 1048571 (stm (slp k src o) ctx (((rgp ctx.length o).set 5 (pvF src o)).set 5 (nval ((pvF src o).x - (pvF src o).x))) 5 5) := by
    refine q_arith (m := 1048571) (i := insOp 2 5 src) (v := nval ((pvF src o).x - (pvF src o).x)) (by rw [hc]; rfl) (by show (2 : Int) ≤ 15; decide) ?_ (by omega)
    show arithV 2 false (pvF src o) ((stm _ _ _ _ _).reg src) = _
    rw [pv_reg5 hs]
    exact av_subd _ _ (pv_alike o hs)
  have e3 : runF fx 1048571 (stm (slp k src o) ctx (((rgp ctx.length o).set 5 (pvF src o)).set 5 (nval ((pvF src o).x - (pvF src o).x))) 5 5) = runF fx 1048570 (stm (slp k src o) ctx ((((rgp ctx.length o).set 5 (pvF src o)).set 5 (nval ((pvF src o).x - (pvF src o).x))).set 0 (nval ((pvF src o).x - (pvF src o).x))) 6 6) :=
    q_arith (m := 1048570) (i := insMov 0 5) (v := nval ((pvF src o).x - (pvF src o).x)) (by rw [hc]; rfl) (by decide) (av_mov _ (nval ((pvF src o).x - (pvF src o).x)) (by show (1 : Int) ≠ 0; decide)) (by omega)
  have e4 := q_exit (fx := fx) (sl := slp k src o) (ctx := ctx) (rg := (((rgp ctx.length o).set 5 (pvF src o)).set 5 (nval ((pvF src o).x - (pvF src o).x))).set 0 (nval ((pvF src o).x - (pvF src o).x))) (k := 6) (n := 6) (m := 1048569) (by rw [hc]; rfl) rfl
  exact ⟨_, e0.trans (e1.trans (e2.trans (e3.trans e4))), by show (pvF src o).x - (pvF src o).x = 0; omega, rfl⟩
/-- Written over by bytes: these bytes are there, and no others. -/
theorem po_run {src o : Int} (hs : SrcM src) (ho : 0 ≤ o ∧ o ≤ 999) (k : Nat) (hk : k < 32) (sz j : Nat) (hsz : sz = 1 ∨ sz = 2 ∨ sz = 4) (hj : j + sz ≤ 8) (s2 j2 : Nat) (hs2 : SizeM s2) (hj2 : j2 + s2 ≤ 8) (h2 : s2 ≠ 8) (ctx : List Int) (y : Ins) (hy : y = insLoad 22 s2 0 10 (8 * (k : Int) - 256 + j2)) :
    ∃ sx, (s2 = sz → j2 = j → runF ⟨[], [], po src o (8 * (k : Int) - 256) (insStorei sz 10 (8 * (k : Int) - 256 + j) 77) y⟩ 1048576 (st0 ctx) = (0, sx) ∧ (sx.reg 0).x = 77) ∧
      (s2 = 1 → (j2 + 1 = j ∨ j = 0 ∧ j2 = 7) → runF ⟨[], [], po src o (8 * (k : Int) - 256) (insStorei sz 10 (8 * (k : Int) - 256 + j) 77) y⟩ 1048576 (st0 ctx) = (82, sx)) := by
  obtain ⟨fx, hfx⟩ : ∃ fx : Mfix, fx = ⟨[], [], po src o (8 * (k : Int) - 256) (insStorei sz 10 (8 * (k : Int) - 256 + j) 77) y⟩ := ⟨_, rfl⟩
  have hc : fx.code = po src o (8 * (k : Int) - 256) (insStorei sz 10 (8 * (k : Int) - 256 + j) 77) y := by rw [hfx]
  have hcl : fx.code.length = 6 := by rw [hc]; rfl
  rw [← hfx]
  have e0 := spill3 (ctx := ctx) hs ho k hk (show fx.code[0]? = some (insMov 4 10) by rw [hc]; rfl) (show fx.code[1]? = _ by rw [hc]; rfl) (show fx.code[2]? = _ by rw [hc]; rfl) (by omega)
  have hpl : (putl sz 77).length = sz := putl_length _ _
  have hcons : ∃ c b, putl sz 77 = c :: b := by
    cases hp : putl sz 77 with
    | nil => rw [hp] at hpl; simp at hpl; omega
    | cons c b => exact ⟨c, b, rfl⟩
  have hwr : wrF (slp k src o) (8 * k + j) (putl sz 77) = wrF rep0 (8 * k + j) (putl sz 77) := by
    obtain ⟨c, b, hcb⟩ := hcons
    rw [hcb]
    exact slp_over k hk src o hs _ (by omega) c b
  obtain ⟨h1, h3⟩ := read_back bare0 (8 * k + j) (putl sz 77) (by rw [hpl]; omega)
  obtain ⟨q1, q2, q3⟩ := wrF_bare (putl sz 77) _ (8 * k + j) bare0 (by rw [hpl]; omega)
  rw [hpl] at h1 h3 q2
  have e1 : runF fx 1048573 (stm (slp k src o) ctx (rgp ctx.length o) 3 3) = runF fx 1048572 (stm (wrF rep0 (8 * k + j) (putl sz 77)) ctx (rgp ctx.length o) 4 4) := by
    refine q_store (m := 1048572) (i := insStorei sz 10 (8 * (k : Int) - 256 + j) 77) (by rw [hc]; rfl) rfl ?_ (by omega)
    refine (store_num ⟨2, 0, 0, 256⟩ 77 rfl rfl (by decide) (by decide) (win10t _ _ _ _ _ (8 * (k : Int) - 256 + (j : Int)) (sz : Int) (by omega))).trans ?_
    show Did.mk 0 0 (writeF _ (stm _ _ _ _ _) ⟨2, 0, 0, 256⟩ (256 + (8 * (k : Int) - 256 + (j : Int))) (putl ((sz : Int)).toNat 77)) = _
    rw [Int.toNat_natCast, show 256 + (8 * (k : Int) - 256 + (j : Int)) = ((8 * k + j : Nat) : Int) by omega]
    unfold writeF
    rw [if_pos rfl, Int.toNat_natCast, ← hwr]
    rfl
  generalize wrF rep0 (8 * k + j) (putl sz 77) = W at *
  have hwin : withinF fx (stm W ctx (rgp ctx.length o) 4 4) ⟨2, 0, 0, 256⟩ (256 + (8 * (k : Int) - 256 + (j2 : Int))) (s2 : Int) = true :=
    win10t _ _ _ _ _ _ _ (by omega)
  have hnp : ¬((Val.mk 2 0 0 256).k = 2 ∧ y.op = 22 ∧ y.size = 8 ∧ ((Val.mk 2 0 0 256).x + y.off) % 8 = 0 ∧ 2 ≤ (slotF (stm W ctx (rgp ctx.length o) 4 4).sl ((Val.mk 2 0 0 256).x + y.off).toNat).p.k) := by
    rintro ⟨_, _, h8, _, _⟩
    rw [hy] at h8
    have : (s2 : Int) = 8 := h8
    omega
  have ha2 : 256 + (8 * (k : Int) - 256 + (j2 : Int)) = ((8 * k + j2 : Nat) : Int) := by omega
  by_cases hsame : s2 = sz ∧ j2 = j
  · obtain ⟨rfl, rfl⟩ := hsame
    have hrd : readableF (stm W ctx (rgp ctx.length o) 4 4) ⟨2, 0, 0, 256⟩ (256 + (8 * (k : Int) - 256 + (j2 : Int))) (s2 : Int) = 0 := by
      unfold readableF
      rw [if_neg (by decide), ha2, Int.toNat_natCast, Int.toNat_natCast]
      exact h3
    have hrf : readF fx (stm W ctx (rgp ctx.length o) 4 4) ⟨2, 0, 0, 256⟩ (256 + (8 * (k : Int) - 256 + (j2 : Int))) (s2 : Int) = putl s2 77 := by
      unfold readF
      rw [if_pos rfl, ha2, Int.toNat_natCast, Int.toNat_natCast]
      exact h1
    have hg : getv false (putl s2 77) = 77 := by
      rcases hsz with rfl | rfl | rfl
      · rw [(get_put 1 77 (by decide) (by decide)).1]; rfl
      · rw [(get_put 2 77 (by decide) (by decide)).1]; rfl
      · rw [(get_put 4 77 (by decide) (by decide)).1]; rfl
    have e2 : runF fx 1048572 (stm W ctx (rgp ctx.length o) 4 4) = runF fx 1048571 (stm W ctx ((rgp ctx.length o).set 0 (nval 77)) 5 5) := by
      refine q_load (m := 1048571) (i := y) (by rw [hc]; rfl) (Or.inl (by rw [hy]; rfl)) ?_ (by omega)
      refine (load_num ⟨2, 0, 0, 256⟩ (by rw [hy]; rfl) (by decide) (by rw [hy]; exact hwin) hnp (by rw [hy]; exact hrd)).trans ?_
      rw [hy]
      show Did.mk 0 0 ((stm _ _ _ _ _).setr 0 (nval (getv ((22 : Int) == 23) (readF _ (stm _ _ _ _ _) ⟨2, 0, 0, 256⟩ (256 + (8 * (k : Int) - 256 + (j2 : Int))) (s2 : Int))))) = _
      rw [hrf, show ((22 : Int) == 23) = false from rfl, hg]
      rfl
    have e3 := q_exit (fx := fx) (sl := W) (ctx := ctx) (rg := (rgp ctx.length o).set 0 (nval 77)) (k := 5) (n := 5) (m := 1048570) (by rw [hc]; rfl) rfl
    exact ⟨_, fun _ _ => ⟨e0.trans (e1.trans (e2.trans e3)), rfl⟩, fun _ h => absurd h (by omega)⟩
  · by_cases hoth : s2 = 1 ∧ (j2 + 1 = j ∨ j = 0 ∧ j2 = 7)
    · obtain ⟨rfl, hjj⟩ := hoth
      have hrd : readableF (stm W ctx (rgp ctx.length o) 4 4) ⟨2, 0, 0, 256⟩ (256 + (8 * (k : Int) - 256 + (j2 : Int))) ((1 : Nat) : Int) = 82 := by
        unfold readableF
        rw [if_neg (by decide), ha2, Int.toNat_natCast, Int.toNat_natCast]
        refine read_init q1 (8 * k + j2) 1 0 (by omega) ?_
        rw [q2, bitA0, Bool.or_false, Nat.add_zero, ← Bool.decide_and, decide_eq_false (by omega)]
      have e2 : runF fx 1048572 (stm W ctx (rgp ctx.length o) 4 4) = (82, stm W ctx (rgp ctx.length o) 4 4) :=
        q_loadt (m := 1048571) 82 (i := y) (by rw [hc]; rfl) (Or.inl (by rw [hy]; rfl)) (load_bad ⟨2, 0, 0, 256⟩ (by rw [hy]; rfl) (by decide) (by rw [hy]; exact hwin) hnp 82 (by rw [hy]; exact hrd)) (by decide)
      exact ⟨_, fun h h' => absurd ⟨h, h'⟩ hsame, fun _ _ => e0.trans (e1.trans e2)⟩
    · exact ⟨st0 ctx, fun h h' => absurd ⟨h, h'⟩ hsame, fun h h' => absurd ⟨h, h'⟩ hoth⟩
/-- Touched by parts. -/
theorem pk_run {src o : Int} (hs : SrcM src) (ho : 0 ≤ o ∧ o ≤ 999) (k : Nat) (hk : k < 32) (sz a i : Nat) (hsz : SizeM sz) (ha : a + sz ≤ 256) (hi : i < sz) (hai : (a + i) / 8 = k) (hal : sz = 8 → a % 8 ≠ 0) (q : Int) (hq : 256 + q = a) (ctx : List Int) (y : Ins) :
    runF ⟨[], [], po src o (8 * (k : Int) - 256) (insLoad 22 sz 0 10 q) y⟩ 1048576 (st0 ctx) = (80, stm (slp k src o) ctx (rgp ctx.length o) 3 3) := by
  obtain ⟨fx, hfx⟩ : ∃ fx : Mfix, fx = ⟨[], [], po src o (8 * (k : Int) - 256) (insLoad 22 sz 0 10 q) y⟩ := ⟨_, rfl⟩
  have hc : fx.code = po src o (8 * (k : Int) - 256) (insLoad 22 sz 0 10 q) y := by rw [hfx]
  have hcl : fx.code.length = 6 := by rw [hc]; rfl
  rw [← hfx]
  have e0 := spill3 (ctx := ctx) hs ho k hk (show fx.code[0]? = some (insMov 4 10) by rw [hc]; rfl) (show fx.code[1]? = _ by rw [hc]; rfl) (show fx.code[2]? = _ by rw [hc]; rfl) (by omega)
  refine e0.trans ?_
  have hwin : withinF fx (stm (slp k src o) ctx (rgp ctx.length o) 3 3) ⟨2, 0, 0, 256⟩ (256 + q) (sz : Int) = true :=
    win10t _ _ _ _ _ _ _ (by omega)
  refine q_loadt (m := 1048572) 80 (i := insLoad 22 sz 0 10 q) (by rw [hc]; rfl) (Or.inl rfl) (load_bad ⟨2, 0, 0, 256⟩ rfl (by decide) hwin ?_ 80 ?_) (by decide)
  · rintro ⟨_, _, h8, h9, _⟩
    have h8' : (sz : Int) = 8 := h8
    have h9' : (256 + q) % 8 = 0 := h9
    have := hal (by omega)
    omega
  · unfold readableF
    rw [if_neg (by decide)]
    show readyF (slp k src o) (256 + q).toNat ((sz : Int)).toNat = 80
    rw [hq, Int.toNat_natCast, Int.toNat_natCast]
    exact slp_kind k hk src o hs a sz i hi hai
/-- Stored beside a slot: a leak; on a slot: well. -/
theorem pl_stack {src o : Int} (hs : SrcM src) (ho : 0 ≤ o ∧ o ≤ 999) (a : Nat) (ha : a + 8 ≤ 256) (q : Int) (hq : 256 + q = a) (ctx : List Int) :
    ∃ s2, (a % 8 ≠ 0 → runF ⟨[], [], pl o (insStore 8 10 src q)⟩ 1048576 (st0 ctx) = (86, s2)) ∧ (a % 8 = 0 → runF ⟨[], [], pl o (insStore 8 10 src q)⟩ 1048576 (st0 ctx) = (0, s2) ∧ (s2.reg 0).x = 1) := by
  obtain ⟨fx, hfx⟩ : ∃ fx : Mfix, fx = ⟨[], [], pl o (insStore 8 10 src q)⟩ := ⟨_, rfl⟩
  have hc : fx.code = pl o (insStore 8 10 src q) := by rw [hfx]
  have hcl : fx.code.length = 5 := by rw [hc]; rfl
  rw [← hfx]
  have hpk := pv_k o hs
  have e0 := spill2 (ctx := ctx) ho (show fx.code[0]? = some (insMov 4 10) by rw [hc]; rfl) (show fx.code[1]? = _ by rw [hc]; rfl) (by omega)
  have hwin : ∀ n m, withinF fx (stm rep0 ctx (rgp ctx.length o) n m) ⟨2, 0, 0, 256⟩ (256 + q) 8 = true := fun n m =>
    win10t _ _ _ _ _ _ _ (by omega)
  by_cases h8 : a % 8 = 0
  · have e1 : runF fx 1048574 (stm rep0 ctx (rgp ctx.length o) 2 2) = runF fx 1048573 (stm (rep0.set ((256 + q).toNat / 8) ⟨pvF src o, [0, 0, 0, 0, 0, 0, 0, 0], 0⟩) ctx (rgp ctx.length o) 3 3) :=
      q_store (m := 1048573) (i := insStore 8 10 src q) (by rw [hc]; rfl) rfl (store_ptr ⟨2, 0, 0, 256⟩ (pvF src o) rfl (pv_sec hs _ _ _ _ _ _ _) rfl (by omega) rfl (by show (256 + q) % 8 = 0; omega) (hwin _ _)) (by omega)
    generalize rep0.set ((256 + q).toNat / 8) ⟨pvF src o, [0, 0, 0, 0, 0, 0, 0, 0], 0⟩ = W at *
    have e2 : runF fx 1048573 (stm W ctx (rgp ctx.length o) 3 3) = runF fx 1048572 (stm W ctx ((rgp ctx.length o).set 0 (nval 1)) 4 4) :=
      q_arith (m := 1048572) (i := insMovi 0 1) (v := nval 1) (by rw [hc]; rfl) (by show (15 : Int) ≤ 15; decide) (av_mov _ (nval 1) (by decide)) (by omega)
    have e3 := q_exit (fx := fx) (sl := W) (ctx := ctx) (rg := (rgp ctx.length o).set 0 (nval 1)) (k := 4) (n := 4) (m := 1048571) (by rw [hc]; rfl) rfl
    exact ⟨_, fun h => absurd h8 h, fun _ => ⟨e0.trans (e1.trans (e2.trans e3)), rfl⟩⟩
  · have e1 : runF fx 1048574 (stm rep0 ctx (rgp ctx.length o) 2 2) = (86, stm rep0 ctx (rgp ctx.length o) 2 2) := by
      refine q_storet (m := 1048573) 86 (i := insStore 8 10 src q) (by rw [hc]; rfl) rfl ?_ (by decide)
      rw [store_leak (i := insStore 8 10 src q) ⟨2, 0, 0, 256⟩ (pvF src o) rfl (pv_sec hs _ _ _ _ _ _ _) (by decide) (by decide) (by omega) (Or.inr (Or.inr (by show (256 + q) % 8 ≠ 0; omega))) (hwin _ _)]
      rfl
    exact ⟨_, fun _ => e0.trans e1, fun h => absurd h h8⟩
/-- Stored in the context: a leak, or beyond it. -/
theorem pl_ctx {src o : Int} (hs : SrcM src) (ho : 0 ≤ o ∧ o ≤ 999) (q : Nat) (ctx : List Int) :
    ∃ s2, (q + 8 ≤ ctx.length → runF ⟨[], [], pl o (insStore 8 1 src q)⟩ 1048576 (st0 ctx) = (86, s2)) ∧ (ctx.length < q + 8 → runF ⟨[], [], pl o (insStore 8 1 src q)⟩ 1048576 (st0 ctx) = (81, s2)) := by
  obtain ⟨fx, hfx⟩ : ∃ fx : Mfix, fx = ⟨[], [], pl o (insStore 8 1 src q)⟩ := ⟨_, rfl⟩
  have hc : fx.code = pl o (insStore 8 1 src q) := by rw [hfx]
  have hcl : fx.code.length = 5 := by rw [hc]; rfl
  rw [← hfx]
  have hpk := pv_k o hs
  have e0 := spill2 (ctx := ctx) ho (show fx.code[0]? = some (insMov 4 10) by rw [hc]; rfl) (show fx.code[1]? = _ by rw [hc]; rfl) (by omega)
  have hwin : withinF fx (stm rep0 ctx (rgp ctx.length o) 2 2) ⟨3, 0, 0, 0⟩ (0 + (q : Int)) 8 = decide (q + 8 ≤ ctx.length) := by
    show (decide (0 ≤ 0 + (q : Int)) && decide (0 + (q : Int) + 8 ≤ (ctx.length : Int))) = _
    rw [decide_eq_true (by omega), Bool.true_and]
    simp only [decide_eq_decide]
    omega
  by_cases h8 : q + 8 ≤ ctx.length
  · have e1 : runF fx 1048574 (stm rep0 ctx (rgp ctx.length o) 2 2) = (86, stm rep0 ctx (rgp ctx.length o) 2 2) := by
      refine q_storet (m := 1048573) 86 (i := insStore 8 1 src q) (by rw [hc]; rfl) rfl ?_ (by decide)
      rw [store_leak (i := insStore 8 1 src q) ⟨3, 0, 0, 0⟩ (pvF src o) rfl (pv_sec hs _ _ _ _ _ _ _) (by decide) (by decide) (by omega) (Or.inl (by decide)) (hwin.trans (decide_eq_true h8))]
      rfl
    exact ⟨_, fun _ => e0.trans e1, fun h => absurd h8 (by omega)⟩
  · have e1 : runF fx 1048574 (stm rep0 ctx (rgp ctx.length o) 2 2) = (81, stm rep0 ctx (rgp ctx.length o) 2 2) := by
      refine q_storet (m := 1048573) 81 (i := insStore 8 1 src q) (by rw [hc]; rfl) rfl ?_ (by decide)
      rw [store_bounds (i := insStore 8 1 src q) ⟨3, 0, 0, 0⟩ rfl (by decide) (by have := pv_reg (o := o) hs rep0 ctx ctx.length 2 2; show ((stm _ _ _ _ _).reg src).k ≠ 0; rw [this]; omega) (by decide) (hwin.trans (decide_eq_false h8))]
      rfl
    exact ⟨_, fun h => absurd h h8, fun _ => e0.trans e1⟩
/-- Told: a leak. -/
theorem pt_run {src o : Int} (hs : SrcM src) (ho : 0 ≤ o ∧ o ≤ 999) (ctx : List Int) : ∃ s2, runF ⟨[], [], pt src o⟩ 1048576 (st0 ctx) = (86, s2) := by
  obtain ⟨fx, hfx⟩ : ∃ fx : Mfix, fx = ⟨[], [], pt src o⟩ := ⟨_, rfl⟩
  have hc : fx.code = pt src o := by rw [hfx]
  have hcl : fx.code.length = 4 := by rw [hc]; rfl
  rw [← hfx]
  have hpk := pv_k o hs
  have e0 := spill2 (ctx := ctx) ho (show fx.code[0]? = some (insMov 4 10) by rw [hc]; rfl) (show fx.code[1]? = _ by rw [hc]; rfl) (by omega)
  have e1 : runF fx 1048574 (stm rep0 ctx (rgp ctx.length o) 2 2) = runF fx 1048573 (stm rep0 ctx ((rgp ctx.length o).set 0 (pvF src o)) 3 3) := by
    refine q_arith (m := 1048573) (i := insMov 0 src) (v := pvF src o) (by rw [hc]; rfl) (by show (15 : Int) ≤ 15; decide) ?_ (by omega)
    show arithV 15 false _ ((stm _ _ _ _ _).reg src) = _
    rw [pv_reg hs]
    exact av_mov _ _ (by omega)
  have e2 := q_leak (fx := fx) (sl := rep0) (ctx := ctx) (rg := (rgp ctx.length o).set 0 (pvF src o)) (k := 3) (n := 3) (m := 1048572) (by rw [hc]; rfl) (by show (pvF src o).k ≠ 1; omega)
  exact ⟨_, e0.trans (e1.trans e2)⟩
end Go.Proofs.YtdepknffpnnmmaaGreat
