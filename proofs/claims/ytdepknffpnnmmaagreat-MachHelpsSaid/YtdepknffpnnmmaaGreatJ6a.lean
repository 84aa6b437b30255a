/-
  Runs of programs without data and tables, as functions of plain data.
-/
import Derived.Test.YtdepknffpnnmmaaGreatJ5a
import Derived.Test.YtdepknffpnnmmaaGreatMachAN
import Derived.Test.YtdepknffpnnmmaaGreatMachAP
namespace Go.Proofs.YtdepknffpnnmmaaGreat
open Go.RowKit
set_option linter.unusedVariables false
set_option linter.unusedSimpArgs false

theorem do_loadD {fx : Mfix} {s : Mst} (h : Good fx s) (i : Ins) (hi : InsOK fx i) (hop : i.op = 22 ∨ i.op = 23) : DoR (doerF i.op) fx s i (loadD fx s i).by' (loadD fx s i).er (loadD fx s i).s := by
  have hF : doerF i.op = 70 := by
    unfold doerF
    rw [if_neg (by omega), if_neg (by omega), if_neg (by omega), if_pos (by omega)]
  rw [hF]
  have hby : (loadD fx s i).by' = 0 := by
    unfold loadD; dsimp only; repeat' split
    all_goals rfl
  have hsh : (loadD fx s i).s = { s with sl := s.sl, rg := (loadD fx s i).s.rg, at' := s.at', steps := s.steps, done := s.done } := by
    unfold loadD; dsimp only
    split
    · rfl
    split
    · rfl
    split
    · rfl
    unfold setOr
    split <;> rfl
  have hG := load_ok h i
  rw [hby]
  intro base w0 bx v w hM
  obtain ⟨d, hd⟩ : ∃ d : Nat, i.dst = d := ⟨i.dst.toNat, by have := hi.dst; omega⟩
  obtain ⟨r, hr⟩ : ∃ r : Nat, i.src = r := ⟨i.src.toNat, by have := hi.src; omega⟩
  have hd1 := hi.dst
  have hr1 := hi.src
  have hsz : i.size = 1 ∨ i.size = 2 ∨ i.size = 4 ∨ i.size = 8 := by
    rcases hop with h | h
    · exact hi.ls (Or.inl h)
    · rcases hi.lds h with h | h | h
      · exact Or.inl h
      · exact Or.inr (Or.inl h)
      · exact Or.inr (Or.inr (Or.inl h))
  have hoff := hi.off
  obtain ⟨op, nar, reg, size, dst, src, off, imm⟩ := i
  simp only at hd hr hd1 hr1 hsz hoff hop
  subst hd hr
  have hp : s.rg[r]? = some (s.reg r) := by rw [s.reg_get r (by have := h.regs.1; omega)]; exact List.getElem?_eq_getElem _
  refine (load_walk op nar reg size off imm d r (by omega) (by omega) (s.reg r) hp (reg_ok h.regs r).ptr h.mem hsz hoff hop w hM).mono ?_
  rintro e w' ⟨rfl, hm, hrow⟩
  refine ⟨rfl, v, ?_, Fr9.of_mod hm hM.rb, fun _ _ => rfl⟩
  rw [hsh] at hrow ⊢
  exact hM.mod hm s.sl _ s.at' s.steps s.done h.slots hG.regs.1 hrow
theorem do_storeD {fx : Mfix} {s : Mst} (h : Good fx s) (i : Ins) (hi : InsOK fx i) (hop : i.op = 24) : DoR (doerF i.op) fx s i (storeD fx s i).by' (storeD fx s i).er (storeD fx s i).s := by
  have hF : doerF i.op = 71 := by
    unfold doerF
    rw [if_neg (by omega), if_neg (by omega), if_neg (by omega), if_neg (by omega), if_pos (by omega)]
  rw [hF]
  have hby : (storeD fx s i).by' = 0 := by
    unfold storeD; dsimp only; repeat' split
    all_goals rfl
  rw [hby]
  intro base w0 bx v w hM
  obtain ⟨d, hd⟩ : ∃ d : Nat, i.dst = d := ⟨i.dst.toNat, by have := hi.dst; omega⟩
  have hd1 := hi.dst
  have hr1 := hi.src
  have hsz := hi.ls (Or.inr hop)
  have hoff := hi.off
  obtain ⟨op, nar, reg, size, dst, src, off, imm⟩ := i
  simp only at hd hr1 hd1 hsz hoff hop
  subst hd
  have hp : s.rg[d]? = some (s.reg d) := by rw [s.reg_get d (by have := h.regs.1; omega)]; exact List.getElem?_eq_getElem _
  exact store_walk op nar reg size src off imm d (by omega) (s.reg d).k (s.reg d).t (s.reg d).o (s.reg d).x (s.sec ⟨op, nar, reg, size, d, src, off, imm⟩).k (s.sec ⟨op, nar, reg, size, d, src, off, imm⟩).t (s.sec ⟨op, nar, reg, size, d, src, off, imm⟩).o (s.sec ⟨op, nar, reg, size, d, src, off, imm⟩).x
    hp rfl (reg_ok h.regs d).x (reg_ok h.regs d).ptr h.mem hsz hoff (fun w' h' => sec_call (s := s) ⟨op, nar, reg, size, d, src, off, imm⟩ (fun _ => hr1) bx _ h.regs.1 (fun r hr hl => hM.regC r hr) w' h') w hM
/-- An instruction whose doer is known. -/
def Known (op : Int) : Prop := op ≤ 15 ∨ op = 20 ∨ (22 ≤ op ∧ op ≤ 24) ∨ (26 ≤ op ∧ op ≤ 37) ∨ op = 39
theorem do_F {fx : Mfix} {s : Mst} (h : Good fx s) (i : Ins) (hi : InsOK fx i) (hk : Known i.op) : DoR (doerF i.op) fx s i (doF fx s i).by' (doF fx s i).er (doF fx s i).s := by
  have ho := hi.op
  unfold Known at hk
  unfold doF
  split
  · exact do_arithD fx s i (by omega) hi.dst (fun _ => hi.src) hi.imm h.regs
  split
  · omega
  split
  · exact do_wideD fx s i (by omega) hi.dst
  split
  · exact do_loadD h i hi (by omega)
  split
  · exact do_storeD h i hi (by omega)
  split
  · omega
  split
  · exact do_leapD fx s i (by omega)
  split
  · exact do_branchD fx s i (by omega) hi.dst (fun _ => hi.src) hi.imm h.regs
  split
  · omega
  · exact do_leaveD fx s i (by omega)
theorem doF_byr {fx : Mfix} {s : Mst} {i : Ins} (hi : InsOK fx i) : -4611686018427387904 ≤ (doF fx s i).by' ∧ (doF fx s i).by' ≤ 4611686018427387904 := by
  have ho := hi.off
  have hm := hi.imm32
  by_cases hj : i.op < 26 ∨ 37 < i.op
  · rw [doF_by fx s i hj]; decide
  · unfold doF
    rw [if_neg (by omega), if_neg (by omega), if_neg (by omega), if_neg (by omega), if_neg (by omega), if_neg (by omega)]
    split
    · unfold leapD
      simp only
      have := hm (by omega)
      split <;> omega
    · rw [if_pos (by omega)]
      unfold branchD
      simp only
      split <;> omega
/-- Code that a machine may have: each of its instructions known, the last one no further one. -/
structure CodeOK (fx : Mfix) : Prop where
  len : fx.code.length ≤ 4096
  ins : ∀ i ∈ fx.code, InsOK fx i ∧ Known i.op
  last : ∀ k i, fx.code[k]? = some i → k + 1 = fx.code.length → (26 ≤ i.op ∧ i.op ≤ 37) ∨ i.op = 39
theorem step_R {fx : Mfix} {s : Mst} (hc : CodeOK fx) (h : Good fx s) (hat : s.at' < fx.code.length) (hd : s.done = false) (hst : 0 ≤ s.steps ∧ s.steps < 4611686018427387904) : StepR fx s (stepF fx s).1 (stepF fx s).2 := by
  have hg : fx.code[s.at']? = some fx.code[s.at'] := List.getElem?_eq_getElem hat
  obtain ⟨hi, hk⟩ := hc.ins _ (List.getElem_mem hat)
  refine step_F fx s _ hg hd hc.len ?_ hi.op.2 hst (doF_byr hi) (do_F h _ hi hk)
  by_cases hl : s.at' + 1 = fx.code.length
  · rcases hc.last _ _ hg hl with h | h
    · exact Or.inl h
    · exact Or.inr (Or.inl h)
  · exact Or.inr (Or.inr hl)
theorem doF_at {fx : Mfix} {s : Mst} {i : Ins} (h : i.op ≤ 39) : (doF fx s i).s.steps = s.steps ∧ (doF fx s i).s.at' = s.at' := by
  by_cases h39 : i.op = 39
  · rw [doF_leave fx s i h39]
    unfold leaveD trapD
    split <;> exact ⟨rfl, rfl⟩
  · have K := doF_keeps fx s i (by omega)
    exact ⟨K.steps, K.at'⟩
/-- What a step keeps of the counters. -/
theorem stepF_count {fx : Mfix} {s : Mst} (hc : CodeOK fx) (hat : s.at' < fx.code.length) : (stepF fx s).2.at' < fx.code.length ∧ s.steps ≤ (stepF fx s).2.steps ∧ (stepF fx s).2.steps ≤ s.steps + 1 := by
  have hg : fx.code[s.at']? = some fx.code[s.at'] := List.getElem?_eq_getElem hat
  obtain ⟨hi, hk⟩ := hc.ins _ (List.getElem_mem hat)
  have hg' : fx.code.getD s.at' ⟨0, false, false, 0, 0, 0, 0, 0⟩ = fx.code[s.at'] := by rw [List.getD_eq_getElem?_getD, hg]; rfl
  obtain ⟨q1, q2⟩ := doF_at (fx := fx) (s := s) hi.op.2
  unfold stepF
  split
  · exact ⟨hat, Int.le_refl _, by show s.steps ≤ s.steps + 1; omega⟩
  · simp only [hg']
    split
    · exact ⟨hat, Int.le_refl _, by show s.steps ≤ s.steps + 1; omega⟩
    · split
      · refine ⟨by show (doF fx s fx.code[s.at']).s.at' < _; rw [q2]; exact hat, ?_, ?_⟩
        · show s.steps ≤ (doF fx s fx.code[s.at']).s.steps + 1; omega
        · show (doF fx s fx.code[s.at']).s.steps + 1 ≤ _; omega
      · split
        · rename_i j hj
          refine ⟨(where_some hj).1, ?_, ?_⟩
          · show s.steps ≤ (doF fx s fx.code[s.at']).s.steps + 1; omega
          · show (doF fx s fx.code[s.at']).s.steps + 1 ≤ _; omega
        · exact ⟨hat, Int.le_refl _, by show s.steps ≤ s.steps + 1; omega⟩
/-- A run of so many steps at most. -/
def runF (fx : Mfix) : Nat → Mst → Int × Mst
  | 0, s => (if s.done then 0 else 88, s)
  | n + 1, s => if s.done then (0, s) else if (stepF fx s).1 = 0 then runF fx n (stepF fx s).2 else stepF fx s
theorem run_R {fx : Mfix} (hc : CodeOK fx) : ∀ (n : Nat) (s : Mst), Good fx s → s.at' < fx.code.length → 0 ≤ s.steps → s.steps + n < 4611686018427387904 →
    Runs fx s n (runF fx n s).1 (runF fx n s).2 ∧ Good fx (runF fx n s).2
  | 0, s, h, hat, h0, hn => by
    unfold runF
    cases hd : s.done with
    | true => exact ⟨Runs.done s 0 hd, h⟩
    | false => exact ⟨Runs.fuel s hd, h⟩
  | n + 1, s, h, hat, h0, hn => by
    unfold runF
    cases hd : s.done with
    | true => exact ⟨Runs.done s _ hd, h⟩
    | false =>
      rw [if_neg (by decide)]
      have hR := step_R hc h hat hd ⟨h0, by omega⟩
      have hG : Good fx (stepF fx s).2 := stepF_ok h _ (hc.ins _ (List.getElem_mem hat)).1 (List.getElem?_eq_getElem hat)
      obtain ⟨c1, c2, c3⟩ := stepF_count (s := s) hc hat
      by_cases he : (stepF fx s).1 = 0
      · rw [if_pos he]
        obtain ⟨r1, r2⟩ := run_R hc n (stepF fx s).2 hG c1 (by omega) (by push_cast at hn; omega)
        rw [he] at hR
        exact ⟨Runs.step _ _ _ _ _ hd hR r1, r2⟩
      · rw [if_neg he]
        exact ⟨Runs.trap _ _ _ _ hd hR he, hG⟩
theorem runF_go {fx : Mfix} {s s1 : Mst} {n : Nat} (hd : s.done = false) (h : stepF fx s = (0, s1)) : runF fx (n + 1) s = runF fx n s1 := by
  rw [runF, if_neg (by rw [hd]; decide), h]
  exact if_pos rfl
theorem runF_trap {fx : Mfix} {s s1 : Mst} {n : Nat} {er : Int} (hd : s.done = false) (h : stepF fx s = (er, s1)) (he : er ≠ 0) : runF fx (n + 1) s = (er, s1) := by
  rw [runF, if_neg (by rw [hd]; decide), h]
  exact if_neg he
theorem runF_done {fx : Mfix} {s : Mst} {n : Nat} (hd : s.done = true) : runF fx n s = (0, s) := by
  cases n with
  | zero => rw [runF, if_pos hd]
  | succ n => rw [runF, if_pos hd]
theorem unit_inj {code : List Ins} {i j : Nat} (h : (unitAt code i : Int) = (unitAt code j : Int)) : i = j := by
  by_cases h1 : i < j
  · have := unitAt_lt code i j h1; omega
  · by_cases h2 : j < i
    · have := unitAt_lt code j i h2; omega
    · omega
theorem where_at {code : List Ins} {j : Nat} (h : j < code.length) {u : Int} (hu : (unitAt code j : Int) = u) : whereF code u = some j := by
  cases hw : whereF code u with
  | none => exact absurd hu (where_none hw j h)
  | some k =>
    have := (where_some hw).2
    rw [unit_inj (this.trans hu.symm)]
section
variable {fx : Mfix} {s s' : Mst} {i : Ins}
theorem step_unfold (hg : fx.code[s.at']? = some i) (hd : s.done = false) : stepF fx s = (if (doF fx s i).er ≠ 0 then ((doF fx s i).er, s)
  else if i.op = 39 then (0, { (doF fx s i).s with steps := (doF fx s i).s.steps + 1 })
  else match whereF fx.code ((unitAt fx.code (s.at' + 1) : Int) + (doF fx s i).by') with
    | some j => (0, { (doF fx s i).s with at' := j, steps := (doF fx s i).s.steps + 1 })
    | none => (89, s)) := by
  have hg' : fx.code.getD s.at' ⟨0, false, false, 0, 0, 0, 0, 0⟩ = i := by rw [List.getD_eq_getElem?_getD, hg]; rfl
  unfold stepF
  rw [if_neg (by rw [hd]; decide)]
  simp only [hg']
  rfl
/-- A step to another instruction. -/
theorem step_to (b : Int) (j : Nat) (hg : fx.code[s.at']? = some i) (hd : s.done = false) (h39 : i.op ≠ 39) (h : doF fx s i = ⟨b, 0, s'⟩) (hj : j < fx.code.length) (hu : (unitAt fx.code j : Int) = (unitAt fx.code (s.at' + 1) : Int) + b) :
    stepF fx s = (0, { s' with at' := j, steps := s'.steps + 1 }) := by
  rw [step_unfold hg hd, h]
  simp only
  rw [if_neg (by decide), if_neg h39, where_at hj hu]
theorem step_next (k : Nat) (hk : s.at' = k) (hg : fx.code[k]? = some i) (hd : s.done = false) (h39 : i.op ≠ 39) (h : doF fx s i = ⟨0, 0, s'⟩) (hj : k + 1 < fx.code.length) : stepF fx s = (0, { s' with at' := k + 1, steps := s'.steps + 1 }) := by
  subst hk
  exact step_to 0 (s.at' + 1) hg hd h39 h hj (by omega)
theorem step_nowhere (b : Int) (hg : fx.code[s.at']? = some i) (hd : s.done = false) (h39 : i.op ≠ 39) (h : doF fx s i = ⟨b, 0, s'⟩) (hj : ∀ j < fx.code.length, (unitAt fx.code j : Int) ≠ (unitAt fx.code (s.at' + 1) : Int) + b) : stepF fx s = (89, s) := by
  rw [step_unfold hg hd, h]
  simp only
  rw [if_neg (by decide), if_neg h39]
  cases hw : whereF fx.code ((unitAt fx.code (s.at' + 1) : Int) + b) with
  | none => rfl
  | some j => exact absurd (where_some hw).2 (hj j (where_some hw).1)
theorem step_err (er : Int) (hg : fx.code[s.at']? = some i) (hd : s.done = false) (h : (doF fx s i).er = er) (he : er ≠ 0) : stepF fx s = (er, s) := by
  rw [step_unfold hg hd, h, if_pos he]
theorem step_leave (hg : fx.code[s.at']? = some i) (hd : s.done = false) (h39 : i.op = 39) (hr : (s.reg 0).k = 1) : stepF fx s = (0, { s with done := true, steps := s.steps + 1 }) := by
  rw [step_unfold hg hd, doF_leave fx s i h39]
  unfold leaveD
  rw [if_pos hr]
  simp only
  rw [if_neg (by decide), if_pos h39]
theorem step_leak (hg : fx.code[s.at']? = some i) (hd : s.done = false) (h39 : i.op = 39) (hr : (s.reg 0).k ≠ 1) : stepF fx s = (86, s) := by
  refine step_err 86 hg hd ?_ (by decide)
  rw [doF_leave fx s i h39]
  unfold leaveD trapD
  rw [if_neg hr]
theorem doF_arith (h : i.op ≤ 15) {v : Val} {e : Int} (ha : arithV i.op i.nar (s.reg i.dst) (s.sec i) = (v, e)) : doF fx s i = ⟨0, e, if e = 0 then s.setr i.dst v else s⟩ := by
  unfold doF
  rw [if_pos h]
  unfold arithD setOr
  rw [ha]
theorem doF_wide (h : i.op = 20) : doF fx s i = ⟨0, 0, s.setr i.dst (nval i.imm)⟩ := by
  unfold doF
  rw [if_neg (by omega), if_neg (by omega), if_pos (by omega)]
  unfold constD setOr
  rw [if_neg (by omega)]
  rfl
theorem doF_branch (h : 27 ≤ i.op ∧ i.op ≤ 37) {hv : Bool} {e : Int} (hb : branchV i (s.reg i.dst) (s.sec i) = (hv, e)) : doF fx s i = ⟨if e = 0 ∧ hv = true then i.off else 0, e, s⟩ := by
  unfold doF
  rw [if_neg (by omega), if_neg (by omega), if_neg (by omega), if_neg (by omega), if_neg (by omega), if_neg (by omega), if_neg (by omega), if_pos (by omega)]
  unfold branchD
  rw [hb]
end
/-- A program that the laws run. -/
structure ProgOK (code : List Ins) : Prop where
  len : 0 < code.length ∧ code.length ≤ 4096
  ins : ∀ i ∈ code, i.right = 0 ∧ i64r i.imm ∧ Known i.op
  last : ∀ k i, code[k]? = some i → k + 1 = code.length → (26 ≤ i.op ∧ i.op ≤ 37) ∨ i.op = 39
theorem ProgOK.made {code : List Ins} (h : ProgOK code) (hi : Int) (hh : 0 ≤ hi ∧ hi ≤ 65535) : (Prg.mk 0 hi [] [] code).made := by
  refine ⟨⟨by show (0 : Int) ≤ 0; decide, hh.1, hh.2, by show (0 : Nat) ≤ 4096; decide, by show (0 : Nat) ≤ 8; decide, h.len.1⟩, fun i hi => absurd hi (by simp), ⟨h.len.2, fun i hi => (h.ins _ (List.getElem_mem hi)).1⟩, fun i hi ho => ?_⟩
  have hk : Known code[i].op := (h.ins _ (List.getElem_mem hi)).2.2
  have ho' : code[i].op = 21 := ho
  unfold Known at hk
  omega
theorem ProgOK.code {code : List Ins} (h : ProgOK code) : CodeOK ⟨[], [], code⟩ :=
  ⟨h.len.2, fun i hi => ⟨insOK_of_right _ i (h.ins i hi).1 (h.ins i hi).2.1 (fun h21 => by have hk := (h.ins i hi).2.2; unfold Known at hk; omega), (h.ins i hi).2.2⟩, h.last⟩
theorem good0 (code : List Ins) (ctx : List Int) (hb : IsBytes ctx) (hl : ctx.length ≤ 65535) : Good ⟨[], [], code⟩ (st0 ctx) := by
  have hz : ∀ x ∈ (st0 ctx).sl, x = noslot := fun x hx => List.eq_of_mem_replicate hx
  refine ⟨⟨fun x hx => ?_, hb, hl, IsBytes.nil, by show (0 : Nat) ≤ 4096; decide, rfl, fun k hk => absurd hk (by simp), fun k hk => absurd hk (by simp [st0])⟩, ⟨rfl, fun u hu => ?_⟩, slots_zero, fun x hx hk => ?_, ⟨by show (0 : Nat) ≤ 64; decide, fun x hx => absurd hx (by simp [st0])⟩⟩
  · rw [hz x hx]
    exact ⟨by unfold IsBytes; decide, by decide, by decide⟩
  · have : u = noval ∨ u = ⟨3, 0, 0, 0⟩ ∨ u = nval ctx.length ∨ u = ⟨2, 0, 0, 256⟩ := by
      simp only [st0, rg0, List.mem_cons, List.not_mem_nil, or_false] at hu
      rcases hu with h | h | h | h | h | h | h | h | h | h | h
      all_goals first
        | exact Or.inl h
        | exact Or.inr (Or.inl h)
        | exact Or.inr (Or.inr (Or.inl h))
        | exact Or.inr (Or.inr (Or.inr h))
    rcases this with rfl | rfl | rfl | rfl
    · exact RegOK.none _
    · exact PtrOK.reg ⟨by show (2 : Int) ≤ 3 ∧ (3 : Int) ≤ 5; decide, by show -1048576 ≤ (0 : Int) ∧ (0 : Int) ≤ 1048576; decide, fun h => absurd (show (3 : Int) = 5 from h) (by decide)⟩
    · exact RegOK.num _ (by unfold i64r; omega)
    · exact PtrOK.reg ⟨by show (2 : Int) ≤ 2 ∧ (2 : Int) ≤ 5; decide, by show -1048576 ≤ (256 : Int) ∧ (256 : Int) ≤ 1048576; decide, fun h => absurd (show (2 : Int) = 5 from h) (by decide)⟩
  · rw [hz x hx] at hk
    exact absurd rfl hk
/-- runs: what it answers is what the function says. -/
theorem runs_any (code : List Ins) (hp : ProgOK code) (ctx : List Int) (hb : IsBytes ctx) (hcl : ctx.length ≤ 65535) (er : Int) (s2 : Mst) (hr : runF ⟨[], [], code⟩ 1048576 (st0 ctx) = (er, s2)) (ca : Option Addr) (cc : Nat) (xv : Value)
    (w : World) (hc : Coded w (.slice ca code.length cc) code) (hx : Held w xv ctx) :
    Calls Tryz.prog 9 #[.slice ca code.length cc, xv] w (RunsSays w er s2) := by
  obtain ⟨h1, h2⟩ := run_R hp.code 1048576 (st0 ctx) (good0 code ctx hb hcl) hp.len.1 (by show (0 : Int) ≤ 0; decide) (by show (0 : Int) + 1048576 < _; decide)
  rw [hr] at h1 h2
  have hrl := h2.mem.rowsl
  exact runs_of code ctx ca cc xv (hp.made 65535 (by decide)) hcl er s2 h1 (List.eq_nil_of_length_eq_zero hrl) h2.mem.ctxl (Nat.le_trans h2.sent.1 (by decide)) w hc hx
/-- ... and of its number alone. -/
theorem runs_r0 (code : List Ins) (hp : ProgOK code) (er : Int) (s2 : Mst) (hr : runF ⟨[], [], code⟩ 1048576 (st0 []) = (er, s2)) (r0 : Int) (h0 : er = 0 → (s2.reg 0).x = r0) (h1 : er ≠ 0 → r0 = 0) (ca : Option Addr) (cc : Nat) (n : Nat) (hn : n = code.length)
    (w : World) (hc : Coded w (.slice ca n cc) code) : Calls Tryz.prog 9 #[.slice ca n cc, .slice none 0 0] w (SeenR w er r0) := by
  subst hn
  have hrl := (run_R hp.code 1048576 (st0 []) (good0 code [] IsBytes.nil (by simp)) hp.len.1 (by show (0 : Int) ≤ 0; decide) (by show (0 : Int) + 1048576 < _; decide)).2.regs.1
  rw [hr] at hrl
  refine (runs_any code hp [] IsBytes.nil (by simp) er s2 hr ca cc (.slice none 0 0) w hc ⟨fun x hx => (by cases hx), Or.inl ⟨rfl, Or.inl rfl⟩⟩).mono ?_
  rintro e w' ⟨r0', a1, n1, c1, a2, n2, c2, a3, n3, c3, rfl, hO, hB⟩
  have hr0 : r0' = r0 := by
    by_cases hg : er = 0
    · rw [← h0 hg]
      simp only at hrl
      rw [show s2.reg 0 = s2.rg[0]'(by omega) from s2.reg_get 0 (by omega)]
      exact hO.r0 hg _ (List.getElem?_eq_getElem _)
    · rw [h1 hg]; exact (hO.fail hg).1
  subst hr0
  exact ⟨_, _, _, _, _, _, _, _, _, rfl, hB⟩
end Go.Proofs.YtdepknffpnnmmaaGreat

