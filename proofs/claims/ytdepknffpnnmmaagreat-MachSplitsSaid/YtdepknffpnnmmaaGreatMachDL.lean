import Derived.Test.YtdepknffpnnmmaaGreatMachDC
namespace Go.Proofs.YtdepknffpnnmmaaGreat
open Go.RowKit
set_option linter.unusedVariables false
set_option linter.unusedSimpArgs false
def TrapN (e : Int) : Prop := e = 0 \/ (80 <= e /\ e <= 87)
theorem TrapN.zero : TrapN 0 := Or.inl rfl
theorem TrapN.of {e : Int} (h : 80 <= e /\ e <= 87) : TrapN e := Or.inr h
theorem t80 : TrapN 80 := Or.inr ⟨by decide, by decide⟩
theorem t81 : TrapN 81 := Or.inr ⟨by decide, by decide⟩
theorem t82 : TrapN 82 := Or.inr ⟨by decide, by decide⟩
theorem t83 : TrapN 83 := Or.inr ⟨by decide, by decide⟩
theorem t84 : TrapN 84 := Or.inr ⟨by decide, by decide⟩
theorem t85 : TrapN 85 := Or.inr ⟨by decide, by decide⟩
theorem t86 : TrapN 86 := Or.inr ⟨by decide, by decide⟩
theorem t87 : TrapN 87 := Or.inr ⟨by decide, by decide⟩
theorem trap_ite {c : Prop} [Decidable c] {α : Type} {a b : α} {f : α -> Int} (ha : TrapN (f a)) (hb : TrapN (f b)) : TrapN (f (if c then a else b)) := by
 split
 ·exact ha
 ·exact hb
theorem alu_trap (op : Int) (nar : Bool) (a b : Int) : TrapN (aluF op nar a b).2 := by
 unfold aluF
 split
 ·unfold alu32F
  repeat' first
   | exact TrapN.zero
   | exact t84
   | refine trap_ite (f := Prod.snd) ?_ ?_
 ·unfold alu64F
  repeat' first
   | exact TrapN.zero
   | exact t84
   | refine trap_ite (f := Prod.snd) ?_ ?_
theorem moved_trap (v : Val) (n : Int) : TrapN (movedF v n).2 := by
 unfold movedF
 split
 ·(first | exact t80 | exact t81 | exact t82 | exact t83 | exact t84 | exact t85 | exact t86 | exact t87)
 ·exact TrapN.zero
theorem sum_trap (op : Int) (a b : Val) : TrapN (sumF op a b).2 := by
 unfold sumF
 repeat' split
 all_goals first
  | exact moved_trap _ _
  | exact TrapN.zero
  | (first | exact t80 | exact t81 | exact t82 | exact t83 | exact t84 | exact t85 | exact t86 | exact t87)
theorem arith_trap (op : Int) (nar : Bool) (a b : Val) : TrapN (arithV op nar a b).2 := by
 unfold arithV
 by_cases h1 : op = 15 /\ nar = false /\ b.k ≠ 0
 ·rw [if_pos h1]; exact TrapN.zero
 ·rw [if_neg h1]
  by_cases h2 : (if op = 15 then 1 else a.k) = 1 /\ (if op = 14 then 1 else b.k) = 1
  ·rw [if_pos h2]; exact alu_trap _ _ _ _
  ·rw [if_neg h2]
   by_cases h3 : nar = true \/ (if op = 15 then 1 else a.k) = 0 \/ (if op = 14 then 1 else b.k) = 0
   ·rw [if_pos h3]; (first | exact t80 | exact t81 | exact t82 | exact t83 | exact t84 | exact t85 | exact t86 | exact t87)
   ·rw [if_neg h3]; exact sum_trap _ _ _
theorem part_trap (i : Ins) (v : Val) : TrapN (partV i v).2 := by
 unfold partV
 repeat' split
 all_goals first
  | exact TrapN.zero
  | (first | exact t80 | exact t81 | exact t82 | exact t83 | exact t84 | exact t85 | exact t86 | exact t87)
theorem readable_trap (s : Mst) (v : Val) (a n : Int) : TrapN (readableF s v a n) := by
 unfold readableF readyF
 repeat' split
 all_goals first
  | exact TrapN.zero
  | (first | exact t80 | exact t81 | exact t82 | exact t83 | exact t84 | exact t85 | exact t86 | exact t87)
theorem load_trap (fx : Mfix) (s : Mst) (i : Ins) : TrapN (loadD fx s i).er := by
 unfold loadD
 simp only
 split
 ·exact t80
 ·split
  ·exact t81
  ·split
   ·exact TrapN.zero
   ·exact readable_trap _ _ _ _
theorem store_trap (fx : Mfix) (s : Mst) (i : Ins) : TrapN (storeD fx s i).er := by
 unfold storeD trapD
 simp only
 repeat' split
 all_goals first
  | exact TrapN.zero
  | (first | exact t80 | exact t81 | exact t82 | exact t83 | exact t84 | exact t85 | exact t86 | exact t87)
theorem atom_trap (fx : Mfix) (s : Mst) (i : Ins) : TrapN (atomD fx s i).er := by
 unfold atomD trapD
 simp only
 split
 ·(first | exact t80 | exact t81 | exact t82 | exact t83 | exact t84 | exact t85 | exact t86 | exact t87)
 ·split
  ·(first | exact t80 | exact t81 | exact t82 | exact t83 | exact t84 | exact t85 | exact t86 | exact t87)
  ·split
   ·(first | exact t80 | exact t81 | exact t82 | exact t83 | exact t84 | exact t85 | exact t86 | exact t87)
   ·split
    ·exact readable_trap _ _ _ _
    ·exact TrapN.zero
theorem branch_trap (i : Ins) (a b : Val) : TrapN (branchV i a b).2 := by
 unfold branchV
 repeat' split
 all_goals first
  | exact TrapN.zero
  | (first | exact t80 | exact t81 | exact t82 | exact t83 | exact t84 | exact t85 | exact t86 | exact t87)
theorem call_trap (fx : Mfix) (s : Mst) (i : Ins) : TrapN (callD fx s i).er := by
 unfold callD trapD
 repeat' first
  | exact TrapN.zero
  | exact t87
  | refine trap_ite (f := Did.er) ?_ ?_
theorem doF_trap (fx : Mfix) (s : Mst) (i : Ins) : TrapN (doF fx s i).er := by
 unfold doF
 split
 ·exact arith_trap _ _ _ _
 split
 ·exact part_trap _ _
 split
 ·exact TrapN.zero
 split
 ·exact load_trap _ _ _
 split
 ·exact store_trap _ _ _
 split
 ·exact atom_trap _ _ _
 split
 ·exact TrapN.zero
 split
 ·exact branch_trap _ _ _
 split
 ·exact call_trap _ _ _
 ·unfold leaveD trapD
  split
  ·exact TrapN.zero
  ·(first | exact t80 | exact t81 | exact t82 | exact t83 | exact t84 | exact t85 | exact t86 | exact t87)
theorem step_er (fx : Mfix) (s : Mst) (hd : s.done = false) : (stepF fx s).1 = 0 \/ (80 <= (stepF fx s).1 /\ (stepF fx s).1 <= 89 /\ (stepF fx s).1 ≠ 88) := by
 unfold stepF
 rw [hd, if_neg (by decide)]
 simp only
 have h := doF_trap fx s (fx.code.getD s.at' ⟨0, false, false, 0, 0, 0, 0, 0⟩)
 generalize doF fx s (fx.code.getD s.at' ⟨0, false, false, 0, 0, 0, 0, 0⟩) = r at h ⊢
 unfold TrapN at h
 split
 ·right
  show 80 <= r.er /\ r.er <= 89 /\ r.er ≠ 88
  omega
 ·split
  ·exact Or.inl rfl
  ·split
   ·exact Or.inl rfl
   ·exact Or.inr ⟨by show (80 : Int) <= 89; decide, by show (89 : Int) <= 89; decide, by show (89 : Int) ≠ 88; decide⟩
theorem step_keeps (fx : Mfix) (s : Mst) (h : (stepF fx s).1 ≠ 0) : (stepF fx s).2 = s := by
 revert h
 unfold stepF
 split
 ·intro _; rfl
 ·simp only
  split
  ·intro _; rfl
  ·split
   ·intro h; exact absurd rfl h
   ·split
    ·intro h; exact absurd rfl h
    ·intro _; rfl
theorem step_done (fx : Mfix) (s : Mst) (hd : s.done = true) : stepF fx s = (4, s) := by
 unfold stepF
 rw [if_pos hd]
theorem run_add (fx : Mfix) (y : Nat) : ∀ (x : Nat) (s : Mst), runF fx (x + y) s = if (runF fx x s).1 = 88 then runF fx y (runF fx x s).2 else runF fx x s
 | 0, s => by
   rw [Nat.zero_add]
   cases hd : s.done with
   | true =>
     rw [runF_done hd, runF_done hd, if_neg (by show ¬ ((0 : Int) = 88); decide)]
   | false =>
     have e : runF fx 0 s = (88, s) := by unfold runF; rw [hd]; rfl
     rw [e, if_pos rfl]
 | x + 1, s => by
   rw [show x + 1 + y = (x + y) + 1 by omega]
   cases hd : s.done with
   | true =>
     rw [runF_done hd, runF_done hd, if_neg (by show ¬ ((0 : Int) = 88); decide)]
   | false =>
     have e1 : runF fx (x + y + 1) s = if (stepF fx s).1 = 0 then runF fx (x + y) (stepF fx s).2 else stepF fx s := by
      rw [runF, hd]
      rfl
     have e2 : runF fx (x + 1) s = if (stepF fx s).1 = 0 then runF fx x (stepF fx s).2 else stepF fx s := by
      rw [runF, hd]
      rfl
     rw [e1, e2]
     by_cases h0 : (stepF fx s).1 = 0
     ·rw [if_pos h0, if_pos h0]
      exact run_add fx y x _
     ·rw [if_neg h0, if_neg h0]
      have := step_er fx s hd
      rw [if_neg (by omega)]
def stepsF (fx : Mfix) : Nat -> Mst -> Int × Mst
 | 0, s => (0, s)
 | n + 1, s => if (stepF fx s).1 = 0 then stepsF fx n (stepF fx s).2 else stepF fx s
theorem stepsF_done (fx : Mfix) (n : Nat) (s : Mst) (hd : s.done = true) : (stepsF fx n s).2 = s /\ ((stepsF fx n s).1 = 0 \/ (stepsF fx n s).1 = 4) := by
 cases n with
 | zero => exact ⟨rfl, Or.inl rfl⟩
 | succ n =>
   have e : stepsF fx (n + 1) s = (4, s) := by
    rw [stepsF, step_done fx s hd]
    rfl
   rw [e]
   exact ⟨rfl, Or.inr rfl⟩
theorem run_steps (fx : Mfix) : ∀ (n : Nat) (s : Mst), (stepsF fx n s).2 = (runF fx n s).2 /\
 ((runF fx n s).1 = 0 -> (runF fx n s).2.done = true /\ ((stepsF fx n s).1 = 0 \/ (stepsF fx n s).1 = 4)) /\
 ((runF fx n s).1 = 88 -> (runF fx n s).2.done = false /\ (stepsF fx n s).1 = 0) /\
 ((runF fx n s).1 ≠ 0 -> (runF fx n s).1 ≠ 88 -> (runF fx n s).2.done = false /\ (stepsF fx n s).1 = (runF fx n s).1 /\ stepF fx (runF fx n s).2 = runF fx n s)
 | 0, s => by
   cases hd : s.done with
   | true =>
     rw [runF_done hd]
     exact ⟨rfl, fun _ => ⟨hd, Or.inl rfl⟩, fun h => absurd (show (0 : Int) = 88 from h) (by decide), fun h => absurd rfl h⟩
   | false =>
     have e : runF fx 0 s = (88, s) := by unfold runF; rw [hd]; rfl
     rw [e]
     exact ⟨rfl, fun h => absurd (show (88 : Int) = 0 from h) (by decide), fun _ => ⟨hd, rfl⟩, fun _ h => absurd rfl h⟩
 | n + 1, s => by
   cases hd : s.done with
   | true =>
     rw [runF_done hd]
     obtain ⟨h1, h2⟩ := stepsF_done fx (n + 1) s hd
     exact ⟨h1, fun _ => ⟨hd, h2⟩, fun h => absurd (show (0 : Int) = 88 from h) (by decide), fun h => absurd rfl h⟩
   | false =>
     have e2 : runF fx (n + 1) s = if (stepF fx s).1 = 0 then runF fx n (stepF fx s).2 else stepF fx s := by
      rw [runF, hd]
      rfl
     have e3 : stepsF fx (n + 1) s = if (stepF fx s).1 = 0 then stepsF fx n (stepF fx s).2 else stepF fx s := by
      rw [stepsF]
     rw [e2, e3]
     by_cases h0 : (stepF fx s).1 = 0
     ·rw [if_pos h0, if_pos h0]
      exact run_steps fx n _
     ·rw [if_neg h0, if_neg h0]
      have hk := step_keeps fx s h0
      have her := step_er fx s hd
      refine ⟨rfl, fun h => absurd h h0, fun h => absurd h (by omega), fun _ _ => ⟨by rw [hk]; exact hd, rfl, by rw [hk]⟩⟩
theorem run_count (fx : Mfix) (hops : ∀ i ∈ fx.code, i.op <= 39) : ∀ (n : Nat) (s : Mst), s.at' < fx.code.length -> (runF fx n s).1 = 88 -> (runF fx n s).2.steps = s.steps + n
 | 0, s, _, h => by
   have e : (runF fx 0 s).2 = s := by unfold runF; rfl
   rw [e]
   omega
 | n + 1, s, hat, h => by
   cases hd : s.done with
   | true => rw [runF_done hd] at h; exact absurd (show (0 : Int) = 88 from h) (by decide)
   | false =>
     have e2 : runF fx (n + 1) s = if (stepF fx s).1 = 0 then runF fx n (stepF fx s).2 else stepF fx s := by
      rw [runF, hd]
      rfl
     rw [e2] at h ⊢
     by_cases h0 : (stepF fx s).1 = 0
     ·rw [if_pos h0] at h ⊢
      obtain ⟨c1, c2⟩ : (stepF fx s).2.at' < fx.code.length /\ (stepF fx s).2.steps = s.steps + 1 := by
       have hg : fx.code[s.at']? = some fx.code[s.at'] := List.getElem?_eq_getElem hat
       have hop := hops _ (List.getElem_mem hat)
       have hg' : fx.code.getD s.at' ⟨0, false, false, 0, 0, 0, 0, 0⟩ = fx.code[s.at'] := by rw [List.getD_eq_getElem?_getD, hg]; rfl
       obtain ⟨q1, q2⟩ := doF_at (fx := fx) (s := s) hop
       revert h0
       unfold stepF
       rw [hd, if_neg (by decide)]
       simp only [hg']
       split
       ·rename_i hne
        intro h0
        exact absurd h0 hne
       ·split
        ·intro _
         exact ⟨by show (doF fx s fx.code[s.at']).s.at' < _; rw [q2]; exact hat, by show (doF fx s fx.code[s.at']).s.steps + 1 = _; rw [q1]⟩
        ·split
         ·rename_i j hj
          intro _
          exact ⟨(where_some hj).1, by show (doF fx s fx.code[s.at']).s.steps + 1 = _; rw [q1]⟩
         ·intro h0
          exact absurd h0 (by show (89 : Int) ≠ 0; decide)
      have := run_count fx hops n _ c1 h
      rw [this, c2]
      push_cast
      omega
     ·rw [if_neg h0] at h
      have := step_er fx s hd
      omega
end Go.Proofs.YtdepknffpnnmmaaGreat
