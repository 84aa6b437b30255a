/-
  Loads and stores, as steps of runs; the programs of MachMemory.
-/
import Derived.Test.YtdepknffpnnmmaaGreatMachBE
import Derived.Test.YtdepknffpnnmmaaGreatJ4a
namespace Go.Proofs.YtdepknffpnnmmaaGreat
open Go.RowKit
set_option linter.unusedVariables false
set_option linter.unusedSimpArgs false

section
variable {fx : Mfix} {s : Mst} {i : Ins}
theorem doF_load (h : i.op = 22 ∨ i.op = 23) : doF fx s i = loadD fx s i := by
  unfold doF
  rw [if_neg (by omega), if_neg (by omega), if_neg (by omega), if_pos (by omega)]
theorem doF_store (h : i.op = 24) : doF fx s i = storeD fx s i := by
  unfold doF
  rw [if_neg (by omega), if_neg (by omega), if_neg (by omega), if_neg (by omega), if_pos h]
theorem load_num (v : Val) (hv : s.reg i.src = v) (hk : 2 ≤ v.k) (hin : withinF fx s v (v.x + i.off) i.size = true) (hnp : ¬(v.k = 2 ∧ i.op = 22 ∧ i.size = 8 ∧ (v.x + i.off) % 8 = 0 ∧ 2 ≤ (slotF s.sl (v.x + i.off).toNat).p.k)) (hr : readableF s v (v.x + i.off) i.size = 0) :
    loadD fx s i = ⟨0, 0, s.setr i.dst (nval (getv (i.op == 23) (readF fx s v (v.x + i.off) i.size)))⟩ := by
  unfold loadD
  simp only [hv]
  rw [if_neg (by omega), if_neg (by rw [hin]; decide), if_neg hnp, hr]
  rfl
theorem load_bounds (v : Val) (hv : s.reg i.src = v) (hk : 2 ≤ v.k) (hin : withinF fx s v (v.x + i.off) i.size = false) : loadD fx s i = trapD s 81 := by
  unfold loadD
  simp only [hv]
  rw [if_neg (by omega), if_pos hin]
theorem load_bad (v : Val) (hv : s.reg i.src = v) (hk : 2 ≤ v.k) (hin : withinF fx s v (v.x + i.off) i.size = true) (hnp : ¬(v.k = 2 ∧ i.op = 22 ∧ i.size = 8 ∧ (v.x + i.off) % 8 = 0 ∧ 2 ≤ (slotF s.sl (v.x + i.off).toNat).p.k)) (e : Int) (hr : readableF s v (v.x + i.off) i.size = e) : (loadD fx s i).er = e := by
  unfold loadD
  simp only [hv]
  rw [if_neg (by omega), if_neg (by rw [hin]; decide), if_neg hnp, hr]
  rfl
theorem load_ptr (v : Val) (hv : s.reg i.src = v) (hk : v.k = 2) (hop : i.op = 22) (hsz : i.size = 8) (hal : (v.x + i.off) % 8 = 0) (hin : withinF fx s v (v.x + i.off) i.size = true) (hp : 2 ≤ (slotF s.sl (v.x + i.off).toNat).p.k) :
    loadD fx s i = ⟨0, 0, s.setr i.dst (slotF s.sl (v.x + i.off).toNat).p⟩ := by
  unfold loadD
  simp only [hv]
  rw [if_neg (by omega), if_neg (by rw [hin]; decide), if_pos ⟨hk, hop, hsz, hal, hp⟩]
theorem store_num (v : Val) (y : Int) (hv : s.reg i.dst = v) (hb : s.sec i = nval y) (hk : 2 ≤ v.k) (h4 : v.k ≠ 4) (hin : withinF fx s v (v.x + i.off) i.size = true) : storeD fx s i = ⟨0, 0, writeF fx s v (v.x + i.off) (putl i.size.toNat y)⟩ := by
  unfold storeD
  simp only [hv, hb]
  rw [if_neg (by rintro (h | h); omega; exact absurd (show (1 : Int) = 0 from h) (by decide)), if_neg h4, if_neg (by rw [hin]; decide), if_pos (show (nval y).k = 1 from rfl)]
  rfl
theorem store_bounds (v : Val) (hv : s.reg i.dst = v) (hk : 2 ≤ v.k) (hb : (s.sec i).k ≠ 0) (h4 : v.k ≠ 4) (hin : withinF fx s v (v.x + i.off) i.size = false) : storeD fx s i = trapD s 81 := by
  unfold storeD
  simp only [hv]
  rw [if_neg (by omega), if_neg h4, if_pos hin]
theorem store_ptr (v b : Val) (hv : s.reg i.dst = v) (hb : s.sec i = b) (hk : v.k = 2) (hbk : 2 ≤ b.k) (hsz : i.size = 8) (hal : (v.x + i.off) % 8 = 0) (hin : withinF fx s v (v.x + i.off) i.size = true) :
    storeD fx s i = ⟨0, 0, { s with sl := s.sl.set ((v.x + i.off).toNat / 8) ⟨b, [0, 0, 0, 0, 0, 0, 0, 0], 0⟩ }⟩ := by
  unfold storeD
  simp only [hv, hb]
  rw [if_neg (by omega), if_neg (by omega), if_neg (by rw [hin]; decide), if_neg (by omega), if_neg (by omega)]
theorem store_leak (v b : Val) (hv : s.reg i.dst = v) (hb : s.sec i = b) (hk : 2 ≤ v.k) (h4 : v.k ≠ 4) (hbk : 2 ≤ b.k) (hal : v.k ≠ 2 ∨ i.size ≠ 8 ∨ (v.x + i.off) % 8 ≠ 0) (hin : withinF fx s v (v.x + i.off) i.size = true) : storeD fx s i = trapD s 86 := by
  unfold storeD
  simp only [hv, hb]
  rw [if_neg (by omega), if_neg h4, if_neg (by rw [hin]; decide), if_neg (by omega), if_pos hal]
end
section
variable {fx : Mfix} {sl sl' : List Slot} {ctx ctx' : List Int} {rg rg' : List Val} {k : Nat} {n : Int} {i : Ins} {m : Nat}
theorem q_load (hg : fx.code[k]? = some i) (hop : i.op = 22 ∨ i.op = 23) (h : loadD fx (stm sl ctx rg k n) i = ⟨0, 0, stm sl ctx rg' k n⟩) (hk : k + 1 < fx.code.length) : runF fx (m + 1) (stm sl ctx rg k n) = runF fx m (stm sl ctx rg' (k + 1) (n + 1)) :=
  runF_go rfl (step_next (s' := stm sl ctx rg' k n) k rfl hg rfl (by omega) ((doF_load hop).trans h) hk)
theorem q_store (hg : fx.code[k]? = some i) (hop : i.op = 24) (h : storeD fx (stm sl ctx rg k n) i = ⟨0, 0, stm sl' ctx' rg k n⟩) (hk : k + 1 < fx.code.length) : runF fx (m + 1) (stm sl ctx rg k n) = runF fx m (stm sl' ctx' rg (k + 1) (n + 1)) :=
  runF_go rfl (step_next (s' := stm sl' ctx' rg k n) k rfl hg rfl (by omega) ((doF_store hop).trans h) hk)
theorem q_loadt (er : Int) (hg : fx.code[k]? = some i) (hop : i.op = 22 ∨ i.op = 23) (h : (loadD fx (stm sl ctx rg k n) i).er = er) (he : er ≠ 0) : runF fx (m + 1) (stm sl ctx rg k n) = (er, stm sl ctx rg k n) :=
  runF_trap rfl (step_err er hg rfl (by rw [doF_load hop]; exact h) he) he
theorem q_storet (er : Int) (hg : fx.code[k]? = some i) (hop : i.op = 24) (h : (storeD fx (stm sl ctx rg k n) i).er = er) (he : er ≠ 0) : runF fx (m + 1) (stm sl ctx rg k n) = (er, stm sl ctx rg k n) :=
  runF_trap rfl (step_err er hg rfl (by rw [doF_store hop]; exact h) he) he
end
theorem over_read (xs : List Int) (a : Nat) (b : List Int) (h : a ≤ xs.length) : ((overF xs a b).drop a).take b.length = b := by
  unfold overF
  rw [List.append_assoc, List.drop_append_of_le_length (by simp; omega), List.drop_eq_nil_of_le (by simp; omega), List.nil_append, List.take_left']
  rfl
theorem getv64 (v : Int) : getv true (putl 8 v) = getv false (putl 8 v) := by
  have hb := putl_bytes 8 v
  have hl := putl_length 8 v
  have hn := num_lt hb
  rw [hl] at hn
  unfold getv
  split
  · rfl
  · rw [hl, if_pos rfl, if_neg (by decide)]
    exact sgn64 (by have : (256 : Nat) ^ 8 = 18446744073709551616 := by decide
                    omega)
theorem right_store (size d s off : Int) (hsz : size = 1 ∨ size = 2 ∨ size = 4 ∨ size = 8) (hd : 0 ≤ d ∧ d ≤ 10) (hs : 0 ≤ s ∧ s ≤ 10) (ho : -32768 ≤ off ∧ off < 32768) : (Ins.mk 24 false true size d s off 0).right = 0 := by
  simp [Ins.right, rightc, formedv, sizesv, secondv, usesD, usesS, usesO, usesI, immFitsv, isRegv, writesDstv, writesSrcv]
  omega
theorem right_storei (size d off imm : Int) (hsz : size = 1 ∨ size = 2 ∨ size = 4 ∨ size = 8) (hd : 0 ≤ d ∧ d ≤ 10) (ho : -32768 ≤ off ∧ off < 32768) (hi : -2147483648 ≤ imm ∧ imm ≤ 2147483647) : (Ins.mk 24 false false size d 0 off imm).right = 0 := by
  simp [Ins.right, rightc, formedv, sizesv, secondv, usesD, usesS, usesO, usesI, immFitsv, isRegv, writesDstv, writesSrcv]
  omega
theorem right_load (op size d s off : Int) (hop : op = 22 ∧ (size = 1 ∨ size = 2 ∨ size = 4 ∨ size = 8) ∨ op = 23 ∧ (size = 1 ∨ size = 2 ∨ size = 4)) (hd : 0 ≤ d ∧ d ≤ 9) (hs : 0 ≤ s ∧ s ≤ 10) (ho : -32768 ≤ off ∧ off < 32768) : (Ins.mk op false false size d s off 0).right = 0 := by
  rcases hop with ⟨rfl, h⟩ | ⟨rfl, h⟩
  all_goals
    simp [Ins.right, rightc, formedv, sizesv, secondv, usesD, usesS, usesO, usesI, immFitsv, isRegv, writesDstv, writesSrcv]
    omega
def SizeM (k : Nat) : Prop := k = 1 ∨ k = 2 ∨ k = 4 ∨ k = 8
def insStore (k : Nat) (d s off : Int) : Ins := ⟨24, false, true, k, d, s, off, 0⟩
def insLoad (op : Int) (k : Nat) (d s off : Int) : Ins := ⟨op, false, false, k, d, s, off, 0⟩
/-- MachMemory's first program: to the context and back. -/
def pmc (k : Nat) (v t : Int) : List Ins := [insWide 3 v, insMov 4 1, insStore k 4 3 t, insLoad 22 k 0 4 t, insExit]
theorem pmc_ok (k : Nat) (v t : Int) (hk : SizeM k) (hv : i64r v) (ht : 0 ≤ t ∧ t < 32768) : ProgOK (pmc k v t) := by
  unfold SizeM at hk
  refine ⟨⟨by simp [pmc], by simp [pmc]⟩, fun i hi => ?_, fun j i hi hj => ?_⟩
  · simp only [pmc, List.mem_cons, List.not_mem_nil, or_false] at hi
    rcases hi with rfl | rfl | rfl | rfl | rfl
    · exact ⟨right_wide 3 v (by decide), hv, Or.inr (Or.inl rfl)⟩
    · exact ⟨right_movr 4 1 (by decide) (by decide), zero_r, Or.inl (by decide)⟩
    · exact ⟨right_store k 4 3 t (by omega) (by decide) (by decide) (by omega), zero_r, Or.inr (Or.inr (Or.inl (by show (22 : Int) ≤ 24 ∧ (24 : Int) ≤ 24; decide)))⟩
    · exact ⟨right_load 22 k 0 4 t (Or.inl ⟨rfl, by omega⟩) (by decide) (by decide) (by omega), zero_r, Or.inr (Or.inr (Or.inl (by show (22 : Int) ≤ 22 ∧ (22 : Int) ≤ 24; decide)))⟩
    · exact ⟨right_exit, zero_r, Or.inr (Or.inr (Or.inr (Or.inr rfl)))⟩
  · have : j = 4 := by simp [pmc] at hj; omega
    subst this
    have : i = insExit := by simpa [pmc] using hi.symm
    subst this
    exact Or.inr rfl
theorem pm_run (k : Nat) (v : Int) (t : Nat) (hk : SizeM k) (ctx : List Int) :
    ∃ s2, (t + k ≤ ctx.length → runF ⟨[], [], pmc k v t⟩ 1048576 (st0 ctx) = (0, s2) ∧ (s2.reg 0).x = getv false (putl k v) ∧ s2.ctx = overF ctx t (putl k v)) ∧ (ctx.length < t + k → runF ⟨[], [], pmc k v t⟩ 1048576 (st0 ctx) = (81, s2)) := by
  unfold SizeM at hk
  have e0 : runF ⟨[], [], pmc k v t⟩ 1048576 (stm (List.replicate 32 noslot) ctx (rg0 ctx.length) 0 0) = runF ⟨[], [], pmc k v t⟩ 1048575 (stm (List.replicate 32 noslot) ctx ((rg0 ctx.length).set 3 (nval v)) 1 1) :=
    q_wide (m := 1048575) (d := 3) (y := v) rfl (by simp [pmc])
  have e1 : runF ⟨[], [], pmc k v t⟩ 1048575 (stm (List.replicate 32 noslot) ctx ((rg0 ctx.length).set 3 (nval v)) 1 1) = runF ⟨[], [], pmc k v t⟩ 1048574 (stm (List.replicate 32 noslot) ctx (((rg0 ctx.length).set 3 (nval v)).set 4 ⟨3, 0, 0, 0⟩) 2 2) :=
    q_arith (m := 1048574) (i := insMov 4 1) (v := ⟨3, 0, 0, 0⟩) rfl (by decide) (av_mov _ ⟨3, 0, 0, 0⟩ (by decide)) (by simp [pmc])
  have hlen : ∀ (sl : List Slot) (c : List Int) (rg : List Val) (j : Nat) (n : Int), withinF ⟨[], [], pmc k v t⟩ (stm sl c rg j n) ⟨3, 0, 0, 0⟩ (0 + (t : Int)) (k : Int) = decide (t + k ≤ c.length) := by
    intro sl c rg j n
    show (decide (0 ≤ 0 + (t : Int)) && decide (0 + (t : Int) + (k : Int) ≤ (c.length : Int))) = _
    rw [decide_eq_true (by omega), Bool.true_and]
    simp only [decide_eq_decide]
    omega
  by_cases hb : t + k ≤ ctx.length
  · have e2 : runF ⟨[], [], pmc k v t⟩ 1048574 (stm (List.replicate 32 noslot) ctx (((rg0 ctx.length).set 3 (nval v)).set 4 ⟨3, 0, 0, 0⟩) 2 2) = runF ⟨[], [], pmc k v t⟩ 1048573 (stm (List.replicate 32 noslot) (overF ctx t (putl k v)) (((rg0 ctx.length).set 3 (nval v)).set 4 ⟨3, 0, 0, 0⟩) 3 3) := by
      refine q_store (m := 1048573) (i := insStore k 4 3 t) rfl rfl ?_ (by simp [pmc])
      refine (store_num ⟨3, 0, 0, 0⟩ v rfl rfl (by decide) (by decide) ((hlen _ _ _ _ _).trans (decide_eq_true hb))).trans ?_
      show Did.mk 0 0 (writeF _ (stm _ _ _ _ _) ⟨3, 0, 0, 0⟩ (0 + (t : Int)) (putl ((k : Int)).toNat v)) = _
      rw [Int.toNat_natCast, Int.zero_add]
      unfold writeF
      rw [if_neg (by decide), if_pos rfl, Int.toNat_natCast]
      rfl
    have hol : (overF ctx t (putl k v)).length = ctx.length := over_len ctx t _ (by rw [putl_length]; exact hb)
    have e3 : runF ⟨[], [], pmc k v t⟩ 1048573 (stm (List.replicate 32 noslot) (overF ctx t (putl k v)) (((rg0 ctx.length).set 3 (nval v)).set 4 ⟨3, 0, 0, 0⟩) 3 3) = runF ⟨[], [], pmc k v t⟩ 1048572 (stm (List.replicate 32 noslot) (overF ctx t (putl k v)) ((((rg0 ctx.length).set 3 (nval v)).set 4 ⟨3, 0, 0, 0⟩).set 0 (nval (getv false (putl k v)))) 4 4) := by
      refine q_load (m := 1048572) (i := insLoad 22 k 0 4 t) rfl (Or.inl rfl) ?_ (by simp [pmc])
      refine (load_num ⟨3, 0, 0, 0⟩ rfl (by decide) ((hlen _ _ _ _ _).trans (decide_eq_true (by rw [hol]; exact hb))) (fun h => absurd h.1 (by decide)) rfl).trans ?_
      have hr : readF ⟨[], [], pmc k v t⟩ (stm (List.replicate 32 noslot) (overF ctx t (putl k v)) (((rg0 ctx.length).set 3 (nval v)).set 4 ⟨3, 0, 0, 0⟩) 3 3) ⟨3, 0, 0, 0⟩ (0 + (t : Int)) (k : Int) = putl k v := by
        unfold readF
        rw [if_neg (by decide), if_pos rfl, Int.zero_add, Int.toNat_natCast, Int.toNat_natCast]
        have := over_read ctx t (putl k v) (by omega)
        rw [putl_length] at this
        exact this
      show Did.mk 0 0 ((stm _ _ _ _ _).setr 0 (nval (getv ((22 : Int) == 23) (readF _ (stm _ _ _ _ _) ⟨3, 0, 0, 0⟩ (0 + (t : Int)) (k : Int))))) = _
      rw [hr]
      rfl
    have e4 := q_exit (fx := ⟨[], [], pmc k v t⟩) (sl := List.replicate 32 noslot) (ctx := overF ctx t (putl k v)) (rg := (((rg0 ctx.length).set 3 (nval v)).set 4 ⟨3, 0, 0, 0⟩).set 0 (nval (getv false (putl k v)))) (k := 4) (n := 4) (m := 1048571) rfl rfl
    exact ⟨_, fun _ => ⟨e0.trans (e1.trans (e2.trans (e3.trans e4))), rfl, rfl⟩, fun h => absurd hb (by omega)⟩
  · have e2 : runF ⟨[], [], pmc k v t⟩ 1048574 (stm (List.replicate 32 noslot) ctx (((rg0 ctx.length).set 3 (nval v)).set 4 ⟨3, 0, 0, 0⟩) 2 2) = (81, stm (List.replicate 32 noslot) ctx (((rg0 ctx.length).set 3 (nval v)).set 4 ⟨3, 0, 0, 0⟩) 2 2) := by
      refine q_storet (m := 1048573) 81 (i := insStore k 4 3 t) rfl rfl ?_ (by decide)
      rw [store_bounds ⟨3, 0, 0, 0⟩ rfl (by decide) (by show (1 : Int) ≠ 0; decide) (by decide) ((hlen _ _ _ _ _).trans (decide_eq_false hb))]
      rfl
    exact ⟨_, fun h => absurd h hb, fun _ => e0.trans (e1.trans e2)⟩
/-- MachMemory's second program: to the stack and back. -/
def psc (op : Int) (k : Nat) (v o1 o2 : Int) : List Ins := [insWide 3 v, insStore k 10 3 o1, insLoad op k 0 10 o2, insExit]
theorem psc_ok (op : Int) (k : Nat) (v o1 o2 : Int) (hk : op = 22 ∧ k = 8 ∨ op = 23 ∧ (k = 1 ∨ k = 2 ∨ k = 4)) (hv : i64r v) (h1 : -32768 ≤ o1 ∧ o1 < 32768) (h2 : -32768 ≤ o2 ∧ o2 < 32768) : ProgOK (psc op k v o1 o2) := by
  refine ⟨⟨by simp [psc], by simp [psc]⟩, fun i hi => ?_, fun j i hi hj => ?_⟩
  · simp only [psc, List.mem_cons, List.not_mem_nil, or_false] at hi
    rcases hi with rfl | rfl | rfl | rfl
    · exact ⟨right_wide 3 v (by decide), hv, Or.inr (Or.inl rfl)⟩
    · exact ⟨right_store k 10 3 o1 (by omega) (by decide) (by decide) (by omega), zero_r, Or.inr (Or.inr (Or.inl (by show (22 : Int) ≤ 24 ∧ (24 : Int) ≤ 24; decide)))⟩
    · exact ⟨right_load op k 0 10 o2 (by omega) (by decide) (by decide) (by omega), zero_r, Or.inr (Or.inr (Or.inl (by show (22 : Int) ≤ op ∧ op ≤ 24; omega)))⟩
    · exact ⟨right_exit, zero_r, Or.inr (Or.inr (Or.inr (Or.inr rfl)))⟩
  · have : j = 3 := by simp [psc] at hj; omega
    subst this
    have : i = insExit := by simpa [psc] using hi.symm
    subst this
    exact Or.inr rfl
/-- What comes of the load: 0: the number; 1: beyond the stack; 2: a byte that was not written. -/
theorem ps_run (op : Int) (k s a : Nat) (v o2 : Int) (hk : op = 22 ∧ k = 8 ∨ op = 23 ∧ (k = 1 ∨ k = 2 ∨ k = 4)) (ho2 : (a : Int) = 256 + o2) (ctx : List Int) :
    ∃ s2, (256 < s + k → runF ⟨[], [], psc op k v ((s : Int) - 256) o2⟩ 1048576 (st0 ctx) = (81, s2)) ∧
      (s + k ≤ 256 → a = s → runF ⟨[], [], psc op k v ((s : Int) - 256) o2⟩ 1048576 (st0 ctx) = (0, s2) ∧ (s2.reg 0).x = getv true (putl k v) ∧ s2.ctx = ctx) ∧
      (s + k ≤ 256 → 256 < a + k → runF ⟨[], [], psc op k v ((s : Int) - 256) o2⟩ 1048576 (st0 ctx) = (81, s2)) ∧
      (s + k ≤ 256 → a + 1 = s → runF ⟨[], [], psc op k v ((s : Int) - 256) o2⟩ 1048576 (st0 ctx) = (82, s2)) := by
  obtain ⟨fx, hfx⟩ : ∃ fx : Mfix, fx = ⟨[], [], psc op k v ((s : Int) - 256) o2⟩ := ⟨_, rfl⟩
  have hc : fx.code = psc op k v ((s : Int) - 256) o2 := by rw [hfx]
  have hcl : fx.code.length = 4 := by rw [hc]; rfl
  rw [← hfx]
  have e0 : runF fx 1048576 (stm (List.replicate 32 noslot) ctx (rg0 ctx.length) 0 0) = runF fx 1048575 (stm (List.replicate 32 noslot) ctx ((rg0 ctx.length).set 3 (nval v)) 1 1) :=
    q_wide (m := 1048575) (d := 3) (y := v) (by rw [hc]; rfl) (by omega)
  have hw : ∀ (sl : List Slot) (c : List Int) (rg : List Val) (j : Nat) (n : Int) (q : Int), 0 ≤ 256 + q → withinF fx (stm sl c rg j n) ⟨2, 0, 0, 256⟩ (256 + q) (k : Int) = decide (256 + q + k ≤ 256) := by
    intro sl c rg j n q hq
    show (decide (0 ≤ 256 + q) && decide (256 + q + (k : Int) ≤ 256)) = _
    rw [decide_eq_true hq, Bool.true_and]
  by_cases hb : s + k ≤ 256
  · obtain ⟨h1, h2⟩ := read_back bare0 s (putl k v) (by rw [putl_length]; exact hb)
    rw [putl_length] at h1 h2
    obtain ⟨q1, q2, q3⟩ := wrF_bare (putl k v) _ s bare0 (by rw [putl_length]; exact hb)
    rw [putl_length] at q2
    have e1 : runF fx 1048575 (stm (List.replicate 32 noslot) ctx ((rg0 ctx.length).set 3 (nval v)) 1 1) = runF fx 1048574 (stm (wrF (List.replicate 32 noslot) s (putl k v)) ctx ((rg0 ctx.length).set 3 (nval v)) 2 2) := by
      refine q_store (m := 1048574) (i := insStore k 10 3 ((s : Int) - 256)) (by rw [hc]; rfl) rfl ?_ (by omega)
      refine (store_num ⟨2, 0, 0, 256⟩ v rfl rfl (by decide) (by decide) ((hw _ _ _ _ _ ((s : Int) - 256) (by omega)).trans (decide_eq_true (by omega)))).trans ?_
      show Did.mk 0 0 (writeF _ (stm _ _ _ _ _) ⟨2, 0, 0, 256⟩ (256 + ((s : Int) - 256)) (putl ((k : Int)).toNat v)) = _
      rw [Int.toNat_natCast, show 256 + ((s : Int) - 256) = (s : Int) by omega]
      unfold writeF
      rw [if_pos rfl, Int.toNat_natCast]
      rfl
    generalize wrF (List.replicate 32 noslot) s (putl k v) = W at *
    have hnp : ¬((Val.mk 2 0 0 256).k = 2 ∧ (insLoad op k 0 10 o2).op = 22 ∧ (insLoad op k 0 10 o2).size = 8 ∧ ((Val.mk 2 0 0 256).x + (insLoad op k 0 10 o2).off) % 8 = 0 ∧ 2 ≤ (slotF (stm W ctx ((rg0 ctx.length).set 3 (nval v)) 2 2).sl ((Val.mk 2 0 0 256).x + (insLoad op k 0 10 o2).off).toNat).p.k) := by
      rintro ⟨_, _, _, _, h⟩
      have := q1.ptr ((Val.mk 2 0 0 256).x + (insLoad op k 0 10 o2).off).toNat
      have h' : 2 ≤ (slotF W ((Val.mk 2 0 0 256).x + (insLoad op k 0 10 o2).off).toNat).p.k := h
      omega
    have hop : op = 22 ∨ op = 23 := by omega
    by_cases hin : a + k ≤ 256
    · have hwin : withinF fx (stm W ctx ((rg0 ctx.length).set 3 (nval v)) 2 2) ⟨2, 0, 0, 256⟩ (256 + o2) (k : Int) = true := (hw _ _ _ _ _ o2 (by omega)).trans (decide_eq_true (by omega))
      by_cases has : a = s
      · subst has
        have hrd : readableF (stm W ctx ((rg0 ctx.length).set 3 (nval v)) 2 2) ⟨2, 0, 0, 256⟩ (256 + o2) (k : Int) = 0 := by
          unfold readableF
          rw [if_neg (by decide), ← ho2, Int.toNat_natCast, Int.toNat_natCast]
          exact h2
        have hrf : readF fx (stm W ctx ((rg0 ctx.length).set 3 (nval v)) 2 2) ⟨2, 0, 0, 256⟩ (256 + o2) (k : Int) = putl k v := by
          unfold readF
          rw [if_pos rfl, ← ho2, Int.toNat_natCast, Int.toNat_natCast]
          exact h1
        have hg : getv (op == 23) (putl k v) = getv true (putl k v) := by
          rcases hk with ⟨rfl, rfl⟩ | ⟨rfl, _⟩
          · exact (getv64 v).symm
          · rfl
        have e2 : runF fx 1048574 (stm W ctx ((rg0 ctx.length).set 3 (nval v)) 2 2) = runF fx 1048573 (stm W ctx (((rg0 ctx.length).set 3 (nval v)).set 0 (nval (getv true (putl k v)))) 3 3) := by
          refine q_load (m := 1048573) (i := insLoad op k 0 10 o2) (by rw [hc]; rfl) hop ?_ (by omega)
          refine (load_num ⟨2, 0, 0, 256⟩ rfl (by decide) hwin hnp hrd).trans ?_
          show Did.mk 0 0 ((stm _ _ _ _ _).setr 0 (nval (getv (op == 23) (readF _ (stm _ _ _ _ _) ⟨2, 0, 0, 256⟩ (256 + o2) (k : Int))))) = _
          rw [hrf, hg]
          rfl
        have e3 := q_exit (fx := fx) (sl := W) (ctx := ctx) (rg := ((rg0 ctx.length).set 3 (nval v)).set 0 (nval (getv true (putl k v)))) (k := 3) (n := 3) (m := 1048572) (by rw [hc]; rfl) rfl
        exact ⟨_, fun h => absurd hb (by omega), fun _ _ => ⟨e0.trans (e1.trans (e2.trans e3)), rfl, rfl⟩, fun _ h => absurd hin (by omega), fun _ h => absurd h (by omega)⟩
      · by_cases ha1 : a + 1 = s
        · have hrd : readableF (stm W ctx ((rg0 ctx.length).set 3 (nval v)) 2 2) ⟨2, 0, 0, 256⟩ (256 + o2) (k : Int) = 82 := by
            unfold readableF
            rw [if_neg (by decide), ← ho2, Int.toNat_natCast, Int.toNat_natCast]
            refine read_init q1 a k 0 (by omega) ?_
            rw [q2, bitA0, Bool.or_false, Nat.add_zero, decide_eq_false (by omega)]
            rfl
          have e2 : runF fx 1048574 (stm W ctx ((rg0 ctx.length).set 3 (nval v)) 2 2) = (82, stm W ctx ((rg0 ctx.length).set 3 (nval v)) 2 2) :=
            q_loadt (m := 1048573) 82 (i := insLoad op k 0 10 o2) (by rw [hc]; rfl) hop (load_bad ⟨2, 0, 0, 256⟩ rfl (by decide) hwin hnp 82 hrd) (by decide)
          exact ⟨_, fun h => absurd hb (by omega), fun _ h => absurd h has, fun _ h => absurd hin (by omega), fun _ _ => e0.trans (e1.trans e2)⟩
        · exact ⟨st0 ctx, fun h => absurd hb (by omega), fun _ h => absurd h has, fun _ h => absurd hin (by omega), fun _ h => absurd h ha1⟩
    · have e2 : runF fx 1048574 (stm W ctx ((rg0 ctx.length).set 3 (nval v)) 2 2) = (81, stm W ctx ((rg0 ctx.length).set 3 (nval v)) 2 2) := by
        refine q_loadt (m := 1048573) 81 (i := insLoad op k 0 10 o2) (by rw [hc]; rfl) hop ?_ (by decide)
        rw [load_bounds ⟨2, 0, 0, 256⟩ rfl (by decide) ((hw _ _ _ _ _ o2 (by omega)).trans (decide_eq_false (by omega)))]
        rfl
      exact ⟨_, fun h => absurd hb (by omega), fun _ h => absurd hin (by omega), fun _ _ => e0.trans (e1.trans e2), fun _ h => absurd hin (by omega)⟩
  · have e1 : runF fx 1048575 (stm (List.replicate 32 noslot) ctx ((rg0 ctx.length).set 3 (nval v)) 1 1) = (81, stm (List.replicate 32 noslot) ctx ((rg0 ctx.length).set 3 (nval v)) 1 1) := by
      refine q_storet (m := 1048574) 81 (i := insStore k 10 3 ((s : Int) - 256)) (by rw [hc]; rfl) rfl ?_ (by decide)
      rw [store_bounds ⟨2, 0, 0, 256⟩ rfl (by decide) (by show (1 : Int) ≠ 0; decide) (by decide) ((hw _ _ _ _ _ ((s : Int) - 256) (by omega)).trans (decide_eq_false (by omega)))]
      rfl
    exact ⟨_, fun _ => e0.trans e1, fun h => absurd h hb, fun h => absurd h hb, fun h => absurd h hb⟩
end Go.Proofs.YtdepknffpnnmmaaGreat
