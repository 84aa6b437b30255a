/-
  Calls as doers of plain data; MachHelps' programs, run.
-/
import Derived.Test.YtdepknffpnnmmaaGreatMachCA
import Derived.Test.YtdepknffpnnmmaaGreatMachAW
namespace Go.Proofs.YtdepknffpnnmmaaGreat
open Go.RowKit
set_option linter.unusedVariables false
set_option linter.unusedSimpArgs false

theorem doF_call' {fx : Mfix} {s : Mst} {i : Ins} (h : i.op = 38) : doF fx s i = callD fx s i := by
  unfold doF
  rw [if_neg (by omega), if_neg (by omega), if_neg (by omega), if_neg (by omega), if_neg (by omega), if_neg (by omega), if_neg (by omega), if_neg (by omega), if_pos h]
theorem do_callD {fx : Mfix} {s : Mst} (h : Good fx s) (i : Ins) (hop : i.op = 38) (h8 : 1 ≤ i.imm ∧ i.imm ≤ 8) : DoR (doerF i.op) fx s i (callD fx s i).by' (callD fx s i).er (callD fx s i).s := by
  have hF : doerF i.op = 75 := by
    unfold doerF
    rw [if_neg (by omega), if_neg (by omega), if_neg (by omega), if_neg (by omega), if_neg (by omega), if_neg (by omega), if_neg (by omega), if_neg (by omega), if_pos hop]
  rw [hF, call_by]
  intro base w0 bx v w hM
  obtain ⟨op, nar, reg, size, dst, src, off, imm⟩ := i
  exact call_walk op nar reg size dst src off imm h8 h w hM
/-- MachHelps' instructions. -/
def CallK (i : Ins) : Prop := Known i.op ∨ (i.op = 38 ∧ 1 ≤ i.imm ∧ i.imm ≤ 8)
theorem do_callK : X.DoK CallK := by
  refine ⟨fun {fx s} h i hi hk => ?_, fun i hk => ?_⟩
  · rcases hk with hk | ⟨hk, h8⟩
    · exact do_F h i hi hk
    · rw [doF_call' hk]
      exact do_callD h i hk h8
  · rcases hk with hk | hk
    · unfold Known at hk; omega
    · omega
theorem k32 : ¬ (3 : Int) = 2 := by decide
theorem k10 : (1 : Int) ≠ 0 := by decide
theorem k30 : (3 : Int) ≠ 0 := by decide
theorem o1 : (1 : Int) ≤ 15 := by decide
theorem o15 : (15 : Int) ≤ 15 := by decide
def insHelp (id : Int) : Ins := ⟨38, false, false, 0, 0, 0, 0, id⟩
theorem right_help (id : Int) (h : 1 ≤ id ∧ id ≤ 8) : (insHelp id).right = 0 ∧ i64r (insHelp id).imm ∧ CallK (insHelp id) := by
  refine ⟨?_, ?_, Or.inr ⟨rfl, h⟩⟩
  · rcases ids h with rfl | rfl | rfl | rfl | rfl | rfl | rfl | rfl <;> decide
  · show i64r id
    unfold i64r; omega
theorem piece_ctx' (fx : Mfix) (s : Mst) (f k : Nat) (wr : Bool) : pieceF fx s ⟨3, 0, 0, (f : Int)⟩ (k : Int) wr = decide (f + k ≤ s.ctx.length) := by
  unfold pieceF withinF lenF readableF
  rw [if_neg (show ¬ (Val.mk 3 0 0 (f : Int)).k = 2 from k32), if_pos (show (Val.mk 3 0 0 (f : Int)).k = 3 from rfl), if_pos (show (Val.mk 3 0 0 (f : Int)).k ≠ 2 from k32)]
  by_cases h : f + k ≤ s.ctx.length
  · have h1 : (f : Int) + (k : Int) ≤ (s.ctx.length : Int) := by omega
    cases wr <;> simp [h, h1]
  · have h1 : ¬ (f : Int) + (k : Int) ≤ (s.ctx.length : Int) := by omega
    cases wr <;> simp [h, h1]
theorem lens_num (k : Nat) (h : k ≤ 65535) : lensF (nval k) = true := by
  show (((1 : Int) == 1) && decide (0 ≤ (k : Int)) && decide ((k : Int) ≤ 65535)) = true
  simp
  omega
theorem read_ctx' (fx : Mfix) (s : Mst) (f k : Nat) : readF fx s ⟨3, 0, 0, (f : Int)⟩ (f : Int) (k : Int) = (s.ctx.drop f).take k := by
  unfold readF
  rw [if_neg (show ¬ (Val.mk 3 0 0 (f : Int)).k = 2 from k32), if_pos (show (Val.mk 3 0 0 (f : Int)).k = 3 from rfl), Int.toNat_natCast, Int.toNat_natCast]
section
variable {fx : Mfix} {s : Mst} {f t k : Nat} {x : Int}
theorem call_sum (h1 : s.reg 1 = ⟨3, 0, 0, (f : Int)⟩) (h2 : s.reg 2 = nval k) (h3 : s.reg 3 = nval x) (hk : k ≤ 65535) (id : Int) (hid : id = 1 ∨ id = 5) :
    callD fx s (insHelp id) = if f + k ≤ s.ctx.length then ⟨0, 0, endF s (nval (if id = 1 then sumv ((s.ctx.drop f).take k) x else findv ((s.ctx.drop f).take k) (x % 256)))⟩ else trapD s 87 := by
  have ha : askedF fx s id = decide (f + k ≤ s.ctx.length) := by
    unfold askedF
    rw [if_pos hid, h1, h2, h3, lens_num k hk]
    show (true && ((1 : Int) == 1) && pieceF fx s ⟨3, 0, 0, (f : Int)⟩ (k : Int) false) = _
    rw [piece_ctx']
    rfl
  have hb : bytesF fx s 1 2 = (s.ctx.drop f).take k := by
    unfold bytesF
    rw [h1, h2]
    exact read_ctx' fx s f k
  unfold callD
  rw [if_neg (by show ¬ (id < 1 ∨ 8 < id); omega)]
  show (if askedF fx s id = false then _ else _) = _
  rw [ha]
  by_cases hc : f + k ≤ s.ctx.length
  · rw [if_neg (by simp [hc]), if_pos hc, hb, h3]
    rcases hid with rfl | rfl
    · rw [if_pos (by show (1 : Int) = 1; rfl), if_pos rfl]
      rfl
    · rw [if_neg (by show ¬ (5 : Int) = 1; decide), if_neg (by show ¬ (5 : Int) = 2; decide), if_neg (by show ¬ (5 : Int) = 3; decide), if_neg (by show ¬ (5 : Int) = 4; decide), if_pos (by show (5 : Int) = 5; rfl), if_neg (by decide)]
      rfl
  · rw [if_pos (by simp [hc]), if_neg hc]
theorem call_diff (h1 : s.reg 1 = ⟨3, 0, 0, (t : Int)⟩) (h2 : s.reg 2 = ⟨3, 0, 0, (f : Int)⟩) (h3 : s.reg 3 = nval k) (hk : k ≤ 65535) :
    callD fx s (insHelp 4) = if f + k ≤ s.ctx.length ∧ t + k ≤ s.ctx.length then ⟨0, 0, endF s (nval (cmpv ((s.ctx.drop t).take k) ((s.ctx.drop f).take k)))⟩ else trapD s 87 := by
  have ha : askedF fx s 4 = (decide (t + k ≤ s.ctx.length) && decide (f + k ≤ s.ctx.length)) := by
    unfold askedF
    rw [if_neg (by decide), if_neg (by decide), if_neg (by decide), if_pos rfl, h1, h2, h3, lens_num k hk]
    show (true && pieceF fx s ⟨3, 0, 0, (t : Int)⟩ (k : Int) false && pieceF fx s ⟨3, 0, 0, (f : Int)⟩ (k : Int) false) = _
    rw [piece_ctx', piece_ctx']
    rfl
  have hb : bytesF fx s 1 3 = (s.ctx.drop t).take k := by
    unfold bytesF
    rw [h1, h3]
    exact read_ctx' fx s t k
  have hb2 : bytesF fx s 2 3 = (s.ctx.drop f).take k := by
    unfold bytesF
    rw [h2, h3]
    exact read_ctx' fx s f k
  unfold callD
  rw [if_neg (by show ¬ ((4 : Int) < 1 ∨ 8 < (4 : Int)); omega)]
  show (if askedF fx s 4 = false then _ else _) = _
  rw [ha]
  by_cases hc : f + k ≤ s.ctx.length ∧ t + k ≤ s.ctx.length
  · rw [if_neg (by simp [hc.1, hc.2]), if_pos hc, hb, hb2]
    rw [if_neg (by show ¬ (4 : Int) = 1; decide), if_neg (by show ¬ (4 : Int) = 2; decide), if_neg (by show ¬ (4 : Int) = 3; decide), if_pos (by show (4 : Int) = 4; rfl)]
  · rw [if_pos (by
      have : ¬ (t + k ≤ s.ctx.length ∧ f + k ≤ s.ctx.length) := fun h => hc ⟨h.2, h.1⟩
      simpa using this), if_neg hc]
theorem call_copy (h1 : s.reg 1 = ⟨3, 0, 0, (t : Int)⟩) (h2 : s.reg 2 = ⟨3, 0, 0, (f : Int)⟩) (h3 : s.reg 3 = nval k) (hk : k ≤ 65535) :
    callD fx s (insHelp 2) = if f + k ≤ s.ctx.length ∧ t + k ≤ s.ctx.length then ⟨0, 0, endF { s with ctx := overF s.ctx t ((s.ctx.drop f).take k) } (nval 0)⟩ else trapD s 87 := by
  have ha : askedF fx s 2 = (decide (t + k ≤ s.ctx.length) && decide (f + k ≤ s.ctx.length)) := by
    unfold askedF
    rw [if_neg (by decide), if_pos rfl, h1, h2, h3, lens_num k hk]
    show (true && pieceF fx s ⟨3, 0, 0, (t : Int)⟩ (k : Int) true && pieceF fx s ⟨3, 0, 0, (f : Int)⟩ (k : Int) false) = _
    rw [piece_ctx', piece_ctx']
    rfl
  have hb2 : bytesF fx s 2 3 = (s.ctx.drop f).take k := by
    unfold bytesF
    rw [h2, h3]
    exact read_ctx' fx s f k
  have hw : ∀ b, writeF fx s (s.reg 1) (s.reg 1).x b = { s with ctx := overF s.ctx t b } := fun b => by
    rw [h1]
    unfold writeF
    rw [if_neg (show ¬ (Val.mk 3 0 0 (t : Int)).k = 2 from k32), if_pos rfl, Int.toNat_natCast]
  unfold callD
  rw [if_neg (by show ¬ ((2 : Int) < 1 ∨ 8 < (2 : Int)); omega)]
  show (if askedF fx s 2 = false then _ else _) = _
  rw [ha]
  by_cases hc : f + k ≤ s.ctx.length ∧ t + k ≤ s.ctx.length
  · rw [if_neg (by simp [hc.1, hc.2]), if_pos hc, hb2, hw]
    rw [if_neg (by show ¬ (2 : Int) = 1; decide), if_pos (by show (2 : Int) = 2; rfl)]
  · rw [if_pos (by
      have : ¬ (t + k ≤ s.ctx.length ∧ f + k ≤ s.ctx.length) := fun h => hc ⟨h.2, h.1⟩
      simpa using this), if_neg hc]
theorem call_fill (h1 : s.reg 1 = ⟨3, 0, 0, (f : Int)⟩) (h2 : s.reg 2 = nval x) (h3 : s.reg 3 = nval k) (hk : k ≤ 65535) :
    callD fx s (insHelp 3) = if f + k ≤ s.ctx.length then ⟨0, 0, endF { s with ctx := overF s.ctx f (List.replicate k (x % 256)) } (nval 0)⟩ else trapD s 87 := by
  have ha : askedF fx s 3 = decide (f + k ≤ s.ctx.length) := by
    unfold askedF
    rw [if_neg (by decide), if_neg (by decide), if_pos rfl, h1, h2, h3, lens_num k hk]
    show (((1 : Int) == 1) && true && pieceF fx s ⟨3, 0, 0, (f : Int)⟩ (k : Int) true) = _
    rw [piece_ctx']
    rfl
  have hw : ∀ b, writeF fx s (s.reg 1) (s.reg 1).x b = { s with ctx := overF s.ctx f b } := fun b => by
    rw [h1]
    unfold writeF
    rw [if_neg (show ¬ (Val.mk 3 0 0 (f : Int)).k = 2 from k32), if_pos rfl, Int.toNat_natCast]
  unfold callD
  rw [if_neg (by show ¬ ((3 : Int) < 1 ∨ 8 < (3 : Int)); omega)]
  show (if askedF fx s 3 = false then _ else _) = _
  rw [ha]
  by_cases hc : f + k ≤ s.ctx.length
  · rw [if_neg (by simp [hc]), if_pos hc]
    rw [if_neg (by show ¬ (3 : Int) = 1; decide), if_neg (by show ¬ (3 : Int) = 2; decide), if_pos (by show (3 : Int) = 3; rfl), hw, h2, h3]
    show Did.mk 0 0 (endF { s with ctx := overF s.ctx f (List.replicate ((k : Int)).toNat (x % 256)) } (nval 0)) = _
    rw [Int.toNat_natCast]
  · rw [if_pos (by simp [hc]), if_neg hc]
theorem call_mix {y : Int} (h1 : s.reg 1 = nval x) (h2 : s.reg 2 = nval y) : callD fx s (insHelp 8) = ⟨0, 0, endF s (nval (wrap64 ((mixv (un x) (un y) : Nat) : Int)))⟩ := by
  have ha : askedF fx s 8 = true := by
    unfold askedF
    rw [if_neg (by decide), if_neg (by decide), if_neg (by decide), if_neg (by decide), if_neg (by decide), h1, h2]
    rfl
  unfold callD
  rw [if_neg (by show ¬ ((8 : Int) < 1 ∨ 8 < (8 : Int)); omega)]
  show (if askedF fx s 8 = false then _ else _) = _
  rw [ha, if_neg (by decide), h1, h2]
  rw [if_neg (by show ¬ (8 : Int) = 1; decide), if_neg (by show ¬ (8 : Int) = 2; decide), if_neg (by show ¬ (8 : Int) = 3; decide), if_neg (by show ¬ (8 : Int) = 4; decide), if_neg (by show ¬ (8 : Int) = 5; decide), if_neg (by show ¬ (8 : Int) = 6; decide), if_neg (by show ¬ (8 : Int) = 7; decide)]
  rfl
end
section
variable {fx : Mfix} {sl : List Slot} {ctx ctx' : List Int} {rg rg' : List Val} {k : Nat} {n : Int} {m : Nat} {id : Int}
theorem q_call (hg : fx.code[k]? = some (insHelp id)) (hd : callD fx (stm sl ctx rg k n) (insHelp id) = ⟨0, 0, stm sl ctx' rg' k n⟩) (hk : k + 1 < fx.code.length) :
    runF fx (m + 1) (stm sl ctx rg k n) = runF fx m (stm sl ctx' rg' (k + 1) (n + 1)) :=
  runF_go rfl (step_next (s' := stm sl ctx' rg' k n) k rfl hg rfl (by show (38 : Int) ≠ 39; decide) ((doF_call' rfl).trans hd) hk)
theorem q_callT (hg : fx.code[k]? = some (insHelp id)) (hd : callD fx (stm sl ctx rg k n) (insHelp id) = trapD (stm sl ctx rg k n) 87) :
    runF fx (m + 1) (stm sl ctx rg k n) = (87, stm sl ctx rg k n) :=
  runF_trap rfl (step_err 87 hg rfl (by rw [doF_call' rfl, hd]; rfl) (by decide)) (by decide)
end
abbrev rp0 : List Slot := List.replicate 32 noslot
/-- A program's run: its trap, r0, the context. -/
def RunsTo (code : List Ins) (cx : List Int) (er r0 : Int) (cx' : List Int) : Prop := ∃ s2, runF ⟨[], [], code⟩ 1048576 (st0 cx) = (er, s2) ∧ (er = 0 → (s2.reg 0).x = r0 ∧ s2.ctx = cx') ∧ (er ≠ 0 → r0 = 0)
def oneC (f k : Nat) (x id : Int) : List Ins := [insOpi 1 1 f, insMovi 2 k, insWide 3 x, insHelp id, insExit]
theorem oneC_ok (f k : Nat) (x id : Int) (hf : f ≤ 300) (hk : k ≤ 301) (hx : i64r x) (hid : 1 ≤ id ∧ id ≤ 8) : X.ProgOK CallK (oneC f k x id) := by
  refine ⟨⟨by simp [oneC], by simp [oneC]⟩, fun i hi => ?_, fun j i hi hj => ?_⟩
  · simp only [oneC, List.mem_cons, List.not_mem_nil, or_false] at hi
    rcases hi with rfl | rfl | rfl | rfl | rfl
    · exact ⟨right_addi 1 1 f (Or.inl rfl) (by decide) (by omega), (by show i64r (f : Int); unfold i64r; omega), Or.inl (Or.inl (by show (1 : Int) ≤ 15; decide))⟩
    · exact ⟨right_addi 15 2 k (Or.inr (Or.inr rfl)) (by decide) (by omega), (by show i64r (k : Int); unfold i64r; omega), Or.inl (Or.inl (by show (15 : Int) ≤ 15; decide))⟩
    · exact ⟨right_wide 3 x (by decide), hx, Or.inl (Or.inr (Or.inl rfl))⟩
    · exact right_help id hid
    · exact ⟨right_exit, zero_r, Or.inl (Or.inr (Or.inr (Or.inr (Or.inr rfl))))⟩
  · have : j = 4 := by simp [oneC] at hj; omega
    subst this
    obtain rfl : i = insExit := by simpa [oneC] using hi.symm
    exact Or.inr rfl
theorem one_run (cx : List Int) (f k : Nat) (x id : Int) (hid : id = 1 ∨ id = 5) (hf : f ≤ 300) (hk : k ≤ 301) :
    RunsTo (oneC f k x id) cx (if f + k ≤ cx.length then 0 else 87) (if f + k ≤ cx.length then (if id = 1 then sumv ((cx.drop f).take k) x else findv ((cx.drop f).take k) (x % 256)) else 0) cx := by
  obtain ⟨F, hF⟩ : ∃ F : Mfix, F = ⟨[], [], oneC f k x id⟩ := ⟨_, rfl⟩
  obtain ⟨V, hV⟩ : ∃ V : Val, V = ⟨3, 0, 0, 0 + (f : Int)⟩ := ⟨_, rfl⟩
  have hVf : V = ⟨3, 0, 0, (f : Int)⟩ := by rw [hV, Int.zero_add]
  have e0 : runF F 1048576 (stm rp0 cx (rg0 cx.length) 0 0) = runF F 1048575 (stm rp0 cx ((rg0 cx.length).set 1 V) 1 1) := by
    subst hF hV
    exact q_arith (m := 1048575) (i := insOpi 1 1 f) (v := ⟨3, 0, 0, 0 + f⟩) rfl o1 ((av_addp ⟨3, 0, 0, 0⟩ (nval f) (by decide) rfl).trans (moved_in _ _ (by show _ ≤ 0 + (f : Int) ∧ 0 + (f : Int) ≤ _; omega) (by show _ ≤ (f : Int) ∧ (f : Int) ≤ _; omega))) (by simp [oneC])
  have e1 : runF F 1048575 (stm rp0 cx ((rg0 cx.length).set 1 V) 1 1) = runF F 1048574 (stm rp0 cx (((rg0 cx.length).set 1 V).set 2 (nval k)) 2 2) := by
    subst hF
    exact q_arith (m := 1048574) (i := insMovi 2 k) (v := nval k) rfl o15 (av_mov _ _ k10) (by simp [oneC])
  have e2 : runF F 1048574 (stm rp0 cx (((rg0 cx.length).set 1 V).set 2 (nval k)) 2 2) = runF F 1048573 (stm rp0 cx ((((rg0 cx.length).set 1 V).set 2 (nval k)).set 3 (nval x)) 3 3) := by
    subst hF
    exact q_wide (m := 1048573) (d := 3) (y := x) rfl (by simp [oneC])
  have hg : F.code[3]? = some (insHelp id) := by subst hF; rfl
  have hl : 3 + 1 < F.code.length := by subst hF; simp [oneC]
  have hcl := call_sum (fx := F) (s := stm rp0 cx ((((rg0 cx.length).set 1 V).set 2 (nval k)).set 3 (nval x)) 3 3) (f := f) (k := k) (x := x) (hVf ▸ rfl) rfl rfl (by omega) id hid
  by_cases hc : f + k ≤ cx.length
  · rw [if_pos (show f + k ≤ (stm rp0 cx ((((rg0 cx.length).set 1 V).set 2 (nval k)).set 3 (nval x)) 3 3).ctx.length from hc)] at hcl
    rw [if_pos hc, if_pos hc]
    have e3 := q_call (m := 1048572) (rg' := _) (ctx' := cx) hg hcl hl
    have e4 := q_exit (fx := F) (m := 1048571) (sl := rp0) (ctx := cx) (k := 4) (n := 3 + 1) (rg := _) (by subst hF; rfl) (show ((stm rp0 cx (endF (stm rp0 cx ((((rg0 cx.length).set 1 V).set 2 (nval k)).set 3 (nval x)) 3 3) (nval (if id = 1 then sumv ((cx.drop f).take k) x else findv ((cx.drop f).take k) (x % 256)))).rg 4 (3 + 1)).reg 0).k = 1 from rfl)
    subst hF
    exact ⟨_, e0.trans (e1.trans (e2.trans (e3.trans e4))), fun _ => ⟨rfl, rfl⟩, fun h => absurd rfl h⟩
  · rw [if_neg (show ¬ f + k ≤ (stm rp0 cx ((((rg0 cx.length).set 1 V).set 2 (nval k)).set 3 (nval x)) 3 3).ctx.length from hc)] at hcl
    rw [if_neg hc, if_neg hc]
    have e3 := q_callT (m := 1048572) hg hcl
    subst hF
    exact ⟨_, e0.trans (e1.trans (e2.trans e3)), fun h => absurd h (by decide), fun _ => rfl⟩
def twoC (f t k : Nat) (id : Int) : List Ins := [insMov 2 1, insOpi 1 1 t, insOpi 1 2 f, insMovi 3 k, insHelp id, insExit]
theorem twoC_ok (f t k : Nat) (id : Int) (hf : f ≤ 300) (ht : t ≤ 300) (hk : k ≤ 301) (hid : 1 ≤ id ∧ id ≤ 8) : X.ProgOK CallK (twoC f t k id) := by
  refine ⟨⟨by simp [twoC], by simp [twoC]⟩, fun i hi => ?_, fun j i hi hj => ?_⟩
  · simp only [twoC, List.mem_cons, List.not_mem_nil, or_false] at hi
    rcases hi with rfl | rfl | rfl | rfl | rfl | rfl
    · exact ⟨right_movr 2 1 (by decide) (by decide), zero_r, Or.inl (Or.inl (by show (15 : Int) ≤ 15; decide))⟩
    · exact ⟨right_addi 1 1 t (Or.inl rfl) (by decide) (by omega), (by show i64r (t : Int); unfold i64r; omega), Or.inl (Or.inl (by show (1 : Int) ≤ 15; decide))⟩
    · exact ⟨right_addi 1 2 f (Or.inl rfl) (by decide) (by omega), (by show i64r (f : Int); unfold i64r; omega), Or.inl (Or.inl (by show (1 : Int) ≤ 15; decide))⟩
    · exact ⟨right_addi 15 3 k (Or.inr (Or.inr rfl)) (by decide) (by omega), (by show i64r (k : Int); unfold i64r; omega), Or.inl (Or.inl (by show (15 : Int) ≤ 15; decide))⟩
    · exact right_help id hid
    · exact ⟨right_exit, zero_r, Or.inl (Or.inr (Or.inr (Or.inr (Or.inr rfl))))⟩
  · have : j = 5 := by simp [twoC] at hj; omega
    subst this
    obtain rfl : i = insExit := by simpa [twoC] using hi.symm
    exact Or.inr rfl
theorem two_run (cx : List Int) (f t k : Nat) (id : Int) (hid : id = 2 ∨ id = 4) (hf : f ≤ 300) (ht : t ≤ 300) (hk : k ≤ 301) :
    RunsTo (twoC f t k id) cx (if f + k ≤ cx.length ∧ t + k ≤ cx.length then 0 else 87) (if f + k ≤ cx.length ∧ t + k ≤ cx.length ∧ id = 4 then cmpv ((cx.drop t).take k) ((cx.drop f).take k) else 0) (if id = 2 then overF cx t ((cx.drop f).take k) else cx) := by
  obtain ⟨F, hF⟩ : ∃ F : Mfix, F = ⟨[], [], twoC f t k id⟩ := ⟨_, rfl⟩
  obtain ⟨V, hV⟩ : ∃ V : Val, V = ⟨3, 0, 0, 0 + (f : Int)⟩ := ⟨_, rfl⟩
  have hVf : V = ⟨3, 0, 0, (f : Int)⟩ := by rw [hV, Int.zero_add]
  obtain ⟨U, hU⟩ : ∃ U : Val, U = ⟨3, 0, 0, 0 + (t : Int)⟩ := ⟨_, rfl⟩
  have hUt : U = ⟨3, 0, 0, (t : Int)⟩ := by rw [hU, Int.zero_add]
  obtain ⟨R1, hR1⟩ : ∃ R, R = (rg0 cx.length).set 2 ⟨3, 0, 0, 0⟩ := ⟨_, rfl⟩
  have e0 : runF F 1048576 (stm rp0 cx (rg0 cx.length) 0 0) = runF F 1048575 (stm rp0 cx R1 1 1) := by
    subst hF hR1
    exact q_arith (m := 1048575) (i := insMov 2 1) (v := ⟨3, 0, 0, 0⟩) rfl o15 (av_mov _ _ k30) (by simp [twoC])
  have e1 : runF F 1048575 (stm rp0 cx R1 1 1) = runF F 1048574 (stm rp0 cx (R1.set 1 U) 2 2) := by
    subst hF hU hR1
    exact q_arith (m := 1048574) (i := insOpi 1 1 t) (v := ⟨3, 0, 0, 0 + t⟩) rfl o1 ((av_addp ⟨3, 0, 0, 0⟩ (nval t) (by decide) rfl).trans (moved_in _ _ (by show _ ≤ 0 + (t : Int) ∧ 0 + (t : Int) ≤ _; omega) (by show _ ≤ (t : Int) ∧ (t : Int) ≤ _; omega))) (by simp [twoC])
  have e2 : runF F 1048574 (stm rp0 cx (R1.set 1 U) 2 2) = runF F 1048573 (stm rp0 cx ((R1.set 1 U).set 2 V) 3 3) := by
    subst hF hV hR1
    exact q_arith (m := 1048573) (i := insOpi 1 2 f) (v := ⟨3, 0, 0, 0 + f⟩) rfl o1 ((av_addp ⟨3, 0, 0, 0⟩ (nval f) (by decide) rfl).trans (moved_in _ _ (by show _ ≤ 0 + (f : Int) ∧ 0 + (f : Int) ≤ _; omega) (by show _ ≤ (f : Int) ∧ (f : Int) ≤ _; omega))) (by simp [twoC])
  have e3 : runF F 1048573 (stm rp0 cx ((R1.set 1 U).set 2 V) 3 3) = runF F 1048572 (stm rp0 cx (((R1.set 1 U).set 2 V).set 3 (nval k)) 4 4) := by
    subst hF
    exact q_arith (m := 1048572) (i := insMovi 3 k) (v := nval k) rfl o15 (av_mov _ _ k10) (by simp [twoC])
  have hg : F.code[4]? = some (insHelp id) := by subst hF; rfl
  have hl : 4 + 1 < F.code.length := by subst hF; simp [twoC]
  have h1 : (stm rp0 cx (((R1.set 1 U).set 2 V).set 3 (nval k)) 4 4).reg 1 = ⟨3, 0, 0, (t : Int)⟩ := by subst hR1; exact hUt
  have h2 : (stm rp0 cx (((R1.set 1 U).set 2 V).set 3 (nval k)) 4 4).reg 2 = ⟨3, 0, 0, (f : Int)⟩ := by subst hR1; exact hVf
  have h3 : (stm rp0 cx (((R1.set 1 U).set 2 V).set 3 (nval k)) 4 4).reg 3 = nval k := by subst hR1; rfl
  rcases hid with rfl | rfl
  · have hcl := call_copy (fx := F) h1 h2 h3 (by omega)
    rw [if_pos (show (2 : Int) = 2 from rfl), if_neg (show ¬ (f + k ≤ cx.length ∧ t + k ≤ cx.length ∧ (2 : Int) = 4) by omega)]
    by_cases hc : f + k ≤ cx.length ∧ t + k ≤ cx.length
    · rw [if_pos (show f + k ≤ (stm rp0 cx (((R1.set 1 U).set 2 V).set 3 (nval k)) 4 4).ctx.length ∧ t + k ≤ (stm rp0 cx (((R1.set 1 U).set 2 V).set 3 (nval k)) 4 4).ctx.length from hc)] at hcl
      rw [if_pos hc]
      have e4 := q_call (m := 1048571) (rg' := _) (ctx' := overF cx t ((cx.drop f).take k)) hg hcl hl
      have e5 := q_exit (fx := F) (m := 1048570) (sl := rp0) (ctx := overF cx t ((cx.drop f).take k)) (k := 5) (n := 4 + 1) (rg := (endF (stm rp0 cx (((R1.set 1 U).set 2 V).set 3 (nval k)) 4 4) (nval 0)).rg) (by subst hF; rfl) rfl
      subst hF
      exact ⟨_, e0.trans (e1.trans (e2.trans (e3.trans (e4.trans e5)))), fun _ => ⟨rfl, rfl⟩, fun h => absurd rfl h⟩
    · rw [if_neg (show ¬ (f + k ≤ (stm rp0 cx (((R1.set 1 U).set 2 V).set 3 (nval k)) 4 4).ctx.length ∧ t + k ≤ (stm rp0 cx (((R1.set 1 U).set 2 V).set 3 (nval k)) 4 4).ctx.length) from hc)] at hcl
      rw [if_neg hc]
      have e4 := q_callT (m := 1048571) hg hcl
      subst hF
      exact ⟨_, e0.trans (e1.trans (e2.trans (e3.trans e4))), fun h => absurd h (by decide), fun _ => rfl⟩
  · have hcl := call_diff (fx := F) h1 h2 h3 (by omega)
    rw [if_neg (show ¬ (4 : Int) = 2 by decide)]
    by_cases hc : f + k ≤ cx.length ∧ t + k ≤ cx.length
    · rw [if_pos (show f + k ≤ (stm rp0 cx (((R1.set 1 U).set 2 V).set 3 (nval k)) 4 4).ctx.length ∧ t + k ≤ (stm rp0 cx (((R1.set 1 U).set 2 V).set 3 (nval k)) 4 4).ctx.length from hc)] at hcl
      rw [if_pos hc, if_pos ⟨hc.1, hc.2, rfl⟩]
      have e4 := q_call (m := 1048571) (rg' := _) (ctx' := cx) hg hcl hl
      have e5 := q_exit (fx := F) (m := 1048570) (sl := rp0) (ctx := cx) (k := 5) (n := 4 + 1) (rg := (endF (stm rp0 cx (((R1.set 1 U).set 2 V).set 3 (nval k)) 4 4) (nval (cmpv ((cx.drop t).take k) ((cx.drop f).take k)))).rg) (by subst hF; rfl) rfl
      subst hF
      exact ⟨_, e0.trans (e1.trans (e2.trans (e3.trans (e4.trans e5)))), fun _ => ⟨rfl, rfl⟩, fun h => absurd rfl h⟩
    · rw [if_neg (show ¬ (f + k ≤ (stm rp0 cx (((R1.set 1 U).set 2 V).set 3 (nval k)) 4 4).ctx.length ∧ t + k ≤ (stm rp0 cx (((R1.set 1 U).set 2 V).set 3 (nval k)) 4 4).ctx.length) from hc)] at hcl
      rw [if_neg hc, if_neg (fun h => hc ⟨h.1, h.2.1⟩)]
      have e4 := q_callT (m := 1048571) hg hcl
      subst hF
      exact ⟨_, e0.trans (e1.trans (e2.trans (e3.trans e4))), fun h => absurd h (by decide), fun _ => rfl⟩
def fillC (f k : Nat) (x : Int) : List Ins := [insOpi 1 1 f, insWide 2 x, insMovi 3 k, insHelp 3, insExit]
theorem fillC_ok (f k : Nat) (x : Int) (hf : f ≤ 300) (hk : k ≤ 301) (hx : i64r x) : X.ProgOK CallK (fillC f k x) := by
  refine ⟨⟨by simp [fillC], by simp [fillC]⟩, fun i hi => ?_, fun j i hi hj => ?_⟩
  · simp only [fillC, List.mem_cons, List.not_mem_nil, or_false] at hi
    rcases hi with rfl | rfl | rfl | rfl | rfl
    · exact ⟨right_addi 1 1 f (Or.inl rfl) (by decide) (by omega), (by show i64r (f : Int); unfold i64r; omega), Or.inl (Or.inl (by show (1 : Int) ≤ 15; decide))⟩
    · exact ⟨right_wide 2 x (by decide), hx, Or.inl (Or.inr (Or.inl rfl))⟩
    · exact ⟨right_addi 15 3 k (Or.inr (Or.inr rfl)) (by decide) (by omega), (by show i64r (k : Int); unfold i64r; omega), Or.inl (Or.inl (by show (15 : Int) ≤ 15; decide))⟩
    · exact right_help 3 (by decide)
    · exact ⟨right_exit, zero_r, Or.inl (Or.inr (Or.inr (Or.inr (Or.inr rfl))))⟩
  · have : j = 4 := by simp [fillC] at hj; omega
    subst this
    obtain rfl : i = insExit := by simpa [fillC] using hi.symm
    exact Or.inr rfl
theorem fill_run (cx : List Int) (f k : Nat) (x : Int) (hf : f ≤ 300) (hk : k ≤ 301) :
    RunsTo (fillC f k x) cx (if f + k ≤ cx.length then 0 else 87) 0 (overF cx f (List.replicate k (x % 256))) := by
  obtain ⟨F, hF⟩ : ∃ F : Mfix, F = ⟨[], [], fillC f k x⟩ := ⟨_, rfl⟩
  obtain ⟨V, hV⟩ : ∃ V : Val, V = ⟨3, 0, 0, 0 + (f : Int)⟩ := ⟨_, rfl⟩
  have hVf : V = ⟨3, 0, 0, (f : Int)⟩ := by rw [hV, Int.zero_add]
  have e0 : runF F 1048576 (stm rp0 cx (rg0 cx.length) 0 0) = runF F 1048575 (stm rp0 cx ((rg0 cx.length).set 1 V) 1 1) := by
    subst hF hV
    exact q_arith (m := 1048575) (i := insOpi 1 1 f) (v := ⟨3, 0, 0, 0 + f⟩) rfl o1 ((av_addp ⟨3, 0, 0, 0⟩ (nval f) (by decide) rfl).trans (moved_in _ _ (by show _ ≤ 0 + (f : Int) ∧ 0 + (f : Int) ≤ _; omega) (by show _ ≤ (f : Int) ∧ (f : Int) ≤ _; omega))) (by simp [fillC])
  have e1 : runF F 1048575 (stm rp0 cx ((rg0 cx.length).set 1 V) 1 1) = runF F 1048574 (stm rp0 cx (((rg0 cx.length).set 1 V).set 2 (nval x)) 2 2) := by
    subst hF
    exact q_wide (m := 1048574) (d := 2) (y := x) rfl (by simp [fillC])
  have e2 : runF F 1048574 (stm rp0 cx (((rg0 cx.length).set 1 V).set 2 (nval x)) 2 2) = runF F 1048573 (stm rp0 cx ((((rg0 cx.length).set 1 V).set 2 (nval x)).set 3 (nval k)) 3 3) := by
    subst hF
    exact q_arith (m := 1048573) (i := insMovi 3 k) (v := nval k) rfl o15 (av_mov _ _ k10) (by simp [fillC])
  have hg : F.code[3]? = some (insHelp 3) := by subst hF; rfl
  have hl : 3 + 1 < F.code.length := by subst hF; simp [fillC]
  have hcl := call_fill (fx := F) (s := stm rp0 cx ((((rg0 cx.length).set 1 V).set 2 (nval x)).set 3 (nval k)) 3 3) (f := f) (k := k) (x := x) (hVf ▸ rfl) rfl rfl (by omega)
  by_cases hc : f + k ≤ cx.length
  · rw [if_pos (show f + k ≤ (stm rp0 cx ((((rg0 cx.length).set 1 V).set 2 (nval x)).set 3 (nval k)) 3 3).ctx.length from hc)] at hcl
    rw [if_pos hc]
    have e3 := q_call (m := 1048572) (rg' := _) (ctx' := overF cx f (List.replicate k (x % 256))) hg hcl hl
    have e4 := q_exit (fx := F) (m := 1048571) (sl := rp0) (ctx := overF cx f (List.replicate k (x % 256))) (k := 4) (n := 3 + 1) (rg := (endF (stm rp0 cx ((((rg0 cx.length).set 1 V).set 2 (nval x)).set 3 (nval k)) 3 3) (nval 0)).rg) (by subst hF; rfl) rfl
    subst hF
    exact ⟨_, e0.trans (e1.trans (e2.trans (e3.trans e4))), fun _ => ⟨rfl, rfl⟩, fun h => absurd rfl h⟩
  · rw [if_neg (show ¬ f + k ≤ (stm rp0 cx ((((rg0 cx.length).set 1 V).set 2 (nval x)).set 3 (nval k)) 3 3).ctx.length from hc)] at hcl
    rw [if_neg hc]
    have e3 := q_callT (m := 1048572) hg hcl
    subst hF
    exact ⟨_, e0.trans (e1.trans (e2.trans e3)), fun h => absurd h (by decide), fun _ => rfl⟩
def mixC (x y : Int) : List Ins := [insWide 1 x, insWide 2 y, insHelp 8, insExit]
theorem mixC_ok (x y : Int) (hx : i64r x) (hy : i64r y) : X.ProgOK CallK (mixC x y) := by
  refine ⟨⟨by simp [mixC], by simp [mixC]⟩, fun i hi => ?_, fun j i hi hj => ?_⟩
  · simp only [mixC, List.mem_cons, List.not_mem_nil, or_false] at hi
    rcases hi with rfl | rfl | rfl | rfl
    · exact ⟨right_wide 1 x (by decide), hx, Or.inl (Or.inr (Or.inl rfl))⟩
    · exact ⟨right_wide 2 y (by decide), hy, Or.inl (Or.inr (Or.inl rfl))⟩
    · exact right_help 8 (by decide)
    · exact ⟨right_exit, zero_r, Or.inl (Or.inr (Or.inr (Or.inr (Or.inr rfl))))⟩
  · have : j = 3 := by simp [mixC] at hj; omega
    subst this
    obtain rfl : i = insExit := by simpa [mixC] using hi.symm
    exact Or.inr rfl
theorem mix_run (cx : List Int) (x y : Int) : RunsTo (mixC x y) cx 0 (wrap64 ((mixv (un x) (un y) : Nat) : Int)) cx := by
  obtain ⟨F, hF⟩ : ∃ F : Mfix, F = ⟨[], [], mixC x y⟩ := ⟨_, rfl⟩
  have e0 : runF F 1048576 (stm rp0 cx (rg0 cx.length) 0 0) = runF F 1048575 (stm rp0 cx ((rg0 cx.length).set 1 (nval x)) 1 1) := by
    subst hF
    exact q_wide (m := 1048575) (d := 1) (y := x) rfl (by simp [mixC])
  have e1 : runF F 1048575 (stm rp0 cx ((rg0 cx.length).set 1 (nval x)) 1 1) = runF F 1048574 (stm rp0 cx (((rg0 cx.length).set 1 (nval x)).set 2 (nval y)) 2 2) := by
    subst hF
    exact q_wide (m := 1048574) (d := 2) (y := y) rfl (by simp [mixC])
  have hg : F.code[2]? = some (insHelp 8) := by subst hF; rfl
  have hl : 2 + 1 < F.code.length := by subst hF; simp [mixC]
  have hcl := call_mix (fx := F) (s := stm rp0 cx (((rg0 cx.length).set 1 (nval x)).set 2 (nval y)) 2 2) (x := x) (y := y) rfl rfl
  have e3 := q_call (m := 1048573) (rg' := _) (ctx' := cx) hg hcl hl
  have e4 := q_exit (fx := F) (m := 1048572) (sl := rp0) (ctx := cx) (k := 3) (n := 2 + 1) (rg := (endF (stm rp0 cx (((rg0 cx.length).set 1 (nval x)).set 2 (nval y)) 2 2) (nval (wrap64 ((mixv (un x) (un y) : Nat) : Int)))).rg) (by subst hF; rfl) rfl
  subst hF
  exact ⟨_, e0.trans (e1.trans (e3.trans e4)), fun _ => ⟨rfl, rfl⟩, fun h => absurd rfl h⟩
/-- What runs answers of such a program. -/
def RB (w : World) (er r0 : Int) (cx : List Int) : Ending → World → Prop := fun e w' => ∃ a1 n1 c1 a2 n2 c2 a3 n3 c3, e = .returned (.tuple #[.agg #[.int .i64 r0, .slice a1 n1 c1, .slice a2 n2 c2, .slice a3 n3 c3], .int .i64 er]) ∧ (er = 0 → Held w' (.slice a1 n1 c1) cx) ∧ Below w.heap.size w w'
theorem rb_any {K : Ins → Prop} (code : List Ins) (hK : X.DoK K) (hp : X.ProgOK K code) (ctx : List Int) (hb : IsBytes ctx) (hcl : ctx.length ≤ 65535) (er r0 : Int) (cx : List Int) (h : RunsTo code ctx er r0 cx) (n : Nat) (hn : n = code.length) (ca : Option Addr) (cc : Nat) (xv : Value)
    (w : World) (hc : Coded w (.slice ca n cc) code) (hx : Held w xv ctx) : Calls Tryz.prog 9 #[.slice ca n cc, xv] w (RB w er r0 cx) := by
  subst hn
  obtain ⟨s2, hr, hok, hno⟩ := h
  have hg := (X.run_R hK (hp.code hK) 1048576 (st0 ctx) (good0 code ctx hb hcl) hp.len.1 (by show (0 : Int) ≤ 0; decide) (by show (0 : Int) + 1048576 < _; decide)).2
  rw [hr] at hg
  have hrl := hg.regs.1
  simp only at hrl
  refine (X.runs_any code hK hp ctx hb hcl er s2 hr ca cc xv w hc hx).mono ?_
  rintro e w' ⟨r0', a1, n1, c1, a2, n2, c2, a3, n3, c3, rfl, hO, hB⟩
  have hr0 : r0' = r0 := by
    by_cases hg : er = 0
    · rw [← (hok hg).1, show s2.reg 0 = s2.rg[0]'(by omega) from s2.reg_get 0 (by omega)]
      exact hO.r0 hg _ (List.getElem?_eq_getElem _)
    · rw [hno hg]; exact (hO.fail hg).1
  subst hr0
  refine ⟨_, _, _, _, _, _, _, _, _, rfl, fun he => ?_, hB⟩
  have hown := hO.ctx he
  rw [(hok he).2] at hown
  have hbx := hg.mem.ctx
  simp only at hbx
  rw [(hok he).2] at hbx
  exact held_of_own hown hbx rfl
end Go.Proofs.YtdepknffpnnmmaaGreat
