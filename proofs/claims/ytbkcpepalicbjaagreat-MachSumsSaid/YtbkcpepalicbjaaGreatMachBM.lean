/-
  The program of MachSums, run.
-/
import Derived.Test.YtbkcpepalicbjaaGreatMachBH
namespace Go.Proofs.YtbkcpepalicbjaaGreat
open Go.RowKit
set_option linter.unusedVariables false
set_option linter.unusedSimpArgs false

theorem add_small (x y : Int) (hx : 0 ≤ x) (hy : 0 ≤ y) (h : x + y ≤ 4611686018427387904) : aluF 1 false x y = (x + y, 0) := by
  rw [aluF_wide, aluf64_add]
  have e : (w_add 64 (un x) (un y) : Nat) = (x + y).toNat := by
    unfold w_add un
    have e64 : (2 : Nat) ^ 64 = 18446744073709551616 := by decide
    rw [e64]
    omega
  rw [e]
  have : (((x + y).toNat : Nat) : Int) = x + y := by omega
  rw [this]
  unfold wrap64
  congr 1
  omega
theorem av_add (x y : Int) (hx : 0 ≤ x) (hy : 0 ≤ y) (h : x + y ≤ 4611686018427387904) : arithV 1 false (nval x) (nval y) = (nval (x + y), 0) := by
  unfold arithV
  rw [if_neg (fun h => absurd h.1 (by decide)), if_pos ⟨rfl, rfl⟩]
  show (nval (aluF 1 false x y).1, (aluF 1 false x y).2) = _
  rw [add_small x y hx hy h]
theorem low64 (a : Int) : lowN 64 a = un a := Nat.mod_eq_of_lt (un_lt a)
theorem ge_small (i n : Nat) (hi : i < 9223372036854775808) (hn : n < 9223372036854775808) : holdF 30 false (i : Int) (n : Int) = decide (n ≤ i) := by
  have h1 : lowN 64 (i : Int) = i := by rw [low64]; exact un_nat (by omega)
  have h2 : lowN 64 (n : Int) = n := by rw [low64]; exact un_nat (by omega)
  have h : holdF 30 false (i : Int) (n : Int) = hold64_ge (lowN 64 (i : Int)) (lowN 64 (n : Int)) := rfl
  rw [h, h1, h2]
  rfl
def insJge : Ins := ⟨30, false, true, 0, 3, 2, 5, 0⟩
def insJa (off : Int) : Ins := ⟨26, false, false, 0, 0, 0, off, 0⟩
def sumc : List Ins := [insMovi 0 0, insMovi 3 0, insJge, insLoad 22 1 4 1 0, insOp 1 0 4, insOpi 1 1 1, insOpi 1 3 1, insJa (-6), insExit]
def fxS : Mfix := ⟨[], [], sumc⟩
theorem sumc_ok : ProgOK sumc := by
  refine ⟨⟨by decide, by decide⟩, fun i hi => ?_, fun k i hi hk => ?_⟩
  · simp only [sumc, List.mem_cons, List.not_mem_nil, or_false] at hi
    have z : i64r 0 := zero_r
    have o : i64r 1 := by unfold i64r; decide
    rcases hi with rfl | rfl | rfl | rfl | rfl | rfl | rfl | rfl | rfl
    · exact ⟨by decide, z, Or.inl (by decide)⟩
    · exact ⟨by decide, z, Or.inl (by decide)⟩
    · exact ⟨by decide, z, Or.inr (Or.inr (Or.inr (Or.inl (by decide))))⟩
    · exact ⟨by decide, z, Or.inr (Or.inr (Or.inl (by decide)))⟩
    · exact ⟨by decide, z, Or.inl (by decide)⟩
    · exact ⟨by decide, o, Or.inl (by decide)⟩
    · exact ⟨by decide, o, Or.inl (by decide)⟩
    · exact ⟨by decide, z, Or.inr (Or.inr (Or.inr (Or.inl (by decide))))⟩
    · exact ⟨by decide, z, Or.inr (Or.inr (Or.inr (Or.inr rfl)))⟩
  · have : k = 8 := by simp [sumc] at hk; omega
    subst this
    have : i = insExit := by simpa [sumc] using hi.symm
    subst this
    exact Or.inr rfl
/-- The sum of the first bytes. -/
def sumTo (ctx : List Int) : Nat → Int
  | 0 => 0
  | i + 1 => sumTo ctx i + ctx.getD i 0
theorem sumTo_r {ctx : List Int} (hb : IsBytes ctx) (i : Nat) : 0 ≤ sumTo ctx i ∧ sumTo ctx i ≤ 255 * i := by
  induction i with
  | zero => exact ⟨Int.le_refl _, Int.le_refl _⟩
  | succ i ih =>
    have := hb.at' i
    show 0 ≤ sumTo ctx i + ctx.getD i 0 ∧ sumTo ctx i + ctx.getD i 0 ≤ 255 * ((i + 1 : Nat) : Int)
    omega
def rgS (n : Nat) (s : Int) (i : Nat) (r4 : Val) : List Val := [nval s, ⟨3, 0, 0, i⟩, nval n, nval i, r4, noval, noval, noval, noval, noval, ⟨2, 0, 0, 256⟩]
def sS (ctx : List Int) (i : Nat) (r4 : Val) (k : Nat) (st : Int) : Mst := stm (List.replicate 32 noslot) ctx (rgS ctx.length (sumTo ctx i) i r4) k st
theorem q_ja {fx : Mfix} {sl : List Slot} {ctx : List Int} {rg : List Val} {k : Nat} {n off : Int} {m : Nat} (hg : fx.code[k]? = some (insJa off)) (j : Nat) (hj : j < fx.code.length) (hu : (unitAt fx.code j : Int) = (unitAt fx.code (k + 1) : Int) + off) :
    runF fx (m + 1) (stm sl ctx rg k n) = runF fx m (stm sl ctx rg j (n + 1)) :=
  runF_go rfl (step_to (s' := stm sl ctx rg k n) off j hg rfl (by show (26 : Int) ≠ 39; decide) rfl hj hu)
theorem unitS (j : Nat) (h : j ≤ 9) : unitAt sumc j = j := by
  have hc : j = 0 ∨ j = 1 ∨ j = 2 ∨ j = 3 ∨ j = 4 ∨ j = 5 ∨ j = 6 ∨ j = 7 ∨ j = 8 ∨ j = 9 := by omega
  rcases hc with rfl | rfl | rfl | rfl | rfl | rfl | rfl | rfl | rfl | rfl <;> rfl
theorem sum_jge (ctx : List Int) (i : Nat) (r4 : Val) (st : Int) (hi : i ≤ 65535) (hn : ctx.length ≤ 65535) : branchV insJge ((sS ctx i r4 2 st).reg insJge.dst) ((sS ctx i r4 2 st).sec insJge) = (decide (ctx.length ≤ i), 0) := by
  show branchV insJge (nval i) (nval ctx.length) = _
  unfold branchV
  rw [if_pos ⟨rfl, rfl⟩]
  show (holdF 30 false (i : Int) (ctx.length : Int), (0 : Int)) = _
  rw [ge_small i ctx.length (by omega) (by omega)]
theorem getv1 (c : Int) (hc : 0 ≤ c ∧ c ≤ 255) : getv false [c] = c := by
  unfold getv
  rw [if_neg (by simp), if_neg Bool.false_ne_true]
  show wrap64 ((c.toNat + 256 * 0 : Nat) : Int) = c
  unfold wrap64
  omega
theorem sum_round (ctx : List Int) (hb : IsBytes ctx) (hn : ctx.length ≤ 65535) (i : Nat) (r4 : Val) (st : Int) (hi : i < ctx.length) (m : Nat) :
    runF fxS (m + 6) (sS ctx i r4 2 st) = runF fxS m (sS ctx (i + 1) (nval (ctx.getD i 0)) 2 (st + 1 + 1 + 1 + 1 + 1 + 1)) := by
  have hc := hb.at' i
  have hs := sumTo_r hb i
  have e0 : runF fxS (m + 6) (sS ctx i r4 2 st) = runF fxS (m + 5) (sS ctx i r4 3 (st + 1)) :=
    q_stay (m := m + 5) (i := insJge) rfl (by decide) (by rw [show stm (List.replicate 32 noslot) ctx (rgS ctx.length (sumTo ctx i) i r4) 2 st = sS ctx i r4 2 st from rfl, sum_jge ctx i r4 st (by omega) hn, decide_eq_false (by omega)]) (by decide)
  have e1 : runF fxS (m + 5) (sS ctx i r4 3 (st + 1)) = runF fxS (m + 4) (sS ctx i (nval (ctx.getD i 0)) 4 (st + 1 + 1)) := by
    refine q_load (m := m + 4) (i := insLoad 22 1 4 1 0) rfl (Or.inl rfl) ?_ (by decide)
    have hin : withinF fxS (stm (List.replicate 32 noslot) ctx (rgS ctx.length (sumTo ctx i) i r4) 3 (st + 1)) ⟨3, 0, 0, i⟩ ((i : Int) + 0) 1 = true := by
      show (decide (0 ≤ (i : Int) + 0) && decide ((i : Int) + 0 + 1 ≤ (ctx.length : Int))) = true
      rw [decide_eq_true (by omega), decide_eq_true (by omega)]
      rfl
    refine (load_num ⟨3, 0, 0, i⟩ rfl (by show (2 : Int) ≤ 3; decide) hin (fun h => absurd (show (3 : Int) = 2 from h.1) (by decide)) rfl).trans ?_
    have hr : readF fxS (stm (List.replicate 32 noslot) ctx (rgS ctx.length (sumTo ctx i) i r4) 3 (st + 1)) ⟨3, 0, 0, i⟩ ((i : Int) + 0) 1 = [ctx.getD i 0] := by
      unfold readF
      rw [if_neg (by show ¬(3 : Int) = 2; decide), if_pos rfl, Int.add_zero, Int.toNat_natCast]
      show (ctx.drop i).take 1 = _
      rw [List.drop_eq_getElem_cons hi, List.getD_eq_getElem?_getD, List.getElem?_eq_getElem hi]
      rfl
    show Did.mk 0 0 ((stm _ _ _ _ _).setr 4 (nval (getv ((22 : Int) == 23) (readF _ (stm _ _ _ _ _) ⟨3, 0, 0, i⟩ ((i : Int) + 0) 1)))) = _
    rw [hr, show ((22 : Int) == 23) = false from rfl, getv1 _ hc]
    rfl
  have e2 : runF fxS (m + 4) (sS ctx i (nval (ctx.getD i 0)) 4 (st + 1 + 1)) = runF fxS (m + 3) (stm (List.replicate 32 noslot) ctx (rgS ctx.length (sumTo ctx (i + 1)) i (nval (ctx.getD i 0))) 5 (st + 1 + 1 + 1)) :=
    q_arith (m := m + 3) (i := insOp 1 0 4) (v := nval (sumTo ctx i + ctx.getD i 0)) rfl (by decide) (av_add _ _ hs.1 hc.1 (by omega)) (by decide)
  have e3 : runF fxS (m + 3) (stm (List.replicate 32 noslot) ctx (rgS ctx.length (sumTo ctx (i + 1)) i (nval (ctx.getD i 0))) 5 (st + 1 + 1 + 1)) =
      runF fxS (m + 2) (stm (List.replicate 32 noslot) ctx ((rgS ctx.length (sumTo ctx (i + 1)) i (nval (ctx.getD i 0))).set 1 ⟨3, 0, 0, (i : Int) + 1⟩) 6 (st + 1 + 1 + 1 + 1)) :=
    q_arith (m := m + 2) (i := insOpi 1 1 1) (v := ⟨3, 0, 0, (i : Int) + 1⟩) rfl (by decide) ((av_addp ⟨3, 0, 0, i⟩ (nval 1) (by show (2 : Int) ≤ 3; decide) rfl).trans (moved_in _ _ (by show _ ≤ (i : Int) + 1 ∧ (i : Int) + 1 ≤ _; omega) (by show (-2097152 : Int) ≤ 1 ∧ (1 : Int) ≤ 2097152; decide))) (by decide)
  have e4 : runF fxS (m + 2) (stm (List.replicate 32 noslot) ctx ((rgS ctx.length (sumTo ctx (i + 1)) i (nval (ctx.getD i 0))).set 1 ⟨3, 0, 0, (i : Int) + 1⟩) 6 (st + 1 + 1 + 1 + 1)) =
      runF fxS (m + 1) (stm (List.replicate 32 noslot) ctx (((rgS ctx.length (sumTo ctx (i + 1)) i (nval (ctx.getD i 0))).set 1 ⟨3, 0, 0, (i : Int) + 1⟩).set 3 (nval ((i : Int) + 1))) 7 (st + 1 + 1 + 1 + 1 + 1)) :=
    q_arith (m := m + 1) (i := insOpi 1 3 1) (v := nval ((i : Int) + 1)) rfl (by decide) (av_add (i : Int) 1 (by omega) (by decide) (by omega)) (by decide)
  have e5 : runF fxS (m + 1) (stm (List.replicate 32 noslot) ctx (((rgS ctx.length (sumTo ctx (i + 1)) i (nval (ctx.getD i 0))).set 1 ⟨3, 0, 0, (i : Int) + 1⟩).set 3 (nval ((i : Int) + 1))) 7 (st + 1 + 1 + 1 + 1 + 1)) = runF fxS m (sS ctx (i + 1) (nval (ctx.getD i 0)) 2 (st + 1 + 1 + 1 + 1 + 1 + 1)) :=
    q_ja (m := m) (off := -6) rfl 2 (by decide) (by decide)
  exact e0.trans (e1.trans (e2.trans (e3.trans (e4.trans e5))))
theorem sum_loop (ctx : List Int) (hb : IsBytes ctx) (hn : ctx.length ≤ 65535) : ∀ (d i : Nat) (r4 : Val) (st : Int) (m : Nat), d + i = ctx.length →
    ∃ r4', runF fxS (m + 6 * d) (sS ctx i r4 2 st) = runF fxS m (sS ctx ctx.length r4' 2 (st + 6 * d))
  | 0, i, r4, st, m, h => by
    obtain rfl : i = ctx.length := by omega
    exact ⟨r4, by rw [show st + 6 * ((0 : Nat) : Int) = st by omega]; rfl⟩
  | d + 1, i, r4, st, m, h => by
    obtain ⟨r4', h'⟩ := sum_loop ctx hb hn d (i + 1) (nval (ctx.getD i 0)) (st + 1 + 1 + 1 + 1 + 1 + 1) m (by omega)
    refine ⟨r4', ?_⟩
    rw [show m + 6 * (d + 1) = (m + 6 * d) + 6 by omega, sum_round ctx hb hn i r4 st (by omega) (m + 6 * d), h']
    congr 2
    push_cast
    omega
theorem sum_run (ctx : List Int) (hb : IsBytes ctx) (hn : ctx.length ≤ 65535) : ∃ r4, runF fxS (3 + 6 * ctx.length) (st0 ctx) = (88, sS ctx ctx.length r4 8 (3 + 6 * ctx.length)) ∧
    runF fxS 1 (sS ctx ctx.length r4 8 (3 + 6 * ctx.length)) = (0, { sS ctx ctx.length r4 8 (3 + 6 * ctx.length) with done := true, steps := 3 + 6 * ctx.length + 1 }) := by
  obtain ⟨r4, hl⟩ := sum_loop ctx hb hn ctx.length 0 noval 2 1 (by omega)
  refine ⟨r4, ?_, ?_⟩
  · have e0 : runF fxS (1 + 6 * ctx.length + 1 + 1) (stm (List.replicate 32 noslot) ctx (rg0 ctx.length) 0 0) = runF fxS (1 + 6 * ctx.length + 1) (stm (List.replicate 32 noslot) ctx ((rg0 ctx.length).set 0 (nval 0)) 1 1) :=
      q_arith (m := 1 + 6 * ctx.length + 1) (i := insMovi 0 0) (v := nval 0) rfl (by decide) (av_mov _ (nval 0) (by decide)) (by decide)
    have e1 : runF fxS (1 + 6 * ctx.length + 1) (stm (List.replicate 32 noslot) ctx ((rg0 ctx.length).set 0 (nval 0)) 1 1) = runF fxS (1 + 6 * ctx.length) (sS ctx 0 noval 2 2) :=
      q_arith (m := 1 + 6 * ctx.length) (i := insMovi 3 0) (v := nval 0) rfl (by decide) (av_mov _ (nval 0) (by decide)) (by decide)
    have e2 : runF fxS 1 (sS ctx ctx.length r4 2 (2 + 6 * (ctx.length : Int))) = runF fxS 0 (sS ctx ctx.length r4 8 (2 + 6 * (ctx.length : Int) + 1)) :=
      q_jump (m := 0) (i := insJge) rfl (by decide) (by rw [show stm (List.replicate 32 noslot) ctx (rgS ctx.length (sumTo ctx ctx.length) ctx.length r4) 2 (2 + 6 * (ctx.length : Int)) = sS ctx ctx.length r4 2 (2 + 6 * (ctx.length : Int)) from rfl, sum_jge ctx ctx.length r4 _ hn hn, decide_eq_true (Nat.le_refl _)]) 8 (by decide) (by decide)
    rw [show 3 + 6 * ctx.length = 1 + 6 * ctx.length + 1 + 1 by omega]
    refine (e0.trans (e1.trans (hl.trans e2))).trans ?_
    rw [show (2 : Int) + 6 * (ctx.length : Int) + 1 = 3 + 6 * (ctx.length : Int) by omega]
    rfl
  · exact q_exit (m := 0) rfl rfl
theorem sum_pack (ctx : List Int) (hb : IsBytes ctx) (hn : ctx.length ≤ 65535) (F G : Nat) (hF : F = 3 + 6 * ctx.length) (hG : G = 4 + 6 * ctx.length) :
    ∃ s1 s2, Runs fxS (st0 ctx) F 88 s1 ∧ Runs fxS s1 1 0 s2 ∧ (s1.rows = [] ∧ s1.ctx = ctx ∧ s1.sent = []) ∧ (s2.rows = [] ∧ s2.ctx = ctx ∧ s2.sent = []) ∧ s2.steps = G ∧ s2.rg[0]? = some (nval (sumTo ctx ctx.length)) := by
  obtain ⟨r4, h1, h2⟩ := sum_run ctx hb hn
  obtain ⟨q1, q2⟩ := run_R sumc_ok.code F (st0 ctx) (good0 sumc ctx hb hn) sumc_ok.len.1 (by show (0 : Int) ≤ 0; decide) (by show (0 : Int) + (F : Int) < _; omega)
  have e1 : runF ⟨[], [], sumc⟩ F (st0 ctx) = (88, sS ctx ctx.length r4 8 (3 + 6 * ctx.length)) := by rw [hF]; exact h1
  rw [e1] at q1 q2
  have q3 := (run_R sumc_ok.code 1 (sS ctx ctx.length r4 8 (3 + 6 * ctx.length)) q2 (by show 8 < 9; decide) (by show (0 : Int) ≤ 3 + 6 * (ctx.length : Int); omega) (by show 3 + 6 * (ctx.length : Int) + ((1 : Nat) : Int) < _; omega)).1
  have e2 : runF ⟨[], [], sumc⟩ 1 (sS ctx ctx.length r4 8 (3 + 6 * ctx.length)) = (0, { sS ctx ctx.length r4 8 (3 + 6 * ctx.length) with done := true, steps := 3 + 6 * ctx.length + 1 }) := h2
  rw [e2] at q3
  exact ⟨_, _, q1, q3, ⟨rfl, rfl, rfl⟩, ⟨rfl, rfl, rfl⟩, by show 3 + 6 * (ctx.length : Int) + 1 = (G : Int); omega, rfl⟩
end Go.Proofs.YtbkcpepalicbjaaGreat
