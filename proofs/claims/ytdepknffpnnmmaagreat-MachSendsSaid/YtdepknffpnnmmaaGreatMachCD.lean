/-
  A number sent, as a doer of plain data; MachSends' programs.
-/
import Derived.Test.YtdepknffpnnmmaaGreatMachCA
import Derived.Test.YtdepknffpnnmmaaGreatMachBP
import Derived.Test.YtdepknffpnnmmaaGreatMachAT
namespace Go.Proofs.YtdepknffpnnmmaaGreat
open Go.RowKit
set_option linter.unusedVariables false
set_option linter.unusedSimpArgs false

theorem doF_call {fx : Mfix} {s : Mst} {i : Ins} (h : i.op = 38) : doF fx s i = callD fx s i := by
  unfold doF
  rw [if_neg (by omega), if_neg (by omega), if_neg (by omega), if_neg (by omega), if_neg (by omega), if_neg (by omega), if_neg (by omega), if_neg (by omega), if_pos h]
theorem do_callE {fx : Mfix} {s : Mst} (h : Good fx s) (i : Ins) (hi : InsOK fx i) (hop : i.op = 38) (h6 : i.imm = 6) : DoR (doerF i.op) fx s i (callD fx s i).by' (callD fx s i).er (callD fx s i).s := by
  have hF : doerF i.op = 75 := by
    unfold doerF
    rw [if_neg (by omega), if_neg (by omega), if_neg (by omega), if_neg (by omega), if_neg (by omega), if_neg (by omega), if_neg (by omega), if_neg (by omega), if_pos hop]
  rw [hF, call_by]
  intro base w0 bx v w hM
  obtain ⟨op, nar, reg, size, dst, src, off, imm⟩ := i
  exact call_emit op nar reg size dst src off imm h6 h w hM
/-- MachSends' instructions. -/
def EmitK (i : Ins) : Prop := Known i.op ∨ (i.op = 38 ∧ i.imm = 6)
theorem do_emitK : X.DoK EmitK := by
  refine ⟨fun {fx s} h i hi hk => ?_, fun i hk => ?_⟩
  · rcases hk with hk | ⟨hk, h6⟩
    · exact do_F h i hi hk
    · rw [doF_call hk]
      exact do_callE h i hi hk h6
  · rcases hk with hk | hk
    · unfold Known at hk; omega
    · omega
def insCall : Ins := ⟨38, false, false, 0, 0, 0, 0, 6⟩
/-- A machine without memory that has sent numbers. -/
def sts (rg : List Val) (sent : List Int) (k : Nat) (n : Int) : Mst := ⟨rep0, rg, [], [], sent, k, n, false⟩
section
variable {fx : Mfix} {rg : List Val} {sent : List Int} {k m : Nat} {n : Int}
theorem e_wide {d y : Int} (hg : fx.code[k]? = some (insWide d y)) (hk : k + 1 < fx.code.length) : runF fx (m + 1) (sts rg sent k n) = runF fx m (sts (rg.set d.toNat (nval y)) sent (k + 1) (n + 1)) :=
  runF_go rfl (step_next (s' := (sts rg sent k n).setr d (nval y)) k rfl hg rfl (by show (20 : Int) ≠ 39; decide) (doF_wide rfl) hk)
theorem e_exit (hg : fx.code[k]? = some insExit) (h0 : ((sts rg sent k n).reg 0).k = 1) : runF fx (m + 1) (sts rg sent k n) = (0, { sts rg sent k n with done := true, steps := n + 1 }) :=
  (runF_go (s1 := { sts rg sent k n with done := true, steps := n + 1 }) rfl (step_leave hg rfl rfl h0)).trans (runF_done rfl)
/-- The registers behind a number sent. -/
def rge (r0 : Int) (t : List Val) : List Val := nval r0 :: (List.replicate 5 noval ++ t)
theorem e_call {a0 : Val} {y : Int} {a2 a3 a4 a5 : Val} {t : List Val} (hg : fx.code[k]? = some insCall) (hk : k + 1 < fx.code.length) (hrg : rg = a0 :: nval y :: a2 :: a3 :: a4 :: a5 :: t) :
    runF fx (m + 1) (sts rg sent k n) = runF fx m (sts (rge (if 64 ≤ sent.length then -1 else 0) t) (if 64 ≤ sent.length then sent else sent ++ [y]) (k + 1) (n + 1)) := by
  subst hrg
  refine runF_go rfl (step_next (s' := sts (rge (if 64 ≤ sent.length then -1 else 0) t) (if 64 ≤ sent.length then sent else sent ++ [y]) k n) k rfl hg rfl (by show (38 : Int) ≠ 39; decide) ?_ hk)
  rw [doF_call rfl]
  unfold callD
  rw [if_neg (by show ¬ ((6 : Int) < 1 ∨ 8 < (6 : Int)); decide), if_neg (by show ¬ ((1 : Int) == 1) = false; decide), if_neg (by show ¬ (6 : Int) = 1; decide), if_neg (by show ¬ (6 : Int) = 2; decide), if_neg (by show ¬ (6 : Int) = 3; decide), if_neg (by show ¬ (6 : Int) = 4; decide), if_neg (by show ¬ (6 : Int) = 5; decide), if_pos (by show (6 : Int) = 6; rfl)]
  by_cases h : 64 ≤ sent.length
  · rw [if_pos (show 64 ≤ (sts (a0 :: nval y :: a2 :: a3 :: a4 :: a5 :: t) sent k n).sent.length from h), if_pos h, if_pos h]
    rfl
  · rw [if_neg (show ¬ 64 ≤ (sts (a0 :: nval y :: a2 :: a3 :: a4 :: a5 :: t) sent k n).sent.length from h), if_neg h, if_neg h]
    rfl
end
/-- MachSends' program: numbers, each sent; what is sent of them. -/
def sendL (first : Int) : Nat → List Ins
  | 0 => []
  | k + 1 => sendL first k ++ [insWide 1 (wrap64 (first + k)), insCall]
def wantL (first : Int) : Nat → List Int
  | 0 => []
  | k + 1 => if k < 64 then wantL first k ++ [wrap64 (first + k)] else wantL first k
def sendc (first : Int) (k : Nat) : List Ins := sendL first k ++ (if k = 0 then [insWide 0 0] else []) ++ [insExit]
theorem sendL_len (first : Int) (k : Nat) : (sendL first k).length = 2 * k := by
  induction k with
  | zero => rfl
  | succ k ih => unfold sendL; rw [List.length_append, ih]; simp; omega
theorem wantL_len (first : Int) (k : Nat) : (wantL first k).length = if k < 64 then k else 64 := by
  induction k with
  | zero => rfl
  | succ k ih =>
    unfold wantL
    split
    · rw [List.length_append, ih, if_pos (by assumption)]
      simp only [List.length_singleton]
      split <;> omega
    · rw [ih]
      split <;> split <;> omega
theorem sendL_at (first : Int) (K : Nat) : ∀ i, i < K → (sendL first K)[2 * i]? = some (insWide 1 (wrap64 (first + i))) ∧ (sendL first K)[2 * i + 1]? = some insCall := by
  induction K with
  | zero => intro i hi; omega
  | succ K ih =>
    intro i hi
    have hl := sendL_len first K
    unfold sendL
    by_cases h : i < K
    · rw [List.getElem?_append_left (by omega), List.getElem?_append_left (by omega)]
      exact ih i h
    · obtain rfl : i = K := by omega
      rw [List.getElem?_append_right (by omega), List.getElem?_append_right (by omega), hl, show 2 * i - 2 * i = 0 by omega, show 2 * i + 1 - 2 * i = 1 by omega]
      exact ⟨rfl, rfl⟩
def tlS : List Val := [noval, noval, noval, noval, ⟨2, 0, 0, 256⟩]
def rgS (k : Nat) : List Val := if k = 0 then rg0 0 else rge (if 65 ≤ k then -1 else 0) tlS
theorem rgS_set (k : Nat) (y : Int) : ∃ a0 a2 a3 a4 a5, (rgS k).set 1 (nval y) = a0 :: nval y :: a2 :: a3 :: a4 :: a5 :: tlS := by
  unfold rgS
  split
  · exact ⟨_, _, _, _, _, rfl⟩
  · exact ⟨_, _, _, _, _, rfl⟩
theorem send_rounds {fx : Mfix} (first : Int) (K : Nat) (hc : ∀ i, i < K → fx.code[2 * i]? = some (insWide 1 (wrap64 (first + i))) ∧ fx.code[2 * i + 1]? = some insCall) (hl : 2 * K < fx.code.length) :
    ∀ k, k ≤ K → ∀ m, runF fx (m + 2 * k) (sts (rg0 0) [] 0 0) = runF fx m (sts (rgS k) (wantL first k) (2 * k) (2 * (k : Int))) := by
  intro k
  induction k with
  | zero => intro _ m; rfl
  | succ k ih =>
    intro hk m
    have h := ih (by omega) (m + 2)
    rw [show m + 2 * (k + 1) = m + 2 + 2 * k by omega, h]
    obtain ⟨g1, g2⟩ := hc k (by omega)
    obtain ⟨a0, a2, a3, a4, a5, hr⟩ := rgS_set k (wrap64 (first + k))
    have e1 := e_wide (m := m + 1) (rg := rgS k) (sent := wantL first k) (n := 2 * (k : Int)) g1 (by omega)
    have e2 := e_call (m := m) (rg := (rgS k).set 1 (nval (wrap64 (first + k)))) (sent := wantL first k) (n := 2 * (k : Int) + 1) g2 (by omega) hr
    refine (e1.trans e2).trans ?_
    have hw := wantL_len first k
    have hs : (if 64 ≤ (wantL first k).length then wantL first k else wantL first k ++ [wrap64 (first + k)]) = wantL first (k + 1) := by
      rw [hw]
      show _ = if k < 64 then _ else _
      by_cases h64 : k < 64
      · rw [if_pos h64, if_pos h64, if_neg (by omega)]
      · rw [if_neg h64, if_neg h64, if_pos (by omega)]
    have hg : rge (if 64 ≤ (wantL first k).length then -1 else 0) tlS = rgS (k + 1) := by
      rw [hw]
      unfold rgS
      rw [if_neg (by omega : ¬ k + 1 = 0)]
      by_cases h64 : k < 64
      · rw [if_pos h64, if_neg (by omega : ¬ 64 ≤ k), if_neg (by omega : ¬ 65 ≤ k + 1)]
      · rw [if_neg h64, if_pos (Nat.le_refl _), if_pos (by omega : 65 ≤ k + 1)]
    rw [hs, hg, show 2 * k + 1 + 1 = 2 * (k + 1) by omega, show 2 * (k : Int) + 1 + 1 = 2 * ((k + 1 : Nat) : Int) by omega]
/-- Sent in their order, up to 64; each further one answers -1. -/
theorem send_run (first : Int) (k : Nat) (hk : k ≤ 80) : ∃ s2, runF ⟨[], [], sendc first k⟩ 1048576 (st0 []) = (0, s2) ∧ (s2.reg 0).x = (if 64 < k then -1 else 0) ∧ s2.sent = wantL first k := by
  obtain ⟨fx, hfx⟩ : ∃ fx : Mfix, fx = ⟨[], [], sendc first k⟩ := ⟨_, rfl⟩
  have hc : fx.code = sendc first k := by rw [hfx]
  rw [← hfx]
  have hsl := sendL_len first k
  by_cases h0 : k = 0
  · subst h0
    have hcl : fx.code.length = 2 := by rw [hc]; rfl
    have e1 := e_wide (fx := fx) (m := 1048575) (rg := rg0 0) (sent := []) (k := 0) (n := 0) (d := 0) (y := 0) (by rw [hc]; rfl) (by omega)
    have e2 := e_exit (fx := fx) (m := 1048574) (rg := (rg0 0).set 0 (nval 0)) (sent := []) (k := 1) (n := 1) (by rw [hc]; rfl) rfl
    exact ⟨_, e1.trans e2, rfl, rfl⟩
  · have hcode : fx.code = sendL first k ++ [insExit] := by rw [hc]; unfold sendc; rw [if_neg h0, List.append_nil]
    have hcl : fx.code.length = 2 * k + 1 := by rw [hcode, List.length_append, hsl]; rfl
    have hat : ∀ i, i < k → fx.code[2 * i]? = some (insWide 1 (wrap64 (first + i))) ∧ fx.code[2 * i + 1]? = some insCall := fun i hi => by
      rw [hcode, List.getElem?_append_left (by omega), List.getElem?_append_left (by omega)]
      exact sendL_at first k i hi
    have e1 := send_rounds (fx := fx) first k hat (by omega) k (Nat.le_refl _) (1048575 - 2 * k + 1)
    have hrk : rgS k = rge (if 65 ≤ k then -1 else 0) tlS := by unfold rgS; rw [if_neg h0]
    have e2 := e_exit (fx := fx) (m := 1048575 - 2 * k) (rg := rgS k) (sent := wantL first k) (k := 2 * k) (n := 2 * (k : Int)) (by rw [hcode, List.getElem?_append_right (by omega), hsl, Nat.sub_self]; rfl) (by rw [hrk]; rfl)
    rw [show 1048575 - 2 * k + 1 + 2 * k = 1048576 by omega] at e1
    refine ⟨_, e1.trans e2, ?_, rfl⟩
    show ((sts (rgS k) (wantL first k) (2 * k) (2 * (k : Int))).reg 0).x = _
    rw [hrk]
    show (if 65 ≤ k then (-1 : Int) else 0) = if 64 < k then -1 else 0
    by_cases h : 64 < k
    · rw [if_pos h, if_pos (by omega)]
    · rw [if_neg h, if_neg (by omega)]
theorem wantL_r (first : Int) (k : Nat) : ∀ x ∈ wantL first k, i64r x := by
  induction k with
  | zero => intro x hx; cases hx
  | succ k ih =>
    unfold wantL
    split
    · intro x hx
      rcases List.mem_append.1 hx with h | h
      · exact ih x h
      · rw [List.mem_singleton.1 h]
        unfold i64r wrap64
        omega
    · exact ih
theorem sendc_ok (first : Int) (k : Nat) (hk : k ≤ 80) : X.ProgOK EmitK (sendc first k) := by
  have hsl := sendL_len first k
  have hlen : (sendc first k).length = 2 * k + (if k = 0 then 1 else 0) + 1 := by
    unfold sendc
    rw [List.length_append, List.length_append, hsl]
    split <;> rfl
  have hw : ∀ d y, 0 ≤ d ∧ d ≤ 9 → i64r y → (insWide d y).right = 0 ∧ i64r (insWide d y).imm ∧ EmitK (insWide d y) := fun d y hd hy => ⟨right_wide d y hd, hy, Or.inl (Or.inr (Or.inl rfl))⟩
  have hsend : ∀ n : Nat, ∀ i ∈ sendL first n, i.right = 0 ∧ i64r i.imm ∧ EmitK i := by
    intro n
    induction n with
    | zero => intro i hi; cases hi
    | succ n ih =>
      intro i hi
      unfold sendL at hi
      rcases List.mem_append.1 hi with h | h
      · exact ih i h
      · simp only [List.mem_cons, List.not_mem_nil, or_false] at h
        rcases h with rfl | rfl
        · exact hw 1 _ (by decide) (by unfold i64r wrap64; omega)
        · exact ⟨by decide, by unfold i64r insCall; decide, Or.inr ⟨rfl, rfl⟩⟩
  refine ⟨⟨by rw [hlen]; omega, by rw [hlen]; split <;> omega⟩, fun i hi => ?_, fun j i hi hj => ?_⟩
  · unfold sendc at hi
    rcases List.mem_append.1 hi with h | h
    · rcases List.mem_append.1 h with h | h
      · exact hsend k i h
      · split at h
        · rw [List.mem_singleton.1 h]
          exact hw 0 0 (by decide) zero_r
        · cases h
    · rw [List.mem_singleton.1 h]
      exact ⟨right_exit, zero_r, Or.inl (Or.inr (Or.inr (Or.inr (Or.inr rfl))))⟩
  · have hi' : i = insExit := by
      unfold sendc at hi hj
      rw [List.length_append] at hj
      simp only [List.length_singleton] at hj
      rw [List.getElem?_append_right (by omega)] at hi
      have : j - (sendL first k ++ if k = 0 then [insWide 0 0] else []).length = 0 := by omega
      rw [this] at hi
      simpa using hi.symm
    subst hi'
    exact Or.inr rfl
end Go.Proofs.YtdepknffpnnmmaaGreat
