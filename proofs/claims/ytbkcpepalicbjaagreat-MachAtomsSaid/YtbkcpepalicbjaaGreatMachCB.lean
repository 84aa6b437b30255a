/-
  MachAtoms' programs, run.
-/
import Derived.Test.YtbkcpepalicbjaaGreatMachCA
import Derived.Test.YtbkcpepalicbjaaGreatJ4a
import Derived.Test.YtbkcpepalicbjaaGreatBackA
namespace Go.Proofs.YtbkcpepalicbjaaGreat
open Go.RowKit
set_option linter.unusedVariables false
set_option linter.unusedSimpArgs false

section
variable {fx : Mfix} {s : Mst} {sl : List Slot} {ctx ctx' : List Int} {rg rg' : List Val} {k m : Nat} {n : Int} {i : Ins}
theorem doF_atom (h : i.op = 25) : doF fx s i = atomD fx s i := by
  unfold doF
  rw [if_neg (by omega), if_neg (by omega), if_neg (by omega), if_neg (by omega), if_neg (by omega), if_pos h]
theorem q_atom (hg : fx.code[k]? = some i) (hop : i.op = 25) (h : atomD fx (stm sl ctx rg k n) i = ⟨0, 0, stm sl ctx' rg' k n⟩) (hk : k + 1 < fx.code.length) : runF fx (m + 1) (stm sl ctx rg k n) = runF fx m (stm sl ctx' rg' (k + 1) (n + 1)) :=
  runF_go rfl (step_next (s' := stm sl ctx' rg' k n) k rfl hg rfl (by omega) ((doF_atom hop).trans h) hk)
end
def insAtom (size imm : Int) : Ins := ⟨25, false, false, size, 1, 3, 0, imm⟩
/-- What stands in memory afterwards, in r0, in r3. -/
def mixX (imm size r0 src old : Int) : Int :=
  let z := if size = 4 then r0 % 4294967296 else r0
  if imm = 0 ∨ imm = 1 then wrap64 (old + src)
  else if imm = 64 ∨ imm = 65 then (aluF 8 false old src).1
  else if imm = 80 ∨ imm = 81 then (aluF 9 false old src).1
  else if imm = 160 ∨ imm = 161 then (aluF 10 false old src).1
  else if imm = 241 ∧ old ≠ z then old else src
def atz (imm r0 old : Int) : Int := if imm = 241 then old else r0
def atl (imm src old : Int) : Int := if imm = 241 then src else if imm % 2 = 1 then old else src
def rga (n : Nat) (r0 src : Int) : List Val := ((rg0 n).set 0 (nval r0)).set 3 (nval src)
/-- An atomic instruction at the context's beginning. -/
theorem atom_at {fx : Mfix} {ctx : List Int} (size : Nat) (imm r0 src : Int) (k : Nat) (n : Int) (hs : size ≤ ctx.length) :
    atomD fx (stm (List.replicate 32 noslot) ctx (rga ctx.length r0 src) k n) (insAtom size imm) =
      ⟨0, 0, stm (List.replicate 32 noslot) (overF ctx 0 (putl size (mixX imm size r0 src (getv false (ctx.take size))))) (rga ctx.length (atz imm r0 (getv false (ctx.take size))) (atl imm src (getv false (ctx.take size)))) k n⟩ := by
  have hin : withinF fx (stm (List.replicate 32 noslot) ctx (rga ctx.length r0 src) k n) ⟨3, 0, 0, 0⟩ ((0 : Int) + 0) (size : Int) = true := by
    show (decide (0 ≤ (0 : Int) + 0) && decide ((0 : Int) + 0 + (size : Int) ≤ (ctx.length : Int))) = true
    rw [decide_eq_true (by decide), decide_eq_true (by omega)]
    rfl
  have hr : readF fx (stm (List.replicate 32 noslot) ctx (rga ctx.length r0 src) k n) ⟨3, 0, 0, 0⟩ ((0 : Int) + 0) (size : Int) = ctx.take size := by
    unfold readF
    rw [if_neg (by show ¬(3 : Int) = 2; decide), if_pos rfl, Int.toNat_natCast]
    rfl
  have hw : ∀ b : List Int, writeF fx (stm (List.replicate 32 noslot) ctx (rga ctx.length r0 src) k n) ⟨3, 0, 0, 0⟩ ((0 : Int) + 0) b = stm (List.replicate 32 noslot) (overF ctx 0 b) (rga ctx.length r0 src) k n := by
    intro b
    unfold writeF
    rw [if_neg (by show ¬(3 : Int) = 2; decide), if_pos rfl]
    rfl
  have hm : mixedF (stm (List.replicate 32 noslot) ctx (rga ctx.length r0 src) k n) (insAtom size imm) (getv false (ctx.take size)) = mixX imm size r0 src (getv false (ctx.take size)) := rfl
  have hv : (stm (List.replicate 32 noslot) ctx (rga ctx.length r0 src) k n).reg (insAtom size imm).dst = ⟨3, 0, 0, 0⟩ := rfl
  have h1 : ((stm (List.replicate 32 noslot) ctx (rga ctx.length r0 src) k n).reg (insAtom size imm).src).k = 1 := rfl
  have h0 : ((stm (List.replicate 32 noslot) ctx (rga ctx.length r0 src) k n).reg 0).k = 1 := rfl
  unfold atomD
  simp only [hv]
  rw [if_neg (by
    rintro (h | h | h)
    · exact absurd (show (3 : Int) < 2 from h) (by decide)
    · exact h h1
    · exact h.2 h0), if_neg (by show ¬(3 : Int) = 4; decide)]
  rw [if_neg (show ¬ (withinF fx (stm (List.replicate 32 noslot) ctx (rga ctx.length r0 src) k n) ⟨3, 0, 0, 0⟩ ((0 : Int) + (insAtom size imm).off) (insAtom size imm).size = false) from (by
    intro h
    rw [show withinF fx (stm (List.replicate 32 noslot) ctx (rga ctx.length r0 src) k n) ⟨3, 0, 0, 0⟩ ((0 : Int) + (insAtom size imm).off) (insAtom size imm).size = true from hin] at h
    cases h))]
  rw [if_neg (show ¬ (readableF (stm (List.replicate 32 noslot) ctx (rga ctx.length r0 src) k n) ⟨3, 0, 0, 0⟩ ((0 : Int) + (insAtom size imm).off) (insAtom size imm).size ≠ 0) from (fun h => h rfl))]
  rw [show readF fx (stm (List.replicate 32 noslot) ctx (rga ctx.length r0 src) k n) ⟨3, 0, 0, 0⟩ ((0 : Int) + (insAtom size imm).off) (insAtom size imm).size = ctx.take size from hr]
  rw [hm, show (insAtom size imm).size.toNat = size from Int.toNat_natCast size]
  rw [show (0 : Int) + (insAtom size imm).off = (0 : Int) + 0 from rfl, hw]
  congr 1
  show (if imm = 241 then _ else if imm % 2 = 1 then _ else _) = _
  unfold atz atl
  by_cases c1 : imm = 241
  · rw [if_pos c1, if_pos c1, if_pos c1]; rfl
  · rw [if_neg c1, if_neg c1, if_neg c1]
    by_cases c2 : imm % 2 = 1
    · rw [if_pos c2, if_pos c2]; rfl
    · rw [if_neg c2, if_neg c2]
def atc (size imm r0 src : Int) : List Ins := [insWide 0 r0, insWide 3 src, insAtom size imm, insExit]
def atd (size imm r0 src : Int) : List Ins := [insWide 0 r0, insWide 3 src, insAtom size imm, insMov 0 3, insExit]
theorem atom_runs (size : Nat) (imm r0 src : Int) (ctx : List Int) (hs : size ≤ ctx.length) :
    ∃ s1 s2, (runF ⟨[], [], atc size imm r0 src⟩ 1048576 (st0 ctx) = (0, s1) ∧ (s1.reg 0).x = atz imm r0 (getv false (ctx.take size)) ∧ s1.ctx = overF ctx 0 (putl size (mixX imm size r0 src (getv false (ctx.take size))))) ∧
      (runF ⟨[], [], atd size imm r0 src⟩ 1048576 (st0 ctx) = (0, s2) ∧ (s2.reg 0).x = atl imm src (getv false (ctx.take size)) ∧ s2.ctx = overF ctx 0 (putl size (mixX imm size r0 src (getv false (ctx.take size))))) := by
  have go3 : ∀ fx : Mfix, fx.code[0]? = some (insWide 0 r0) → fx.code[1]? = some (insWide 3 src) → fx.code[2]? = some (insAtom size imm) → 3 < fx.code.length →
      runF fx 1048576 (st0 ctx) = runF fx 1048573 (stm (List.replicate 32 noslot) (overF ctx 0 (putl size (mixX imm size r0 src (getv false (ctx.take size))))) (rga ctx.length (atz imm r0 (getv false (ctx.take size))) (atl imm src (getv false (ctx.take size)))) 3 3) := by
    intro fx g0 g1 g2 hl
    have e0 : runF fx 1048576 (stm (List.replicate 32 noslot) ctx (rg0 ctx.length) 0 0) = runF fx 1048575 (stm (List.replicate 32 noslot) ctx ((rg0 ctx.length).set 0 (nval r0)) 1 1) :=
      q_wide (m := 1048575) (d := 0) (y := r0) g0 (by omega)
    have e1 : runF fx 1048575 (stm (List.replicate 32 noslot) ctx ((rg0 ctx.length).set 0 (nval r0)) 1 1) = runF fx 1048574 (stm (List.replicate 32 noslot) ctx (rga ctx.length r0 src) 2 2) :=
      q_wide (m := 1048574) (d := 3) (y := src) g1 (by omega)
    have e2 := q_atom (m := 1048573) (i := insAtom size imm) g2 rfl (atom_at (fx := fx) size imm r0 src 2 2 hs) hl
    exact e0.trans (e1.trans e2)
  have e1 := go3 ⟨[], [], atc size imm r0 src⟩ rfl rfl rfl (by show 3 < 4; decide)
  have e2 := go3 ⟨[], [], atd size imm r0 src⟩ rfl rfl rfl (by show 3 < 5; decide)
  clear go3
  generalize getv false (ctx.take size) = old at *
  generalize overF ctx 0 (putl size (mixX imm size r0 src old)) = cx at *
  generalize hzz : atz imm r0 old = zz at *
  generalize hll : atl imm src old = ll at *
  have f1 := q_exit (fx := ⟨[], [], atc size imm r0 src⟩) (sl := List.replicate 32 noslot) (ctx := cx) (rg := rga ctx.length zz ll) (k := 3) (n := 3) (m := 1048572) rfl rfl
  have g1 : runF ⟨[], [], atd size imm r0 src⟩ 1048573 (stm (List.replicate 32 noslot) cx (rga ctx.length zz ll) 3 3) = runF ⟨[], [], atd size imm r0 src⟩ 1048572 (stm (List.replicate 32 noslot) cx ((rga ctx.length zz ll).set 0 (nval ll)) 4 4) :=
    q_arith (m := 1048572) (i := insMov 0 3) (v := nval ll) rfl (by decide) (av_mov _ (nval ll) (by show (1 : Int) ≠ 0; decide)) (by show 4 < 5; decide)
  have g2 := q_exit (fx := ⟨[], [], atd size imm r0 src⟩) (sl := List.replicate 32 noslot) (ctx := cx) (rg := (rga ctx.length zz ll).set 0 (nval ll)) (k := 4) (n := 4) (m := 1048571) rfl rfl
  exact ⟨_, _, ⟨e1.trans f1, rfl, rfl⟩, ⟨e2.trans (g1.trans g2), rfl, rfl⟩⟩
/-- The law's answer: what is joined, unless a comparison fails. -/
theorem mix_now (size : Nat) (hsz : size = 4 ∨ size = 8) (imm op r0 src old nw : Int) (hr : i64r r0) (hp : (imm = 0 ∨ imm = 1) ∧ op = 1 ∨ (imm = 64 ∨ imm = 65) ∧ op = 8 ∨ (imm = 80 ∨ imm = 81) ∧ op = 9 ∨ (imm = 160 ∨ imm = 161) ∧ op = 10 ∨ (imm = 225 ∨ imm = 241) ∧ op = 15)
    (hs : i64r src) (hn : nw = (aluF op false old src).1) : (aluF op false old src).2 = 0 ∧ mixX imm size r0 src old = if imm = 241 ∧ old ≠ getv false (putl size r0) then old else nw := by
  subst hn
  have hz : (if (size : Int) = 4 then r0 % 4294967296 else r0) = getv false (putl size r0) := by
    rcases hsz with rfl | rfl
    · rw [if_pos (by decide), (get_put 4 r0 (by decide) (by decide)).1]; rfl
    · rw [if_neg (by decide), get_put8 r0 (by unfold i64r at hr; omega)]
  unfold mixX
  simp only
  rw [hz]
  rcases hp with ⟨h, rfl⟩ | ⟨h, rfl⟩ | ⟨h, rfl⟩ | ⟨h, rfl⟩ | ⟨h, rfl⟩
  · rw [if_pos h, if_neg (by omega), aluF_wide, aluf64_add]
    refine ⟨rfl, ?_⟩
    show wrap64 (old + src) = wrap64 ((w_add 64 (un old) (un src) : Nat) : Int)
    unfold w_add un
    rw [show (2 : Nat) ^ 64 = 18446744073709551616 from by decide]
    unfold wrap64
    omega
  · rw [if_neg (by omega), if_pos h, if_neg (by omega), aluF_wide, aluf64_or]
    exact ⟨rfl, rfl⟩
  · rw [if_neg (by omega), if_neg (by omega), if_pos h, if_neg (by omega), aluF_wide, aluf64_and]
    exact ⟨rfl, rfl⟩
  · rw [if_neg (by omega), if_neg (by omega), if_neg (by omega), if_pos h, if_neg (by omega), aluF_wide, aluf64_xor]
    exact ⟨rfl, rfl⟩
  · rw [if_neg (by omega), if_neg (by omega), if_neg (by omega), if_neg (by omega), aluF_wide, aluf64_mov]
    refine ⟨rfl, ?_⟩
    have e : wrap64 ((w_mov 64 (un old) (un src) : Nat) : Int) = src := by
      have := mov64_same src src hs
      unfold w_mov
      unfold i64r at hs
      unfold un wrap64
      omega
    show _ = if _ then old else wrap64 ((w_mov 64 (un old) (un src) : Nat) : Int)
    rw [e]
theorem right_atom (size imm : Int) (hsz : size = 4 ∨ size = 8) (hk : Kinds imm) : (insAtom size imm).right = 0 := by
  rcases hsz with rfl | rfl
  all_goals
    unfold Kinds at hk
    rcases hk with rfl | rfl | rfl | rfl | rfl | rfl | rfl | rfl | rfl | rfl <;> decide
/-- MachAtoms' instructions. -/
def AtomK (i : Ins) : Prop := Known i.op ∨ i.op = 25
theorem atc_ok (size imm r0 src : Int) (hsz : size = 4 ∨ size = 8) (hk : Kinds imm) (h0 : i64r r0) (hs : i64r src) : X.ProgOK AtomK (atc size imm r0 src) := by
  have him : i64r imm := by unfold Kinds at hk; unfold i64r; omega
  refine ⟨⟨by simp [atc], by simp [atc]⟩, fun i hi => ?_, fun j i hi hj => ?_⟩
  · simp only [atc, List.mem_cons, List.not_mem_nil, or_false] at hi
    rcases hi with rfl | rfl | rfl | rfl
    · exact ⟨right_wide 0 r0 (by decide), h0, Or.inl (Or.inr (Or.inl rfl))⟩
    · exact ⟨right_wide 3 src (by decide), hs, Or.inl (Or.inr (Or.inl rfl))⟩
    · exact ⟨right_atom size imm hsz hk, him, Or.inr rfl⟩
    · exact ⟨right_exit, zero_r, Or.inl (Or.inr (Or.inr (Or.inr (Or.inr rfl))))⟩
  · have : j = 3 := by simp [atc] at hj; omega
    subst this
    have : i = insExit := by simpa [atc] using hi.symm
    subst this
    exact Or.inr rfl
theorem atd_ok (size imm r0 src : Int) (hsz : size = 4 ∨ size = 8) (hk : Kinds imm) (h0 : i64r r0) (hs : i64r src) : X.ProgOK AtomK (atd size imm r0 src) := by
  have him : i64r imm := by unfold Kinds at hk; unfold i64r; omega
  refine ⟨⟨by simp [atd], by simp [atd]⟩, fun i hi => ?_, fun j i hi hj => ?_⟩
  · simp only [atd, List.mem_cons, List.not_mem_nil, or_false] at hi
    rcases hi with rfl | rfl | rfl | rfl | rfl
    · exact ⟨right_wide 0 r0 (by decide), h0, Or.inl (Or.inr (Or.inl rfl))⟩
    · exact ⟨right_wide 3 src (by decide), hs, Or.inl (Or.inr (Or.inl rfl))⟩
    · exact ⟨right_atom size imm hsz hk, him, Or.inr rfl⟩
    · exact ⟨right_movr 0 3 (by decide) (by decide), zero_r, Or.inl (Or.inl (by show (15 : Int) ≤ 15; decide))⟩
    · exact ⟨right_exit, zero_r, Or.inl (Or.inr (Or.inr (Or.inr (Or.inr rfl))))⟩
  · have : j = 4 := by simp [atd] at hj; omega
    subst this
    have : i = insExit := by simpa [atd] using hi.symm
    subst this
    exact Or.inr rfl
end Go.Proofs.YtbkcpepalicbjaaGreat
