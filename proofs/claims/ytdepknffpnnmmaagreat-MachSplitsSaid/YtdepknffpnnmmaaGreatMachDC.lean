import Derived.Test.YtdepknffpnnmmaaGreatMachDB
import Derived.BigQuiet
import Derived.Deep.Cut
set_option maxRecDepth 100000
set_option maxHeartbeats 16000000
namespace Go.Proofs.YtdepknffpnnmmaaGreat
open Go.RowKit
set_option linter.unusedVariables false
set_option linter.unusedSimpArgs false
theorem step_last {fx : Mfix} {s : Mst} (hG : Good fx s) (ht8 : fx.tabs.length <= 8) (k : Nat) (hk : k < fx.code.length) (hat : s.at' = k) (hd : s.done = false) (op : Int) (nar reg : Bool) (size dst src off imm : Int) (hi : fx.code[k] = ⟨op, nar, reg, size, dst, src, off, imm⟩) (hiOK : InsOK fx ⟨op, nar, reg, size, dst, src, off, imm⟩)
 (hlen : fx.code.length <= 4096) (hno : ¬ (26 <= op /\ op <= 37)) (h39 : op ≠ 39) (hlast : k + 1 = fx.code.length) : StepR fx s (if (doF fx s ⟨op, nar, reg, size, dst, src, off, imm⟩).er = 0 then 89 else (doF fx s ⟨op, nar, reg, size, dst, src, off, imm⟩).er) s := by
 intro base w0 bx v w hM
 obtain ⟨h0, h1, h2, h3, h4, h5, h6⟩ := hM.heads
 obtain ⟨t0, t1, t2, t3⟩ := hM.tail
 obtain ⟨g, c, hcv, hcode⟩ := hM.codeAt k hk
 have hlst := fun base w0 bx v w h => last_of hG ht8 _ hiOK base w0 bx v w h
 rw [hat] at t1
 rw [hd] at t3
 rw [hcv] at h4
 have e0 := hcode 0 (by decide)
 have e1 := hcode 1 (by decide)
 have e2 := hcode 2 (by decide)
 have e3 := hcode 3 (by decide)
 have e4 := hcode 4 (by decide)
 have e5 := hcode 5 (by decide)
 have e6 := hcode 6 (by decide)
 have e7 := hcode 7 (by decide)
 simp only [hi, Ins.cs, insc, List.getElem?_cons_zero, List.getElem?_cons_succ, Nat.add_zero] at e0 e1 e2 e3 e4 e5 e6 e7
 obtain ⟨n, hn⟩ : ∃ n, n = fx.code.length := ⟨_, rfl⟩
 rw [<- hn] at h4 hlen hlast
 have hj1 : (0 : Int) <= (k : Int) := by omega
 have hj2 : (k : Int) < (n : Int) := by omega
 have hlt := hM.box.lt
 have hlg := World.block_lt_of_cell? w _ e0
 simp only at hlg
 obtain ⟨ER, hER⟩ : ∃ z, (if (doF fx s ⟨op, nar, reg, size, dst, src, off, imm⟩).er = 0 then 89 else (doF fx s ⟨op, nar, reg, size, dst, src, off, imm⟩).er) = z := ⟨_, rfl⟩
 rw [hER] at hlst ⊢
 unfold Ins.agg at hlst
 simp only at hlst
 have HM := Lib.hid hM
 have HLS := Lib.hid hlst
 have HN := Lib.hid (And.intro hn (And.intro hlen hlast))
 have HNO := Lib.hid hno
 clear hM hcode hi hn hlst hER hiOK hlen hlast hno hG ht8
 go_enter Tryz.func23, Tryz.ntmps23
 go_upto_region 3 with fail
 go_region
 go_upto_region 4 with fail
 have HU := Lib.hid (show SU base w0 fx s bx { v with ρ := newRole v.ρ w.heap.size 9 } w.heap.size ⟨op, nar, reg, size, dst, src, off, imm⟩ w ((w.alloc (.cells #[.int .i64 op, .bool nar, .bool reg, .int .i64 size, .int .i64 dst, .int .i64 src, .int .i64 off, .int .i64 imm] 25)).drew) from SU.next ⟨HM.out.box9 _, Row.made w (Ins.cs ⟨op, nar, reg, size, dst, src, off, imm⟩) _, by unfold newRole; simp, by simp, fun k hk => ((Below.refl w.heap.size w).alloc (Nat.le_refl _) _).block k hk⟩ (Below.refl _ _).drew)
 clear h0 h1 h2 h3 h4 h5 h6 t0 t1 t2 t3 e0 e1 e2 e3 e4 e5 e6 e7 hlg hlt
 generalize World.drew _ = wA at HU ⊢
 go_cut [4] from 9 (fun s4 wx => s4 = .bool false /\ SU base w0 fx s bx { v with ρ := newRole v.ρ w.heap.size 9 } w.heap.size ⟨op, nar, reg, size, dst, src, off, imm⟩ w wx)
 case first =>
  obtain ⟨c0, _⟩ := HU.out.cells
  simp only at c0
  by_cases ha : 26 <= op
  ·have ha' := decide_eq_true ha
   have hb' : decide (op <= 37) = false := decide_eq_false (fun hb => HNO.out ⟨ha, hb⟩)
   go_wp2_with fail
   go_meet
   case rel => exact ⟨rfl, HU.out⟩
  ·have ha' := decide_eq_false ha
   go_wp2_with fail
   go_meet
   case rel => exact ⟨rfl, HU.out⟩
 case rest =>
  obtain ⟨rfl, hU⟩ := hcut
  have HU2 := Lib.hid hU
  clear hU HU
  go_upto_region 5 with fail
  go_cut [50] from 9 (fun s50 wx => s50 = .bool true /\ SU base w0 fx s bx { v with ρ := newRole v.ρ w.heap.size 9 } w.heap.size ⟨op, nar, reg, size, dst, src, off, imm⟩ w wx)
  case first =>
   obtain ⟨c0, _⟩ := HU2.out.cells
   obtain ⟨_, _, _, _, h4, _, _⟩ := HU2.out.ms.heads
   obtain ⟨_, t1, _, _⟩ := HU2.out.ms.tail
   simp only [hcv, <- HN.out.1] at h4
   rw [hat] at t1
   simp only at c0
   have h39' : (op != 39) = true := by simp [h39]
   have hw : wrap64 ((k : Int) + 1) = (n : Int) := by have := HN.out; unfold wrap64; omega
   go_quiet (fail)
   go_wp2_with fail
   go_meet
   case rel => exact ⟨by first | rfl | simp, HU2.out.next (below_drewN (Below.refl _ _) _)⟩
  case rest =>
   obtain ⟨rfl, hU⟩ := hcut
   have HU3 := Lib.hid hU
   clear hU HU2
   obtain ⟨c0, c1, c2, c3, c4, c5, c6, c7⟩ := HU3.out.cells
   simp only at c0 c1 c2 c3 c4 c5 c6 c7
   go_wp2_with (go_at_call 53; go_loud (refine (HLS.out _ _ _ _ _ HU3.out.ms).mono ?_; rintro e wL ⟨rfl, hbL⟩))
   exact bodyPost_ret (v := .int .i64 ER) (by simp [results, Tryz.results23, go_sem]) rfl ⟨rfl, { v with ρ := newRole v.ρ w.heap.size 9 }, HU3.out.ms.next hbL, fun q hq _ => (hbL.block q (Nat.lt_of_lt_of_le hq HU3.out.size)).trans (HU3.out.old q hq), newRole_same⟩
structure CodeG (fx : Mfix) : Prop where
 len : fx.code.length <= 4096
 ins : ∀ i ∈ fx.code, InsOK fx i
 tabs : fx.tabs.length <= 8
theorem step_G {fx : Mfix} {s : Mst} (hc : CodeG fx) (h : Good fx s) (hat : s.at' < fx.code.length) (hd : s.done = false) (hst : 0 <= s.steps /\ s.steps < 4611686018427387904) : StepR fx s (stepF fx s).1 (stepF fx s).2 := by
 have hg : fx.code[s.at']? = some fx.code[s.at'] := List.getElem?_eq_getElem hat
 have hi := hc.ins _ (List.getElem_mem hat)
 by_cases hl : s.at' + 1 = fx.code.length /\ ¬ (26 <= fx.code[s.at'].op /\ fx.code[s.at'].op <= 37) /\ fx.code[s.at'].op ≠ 39
 ·obtain ⟨h1, h2, h3⟩ := hl
  have hS := step_last h hc.tabs s.at' hat rfl hd fx.code[s.at'].op fx.code[s.at'].nar fx.code[s.at'].reg fx.code[s.at'].size fx.code[s.at'].dst fx.code[s.at'].src fx.code[s.at'].off fx.code[s.at'].imm rfl hi hc.len h2 h3 h1
  have e : fx.code.getD s.at' ⟨0, false, false, 0, 0, 0, 0, 0⟩ = fx.code[s.at'] := by rw [List.getD_eq_getElem?_getD, hg]; rfl
  have hby : (doF fx s fx.code[s.at']).by' = 0 := doF_by fx s _ (by have := hi.op; omega)
  have hF : stepF fx s = ((if (doF fx s fx.code[s.at']).er = 0 then 89 else (doF fx s fx.code[s.at']).er), s) := by
   unfold stepF
   rw [hd, if_neg (by decide)]
   simp only [e]
   by_cases he : (doF fx s fx.code[s.at']).er = 0
   ·rw [if_neg (by simpa using he), if_neg h3, if_pos he, hby]
    have hw : whereF fx.code ((unitAt fx.code (s.at' + 1) : Int) + 0) = none := by
     cases hq : whereF fx.code ((unitAt fx.code (s.at' + 1) : Int) + 0) with
     | none => rfl
     | some j =>
       obtain ⟨j1, j2⟩ := where_some hq
       have := unit_inj (i := j) (j := s.at' + 1) (by rw [j2]; omega)
       omega
    rw [hw]
   ·rw [if_pos (by simpa using he), if_neg he]
  rw [hF]
  exact hS
 ·refine step_F fx s _ hg hd hc.len ?_ hi.op.2 hst (doF_byr hi) (do_all h _ hi)
  by_cases h1 : s.at' + 1 = fx.code.length
  ·by_cases h2 : 26 <= fx.code[s.at'].op /\ fx.code[s.at'].op <= 37
   ·exact Or.inl h2
   ·by_cases h3 : fx.code[s.at'].op = 39
    ·exact Or.inr (Or.inl h3)
    ·exact absurd ⟨h1, h2, h3⟩ hl
  ·exact Or.inr (Or.inr h1)
theorem count_G {fx : Mfix} {s : Mst} (hc : CodeG fx) (hat : s.at' < fx.code.length) : (stepF fx s).2.at' < fx.code.length /\ s.steps <= (stepF fx s).2.steps /\ (stepF fx s).2.steps <= s.steps + 1 := by
 have hg : fx.code[s.at']? = some fx.code[s.at'] := List.getElem?_eq_getElem hat
 have hi := hc.ins _ (List.getElem_mem hat)
 have hg' : fx.code.getD s.at' ⟨0, false, false, 0, 0, 0, 0, 0⟩ = fx.code[s.at'] := by rw [List.getD_eq_getElem?_getD, hg]; rfl
 obtain ⟨q1, q2⟩ := doF_at (fx := fx) (s := s) hi.op.2
 unfold stepF
 split
 ·exact ⟨hat, Int.le_refl _, by show s.steps <= s.steps + 1; omega⟩
 ·simp only [hg']
  split
  ·exact ⟨hat, Int.le_refl _, by show s.steps <= s.steps + 1; omega⟩
  ·split
   ·refine ⟨by show (doF fx s fx.code[s.at']).s.at' < _; rw [q2]; exact hat, ?_, ?_⟩
    ·show s.steps <= (doF fx s fx.code[s.at']).s.steps + 1; omega
    ·show (doF fx s fx.code[s.at']).s.steps + 1 <= _; omega
   ·split
    ·rename_i j hj
     refine ⟨(where_some hj).1, ?_, ?_⟩
     ·show s.steps <= (doF fx s fx.code[s.at']).s.steps + 1; omega
     ·show (doF fx s fx.code[s.at']).s.steps + 1 <= _; omega
    ·exact ⟨hat, Int.le_refl _, by show s.steps <= s.steps + 1; omega⟩
structure Sane (fx : Mfix) (s : Mst) : Prop where
 good : Good fx s
 at' : s.at' < fx.code.length
 steps : 0 <= s.steps
theorem Sane.step {fx : Mfix} {s : Mst} (hc : CodeG fx) (h : Sane fx s) : Sane fx (stepF fx s).2 := by
 obtain ⟨c1, c2, c3⟩ := count_G (s := s) hc h.at'
 exact ⟨stepF_ok h.good _ (hc.ins _ (List.getElem_mem h.at')) (List.getElem?_eq_getElem h.at'), c1, by have := h.steps; omega⟩
theorem Sane.run {fx : Mfix} (hc : CodeG fx) : ∀ (n : Nat) (s : Mst), Sane fx s -> Sane fx (runF fx n s).2
 | 0, s, h => by
   unfold runF
   cases s.done <;> exact h
 | n + 1, s, h => by
   unfold runF
   cases s.done with
   | true => exact h
   | false =>
     rw [if_neg (by decide)]
     split
     ·exact Sane.run hc n _ (h.step hc)
     ·exact h.step hc
theorem run_G {fx : Mfix} (hc : CodeG fx) : ∀ (n : Nat) (s : Mst), Sane fx s -> s.steps + n < 4611686018427387904 -> Runs fx s n (runF fx n s).1 (runF fx n s).2
 | 0, s, h, hn => by
   unfold runF
   cases hd : s.done with
   | true => exact Runs.done s 0 hd
   | false => exact Runs.fuel s hd
 | n + 1, s, h, hn => by
   unfold runF
   cases hd : s.done with
   | true => exact Runs.done s _ hd
   | false =>
     rw [if_neg (by decide)]
     have hR := step_G hc h.good h.at' hd ⟨h.steps, by omega⟩
     obtain ⟨c1, c2, c3⟩ := count_G (s := s) hc h.at'
     by_cases he : (stepF fx s).1 = 0
     ·rw [if_pos he]
      have r1 := run_G hc n (stepF fx s).2 (h.step hc) (by push_cast at hn; omega)
      rw [he] at hR
      exact Runs.step _ _ _ _ _ hd hR r1
     ·rw [if_neg he]
      exact Runs.trap _ _ _ _ hd hR he
end Go.Proofs.YtdepknffpnnmmaaGreat
