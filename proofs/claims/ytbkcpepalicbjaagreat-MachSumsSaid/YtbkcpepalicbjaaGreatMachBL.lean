/-
  MachJumps: the law's function nowhere.
-/
import Derived.Test.YtbkcpepalicbjaaGreatMachBI3
import Derived.Test.YtbkcpepalicbjaaGreatMachBK
import Derived.Test.YtbkcpepalicbjaaGreatBuilds
namespace Go.Proofs.YtbkcpepalicbjaaGreat
open Go.RowKit
set_option linter.unusedVariables false
set_option linter.unusedSimpArgs false

theorem store_state {s : Mst} (h1 : (regc s.rg).length = 44) (h2 : s.st.length = 416) (a b c : Option Addr) (n1 c1 n2 c2 n3 c3 : Nat) (w : World) :
    (storeCells ⟨w.heap.size, 0, none⟩ (statec s (.slice a n1 c1) (.slice b n2 c2) (.slice c n3 c3))).run Tryz.prog (w.alloc (.cells Tryz.zeroCells83 83)) = .ok () (w.alloc (.cells (statec s (.slice a n1 c1) (.slice b n2 c2) (.slice c n3 c3)).toArray 83)) := by
  have hX := statec_len h1 h2 (.slice a n1 c1) (.slice b n2 c2) (.slice c n3 c3)
  have := run_storeCells_new (P := Tryz.prog) w 83 Tryz.zeroCells83 (statec s (.slice a n1 c1) (.slice b n2 c2) (.slice c n3 c3)).toArray (by rw [List.size_toArray, hX]; exact info_state) (zstate_size.trans (by rw [List.size_toArray]; exact hX.symm)) (all_oneCell_toArray (statec_one a b c n1 c1 n2 c2 n3 c3))
  rw [List.toList_toArray] at this
  exact this
/-- What a state's box tells. -/
theorem state_box {s : Mst} (h1 : (regc s.rg).length = 44) (h2 : s.st.length = 416) (xv tv sv : Value) (w : World) (A S : Int) (D : Bool) (hA : (s.at' : Int) = A) (hS : s.steps = S) (hD : s.done = D) :
    (w.alloc (.cells (statec s xv tv sv).toArray 83)).cell? ⟨w.heap.size, 463, none⟩ = some (.int .i64 A) ∧ (w.alloc (.cells (statec s xv tv sv).toArray 83)).cell? ⟨w.heap.size, 464, none⟩ = some (.int .i64 S) ∧
    (w.alloc (.cells (statec s xv tv sv).toArray 83)).cell? ⟨w.heap.size, 465, none⟩ = some (.bool D) := by
  have hr := Row.made w (statec s xv tv sv) 83
  obtain ⟨t1, t2, t3⟩ := statec_tail h1 h2 xv tv sv
  rw [hA] at t1
  rw [hS] at t2
  rw [hD] at t3
  exact ⟨by rw [hr.cell]; exact t1, by rw [hr.cell]; exact t2, by rw [hr.cell]; exact t3⟩
theorem coded_n5 (w : World) (a y op : Int) (nar reg : Bool) (src off imm : Int) : Coded (w.alloc (.cells #[.int .i64 20, .bool false, .bool false, .int .i64 0, .int .i64 3, .int .i64 0, .int .i64 0, .int .i64 a, .int .i64 20, .bool false, .bool false, .int .i64 0, .int .i64 4, .int .i64 0, .int .i64 0, .int .i64 y, .int .i64 op, .bool nar, .bool reg, .int .i64 0, .int .i64 3, .int .i64 src, .int .i64 off, .int .i64 imm, .int .i64 20, .bool false, .bool false, .int .i64 0, .int .i64 0, .int .i64 0, .int .i64 0, .int .i64 2, .int .i64 39, .bool false, .bool false, .int .i64 0, .int .i64 0, .int .i64 0, .int .i64 0, .int .i64 0] 23)) (.slice (some ⟨w.heap.size, 0, none⟩) 5 5) (ncode ⟨op, nar, reg, 0, 3, src, off, imm⟩ a y) := coded_new (ncode ⟨op, nar, reg, 0, 3, src, off, imm⟩ a y) (by simp [ncode]) (by simp [ncode]) w
theorem coded_j7 (w : World) (a y op : Int) (nar reg : Bool) (src off imm : Int) : Coded (w.alloc (.cells #[.int .i64 20, .bool false, .bool false, .int .i64 0, .int .i64 3, .int .i64 0, .int .i64 0, .int .i64 a, .int .i64 20, .bool false, .bool false, .int .i64 0, .int .i64 4, .int .i64 0, .int .i64 0, .int .i64 y, .int .i64 15, .bool false, .bool false, .int .i64 0, .int .i64 0, .int .i64 0, .int .i64 0, .int .i64 1, .int .i64 op, .bool nar, .bool reg, .int .i64 0, .int .i64 3, .int .i64 src, .int .i64 off, .int .i64 imm, .int .i64 20, .bool false, .bool false, .int .i64 0, .int .i64 0, .int .i64 0, .int .i64 0, .int .i64 2, .int .i64 15, .bool false, .bool false, .int .i64 0, .int .i64 5, .int .i64 0, .int .i64 0, .int .i64 9, .int .i64 39, .bool false, .bool false, .int .i64 0, .int .i64 0, .int .i64 0, .int .i64 0, .int .i64 0] 23)) (.slice (some ⟨w.heap.size, 0, none⟩) 7 7) (jcode ⟨op, nar, reg, 0, 3, src, off, imm⟩ a y) := coded_new (jcode ⟨op, nar, reg, 0, 3, src, off, imm⟩ a y) (by simp [jcode]) (by simp [jcode]) w
theorem coded_j7n (w : World) (o : Obj) (a y op : Int) (nar reg : Bool) (src off imm : Int) : Coded ((w.alloc o).alloc (.cells #[.int .i64 20, .bool false, .bool false, .int .i64 0, .int .i64 3, .int .i64 0, .int .i64 0, .int .i64 a, .int .i64 20, .bool false, .bool false, .int .i64 0, .int .i64 4, .int .i64 0, .int .i64 0, .int .i64 y, .int .i64 15, .bool false, .bool false, .int .i64 0, .int .i64 0, .int .i64 0, .int .i64 0, .int .i64 1, .int .i64 op, .bool nar, .bool reg, .int .i64 0, .int .i64 3, .int .i64 src, .int .i64 off, .int .i64 imm, .int .i64 20, .bool false, .bool false, .int .i64 0, .int .i64 0, .int .i64 0, .int .i64 0, .int .i64 2, .int .i64 15, .bool false, .bool false, .int .i64 0, .int .i64 5, .int .i64 0, .int .i64 0, .int .i64 9, .int .i64 39, .bool false, .bool false, .int .i64 0, .int .i64 0, .int .i64 0, .int .i64 0, .int .i64 0] 23)) (.slice (some ⟨w.heap.size + 1, 0, none⟩) 7 7) (jcode ⟨op, nar, reg, 0, 3, src, off, imm⟩ a y) := coded_new2 (jcode ⟨op, nar, reg, 0, 3, src, off, imm⟩ a y) (by simp [jcode]) (by simp [jcode]) w o
theorem KB.setOff {w w1 : World} {ib : Nat} {op : Int} {nar reg : Bool} {size dst src off imm : Int} (h : KB w ib (insc op nar reg size dst src off imm) w1) (x : Int) : KB w ib (insc op nar reg size dst src x imm) (w1.setCell ⟨ib, 6, none⟩ (.int .i64 x)) :=
  ⟨h.row.put 6 (.int .i64 x), by
    have hb := h.bel
    exact ⟨hb.os, hb.tape, hb.output, by rw [World.size_setCell]; exact hb.size, fun k hk => by rw [Below.heap_setCell _ _ _ _ (by show k ≠ ib; have := h.lb; omega)]; exact hb.block k hk⟩, h.lb⟩
set_option maxRecDepth 100000 in
set_option maxHeartbeats 4000000 in
theorem nowhere_of (op : Int) (nar reg : Bool) (src imm off0 y : Int) (hj : ∀ off, off = 1 ∨ off = 40 → JIns op nar off y ⟨op, nar, reg, 0, 3, src, off, imm⟩) (a : Int) (ra : i64r a) (ry : i64r y) (w : World) :
    Calls Tryz.prog 67 #[.agg #[.int .i64 op, .bool nar, .bool reg, .int .i64 0, .int .i64 3, .int .i64 src, .int .i64 off0, .int .i64 imm], .int .i64 a, .int .i64 y, .bool (holdF op nar a y)] w
      fun e w' => e = .returned (.bool true) ∧ Below w.heap.size w w' := by
  have hbe := run_i0
  have hbp := run_prg4
  have hbin := run_inp0
  obtain ⟨tk, htk⟩ : ∃ tk, tk = holdF op nar a y := ⟨_, rfl⟩
  have hrun : ∀ off, off = 1 ∨ off = 40 → Runs ⟨[], [], ncode ⟨op, nar, reg, 0, 3, src, off, imm⟩ a y⟩ (st0 []) 9 (if tk then 89 else 0) (nowS a y tk) := fun off ho => by
    have hok := ncode_ok (hj off ho) a ra ry
    have h := (run_R hok.code 9 (st0 []) (good0 _ [] IsBytes.nil (by simp)) hok.len.1 (by show (0 : Int) ≤ 0; decide) (by show (0 : Int) + 9 < _; decide)).1
    rw [n_run (hj off ho) ho a 0, ← htk] at h
    exact h
  have hmade : ∀ off, off = 1 ∨ off = 40 → (Prg.mk 0 0 [] [] (ncode ⟨op, nar, reg, 0, 3, src, off, imm⟩ a y)).made := fun off ho => (ncode_ok (hj off ho) a ra ry).made 0 (by decide)
  rw [← htk]
  have HRUN := Lib.hid hrun
  have HMADE := Lib.hid hmade
  clear htk hrun hmade hj
  go_enter Tryz.func67, Tryz.ntmps67
  go_wp2_with fail
  go_loopg [9] 2 (fun g s9 wr => ∃ off offc : Int, (off = 1 ∧ g = 2 ∨ off = 40 ∧ g = 1 ∨ off = 79 ∧ g = 0) ∧ s9 = .int .i64 off ∧ KB w w.heap.size (insc op nar reg 0 3 src offc imm) wr)
  case atStart => exact ⟨1, off0, Or.inl ⟨rfl, rfl⟩, rfl, ⟨Row.made w (insc op nar reg 0 3 src off0 imm) _, below_map w _, Nat.le_refl _⟩⟩
  case round =>
    obtain ⟨off, offc, hoff, rfl, hK⟩ := hrel
    have HK := Lib.hid hK
    clear hK
    by_cases h40 : off ≤ 40
    · have hq : decide (off ≤ 40) = true := by simpa using h40
      have ho : off = 1 ∧ gk = 2 ∨ off = 40 ∧ gk = 1 := by omega
      have hwo : wrap64 (off + 39) = off + 39 := by unfold wrap64; omega
      have HO := Lib.hid ho
      clear hoff h40 ho
      obtain ⟨c0, c1, c2, c3, c4, c5, c6, c7, _⟩ := HK.out.k
      have hf6 := HK.out.row.free 6
      go_upto_region 5 with fail
      have HK2 := Lib.hid (HK.out.setOff off)
      generalize World.setCell _ _ _ = ws at HK2 ⊢
      clear c0 c1 c2 c3 c4 c5 c6 c7 hf6 HK
      go_cut [10, 11] (fun s10 s11 wx => ∃ bx v wb, s10 = .pointer (some ⟨bx, 0, none⟩) ∧ s11 = .int .i64 0 ∧ KB w w.heap.size (insc op nar reg 0 3 src off imm) wb ∧ MS wb.heap.size wb ⟨[], [], ncode ⟨op, nar, reg, 0, 3, src, off, imm⟩ a y⟩ (st0 []) bx v wx)
      case first =>
        have hks := (HK2.out.next (Below.refl _ _).drew).k
        go_region_held3 (fun w' => w'.cell? ⟨w.heap.size, 0, none⟩ = some (.int .i64 op) ∧ w'.cell? ⟨w.heap.size, 1, none⟩ = some (.bool nar) ∧ w'.cell? ⟨w.heap.size, 2, none⟩ = some (.bool reg) ∧ w'.cell? ⟨w.heap.size, 3, none⟩ = some (.int .i64 0) ∧ w'.cell? ⟨w.heap.size, 4, none⟩ = some (.int .i64 3) ∧ w'.cell? ⟨w.heap.size, 5, none⟩ = some (.int .i64 src) ∧ w'.cell? ⟨w.heap.size, 6, none⟩ = some (.int .i64 off) ∧ w'.cell? ⟨w.heap.size, 7, none⟩ = some (.int .i64 imm) ∧ KB w w.heap.size (insc op nar reg 0 3 src off imm) w')
          (first
            | with_reducible assumption
            | with_reducible exact KB.n (by with_reducible assumption) hbW
            | with_reducible exact KB.n (by with_reducible assumption) hM.bel
            | with_reducible exact KB.n (by with_reducible assumption) ((Below.refl _ _).alloc (Nat.le_refl _) _)
            | fail "none")
          (first
            | (go_at_call 21; refine (wide_of _ _ _).mono ?_; rintro e w' ⟨rfl, hbW⟩)
            | (go_at_call 39; refine (new_runH 0 (ncode ⟨op, nar, reg, 0, 3, src, off, imm⟩ a y) [] _ _ _ _ (HMADE.out off (by have := HO.out; omega)) (by decide) _ (coded_n5 _ _ _ _ _ _ _ _ _) (held_nil _)).mono ?_; rintro e wN ⟨bx, v, rfl, hM⟩; have hKB := KB.n (by with_reducible assumption) (Below.refl _ _)))
        all_goals
          rename_i hheld
          go_wp2_with fail
          go_meet
          case rel => exact ⟨_, _, _, rfl, rfl, hKB.2.2.2.2.2.2.2.2, hM⟩
      case rest =>
        obtain ⟨bx, v, wb, rfl, rfl, hKB, hM⟩ := hcut
        have HKB := Lib.hid hKB
        have HM := Lib.hid hM
        clear hKB hM HK2
        cases tk with
        | true =>
          have hR := HRUN.out off (by have := HO.out; omega)
          simp only [if_true] at hR
          go_upto_region 9 with (go_at_call 51; refine (run_of ⟨[], [], ncode ⟨op, nar, reg, 0, 3, src, off, imm⟩ a y⟩ (st0 []) 9 (by decide) 89 (nowS a y true) hR rfl (Nat.zero_le _) (Nat.zero_le _) _ _ _ _ _ HM.out).mono ?_; rintro e wR ⟨r0, xv', tv', sv', rfl, hO, v', hM', hf, hro⟩; obtain ⟨a1, n1, c1, rfl⟩ := hO.shx; obtain ⟨a2, n2, c2, rfl⟩ := hO.sht; obtain ⟨a3, n3, c3, rfl⟩ := hO.shs)
          have h44 : (regc (nowS a y true).rg).length = 44 := by rw [regc_len]; rfl
          have h416 : (nowS a y true).st.length = 416 := hM'.stl
          have HSA := Lib.hid (state_of ⟨[], [], ncode ⟨op, nar, reg, 0, 3, src, off, imm⟩ a y⟩ (nowS a y true) (Nat.zero_le _) (Nat.zero_le _) (Nat.zero_le _) (fun k hk => absurd hk (Nat.not_lt_zero k)) wb.heap.size wb bx v')
          have hMB := hM'.next (below_map wR (.cells #[.int .i64 r0, .slice a1 n1 c1, .slice a2 n2 c2, .slice a3 n3 c3] 31))
          have hrow := Row.made wR [.int .i64 r0, .slice a1 n1 c1, .slice a2 n2 c2, .slice a3 n3 c3] 31
          have HROW := Lib.hid hrow
          have HMB := Lib.hid hMB
          have HK3 := Lib.hid ((HKB.out.next (hM'.bel)).next (below_map wR (.cells #[.int .i64 r0, .slice a1 n1 c1, .slice a2 n2 c2, .slice a3 n3 c3] 31)))
          clear hMB hrow hO hM' hf hro hR
          go_wp2_with (go_at_call 45; go_loud (refine (HSA.out _ HMB.out).mono ?_; rintro e wS ⟨xv, tv, sv, rfl, hA⟩; obtain ⟨b1, m1, d1, rfl⟩ := hA.shx; obtain ⟨b2, m2, d2, rfl⟩ := hA.sht; obtain ⟨b3, m3, d3, rfl⟩ := hA.shs; have hsc := store_state h44 h416 b1 b2 b3 m1 d1 m2 d2 m3 d3 wS; obtain ⟨f1, f2, f3⟩ := state_box h44 h416 (.slice b1 m1 d1) (.slice b2 m2 d2) (.slice b3 m3 d3) wS 2 2 false rfl rfl rfl; have hbx := (HROW.out.below hA.bel HROW.out.lt).alloc (.cells (statec (nowS a y true) (.slice b1 m1 d1) (.slice b2 m2 d2) (.slice b3 m3 d3)).toArray 83); obtain ⟨⟨_, _, _, _⟩, _⟩ := hbx.four))
          go_roundg (gk - 1)
          case measure => have := HO.out; omega
          case rel =>
            have hk4 := (HK3.out.next hA.bel).next (below_map wS (.cells (statec (nowS a y true) (.slice b1 m1 d1) (.slice b2 m2 d2) (.slice b3 m3 d3)).toArray 83))
            exact ⟨off + 39, off, by have := HO.out; omega, by rw [hwo], hk4⟩
        | false =>
          have hR := HRUN.out off (by have := HO.out; omega)
          simp only [Bool.false_eq_true, if_false] at hR
          go_upto_region 9 with (go_at_call 51; refine (run_of ⟨[], [], ncode ⟨op, nar, reg, 0, 3, src, off, imm⟩ a y⟩ (st0 []) 9 (by decide) 0 (nowS a y false) hR rfl (Nat.zero_le _) (Nat.zero_le _) _ _ _ _ _ HM.out).mono ?_; rintro e wR ⟨r0, xv', tv', sv', rfl, hO, v', hM', hf, hro⟩; obtain ⟨a1, n1, c1, rfl⟩ := hO.shx; obtain ⟨a2, n2, c2, rfl⟩ := hO.sht; obtain ⟨a3, n3, c3, rfl⟩ := hO.shs)
          have h44 : (regc (nowS a y false).rg).length = 44 := by rw [regc_len]; rfl
          have h416 : (nowS a y false).st.length = 416 := hM'.stl
          have HSA := Lib.hid (state_of ⟨[], [], ncode ⟨op, nar, reg, 0, 3, src, off, imm⟩ a y⟩ (nowS a y false) (Nat.zero_le _) (Nat.zero_le _) (Nat.zero_le _) (fun k hk => absurd hk (Nat.not_lt_zero k)) wb.heap.size wb bx v')
          obtain rfl : r0 = 2 := hO.r0 rfl (nval 2) rfl
          have hMB := hM'.next (below_map wR (.cells #[.int .i64 2, .slice a1 n1 c1, .slice a2 n2 c2, .slice a3 n3 c3] 31))
          have hrow := Row.made wR [.int .i64 2, .slice a1 n1 c1, .slice a2 n2 c2, .slice a3 n3 c3] 31
          have HROW := Lib.hid hrow
          have HMB := Lib.hid hMB
          have HK3 := Lib.hid ((HKB.out.next (hM'.bel)).next (below_map wR (.cells #[.int .i64 2, .slice a1 n1 c1, .slice a2 n2 c2, .slice a3 n3 c3] 31)))
          clear hMB hrow hO hM' hf hro hR
          go_wp2_with (go_at_call 45; go_loud (refine (HSA.out _ HMB.out).mono ?_; rintro e wS ⟨xv, tv, sv, rfl, hA⟩; obtain ⟨b1, m1, d1, rfl⟩ := hA.shx; obtain ⟨b2, m2, d2, rfl⟩ := hA.sht; obtain ⟨b3, m3, d3, rfl⟩ := hA.shs; have hsc := store_state h44 h416 b1 b2 b3 m1 d1 m2 d2 m3 d3 wS; obtain ⟨f1, f2, f3⟩ := state_box h44 h416 (.slice b1 m1 d1) (.slice b2 m2 d2) (.slice b3 m3 d3) wS 4 5 true rfl rfl rfl; have hbx := (HROW.out.below hA.bel HROW.out.lt).alloc (.cells (statec (nowS a y false) (.slice b1 m1 d1) (.slice b2 m2 d2) (.slice b3 m3 d3)).toArray 83); obtain ⟨⟨_, _, _, _⟩, _⟩ := hbx.four))
          go_roundg (gk - 1)
          case measure => have := HO.out; omega
          case rel =>
            have hk4 := (HK3.out.next hA.bel).next (below_map wS (.cells (statec (nowS a y false) (.slice b1 m1 d1) (.slice b2 m2 d2) (.slice b3 m3 d3)).toArray 83))
            exact ⟨off + 39, off, by have := HO.out; omega, by rw [hwo], hk4⟩
    · have hq : decide (off ≤ 40) = false := by simpa using h40
      clear h40
      go_wp2_with fail
      go_ret
      exact ⟨rfl, HK.out.bel⟩
end Go.Proofs.YtbkcpepalicbjaaGreat
