/-
  The machine: Step.
-/
import Derived.Test.YtbkcpepalicbjaaGreatMachT
import Derived.Deep.QuietTactic
import Derived.BigQuiet
namespace Go.Proofs.YtbkcpepalicbjaaGreat
open Go.RowKit
set_option linter.unusedVariables false
set_option linter.unusedSimpArgs false

/-- A step of the machine: from s to s1, with the answer er. -/
def StepR (fx : Mfix) (s : Mst) (er : Int) (s1 : Mst) : Prop :=
  ∀ (base : Nat) (w0 : World) (bx : Nat) (v : Mvals) (w : World), MS base w0 fx s bx v w → Calls Tryz.prog 48 #[.pointer (some ⟨bx, 0, none⟩)] w fun e w' =>
    e = .returned (.int .i64 er) ∧ ∃ v', MS base w0 fx s1 bx v' w' ∧ Fr9 v.ρ w w' ∧ ∀ k, k < w.heap.size → v'.ρ k = v.ρ k
/-- What Step has behind its third region: the machine, the instruction's box. -/
structure SU (base : Nat) (w0 : World) (fx : Mfix) (s : Mst) (bx : Nat) (v : Mvals) (ib : Nat) (i : Ins) (w : World) (w1 : World) : Prop where
  ms : MS base w0 fx s bx v w1
  ins : Row w1 ib 23 i.cs
  role : v.ρ ib = 9
  size : w.heap.size ≤ w1.heap.size
  old : ∀ k, k < w.heap.size → w1.heap[k]? = w.heap[k]?
theorem SU.next {base : Nat} {w0 : World} {fx : Mfix} {s : Mst} {bx : Nat} {v : Mvals} {ib : Nat} {i : Ins} {w w1 w2 : World} (h : SU base w0 fx s bx v ib i w w1) (hb : Below w1.heap.size w1 w2) : SU base w0 fx s bx v ib i w w2 :=
  ⟨h.ms.next hb, h.ins.below hb h.ins.lt, h.role, Nat.le_trans h.size hb.size, fun k hk => (hb.block k (Nat.lt_of_lt_of_le hk h.size)).trans (h.old k hk)⟩
theorem SU.cells {base : Nat} {w0 : World} {fx : Mfix} {s : Mst} {bx : Nat} {v : Mvals} {ib : Nat} {i : Ins} {w w1 : World} (h : SU base w0 fx s bx v ib i w w1) : w1.cell? ⟨ib, 0, none⟩ = some (.int .i64 i.op) ∧ w1.cell? ⟨ib, 1, none⟩ = some (.bool i.nar) ∧ w1.cell? ⟨ib, 2, none⟩ = some (.bool i.reg) ∧ w1.cell? ⟨ib, 3, none⟩ = some (.int .i64 i.size) ∧
    w1.cell? ⟨ib, 4, none⟩ = some (.int .i64 i.dst) ∧ w1.cell? ⟨ib, 5, none⟩ = some (.int .i64 i.src) ∧ w1.cell? ⟨ib, 6, none⟩ = some (.int .i64 i.off) ∧ w1.cell? ⟨ib, 7, none⟩ = some (.int .i64 i.imm) :=
  ⟨by rw [h.ins.cell]; rfl, by rw [h.ins.cell]; rfl, by rw [h.ins.cell]; rfl, by rw [h.ins.cell]; rfl, by rw [h.ins.cell]; rfl, by rw [h.ins.cell]; rfl, by rw [h.ins.cell]; rfl, by rw [h.ins.cell]; rfl⟩

theorem s9 {w1 : World} {ib : Nat} {op : Int} {nar reg : Bool} {size dst src off imm : Int} (h : Row w1 ib 23 (insc op nar reg size dst src off imm)) : w1.cell? ⟨ib, 0, none⟩ = some (.int .i64 op) ∧ w1.cell? ⟨ib, 1, none⟩ = some (.bool nar) ∧ w1.cell? ⟨ib, 2, none⟩ = some (.bool reg) ∧ w1.cell? ⟨ib, 3, none⟩ = some (.int .i64 size) ∧ w1.cell? ⟨ib, 4, none⟩ = some (.int .i64 dst) ∧ w1.cell? ⟨ib, 5, none⟩ = some (.int .i64 src) ∧ w1.cell? ⟨ib, 6, none⟩ = some (.int .i64 off) ∧ w1.cell? ⟨ib, 7, none⟩ = some (.int .i64 imm) ∧ Row w1 ib 23 (insc op nar reg size dst src off imm) :=
  ⟨by rw [h.cell]; rfl, by rw [h.cell]; rfl, by rw [h.cell]; rfl, by rw [h.cell]; rfl, by rw [h.cell]; rfl, by rw [h.cell]; rfl, by rw [h.cell]; rfl, by rw [h.cell]; rfl, h⟩
theorem SU.fr {base : Nat} {w0 : World} {fx : Mfix} {s : Mst} {bx : Nat} {v : Mvals} {ib : Nat} {i : Ins} {w w1 w2 : World} (h : SU base w0 fx s bx v ib i w w1) (hf : Fr9 v.ρ w1 w2) : Row w2 ib 23 i.cs :=
  (hf ib h.ins.lt h.role).trans h.ins
theorem doer_ten (op : Int) : doerF op = 134 ∨ doerF op = 135 ∨ doerF op = 136 ∨ doerF op = 137 ∨ doerF op = 138 ∨ doerF op = 139 ∨ doerF op = 140 ∨ doerF op = 141 ∨ doerF op = 142 ∨ doerF op = 143 := by
  unfold doerF
  repeat' split
  all_goals simp
/-- What lay before the step, of role 9, stays. -/
theorem SU.fr9 {base : Nat} {w0 : World} {fx : Mfix} {s : Mst} {bx : Nat} {v : Mvals} {i : Ins} {w w1 w2 : World} (h : SU base w0 fx s bx { v with ρ := newRole v.ρ w.heap.size 9 } w.heap.size i w w1)
    (hf : Fr9 (newRole v.ρ w.heap.size 9) w1 w2) : Fr9 v.ρ w w2 := fun k hk hr => (hf k (Nat.lt_of_lt_of_le hk h.size) ((newRole_same k hk).trans hr)).trans (h.old k hk)
theorem SU.ro9 {base : Nat} {w0 : World} {fx : Mfix} {s : Mst} {bx : Nat} {v : Mvals} {i : Ins} {w w1 : World} {ρ' : Nat → Nat} (h : SU base w0 fx s bx { v with ρ := newRole v.ρ w.heap.size 9 } w.heap.size i w w1)
    (hro : ∀ k, k < w1.heap.size → ρ' k = newRole v.ρ w.heap.size 9 k) : ∀ k, k < w.heap.size → ρ' k = v.ρ k := fun k hk => (hro k (Nat.lt_of_lt_of_le hk h.size)).trans (newRole_same k hk)
/-- What Step makes of what a doer did. -/
def StepSays (fx : Mfix) (k : Nat) (by' er : Int) (s1 : Mst) (ef : Int) (s2 : Mst) : Prop :=
  (er ≠ 0 ∧ s2 = s1 ∧ ef = er) ∨ (er = 0 ∧ s1.done = true ∧ s2 = { s1 with steps := s1.steps + 1 } ∧ ef = 0) ∨
  (er = 0 ∧ s1.done = false ∧ ∃ j, j < fx.code.length ∧ (unitAt fx.code j : Int) = (unitAt fx.code (k + 1) : Int) + by' ∧ s2 = { s1 with at' := j, steps := s1.steps + 1 } ∧ ef = 0) ∨
  (er = 0 ∧ s1.done = false ∧ (∀ j < fx.code.length, (unitAt fx.code j : Int) ≠ (unitAt fx.code (k + 1) : Int) + by') ∧ s2 = s1 ∧ ef = 89)
theorem fr_box2 {ρ ρ' : Nat → Nat} {w wx : World} {bx i j : Nat} {x y : Value} (h0 : ρ' bx = 0) (h : Fr9 ρ w wx ∧ ∀ k, k < w.heap.size → ρ' k = ρ k) : Fr9 ρ w ((wx.drew.setCell ⟨bx, i, none⟩ x).setCell ⟨bx, j, none⟩ y) := fun q hq hr => by
  have hne : q ≠ bx := fun hc => by have := h.2 q hq; rw [hr, hc, h0] at this; cases this
  rw [Below.heap_setCell _ _ _ _ hne, Below.heap_setCell _ _ _ _ hne]
  exact h.1 q hq hr
theorem zero_int (w : World) : (zeroValue 3).run Tryz.prog w = .ok (.int .i64 0) w := by kernel_rfl
theorem wrapEq (x : Int) : IntKind.i64.wrap x = wrap64 x := by rw [IntKind.wrap_i64]; unfold wrap64; omega
structure SF (fx : Mfix) (s1 : Mst) (bx : Nat) (v : Mvals) (k n : Nat) (by' : Int) (wc : World) (K1 gu cu : Nat) (U T : Int) : Prop where
  q1 : wc.cell? ⟨bx, 468, none⟩ = some (.int .i64 k)
  q2 : wc.cell? ⟨bx, 469, none⟩ = some (.int .i64 s1.steps)
  q3 : wc.cell? ⟨bx, 470, none⟩ = some (.bool false)
  u5 : wc.cell? ⟨bx, 421, none⟩ = some (.slice (some ⟨gu, 0, none⟩) (n + 1) cu)
  u6 : wc.cell? ⟨bx, 422, none⟩ = some (.map (some v.mb))
  hcu : wc.cell? ⟨gu, K1, none⟩ = some (.int .i64 U)
  hwk : wrap64 ((k : Int) + 1) = (K1 : Int)
  hwu : wrap64 (U + by') = T
  hj3 : (0 : Int) ≤ (K1 : Int)
  hj4 : (K1 : Int) < (n : Int) + 1
  hwr : wrap64 (s1.steps + 1) = s1.steps + 1
  f1 : wc.frozen? ⟨bx, 469, none⟩ = false
  f0 : wc.frozen? ⟨bx, 468, none⟩ = false
  hlb : bx < wc.heap.size
  hT : T = (unitAt fx.code (k + 1) : Int) + by'
  hwk2 : IntKind.i64.wrap ((k : Int) + 1) = (K1 : Int)
  hwu2 : IntKind.i64.wrap (U + by') = T
theorem st_facts {base : Nat} {w0 : World} {fx : Mfix} {s1 : Mst} {bx : Nat} {v : Mvals} {wc : World} (h : MS base w0 fx s1 bx v wc) {k n : Nat} {by' : Int} (hn : n = fx.code.length) (hk : k < fx.code.length) (hlen : fx.code.length ≤ 4096) (hat1 : s1.at' = k) (hdn : s1.done = false)
    (hst : 0 ≤ s1.steps ∧ s1.steps < 4611686018427387904) (hby : -4611686018427387904 ≤ by' ∧ by' ≤ 4611686018427387904) : ∃ K1 gu cu U T, SF fx s1 bx v k n by' wc K1 gu cu U T := by
  obtain ⟨_, q1, q2, q3⟩ := h.tail
  rw [hdn] at q3
  rw [hat1] at q1
  obtain ⟨_, _, _, _, _, u5, u6⟩ := h.heads
  obtain ⟨gu, cu, huv, hcu⟩ := h.unitsAt (k + 1) (by omega)
  rw [huv, ← hn] at u5
  have hu := unitAt_le fx.code (k + 1)
  refine ⟨k + 1, gu, cu, (unitAt fx.code (k + 1) : Nat), (unitAt fx.code (k + 1) : Nat) + by', q1, q2, q3, u5, u6, hcu, ?_, ?_, ?_, ?_, ?_, h.box.free 469, h.box.free 468, h.box.lt, rfl, ?_, ?_⟩
  · unfold wrap64; omega
  · generalize unitAt fx.code (k + 1) = U at hu ⊢
    unfold wrap64; omega
  · omega
  · omega
  · unfold wrap64; omega
  · rw [wrapEq]; unfold wrap64; omega
  · rw [wrapEq]
    generalize unitAt fx.code (k + 1) = U at hu ⊢
    unfold wrap64; omega
theorem look_there {base : Nat} {w0 : World} {fx : Mfix} {s1 : Mst} {bx : Nat} {v : Mvals} {wc : World} (h : MS base w0 fx s1 bx v wc) (j : Nat) (hj : j < fx.code.length) (T : Int) (hT : (unitAt fx.code j : Int) = T) :
    (Instr.lookup 142 (.map (some v.mb)) (.int .i64 T) true).run Tryz.prog wc.drew = .ok (.tuple #[.int .i64 j, .bool true]) wc.drew := by
  have hm : wc.drew.heap[v.mb]? = some (.map (bents fx.code fx.code.length) fx.code.length) := h.begin'.at'
  rw [← hT]
  exact run_look (P := Tryz.prog) Tryz.underlying142 Tryz.underlying3 wc.drew v.mb _ _ hm _ j (.int .i64 j) (find_begin fx.code fx.code.length j hj) true
theorem look_nowhere {base : Nat} {w0 : World} {fx : Mfix} {s1 : Mst} {bx : Nat} {v : Mvals} {wc : World} (h : MS base w0 fx s1 bx v wc) (T : Int) (hT : ∀ j < fx.code.length, (unitAt fx.code j : Int) ≠ T) :
    (Instr.lookup 142 (.map (some v.mb)) (.int .i64 T) true).run Tryz.prog wc.drew = .ok (.tuple #[.int .i64 0, .bool false]) wc.drew := by
  have hm : wc.drew.heap[v.mb]? = some (.map (bents fx.code fx.code.length) fx.code.length) := h.begin'.at'
  exact run_look_none (P := Tryz.prog) Tryz.underlying142 Tryz.underlying3 wc.drew v.mb _ _ hm T (.int .i64 0) (find_nowhere fx.code fx.code.length T hT) (zero_int _) true
set_option maxRecDepth 100000 in
set_option maxHeartbeats 4000000 in
theorem step_of (fx : Mfix) (s : Mst) (k : Nat) (hk : k < fx.code.length) (hat : s.at' = k) (hd : s.done = false) (op : Int) (nar reg : Bool) (size dst src off imm : Int) (hi : fx.code[k] = ⟨op, nar, reg, size, dst, src, off, imm⟩)
    (hlen : fx.code.length ≤ 4096) (by' er : Int) (s1 : Mst) (hdo : DoR (doerF op) fx s ⟨op, nar, reg, size, dst, src, off, imm⟩ by' er s1)
    (hgo : (26 ≤ op ∧ op ≤ 37) ∨ op = 39 ∨ k + 1 ≠ fx.code.length) (hat1 : s1.at' = k) (hst : 0 ≤ s1.steps ∧ s1.steps < 4611686018427387904) (hby : -4611686018427387904 ≤ by' ∧ by' ≤ 4611686018427387904) (ef : Int) (s2 : Mst)
    (hres : StepSays fx k by' er s1 ef s2) : StepR fx s ef s2 := by
  intro base w0 bx v w hM
  obtain ⟨h0, h1, h2, h3, h4, h5, h6⟩ := hM.heads
  obtain ⟨t0, t1, t2, t3⟩ := hM.tail
  obtain ⟨g, c, hcv, hcode⟩ := hM.codeAt k hk
  rw [hat] at t1
  rw [hd] at t3
  rw [hcv] at h4
  have e0 := hcode 0 (by decide)
  have e1 := hcode 1 (by decide)
  have e2 := hcode 2 (by decide)
  have e3 := hcode 3 (by decide)
  have e4 := hcode 4 (by decide)
  have e5 := hcode 5 (by decide)
  have e6 := hcode 6 (by decide)
  have e7 := hcode 7 (by decide)
  simp only [hi, Ins.cs, insc, List.getElem?_cons_zero, List.getElem?_cons_succ, Nat.add_zero] at e0 e1 e2 e3 e4 e5 e6 e7
  obtain ⟨n, hn⟩ : ∃ n, n = fx.code.length := ⟨_, rfl⟩
  rw [← hn] at h4
  have hj1 : (0 : Int) ≤ (k : Int) := by omega
  have hj2 : (k : Int) < (n : Int) := by omega
  have hlt := hM.box.lt
  have hlg := World.block_lt_of_cell? w _ e0
  simp only at hlg
  have HM := Lib.hid hM
  have HDO := Lib.hid hdo
  have HGO := Lib.hid hgo
  have HI := Lib.hid hi
  have HN := Lib.hid hn
  have HRES := Lib.hid hres
  clear hM hdo hgo hcode hi hn hres
  go_enter Tryz.func48, Tryz.ntmps48
  go_upto_region 3 with fail
  go_region
  go_upto_region 4 with fail
  have HU := Lib.hid (show SU base w0 fx s bx { v with ρ := newRole v.ρ w.heap.size 9 } w.heap.size ⟨op, nar, reg, size, dst, src, off, imm⟩ w ((w.alloc (.cells #[.int .i64 op, .bool nar, .bool reg, .int .i64 size, .int .i64 dst, .int .i64 src, .int .i64 off, .int .i64 imm] 23)).drew) from SU.next ⟨HM.out.box9 _, Row.made w (Ins.cs ⟨op, nar, reg, size, dst, src, off, imm⟩) _, by unfold newRole; simp, by simp, fun k hk => ((Below.refl w.heap.size w).alloc (Nat.le_refl _) _).block k hk⟩ (Below.refl _ _).drew)
  clear h0 h1 h2 h3 h4 h5 h6 t0 t1 t2 t3 e0 e1 e2 e3 e4 e5 e6 e7 hlg hlt
  generalize World.drew _ = wA at HU ⊢
  go_cut [4] from 9 (fun s4 wx => s4 = .bool (decide (26 ≤ op) && decide (op ≤ 37)) ∧ SU base w0 fx s bx { v with ρ := newRole v.ρ w.heap.size 9 } w.heap.size ⟨op, nar, reg, size, dst, src, off, imm⟩ w wx)
  case first =>
    obtain ⟨c0, _⟩ := HU.out.cells
    simp only at c0
    by_cases ha : 26 ≤ op
    · have ha' := decide_eq_true ha
      by_cases hb : op ≤ 37
      · have hb' := decide_eq_true hb
        go_wp2_with fail
        go_meet
        case rel => exact ⟨by rw [ha', hb']; rfl, HU.out⟩
      · have hb' := decide_eq_false hb
        go_wp2_with fail
        go_meet
        case rel => exact ⟨by rw [ha', hb']; rfl, HU.out⟩
    · have ha' := decide_eq_false ha
      go_wp2_with fail
      go_meet
      case rel => exact ⟨by rw [ha']; rfl, HU.out⟩
  case rest =>
    obtain ⟨rfl, hU⟩ := hcut
    obtain ⟨J, hJ⟩ : ∃ J : Bool, (decide (26 ≤ op) && decide (op ≤ 37)) = J := ⟨_, rfl⟩
    rw [hJ]
    have HU2 := Lib.hid hU
    have HJ := Lib.hid hJ
    clear hU HU hJ
    go_upto_region 5 with fail
    go_cut [50] from 9 (fun s50 wx => s50 = .bool false ∧ SU base w0 fx s bx { v with ρ := newRole v.ρ w.heap.size 9 } w.heap.size ⟨op, nar, reg, size, dst, src, off, imm⟩ w wx)
    case first =>
      obtain ⟨c0, _⟩ := HU2.out.cells
      obtain ⟨_, _, _, _, h4, _, _⟩ := HU2.out.ms.heads
      obtain ⟨_, t1, _, _⟩ := HU2.out.ms.tail
      simp only [hcv, ← HN.out] at h4
      rw [hat] at t1
      simp only at c0
      cases J with
      | true =>
        go_quiet (fail)
        go_wp2_with fail
        go_meet
        case rel => exact ⟨rfl, HU2.out.next (below_drewN (Below.refl _ _) _)⟩
      | false =>
        by_cases h39 : op = 39
        · have h39' : (op != 39) = false := by simp [h39]
          go_quiet (fail)
          go_wp2_with fail
          go_meet
          case rel => exact ⟨rfl, HU2.out.next (below_drewN (Below.refl _ _) _)⟩
        · have h39' : (op != 39) = true := by simp [h39]
          have hne : k + 1 ≠ n := by
            rcases HGO.out with ⟨ha, hb⟩ | h | h
            · have := HJ.out; simp [ha, hb] at this
            · exact absurd h h39
            · rw [HN.out]; exact h
          have hw : wrap64 ((k : Int) + 1) = (k : Int) + 1 := by have := HN.out; unfold wrap64; omega
          have hne' : ((k : Int) + 1 == (n : Int)) = false := by simp; omega
          go_quiet (fail)
          go_wp2_with fail
          go_meet
          case rel => exact ⟨rfl, HU2.out.next (below_drewN (Below.refl _ _) _)⟩
    case rest =>
      obtain ⟨rfl, hU⟩ := hcut
      have HU3 := Lib.hid hU
      clear hU HU2
      go_upto_region 7 with fail
      go_cut [5, 6] from 9 (fun s5 s6 wx => s5 = .int .i64 by' ∧ s6 = .int .i64 er ∧ ∃ v', MS base w0 fx s1 bx v' wx ∧ Fr9 v.ρ w wx ∧ ∀ k, k < w.heap.size → v'.ρ k = v.ρ k)
      case first =>
        have HU4 := Lib.hid (HU3.out.next (Below.refl _ _).drew)
        have hks := s9 HU4.out.ins
        obtain ⟨F, hF⟩ : ∃ F, doerF op = F := ⟨_, rfl⟩
        have hten := doer_ten op
        rw [hF] at hten
        have hdr := fun w' => doer_of op bx w'
        have hdo := HDO.out
        rw [hF] at hdr hdo
        have HDR := Lib.hid hdr
        have HDO2 := Lib.hid hdo
        clear hdr hdo
        unfold DoerSays at HDR
        rcases hten with rfl | rfl | rfl | rfl | rfl | rfl | rfl | rfl | rfl | rfl
        all_goals
         go_region_held3 (fun w' => w'.cell? ⟨w.heap.size, 0, none⟩ = some (.int .i64 op) ∧ w'.cell? ⟨w.heap.size, 1, none⟩ = some (.bool nar) ∧ w'.cell? ⟨w.heap.size, 2, none⟩ = some (.bool reg) ∧ w'.cell? ⟨w.heap.size, 3, none⟩ = some (.int .i64 size) ∧ w'.cell? ⟨w.heap.size, 4, none⟩ = some (.int .i64 dst) ∧ w'.cell? ⟨w.heap.size, 5, none⟩ = some (.int .i64 src) ∧ w'.cell? ⟨w.heap.size, 6, none⟩ = some (.int .i64 off) ∧ w'.cell? ⟨w.heap.size, 7, none⟩ = some (.int .i64 imm) ∧ Row w' w.heap.size 23 (insc op nar reg size dst src off imm))
          (first
            | with_reducible assumption
            | with_reducible exact s9 hr)
          (first
            | (go_at_call 95; refine (HDR.out _).mono ?_; rintro e w' ⟨rfl, rfl⟩)
            | ((first | go_at_call 134 | go_at_call 135 | go_at_call 136 | go_at_call 137 | go_at_call 138 | go_at_call 139 | go_at_call 140 | go_at_call 141 | go_at_call 142 | go_at_call 143); refine (HDO2.out _ _ _ _ _ HU4.out.ms).mono ?_; rintro e wX ⟨rfl, v', hM', hf, hro⟩; have hr : Row wX w.heap.size 23 (insc op nar reg size dst src off imm) := HU4.out.fr hf))
        all_goals
          rename_i hheld
          go_wp2_with fail
          go_meet
          case rel => exact ⟨rfl, rfl, v', hM', HU4.out.fr9 hf, HU4.out.ro9 hro⟩
      case rest =>
        obtain ⟨rfl, rfl, v', hM1, hf, hro⟩ := hcut
        have HM1 := Lib.hid hM1
        have HFR := Lib.hid (And.intro hf hro)
        clear hM1 hf hro HU3 HDO HGO HI HJ
        rcases HRES.out with ⟨he, rfl, rfl⟩ | ⟨rfl, hdn, rfl, rfl⟩ | ⟨rfl, hdn, j, hjl, hju, rfl, rfl⟩ | ⟨rfl, hdn, hno, rfl, rfl⟩
        · have het : (ef != 0) = true := by simpa using he
          go_wp2
          exact bodyPost_ret (v := .int .i64 ef) (by simp [results, Tryz.results48, go_sem]) rfl ⟨rfl, v', HM1.out, HFR.out⟩
        · obtain ⟨_, q1, q2, q3⟩ := HM1.out.tail
          rw [hdn] at q3
          have hwr : wrap64 (s1.steps + 1) = s1.steps + 1 := by unfold wrap64; omega
          have f1 := HM1.out.box.free 469
          go_wp2
          have hM2 := HM1.out.setSteps (s1.steps + 1)
          exact bodyPost_ret (v := .int .i64 0) (by simp [results, Tryz.results48, go_sem]) rfl ⟨rfl, v', hM2, fun q hq hr => (Below.heap_setCell _ _ _ _ (fun hc => by have h0 := HM1.out.rb; have h1 := HFR.out.2 q hq; rw [show bx = q from hc.symm] at h0; rw [h1, hr] at h0; cases h0)).trans (HFR.out.1 q hq hr), HFR.out.2⟩
        · obtain ⟨K1, gu, cu, U, T, hSF⟩ := st_facts HM1.out HN.out hk hlen hat1 hdn hst hby
          have hlook := look_there HM1.out j hjl T (by rw [hSF.hT]; exact hju)
          obtain ⟨q1, q2, q3, u5, u6, hcu, hwk, hwu, hj3, hj4, hwr, f1, f0, hlb, hTT, hwk2, hwu2⟩ := hSF
          clear hTT
          have HK := Lib.hid hk
          clear hk hlen hat1 hst hby
          clear hju
          go_upto_region 13 with fail
          have hks : wc.drew.cell? ⟨bx, 468, none⟩ = some (.int .i64 k) ∧ wc.drew.cell? ⟨bx, 421, none⟩ = some (.slice (some ⟨gu, 0, none⟩) (n + 1) cu) ∧ wc.drew.cell? ⟨bx, 422, none⟩ = some (.map (some v'.mb)) ∧ wc.drew.cell? ⟨gu, K1, none⟩ = some (.int .i64 U) := ⟨q1, u5, u6, hcu⟩
          go_region_held3 (fun w' => w'.cell? ⟨bx, 468, none⟩ = some (.int .i64 k) ∧ w'.cell? ⟨bx, 421, none⟩ = some (.slice (some ⟨gu, 0, none⟩) (n + 1) cu) ∧ w'.cell? ⟨bx, 422, none⟩ = some (.map (some v'.mb)) ∧ w'.cell? ⟨gu, K1, none⟩ = some (.int .i64 U))
            (assumption) (fail)
          rename_i hheld
          clear hheld hks
          go_wp2
          have hM2 := ((HM1.out.next (Below.refl _ _).drew).setAt j).setSteps (s1.steps + 1)
          exact bodyPost_ret (v := .int .i64 0) (by simp [results, Tryz.results48, go_sem]) rfl ⟨rfl, v', hM2, fr_box2 HM1.out.rb HFR.out, HFR.out.2⟩
        · obtain ⟨K1, gu, cu, U, T, hSF⟩ := st_facts HM1.out HN.out hk hlen hat1 hdn hst hby
          have hlook := look_nowhere HM1.out T (by rw [hSF.hT]; exact hno)
          obtain ⟨q1, q2, q3, u5, u6, hcu, hwk, hwu, hj3, hj4, hwr, f1, f0, hlb, hTT, hwk2, hwu2⟩ := hSF
          clear hTT
          have HK := Lib.hid hk
          clear hk hlen hat1 hst hby
          clear hno
          go_upto_region 13 with fail
          have hks : wc.drew.cell? ⟨bx, 468, none⟩ = some (.int .i64 k) ∧ wc.drew.cell? ⟨bx, 421, none⟩ = some (.slice (some ⟨gu, 0, none⟩) (n + 1) cu) ∧ wc.drew.cell? ⟨bx, 422, none⟩ = some (.map (some v'.mb)) ∧ wc.drew.cell? ⟨gu, K1, none⟩ = some (.int .i64 U) := ⟨q1, u5, u6, hcu⟩
          go_region_held3 (fun w' => w'.cell? ⟨bx, 468, none⟩ = some (.int .i64 k) ∧ w'.cell? ⟨bx, 421, none⟩ = some (.slice (some ⟨gu, 0, none⟩) (n + 1) cu) ∧ w'.cell? ⟨bx, 422, none⟩ = some (.map (some v'.mb)) ∧ w'.cell? ⟨gu, K1, none⟩ = some (.int .i64 U))
            (assumption) (fail)
          rename_i hheld
          clear hheld hks
          go_wp2
          exact bodyPost_ret (v := .int .i64 89) (by simp [results, Tryz.results48, go_sem]) rfl ⟨rfl, v', HM1.out.next (Below.refl _ _).drew, HFR.out.1, HFR.out.2⟩
end Go.Proofs.YtbkcpepalicbjaaGreat
