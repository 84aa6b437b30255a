import Derived.Test.YtdepknffpnnmmaaGreatMachAW
import Derived.Test.YtdepknffpnnmmaaGreatMachAR
import Derived.Test.YtdepknffpnnmmaaGreatJ6a
import Derived.Test.YtdepknffpnnmmaaGreatJ5a
set_option maxRecDepth 100000
set_option maxHeartbeats 1600000
namespace Go.Proofs.YtdepknffpnnmmaaGreat
open Go.RowKit
set_option linter.unusedVariables false
set_option linter.unusedSimpArgs false
theorem kinds_of' {imm : Int} (h : atomicv imm = true) : Kinds imm := by
 unfold atomicv writesSrcv at h
 unfold Kinds
 simp at h
 omega
theorem do_atomD' {fx : Mfix} {s : Mst} (h : Good fx s) (i : Ins) (hi : InsOK fx i) (hop : i.op = 25) : DoR (doerF i.op) fx s i (atomD fx s i).by' (atomD fx s i).er (atomD fx s i).s := by
 have hF : doerF i.op = 72 := by
  unfold doerF
  rw [if_neg (by omega), if_neg (by omega), if_neg (by omega), if_neg (by omega), if_neg (by omega), if_pos hop]
 rw [hF]
 have hby : (atomD fx s i).by' = 0 := by
  unfold atomD; dsimp only; repeat' split
  all_goals rfl
 rw [hby]
 intro base w0 bx v w hM
 obtain ⟨d, hd⟩ : ∃ d : Nat, i.dst = d := ⟨i.dst.toNat, by have := hi.dst; omega⟩
 obtain ⟨r, hr⟩ : ∃ r : Nat, i.src = r := ⟨i.src.toNat, by have := hi.src; omega⟩
 have hd1 := hi.dst
 have hr1 := hi.src
 obtain ⟨hsz, hat⟩ := hi.atom hop
 have hk := kinds_of' hat
 have hoff := hi.off
 obtain ⟨op, nar, reg, size, dst, src, off, imm⟩ := i
 simp only at hd hr hd1 hr1 hsz hoff hop hk
 subst hd hr
 have hg : ∀ n : Nat, n < 11 -> s.rg[n]? = some (s.reg n) := fun n hn => by rw [s.reg_get n (by have := h.regs.1; omega)]; exact List.getElem?_eq_getElem _
 exact atom_walk op nar reg size off imm d r (by omega) (by omega) (s.reg d).k (s.reg d).t (s.reg d).o (s.reg d).x (s.reg r).k (s.reg r).t (s.reg r).o (s.reg r).x (s.reg 0).k (s.reg 0).t (s.reg 0).o (s.reg 0).x
  (hg d (by omega)) (hg r (by omega)) (hg 0 (by decide)) (reg_ok h.regs 0).x hk (reg_ok h.regs d).ptr h.mem (by omega) hoff w hM
theorem doF_call0 {fx : Mfix} {s : Mst} {i : Ins} (h : i.op = 38) : doF fx s i = callD fx s i := by
 unfold doF
 rw [if_neg (by omega), if_neg (by omega), if_neg (by omega), if_neg (by omega), if_neg (by omega), if_neg (by omega), if_neg (by omega), if_neg (by omega), if_pos h]
theorem call_bad (op : Int) (nar reg : Bool) (size dst src off imm : Int) (hbad : imm < 1 \/ 8 < imm) (bx : Nat) (cs : List Value) (w : World) (h : Row w bx 99 cs) :
 Calls Tryz.prog 75 #[.pointer (some ⟨bx, 0, none⟩), .agg #[.int .i64 op, .bool nar, .bool reg, .int .i64 size, .int .i64 dst, .int .i64 src, .int .i64 off, .int .i64 imm]] w (Wrote w bx cs 0 87) := by
 have HF := Lib.hid (FM.begin h op nar reg size dst src off imm)
 have HL := Lib.hid (looks_none imm hbad)
 clear h hbad
 go_enter Tryz.func75, Tryz.ntmps75
 go_upto_region 1 with fail
 generalize World.alloc _ _ = w1 at HF ⊢
 obtain ⟨c0, c1, c2, c3, c4, c5, c6, c7⟩ := HF.out.cells
 go_wp2_with (go_at_call 96; go_loud (refine (sig_none imm HL.out _).mono ?_; rintro e wS ⟨rfl, hbS⟩))
 have hF := (HF.out.next hbS).next (below_map wS (.cells #[.slice none 0 0, .int .i64 0, .int .i64 0, .bool false, .bool false] 136))
 exact bodyPost_ret (v := .tuple #[.int .i64 0, .int .i64 87]) (by simp [results, Tryz.results75, go_sem]) rfl ⟨rfl, hF.mod, hF.mach⟩
theorem do_callA {fx : Mfix} {s : Mst} (h : Good fx s) (i : Ins) (hop : i.op = 38) : DoR (doerF i.op) fx s i (callD fx s i).by' (callD fx s i).er (callD fx s i).s := by
 have hF : doerF i.op = 75 := by
  unfold doerF
  rw [if_neg (by omega), if_neg (by omega), if_neg (by omega), if_neg (by omega), if_neg (by omega), if_neg (by omega), if_neg (by omega), if_neg (by omega), if_pos hop]
 rw [hF, call_by]
 obtain ⟨op, nar, reg, size, dst, src, off, imm⟩ := i
 by_cases hb : imm < 1 \/ 8 < imm
 ·have e : callD fx s ⟨op, nar, reg, size, dst, src, off, imm⟩ = trapD s 87 := by
   unfold callD
   rw [if_pos (show (Ins.mk op nar reg size dst src off imm).imm < 1 \/ 8 < (Ins.mk op nar reg size dst src off imm).imm from hb)]
  rw [e]
  exact do_same fun bx cs w hl hr hl2 hw => call_bad op nar reg size dst src off imm hb bx cs w hw
 ·intro base w0 bx v w hM
  exact call_walk op nar reg size dst src off imm (by omega) h w hM
theorem constant_data (nar reg : Bool) (size src off imm : Int) (d : Nat) (hd : d < 11) (bx : Nat) (cs : List Value) (w : World) (hl : cs.length = 471) (h : Row w bx 99 cs) :
 Calls Tryz.prog 69 #[.pointer (some ⟨bx, 0, none⟩), .agg #[.int .i64 21, .bool nar, .bool reg, .int .i64 size, .int .i64 d, .int .i64 src, .int .i64 off, .int .i64 imm]] w (Wrote w bx (set4 cs (423 + d * 4) (.int .i64 4) (.int .i64 0) (.int .i64 0) (.int .i64 imm)) 0 0) := by
 have hj1 : (0 : Int) <= (d : Int) := by omega
 have hj2 : (d : Int) < 11 := by omega
 have HF := Lib.hid (FM.begin h 21 nar reg size d src off imm)
 clear h
 go_enter Tryz.func69, Tryz.ntmps69
 go_upto_region 1 with fail
 generalize World.alloc _ _ = w1 at HF ⊢
 have hks := (show FX w bx w.heap.size 21 nar reg size d src off imm w1 from ⟨_, HF.out, hl⟩).next (Below.refl _ _).drew
 replace hks := hks.k47
 go_region_held3 (fun w' => w'.cell? ⟨w.heap.size, 4, none⟩ = some (.int .i64 d) /\ w'.cell? ⟨w.heap.size, 7, none⟩ = some (.int .i64 imm) /\ FX w bx w.heap.size 21 nar reg size d src off imm w')
  (first | assumption | exact FX.n47 (by assumption) hb | exact (FX.set4 (FX.n47 (by assumption) hb).2.2 _ _ _ _ _).k47 | exact (FX.set4 (by assumption) _ _ _ _ _).k47)
  (first
    | (go_at_call 50; refine (num_of _ _).mono ?_; rintro e w' ⟨rfl, hb⟩; have hFc := HF.out.drew.next hb; obtain ⟨_, _, _, _, ⟨_, _, _, _⟩, _, _, _, _⟩ := hFc.row4 hl d hd))
 rename_i hheld
 have HF2 := Lib.hid (hFc.set4 (423 + d * 4) (.int .i64 1) (.int .i64 0) (.int .i64 0) (.int .i64 imm))
 clear hheld hks hFc
 generalize World.setCell _ _ _ = w2 at HF2 ⊢
 obtain ⟨c0, c1, c2, c3, c4, c5, c6, c7⟩ := HF2.out.cells
 have hl2 : (set4 cs (423 + d * 4) (.int .i64 1) (.int .i64 0) (.int .i64 0) (.int .i64 imm)).length = 471 := by unfold set4; simp [hl]
 go_upto_region 3 with fail
 obtain ⟨_, _, _, _, ⟨_, _, _, _⟩, _, _, _, _⟩ := HF2.out.row4 hl2 d hd
 have hlt := HF2.out.mach.lt
 go_region
 go_wp2
 have hF3 := (HF2.out.drew).set (423 + d * 4) (.int .i64 4)
 have e : ((((cs.set (423 + d * 4) (.int .i64 1)).set (423 + d * 4 + 1) (.int .i64 0)).set (423 + d * 4 + 2) (.int .i64 0)).set (423 + d * 4 + 3) (.int .i64 imm)).set (423 + d * 4) (.int .i64 4) = set4 cs (423 + d * 4) (.int .i64 4) (.int .i64 0) (.int .i64 0) (.int .i64 imm) := by
  unfold set4
  rw [List.set_comm _ _ (show 423 + d * 4 + 3 ≠ 423 + d * 4 by omega), List.set_comm _ _ (show 423 + d * 4 + 2 ≠ 423 + d * 4 by omega), List.set_comm _ _ (show 423 + d * 4 + 1 ≠ 423 + d * 4 by omega), List.set_set]
 first | rw [e] at hF3 | (unfold set4 at hF3; rw [e] at hF3)
 exact bodyPost_ret (v := .tuple #[.int .i64 0, .int .i64 0]) (by simp [results, Tryz.results69, go_sem]) rfl ⟨rfl, hF3.mod, hF3.mach⟩
theorem do_dataD (fx : Mfix) (s : Mst) (i : Ins) (hop : i.op = 21) (hd : 0 <= i.dst /\ i.dst < 11) : DoR (doerF i.op) fx s i (constD s i).by' (constD s i).er (constD s i).s := by
 obtain ⟨op, nar, reg, size, dst, src, off, imm⟩ := i
 simp only at hop hd
 subst hop
 obtain ⟨d, rfl⟩ : ∃ d : Nat, dst = d := ⟨dst.toNat, by omega⟩
 have hd' : d < 11 := by omega
 exact do_set d hd' ⟨4, 0, 0, imm⟩ fun bx cs w hl hr hl2 h => constant_data nar reg size src off imm d hd' bx cs w hl h
theorem do_partD {fx : Mfix} {s : Mst} (h : Good fx s) (i : Ins) (hi : InsOK fx i) (hop : 16 <= i.op /\ i.op <= 19) : DoR (doerF i.op) fx s i (partD s i).by' (partD s i).er (partD s i).s := by
 obtain ⟨d, hd⟩ : ∃ d : Nat, i.dst = d := ⟨i.dst.toNat, by have := hi.dst; omega⟩
 obtain ⟨r, hr⟩ : ∃ r : Nat, i.src = r := ⟨i.src.toNat, by have := hi.src; omega⟩
 have hd1 := hi.dst
 have hr1 := hi.src
 obtain ⟨op, nar, reg, size, dst, src, off, imm⟩ := i
 simp only at hd hr hd1 hr1 hop
 subst hd hr
 have hd' : d < 11 := by omega
 have hr' : r < 11 := by omega
 have hg : ∀ n : Nat, ∀ (hn : n < 11) (hl : s.rg.length = 11), s.rg[n]'(by omega) = s.reg n := fun n hn hl => (s.reg_get n (by omega)).symm
 by_cases h16 : op = 16
 ·subst h16
  rw [show doerF 16 = 68 from rfl]
  by_cases hk : (s.reg r).k = 1
  ·have e : partD s ⟨16, nar, reg, size, d, r, off, imm⟩ = ⟨0, 0, { s with rg := s.rg.set d (nval (extF size nar (s.reg r).x)) }⟩ := by
    unfold partD partV
    rw [if_pos (show (Ins.mk 16 nar reg size d r off imm).op = 16 from rfl), if_neg (by simpa using hk), if_pos (show (Ins.mk 16 nar reg size d r off imm).op = 16 from rfl)]
    rfl
   rw [e]
   refine do_set d hd' (nval _) fun bx cs w hl hr hl2 hw => ?_
   have hu := hr r hr' hl2
   rw [hg r hr' hl2] at hu
   refine (movs_of nar reg size off imm d r hd' hr' bx cs hl _ (s.reg r) (hr d hd' hl2) hu w hw).mono ?_
   rintro e w' (⟨_, h⟩ | ⟨h, _⟩)
   ·exact h
   ·exact absurd hk h
  ·have e : partD s ⟨16, nar, reg, size, d, r, off, imm⟩ = ⟨0, 80, s⟩ := by
    unfold partD partV
    rw [if_pos (show (Ins.mk 16 nar reg size d r off imm).op = 16 from rfl), if_pos (by simpa using hk)]
    rfl
   rw [e]
   refine do_same fun bx cs w hl hr hl2 hw => ?_
   have hu := hr r hr' hl2
   rw [hg r hr' hl2] at hu
   refine (movs_of nar reg size off imm d r hd' hr' bx cs hl _ (s.reg r) (hr d hd' hl2) hu w hw).mono ?_
   rintro e w' (⟨h, _⟩ | ⟨_, h⟩)
   ·exact absurd h hk
   ·exact h
 ·rw [show doerF op = 68 by unfold doerF; rw [if_neg (by omega), if_pos (by omega)]]
  have hx := (reg_ok h.regs d).x
  by_cases hk : (s.reg d).k = 1
  ·have e : partD s ⟨op, nar, reg, size, d, r, off, imm⟩ = ⟨0, 0, { s with rg := s.rg.set d (nval (swapF size (op != 17) (s.reg d).x)) }⟩ := by
    unfold partD partV
    rw [if_neg (show ¬ (Ins.mk op nar reg size d r off imm).op = 16 from h16), if_neg (by simpa using hk), if_neg (show ¬ (Ins.mk op nar reg size d r off imm).op = 16 from h16)]
    rfl
   rw [e]
   refine do_set d hd' (nval _) fun bx cs w hl hr hl2 hw => ?_
   have hu := hr d hd' hl2
   rw [hg d hd' hl2] at hu
   refine (turn_of op (by omega) nar reg size r off imm d hd' bx cs hl (s.reg d) hu hx w hw).mono ?_
   rintro e w' (⟨_, h⟩ | ⟨h, _⟩)
   ·exact h
   ·exact absurd hk h
  ·have e : partD s ⟨op, nar, reg, size, d, r, off, imm⟩ = ⟨0, 80, s⟩ := by
    unfold partD partV
    rw [if_neg (show ¬ (Ins.mk op nar reg size d r off imm).op = 16 from h16), if_pos (by simpa using hk)]
    rfl
   rw [e]
   refine do_same fun bx cs w hl hr hl2 hw => ?_
   have hu := hr d hd' hl2
   rw [hg d hd' hl2] at hu
   refine (turn_of op (by omega) nar reg size r off imm d hd' bx cs hl (s.reg d) hu hx w hw).mono ?_
   rintro e w' (⟨h, _⟩ | ⟨_, h⟩)
   ·exact absurd h hk
   ·exact h
theorem do_all {fx : Mfix} {s : Mst} (h : Good fx s) (i : Ins) (hi : InsOK fx i) : DoR (doerF i.op) fx s i (doF fx s i).by' (doF fx s i).er (doF fx s i).s := by
 have ho := hi.op
 by_cases hk : Known i.op
 ·exact do_F h i hi hk
 by_cases hp : 16 <= i.op /\ i.op <= 19
 ·have e : doF fx s i = partD s i := by
   unfold doF
   rw [if_neg (by omega), if_pos (by omega)]
  rw [e]
  exact do_partD h i hi hp
 by_cases h21 : i.op = 21
 ·have e : doF fx s i = constD s i := by
   unfold doF
   rw [if_neg (by omega), if_neg (by omega), if_pos (by omega)]
  rw [e]
  exact do_dataD fx s i h21 hi.dst
 by_cases h25 : i.op = 25
 ·have e : doF fx s i = atomD fx s i := by
   unfold doF
   rw [if_neg (by omega), if_neg (by omega), if_neg (by omega), if_neg (by omega), if_neg (by omega), if_pos h25]
  rw [e]
  exact do_atomD' h i hi h25
 have h38 : i.op = 38 := by unfold Known at hk; omega
 rw [doF_call0 h38]
 exact do_callA h i h38
end Go.Proofs.YtdepknffpnnmmaaGreat
