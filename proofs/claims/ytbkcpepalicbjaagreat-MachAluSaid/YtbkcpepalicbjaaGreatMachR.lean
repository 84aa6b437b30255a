/-
  The doer constant.
-/
import Derived.Test.YtbkcpepalicbjaaGreatMachP
namespace Go.Proofs.YtbkcpepalicbjaaGreat
open Go.RowKit
set_option linter.unusedVariables false
set_option linter.unusedSimpArgs false

set_option maxRecDepth 100000 in
set_option maxHeartbeats 1600000 in
theorem constant_wide (nar reg : Bool) (size src off imm : Int) (d : Nat) (hd : d < 11) (bx : Nat) (cs : List Value) (w : World) (hl : cs.length = 471) (h : Row w bx 146 cs) :
    Calls Tryz.prog 136 #[.pointer (some ⟨bx, 0, none⟩), .agg #[.int .i64 20, .bool nar, .bool reg, .int .i64 size, .int .i64 d, .int .i64 src, .int .i64 off, .int .i64 imm]] w (Wrote w bx (set4 cs (423 + d * 4) (.int .i64 1) (.int .i64 0) (.int .i64 0) (.int .i64 imm)) 0 0) := by
  have hj1 : (0 : Int) ≤ (d : Int) := by omega
  have hj2 : (d : Int) < 11 := by omega
  have HF := Lib.hid (FM.begin h 20 nar reg size d src off imm)
  clear h
  go_enter Tryz.func136, Tryz.ntmps136
  go_upto_region 1 with fail
  generalize World.alloc _ _ = w1 at HF ⊢
  have hks := (show FX w bx w.heap.size 20 nar reg size d src off imm w1 from ⟨_, HF.out, hl⟩).next (Below.refl _ _).drew
  replace hks := hks.k47
  go_region_held3 (fun w' => w'.cell? ⟨w.heap.size, 4, none⟩ = some (.int .i64 d) ∧ w'.cell? ⟨w.heap.size, 7, none⟩ = some (.int .i64 imm) ∧ FX w bx w.heap.size 20 nar reg size d src off imm w')
    (first | assumption | exact FX.n47 (by assumption) hb | exact (FX.set4 (FX.n47 (by assumption) hb).2.2 _ _ _ _ _).k47 | exact (FX.set4 (by assumption) _ _ _ _ _).k47)
    (first
      | (go_at_call 86; refine (num_of _ _).mono ?_; rintro e w' ⟨rfl, hb⟩; have hFc := HF.out.drew.next hb; obtain ⟨_, _, _, _, ⟨_, _, _, _⟩, _, _, _, _⟩ := hFc.row4 hl d hd))
  rename_i hheld
  have HF2 := Lib.hid (hFc.set4 (423 + d * 4) (.int .i64 1) (.int .i64 0) (.int .i64 0) (.int .i64 imm))
  clear hheld hks hFc
  generalize World.setCell _ _ _ = w2 at HF2 ⊢
  obtain ⟨c0, _⟩ := HF2.out.cells
  go_wp2
  exact bodyPost_ret (v := .tuple #[.int .i64 0, .int .i64 0]) (by simp [results, Tryz.results136, go_sem]) rfl ⟨rfl, HF2.out.mod, HF2.out.mach⟩
end Go.Proofs.YtbkcpepalicbjaaGreat
