/-
  The doer part.
  The machine: New of what it refuses; runs of a program that is refused.
  The runs of MachParts.
-/
import Derived.Test.YtbkcpepalicbjaaGreatMachAA
import Derived.Test.YtbkcpepalicbjaaGreatMachX
import Derived.Deep.LoopGhost
import Derived.Deep.DeepCutAuto
namespace Go.Proofs.YtbkcpepalicbjaaGreat
open Go.RowKit
set_option linter.unusedVariables false
set_option linter.unusedSimpArgs false

/-- A doer's boxes: the machine, the instruction, a value. -/
structure FP (w0 : World) (bx ib ab : Nat) (cs : List Value) (op : Int) (nar reg : Bool) (size dst src off imm : Int) (a : List Value) (w1 : World) : Prop where
  fm : FM w0 bx ib cs op nar reg size dst src off imm w1
  ra : Row w1 ab 76 a
  la : w0.heap.size ≤ ab
  nai : ab ≠ ib
  nax : ab ≠ bx
def FPX (w0 : World) (bx ib ab : Nat) (op : Int) (nar reg : Bool) (size dst src off imm : Int) (a : List Value) (w1 : World) : Prop := ∃ cs, FP w0 bx ib ab cs op nar reg size dst src off imm a w1 ∧ cs.length = 471
section
variable {w0 w1 w2 : World} {bx ib ab : Nat} {cs : List Value} {op : Int} {nar reg : Bool} {size dst src off imm : Int} {a : List Value}
theorem FP.next (h : FP w0 bx ib ab cs op nar reg size dst src off imm a w1) (hb : Below w1.heap.size w1 w2) : FP w0 bx ib ab cs op nar reg size dst src off imm a w2 :=
  ⟨h.fm.next hb, h.ra.below hb h.ra.lt, h.la, h.nai, h.nax⟩
theorem FP.set4 (h : FP w0 bx ib ab cs op nar reg size dst src off imm a w1) (k : Nat) (x0 x1 x2 x3 : Value) : FP w0 bx ib ab (Proofs.YtbkcpepalicbjaaGreat.set4 cs k x0 x1 x2 x3) op nar reg size dst src off imm a ((((w1.setCell ⟨bx, k, none⟩ x0).setCell ⟨bx, k + 1, none⟩ x1).setCell ⟨bx, k + 2, none⟩ x2).setCell ⟨bx, k + 3, none⟩ x3) :=
  ⟨h.fm.set4 k x0 x1 x2 x3, (((h.ra.other ⟨bx, k, none⟩ x0 h.nax).other ⟨bx, k + 1, none⟩ x1 h.nax).other ⟨bx, k + 2, none⟩ x2 h.nax).other ⟨bx, k + 3, none⟩ x3 h.nax, h.la, h.nai, h.nax⟩
theorem FP.seta {y0 y1 y2 y3 : Value} (h : FP w0 bx ib ab cs op nar reg size dst src off imm [y0, y1, y2, y3] w1) (x0 x1 x2 x3 : Value) :
    FP w0 bx ib ab cs op nar reg size dst src off imm [x0, x1, x2, x3] ((((w1.setCell ⟨ab, 0, none⟩ x0).setCell ⟨ab, 1, none⟩ x1).setCell ⟨ab, 2, none⟩ x2).setCell ⟨ab, 3, none⟩ x3) :=
  ⟨h.fm.put4o h.nax h.nai h.la x0 x1 x2 x3, h.ra.put4 x0 x1 x2 x3, h.la, h.nai, h.nax⟩
theorem FM.made (h : FM w0 bx ib cs op nar reg size dst src off imm w1) (a : List Value) : FP w0 bx ib w1.heap.size cs op nar reg size dst src off imm a (w1.alloc (.cells a.toArray 76)) := by
  have h1 := h.mach.lt
  have h2 := h.ins.lt
  have h3 := h.mod.size
  exact ⟨h.box _, Row.made w1 a _, h3, by omega, by omega⟩
theorem FPX.next (h : FPX w0 bx ib ab op nar reg size dst src off imm a w1) (hb : Below w1.heap.size w1 w2) : FPX w0 bx ib ab op nar reg size dst src off imm a w2 := let ⟨cs, h1, h2⟩ := h; ⟨cs, h1.next hb, h2⟩
theorem FPX.set4 (h : FPX w0 bx ib ab op nar reg size dst src off imm a w1) (k : Nat) (x0 x1 x2 x3 : Value) : FPX w0 bx ib ab op nar reg size dst src off imm a ((((w1.setCell ⟨bx, k, none⟩ x0).setCell ⟨bx, k + 1, none⟩ x1).setCell ⟨bx, k + 2, none⟩ x2).setCell ⟨bx, k + 3, none⟩ x3) :=
  let ⟨cs, h1, h2⟩ := h; ⟨_, h1.set4 k x0 x1 x2 x3, by unfold Proofs.YtbkcpepalicbjaaGreat.set4; simp [h2]⟩
end
section
variable {w0 w1 w2 : World} {bx ib ab : Nat} {cs : List Value} {op : Int} {nar reg : Bool} {size dst src off imm : Int} {x0 x1 x2 x3 : Value}
theorem FPX.k (h : FPX w0 bx ib ab op nar reg size dst src off imm [x0, x1, x2, x3] w1) : w1.cell? ⟨ib, 0, none⟩ = some (.int .i64 op) ∧ w1.cell? ⟨ib, 1, none⟩ = some (.bool nar) ∧ w1.cell? ⟨ib, 3, none⟩ = some (.int .i64 size) ∧ w1.cell? ⟨ib, 4, none⟩ = some (.int .i64 dst) ∧ w1.cell? ⟨ab, 3, none⟩ = some x3 ∧ FPX w0 bx ib ab op nar reg size dst src off imm [x0, x1, x2, x3] w1 :=
  let ⟨cs, h1, h2⟩ := h; ⟨h1.fm.cells.1, h1.fm.cells.2.1, h1.fm.cells.2.2.2.1, h1.fm.cells.2.2.2.2.1, h1.ra.four.1.2.2.2, h⟩
theorem FPX.n (h : w1.cell? ⟨ib, 0, none⟩ = some (.int .i64 op) ∧ w1.cell? ⟨ib, 1, none⟩ = some (.bool nar) ∧ w1.cell? ⟨ib, 3, none⟩ = some (.int .i64 size) ∧ w1.cell? ⟨ib, 4, none⟩ = some (.int .i64 dst) ∧ w1.cell? ⟨ab, 3, none⟩ = some x3 ∧ FPX w0 bx ib ab op nar reg size dst src off imm [x0, x1, x2, x3] w1) (hb : Below w1.heap.size w1 w2) : w2.cell? ⟨ib, 0, none⟩ = some (.int .i64 op) ∧ w2.cell? ⟨ib, 1, none⟩ = some (.bool nar) ∧ w2.cell? ⟨ib, 3, none⟩ = some (.int .i64 size) ∧ w2.cell? ⟨ib, 4, none⟩ = some (.int .i64 dst) ∧ w2.cell? ⟨ab, 3, none⟩ = some x3 ∧ FPX w0 bx ib ab op nar reg size dst src off imm [x0, x1, x2, x3] w2 := (h.2.2.2.2.2.next hb).k
theorem FPX.s (h : w1.cell? ⟨ib, 0, none⟩ = some (.int .i64 op) ∧ w1.cell? ⟨ib, 1, none⟩ = some (.bool nar) ∧ w1.cell? ⟨ib, 3, none⟩ = some (.int .i64 size) ∧ w1.cell? ⟨ib, 4, none⟩ = some (.int .i64 dst) ∧ w1.cell? ⟨ab, 3, none⟩ = some x3 ∧ FPX w0 bx ib ab op nar reg size dst src off imm [x0, x1, x2, x3] w1) (k : Nat) (y0 y1 y2 y3 : Value) :
    ((((w1.setCell ⟨bx, k, none⟩ y0).setCell ⟨bx, k + 1, none⟩ y1).setCell ⟨bx, k + 2, none⟩ y2).setCell ⟨bx, k + 3, none⟩ y3).cell? ⟨ib, 0, none⟩ = some (.int .i64 op) ∧ ((((w1.setCell ⟨bx, k, none⟩ y0).setCell ⟨bx, k + 1, none⟩ y1).setCell ⟨bx, k + 2, none⟩ y2).setCell ⟨bx, k + 3, none⟩ y3).cell? ⟨ib, 1, none⟩ = some (.bool nar) ∧ ((((w1.setCell ⟨bx, k, none⟩ y0).setCell ⟨bx, k + 1, none⟩ y1).setCell ⟨bx, k + 2, none⟩ y2).setCell ⟨bx, k + 3, none⟩ y3).cell? ⟨ib, 3, none⟩ = some (.int .i64 size) ∧ ((((w1.setCell ⟨bx, k, none⟩ y0).setCell ⟨bx, k + 1, none⟩ y1).setCell ⟨bx, k + 2, none⟩ y2).setCell ⟨bx, k + 3, none⟩ y3).cell? ⟨ib, 4, none⟩ = some (.int .i64 dst) ∧ ((((w1.setCell ⟨bx, k, none⟩ y0).setCell ⟨bx, k + 1, none⟩ y1).setCell ⟨bx, k + 2, none⟩ y2).setCell ⟨bx, k + 3, none⟩ y3).cell? ⟨ab, 3, none⟩ = some x3 ∧ FPX w0 bx ib ab op nar reg size dst src off imm [x0, x1, x2, x3] ((((w1.setCell ⟨bx, k, none⟩ y0).setCell ⟨bx, k + 1, none⟩ y1).setCell ⟨bx, k + 2, none⟩ y2).setCell ⟨bx, k + 3, none⟩ y3) := (h.2.2.2.2.2.set4 k y0 y1 y2 y3).k
end

set_option maxRecDepth 100000 in
set_option maxHeartbeats 8000000 in
theorem movs_of (nar reg : Bool) (size off imm : Int) (d s : Nat) (hd : d < 11) (hs : s < 11) (bx : Nat) (cs : List Value) (hl : cs.length = 471) (a v : Val) (hua : RegC cs d a) (hu : RegC cs s v) (w : World) (h : Row w bx 146 cs) :
    Calls Tryz.prog 135 #[.pointer (some ⟨bx, 0, none⟩), .agg #[.int .i64 16, .bool nar, .bool reg, .int .i64 size, .int .i64 d, .int .i64 s, .int .i64 off, .int .i64 imm]] w (fun e w' => (v.k = 1 ∧ Wrote w bx (set4 cs (423 + d * 4) (.int .i64 1) (.int .i64 0) (.int .i64 0) (.int .i64 (extF size nar v.x))) 0 0 e w') ∨ (v.k ≠ 1 ∧ Wrote w bx cs 0 80 e w')) := by
  have hj1 : (0 : Int) ≤ (d : Int) := by omega
  have hj2 : (d : Int) < 11 := by omega
  have hi1 : (0 : Int) ≤ (s : Int) := by omega
  have hi2 : (s : Int) < 11 := by omega
  have HF := Lib.hid (FM.begin h 16 nar reg size d s off imm)
  clear h
  obtain ⟨ak, at', ao, ax⟩ := a
  obtain ⟨vk, vt, vo, vx⟩ := v
  simp only
  go_enter Tryz.func135, Tryz.ntmps135
  go_upto_region 1 with fail
  generalize World.alloc _ _ = w1 at HF ⊢
  obtain ⟨c0, c1, c2, c3, c4, c5, c6, c7⟩ := HF.out.cells
  obtain ⟨a0, a1, a2, a3⟩ := hua.row HF.out.mach
  obtain ⟨v0, v1, v2, v3⟩ := hu.row HF.out.mach
  simp only at a0 a1 a2 a3 v0 v1 v2 v3
  have hlt := HF.out.mach.lt
  have hlt2 := HF.out.ins.lt
  go_region
  go_wp2_with fail
  go_region
  clear c0 c1 c2 c3 c4 c5 c6 c7 a0 a1 a2 a3 v0 v1 v2 v3
  have HP := Lib.hid (((HF.out.made [.int .i64 vk, .int .i64 vt, .int .i64 vo, .int .i64 vx]).next (Below.refl _ _).drew).next (Below.refl _ _).drew)
  generalize hq : w1.heap.size = q at HP ⊢
  generalize World.drew _ = w2 at HP ⊢
  obtain ⟨c0, c1, c2, c3, c4, c5, c6, c7⟩ := HP.out.fm.cells
  obtain ⟨⟨b0, b1, b2, b3⟩, _⟩ := HP.out.ra.four
  by_cases hk : vk = 1
  · subst hk
    go_upto_region 8 with (go_at_call 160; refine (numeric_of _ _ _ _ _).mono ?_; rintro e w' ⟨rfl, hb⟩; have hFP := HP.out.next hb; obtain ⟨_, _, _, _, _, _, _, _⟩ := hFP.fm.cells)
    have HX := Lib.hid hFP
    generalize w' = w3 at HX ⊢
    have hks := ((show FPX w bx w.heap.size q 16 nar reg size d s off imm [.int .i64 1, .int .i64 vt, .int .i64 vo, .int .i64 vx] w3 from ⟨_, HX.out, hl⟩).next (Below.refl _ _).drew).k
    go_region_held3 (fun w' => w'.cell? ⟨w.heap.size, 0, none⟩ = some (.int .i64 16) ∧ w'.cell? ⟨w.heap.size, 1, none⟩ = some (.bool nar) ∧ w'.cell? ⟨w.heap.size, 3, none⟩ = some (.int .i64 size) ∧ w'.cell? ⟨w.heap.size, 4, none⟩ = some (.int .i64 d) ∧ w'.cell? ⟨q, 3, none⟩ = some (.int .i64 vx) ∧ FPX w bx w.heap.size q 16 nar reg size d s off imm [.int .i64 1, .int .i64 vt, .int .i64 vo, .int .i64 vx] w')
      (first
        | with_reducible assumption
        | with_reducible exact FPX.n (by with_reducible assumption) hbN
        | with_reducible exact FPX.s (by with_reducible assumption) _ _ _ _ _
        | fail "none")
      (first
        | (go_at_call 23; refine (extend_told _ _ _ _).mono ?_; rintro e wE ⟨rfl, rfl⟩; have hE := HX.out.next (Below.refl _ _).drew)
        | (go_at_call 86; refine (num_of _ _).mono ?_; rintro e wN ⟨rfl, hbN⟩; have hFc := hE.next hbN; obtain ⟨_, _, _, _, ⟨_, _, _, _⟩, _, _, _, _⟩ := hFc.fm.row4 hl d hd))
    rename_i hheld
    have HF2 := Lib.hid (hFc.fm.set4 (423 + d * 4) (.int .i64 1) (.int .i64 0) (.int .i64 0) (.int .i64 (extF size nar vx)))
    clear hheld hks hFc hE
    generalize World.setCell _ _ _ = w4 at HF2 ⊢
    go_wp2
    exact bodyPost_ret (v := .tuple #[.int .i64 0, .int .i64 0]) (by simp [results, Tryz.results135, go_sem]) rfl ⟨rfl, HF2.out.mod, HF2.out.mach⟩
  · have hkt : (vk == 1) = false := by simpa using hk
    go_wp2_with (go_at_call 160; refine (numeric_of _ _ _ _ _).mono ?_; rintro e w' ⟨rfl, hb⟩; have hFP := HP.out.next hb; obtain ⟨_, _, _, _, _, _, _, _⟩ := hFP.fm.cells)
    exact bodyPost_ret (v := .tuple #[.int .i64 0, .int .i64 80]) (by simp [results, Tryz.results135, go_sem]) rfl (Or.inr ⟨hk, rfl, hFP.fm.mod, hFP.fm.mach⟩)
set_option maxRecDepth 100000 in
set_option maxHeartbeats 8000000 in
theorem turn_of (op : Int) (hop : 17 ≤ op ∧ op ≤ 19) (nar reg : Bool) (size src off imm : Int) (d : Nat) (hd : d < 11) (bx : Nat) (cs : List Value) (hl : cs.length = 471) (v : Val) (hu : RegC cs d v) (hr : i64r v.x) (w : World) (h : Row w bx 146 cs) :
    Calls Tryz.prog 135 #[.pointer (some ⟨bx, 0, none⟩), .agg #[.int .i64 op, .bool nar, .bool reg, .int .i64 size, .int .i64 d, .int .i64 src, .int .i64 off, .int .i64 imm]] w (fun e w' => (v.k = 1 ∧ Wrote w bx (set4 cs (423 + d * 4) (.int .i64 1) (.int .i64 0) (.int .i64 0) (.int .i64 (swapF size (op != 17) v.x))) 0 0 e w') ∨ (v.k ≠ 1 ∧ Wrote w bx cs 0 80 e w')) := by
  have hj1 : (0 : Int) ≤ (d : Int) := by omega
  have hj2 : (d : Int) < 11 := by omega
  have q16 : (op == 16) = false := by simp; omega
  have HF := Lib.hid (FM.begin h op nar reg size d src off imm)
  clear h
  obtain ⟨vk, vt, vo, vx⟩ := v
  simp only at hr ⊢
  have HR := Lib.hid hr
  obtain ⟨T, hT⟩ : ∃ T : Bool, (op != 17) = T := ⟨_, rfl⟩
  rw [hT]
  clear hr hop
  go_enter Tryz.func135, Tryz.ntmps135
  go_upto_region 1 with fail
  generalize World.alloc _ _ = w1 at HF ⊢
  obtain ⟨c0, c1, c2, c3, c4, c5, c6, c7⟩ := HF.out.cells
  obtain ⟨v0, v1, v2, v3⟩ := hu.row HF.out.mach
  simp only at v0 v1 v2 v3
  have hlt := HF.out.mach.lt
  have hlt2 := HF.out.ins.lt
  go_region
  go_upto_region 5 with fail
  clear c0 c1 c2 c3 c4 c5 c6 c7 v0 v1 v2 v3
  have HP := Lib.hid (((HF.out.made [.int .i64 vk, .int .i64 vt, .int .i64 vo, .int .i64 vx]).next (Below.refl _ _).drew))
  generalize hq : w1.heap.size = q at HP ⊢
  generalize World.drew _ = w2 at HP ⊢
  obtain ⟨c0, c1, c2, c3, c4, c5, c6, c7⟩ := HP.out.fm.cells
  obtain ⟨⟨b0, b1, b2, b3⟩, _⟩ := HP.out.ra.four
  by_cases hk : vk = 1
  · subst hk
    go_upto_region 4 with (go_at_call 160; refine (numeric_of _ _ _ _ _).mono ?_; rintro e w' ⟨rfl, hb⟩; have hFP := HP.out.next hb; obtain ⟨_, _, _, _, _, _, _, _⟩ := hFP.fm.cells)
    have HX := Lib.hid hFP
    generalize w' = w3 at HX ⊢
    have hks := ((show FPX w bx w.heap.size q op nar reg size d src off imm [.int .i64 1, .int .i64 vt, .int .i64 vo, .int .i64 vx] w3 from ⟨_, HX.out, hl⟩).next (Below.refl _ _).drew).k
    go_region_held3 (fun w' => w'.cell? ⟨w.heap.size, 0, none⟩ = some (.int .i64 op) ∧ w'.cell? ⟨w.heap.size, 1, none⟩ = some (.bool nar) ∧ w'.cell? ⟨w.heap.size, 3, none⟩ = some (.int .i64 size) ∧ w'.cell? ⟨w.heap.size, 4, none⟩ = some (.int .i64 d) ∧ w'.cell? ⟨q, 3, none⟩ = some (.int .i64 vx) ∧ FPX w bx w.heap.size q op nar reg size d src off imm [.int .i64 1, .int .i64 vt, .int .i64 vo, .int .i64 vx] w')
      (first
        | with_reducible assumption
        | with_reducible exact FPX.n (by with_reducible assumption) hbN
        | with_reducible exact FPX.s (by with_reducible assumption) _ _ _ _ _
        | fail "none")
      (first
        | (go_at_call 22; refine (swap_told _ _ _ HR.out _).mono ?_; rintro e wE ⟨rfl, rfl⟩; have hE := HX.out.next (Below.refl _ _).drew)
        | (go_at_call 86; refine (num_of _ _).mono ?_; rintro e wN ⟨rfl, hbN⟩; have hFc := hE.next hbN; obtain ⟨_, _, _, _, ⟨_, _, _, _⟩, _, _, _, _⟩ := hFc.fm.row4 hl d hd))
    rename_i hheld
    have HF2 := Lib.hid (hFc.fm.set4 (423 + d * 4) (.int .i64 1) (.int .i64 0) (.int .i64 0) (.int .i64 (swapF size T vx)))
    clear hheld hks hFc hE
    generalize World.setCell _ _ _ = w4 at HF2 ⊢
    go_wp2
    exact bodyPost_ret (v := .tuple #[.int .i64 0, .int .i64 0]) (by simp [results, Tryz.results135, go_sem]) rfl ⟨rfl, HF2.out.mod, HF2.out.mach⟩
  · have hkt : (vk == 1) = false := by simpa using hk
    go_wp2_with (go_at_call 160; refine (numeric_of _ _ _ _ _).mono ?_; rintro e w' ⟨rfl, hb⟩; have hFP := HP.out.next hb; obtain ⟨_, _, _, _, _, _, _, _⟩ := hFP.fm.cells)
    exact bodyPost_ret (v := .tuple #[.int .i64 0, .int .i64 80]) (by simp [results, Tryz.results135, go_sem]) rfl (Or.inr ⟨hk, rfl, hFP.fm.mod, hFP.fm.mach⟩)
end Go.Proofs.YtbkcpepalicbjaaGreat

namespace Go.Proofs.YtbkcpepalicbjaaGreat
open Go.RowKit
set_option linter.unusedVariables false
set_option linter.unusedSimpArgs false

/-- What New answers where it refuses. -/
def Refused (w : World) (er : Int) : Ending → World → Prop := fun e w' => e = .returned (.tuple #[.pointer none, .int .i64 er]) ∧ Below w.heap.size w w'
set_option maxRecDepth 100000 in
set_option maxHeartbeats 1600000 in
theorem new_bad (lo hi : Int) (data : List Int) (tabs : List (Int × Int)) (code : List Ins) (da ta ca xa ra : Option Addr) (dc tc cc xn xc rn rc : Nat)
    (hmd : ¬ (Prg.mk lo hi data tabs code).made) (hld : data.length ≤ 4611686018427387903) (hlt : tabs.length ≤ 4611686018427387903) (hlc : code.length ≤ 4611686018427387903) (w : World)
    (ht : Tabs w (.slice ta tabs.length tc) tabs) (hc : Coded w (.slice ca code.length cc) code) :
    Calls Tryz.prog 39 #[.agg #[.int .i64 lo, .int .i64 hi, .slice da data.length dc, .slice ta tabs.length tc, .slice ca code.length cc], .agg #[.slice xa xn xc, .slice ra rn rc]] w (Refused w 1) := by
  have hmade := fun w' (h1 : Tabs w' (.slice ta tabs.length tc) tabs) (h2 : Coded w' (.slice ca code.length cc) code) => made_of (Prg.mk lo hi data tabs code) da ta ca dc tc cc hld hlt hlc w' h1 h2
  simp only at hmade
  have hB0 := ((Below.refl w.heap.size w).alloc (Nat.le_refl _) (.cells #[.int .i64 lo, .int .i64 hi, .slice da data.length dc, .slice ta tabs.length tc, .slice ca code.length cc] 60)).alloc (by simp) (.cells #[.slice xa xn xc, .slice ra rn rc] 62)
  have HMADE := Lib.hid (hmade _ (Reads.below ht hB0 (Nat.le_refl _)) (hc.below hB0 (Nat.le_refl _)))
  have HB0 := Lib.hid hB0
  have HMD := Lib.hid hmd
  clear hmade hB0 hmd ht hc hld hlt hlc
  generalize data.length = nd at *
  generalize tabs.length = nt at *
  generalize code.length = nc at *
  go_enter Tryz.func39, Tryz.ntmps39
  go_wp2_with fail
  refine (HMADE.out).mono ?_
  rintro e w1 ⟨d, rfl, hiff, hB⟩
  obtain rfl : d = false := by
    cases d with
    | false => rfl
    | true => exact absurd (hiff.1 rfl) HMD.out
  have hBB := HB0.out.trans (hB.mono (by simp; omega))
  go_wp2
  exact bodyPost_ret (v := .tuple #[.pointer none, .int .i64 1]) (by simp [results, Tryz.results39, go_sem]) rfl ⟨rfl, hBB⟩
set_option maxRecDepth 100000 in
set_option maxHeartbeats 1600000 in
theorem runs_bad (code : List Ins) (ctx : List Int) (ca : Option Addr) (cc : Nat) (xv : Value) (hmd : ¬ (Prg.mk 0 65535 [] [] code).made) (hlc : code.length ≤ 4611686018427387903) (hcl : ctx.length ≤ 65535) (w : World) (hc : Coded w (.slice ca code.length cc) code) (hx : Held w xv ctx) :
    Calls Tryz.prog 20 #[.slice ca code.length cc, xv] w fun e w' => e = .returned (.tuple #[.agg #[.int .i64 0, .slice none 0 0, .slice none 0 0, .slice none 0 0], .int .i64 1]) ∧ Below w.heap.size w w' := by
  have hb0 := run_out0
  have hbp := run_prg
  have hbi := run_inp
  have hcopy := copy_of xv ctx (w.alloc (.cells #[.int .i64 0, .slice none 0 0, .slice none 0 0, .slice none 0 0] 31)) (hx.below (below_map w _) (Nat.le_refl _)) (by omega)
  have h2 : ∀ w' : World, Tabs w' (.slice none ([] : List (Int × Int)).length 0) [] := fun w' => ⟨rfl, fun u hu => (by cases hu), Or.inl ⟨rfl, _, _, rfl, by decide⟩⟩
  have hnew := fun aC nC kC w' (h1 : Coded w' (.slice ca code.length cc) code) => new_bad 0 65535 [] [] code none none ca aC none 0 0 cc nC kC 0 0 hmd (by simp) (by simp) hlc w' (h2 w') h1
  have hcd := hc.below (below_map w (.cells #[.int .i64 0, .slice none 0 0, .slice none 0 0, .slice none 0 0] 31)) (Nat.le_refl _)
  have hrow := Row.made w [.int .i64 0, .slice none 0 0, .slice none 0 0, .slice none 0 0] 31
  have HCOPY := Lib.hid hcopy
  have HNEW := Lib.hid hnew
  have HCD := Lib.hid hcd
  have HROW := Lib.hid hrow
  have HB := Lib.hid (below_map w (.cells #[.int .i64 0, .slice none 0 0, .slice none 0 0, .slice none 0 0] 31))
  clear hcopy hnew hcd hrow hc hx hmd hlc h2
  simp only [List.length_nil] at HNEW
  generalize code.length = nc at *
  generalize ctx.length = nx at *
  go_enter Tryz.func20, Tryz.ntmps20
  go_wp2_with (first
    | (go_at_call 24; refine (HCOPY.out).mono ?_; rintro e wC ⟨vC, rfl, hown, hbC⟩; obtain ⟨aC, kC, rfl⟩ := own_slice hown)
    | (go_at_call 39; refine (HNEW.out _ _ _ _ (HCD.out.below hbC (Nat.le_refl _))).mono ?_; rintro e wN ⟨rfl, hbN⟩; have hrw := (HROW.out.below hbC HROW.out.lt).below hbN (HROW.out.below hbC HROW.out.lt).lt; obtain ⟨⟨_, _, _, _⟩, _, _, _, _⟩ := hrw.four))
  have hsz : w.heap.size < (w.alloc (.cells #[.int .i64 0, .slice none 0 0, .slice none 0 0, .slice none 0 0] 31)).heap.size := HROW.out.lt
  have hsC := hbC.size
  have hBel : Below w.heap.size w wN := (HB.out.trans (hbC.mono (Nat.le_of_lt hsz))).trans (hbN.mono (by omega))
  have hBF := bel_put4 hBel (Nat.le_refl w.heap.size) 0 (.int .i64 0) (.slice none 0 0) (.slice none 0 0) (.slice none 0 0)
  simp only [Nat.zero_add] at hBF
  have hrF := hrw.put4 (.int .i64 0) (.slice none 0 0) (.slice none 0 0) (.slice none 0 0)
  obtain ⟨⟨d0, d1, d2, d3⟩, _⟩ := hrF.four
  generalize World.setCell _ _ _ = wF at hBF d0 d1 d2 d3 ⊢
  exact bodyPost_ret (v := .tuple #[.agg #[.int .i64 0, .slice none 0 0, .slice none 0 0, .slice none 0 0], .int .i64 1]) (by simp [results, Tryz.results20, go_sem, d0, d1, d2, d3]) rfl ⟨rfl, hBF⟩
end Go.Proofs.YtbkcpepalicbjaaGreat

namespace Go.Proofs.YtbkcpepalicbjaaGreat
open Go.RowKit
set_option linter.unusedVariables false
set_option linter.unusedSimpArgs false

theorem do_movs (fx : Mfix) (s : Mst) (nar reg : Bool) (size off imm x : Int) (d r : Nat) (hd : d < 11) (hr11 : r < 11) (hx : s.rg[r]? = some (nval x)) :
    DoR (doerF 16) fx s ⟨16, nar, reg, size, d, r, off, imm⟩ 0 0 { s with rg := s.rg.set d (nval (extF size nar x)) } := by
  rw [show doerF 16 = 135 from rfl]
  refine do_set d hd (nval _) fun bx cs w hl hr hl2 hw => ?_
  rw [List.getElem?_eq_getElem (by omega)] at hx
  have hu := hr r hr11 hl2
  rw [Option.some.inj hx] at hu
  refine (movs_of nar reg size off imm d r hd hr11 bx cs hl _ (nval x) (hr d hd hl2) hu w hw).mono ?_
  rintro e w' (⟨_, h⟩ | ⟨h, _⟩)
  · exact h
  · exact absurd rfl h
theorem do_turn (fx : Mfix) (s : Mst) (op : Int) (hop : 17 ≤ op ∧ op ≤ 19) (nar reg : Bool) (size src off imm x : Int) (d : Nat) (hd : d < 11) (hx : s.rg[d]? = some (nval x)) (hr : i64r x) :
    DoR (doerF op) fx s ⟨op, nar, reg, size, d, src, off, imm⟩ 0 0 { s with rg := s.rg.set d (nval (swapF size (op != 17) x)) } := by
  rw [show doerF op = 135 by unfold doerF; rw [if_neg (by omega), if_pos (by omega)]]
  refine do_set d hd (nval _) fun bx cs w hl hrr hl2 hw => ?_
  rw [List.getElem?_eq_getElem (by omega)] at hx
  have hu := hrr d hd hl2
  rw [Option.some.inj hx] at hu
  refine (turn_of op hop nar reg size src off imm d hd bx cs hl (nval x) hu hr w hw).mono ?_
  rintro e w' (⟨_, h⟩ | ⟨h, _⟩)
  · exact h
  · exact absurd rfl h
/-- MachParts' instruction, its answer, whether it is refused. -/
def opK (k : Nat) : Int := if k < 2 then 16 else if k = 2 then 17 else if k = 3 then 18 else 19
def insK (k : Nat) (sz : Int) : Ins := ⟨opK k, k == 1, decide (k < 2), sz, 0, if k < 2 then 3 else 0, 0, 0⟩
def wantK (k : Nat) (sz a : Int) : Int := if k < 2 then extF sz (k == 1) a else swapF sz (decide (2 < k)) a
def refK (k : Nat) (sz : Int) : Bool := (decide (k < 2) && (sz == 64 || (sz == 32 && k == 1))) || (decide (2 ≤ k) && sz == 8)
def SzOK (sz : Int) : Prop := sz = 8 ∨ sz = 16 ∨ sz = 32 ∨ sz = 64
theorem refK_right (k : Nat) (hk : k < 5) (sz : Int) (hs : SzOK sz) : ((insK k sz).right = 0) ↔ refK k sz = false := by
  have hk' : k = 0 ∨ k = 1 ∨ k = 2 ∨ k = 3 ∨ k = 4 := by omega
  rcases hk' with rfl | rfl | rfl | rfl | rfl <;> rcases hs with rfl | rfl | rfl | rfl <;> decide
theorem four_bad (a y : Int) (i : Ins) (h : i.right ≠ 0) : ¬ (Prg.mk 0 65535 [] [] (four a y i)).made := fun hm => h (hm.2.2.1.2 2 (by simp [four]))
def GoodP (k : Nat) (sz a first : Int) : Prop := ∀ (ca : Option Addr) (cc : Nat) (w : World), Coded w (.slice ca 4 cc) (four first a (insK k sz)) →
    Calls Tryz.prog 20 #[.slice ca 4 cc, .slice none 0 0] w (SeenR w (if refK k sz then 1 else 0) (if refK k sz then 0 else wantK k sz a))
theorem goodP (k : Nat) (hk : k < 5) (sz : Int) (hs : SzOK sz) (a first : Int) (hf : 2 ≤ k → first = a) (ra : i64r a) : GoodP k sz a first := by
  intro ca cc w hc
  cases hr : refK k sz with
  | true =>
    have hne : (insK k sz).right ≠ 0 := fun h => by rw [(refK_right k hk sz hs).1 h] at hr; cases hr
    refine (runs_bad (four first a (insK k sz)) [] ca cc (.slice none 0 0) (four_bad _ _ _ hne) (by simp [four]) (by simp) w hc ⟨fun x hx => (by cases hx), Or.inl ⟨rfl, Or.inl rfl⟩⟩).mono ?_
    rintro e w' ⟨rfl, hB⟩
    exact ⟨_, _, _, _, _, _, _, _, _, rfl, hB⟩
  | false =>
    have hright := (refK_right k hk sz hs).2 hr
    have hop21 : (insK k sz).op ≠ 21 := by unfold insK opK; simp only; split <;> (try split) <;> (try split) <;> omega
    have hdo : DoR (doerF (insK k sz).op) (fx4 first a (insK k sz)) (s2F first a) (insK k sz) 0 0 { s2F first a with rg := (s2F first a).rg.set 0 (nval (wantK k sz a)) } := by
      by_cases hk2 : k < 2
      · have e1 : insK k sz = ⟨16, k == 1, true, sz, 0, 3, 0, 0⟩ := by unfold insK opK; rw [if_pos hk2, if_pos hk2, decide_eq_true hk2]
        have e2 : wantK k sz a = extF sz (k == 1) a := if_pos hk2
        rw [e1, e2]
        exact do_movs _ _ (k == 1) true sz 0 0 a 0 3 (by decide) (by decide) rfl
      · have hop : 17 ≤ opK k ∧ opK k ≤ 19 := by unfold opK; rw [if_neg hk2]; split <;> (try split) <;> omega
        have e1 : insK k sz = ⟨opK k, false, false, sz, 0, 0, 0, 0⟩ := by
          unfold insK
          rw [if_neg hk2, decide_eq_false hk2, show (k == 1) = false by simp; omega]
        have e2 : wantK k sz a = swapF sz (opK k != 17) a := by
          unfold wantK opK
          rw [if_neg hk2, if_neg hk2]
          by_cases h2 : k = 2
          · subst h2; rfl
          · rw [if_neg h2]
            by_cases h3 : k = 3
            · subst h3; rfl
            · rw [if_neg h3, decide_eq_true (by omega)]; rfl
        obtain rfl := hf (by omega)
        rw [e1, e2]
        exact do_turn _ _ (opK k) hop false false sz 0 0 0 first 0 (by decide) rfl ra
    have st1 := step_seq (fx4 first a (insK k sz)) (s2F first a) _ 2 (insK k sz) (by simp [fx4, four]) rfl rfl rfl (by simp [fx4, four]) hdo rfl rfl (by simp [s2F])
    have hrun := two_steps first a (insK k sz) 1048574 0 _ (Runs.step _ _ _ _ _ rfl st1 (Runs.step _ _ _ _ _ rfl (step_exit _ _ 3 (by simp [fx4, four]) rfl rfl rfl (by simp [fx4, four]) (nval (wantK k sz a)) rfl rfl (by simp [s2F])) (Runs.done _ _ rfl)))
    refine (runs_of (four first a (insK k sz)) [] ca cc (.slice none 0 0) (made_four _ _ _ _ (right_wide0 _) (right_wide3 _) hright right_exit ⟨by simp, by simp, hop21, by simp⟩) (by simp) _ _ hrun rfl (by simp [s2F, st0]) (by simp [s2F, st0]) w hc ⟨fun x hx => (by cases hx), Or.inl ⟨rfl, Or.inl rfl⟩⟩).mono ?_
    rintro e w' ⟨r0, a1, n1, c1, a2, n2, c2, a3, n3, c3, rfl, hO, hB⟩
    obtain rfl : r0 = wantK k sz a := hO.r0 rfl (nval (wantK k sz a)) rfl
    exact ⟨_, _, _, _, _, _, _, _, _, rfl, hB⟩
theorem coded4g (w : World) (a y op : Int) (nar reg : Bool) (size dst src off imm : Int) : Coded (w.alloc (.cells #[.int .i64 20, .bool false, .bool false, .int .i64 0, .int .i64 0, .int .i64 0, .int .i64 0, .int .i64 a, .int .i64 20, .bool false, .bool false, .int .i64 0, .int .i64 3, .int .i64 0, .int .i64 0, .int .i64 y, .int .i64 op, .bool nar, .bool reg, .int .i64 size, .int .i64 dst, .int .i64 src, .int .i64 off, .int .i64 imm, .int .i64 39, .bool false, .bool false, .int .i64 0, .int .i64 0, .int .i64 0, .int .i64 0, .int .i64 0] 23)) (.slice (some ⟨w.heap.size, 0, none⟩) 4 4) (four a y ⟨op, nar, reg, size, dst, src, off, imm⟩) :=
  coded_row (l := four a y ⟨op, nar, reg, size, dst, src, off, imm⟩) (Row.made w (codec (four a y ⟨op, nar, reg, size, dst, src, off, imm⟩)) 23) (by simp [four]) (by simp [four])
theorem coded4gn (w : World) (o : Obj) (a y op : Int) (nar reg : Bool) (size dst src off imm : Int) : Coded ((w.alloc o).alloc (.cells #[.int .i64 20, .bool false, .bool false, .int .i64 0, .int .i64 0, .int .i64 0, .int .i64 0, .int .i64 a, .int .i64 20, .bool false, .bool false, .int .i64 0, .int .i64 3, .int .i64 0, .int .i64 0, .int .i64 y, .int .i64 op, .bool nar, .bool reg, .int .i64 size, .int .i64 dst, .int .i64 src, .int .i64 off, .int .i64 imm, .int .i64 39, .bool false, .bool false, .int .i64 0, .int .i64 0, .int .i64 0, .int .i64 0, .int .i64 0] 23)) (.slice (some ⟨w.heap.size + 1, 0, none⟩) 4 4) (four a y ⟨op, nar, reg, size, dst, src, off, imm⟩) :=
  coded_row (l := four a y ⟨op, nar, reg, size, dst, src, off, imm⟩) (box2 w o (codec (four a y ⟨op, nar, reg, size, dst, src, off, imm⟩)) 23) (by simp [four]) (by simp [four])
set_option maxRecDepth 100000 in
theorem built_part (op sz : Int) : Tryz.prog.built 23 [(0, .int .i64 op), (3, .int .i64 sz), (4, .int .i64 0)] = some #[.int .i64 op, .bool false, .bool false, .int .i64 sz, .int .i64 0, .int .i64 0, .int .i64 0, .int .i64 0] := by kernel_rfl
theorem run_part (op sz : Int) (w : World) : (Instr.build 23 #[(0, .int .i64 op), (3, .int .i64 sz), (4, .int .i64 0)]).run Tryz.prog w = .ok (.agg #[.int .i64 op, .bool false, .bool false, .int .i64 sz, .int .i64 0, .int .i64 0, .int .i64 0, .int .i64 0]) w := run_build w _ _ _ (built_part op sz)
theorem index_0 (w : World) : (Instr.index 37 (.agg #[.int .i64 16, .int .i64 16, .int .i64 17, .int .i64 18, .int .i64 19]) (.int .i64 0)).run Tryz.prog w = .ok (.int .i64 16) w := by kernel_rfl
theorem index_1 (w : World) : (Instr.index 37 (.agg #[.int .i64 16, .int .i64 16, .int .i64 17, .int .i64 18, .int .i64 19]) (.int .i64 1)).run Tryz.prog w = .ok (.int .i64 16) w := by kernel_rfl
theorem index_2 (w : World) : (Instr.index 37 (.agg #[.int .i64 16, .int .i64 16, .int .i64 17, .int .i64 18, .int .i64 19]) (.int .i64 2)).run Tryz.prog w = .ok (.int .i64 17) w := by kernel_rfl
theorem index_3 (w : World) : (Instr.index 37 (.agg #[.int .i64 16, .int .i64 16, .int .i64 17, .int .i64 18, .int .i64 19]) (.int .i64 3)).run Tryz.prog w = .ok (.int .i64 18) w := by kernel_rfl
theorem index_4 (w : World) : (Instr.index 37 (.agg #[.int .i64 16, .int .i64 16, .int .i64 17, .int .i64 18, .int .i64 19]) (.int .i64 4)).run Tryz.prog w = .ok (.int .i64 19) w := by kernel_rfl
theorem nat_eq1 (k : Nat) : ((k : Int) == 1) = (k == 1) := by rw [Bool.eq_iff_iff]; simp; omega
theorem index_k (k : Nat) (hk : k < 5) (w : World) : (Instr.index 37 (.agg #[.int .i64 16, .int .i64 16, .int .i64 17, .int .i64 18, .int .i64 19]) (.int .i64 k)).run Tryz.prog w = .ok (.int .i64 (opK k)) w := by
  have hk' : k = 0 ∨ k = 1 ∨ k = 2 ∨ k = 3 ∨ k = 4 := by omega
  rcases hk' with rfl | rfl | rfl | rfl | rfl
  · exact index_0 w
  · exact index_1 w
  · exact index_2 w
  · exact index_3 w
  · exact index_4 w
/-- The last program: bytes turned. -/
def be3 : List Ins := [⟨20, false, false, 0, 0, 0, 0, 258⟩, ⟨18, false, false, 16, 0, 0, 0, 0⟩, ⟨39, false, false, 0, 0, 0, 0, 0⟩]
theorem coded_be (w : World) : Coded (w.alloc (.cells (codec be3).toArray 23)) (.slice (some ⟨w.heap.size, 0, none⟩) 3 3) be3 := coded_row (l := be3) (Row.made w (codec be3) _) (by simp [be3]) (by simp [be3])
theorem good_be (ca : Option Addr) (cc : Nat) (w : World) (hc : Coded w (.slice ca 3 cc) be3) : Calls Tryz.prog 20 #[.slice ca 3 cc, .slice none 0 0] w (SeenR w 0 513) := by
  have hm : (Prg.mk 0 65535 [] [] be3).made := by
    refine ⟨⟨by simp, by simp, by simp, by simp, by simp, by simp [be3]⟩, fun i h => absurd h (by simp), ⟨by simp [be3], ?_⟩, ?_⟩
    · intro i h
      rcases i with _ | _ | _ | i
      · exact right_wide0 258
      · show (Ins.mk 18 false false 16 0 0 0 0).right = 0; decide
      · exact right_exit
      · simp [be3] at h; omega
    · intro i h ho
      rcases i with _ | _ | _ | i
      · exact absurd (show (20 : Int) = 21 from ho) (by decide)
      · exact absurd (show (18 : Int) = 21 from ho) (by decide)
      · exact absurd (show (39 : Int) = 21 from ho) (by decide)
      · simp [be3] at h; omega
  have hA : swapF 16 ((18 : Int) != 17) 258 = 513 := by decide +kernel
  have hdo := do_turn ⟨[], [], be3⟩ (s1F 258) 18 (by decide) false false 16 0 0 0 258 0 (by decide) rfl (by unfold i64r; omega)
  rw [hA] at hdo
  have hr : Runs ⟨[], [], be3⟩ (st0 []) 1048576 0 _ :=
    Runs.step _ (s1F 258) _ 1048575 _ rfl (step_seq ⟨[], [], be3⟩ (st0 []) { st0 [] with rg := (rg0 0).set 0 (nval 258) } 0 ⟨20, false, false, 0, 0, 0, 0, 258⟩ (by simp [be3]) rfl rfl rfl (by simp [be3]) (do_wide _ _ 258 0 (by decide)) rfl rfl (by simp [st0]))
      (Runs.step _ _ _ 1048574 _ rfl (step_seq ⟨[], [], be3⟩ (s1F 258) { s1F 258 with rg := ((rg0 0).set 0 (nval 258)).set 0 (nval 513) } 1 ⟨18, false, false, 16, 0, 0, 0, 0⟩ (by simp [be3]) rfl rfl rfl (by simp [be3]) hdo rfl rfl (by simp [s1F]))
        (Runs.step _ _ _ 1048573 _ rfl (step_exit _ _ 2 (by simp [be3]) rfl rfl rfl (by simp [be3]) (nval 513) rfl rfl (by simp [s1F])) (Runs.done _ _ rfl)))
  refine (runs_of be3 [] ca cc (.slice none 0 0) hm (by simp) _ _ hr rfl (by simp [s1F, st0]) (by simp [s1F, st0]) w hc ⟨fun x hx => (by cases hx), Or.inl ⟨rfl, Or.inl rfl⟩⟩).mono ?_
  rintro e w' ⟨r0, a1, n1, c1, a2, n2, c2, a3, n3, c3, rfl, hO, hB⟩
  obtain rfl : r0 = 513 := hO.r0 rfl (nval 513) rfl
  exact ⟨_, _, _, _, _, _, _, _, _, rfl, hB⟩
set_option maxRecDepth 100000 in
theorem built_be : Tryz.prog.built 23 [(0, .int .i64 18), (3, .int .i64 16), (4, .int .i64 0)] = some #[.int .i64 18, .bool false, .bool false, .int .i64 16, .int .i64 0, .int .i64 0, .int .i64 0, .int .i64 0] := by kernel_rfl
theorem run_be (w : World) : (Instr.build 23 #[(0, .int .i64 18), (3, .int .i64 16), (4, .int .i64 0)]).run Tryz.prog w = .ok (.agg #[.int .i64 18, .bool false, .bool false, .int .i64 16, .int .i64 0, .int .i64 0, .int .i64 0, .int .i64 0]) w := run_build w _ _ _ built_be
end Go.Proofs.YtbkcpepalicbjaaGreat

