/-
  What a doer has: the machine's box, the instruction's box.
-/
import Derived.Test.YtbkcpepalicbjaaGreatMachA
import Derived.Test.YtbkcpepalicbjaaGreatInsc
import Derived.Deep.Cut
import Derived.Deep.RegionHeld3
import Derived.Lib.Hide
import Derived.StillTailTactics
namespace Go.Proofs.YtbkcpepalicbjaaGreat
open Go.RowKit
set_option linter.unusedVariables false
set_option linter.unusedSimpArgs false

/-- A register's value. -/
structure Val where
  k : Int
  t : Int
  o : Int
  x : Int
def Val.cs (v : Val) : List Value := [.int .i64 v.k, .int .i64 v.t, .int .i64 v.o, .int .i64 v.x]
def nval (x : Int) : Val := ⟨1, 0, 0, x⟩
def noval : Val := ⟨0, 0, 0, 0⟩
def Val.agg (v : Val) : Value := .agg #[.int .i64 v.k, .int .i64 v.t, .int .i64 v.o, .int .i64 v.x]
/-- The register d of a machine's cells. -/
def RegC (cs : List Value) (d : Nat) (v : Val) : Prop := cs[423 + d * 4]? = some (.int .i64 v.k) ∧ cs[423 + d * 4 + 1]? = some (.int .i64 v.t) ∧ cs[423 + d * 4 + 2]? = some (.int .i64 v.o) ∧ cs[423 + d * 4 + 3]? = some (.int .i64 v.x)
theorem RegC.row {w : World} {bx : Nat} {e : TypeId} {cs : List Value} (h : Row w bx e cs) {d : Nat} {v : Val} (hr : RegC cs d v) : w.cell? ⟨bx, 423 + d * 4, none⟩ = some (.int .i64 v.k) ∧ w.cell? ⟨bx, 423 + d * 4 + 1, none⟩ = some (.int .i64 v.t) ∧ w.cell? ⟨bx, 423 + d * 4 + 2, none⟩ = some (.int .i64 v.o) ∧ w.cell? ⟨bx, 423 + d * 4 + 3, none⟩ = some (.int .i64 v.x) :=
  ⟨by rw [h.cell]; exact hr.1, by rw [h.cell]; exact hr.2.1, by rw [h.cell]; exact hr.2.2.1, by rw [h.cell]; exact hr.2.2.2⟩
/-- All but the block bx (and new ones) is as it was. -/
structure Mod (w w' : World) (bx : Nat) : Prop where
  os : w'.os = w.os
  tape : w'.tape = w.tape
  output : w'.output = w.output
  size : w.heap.size ≤ w'.heap.size
  block : ∀ k, k < w.heap.size → k ≠ bx → w'.heap[k]? = w.heap[k]?
theorem Mod.refl (w : World) (bx : Nat) : Mod w w bx := ⟨rfl, rfl, rfl, Nat.le_refl _, fun _ _ _ => rfl⟩
theorem Mod.of_below {w w' : World} (h : Below w.heap.size w w') (bx : Nat) : Mod w w' bx := ⟨h.os, h.tape, h.output, h.size, fun k hk _ => h.block k hk⟩
theorem Mod.trans {w w1 w2 : World} {bx : Nat} (h : Mod w w1 bx) (k : Mod w1 w2 bx) : Mod w w2 bx :=
  ⟨k.os.trans h.os, k.tape.trans h.tape, k.output.trans h.output, Nat.le_trans h.size k.size, fun q hq hn => (k.block q (Nat.lt_of_lt_of_le hq h.size) hn).trans (h.block q hq hn)⟩
theorem Mod.below {w w1 w2 : World} {bx : Nat} (h : Mod w w1 bx) (k : Below w1.heap.size w1 w2) : Mod w w2 bx := h.trans (Mod.of_below k bx)
theorem Mod.alloc {w w1 : World} {bx : Nat} (h : Mod w w1 bx) (o : Obj) : Mod w (w1.alloc o) bx := h.below ((Below.refl _ _).alloc (Nat.le_refl _) o)
theorem Mod.set {w w1 : World} {bx : Nat} (h : Mod w w1 bx) (i : Nat) (x : Value) : Mod w (w1.setCell ⟨bx, i, none⟩ x) bx :=
  h.trans ⟨rfl, rfl, rfl, by simp [World.setCell], fun k _ hn => Below.heap_setCell _ _ _ _ hn⟩
/-- The boxes that a doer has: the machine, the instruction. -/
structure FM (w : World) (bx ib : Nat) (cs : List Value) (op : Int) (nar reg : Bool) (size dst src off imm : Int) (w' : World) : Prop where
  mach : Row w' bx 146 cs
  ins : Row w' ib 23 (insc op nar reg size dst src off imm)
  mod : Mod w w' bx
  ne : bx ≠ ib
section
variable {w w1 w2 : World} {bx ib : Nat} {cs : List Value} {op : Int} {nar reg : Bool} {size dst src off imm : Int}
theorem FM.next (h : FM w bx ib cs op nar reg size dst src off imm w1) (hb : Below w1.heap.size w1 w2) : FM w bx ib cs op nar reg size dst src off imm w2 :=
  ⟨h.mach.below hb h.mach.lt, h.ins.below hb h.ins.lt, h.mod.below hb, h.ne⟩
theorem FM.drew (h : FM w bx ib cs op nar reg size dst src off imm w1) : FM w bx ib cs op nar reg size dst src off imm w1.drew := h.next (Below.refl _ _).drew
theorem FM.set (h : FM w bx ib cs op nar reg size dst src off imm w1) (k : Nat) (x : Value) : FM w bx ib (cs.set k x) op nar reg size dst src off imm (w1.setCell ⟨bx, k, none⟩ x) :=
  ⟨h.mach.put k x, h.ins.other _ _ (Ne.symm h.ne), h.mod.set k x, h.ne⟩
theorem FM.begin {w : World} {bx : Nat} {cs : List Value} (h : Row w bx 146 cs) (op : Int) (nar reg : Bool) (size dst src off imm : Int) :
    FM w bx w.heap.size cs op nar reg size dst src off imm (w.alloc (.cells #[.int .i64 op, .bool nar, .bool reg, .int .i64 size, .int .i64 dst, .int .i64 src, .int .i64 off, .int .i64 imm] 23)) :=
  ⟨h.alloc _, Row.made w (insc op nar reg size dst src off imm) _, (Mod.refl w bx).alloc _, by have := h.lt; omega⟩
theorem FM.cells (h : FM w bx ib cs op nar reg size dst src off imm w1) : w1.cell? ⟨ib, 0, none⟩ = some (.int .i64 op) ∧ w1.cell? ⟨ib, 1, none⟩ = some (.bool nar) ∧ w1.cell? ⟨ib, 2, none⟩ = some (.bool reg) ∧ w1.cell? ⟨ib, 3, none⟩ = some (.int .i64 size) ∧
    w1.cell? ⟨ib, 4, none⟩ = some (.int .i64 dst) ∧ w1.cell? ⟨ib, 5, none⟩ = some (.int .i64 src) ∧ w1.cell? ⟨ib, 6, none⟩ = some (.int .i64 off) ∧ w1.cell? ⟨ib, 7, none⟩ = some (.int .i64 imm) :=
  ⟨by rw [h.ins.cell]; rfl, by rw [h.ins.cell]; rfl, by rw [h.ins.cell]; rfl, by rw [h.ins.cell]; rfl, by rw [h.ins.cell]; rfl, by rw [h.ins.cell]; rfl, by rw [h.ins.cell]; rfl, by rw [h.ins.cell]; rfl⟩
theorem FM.row4 (h : FM w bx ib cs op nar reg size dst src off imm w1) (hl : cs.length = 471) (d : Nat) (hd : d < 11) : ∃ a b c x, (w1.cell? ⟨bx, 423 + d * 4, none⟩ = some a ∧ w1.cell? ⟨bx, 423 + d * 4 + 1, none⟩ = some b ∧ w1.cell? ⟨bx, 423 + d * 4 + 2, none⟩ = some c ∧ w1.cell? ⟨bx, 423 + d * 4 + 3, none⟩ = some x) ∧
    w1.frozen? ⟨bx, 423 + d * 4, none⟩ = false ∧ w1.frozen? ⟨bx, 423 + d * 4 + 1, none⟩ = false ∧ w1.frozen? ⟨bx, 423 + d * 4 + 2, none⟩ = false ∧ w1.frozen? ⟨bx, 423 + d * 4 + 3, none⟩ = false :=
  ⟨cs[423 + d * 4], cs[423 + d * 4 + 1], cs[423 + d * 4 + 2], cs[423 + d * 4 + 3], ⟨by rw [h.mach.cell]; simp [hl], by rw [h.mach.cell]; simp [hl], by rw [h.mach.cell]; simp [hl], by rw [h.mach.cell]; simp [hl]⟩, h.mach.free _, h.mach.free _, h.mach.free _, h.mach.free _⟩
theorem FM.set4 (h : FM w bx ib cs op nar reg size dst src off imm w1) (k : Nat) (a b c x : Value) : FM w bx ib ((((cs.set k a).set (k + 1) b).set (k + 2) c).set (k + 3) x) op nar reg size dst src off imm ((((w1.setCell ⟨bx, k, none⟩ a).setCell ⟨bx, k + 1, none⟩ b).setCell ⟨bx, k + 2, none⟩ c).setCell ⟨bx, k + 3, none⟩ x) :=
  (((h.set k a).set (k + 1) b).set (k + 2) c).set (k + 3) x
end
/-- The same, whatever the machine's cells are. -/
def FX (w : World) (bx ib : Nat) (op : Int) (nar reg : Bool) (size dst src off imm : Int) (w' : World) : Prop := ∃ cs, FM w bx ib cs op nar reg size dst src off imm w' ∧ cs.length = 471
section
variable {w w1 w2 : World} {bx ib : Nat} {cs : List Value} {op : Int} {nar reg : Bool} {size dst src off imm : Int}
theorem FX.next (h : FX w bx ib op nar reg size dst src off imm w1) (hb : Below w1.heap.size w1 w2) : FX w bx ib op nar reg size dst src off imm w2 := let ⟨cs, h1, h2⟩ := h; ⟨cs, h1.next hb, h2⟩
theorem FX.cells (h : FX w bx ib op nar reg size dst src off imm w1) : w1.cell? ⟨ib, 0, none⟩ = some (.int .i64 op) ∧ w1.cell? ⟨ib, 1, none⟩ = some (.bool nar) ∧ w1.cell? ⟨ib, 2, none⟩ = some (.bool reg) ∧ w1.cell? ⟨ib, 3, none⟩ = some (.int .i64 size) ∧
    w1.cell? ⟨ib, 4, none⟩ = some (.int .i64 dst) ∧ w1.cell? ⟨ib, 5, none⟩ = some (.int .i64 src) ∧ w1.cell? ⟨ib, 6, none⟩ = some (.int .i64 off) ∧ w1.cell? ⟨ib, 7, none⟩ = some (.int .i64 imm) := let ⟨cs, h1, h2⟩ := h; h1.cells
theorem FX.k47 (h : FX w bx ib op nar reg size dst src off imm w1) : w1.cell? ⟨ib, 4, none⟩ = some (.int .i64 dst) ∧ w1.cell? ⟨ib, 7, none⟩ = some (.int .i64 imm) ∧ FX w bx ib op nar reg size dst src off imm w1 := ⟨h.cells.2.2.2.2.1, h.cells.2.2.2.2.2.2.2, h⟩
theorem FX.n47 (h : w1.cell? ⟨ib, 4, none⟩ = some (.int .i64 dst) ∧ w1.cell? ⟨ib, 7, none⟩ = some (.int .i64 imm) ∧ FX w bx ib op nar reg size dst src off imm w1) (hb : Below w1.heap.size w1 w2) : w2.cell? ⟨ib, 4, none⟩ = some (.int .i64 dst) ∧ w2.cell? ⟨ib, 7, none⟩ = some (.int .i64 imm) ∧ FX w bx ib op nar reg size dst src off imm w2 := (h.2.2.next hb).k47
theorem FX.set4 (h : FX w bx ib op nar reg size dst src off imm w1) (k : Nat) (a b c x : Value) : FX w bx ib op nar reg size dst src off imm ((((w1.setCell ⟨bx, k, none⟩ a).setCell ⟨bx, k + 1, none⟩ b).setCell ⟨bx, k + 2, none⟩ c).setCell ⟨bx, k + 3, none⟩ x) :=
  let ⟨cs, h1, h2⟩ := h; ⟨_, h1.set4 k a b c x, by simp [h2]⟩
theorem FX.row4 (h : FX w bx ib op nar reg size dst src off imm w1) (d : Nat) (hd : d < 11) : ∃ a b c x, (w1.cell? ⟨bx, 423 + d * 4, none⟩ = some a ∧ w1.cell? ⟨bx, 423 + d * 4 + 1, none⟩ = some b ∧ w1.cell? ⟨bx, 423 + d * 4 + 2, none⟩ = some c ∧ w1.cell? ⟨bx, 423 + d * 4 + 3, none⟩ = some x) ∧
    w1.frozen? ⟨bx, 423 + d * 4, none⟩ = false ∧ w1.frozen? ⟨bx, 423 + d * 4 + 1, none⟩ = false ∧ w1.frozen? ⟨bx, 423 + d * 4 + 2, none⟩ = false ∧ w1.frozen? ⟨bx, 423 + d * 4 + 3, none⟩ = false := let ⟨cs, h1, h2⟩ := h; h1.row4 h2 d hd
end
section
variable {w0 w1 w2 : World} {bx ib : Nat} {cs : List Value} {op : Int} {nar reg : Bool} {size dst src off imm : Int} {d : Nat} {k t o x : Int}
theorem FM.putx (h : FM w0 bx ib cs op nar reg size dst src off imm w1) {q : Nat} (h1 : q ≠ bx) (h2 : q ≠ ib) (hq : w0.heap.size ≤ q) (i : Nat) (x : Value) : FM w0 bx ib cs op nar reg size dst src off imm (w1.setCell ⟨q, i, none⟩ x) :=
  ⟨h.mach.other _ _ (Ne.symm h1), h.ins.other _ _ (Ne.symm h2), ⟨h.mod.os, h.mod.tape, h.mod.output, by simpa [World.setCell] using h.mod.size, fun k hk hn => (Below.heap_setCell _ _ _ _ (by show k ≠ q; omega)).trans (h.mod.block k hk hn)⟩, h.ne⟩
theorem FM.k12 (hu : RegC cs d ⟨k, t, o, x⟩) (h : FM w0 bx ib cs op nar reg size dst src off imm w1) : (w1.cell? ⟨ib, 0, none⟩ = some (.int .i64 op) ∧ w1.cell? ⟨ib, 1, none⟩ = some (.bool nar) ∧ w1.cell? ⟨ib, 2, none⟩ = some (.bool reg) ∧ w1.cell? ⟨ib, 3, none⟩ = some (.int .i64 size) ∧ w1.cell? ⟨ib, 4, none⟩ = some (.int .i64 dst) ∧ w1.cell? ⟨ib, 5, none⟩ = some (.int .i64 src) ∧ w1.cell? ⟨ib, 6, none⟩ = some (.int .i64 off) ∧ w1.cell? ⟨ib, 7, none⟩ = some (.int .i64 imm)) ∧ (w1.cell? ⟨bx, 423 + d * 4, none⟩ = some (.int .i64 k) ∧ w1.cell? ⟨bx, 423 + d * 4 + 1, none⟩ = some (.int .i64 t) ∧ w1.cell? ⟨bx, 423 + d * 4 + 2, none⟩ = some (.int .i64 o) ∧ w1.cell? ⟨bx, 423 + d * 4 + 3, none⟩ = some (.int .i64 x)) ∧ FM w0 bx ib cs op nar reg size dst src off imm w1 := ⟨h.cells, hu.row h.mach, h⟩
theorem FM.n12 (hu : RegC cs d ⟨k, t, o, x⟩) (h : (w1.cell? ⟨ib, 0, none⟩ = some (.int .i64 op) ∧ w1.cell? ⟨ib, 1, none⟩ = some (.bool nar) ∧ w1.cell? ⟨ib, 2, none⟩ = some (.bool reg) ∧ w1.cell? ⟨ib, 3, none⟩ = some (.int .i64 size) ∧ w1.cell? ⟨ib, 4, none⟩ = some (.int .i64 dst) ∧ w1.cell? ⟨ib, 5, none⟩ = some (.int .i64 src) ∧ w1.cell? ⟨ib, 6, none⟩ = some (.int .i64 off) ∧ w1.cell? ⟨ib, 7, none⟩ = some (.int .i64 imm)) ∧ (w1.cell? ⟨bx, 423 + d * 4, none⟩ = some (.int .i64 k) ∧ w1.cell? ⟨bx, 423 + d * 4 + 1, none⟩ = some (.int .i64 t) ∧ w1.cell? ⟨bx, 423 + d * 4 + 2, none⟩ = some (.int .i64 o) ∧ w1.cell? ⟨bx, 423 + d * 4 + 3, none⟩ = some (.int .i64 x)) ∧ FM w0 bx ib cs op nar reg size dst src off imm w1) (hb : Below w1.heap.size w1 w2) : (w2.cell? ⟨ib, 0, none⟩ = some (.int .i64 op) ∧ w2.cell? ⟨ib, 1, none⟩ = some (.bool nar) ∧ w2.cell? ⟨ib, 2, none⟩ = some (.bool reg) ∧ w2.cell? ⟨ib, 3, none⟩ = some (.int .i64 size) ∧ w2.cell? ⟨ib, 4, none⟩ = some (.int .i64 dst) ∧ w2.cell? ⟨ib, 5, none⟩ = some (.int .i64 src) ∧ w2.cell? ⟨ib, 6, none⟩ = some (.int .i64 off) ∧ w2.cell? ⟨ib, 7, none⟩ = some (.int .i64 imm)) ∧ (w2.cell? ⟨bx, 423 + d * 4, none⟩ = some (.int .i64 k) ∧ w2.cell? ⟨bx, 423 + d * 4 + 1, none⟩ = some (.int .i64 t) ∧ w2.cell? ⟨bx, 423 + d * 4 + 2, none⟩ = some (.int .i64 o) ∧ w2.cell? ⟨bx, 423 + d * 4 + 3, none⟩ = some (.int .i64 x)) ∧ FM w0 bx ib cs op nar reg size dst src off imm w2 := (h.2.2.next hb).k12 hu
theorem FM.p12 (hu : RegC cs d ⟨k, t, o, x⟩) (h : (w1.cell? ⟨ib, 0, none⟩ = some (.int .i64 op) ∧ w1.cell? ⟨ib, 1, none⟩ = some (.bool nar) ∧ w1.cell? ⟨ib, 2, none⟩ = some (.bool reg) ∧ w1.cell? ⟨ib, 3, none⟩ = some (.int .i64 size) ∧ w1.cell? ⟨ib, 4, none⟩ = some (.int .i64 dst) ∧ w1.cell? ⟨ib, 5, none⟩ = some (.int .i64 src) ∧ w1.cell? ⟨ib, 6, none⟩ = some (.int .i64 off) ∧ w1.cell? ⟨ib, 7, none⟩ = some (.int .i64 imm)) ∧ (w1.cell? ⟨bx, 423 + d * 4, none⟩ = some (.int .i64 k) ∧ w1.cell? ⟨bx, 423 + d * 4 + 1, none⟩ = some (.int .i64 t) ∧ w1.cell? ⟨bx, 423 + d * 4 + 2, none⟩ = some (.int .i64 o) ∧ w1.cell? ⟨bx, 423 + d * 4 + 3, none⟩ = some (.int .i64 x)) ∧ FM w0 bx ib cs op nar reg size dst src off imm w1) {q : Nat} (h1 : q ≠ bx) (h2 : q ≠ ib) (hq : w0.heap.size ≤ q) (i : Nat) (y : Value) : ((w1.setCell ⟨q, i, none⟩ y).cell? ⟨ib, 0, none⟩ = some (.int .i64 op) ∧ (w1.setCell ⟨q, i, none⟩ y).cell? ⟨ib, 1, none⟩ = some (.bool nar) ∧ (w1.setCell ⟨q, i, none⟩ y).cell? ⟨ib, 2, none⟩ = some (.bool reg) ∧ (w1.setCell ⟨q, i, none⟩ y).cell? ⟨ib, 3, none⟩ = some (.int .i64 size) ∧ (w1.setCell ⟨q, i, none⟩ y).cell? ⟨ib, 4, none⟩ = some (.int .i64 dst) ∧ (w1.setCell ⟨q, i, none⟩ y).cell? ⟨ib, 5, none⟩ = some (.int .i64 src) ∧ (w1.setCell ⟨q, i, none⟩ y).cell? ⟨ib, 6, none⟩ = some (.int .i64 off) ∧ (w1.setCell ⟨q, i, none⟩ y).cell? ⟨ib, 7, none⟩ = some (.int .i64 imm)) ∧ ((w1.setCell ⟨q, i, none⟩ y).cell? ⟨bx, 423 + d * 4, none⟩ = some (.int .i64 k) ∧ (w1.setCell ⟨q, i, none⟩ y).cell? ⟨bx, 423 + d * 4 + 1, none⟩ = some (.int .i64 t) ∧ (w1.setCell ⟨q, i, none⟩ y).cell? ⟨bx, 423 + d * 4 + 2, none⟩ = some (.int .i64 o) ∧ (w1.setCell ⟨q, i, none⟩ y).cell? ⟨bx, 423 + d * 4 + 3, none⟩ = some (.int .i64 x)) ∧ FM w0 bx ib cs op nar reg size dst src off imm (w1.setCell ⟨q, i, none⟩ y) := (h.2.2.putx h1 h2 hq i y).k12 hu
theorem FM.q12 (hu : RegC cs d ⟨k, t, o, x⟩) (h : (w1.cell? ⟨ib, 0, none⟩ = some (.int .i64 op) ∧ w1.cell? ⟨ib, 1, none⟩ = some (.bool nar) ∧ w1.cell? ⟨ib, 2, none⟩ = some (.bool reg) ∧ w1.cell? ⟨ib, 3, none⟩ = some (.int .i64 size) ∧ w1.cell? ⟨ib, 4, none⟩ = some (.int .i64 dst) ∧ w1.cell? ⟨ib, 5, none⟩ = some (.int .i64 src) ∧ w1.cell? ⟨ib, 6, none⟩ = some (.int .i64 off) ∧ w1.cell? ⟨ib, 7, none⟩ = some (.int .i64 imm)) ∧ (w1.cell? ⟨bx, 423 + d * 4, none⟩ = some (.int .i64 k) ∧ w1.cell? ⟨bx, 423 + d * 4 + 1, none⟩ = some (.int .i64 t) ∧ w1.cell? ⟨bx, 423 + d * 4 + 2, none⟩ = some (.int .i64 o) ∧ w1.cell? ⟨bx, 423 + d * 4 + 3, none⟩ = some (.int .i64 x)) ∧ FM w0 bx ib cs op nar reg size dst src off imm w1) {q : Nat} (h1 : q ≠ bx) (h2 : q ≠ ib) (hq : w0.heap.size ≤ q) (x0 x1 x2 x3 : Value) : (((((w1.setCell ⟨q, 0, none⟩ x0).setCell ⟨q, 1, none⟩ x1).setCell ⟨q, 2, none⟩ x2).setCell ⟨q, 3, none⟩ x3).cell? ⟨ib, 0, none⟩ = some (.int .i64 op) ∧ ((((w1.setCell ⟨q, 0, none⟩ x0).setCell ⟨q, 1, none⟩ x1).setCell ⟨q, 2, none⟩ x2).setCell ⟨q, 3, none⟩ x3).cell? ⟨ib, 1, none⟩ = some (.bool nar) ∧ ((((w1.setCell ⟨q, 0, none⟩ x0).setCell ⟨q, 1, none⟩ x1).setCell ⟨q, 2, none⟩ x2).setCell ⟨q, 3, none⟩ x3).cell? ⟨ib, 2, none⟩ = some (.bool reg) ∧ ((((w1.setCell ⟨q, 0, none⟩ x0).setCell ⟨q, 1, none⟩ x1).setCell ⟨q, 2, none⟩ x2).setCell ⟨q, 3, none⟩ x3).cell? ⟨ib, 3, none⟩ = some (.int .i64 size) ∧ ((((w1.setCell ⟨q, 0, none⟩ x0).setCell ⟨q, 1, none⟩ x1).setCell ⟨q, 2, none⟩ x2).setCell ⟨q, 3, none⟩ x3).cell? ⟨ib, 4, none⟩ = some (.int .i64 dst) ∧ ((((w1.setCell ⟨q, 0, none⟩ x0).setCell ⟨q, 1, none⟩ x1).setCell ⟨q, 2, none⟩ x2).setCell ⟨q, 3, none⟩ x3).cell? ⟨ib, 5, none⟩ = some (.int .i64 src) ∧ ((((w1.setCell ⟨q, 0, none⟩ x0).setCell ⟨q, 1, none⟩ x1).setCell ⟨q, 2, none⟩ x2).setCell ⟨q, 3, none⟩ x3).cell? ⟨ib, 6, none⟩ = some (.int .i64 off) ∧ ((((w1.setCell ⟨q, 0, none⟩ x0).setCell ⟨q, 1, none⟩ x1).setCell ⟨q, 2, none⟩ x2).setCell ⟨q, 3, none⟩ x3).cell? ⟨ib, 7, none⟩ = some (.int .i64 imm)) ∧ (((((w1.setCell ⟨q, 0, none⟩ x0).setCell ⟨q, 1, none⟩ x1).setCell ⟨q, 2, none⟩ x2).setCell ⟨q, 3, none⟩ x3).cell? ⟨bx, 423 + d * 4, none⟩ = some (.int .i64 k) ∧ ((((w1.setCell ⟨q, 0, none⟩ x0).setCell ⟨q, 1, none⟩ x1).setCell ⟨q, 2, none⟩ x2).setCell ⟨q, 3, none⟩ x3).cell? ⟨bx, 423 + d * 4 + 1, none⟩ = some (.int .i64 t) ∧ ((((w1.setCell ⟨q, 0, none⟩ x0).setCell ⟨q, 1, none⟩ x1).setCell ⟨q, 2, none⟩ x2).setCell ⟨q, 3, none⟩ x3).cell? ⟨bx, 423 + d * 4 + 2, none⟩ = some (.int .i64 o) ∧ ((((w1.setCell ⟨q, 0, none⟩ x0).setCell ⟨q, 1, none⟩ x1).setCell ⟨q, 2, none⟩ x2).setCell ⟨q, 3, none⟩ x3).cell? ⟨bx, 423 + d * 4 + 3, none⟩ = some (.int .i64 x)) ∧ FM w0 bx ib cs op nar reg size dst src off imm ((((w1.setCell ⟨q, 0, none⟩ x0).setCell ⟨q, 1, none⟩ x1).setCell ⟨q, 2, none⟩ x2).setCell ⟨q, 3, none⟩ x3) :=
  ((((h.2.2.putx h1 h2 hq 0 x0).putx h1 h2 hq 1 x1).putx h1 h2 hq 2 x2).putx h1 h2 hq 3 x3).k12 hu
end
theorem box2 (w : World) (o : Obj) (cs : List Value) (e : TypeId) : Row ((w.alloc o).alloc (.cells cs.toArray e)) (w.heap.size + 1) e cs := by
  have h := Row.made (w.alloc o) cs e
  rw [show (w.alloc o).heap.size = w.heap.size + 1 by simp] at h
  exact h
theorem Row.four {w : World} {b : Nat} {e : TypeId} {a1 a2 a3 a4 : Value} (h : Row w b e [a1, a2, a3, a4]) : (w.cell? ⟨b, 0, none⟩ = some a1 ∧ w.cell? ⟨b, 1, none⟩ = some a2 ∧ w.cell? ⟨b, 2, none⟩ = some a3 ∧ w.cell? ⟨b, 3, none⟩ = some a4) ∧
    w.frozen? ⟨b, 0, none⟩ = false ∧ w.frozen? ⟨b, 1, none⟩ = false ∧ w.frozen? ⟨b, 2, none⟩ = false ∧ w.frozen? ⟨b, 3, none⟩ = false :=
  ⟨⟨by rw [h.cell]; rfl, by rw [h.cell]; rfl, by rw [h.cell]; rfl, by rw [h.cell]; rfl⟩, h.free _, h.free _, h.free _, h.free _⟩
theorem Row.put4 {w : World} {b : Nat} {e : TypeId} {a1 a2 a3 a4 : Value} (h : Row w b e [a1, a2, a3, a4]) (b1 b2 b3 b4 : Value) :
    Row ((((w.setCell ⟨b, 0, none⟩ b1).setCell ⟨b, 1, none⟩ b2).setCell ⟨b, 2, none⟩ b3).setCell ⟨b, 3, none⟩ b4) b e [b1, b2, b3, b4] := (((h.put 0 b1).put 1 b2).put 2 b3).put 3 b4
theorem bel_put4 {B b : Nat} {w w' : World} (h : Below B w w') (hb : B ≤ b) (i : Nat) (b1 b2 b3 b4 : Value) :
    Below B w ((((w'.setCell ⟨b, i, none⟩ b1).setCell ⟨b, i + 1, none⟩ b2).setCell ⟨b, i + 2, none⟩ b3).setCell ⟨b, i + 3, none⟩ b4) := by
  refine Below.setCell (Below.setCell (Below.setCell (Below.setCell h ?_ _) ?_ _) ?_ _) ?_ _ <;> exact hb
theorem made1 (w1 : World) : Row (w1.alloc (.cells #[.int .i64 0, .int .i64 0, .int .i64 0, .int .i64 0] 76)).drew w1.heap.size 76 [.int .i64 0, .int .i64 0, .int .i64 0, .int .i64 0] := by
  have h := Row.made w1 [.int .i64 0, .int .i64 0, .int .i64 0, .int .i64 0] 76
  exact h.below (Below.refl _ _).drew h.lt
theorem made12 (w1 : World) : Row ((w1.alloc (.cells #[.int .i64 0, .int .i64 0, .int .i64 0, .int .i64 0] 76)).alloc (.cells #[.int .i64 0, .int .i64 0, .int .i64 0, .int .i64 0] 76)).drew w1.heap.size 76 [.int .i64 0, .int .i64 0, .int .i64 0, .int .i64 0] := by
  have h := (Row.made w1 [.int .i64 0, .int .i64 0, .int .i64 0, .int .i64 0] 76).alloc (.cells #[.int .i64 0, .int .i64 0, .int .i64 0, .int .i64 0] 76)
  exact h.below (Below.refl _ _).drew h.lt
theorem made2 (w1 : World) : Row ((w1.alloc (.cells #[.int .i64 0, .int .i64 0, .int .i64 0, .int .i64 0] 76)).alloc (.cells #[.int .i64 0, .int .i64 0, .int .i64 0, .int .i64 0] 76)).drew (w1.heap.size + 1) 76 [.int .i64 0, .int .i64 0, .int .i64 0, .int .i64 0] := by
  have h := box2 w1 (.cells #[.int .i64 0, .int .i64 0, .int .i64 0, .int .i64 0] 76) [.int .i64 0, .int .i64 0, .int .i64 0, .int .i64 0] 76
  exact h.below (Below.refl _ _).drew h.lt
theorem after1 {w1 w' : World} (hb : Below (w1.alloc (.cells #[.int .i64 0, .int .i64 0, .int .i64 0, .int .i64 0] 76)).drew.heap.size (w1.alloc (.cells #[.int .i64 0, .int .i64 0, .int .i64 0, .int .i64 0] 76)).drew w') : w1.heap.size < w'.heap.size ∧ (w'.cell? ⟨w1.heap.size, 0, none⟩ = some (.int .i64 0) ∧ w'.cell? ⟨w1.heap.size, 1, none⟩ = some (.int .i64 0) ∧ w'.cell? ⟨w1.heap.size, 2, none⟩ = some (.int .i64 0) ∧ w'.cell? ⟨w1.heap.size, 3, none⟩ = some (.int .i64 0)) ∧ w'.frozen? ⟨w1.heap.size, 0, none⟩ = false ∧ w'.frozen? ⟨w1.heap.size, 1, none⟩ = false ∧ w'.frozen? ⟨w1.heap.size, 2, none⟩ = false ∧ w'.frozen? ⟨w1.heap.size, 3, none⟩ = false := ⟨((made1 w1).below hb (made1 w1).lt).lt, ((made1 w1).below hb (made1 w1).lt).four⟩
theorem after2 {w1 w' : World} (hb : Below ((w1.alloc (.cells #[.int .i64 0, .int .i64 0, .int .i64 0, .int .i64 0] 76)).alloc (.cells #[.int .i64 0, .int .i64 0, .int .i64 0, .int .i64 0] 76)).drew.heap.size ((w1.alloc (.cells #[.int .i64 0, .int .i64 0, .int .i64 0, .int .i64 0] 76)).alloc (.cells #[.int .i64 0, .int .i64 0, .int .i64 0, .int .i64 0] 76)).drew w') : w1.heap.size < w'.heap.size ∧ w1.heap.size + 1 < w'.heap.size ∧ ((w'.cell? ⟨w1.heap.size, 0, none⟩ = some (.int .i64 0) ∧ w'.cell? ⟨w1.heap.size, 1, none⟩ = some (.int .i64 0) ∧ w'.cell? ⟨w1.heap.size, 2, none⟩ = some (.int .i64 0) ∧ w'.cell? ⟨w1.heap.size, 3, none⟩ = some (.int .i64 0)) ∧ w'.frozen? ⟨w1.heap.size, 0, none⟩ = false ∧ w'.frozen? ⟨w1.heap.size, 1, none⟩ = false ∧ w'.frozen? ⟨w1.heap.size, 2, none⟩ = false ∧ w'.frozen? ⟨w1.heap.size, 3, none⟩ = false) ∧ (w'.cell? ⟨(w1.heap.size + 1), 0, none⟩ = some (.int .i64 0) ∧ w'.cell? ⟨(w1.heap.size + 1), 1, none⟩ = some (.int .i64 0) ∧ w'.cell? ⟨(w1.heap.size + 1), 2, none⟩ = some (.int .i64 0) ∧ w'.cell? ⟨(w1.heap.size + 1), 3, none⟩ = some (.int .i64 0)) ∧ w'.frozen? ⟨(w1.heap.size + 1), 0, none⟩ = false ∧ w'.frozen? ⟨(w1.heap.size + 1), 1, none⟩ = false ∧ w'.frozen? ⟨(w1.heap.size + 1), 2, none⟩ = false ∧ w'.frozen? ⟨(w1.heap.size + 1), 3, none⟩ = false := ⟨((made12 w1).below hb (made12 w1).lt).lt, ((made2 w1).below hb (made2 w1).lt).lt, ((made12 w1).below hb (made12 w1).lt).four, ((made2 w1).below hb (made2 w1).lt).four⟩
/-- Behind the first region of arithmetic and branch: two boxes with the operands. -/
structure FA (w0 : World) (bx ib ab bb : Nat) (cs : List Value) (op : Int) (nar reg : Bool) (size dst src off imm : Int) (a b : List Value) (w1 : World) : Prop where
  fm : FM w0 bx ib cs op nar reg size dst src off imm w1
  ra : Row w1 ab 76 a
  rb : Row w1 bb 76 b
  la : w0.heap.size ≤ ab
  lb : w0.heap.size ≤ bb
  nai : ab ≠ ib
  nbi : bb ≠ ib
  nab : ab ≠ bb
  nax : ab ≠ bx
  nbx : bb ≠ bx
section
variable {w0 w1 w2 : World} {bx ib ab bb n : Nat} {cs : List Value} {op : Int} {nar reg : Bool} {size dst src off imm : Int} {a b : List Value}
theorem FA.next (h : FA w0 bx ib ab bb cs op nar reg size dst src off imm a b w1) (hb : Below w1.heap.size w1 w2) : FA w0 bx ib ab bb cs op nar reg size dst src off imm a b w2 :=
  ⟨h.fm.next hb, h.ra.below hb h.ra.lt, h.rb.below hb h.rb.lt, h.la, h.lb, h.nai, h.nbi, h.nab, h.nax, h.nbx⟩
theorem FM.box (h : FM w0 bx ib cs op nar reg size dst src off imm w1) (o : Obj) : FM w0 bx ib cs op nar reg size dst src off imm (w1.alloc o) := h.next ((Below.refl _ _).alloc (Nat.le_refl _) o)
theorem FM.put4o (h : FM w0 bx ib cs op nar reg size dst src off imm w1) {q : Nat} (h1 : q ≠ bx) (h2 : q ≠ ib) (hq : w0.heap.size ≤ q) (x0 x1 x2 x3 : Value) :
    FM w0 bx ib cs op nar reg size dst src off imm ((((w1.setCell ⟨q, 0, none⟩ x0).setCell ⟨q, 1, none⟩ x1).setCell ⟨q, 2, none⟩ x2).setCell ⟨q, 3, none⟩ x3) := (((h.putx h1 h2 hq 0 x0).putx h1 h2 hq 1 x1).putx h1 h2 hq 2 x2).putx h1 h2 hq 3 x3
theorem Row.put4o {q b : Nat} {e : TypeId} {xs : List Value} (h : Row w1 b e xs) (hn : b ≠ q) (x0 x1 x2 x3 : Value) :
    Row ((((w1.setCell ⟨q, 0, none⟩ x0).setCell ⟨q, 1, none⟩ x1).setCell ⟨q, 2, none⟩ x2).setCell ⟨q, 3, none⟩ x3) b e xs := (((h.other ⟨q, 0, none⟩ x0 hn).other ⟨q, 1, none⟩ x1 hn).other ⟨q, 2, none⟩ x2 hn).other ⟨q, 3, none⟩ x3 hn
theorem fa_new (h : FM w0 bx ib cs op nar reg size dst src off imm w1) (a b : List Value) : FA w0 bx ib w1.heap.size (w1.heap.size + 1) cs op nar reg size dst src off imm a b ((w1.alloc (.cells a.toArray 76)).alloc (.cells b.toArray 76)) := by
  have h1 := h.mach.lt
  have h2 := h.ins.lt
  have h3 := h.mod.size
  exact ⟨(h.box _).box _, (Row.made w1 a _).alloc _, box2 w1 _ b _, h3, by omega, by omega, by omega, by omega, by omega, by omega⟩
theorem FA.swap (h : FA w0 bx ib ab bb cs op nar reg size dst src off imm a b w1) : FA w0 bx ib bb ab cs op nar reg size dst src off imm b a w1 := ⟨h.fm, h.rb, h.ra, h.lb, h.la, h.nbi, h.nai, Ne.symm h.nab, h.nbx, h.nax⟩
theorem fa_one (h : FM w0 bx ib cs op nar reg size dst src off imm w1) {y0 y1 y2 y3 : Value} (hr : Row w1 n 76 [y0, y1, y2, y3]) (h1 : n ≠ bx) (h2 : n ≠ ib) (h3 : w0.heap.size ≤ n) (x0 x1 x2 x3 : Value) (b : List Value) :
    FA w0 bx ib n w1.heap.size cs op nar reg size dst src off imm [x0, x1, x2, x3] b (((((w1.setCell ⟨n, 0, none⟩ x0).setCell ⟨n, 1, none⟩ x1).setCell ⟨n, 2, none⟩ x2).setCell ⟨n, 3, none⟩ x3).alloc (.cells b.toArray 76)) := by
  have k1 := h.mach.lt
  have k2 := h.ins.lt
  have k3 := h.mod.size
  have k4 := hr.lt
  have hs : ((((w1.setCell ⟨n, 0, none⟩ x0).setCell ⟨n, 1, none⟩ x1).setCell ⟨n, 2, none⟩ x2).setCell ⟨n, 3, none⟩ x3).heap.size = w1.heap.size := by simp [World.setCell]
  have hm := Row.made ((((w1.setCell ⟨n, 0, none⟩ x0).setCell ⟨n, 1, none⟩ x1).setCell ⟨n, 2, none⟩ x2).setCell ⟨n, 3, none⟩ x3) b 76
  rw [hs] at hm
  exact ⟨(h.put4o h1 h2 h3 x0 x1 x2 x3).box _, (hr.put4 x0 x1 x2 x3).alloc _, hm, h3, k3, h2, by omega, by omega, h1, by omega⟩
theorem fa_two (h : FM w0 bx ib cs op nar reg size dst src off imm w1) {m : Nat} {y0 y1 y2 y3 z0 z1 z2 z3 : Value} (hr : Row w1 n 76 [y0, y1, y2, y3]) (hr' : Row w1 m 76 [z0, z1, z2, z3]) (h1 : n ≠ bx) (h2 : n ≠ ib) (h3 : w0.heap.size ≤ n) (h1' : m ≠ bx) (h2' : m ≠ ib) (h3' : w0.heap.size ≤ m) (hnm : n ≠ m) (x0 x1 x2 x3 u0 u1 u2 u3 : Value) :
    FA w0 bx ib n m cs op nar reg size dst src off imm [x0, x1, x2, x3] [u0, u1, u2, u3] ((((((((w1.setCell ⟨n, 0, none⟩ x0).setCell ⟨n, 1, none⟩ x1).setCell ⟨n, 2, none⟩ x2).setCell ⟨n, 3, none⟩ x3).setCell ⟨m, 0, none⟩ u0).setCell ⟨m, 1, none⟩ u1).setCell ⟨m, 2, none⟩ u2).setCell ⟨m, 3, none⟩ u3) :=
  ⟨(h.put4o h1 h2 h3 x0 x1 x2 x3).put4o h1' h2' h3' u0 u1 u2 u3, (hr.put4 x0 x1 x2 x3).put4o hnm u0 u1 u2 u3, (hr'.put4o (Ne.symm hnm) x0 x1 x2 x3).put4 u0 u1 u2 u3, h3, h3', h2, h2', hnm, h1, h1'⟩
end
theorem FA.setb {w0 w1 : World} {bx ib ab bb : Nat} {cs : List Value} {op : Int} {nar reg : Bool} {size dst src off imm : Int} {a : List Value} {y0 y1 y2 y3 : Value} (h : FA w0 bx ib ab bb cs op nar reg size dst src off imm a [y0, y1, y2, y3] w1) (x0 x1 x2 x3 : Value) :
    FA w0 bx ib ab bb cs op nar reg size dst src off imm a [x0, x1, x2, x3] ((((w1.setCell ⟨bb, 0, none⟩ x0).setCell ⟨bb, 1, none⟩ x1).setCell ⟨bb, 2, none⟩ x2).setCell ⟨bb, 3, none⟩ x3) :=
  ⟨h.fm.put4o h.nbx h.nbi h.lb x0 x1 x2 x3, h.ra.put4o h.nab x0 x1 x2 x3, h.rb.put4 x0 x1 x2 x3, h.la, h.lb, h.nai, h.nbi, h.nab, h.nax, h.nbx⟩
theorem FA.seta {w0 w1 : World} {bx ib ab bb : Nat} {cs : List Value} {op : Int} {nar reg : Bool} {size dst src off imm : Int} {b : List Value} {y0 y1 y2 y3 : Value} (h : FA w0 bx ib ab bb cs op nar reg size dst src off imm [y0, y1, y2, y3] b w1) (x0 x1 x2 x3 : Value) :
    FA w0 bx ib ab bb cs op nar reg size dst src off imm [x0, x1, x2, x3] b ((((w1.setCell ⟨ab, 0, none⟩ x0).setCell ⟨ab, 1, none⟩ x1).setCell ⟨ab, 2, none⟩ x2).setCell ⟨ab, 3, none⟩ x3) :=
  ⟨h.fm.put4o h.nax h.nai h.la x0 x1 x2 x3, h.ra.put4 x0 x1 x2 x3, h.rb.put4o (Ne.symm h.nab) x0 x1 x2 x3, h.la, h.lb, h.nai, h.nbi, h.nab, h.nax, h.nbx⟩
def set4 (cs : List Value) (k : Nat) (a b c d : Value) : List Value := (((cs.set k a).set (k + 1) b).set (k + 2) c).set (k + 3) d
set_option maxRecDepth 100000 in
set_option maxHeartbeats 1600000 in
theorem num_of (x : Int) (w : World) : Calls Tryz.prog 86 #[.int .i64 x] w (Ret w (.agg #[.int .i64 1, .int .i64 0, .int .i64 0, .int .i64 x])) := by
  go_enter Tryz.func86, Tryz.ntmps86
  go_wp2
  exact bodyPost_ret (v := .agg #[.int .i64 1, .int .i64 0, .int .i64 0, .int .i64 x]) (by simp [results, Tryz.results86, go_sem]) rfl ⟨rfl, (Below.refl _ _).alloc (Nat.le_refl _) _⟩

/-- What a doer leaves that writes one register. -/
def Wrote (w : World) (bx : Nat) (cs : List Value) (by' er : Int) : Ending → World → Prop := fun e w' => e = .returned (.tuple #[.int .i64 by', .int .i64 er]) ∧ Mod w w' bx ∧ Row w' bx 146 cs
end Go.Proofs.YtbkcpepalicbjaaGreat
